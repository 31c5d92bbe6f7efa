/- What Records of the package record tells. What Find, Total, Step and Length of the package leap tell, in the words of plain lists. -/
import Derived.Test.YthoigncoojcanaaR25
import Derived.Test.YthoigncoojcanaaPAllx17
namespace Go.Proofs.Ythoigncoojcanaa.Pure
open Go.RowKit Go.Proofs.Ythoigncoojcanaa.PAll Go.Proofs.YthoigncoojcanaaW.PrintWords Go.Proofs.YthoigncoojcanaaW.PrintLast
set_option linter.unusedVariables false
set_option linter.unusedSimpArgs false
theorem recs_app : ∀ (a b : List LeapP.L) (n : Int), RecP.recs n (a ++ b) = RecP.recs n a ++ RecP.recs (RecP.tots n a) b := by
  intro a
  induction a with
  | nil => intro b n; rfl
  | cons x a ih => intro b n; simp only [List.cons_append, RecP.recs, RecP.tots, ih]
theorem tots_app : ∀ (a b : List LeapP.L) (n : Int), RecP.tots n (a ++ b) = RecP.tots (RecP.tots n a) b := by
  intro a
  induction a with
  | nil => intro b n; rfl
  | cons x a ih => intro b n; simp only [List.cons_append, RecP.tots, ih]
theorem records_loop (l : List S49) (has : Bool) (exp : Int) (R : LeapP.Right (l.map toL) has exp) (rest : List S49) : ∀ (pre : List S49) (k : Nat), l = pre ++ rest → rest.length < k →
    record_Records.l0 k ((RecP.recs 0 (pre.map toL)).map frR) (RecP.tots 0 (pre.map toL)) l (l.length : Int) (pre.length : Int) l has exp = some ((RecP.full (l.map toL) has exp).map frR, true) := by
  have st := RecP.good_steps R.1
  have hl := R.2.1
  rw [List.length_map] at hl
  induction rest with
  | nil =>
    intro pre k e hk
    obtain ⟨k, rfl⟩ : ∃ m, k = m + 1 := ⟨k - 1, by omega⟩
    have e : pre = l := by rw [e]; simp
    subst e
    have tb := RecP.tots_bd (pre.map toL) 0 st
    rw [List.length_map] at tb
    simp only [record_Records.l0]
    rw [if_neg (by omega)]
    unfold RecP.full
    have R3 := R.2.2
    unfold LeapP.badEnd at R3
    cases has with
    | true =>
      simp only [if_true] at R3 ⊢
      rw [if_pos (by rw [List.length_map, RecP.recs_len, List.length_map]; omega), w64 (by omega) (by omega)]
      simp [frR]
    | false => simp
  | cons x rest ih =>
    intro pre k e hk
    simp only [List.length_cons] at hk
    obtain ⟨k, rfl⟩ : ∃ m, k = m + 1 := ⟨k - 1, by omega⟩
    have hlen : l.length = pre.length + (rest.length + 1) := by rw [e]; simp
    have hr : rd_T49 l (pre.length : Int) = x := by rw [e]; exact rd_at pre rest x
    have hx := LeapP.good_mem _ _ R.1 (toL x) (List.mem_map_of_mem (by rw [e]; simp))
    have d0 : (toL x).day = x.f0 := rfl
    have d1 : (toL x).step = x.f1 := rfl
    rw [d0, d1] at hx
    have tb := RecP.tots_bd (pre.map toL) 0 (fun y hy => st y (by rw [e]; simp at hy ⊢; exact .inl hy))
    rw [List.length_map] at tb
    simp only [record_Records.l0]
    rw [if_pos (by omega), if_pos (by omega), if_pos (by omega), if_pos (by rw [List.length_map, RecP.recs_len, List.length_map]; omega), hr, mn_min]
    rw [w64 (n := x.f0 + 1) (by omega) (by omega), w64 (n := (x.f0 + 1) * 86400) (by omega) (by omega), w64 (n := (x.f0 + 1) * 86400 + RecP.tots 0 (pre.map toL)) (by omega) (by omega), w64 (n := (x.f0 + 1) * 86400 + RecP.tots 0 (pre.map toL) + min x.f1 0) (by omega) (by omega), w64 (n := RecP.tots 0 (pre.map toL) + x.f1) (by omega) (by omega), w64 (n := (pre.length : Int) + 1) (by omega) (by omega)]
    have := ih (pre ++ [x]) k (by rw [e]; simp) (by omega)
    simp only [List.map_append, List.map_cons, List.map_nil, recs_app, tots_app, RecP.recs, RecP.tots, List.length_append, List.length_cons, List.length_nil] at this
    rw [show ((pre.length : Int) + 1) = ((pre.length + (0 + 1) : Nat) : Int) by omega]
    exact this
theorem contains_law (l : List S49) (hl : l.length < 4611686018427387904) : api_Leap_63.f l 61 = some (l.any (fun y => y.f2)) := by
  unfold api_Leap_63.f
  rw [if_pos ⟨hl, rfl⟩]
theorem records_law (l : List S49) (has : Bool) (exp : Int) (hl : l.length ≤ 300) (k : Nat) (hk : 310 < k) : record_Records.f k l has exp = some (if okT l has exp = true then ((RecP.full (l.map toL) has exp).map frR, true) else ([], false)) := by
  obtain ⟨k, rfl⟩ : ∃ m, k = m + 1 := ⟨k - 1, by omega⟩
  unfold record_Records.f
  rw [right_law l has exp (by omega) (k + 1) (by omega)]
  simp only [Option.bind_some]
  unfold okT
  by_cases h : (LeapP.check (l.map toL) has exp).2 = 0
  · have R := (LeapP.check_right _ _ _).1 h
    rw [if_pos (by simp [h]), contains_law l (by omega)]
    simp only [Option.bind_some, record_Records.j0]
    cases ha : l.any (fun y => y.f2) with
    | true => simp
    | false =>
      rw [if_neg (by simp), if_pos (by simp [h])]
      exact records_loop l has exp R l [] k rfl (by omega)
  · rw [if_neg (by simp [h])]
    simp only [record_Records.j0]
    rw [if_pos trivial, if_neg (by simp [h])]
end Go.Proofs.Ythoigncoojcanaa.Pure
namespace Go.Proofs.Ythoigncoojcanaa.Pure
open Go.RowKit Go.Proofs.Ythoigncoojcanaa.PAll Go.Proofs.YthoigncoojcanaaW.PrintWords Go.Proofs.YthoigncoojcanaaW.PrintLast
set_option linter.unusedVariables false
set_option linter.unusedSimpArgs false
theorem count_cnt (l : List S49) (d : Int) : l.countP (fun y => !decide (d ≤ y.f0)) = LeapP.cnt (l.map toL) d := by
  induction l with
  | nil => rfl
  | cons x l ih =>
    simp only [List.map_cons, LeapP.cnt, List.countP_cons, ih]
    have : (toL x).day = x.f0 := rfl
    rw [this]
    by_cases h : x.f0 < d
    · rw [if_pos h, if_pos (by simp; omega)]; omega
    · rw [if_neg h, if_neg (by simp; omega)]; omega
theorem asc_of (l : List S49) (a : Int) (h : LeapP.Good a (l.map toL)) : leap_Find.Asc l := by
  have := LeapP.good_asc _ _ h
  rw [List.pairwise_map] at this
  unfold leap_Find.Asc
  exact this.imp (fun {x y} h => by have : x.f0 < y.f0 := h; omega)
theorem find_law (l : List S49) (has : Bool) (exp d : Int) (a : Int) (h : LeapP.Good a (l.map toL)) (hl : l.length < 4611686018427387904) : leap_Find.f l has exp d = some ((LeapP.cnt (l.map toL) d : Nat) : Int) := by
  unfold leap_Find.f
  rw [if_pos ⟨hl, asc_of l a h⟩, count_cnt]
theorem total_loop (y : List S49) (hl : y.length ≤ 300) (hw : ∀ x ∈ y, x.f1 = 1 ∨ x.f1 = -1) (rest : List S49) : ∀ (pre : List S49) (acc : Int) (k : Nat), y = pre ++ rest → -300 ≤ acc + rest.length → -(pre.length : Int) ≤ acc → acc ≤ pre.length → rest.length < k →
    leap_Total.l0 k acc y (y.length : Int) (pre.length : Int) = some (acc + (rest.map (·.f1)).sum) := by
  induction rest with
  | nil =>
    intro pre acc k e _ _ _ hk
    obtain ⟨k, rfl⟩ : ∃ m, k = m + 1 := ⟨k - 1, by omega⟩
    have : y.length = pre.length := by rw [e]; simp
    simp only [leap_Total.l0]
    rw [if_neg (by omega)]; simp
  | cons x rest ih =>
    intro pre acc k e b0 b1 b2 hk
    simp only [List.length_cons] at hk
    obtain ⟨k, rfl⟩ : ∃ m, k = m + 1 := ⟨k - 1, by omega⟩
    have hlen : y.length = pre.length + (rest.length + 1) := by rw [e]; simp
    have hr : rd_T49 y (pre.length : Int) = x := by rw [e]; exact rd_at pre rest x
    have hx := hw x (by rw [e]; simp)
    simp only [leap_Total.l0]
    rw [if_pos (by omega), if_pos (by omega), if_pos (by omega), hr, w64 (n := acc + x.f1) (by omega) (by omega), w64 (n := (pre.length : Int) + 1) (by omega) (by omega)]
    have := ih (pre ++ [x]) (acc + x.f1) k (by rw [e]; simp) (by simp only [List.length_cons] at b0; omega) (by simp; omega) (by simp; omega) (by omega)
    simp only [List.length_append, List.length_cons, List.length_nil] at this
    rw [show ((pre.length : Int) + 1) = ((pre.length + (0 + 1) : Nat) : Int) by omega, this]
    simp; omega
theorem sum_take : ∀ (l : List S49) (a d : Int), LeapP.Good a (l.map toL) → ((l.take (LeapP.cnt (l.map toL) d)).map (·.f1)).sum = LeapP.tot (l.map toL) d := by
  intro l
  induction l with
  | nil => intro a d _; rfl
  | cons x l ih =>
    intro a d h
    have h6 := h.2.2.2.2.2
    simp only [List.map_cons, LeapP.cnt, LeapP.tot]
    by_cases h1 : (toL x).day < d
    · rw [if_pos h1, if_pos h1, Nat.add_comm, List.take_succ_cons, List.map_cons, List.sum_cons, ih _ d h6]; rfl
    · obtain ⟨c0, t0⟩ := LeapP.good_above _ _ d h6 (by omega)
      rw [if_neg h1, if_neg h1, c0, t0]; simp
theorem total_law (l : List S49) (has : Bool) (exp d : Int) (a : Int) (h : LeapP.Good a (l.map toL)) (hl : l.length ≤ 200) (k : Nat) (hk : 200 < k) : leap_Total.f k l has exp d = some (LeapP.tot (l.map toL) d) := by
  unfold leap_Total.f
  rw [find_law l has exp d a h (by omega)]
  simp only [Option.bind_some]
  have c := LeapP.cnt_le (l.map toL) d
  rw [List.length_map] at c
  rw [if_pos (by omega), if_pos (by omega), Int.toNat_natCast]
  have hm : ∀ x ∈ l.take (LeapP.cnt (l.map toL) d), x.f1 = 1 ∨ x.f1 = -1 := by
    intro x hx
    have := LeapP.good_mem _ _ h (toL x) (List.mem_map_of_mem (List.mem_of_mem_take hx))
    exact this.2.2.2.1
  have hlen : (l.take (LeapP.cnt (l.map toL) d)).length ≤ 200 := by rw [List.length_take]; omega
  have := total_loop (l.take (LeapP.cnt (l.map toL) d)) (by omega) hm (l.take (LeapP.cnt (l.map toL) d)) [] 0 k rfl (by omega) (by simp) (by simp) (by omega)
  simp only [List.length_nil] at this
  rw [show ((0 : Nat) : Int) = 0 from rfl] at this
  rw [this, sum_take l a d h]; simp
theorem step_law (l : List S49) (has : Bool) (exp d : Int) (a : Int) (h : LeapP.Good a (l.map toL)) (hl : l.length < 4611686018427387904) : leap_Step.f l has exp d = some (LeapP.stp (l.map toL) d) := by
  unfold leap_Step.f
  rw [find_law l has exp d a h hl, LeapP.stp_at _ _ d h]
  simp only [Option.bind_some]
  have c := LeapP.cnt_le (l.map toL) d
  rw [List.length_map] at c
  by_cases h1 : LeapP.cnt (l.map toL) d < l.length
  · rw [if_pos (by omega), if_pos (by omega)]
    have e : (l.map toL)[LeapP.cnt (l.map toL) d]? = some (toL (rd_T49 l ((LeapP.cnt (l.map toL) d : Nat) : Int))) := by
      unfold rd_T49
      rw [List.getElem?_map, Int.toNat_natCast]
      simp [h1]
    rw [e]
    simp only
    by_cases h2 : (rd_T49 l ((LeapP.cnt (l.map toL) d : Nat) : Int)).f0 = d
    · rw [if_pos h2]; simp [toL, h2]
    · rw [if_neg h2]; simp [toL, h2]
  · rw [if_neg (by omega), List.getElem?_eq_none (by simp; omega)]
theorem length_law (l : List S49) (has : Bool) (exp d : Int) (a : Int) (h : LeapP.Good a (l.map toL)) (hl : l.length < 4611686018427387904) : leap_Length.f l has exp d = some (86400 + LeapP.stp (l.map toL) d) := by
  unfold leap_Length.f
  rw [step_law l has exp d a h hl]
  have := LeapP.stp_mem _ d a h
  simp only [Option.bind_some]
  rw [w64 (by omega) (by omega)]
end Go.Proofs.Ythoigncoojcanaa.Pure
