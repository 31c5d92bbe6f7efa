/- What Records of the package record tells. -/
import Derived.Test.YthecldgopjaogaaRecA
import Derived.Test.YthecldgopjaogaaPAllx12
namespace Go.Proofs.Ythecldgopjaogaa.Pure
open Go.RowKit Go.Proofs.Ythecldgopjaogaa.PAll Go.Proofs.YthecldgopjaogaaW.PrintWords Go.Proofs.YthecldgopjaogaaW.PrintLast
set_option linter.unusedVariables false
set_option linter.unusedSimpArgs false
theorem recs_app : ∀ (a b : List LeapP.L) (n : Int), RecP.recs n (a ++ b) = RecP.recs n a ++ RecP.recs (RecP.tots n a) b := by
  intro a
  induction a with
  | nil => intro b n; rfl
  | cons x a ih => intro b n; simp only [List.cons_append, RecP.recs, RecP.tots, ih]
theorem tots_app : ∀ (a b : List LeapP.L) (n : Int), RecP.tots n (a ++ b) = RecP.tots (RecP.tots n a) b := by
  intro a
  induction a with
  | nil => intro b n; rfl
  | cons x a ih => intro b n; simp only [List.cons_append, RecP.tots, ih]
theorem records_loop (l : List S53) (has : Bool) (exp : Int) (R : LeapP.Right (l.map toL) has exp) (rest : List S53) : ∀ (pre : List S53) (k : Nat), l = pre ++ rest → rest.length < k →
    record_Records.l0 k ((RecP.recs 0 (pre.map toL)).map frR) (RecP.tots 0 (pre.map toL)) l (l.length : Int) (pre.length : Int) l has exp = some ((RecP.full (l.map toL) has exp).map frR, true) := by
  have st := RecP.good_steps R.1
  have hl := R.2.1
  rw [List.length_map] at hl
  induction rest with
  | nil =>
    intro pre k e hk
    obtain ⟨k, rfl⟩ : ∃ m, k = m + 1 := ⟨k - 1, by omega⟩
    have e : pre = l := by rw [e]; simp
    subst e
    have tb := RecP.tots_bd (pre.map toL) 0 st
    rw [List.length_map] at tb
    simp only [record_Records.l0]
    rw [if_neg (by omega)]
    unfold RecP.full
    have R3 := R.2.2
    unfold LeapP.badEnd at R3
    cases has with
    | true =>
      simp only [if_true] at R3 ⊢
      rw [if_pos (by rw [List.length_map, RecP.recs_len, List.length_map]; omega), w64 (by omega) (by omega)]
      simp [frR]
    | false => simp
  | cons x rest ih =>
    intro pre k e hk
    simp only [List.length_cons] at hk
    obtain ⟨k, rfl⟩ : ∃ m, k = m + 1 := ⟨k - 1, by omega⟩
    have hlen : l.length = pre.length + (rest.length + 1) := by rw [e]; simp
    have hr : rd_T53 l (pre.length : Int) = x := by rw [e]; exact rd_at pre rest x
    have hx := LeapP.good_mem _ _ R.1 (toL x) (List.mem_map_of_mem (by rw [e]; simp))
    have d0 : (toL x).day = x.f0 := rfl
    have d1 : (toL x).step = x.f1 := rfl
    rw [d0, d1] at hx
    have tb := RecP.tots_bd (pre.map toL) 0 (fun y hy => st y (by rw [e]; simp at hy ⊢; exact .inl hy))
    rw [List.length_map] at tb
    simp only [record_Records.l0]
    rw [if_pos (by omega), if_pos (by omega), if_pos (by omega), if_pos (by rw [List.length_map, RecP.recs_len, List.length_map]; omega), hr, mn_min]
    rw [w64 (n := x.f0 + 1) (by omega) (by omega), w64 (n := (x.f0 + 1) * 86400) (by omega) (by omega), w64 (n := (x.f0 + 1) * 86400 + RecP.tots 0 (pre.map toL)) (by omega) (by omega), w64 (n := (x.f0 + 1) * 86400 + RecP.tots 0 (pre.map toL) + min x.f1 0) (by omega) (by omega), w64 (n := RecP.tots 0 (pre.map toL) + x.f1) (by omega) (by omega), w64 (n := (pre.length : Int) + 1) (by omega) (by omega)]
    have := ih (pre ++ [x]) k (by rw [e]; simp) (by omega)
    simp only [List.map_append, List.map_cons, List.map_nil, recs_app, tots_app, RecP.recs, RecP.tots, List.length_append, List.length_cons, List.length_nil] at this
    rw [show ((pre.length : Int) + 1) = ((pre.length + (0 + 1) : Nat) : Int) by omega]
    exact this
theorem contains_law (l : List S53) (hl : l.length < 4611686018427387904) : api_Leap_42.f l 40 = some (l.any (fun y => y.f2)) := by
  unfold api_Leap_42.f
  rw [if_pos ⟨hl, rfl⟩]
theorem records_law (l : List S53) (has : Bool) (exp : Int) (hl : l.length ≤ 300) (k : Nat) (hk : 310 < k) : record_Records.f k l has exp = some (if okT l has exp = true then ((RecP.full (l.map toL) has exp).map frR, true) else ([], false)) := by
  obtain ⟨k, rfl⟩ : ∃ m, k = m + 1 := ⟨k - 1, by omega⟩
  unfold record_Records.f
  rw [right_law l has exp (by omega) (k + 1) (by omega)]
  simp only [Option.bind_some]
  unfold okT
  by_cases h : (LeapP.check (l.map toL) has exp).2 = 0
  · have R := (LeapP.check_right _ _ _).1 h
    rw [if_pos (by simp [h]), contains_law l (by omega)]
    simp only [Option.bind_some, record_Records.j0]
    cases ha : l.any (fun y => y.f2) with
    | true => simp
    | false =>
      rw [if_neg (by simp), if_pos (by simp [h])]
      exact records_loop l has exp R l [] k rfl (by omega)
  · rw [if_neg (by simp [h])]
    simp only [record_Records.j0]
    rw [if_pos trivial, if_neg (by simp [h])]
end Go.Proofs.Ythecldgopjaogaa.Pure
