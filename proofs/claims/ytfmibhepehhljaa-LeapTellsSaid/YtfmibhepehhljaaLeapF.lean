/- What Find, Total, Step and Length of the package leap tell, in the words of plain lists. -/
import Derived.Test.YtfmibhepehhljaaLeapC
import Derived.Test.YtfmibhepehhljaaPAllx4
import Derived.Test.YtfmibhepehhljaaPAllx5
namespace Go.Proofs.Ytfmibhepehhljaa.Pure
open Go.RowKit Go.Proofs.Ytfmibhepehhljaa.PAll Go.Proofs.YtfmibhepehhljaaW.PrintWords Go.Proofs.YtfmibhepehhljaaW.PrintLast
set_option linter.unusedVariables false
set_option linter.unusedSimpArgs false
theorem count_cnt (l : List S26) (d : Int) : l.countP (fun y => !decide (d ≤ y.f0)) = LeapP.cnt (l.map toL) d := by
  induction l with
  | nil => rfl
  | cons x l ih =>
    simp only [List.map_cons, LeapP.cnt, List.countP_cons, ih]
    have : (toL x).day = x.f0 := rfl
    rw [this]
    by_cases h : x.f0 < d
    · rw [if_pos h, if_pos (by simp; omega)]; omega
    · rw [if_neg h, if_neg (by simp; omega)]; omega
theorem asc_of (l : List S26) (a : Int) (h : LeapP.Good a (l.map toL)) : leap_Find.Asc l := by
  have := LeapP.good_asc _ _ h
  rw [List.pairwise_map] at this
  unfold leap_Find.Asc
  exact this.imp (fun {x y} h => by have : x.f0 < y.f0 := h; omega)
theorem find_law (l : List S26) (has : Bool) (exp d : Int) (a : Int) (h : LeapP.Good a (l.map toL)) (hl : l.length < 4611686018427387904) : leap_Find.f l has exp d = some ((LeapP.cnt (l.map toL) d : Nat) : Int) := by
  unfold leap_Find.f
  rw [if_pos ⟨hl, asc_of l a h⟩, count_cnt]
theorem total_loop (y : List S26) (hl : y.length ≤ 300) (hw : ∀ x ∈ y, x.f1 = 1 ∨ x.f1 = -1) (rest : List S26) : ∀ (pre : List S26) (acc : Int) (k : Nat), y = pre ++ rest → -300 ≤ acc + rest.length → -(pre.length : Int) ≤ acc → acc ≤ pre.length → rest.length < k →
    leap_Total.l0 k acc y (y.length : Int) (pre.length : Int) = some (acc + (rest.map (·.f1)).sum) := by
  induction rest with
  | nil =>
    intro pre acc k e _ _ _ hk
    obtain ⟨k, rfl⟩ : ∃ m, k = m + 1 := ⟨k - 1, by omega⟩
    have : y.length = pre.length := by rw [e]; simp
    simp only [leap_Total.l0]
    rw [if_neg (by omega)]; simp
  | cons x rest ih =>
    intro pre acc k e b0 b1 b2 hk
    simp only [List.length_cons] at hk
    obtain ⟨k, rfl⟩ : ∃ m, k = m + 1 := ⟨k - 1, by omega⟩
    have hlen : y.length = pre.length + (rest.length + 1) := by rw [e]; simp
    have hr : rd_T26 y (pre.length : Int) = x := by rw [e]; exact rd_at pre rest x
    have hx := hw x (by rw [e]; simp)
    simp only [leap_Total.l0]
    rw [if_pos (by omega), if_pos (by omega), if_pos (by omega), hr, w64 (n := acc + x.f1) (by omega) (by omega), w64 (n := (pre.length : Int) + 1) (by omega) (by omega)]
    have := ih (pre ++ [x]) (acc + x.f1) k (by rw [e]; simp) (by simp only [List.length_cons] at b0; omega) (by simp; omega) (by simp; omega) (by omega)
    simp only [List.length_append, List.length_cons, List.length_nil] at this
    rw [show ((pre.length : Int) + 1) = ((pre.length + (0 + 1) : Nat) : Int) by omega, this]
    simp; omega
theorem sum_take : ∀ (l : List S26) (a d : Int), LeapP.Good a (l.map toL) → ((l.take (LeapP.cnt (l.map toL) d)).map (·.f1)).sum = LeapP.tot (l.map toL) d := by
  intro l
  induction l with
  | nil => intro a d _; rfl
  | cons x l ih =>
    intro a d h
    have h6 := h.2.2.2.2.2
    simp only [List.map_cons, LeapP.cnt, LeapP.tot]
    by_cases h1 : (toL x).day < d
    · rw [if_pos h1, if_pos h1, Nat.add_comm, List.take_succ_cons, List.map_cons, List.sum_cons, ih _ d h6]; rfl
    · obtain ⟨c0, t0⟩ := LeapP.good_above _ _ d h6 (by omega)
      rw [if_neg h1, if_neg h1, c0, t0]; simp
theorem total_law (l : List S26) (has : Bool) (exp d : Int) (a : Int) (h : LeapP.Good a (l.map toL)) (hl : l.length ≤ 200) (k : Nat) (hk : 200 < k) : leap_Total.f k l has exp d = some (LeapP.tot (l.map toL) d) := by
  unfold leap_Total.f
  rw [find_law l has exp d a h (by omega)]
  simp only [Option.bind_some]
  have c := LeapP.cnt_le (l.map toL) d
  rw [List.length_map] at c
  rw [if_pos (by omega), if_pos (by omega), Int.toNat_natCast]
  have hm : ∀ x ∈ l.take (LeapP.cnt (l.map toL) d), x.f1 = 1 ∨ x.f1 = -1 := by
    intro x hx
    have := LeapP.good_mem _ _ h (toL x) (List.mem_map_of_mem (List.mem_of_mem_take hx))
    exact this.2.2.2.1
  have hlen : (l.take (LeapP.cnt (l.map toL) d)).length ≤ 200 := by rw [List.length_take]; omega
  have := total_loop (l.take (LeapP.cnt (l.map toL) d)) (by omega) hm (l.take (LeapP.cnt (l.map toL) d)) [] 0 k rfl (by omega) (by simp) (by simp) (by omega)
  simp only [List.length_nil] at this
  rw [show ((0 : Nat) : Int) = 0 from rfl] at this
  rw [this, sum_take l a d h]; simp
theorem step_law (l : List S26) (has : Bool) (exp d : Int) (a : Int) (h : LeapP.Good a (l.map toL)) (hl : l.length < 4611686018427387904) : leap_Step.f l has exp d = some (LeapP.stp (l.map toL) d) := by
  unfold leap_Step.f
  rw [find_law l has exp d a h hl, LeapP.stp_at _ _ d h]
  simp only [Option.bind_some]
  have c := LeapP.cnt_le (l.map toL) d
  rw [List.length_map] at c
  by_cases h1 : LeapP.cnt (l.map toL) d < l.length
  · rw [if_pos (by omega), if_pos (by omega)]
    have e : (l.map toL)[LeapP.cnt (l.map toL) d]? = some (toL (rd_T26 l ((LeapP.cnt (l.map toL) d : Nat) : Int))) := by
      unfold rd_T26
      rw [List.getElem?_map, Int.toNat_natCast]
      simp [h1]
    rw [e]
    simp only
    by_cases h2 : (rd_T26 l ((LeapP.cnt (l.map toL) d : Nat) : Int)).f0 = d
    · rw [if_pos h2]; simp [toL, h2]
    · rw [if_neg h2]; simp [toL, h2]
  · rw [if_neg (by omega), List.getElem?_eq_none (by simp; omega)]
theorem length_law (l : List S26) (has : Bool) (exp d : Int) (a : Int) (h : LeapP.Good a (l.map toL)) (hl : l.length < 4611686018427387904) : leap_Length.f l has exp d = some (86400 + LeapP.stp (l.map toL) d) := by
  unfold leap_Length.f
  rw [step_law l has exp d a h hl]
  have := LeapP.stp_mem _ d a h
  simp only [Option.bind_some]
  rw [w64 (by omega) (by omega)]
end Go.Proofs.Ytfmibhepehhljaa.Pure
