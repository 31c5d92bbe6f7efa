/- The reference's Find, Total, Step and Length of tables are the program's. -/
import Derived.Test.YtfmibhepehhljaaLeapF
import Derived.Test.YtfmibhepehhljaaRef09
import Derived.Test.YtfmibhepehhljaaPAllx8
namespace Go.Proofs.Ytfmibhepehhljaa.Pure
open Go.RowKit Go.Proofs.Ytfmibhepehhljaa.PAll Go.Proofs.YtfmibhepehhljaaW.PrintWords Go.Proofs.YtfmibhepehhljaaW.PrintLast
set_option linter.unusedVariables false
set_option linter.unusedSimpArgs false
theorem ref_step_loop9 (l : List S26) (has : Bool) (exp d : Int) (hl : l.length ≤ 300) (rest : List S26) : ∀ (pre : List S26) (k : Nat), l = pre ++ rest → rest.length < k →
    epactref09_Step.l0 k d (pre.length : Int) l has exp = some (LeapP.stp (rest.map toL) d) := by
  induction rest with
  | nil =>
    intro pre k e hk
    obtain ⟨k, rfl⟩ : ∃ m, k = m + 1 := ⟨k - 1, by omega⟩
    have : l.length = pre.length := by rw [e]; simp
    simp only [epactref09_Step.l0]
    rw [if_neg (by omega)]; rfl
  | cons x rest ih =>
    intro pre k e hk
    simp only [List.length_cons] at hk
    obtain ⟨k, rfl⟩ : ∃ m, k = m + 1 := ⟨k - 1, by omega⟩
    have hlen : l.length = pre.length + (rest.length + 1) := by rw [e]; simp
    have hr : rd_T26 l (pre.length : Int) = x := by rw [e]; exact rd_at pre rest x
    have := ih (pre ++ [x]) k (by rw [e]; simp) (by omega)
    simp only [List.length_append, List.length_cons, List.length_nil] at this
    simp only [epactref09_Step.l0, List.map_cons, LeapP.stp]
    rw [if_pos (by omega), if_pos (by omega), hr, w64 (by omega) (by omega), show ((pre.length : Int) + 1) = ((pre.length + (0 + 1) : Nat) : Int) by omega, this]
    have e0 : (toL x).day = x.f0 := rfl
    have e1 : (toL x).step = x.f1 := rfl
    rw [e0, e1]
    by_cases h : x.f0 = d
    · rw [if_pos h, if_pos h]
    · rw [if_neg h, if_neg h]
theorem ref_step9 (l : List S26) (has : Bool) (exp d : Int) (hl : l.length ≤ 300) (k : Nat) (hk : 300 < k) : epactref09_Step.f k l has exp d = some (LeapP.stp (l.map toL) d) := by
  unfold epactref09_Step.f
  have := ref_step_loop9 l has exp d hl l [] k rfl (by omega)
  simpa using this
theorem ref_length9 (l : List S26) (has : Bool) (exp d : Int) (hl : l.length ≤ 300) (G : LeapP.Good 729 (l.map toL)) (k : Nat) (hk : 300 < k) : epactref09_Length.f k l has exp d = some (86400 + LeapP.stp (l.map toL) d) := by
  unfold epactref09_Length.f
  rw [ref_step9 l has exp d hl k hk]
  have := LeapP.stp_mem _ d 729 G
  simp only [Option.bind_some]
  rw [w64 (by omega) (by omega)]
theorem ref_find_loop9 (l : List S26) (has : Bool) (exp d : Int) (hl : l.length ≤ 300) (rest : List S26) : ∀ (pre : List S26) (a : Int) (k : Nat), l = pre ++ rest → LeapP.Good a (rest.map toL) → rest.length < k →
    epactref09_Find.l0 k d (pre.length : Int) l has exp = some ((pre.length : Int) + (LeapP.cnt (rest.map toL) d : Nat)) := by
  induction rest with
  | nil =>
    intro pre a k e _ hk
    obtain ⟨k, rfl⟩ : ∃ m, k = m + 1 := ⟨k - 1, by omega⟩
    have : l.length = pre.length := by rw [e]; simp
    simp only [epactref09_Find.l0]
    rw [if_neg (by omega)]; simp [LeapP.cnt]
  | cons x rest ih =>
    intro pre a k e g hk
    simp only [List.length_cons] at hk
    obtain ⟨k, rfl⟩ : ∃ m, k = m + 1 := ⟨k - 1, by omega⟩
    have hlen : l.length = pre.length + (rest.length + 1) := by rw [e]; simp
    have hr : rd_T26 l (pre.length : Int) = x := by rw [e]; exact rd_at pre rest x
    have g6 := g.2.2.2.2.2
    have := ih (pre ++ [x]) (toL x).day k (by rw [e]; simp) g6 (by omega)
    simp only [List.length_append, List.length_cons, List.length_nil] at this
    simp only [epactref09_Find.l0, List.map_cons, LeapP.cnt]
    rw [if_pos (by omega), if_pos (by omega), hr, w64 (by omega) (by omega), show ((pre.length : Int) + 1) = ((pre.length + (0 + 1) : Nat) : Int) by omega, this]
    have e0 : (toL x).day = x.f0 := rfl
    by_cases h : x.f0 < d
    · rw [if_pos h, if_pos (by rw [e0]; exact h)]; congr 1; omega
    · rw [if_neg h, if_neg (by rw [e0]; exact h), (LeapP.good_above _ _ d g6 (by rw [e0]; omega)).1]; simp
theorem ref_find9 (l : List S26) (has : Bool) (exp d : Int) (hl : l.length ≤ 300) (G : LeapP.Good 729 (l.map toL)) (k : Nat) (hk : 300 < k) : epactref09_Find.f k l has exp d = some ((LeapP.cnt (l.map toL) d : Nat) : Int) := by
  unfold epactref09_Find.f
  have := ref_find_loop9 l has exp d hl l [] 729 k rfl G (by omega)
  simpa using this
theorem ref_total_loop9 (l : List S26) (has : Bool) (exp d : Int) (hl : l.length ≤ 300) (G0 : LeapP.Good 729 (l.map toL)) (rest : List S26) : ∀ (pre : List S26) (a s : Int) (k : Nat), l = pre ++ rest → LeapP.Good a (rest.map toL) → LeapP.cnt (l.map toL) d ≤ pre.length + LeapP.cnt (rest.map toL) d → (0 < LeapP.cnt (rest.map toL) d → pre.length + LeapP.cnt (rest.map toL) d ≤ LeapP.cnt (l.map toL) d) → -(pre.length : Int) ≤ s → s ≤ pre.length → rest.length + 302 < k →
    epactref09_Total.l0 k d s (pre.length : Int) l has exp = some (s + LeapP.tot (rest.map toL) d) := by
  induction rest with
  | nil =>
    intro pre a s k e _ c1 c2 b0 b1 hk
    obtain ⟨k, rfl⟩ : ∃ m, k = m + 1 := ⟨k - 1, by omega⟩
    have : l.length = pre.length := by rw [e]; simp
    have cl := LeapP.cnt_le (l.map toL) d
    rw [List.length_map] at cl
    simp only [List.length_nil] at hk
    simp only [List.map_nil, LeapP.cnt] at c1
    simp only [epactref09_Total.l0]
    rw [ref_find9 l has exp d hl G0 k (by omega)]
    simp only [Option.bind_some]
    rw [if_neg (by omega)]; simp [LeapP.tot]
  | cons x rest ih =>
    intro pre a s k e g c1 c2 b0 b1 hk
    simp only [List.length_cons] at hk
    obtain ⟨k, rfl⟩ : ∃ m, k = m + 1 := ⟨k - 1, by omega⟩
    have hlen : l.length = pre.length + (rest.length + 1) := by rw [e]; simp
    have hr : rd_T26 l (pre.length : Int) = x := by rw [e]; exact rd_at pre rest x
    obtain ⟨_, _, _, g4, _, g6⟩ := g
    have e0 : (toL x).day = x.f0 := rfl
    have e1 : (toL x).step = x.f1 := rfl
    rw [e1] at g4
    simp only [List.map_cons, LeapP.cnt, e0] at c1 c2
    simp only [epactref09_Total.l0, List.map_cons, LeapP.tot, e0, e1]
    rw [ref_find9 l has exp d hl G0 k (by omega)]
    simp only [Option.bind_some]
    by_cases h : x.f0 < d
    · simp only [if_pos h] at c1 c2 ⊢
      rw [if_pos (by omega), if_pos (by omega), if_pos (by omega), hr, w64 (by omega) (by omega), w64 (by omega) (by omega)]
      have := ih (pre ++ [x]) (toL x).day (s + x.f1) k (by rw [e]; simp) g6 (by simp; omega) (fun q => by simp; omega) (by simp; omega) (by simp; omega) (by omega)
      simp only [List.length_append, List.length_cons, List.length_nil] at this
      rw [show ((pre.length : Int) + 1) = ((pre.length + (0 + 1) : Nat) : Int) by omega, this]
      congr 1; omega
    · obtain ⟨c0, t0⟩ := LeapP.good_above _ _ d g6 (by rw [e0]; omega)
      simp only [if_neg h, c0] at c1 c2 ⊢
      rw [if_neg (by omega), t0]; simp
theorem ref_total9 (l : List S26) (has : Bool) (exp d : Int) (hl : l.length ≤ 300) (G : LeapP.Good 729 (l.map toL)) (k : Nat) (hk : 700 < k) : epactref09_Total.f k l has exp d = some (LeapP.tot (l.map toL) d) := by
  unfold epactref09_Total.f
  have := ref_total_loop9 l has exp d hl G l [] 729 0 k rfl G (by simp) (fun _ => by simp) (by simp) (by simp) (by omega)
  simpa using this
end Go.Proofs.Ytfmibhepehhljaa.Pure
