/- The reference's POSIX seconds are the program's. -/
import Derived.Test.YtlfnkamhokfeaaaPosix
import Derived.Test.YtlfnkamhokfeaaaRef22
import Derived.Test.YtlfnkamhokfeaaaPAllx6
import Derived.Test.YtlfnkamhokfeaaaPAllx10
import Derived.Test.YtlfnkamhokfeaaaPAllx11
namespace Go.Proofs.Ytlfnkamhokfeaaa.Pure
open Go.RowKit Go.Proofs.Ytlfnkamhokfeaaa.PAll Go.Proofs.YtlfnkamhokfeaaaW.PrintWords Go.Proofs.YtlfnkamhokfeaaaW.PrintLast
set_option linter.unusedVariables false
set_option linter.unusedSimpArgs false
set_option linter.unusedSectionVars false
theorem ref_of_law (d s : Int) : epactref23_Of.f d s = some (ofR d s) := by
  have := of_law d s
  unfold posix_Of.f at this
  unfold epactref23_Of.f
  rw [Int.mul_comm 86400 d]
  exact this
theorem ref_pday_law (p : Int) (hp : I64 p) : epactref23_Day.f p = some (p / 86400, p % 86400) := by
  unfold epactref23_Day.f
  rw [ref_div_law p 86400 hp (by unfold I64; omega) (by omega)]; rfl
section
variable {l : List S54} {has : Bool} {exp : Int} (ho : okT l has exp = true)
include ho
theorem ref_ptai_law (p : Int) (hp : I64 p) (k : Nat) (hk : 11200 < k) : epactref23_Tai.f k (full l has exp) p = some (ScaleP.taiR (l.map toL) has exp (p / 86400) (p % 86400)) := by
  unfold epactref23_Tai.f
  rw [ref_pday_law p hp]
  simp only [Option.bind_some]
  rw [ref_tai_law ho _ _ (by unfold I64; omega) k (by omega)]; rfl
theorem ref_putc_law (p : Int) (hp : I64 p) (k : Nat) (hk : 11200 < k) : epactref23_Utc.f k (full l has exp) p = some (if (ScaleP.taiR (l.map toL) has exp (p / 86400) (p % 86400)).2 = 0 then (p / 86400, p % 86400, 0) else (0, 0, (ScaleP.taiR (l.map toL) has exp (p / 86400) (p % 86400)).2)) := by
  unfold epactref23_Utc.f
  rw [ref_ptai_law ho p hp k hk, ref_pday_law p hp]
  simp only [Option.bind_some]
  split <;> rfl
theorem ref_from_utc (t : Int) (u : Int × Int × Int) (k : Nat) (h : epactref22_Utc.f k (full l has exp) t = some u) (hu : u.2.2 = 0 → 730 ≤ u.1 ∧ u.1 ≤ 2932896 ∧ 0 ≤ u.2.1 ∧ u.2.1 ≤ 86400) : epactref23_From.f k (full l has exp) t = some (fromR u) := by
  unfold epactref23_From.f fromR
  rw [h]
  simp only [Option.bind_some]
  by_cases h0 : u.2.2 = 0
  · have := hu h0
    rw [if_pos h0, if_pos h0, ref_of_law]
    unfold ofR
    rw [if_neg (by omega)]; rfl
  · rw [if_neg h0, if_neg h0]
/-- both tell the same POSIX second -/
theorem from_both (t : Int) (ht : I64 t) (k : Nat) (hk : 11200 < k) : ∃ u, posix_From.f k (full l has exp) t = some u ∧ epactref23_From.f k (full l has exp) t = some u := by
  by_cases h0 : t < 0
  · exact ⟨_, pfrom_neg ho t ht h0 k (by omega), ref_from_utc ho t _ k (ref_utc_neg ho t h0 k (by omega)) (fun h => by simp at h)⟩
  · obtain ⟨d, s, A⟩ := ScaleP.at_ex _ (tG ho) t (by omega)
    exact ⟨_, pfrom_law ho t ht d s A k (by omega), ref_from_utc ho t _ k (ref_utc_law ho t ht (by omega) d s A k (by omega)) (utcR_range ho A)⟩
theorem twice_both (p : Int) (hp : I64 p) (k : Nat) (hk : 11200 < k) : ∃ u, posix_Twice.f k (full l has exp) p = some u ∧ epactref23_Twice.f k (full l has exp) p = some u := by
  have ts := taiR_small ho (p / 86400) (p % 86400)
  obtain ⟨u, h1, h2⟩ := from_both ho ((ScaleP.taiR (l.map toL) has exp (p / 86400) (p % 86400)).1 + 1) (by unfold I64; omega) k hk
  refine ⟨_, twice_law ho p hp k (by omega) u h1, ?_⟩
  unfold epactref23_Twice.f
  rw [ref_ptai_law ho p hp k hk]
  simp only [Option.bind_some]
  rw [w64 (by omega) (by omega), h2]
  simp only [Option.bind_some]
  split
  · split <;> rfl
  · rfl
end
end Go.Proofs.Ytlfnkamhokfeaaa.Pure
