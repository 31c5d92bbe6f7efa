/- What the printed functions of the package posix tell. -/
import Derived.Test.YtlfnkamhokfeaaaScale
import Derived.Test.YtlfnkamhokfeaaaPAllx1
import Derived.Test.YtlfnkamhokfeaaaPAllx4
import Derived.Test.YtlfnkamhokfeaaaPAllx5
namespace Go.Proofs.Ytlfnkamhokfeaaa.Pure
open Go.RowKit Go.Proofs.Ytlfnkamhokfeaaa.PAll Go.Proofs.YtlfnkamhokfeaaaW.PrintWords Go.Proofs.YtlfnkamhokfeaaaW.PrintLast
set_option linter.unusedVariables false
set_option linter.unusedSimpArgs false
set_option linter.unusedSectionVars false
/-- the POSIX second of a day's second -/
def ofR (d s : Int) : Int × Bool := if d < -719162 ∨ d > 2932896 ∨ s < 0 ∨ s > 86400 then (0, false) else (d * 86400 + min s 86399, true)
theorem of_law (d s : Int) : posix_Of.f d s = some (ofR d s) := by
  unfold posix_Of.f ofR
  by_cases h1 : d < -719162
  · rw [if_pos h1, if_pos (.inl h1)]
  · rw [if_neg h1]
    by_cases h2 : d > 2932896
    · rw [if_pos h2, if_pos (by omega)]
    · rw [if_neg h2]
      by_cases h3 : s < 0
      · rw [if_pos h3, if_pos (by omega)]
      · rw [if_neg h3]
        by_cases h4 : s > 86400
        · rw [if_pos h4, if_pos (by omega)]
        · rw [if_neg h4, if_neg (by omega), mn_min, w64 (n := d * 86400) (by omega) (by omega), w64 (by omega) (by omega)]
theorem pday_law (p : Int) (hp : I64 p) : posix_Day.f p = some (p / 86400, p % 86400) := by
  unfold posix_Day.f
  rw [div_law p 86400 hp (by unfold I64; omega) (by omega)]; rfl
/-- the POSIX second of a second of TAI -/
def fromR (u : Int × Int × Int) : Int × Int := if u.2.2 = 0 then (u.1 * 86400 + min u.2.1 86399, 0) else (0, u.2.2)
section
variable {l : List S54} {has : Bool} {exp : Int} (ho : okT l has exp = true)
include ho
theorem ptai_law (p : Int) (hp : I64 p) (k : Nat) (hk : 1400 < k) : posix_Tai.f k (full l has exp) p = some (ScaleP.taiR (l.map toL) has exp (p / 86400) (p % 86400)) := by
  unfold posix_Tai.f
  rw [pday_law p hp]
  simp only [Option.bind_some]
  rw [tai_law ho _ _ (by unfold I64; omega) k hk]; rfl
theorem putc_law (p : Int) (hp : I64 p) (k : Nat) (hk : 1400 < k) : posix_Utc.f k (full l has exp) p = some (if (ScaleP.taiR (l.map toL) has exp (p / 86400) (p % 86400)).2 = 0 then (p / 86400, p % 86400, 0) else (0, 0, (ScaleP.taiR (l.map toL) has exp (p / 86400) (p % 86400)).2)) := by
  unfold posix_Utc.f
  rw [ptai_law ho p hp k hk, pday_law p hp]
  simp only [Option.bind_some]
  split <;> rfl
theorem from_utc (t : Int) (u : Int × Int × Int) (k : Nat) (h : scale_Utc.f k (full l has exp) t = some u) (hu : u.2.2 = 0 → 730 ≤ u.1 ∧ u.1 ≤ 2932896 ∧ 0 ≤ u.2.1 ∧ u.2.1 ≤ 86400) : posix_From.f k (full l has exp) t = some (fromR u) := by
  unfold posix_From.f fromR
  rw [h]
  simp only [Option.bind_some]
  by_cases h0 : u.2.2 = 0
  · have := hu h0
    rw [if_pos h0, if_pos h0, of_law]
    unfold ofR
    rw [if_neg (by omega), h0]; rfl
  · rw [if_neg h0, if_neg h0]
theorem utcR_range {t d sec e : Int} (A : ScaleP.At (l.map toL) t d sec) : (ScaleP.utcR has e t d sec).2.2 = 0 → 730 ≤ (ScaleP.utcR has e t d sec).1 ∧ (ScaleP.utcR has e t d sec).1 ≤ 2932896 ∧ 0 ≤ (ScaleP.utcR has e t d sec).2.1 ∧ (ScaleP.utcR has e t d sec).2.1 ≤ 86400 := by
  intro h
  obtain ⟨a, b, c⟩ := ScaleP.utcR_ok h
  have bd := ScaleP.at_bd _ (tG ho) (tl ho) _ _ _ A
  have a0 := A.d0
  have s0 := A.s0
  rw [c]
  exact ⟨a0, b, s0, bd.2.2.2⟩
theorem pfrom_law (t : Int) (ht : I64 t) (d sec : Int) (A : ScaleP.At (l.map toL) t d sec) (k : Nat) (hk : 1400 < k) : posix_From.f k (full l has exp) t = some (fromR (ScaleP.utcR has (ScaleP.fin (l.map toL) exp) t d sec)) :=
  from_utc ho t _ k (utc_law ho t ht (ScaleP.at_bd _ (tG ho) (tl ho) _ _ _ A).1 d sec A k hk) (utcR_range ho A)
theorem pfrom_neg (t : Int) (ht : I64 t) (h0 : t < 0) (k : Nat) (hk : 1400 < k) : posix_From.f k (full l has exp) t = some (0, 9) :=
  from_utc ho t _ k (utc_neg ho t ht h0 k hk) (fun h => by simp at h)
theorem taiR_small (d sec : Int) : -1 ≤ (ScaleP.taiR (l.map toL) has exp d sec).1 ∧ (ScaleP.taiR (l.map toL) has exp d sec).1 ≤ 300000000000 := by
  by_cases h : (ScaleP.taiR (l.map toL) has exp d sec).2 = 0
  · obtain ⟨a, b, c, e, f, g, q⟩ := ScaleP.taiR_ok h
    have bd := ScaleP.at_bd _ (tG ho) (tl ho) _ _ _ (ScaleP.at_tai h)
    omega
  · rw [ScaleP.taiR_no h]; omega
theorem twice_law (p : Int) (hp : I64 p) (k : Nat) (hk : 1400 < k) (u : Int × Int) (hu : posix_From.f k (full l has exp) ((ScaleP.taiR (l.map toL) has exp (p / 86400) (p % 86400)).1 + 1) = some u) :
    posix_Twice.f k (full l has exp) p = some (if (ScaleP.taiR (l.map toL) has exp (p / 86400) (p % 86400)).2 = 0 then (if u.2 = 0 then (u.1 == p, 0) else (false, 0)) else (false, (ScaleP.taiR (l.map toL) has exp (p / 86400) (p % 86400)).2)) := by
  unfold posix_Twice.f
  have ts := taiR_small ho (p / 86400) (p % 86400)
  rw [ptai_law ho p hp k hk]
  simp only [Option.bind_some]
  rw [w64 (by omega) (by omega), hu]
  simp only [Option.bind_some]
  split
  · split <;> rfl
  · rfl
end
theorem ptai_no (m : List S40) (p : Int) (hp : I64 p) (k : Nat) (h : scale_Known.f k m = some false) : posix_Tai.f k m p = some (0, 1) := by
  unfold posix_Tai.f; rw [pday_law p hp]; simp only [Option.bind_some]; rw [tai_no m _ _ k h]; rfl
theorem putc_no (m : List S40) (p : Int) (hp : I64 p) (k : Nat) (h : scale_Known.f k m = some false) : posix_Utc.f k m p = some (0, 0, 1) := by
  unfold posix_Utc.f; rw [ptai_no m p hp k h]; simp
theorem pfrom_no (m : List S40) (t : Int) (ht : I64 t) (k : Nat) (h : scale_Known.f k m = some false) : posix_From.f k m t = some (0, 1) := by
  unfold posix_From.f; rw [utc_no m t ht k h]; simp
theorem twice_no (m : List S40) (p : Int) (hp : I64 p) (k : Nat) (h : scale_Known.f k m = some false) : posix_Twice.f k m p = some (false, 1) := by
  unfold posix_Twice.f; rw [ptai_no m p hp k h]; simp
end Go.Proofs.Ytlfnkamhokfeaaa.Pure
