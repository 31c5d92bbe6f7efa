/- PosixPlain: without leap seconds POSIX seconds and seconds of TAI go together; any second: no condition. -/
import Derived.Test.YtlfnkamhokfeaaaSmall23
import Derived.Test.YtlfnkamhokfeaaaPAllx13
namespace Go.Proofs.Ytlfnkamhokfeaaa.Pure
open Go.RowKit Go.Proofs.Ytlfnkamhokfeaaa.PAll Go.Proofs.YtlfnkamhokfeaaaW.PrintWords Go.Proofs.YtlfnkamhokfeaaaW.PrintLast
theorem nil_ok : okT [] false 0 = true := by decide
theorem nil_full : full [] false 0 = [] := rfl
theorem nil_at (t : Int) (h : 0 ≤ t) : ScaleP.At [] t (730 + t / 86400) (t % 86400) := ⟨by omega, by omega, by simp [LeapP.stp]; omega, by simp [ScaleP.beg, LeapP.tot]; omega⟩
theorem nil_from (t : Int) (ht : I64 t) (h : 0 ≤ t) (k : Nat) (hk : 1400 < k) : posix_From.f k [] t = some (if t < 253339228800 then (t + 63072000, 0) else (0, 9)) := by
  have := pfrom_law nil_ok t ht _ _ (nil_at t h) k hk
  rw [nil_full] at this
  rw [this]
  unfold fromR ScaleP.utcR
  rw [if_neg (show ¬ (false = true ∧ ScaleP.fin (List.map toL []) 0 ≤ t) by simp)]
  by_cases hd : t < 253339228800
  · have e : (if 730 + t / 86400 > 2932896 then ((0, 0, 9) : Int × Int × Int) else (730 + t / 86400, t % 86400, 0)) = (730 + t / 86400, t % 86400, 0) := if_neg (by omega)
    rw [if_pos hd, e, if_pos rfl]
    simp only
    congr 2; omega
  · have e : (if 730 + t / 86400 > 2932896 then ((0, 0, 9) : Int × Int × Int) else (730 + t / 86400, t % 86400, 0)) = (0, 0, 9) := if_pos (by omega)
    rw [if_neg hd, e]; simp
theorem PosixPlain : epactlaw23_PosixPlain.Pure := by
  intro t ht
  have ht := i64_of ht
  refine ⟨2001, ?_⟩
  unfold epactlaw23_PosixPlain.f
  rw [small23 2001 (by omega)]
  simp only [Option.bind_some]
  by_cases h0 : t < 0
  · have := pfrom_neg nil_ok t ht h0 2001 (by omega)
    rw [nil_full] at this
    rw [this]
    simp only [Option.bind_some]
    rw [if_pos h0]; simp [epactlaw23_PosixPlain.j0]
  · rw [nil_from t ht (by omega) _ (by omega)]
    simp only [Option.bind_some]
    rw [if_neg h0]
    by_cases h1 : t < 253339228800
    · rw [if_pos h1, decide_eq_false (by omega)]
      simp only [epactlaw23_PosixPlain.j0, Bool.false_eq_true, if_false, if_true]
      have T : ScaleP.taiR (([] : List S54).map toL) false 0 ((t + 63072000) / 86400) ((t + 63072000) % 86400) = (t, 0) := by
        have A := nil_at t (by omega)
        have e1 : (t + 63072000) / 86400 = 730 + t / 86400 := by omega
        have e2 : (t + 63072000) % 86400 = t % 86400 := by omega
        rw [e1, e2]
        exact ScaleP.tai_at A (by omega) (by omega) (by simp)
      have a := ptai_law nil_ok (t + 63072000) (by unfold I64; omega) 2000 (by omega)
      rw [nil_full, T] at a
      have nf := nil_from (t + 1) (by unfold I64; omega) (by omega) 2000 (by omega)
      have b := twice_law nil_ok (t + 63072000) (by unfold I64; omega) 2000 (by omega) _ (by rw [T, nil_full]; exact nf)
      rw [nil_full, T] at b
      rw [a, b]
      simp only [Option.bind_some, if_true]
      rw [w64 (by omega) (by omega), if_pos rfl]
      by_cases h2 : t + 1 < 253339228800
      · rw [if_pos h2]
        simp only [if_true]
        have : (t + 1 + 63072000 == t + 63072000) = false := by rw [beq_eq_false_iff_ne]; omega
        rw [this]; simp
      · rw [if_neg h2]; simp
    · rw [if_neg h1, decide_eq_true (by omega)]
      simp [epactlaw23_PosixPlain.j0]
end Go.Proofs.Ytlfnkamhokfeaaa.Pure
