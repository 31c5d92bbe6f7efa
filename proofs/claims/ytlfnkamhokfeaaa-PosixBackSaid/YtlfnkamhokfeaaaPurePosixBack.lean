/- PosixBack: a POSIX second, turned into a day's second, and back, is the same; and so through TAI; only a removed second has none; any records, any POSIX second: no condition. -/
import Derived.Test.YtlfnkamhokfeaaaSmall23
import Derived.Test.YtlfnkamhokfeaaaStmtPosixBack
namespace Go.Proofs.Ytlfnkamhokfeaaa.Pure
open Go.RowKit Go.Proofs.Ytlfnkamhokfeaaa.PAll Go.Proofs.YtlfnkamhokfeaaaW.PrintWords Go.Proofs.YtlfnkamhokfeaaaW.PrintLast
theorem PosixBack : epactlaw23_PosixBack.Pure := by
  intro m p hw hm hp
  have hw := wr_of hw
  have hp := i64_of hp
  refine ⟨2001, ?_⟩
  unfold epactlaw23_PosixBack.f
  rw [small23 2001 (by omega)]
  simp only [Option.bind_some]
  by_cases h0 : (m.length : Int) > 300
  · rw [if_pos h0]
  · rw [if_neg h0]
    rcases known_cases m (by omega) hw 2001 (by omega) with ⟨nk, _⟩ | ⟨l, has, exp, ho, rfl⟩
    · rw [putc_no m p hp _ nk, ptai_no m p hp _ nk]; simp
    · rw [putc_law ho p hp _ (by omega), ptai_law ho p hp _ (by omega)]
      simp only [Option.bind_some]
      by_cases h : (ScaleP.taiR (l.map toL) has exp (p / 86400) (p % 86400)).2 = 0
      · have A := ScaleP.at_tai h
        obtain ⟨a, b, c, e, f, g, q⟩ := ScaleP.taiR_ok h
        have bd := ScaleP.at_bd _ (tG ho) (tl ho) _ _ _ A
        rw [if_pos h, h]
        simp only [if_true]
        rw [of_law, pfrom_law ho _ (by unfold I64; omega) _ _ A _ (by omega)]
        have u : ScaleP.utcR has (ScaleP.fin (l.map toL) exp) (ScaleP.taiR (l.map toL) has exp (p / 86400) (p % 86400)).1 (p / 86400) (p % 86400) = (p / 86400, p % 86400, 0) := by
          unfold ScaleP.utcR
          rw [q]
          simp only
          rw [if_neg g, if_neg (by omega)]
        rw [u]
        unfold ofR fromR
        rw [if_neg (by omega)]
        simp only [Option.bind_some, if_true]
        rw [if_pos (by omega), if_pos (by omega), decide_eq_true (by omega)]
      · rw [if_neg h]
        simp only [if_true]
        rw [if_neg h]
        by_cases h11 : (ScaleP.taiR (l.map toL) has exp (p / 86400) (p % 86400)).2 = 11
        · rw [if_pos h11, pday_law p hp]
          simp only [Option.bind_some]
          rw [length_law1 ho _ _ (by omega)]
          simp only [Option.bind_some]
          have sb := ScaleP.stp_bd _ (p / 86400) (tG ho)
          unfold ScaleP.taiR at h11
          by_cases h1 : p / 86400 < 730 ∨ p / 86400 > 2932896 ∨ p % 86400 < 0 ∨ p % 86400 > 86400
          · rw [if_pos h1] at h11; exact absurd h11 (by simp)
          · rw [if_neg h1] at h11
            by_cases h2 : p % 86400 ≥ 86400 + LeapP.stp (l.map toL) (p / 86400)
            · rw [if_neg (show ¬ (p / 86400 < 730 ∨ p / 86400 > 2932896) by omega), if_pos (by omega)]
              simp only
              rw [if_pos (by omega)]; rfl
            · rw [if_neg h2] at h11
              split at h11
              · exact absurd h11 (by simp)
              · exact absurd h11 (by simp)
        · rw [if_neg h11, ScaleP.taiR_no h]; rfl
end Go.Proofs.Ytlfnkamhokfeaaa.Pure
