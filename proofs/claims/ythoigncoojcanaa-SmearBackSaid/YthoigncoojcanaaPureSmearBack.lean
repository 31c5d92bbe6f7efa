/- SmearBack: what was smeared is unsmeared within a nanosecond, not later; any records, any tick: no condition. -/
import Derived.Test.YthoigncoojcanaaS25
import Derived.Test.YthoigncoojcanaaStmtSmearBack
namespace Go.Proofs.Ythoigncoojcanaa.Pure
open Go.RowKit Go.Proofs.Ythoigncoojcanaa.PAll Go.Proofs.YthoigncoojcanaaW.PrintWords Go.Proofs.YthoigncoojcanaaW.PrintLast
set_option linter.unusedSimpArgs false
set_option linter.unusedVariables false
theorem SmearBack : epactlaw25_SmearBack.Pure := by
  intro m t n hw hm ht hn
  have hw := wr_of hw
  have ht := i64_of ht
  refine ⟨2001, ?_⟩
  unfold epactlaw25_SmearBack.f
  rw [small25 2001 (by omega)]
  simp only [Option.bind_some]
  by_cases h0 : (m.length : Int) > 150
  · rw [if_pos h0]
  · rw [if_neg h0]
    rcases known_cases m (by omega) hw 2001 (by omega) with ⟨nk, ne⟩ | ⟨l, has, exp, ho, rfl⟩
    · rw [smear_no m t n 1 (by omega) _ (plain_no m t n _ (right_no m t n _ nk))]
      simp
    · rcases smear_cases ho t n ht 2001 (by omega) with ⟨e, he, hp, hs⟩ | ⟨d, sec, A, nx, hd, n0, n1, hu, hf, hp, hc⟩
      · rw [hs]; simp [he]
      · have bd := ScaleP.at_bd _ (tG ho) (tl ho) _ _ _ A
        have a0 := A.d0; have a1 := A.s0; have a2 := A.s1; have a3 := A.eq
        rcases hc with ⟨ni, hs⟩ | ⟨D, hD, hi, hs⟩
        · have o := SmearP.out_window _ (tG ho) t d sec A ni
          rw [hs]
          simp only [Option.bind_some, if_true]
          have mn : min sec 86399 = sec := by omega
          rw [mn]
          rw [unsmear_out ho (d * 86400 + sec) n (by unfold I64; omega) n0 n1 o.2 _ (by omega), show (d * 86400 + sec) / 86400 = d by omega, show (d * 86400 + sec) % 86400 = sec by omega]
          rw [ScaleP.tai_at A hd (by omega) nx]
          simp only [if_true, Option.bind_some]
          rcases window_law ho t 2001 (by omega) with ⟨D', a, b, e⟩ | ⟨a, e⟩
          · exact absurd b (ni D' a)
          · rw [e, hu]
            simp only [Option.bind_some, if_true]
            rw [apart_law t n t n (by omega) (by omega) n0 n1 n0 n1]
            simp only [Option.bind_some, if_true]
            have z : (t - t) * 1000000000 + n - n = 0 := by omega
            rw [z]
            simp [n0, n1, o.1]
        · have w := wd_range ho D hD
          have sb := SmearP.sm_bd _ (tG ho) t n D hD hi n0 n1
          rw [hs, smR_eq]
          simp only [Option.bind_some, if_true]
          have hi' := hi
          unfold SmearP.InT at hi'
          have B := SmearP.back ((t - (ScaleP.beg (l.map toL) D + 43200 - 63072000)) * 1000000000 + n) (86400 + LeapP.stp (l.map toL) D) (by omega) (by omega) (by omega)
          change _ ∧ _ ∧ 0 ≤ SmearP.up (SmearP.sm (l.map toL) t n D) (86400 + LeapP.stp (l.map toL) D) 86400 ∧ SmearP.up (SmearP.sm (l.map toL) t n D) (86400 + LeapP.stp (l.map toL) D) 86400 ≤ _ ∧ _ ≤ SmearP.up (SmearP.sm (l.map toL) t n D) (86400 + LeapP.stp (l.map toL) D) 86400 + 1 at B
          obtain ⟨_, _, B0, B1, B2⟩ := B
          generalize SmearP.sm (l.map toL) t n D = q at *
          obtain ⟨z, hz, z0, z1, hU⟩ := unsmear_in ho (D * 86400 + 43200 + q / 1000000000) (q % 1000000000) D (by unfold I64; omega) (by omega) (by omega) hD (by unfold SmearP.InP; omega) 2001 (by omega)
          rw [show (D * 86400 + 43200 + q / 1000000000 - (D * 86400 + 43200)) * 1000000000 + q % 1000000000 = q by omega] at hz
          rw [← hz] at B0 B1 B2
          rw [hU]
          obtain ⟨d2, s2, A2⟩ := ScaleP.at_ex (l.map toL) (tG ho) (ScaleP.beg (l.map toL) D + 43200 - 63072000 + z / 1000000000) (by omega)
          have bd2 := ScaleP.at_bd _ (tG ho) (tl ho) _ _ _ A2
          have le : ScaleP.beg (l.map toL) D + 43200 - 63072000 + z / 1000000000 ≤ t := by omega
          have dd : d2 ≤ d := by
            by_cases q1 : d2 ≤ d
            · exact q1
            · have := ScaleP.beg_lt _ (tG ho) d d2 (by omega)
              have := ScaleP.beg_step _ (tG ho) d
              have := A2.eq
              have := A2.s0
              omega
          have u2 : scale_Utc.f 2001 (full l has exp) (ScaleP.beg (l.map toL) D + 43200 - 63072000 + z / 1000000000) = some (d2, s2, 0) := by
            rw [utc_law ho _ (by unfold I64; omega) bd2.1 d2 s2 A2 _ (by omega)]
            unfold ScaleP.utcR
            rw [if_neg (by rintro ⟨h, h'⟩; exact nx ⟨h, by omega⟩), if_neg (by omega)]
          rw [u2, hu]
          simp only [Option.bind_some, if_true]
          rcases window_law ho t 2001 (by omega) with ⟨D', a, b, e⟩ | ⟨a, e⟩
          · rw [e]
            simp only [Option.bind_some, if_true]
            rw [apart_law _ _ _ _ (by omega) (by omega) n0 n1 (by omega) (by omega)]
            simp only [Option.bind_some, if_true]
            rw [if_pos (by omega), if_pos (by omega), if_pos (by omega), if_pos (by omega)]
          · exact absurd hi (a D hD)
end Go.Proofs.Ythoigncoojcanaa.Pure
