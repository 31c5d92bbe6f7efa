/- SmearNear: a smeared tick is at most a second off the plain one, and out of all windows the same; any records, any tick: no condition. -/
import Derived.Test.YthoigncoojcanaaS25
import Derived.Test.YthoigncoojcanaaStmtSmearNear
namespace Go.Proofs.Ythoigncoojcanaa.Pure
open Go.RowKit Go.Proofs.Ythoigncoojcanaa.PAll Go.Proofs.YthoigncoojcanaaW.PrintWords Go.Proofs.YthoigncoojcanaaW.PrintLast
set_option linter.unusedSimpArgs false
set_option linter.unusedVariables false
theorem SmearNear : epactlaw25_SmearNear.Pure := by
  intro m t n hw hm ht hn
  have hw := wr_of hw
  have ht := i64_of ht
  refine ⟨2001, ?_⟩
  unfold epactlaw25_SmearNear.f
  rw [small25 2001 (by omega)]
  simp only [Option.bind_some]
  by_cases h0 : (m.length : Int) > 150
  · rw [if_pos h0]
  · rw [if_neg h0]
    have err : ∀ e : Int, e ≠ 0 → smear_Plain.f 2001 m t n = some (0, 0, e) → smear_Smear.f 2001 m t n = some (0, 0, e) → (smear_Smear.f 2001 m t n).bind (fun bt342 => ((smear_Plain.f 2001 m t n).bind fun bt346 => (if bt342.2.2 = bt346.2.2 then (epactlaw25_SmearNear.j0 2001 m true bt342.2.2 bt346.2.2 (bt342.2.2 != 0) t n bt342.1 bt342.2.1 bt346.1 bt346.2.1) else (epactlaw25_SmearNear.j0 2001 m true bt342.2.2 bt346.2.2 true t n bt342.1 bt342.2.1 bt346.1 bt346.2.1)))) = some true := by
      intro e he hp hs
      rw [hp, hs]
      have : (e != 0) = true := by rw [bne_iff_ne]; exact he
      simp only [Option.bind_some, if_true]
      rw [this]
      simp [epactlaw25_SmearNear.j0]
    rcases known_cases m (by omega) hw 2001 (by omega) with ⟨nk, ne⟩ | ⟨l, has, exp, ho, rfl⟩
    · have hp := plain_no m t n _ (right_no m t n _ nk)
      exact err 1 (by omega) hp (smear_no m t n 1 (by omega) _ hp)
    · rcases smear_cases ho t n ht 2001 (by omega) with ⟨e, he, hp, hs⟩ | ⟨d, sec, A, nx, hd, n0, n1, hu, hf, hp, hc⟩
      · exact err e he hp hs
      · have bd := ScaleP.at_bd _ (tG ho) (tl ho) _ _ _ A
        have a0 := A.d0; have a1 := A.s0; have a2 := A.s1; have a3 := A.eq
        rw [hp]
        rcases hc with ⟨ni, hs⟩ | ⟨D, hD, hi, hs⟩
        · rw [hs]
          simp only [Option.bind_some, if_true]
          have : ((0 : Int) != 0) = false := rfl
          rw [this]
          simp only [epactlaw25_SmearNear.j0, Bool.false_eq_true, if_false, if_true]
          rcases window_law ho t 2000 (by omega) with ⟨D', a, b, e⟩ | ⟨a, e⟩
          · exact absurd b (ni D' a)
          · rw [e]
            simp only [Option.bind_some]
            rw [apart_law _ _ _ _ (by omega) (by omega) n0 n1 n0 n1]
            simp only [Option.bind_some]
            rw [if_pos (by omega), if_pos (by omega)]
            simp
        · have w := wd_range ho D hD
          have sb := SmearP.sm_bd _ (tG ho) t n D hD hi n0 n1
          have nr := SmearP.near _ (tG ho) t n d sec D A hD hi n0 n1
          rw [hs, smR_eq]
          simp only [Option.bind_some, if_true]
          have : ((0 : Int) != 0) = false := rfl
          rw [this]
          simp only [epactlaw25_SmearNear.j0, Bool.false_eq_true, if_false, if_true]
          generalize SmearP.sm (l.map toL) t n D = q at *
          rcases window_law ho t 2000 (by omega) with ⟨D', a, b, e⟩ | ⟨a, e⟩
          · rw [e]
            simp only [Option.bind_some]
            rw [apart_law _ _ _ _ (by omega) (by omega) (by omega) (by omega) n0 n1]
            simp only [Option.bind_some]
            rw [if_pos (by omega), if_pos (by omega), if_pos trivial]
          · exact absurd hi (a D hD)
end Go.Proofs.Ythoigncoojcanaa.Pure
