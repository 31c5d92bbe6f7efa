/- SmearFloor: within a window a smeared tick is the greatest that is not beyond an even spread; any records, any tick: no condition. -/
import Derived.Test.YthoigncoojcanaaS25
import Derived.Test.YthoigncoojcanaaStmtSmearFloor
namespace Go.Proofs.Ythoigncoojcanaa.Pure
open Go.RowKit Go.Proofs.Ythoigncoojcanaa.PAll Go.Proofs.YthoigncoojcanaaW.PrintWords Go.Proofs.YthoigncoojcanaaW.PrintLast
set_option linter.unusedSimpArgs false
set_option linter.unusedVariables false
theorem SmearFloor : epactlaw25_SmearFloor.Pure := by
  intro m t n hw hm ht hn
  have hw := wr_of hw
  have ht := i64_of ht
  refine ⟨2002, ?_⟩
  unfold epactlaw25_SmearFloor.f
  rw [small25 2002 (by omega)]
  simp only [Option.bind_some]
  by_cases h0 : (m.length : Int) > 150
  · rw [if_pos h0]
  · rw [if_neg h0]
    have out : ∀ a b c d, epactlaw25_SmearFloor.j0 2002 m true a b true t n c d = some true := by intro a b c d; simp [epactlaw25_SmearFloor.j0]
    rcases known_cases m (by omega) hw 2002 (by omega) with ⟨nk, ne⟩ | ⟨l, has, exp, ho, rfl⟩
    · rw [smear_no m t n 1 (by omega) _ (plain_no m t n _ (right_no m t n _ nk)), window_no m t _ nk]
      simp only [Option.bind_some]
      rw [if_neg (by omega), out]
    · rcases smear_cases ho t n ht 2002 (by omega) with ⟨e, he, hp, hs⟩ | ⟨d, sec, A, nx, hd, n0, n1, hu, hf, hp, hc⟩
      · rw [hs]
        simp only [Option.bind_some]
        rcases window_law ho t 2002 (by omega) with ⟨D', a, b, e⟩ | ⟨a, e⟩ <;>
        · rw [e]; simp only [Option.bind_some]; rw [if_neg he, out]
      · have bd := ScaleP.at_bd _ (tG ho) (tl ho) _ _ _ A
        have a0 := A.d0; have a1 := A.s0; have a2 := A.s1; have a3 := A.eq
        rcases hc with ⟨ni, hs⟩ | ⟨D, hD, hi, hs⟩
        · rw [hs]
          simp only [Option.bind_some, if_true]
          rcases window_law ho t 2002 (by omega) with ⟨D', a, b, e⟩ | ⟨a, e⟩
          · exact absurd b (ni D' a)
          · rw [e]; simp only [Option.bind_some, Bool.not_false]; rw [out]
        · have w := wd_range ho D hD
          have sb := SmearP.sm_bd _ (tG ho) t n D hD hi n0 n1
          rw [hs, smR_eq]
          simp only [Option.bind_some, if_true]
          rcases window_law ho t 2002 (by omega) with ⟨D', a, b, e⟩ | ⟨a, e⟩
          · obtain rfl := SmearP.inT_uniq _ (tG ho) t D' D b hi
            rw [e]
            simp only [Option.bind_some, Bool.not_true, epactlaw25_SmearFloor.j0, Bool.false_eq_true, if_false]
            have hi' := hi
            unfold SmearP.InT at hi'
            have A2 : ScaleP.At (l.map toL) (ScaleP.beg (l.map toL) D' + 43200 - 63072000) D' 43200 := ⟨by omega, by omega, by omega, by omega⟩
            have nx2 : ¬ (has = true ∧ ScaleP.fin (l.map toL) exp ≤ ScaleP.beg (l.map toL) D' + 43200 - 63072000) := by rintro ⟨h, h'⟩; exact nx ⟨h, by omega⟩
            have f2 : posix_From.f 2001 (full l has exp) (ScaleP.beg (l.map toL) D' + 43200 - 63072000) = some (D' * 86400 + 43200, 0) := by
              rw [pfrom_law ho _ (by unfold I64; omega) D' 43200 A2 _ (by omega)]
              unfold fromR ScaleP.utcR
              rw [if_neg nx2]
              have : ¬ D' > 2932896 := by omega
              simp [this]; omega
            have hi2 : SmearP.InT (l.map toL) (ScaleP.beg (l.map toL) D' + 43200 - 63072000) D' := by unfold SmearP.InT; omega
            have s2 : smear_Smear.f 2001 (full l has exp) (ScaleP.beg (l.map toL) D' + 43200 - 63072000) 0 = some (D' * 86400 + 43200, 0, 0) := by
              rcases smear_cases ho (ScaleP.beg (l.map toL) D' + 43200 - 63072000) 0 (by unfold I64; omega) 2001 (by omega) with ⟨e', he', hp', hs'⟩ | ⟨d2, sec2, A3, _, _, _, _, _, _, _, hc2⟩
              · exfalso
                unfold smear_Plain.f at hp'
                rw [sright_law ho _ 0 (by omega) (by omega) _ (by omega)] at hp'
                simp only [Option.bind_some, if_true] at hp'
                rw [f2] at hp'
                simp only [Option.bind_some, if_true] at hp'
                have := (Prod.mk.inj (Prod.mk.inj (Option.some.inj hp')).2).2
                exact he' this.symm
              · rcases hc2 with ⟨ni2, _⟩ | ⟨D2, hD2, hi3, hs2⟩
                · exact absurd hi2 (ni2 D' hD)
                · obtain rfl := SmearP.inT_uniq _ (tG ho) _ D2 D' hi3 hi2
                  rw [hs2, smR_eq]
                  have : SmearP.sm (l.map toL) (ScaleP.beg (l.map toL) D2 + 43200 - 63072000) 0 D2 = 0 := by
                    unfold SmearP.sm
                    rw [show ScaleP.beg (l.map toL) D2 + 43200 - 63072000 - (ScaleP.beg (l.map toL) D2 + 43200 - 63072000) = 0 by omega]; simp
                  rw [this]; simp
            rw [s2, f2]
            simp only [Option.bind_some, if_true]
            have x0 : 0 ≤ (t - (ScaleP.beg (l.map toL) D' + 43200 - 63072000)) * 1000000000 + n := by omega
            have x1 : (t - (ScaleP.beg (l.map toL) D' + 43200 - 63072000)) * 1000000000 + n < 90000000000000 := by omega
            have hq : SmearP.sm (l.map toL) t n D' = ((t - (ScaleP.beg (l.map toL) D' + 43200 - 63072000)) * 1000000000 + n) * 86400 / (86400 + LeapP.stp (l.map toL) D') := rfl
            rw [w64 (n := t - (ScaleP.beg (l.map toL) D' + 43200 - 63072000)) (by omega) (by omega), w64 (n := (t - (ScaleP.beg (l.map toL) D' + 43200 - 63072000)) * 1000000000) (by omega) (by omega), w64 (n := (t - (ScaleP.beg (l.map toL) D' + 43200 - 63072000)) * 1000000000 + n) (by omega) (by omega)]
            generalize SmearP.sm (l.map toL) t n D' = q at *
            generalize (t - (ScaleP.beg (l.map toL) D' + 43200 - 63072000)) * 1000000000 + n = x at *
            have yy : wrap64 (wrap64 (wrap64 (D' * 86400 + 43200 + q / 1000000000 - (D' * 86400 + 43200)) * 1000000000) + q % 1000000000) = q := by
              rw [w64 (n := D' * 86400 + 43200 + q / 1000000000 - (D' * 86400 + 43200)) (by omega) (by omega), w64 (n := (D' * 86400 + 43200 + q / 1000000000 - (D' * 86400 + 43200)) * 1000000000) (by omega) (by omega), w64 (by omega) (by omega)]
              omega
            rw [yy, w64 (n := q + 1) (by omega) (by omega)]
            have c1 : (D' * 86400 + 43200 == D' * 86400 + 43200 && ((0 : Int) == 0)) = true := by simp
            rw [c1, tm (a := D' * 86400 + 43200) (b := 86400) (by omega)]
            simp only [if_true]
            generalize LeapP.stp (l.map toL) D' = s at *
            rw [if_pos (by omega), if_pos (by omega), if_pos (by omega), less_law _ _ _ _ (by unfold IW; omega) (by unfold IW; omega) (by unfold IW; omega) (by unfold IW; omega), less_law _ _ _ _ (by unfold IW; omega) (by unfold IW; omega) (by unfold IW; omega) (by unfold IW; omega)]
            simp only [Option.bind_some]
            rcases w.2.2.1 with rfl | rfl
            · rw [decide_eq_false (by rintro ⟨_, _, _, _, h⟩; omega), decide_eq_true ⟨by omega, by omega, by omega, by omega, by omega⟩]
              simp
            · rw [decide_eq_false (by rintro ⟨_, _, _, _, h⟩; omega), decide_eq_true ⟨by omega, by omega, by omega, by omega, by omega⟩]
              simp
          · exact absurd hi (a D hD)
end Go.Proofs.Ythoigncoojcanaa.Pure
