/- ScaleNext: the next second of TAI is the day's next one, or the next day's first one, as its length says; any records, any second of TAI: no condition. -/
import Derived.Test.YthecldgopjaogaaSmall22
import Derived.Test.YthecldgopjaogaaStmtScaleNext
namespace Go.Proofs.Ythecldgopjaogaa.Pure
open Go.RowKit Go.Proofs.Ythecldgopjaogaa.PAll Go.Proofs.YthecldgopjaogaaW.PrintWords Go.Proofs.YthecldgopjaogaaW.PrintLast
theorem ScaleNext : epactlaw22_ScaleNext.Pure := by
  intro m t hw hm ht
  have hw := wr_of hw
  refine ⟨2002, ?_⟩
  unfold epactlaw22_ScaleNext.f
  rw [small22 2002 (by omega)]
  simp only [Option.bind_some]
  have out : epactlaw22_ScaleNext.j0 2002 m t true true = some true := by simp [epactlaw22_ScaleNext.j0]
  by_cases h0 : (m.length : Int) > 300
  · rw [if_pos h0]; exact out
  · rw [if_neg h0]
    by_cases h1 : t < 0
    · rw [if_pos h1]; exact out
    · rw [if_neg h1]
      by_cases h2 : t > 1152921504606846976
      · rw [decide_eq_true h2]; exact out
      · rw [decide_eq_false h2]
        clear out
        simp only [epactlaw22_ScaleNext.j0, Bool.false_eq_true, if_false]
        rw [w64 (n := t + 1) (by omega) (by omega)]
        rcases known_cases m (by omega) hw 2001 (by omega) with ⟨nk, _⟩ | ⟨l, has, exp, ho, rfl⟩
        · rw [utc_no m t (by unfold I64; omega) _ nk, utc_no m (t + 1) (by unfold I64; omega) _ nk]
          simp [epactlaw22_ScaleNext.j1]
        · have G := tG ho
          obtain ⟨a, b, A⟩ := ScaleP.at_ex _ G t (by omega)
          have sa := ScaleP.stp_bd _ a G
          have bd := ScaleP.at_bd _ G (tl ho) _ _ _ A
          have a0 := A.d0
          have b0 := A.s0
          have b1 := A.s1
          rw [utc_law ho t (by unfold I64; omega) (by omega) a b A _ (by omega)]
          simp only [Option.bind_some]
          -- the next one
          have next : ∀ c d, ScaleP.At (l.map toL) (t + 1) c d → a ≤ c → (c = a ∧ d = b + 1 ∧ b + 1 < 86400 + LeapP.stp (l.map toL) a ∨ c = a + 1 ∧ d = 0 ∧ b + 1 = 86400 + LeapP.stp (l.map toL) a) →
              ((scale_Utc.f 2001 (full l has exp) (t + 1)).bind fun bt411 => (if (ScaleP.utcR has (ScaleP.fin (l.map toL) exp) t a b).2.2 = 0 then (epactlaw22_ScaleNext.j1 2001 (full l has exp) true (ScaleP.utcR has (ScaleP.fin (l.map toL) exp) t a b).1 (ScaleP.utcR has (ScaleP.fin (l.map toL) exp) t a b).2.1 (ScaleP.utcR has (ScaleP.fin (l.map toL) exp) t a b).2.2 bt411.1 bt411.2.1 bt411.2.2 (bt411.2.2 != 0)) else (epactlaw22_ScaleNext.j1 2001 (full l has exp) true (ScaleP.utcR has (ScaleP.fin (l.map toL) exp) t a b).1 (ScaleP.utcR has (ScaleP.fin (l.map toL) exp) t a b).2.1 (ScaleP.utcR has (ScaleP.fin (l.map toL) exp) t a b).2.2 bt411.1 bt411.2.1 bt411.2.2 true))) = some true := by
            intro c d A2 hac hcd
            rw [utc_law ho (t + 1) (by unfold I64; omega) (by omega) c d A2 _ (by omega)]
            simp only [Option.bind_some]
            by_cases he : (ScaleP.utcR has (ScaleP.fin (l.map toL) exp) t a b).2.2 = 0
            · obtain ⟨u1, u2, u3⟩ := ScaleP.utcR_ok he
              rw [if_pos he, u3]
              simp only
              by_cases hf : (ScaleP.utcR has (ScaleP.fin (l.map toL) exp) (t + 1) c d).2.2 = 0
              · obtain ⟨v1, v2, v3⟩ := ScaleP.utcR_ok hf
                rw [v3]
                simp only [bne_self_eq_false]
                simp only [epactlaw22_ScaleNext.j1, Bool.false_eq_true, if_false]
                rw [length_law1 ho a _ (by omega)]
                simp only [Option.bind_some]
                rw [if_neg (show ¬ (a < 730 ∨ a > 2932896) by omega)]
                simp only [if_true]
                rw [w64 (n := b + 1) (by omega) (by omega), w64 (n := 86400 + LeapP.stp (l.map toL) a - 1) (by omega) (by omega), w64 (n := a + 1) (by omega) (by omega)]
                rcases hcd with ⟨rfl, rfl, hlt⟩ | ⟨rfl, rfl, heq⟩
                · rw [if_pos hlt, if_pos rfl]; simp
                · rw [if_neg (by omega), if_pos (by omega), if_pos rfl]; simp
              · have : ((ScaleP.utcR has (ScaleP.fin (l.map toL) exp) (t + 1) c d).2.2 != 0) = true := by simp [hf]
                rw [this]
                simp [epactlaw22_ScaleNext.j1]
            · have hf : (ScaleP.utcR has (ScaleP.fin (l.map toL) exp) (t + 1) c d).2.2 ≠ 0 := by
                unfold ScaleP.utcR at he ⊢
                by_cases x1 : has = true ∧ ScaleP.fin (l.map toL) exp ≤ t
                · rw [if_pos ⟨x1.1, by omega⟩]; simp
                · rw [if_neg x1] at he
                  by_cases x2 : a > 2932896
                  · by_cases x3 : has = true ∧ ScaleP.fin (l.map toL) exp ≤ t + 1
                    · rw [if_pos x3]; simp
                    · rw [if_neg x3, if_pos (by omega)]; simp
                  · rw [if_neg x2] at he; exact absurd rfl he
              rw [if_neg he]
              simp only [epactlaw22_ScaleNext.j1, if_true, if_neg he]
              simp [hf]
          rcases ScaleP.at_next _ G t a b A with ⟨hl, A2⟩ | ⟨hl, A2⟩
          · exact next a (b + 1) A2 (by omega) (.inl ⟨rfl, rfl, hl⟩)
          · exact next (a + 1) 0 A2 (by omega) (.inr ⟨rfl, rfl, hl⟩)
end Go.Proofs.Ythecldgopjaogaa.Pure
