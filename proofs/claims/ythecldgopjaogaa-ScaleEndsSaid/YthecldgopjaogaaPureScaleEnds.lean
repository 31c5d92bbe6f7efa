/- ScaleEnds: behind the end nothing is told, nor ahead of the first second, and all between is, as far as there are days; any records, any second of TAI: no condition. -/
import Derived.Test.YthecldgopjaogaaSmall22
import Derived.Test.YthecldgopjaogaaScaleE
import Derived.Test.YthecldgopjaogaaStmtScaleEnds
namespace Go.Proofs.Ythecldgopjaogaa.Pure
open Go.RowKit Go.Proofs.Ythecldgopjaogaa.PAll Go.Proofs.YthecldgopjaogaaW.PrintWords Go.Proofs.YthecldgopjaogaaW.PrintLast
theorem ScaleEnds : epactlaw22_ScaleEnds.Pure := by
  intro m t hw hm ht
  have hw := wr_of hw
  have ht := i64_of ht
  refine ⟨2001, ?_⟩
  unfold epactlaw22_ScaleEnds.f
  rw [small22 2001 (by omega)]
  simp only [Option.bind_some]
  by_cases h0 : (m.length : Int) > 300
  · rw [if_pos h0]
  · rw [if_neg h0]
    rcases known_cases m (by omega) hw 2001 (by omega) with ⟨nk, _⟩ | ⟨l, has, exp, ho, rfl⟩
    · rw [utc_no m t ht _ nk, nk, end_no m (by omega) 2000 nk]; simp
    · have G := tG ho
      rw [known_law ho _ (by omega), end_full ho _ (by omega)]
      by_cases hn : t < 0
      · rw [utc_neg ho t ht hn _ (by omega)]
        simp only [Option.bind_some, if_true]
        rw [if_pos hn]; rfl
      · obtain ⟨a, b, A⟩ := ScaleP.at_ex _ G t (by omega)
        have bd := ScaleP.at_bd _ G (tl ho) _ _ _ A
        have a0 := A.d0
        have b0 := A.s0
        rw [utc_law ho t ht (by omega) a b A _ (by omega)]
        simp only [Option.bind_some, if_true]
        rw [if_neg hn]
        have fin : ¬ (has = true ∧ ScaleP.fin (l.map toL) exp ≤ t) → epactlaw22_ScaleEnds.j0 2001 t true (ScaleP.utcR has (ScaleP.fin (l.map toL) exp) t a b).1 (ScaleP.utcR has (ScaleP.fin (l.map toL) exp) t a b).2.1 (ScaleP.utcR has (ScaleP.fin (l.map toL) exp) t a b).2.2 false = some true := by
          intro hne
          unfold ScaleP.utcR
          rw [if_neg hne]
          simp only [epactlaw22_ScaleEnds.j0, Bool.false_eq_true, if_false, if_true]
          by_cases hd : a > 2932896
          · rw [if_pos hd, if_neg (by omega)]; simp
          · rw [if_neg hd]
            simp only [if_true]
            rw [if_neg (show ¬ (0 : Int) = 9 by omega), if_pos (show a ≥ 730 by omega), if_pos (show a ≤ 2932896 by omega), if_pos (show b ≥ 0 by omega), decide_eq_true (show b ≤ 86400 by omega)]
            split <;> rfl
        cases has with
        | true =>
          simp only [if_true]
          by_cases he : ScaleP.fin (l.map toL) exp ≤ t
          · rw [decide_eq_true he]
            simp only [epactlaw22_ScaleEnds.j0, if_true]
            unfold ScaleP.utcR
            rw [if_pos ⟨rfl, he⟩]; rfl
          · rw [decide_eq_false he]; exact fin (fun h => he h.2)
        | false =>
          simp only [Bool.false_eq_true, if_false]
          exact fin (fun h => by simp at h)
end Go.Proofs.Ythecldgopjaogaa.Pure
