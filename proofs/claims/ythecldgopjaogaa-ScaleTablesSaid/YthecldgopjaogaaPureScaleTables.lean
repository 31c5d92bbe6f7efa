/- ScaleTables: by the records of a table days are as long as the table says, and inserted and removed seconds are just its leaps'; any table, any day: no condition. -/
import Derived.Test.YthecldgopjaogaaSmall22
import Derived.Test.YthecldgopjaogaaRecB
import Derived.Test.YthecldgopjaogaaLeapF
import Derived.Test.YthecldgopjaogaaStmtScaleTables
import Derived.Test.YthecldgopjaogaaPAllx12
namespace Go.Proofs.Ythecldgopjaogaa.Pure
open Go.RowKit Go.Proofs.Ythecldgopjaogaa.PAll Go.Proofs.YthecldgopjaogaaW.PrintWords Go.Proofs.YthecldgopjaogaaW.PrintLast
theorem ScaleTables : epactlaw22_ScaleTables.Pure := by
  intro l has exp d hg hl he hd
  refine ⟨2001, ?_⟩
  unfold epactlaw22_ScaleTables.f
  rw [small22 2001 (by omega), show epactlaw09_Few.f l has exp = some (decide ((l.length : Int) ≤ 300)) from rfl]
  simp only [Option.bind_some]
  have out : epactlaw22_ScaleTables.j0 2001 d true true l has exp = some true := by simp [epactlaw22_ScaleTables.j0]
  by_cases hf : (l.length : Int) ≤ 300
  · rw [decide_eq_true hf, if_pos rfl]
    by_cases h1 : d < 730
    · rw [if_pos h1]; exact out
    · rw [if_neg h1]
      by_cases h2 : d > 2932896
      · rw [decide_eq_true h2]; exact out
      · rw [decide_eq_false h2]
        clear out
        simp only [epactlaw22_ScaleTables.j0, Bool.false_eq_true, if_false]
        rw [records_law l has exp (by omega) _ (by omega)]
        simp only [Option.bind_some]
        by_cases ho : okT l has exp = true
        · rw [if_pos ho]
          simp only [if_true]
          have hb : okT l false 0 = true := by
            have o := (okT_iff l has exp).1 ho
            exact (okT_iff l false 0).2 ⟨⟨o.1.1, o.1.2.1, by unfold LeapP.badEnd; simp⟩, o.2⟩
          have G := tG ho
          have ln := okT_len ho
          have sb := ScaleP.stp_bd _ d G
          have bn := ScaleP.beg_near _ G (tl ho) d
          have bg : ScaleP.beg (l.map toL) d = d * 86400 + LeapP.tot (l.map toL) d := rfl
          rw [records_law l false 0 (by omega) _ (by omega), if_pos hb]
          simp only [Option.bind_some]
          rw [show (RecP.full (l.map toL) has exp).map frR = full l has exp from rfl, show (RecP.full (l.map toL) false 0).map frR = full l false 0 from rfl]
          rw [length_law1 ho d _ (by omega), tai_law hb d 86400 (by unfold I64; omega) _ (by omega), tai_law hb d 86399 (by unfold I64; omega) _ (by omega), tai_law hb d 0 (by unfold I64; omega) _ (by omega), step_law l false 0 d 729 G (by omega), length_law l false 0 d 729 G (by omega)]
          simp only [Option.bind_some]
          rw [if_neg (show ¬ (d < 730 ∨ d > 2932896) by omega)]
          simp only [if_true]
          have t0 : ScaleP.taiR (l.map toL) false 0 d 0 = (ScaleP.beg (l.map toL) d - 63072000, 0) := by
            unfold ScaleP.taiR
            rw [if_neg (by omega), if_neg (by omega), if_neg (by simp), Int.add_zero]
          have t1 : (ScaleP.taiR (l.map toL) false 0 d 86400).2 = if LeapP.stp (l.map toL) d = 1 then 0 else 11 := by
            unfold ScaleP.taiR
            rw [if_neg (by omega)]
            by_cases hs : LeapP.stp (l.map toL) d = 1
            · rw [if_neg (by omega), if_neg (by simp), if_pos hs]
            · rw [if_pos (by omega), if_neg hs]
          have t2 : (ScaleP.taiR (l.map toL) false 0 d 86399).2 = if LeapP.stp (l.map toL) d = -1 then 11 else 0 := by
            unfold ScaleP.taiR
            rw [if_neg (by omega)]
            by_cases hs : LeapP.stp (l.map toL) d = -1
            · rw [if_pos (by omega), if_pos hs]
            · rw [if_neg (by omega), if_neg (by simp), if_neg hs]
          rw [t0, t1, t2, total_law l false 0 d 729 G ln _ (by omega)]
          simp only [Option.bind_some, if_true]
          have e : wrap64 (wrap64 (86400 * wrap64 (d - 730)) + LeapP.tot (l.map toL) d) = ScaleP.beg (l.map toL) d - 63072000 := by
            rw [bg] at bn ⊢
            rw [w64 (n := d - 730) (by omega) (by omega), w64 (n := 86400 * (d - 730)) (by omega) (by omega), w64 (by omega) (by omega)]; omega
          rw [e]
          rcases sb with s | s | s <;> simp [s]
        · rw [if_neg ho]; simp
  · rw [decide_eq_false hf, if_neg (by simp)]; exact out
end Go.Proofs.Ythecldgopjaogaa.Pure
