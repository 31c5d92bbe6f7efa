/- RecordParts: the beginnings of right records are right, and what is wrong of a beginning is wrong of the whole, but of an expiry; any records, cut anywhere: no condition. -/
import Derived.Test.YtmnkfafnfjpliaaSmall12
import Derived.Test.YtmnkfafnfjpliaaRecQ
import Derived.Test.YtmnkfafnfjpliaaStmtRecordParts
namespace Go.Proofs.Ytmnkfafnfjpliaa.Pure
open Go.RowKit Go.Proofs.Ytmnkfafnfjpliaa.PAll Go.Proofs.YtmnkfafnfjpliaaW.PrintWords Go.Proofs.YtmnkfafnfjpliaaW.PrintLast
theorem RecordParts : epactlaw12_RecordParts.Pure := by
  intro l c hw hm hc
  have hw := wr_of hw
  refine ⟨2002, ?_⟩
  unfold epactlaw12_RecordParts.f
  rw [small12 2002 (by omega)]
  simp only [Option.bind_some]
  have out : epactlaw12_RecordParts.j0 2002 l c true true = some true := by simp [epactlaw12_RecordParts.j0]
  by_cases h0 : (l.length : Int) > 300
  · rw [if_pos h0]; exact out
  · rw [if_neg h0]
    by_cases h1 : c < 0
    · rw [if_pos h1]; exact out
    · rw [if_neg h1]
      by_cases h2 : c > (l.length : Int)
      · rw [decide_eq_true h2]; exact out
      · rw [decide_eq_false h2]
        clear out
        obtain ⟨n, rfl⟩ := Int.eq_ofNat_of_zero_le (show 0 ≤ c by omega)
        simp only [epactlaw12_RecordParts.j0, Bool.false_eq_true, if_false]
        rw [rcheck_law l (by omega) hw _ (by omega)]
        simp only [Option.bind_some]
        rw [if_pos (by omega), if_pos (by omega), Int.toNat_natCast]
        rw [rcheck_law (l.take n) (by rw [List.length_take]; omega) (wr_take n hw) _ (by rw [List.length_take]; omega)]
        simp only [Option.bind_some, if_true]
        rw [List.map_take]
        unfold RecP.check
        obtain ⟨p1, p2, p3⟩ := RecP.chk_parts (l.map toR) n 0 RecP.start (by rw [List.length_map]; omega)
        have ql := RecP.chk_len (l.map toR) 0 RecP.start
        have qp := RecP.chk_len ((l.map toR).take n) 0 RecP.start
        rw [List.length_map] at ql
        rw [List.length_take, List.length_map] at qp
        generalize RecP.chk (l.map toR) 0 RecP.start = A at *
        generalize RecP.chk ((l.map toR).take n) 0 RecP.start = B at *
        by_cases ha : A.2 = 0
        · have hb := p1 ha
          rw [if_pos ha, if_pos (by rw [ql ha]; simp), if_pos hb]
          rw [qp hb]
          simp; omega
        · rw [if_neg ha]
          by_cases hb : B.2 = 0
          · have := p3 hb
            rw [if_pos hb, if_pos (by rw [qp hb]; simp; omega), w64 (by omega) (by omega), decide_eq_true (by omega)]
          · have := p2 hb
            rw [if_neg hb, if_pos (by omega), decide_eq_true (by omega)]
end Go.Proofs.Ytmnkfafnfjpliaa.Pure
