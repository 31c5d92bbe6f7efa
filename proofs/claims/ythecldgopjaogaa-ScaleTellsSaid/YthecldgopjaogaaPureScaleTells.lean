/- ScaleTells: seconds of both scales, lengths, and ends are the document's answers; any records, any second, any day, any second of it: no condition. -/
import Derived.Test.YthecldgopjaogaaSmall22
import Derived.Test.YthecldgopjaogaaScaleE
import Derived.Test.YthecldgopjaogaaRef22
import Derived.Test.YthecldgopjaogaaStmtScaleTells
import Derived.Test.YthecldgopjaogaaPAllx10
namespace Go.Proofs.Ythecldgopjaogaa.Pure
open Go.RowKit Go.Proofs.Ythecldgopjaogaa.PAll Go.Proofs.YthecldgopjaogaaW.PrintWords Go.Proofs.YthecldgopjaogaaW.PrintLast
theorem ScaleTells : epactlaw22_ScaleTells.Pure := by
  intro m t d sec hw hm ht hd hs
  have hw := wr_of hw
  have ht := i64_of ht
  have hs := i64_of hs
  refine ⟨12001, ?_⟩
  unfold epactlaw22_ScaleTells.f
  rw [small22 12001 (by omega)]
  simp only [Option.bind_some]
  by_cases h0 : (m.length : Int) > 300
  · rw [if_pos h0]
  · rw [if_neg h0]
    unfold epactref22_Known.f
    rcases known_cases m (by omega) hw 12001 (by omega) with ⟨nk, ne⟩ | ⟨l, has, exp, ho, rfl⟩
    · have rt := ref_table_no m (by omega) hw ne 12001 (by omega)
      have re : epactref22_End.f 12001 m = some (0, false) := by
        unfold epactref22_End.f
        rw [rt, ref_rexpiry_law m (by omega)]; simp
      rw [utc_no m t ht _ nk, ref_utc_no m t _ rt, tai_no m d sec _ nk, ref_tai_no m d sec _ rt, length_no m d _ nk, ref_length_no m d _ rt (by omega), end_no m (by omega) 12000 nk, re, nk, rt]
      simp
    · have rt := ref_table_full ho 12001 (by omega)
      rw [tai_law ho d sec hs _ (by omega), ref_tai_law ho d sec hs _ (by omega), length_law1 ho d _ (by omega), ref_length_law ho d _ (by omega), end_full ho _ (by omega), ref_end_full ho _ (by omega), known_law ho _ (by omega), rt]
      by_cases hn : t < 0
      · rw [utc_neg ho t ht hn _ (by omega), ref_utc_neg ho t hn _ (by omega)]
        simp
      · obtain ⟨a, b, A⟩ := ScaleP.at_ex _ (tG ho) t (by omega)
        rw [utc_law ho t ht (by omega) a b A _ (by omega), ref_utc_law ho t ht (by omega) a b A _ (by omega)]
        simp
end Go.Proofs.Ythecldgopjaogaa.Pure
