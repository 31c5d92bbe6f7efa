/- PosixTells: POSIX seconds of days and of TAI, and these of them, are the document's answers; any records, any second, any day, any second of it: no condition. -/
import Derived.Test.YtlfnkamhokfeaaaSmall23
import Derived.Test.YtlfnkamhokfeaaaRef23
import Derived.Test.YtlfnkamhokfeaaaStmtPosixTells
namespace Go.Proofs.Ytlfnkamhokfeaaa.Pure
open Go.RowKit Go.Proofs.Ytlfnkamhokfeaaa.PAll Go.Proofs.YtlfnkamhokfeaaaW.PrintWords Go.Proofs.YtlfnkamhokfeaaaW.PrintLast
theorem PosixTells : epactlaw23_PosixTells.Pure := by
  intro m p d sec hw hm hp hd hs
  have hw := wr_of hw
  have hp := i64_of hp
  refine ⟨12001, ?_⟩
  unfold epactlaw23_PosixTells.f
  rw [small23 12001 (by omega)]
  simp only [Option.bind_some]
  by_cases h0 : (m.length : Int) > 300
  · rw [if_pos h0]
  · rw [if_neg h0, of_law, ref_of_law, pday_law p hp, ref_pday_law p hp]
    simp only [Option.bind_some]
    rcases known_cases m (by omega) hw 12001 (by omega) with ⟨nk, ne⟩ | ⟨l, has, exp, ho, rfl⟩
    · have rt := ref_table_no m (by omega) hw ne 12001 (by omega)
      have r1 : epactref23_Tai.f 12001 m p = some (0, 1) := by
        unfold epactref23_Tai.f; rw [ref_pday_law p hp]; simp only [Option.bind_some]; rw [ref_tai_no m _ _ _ rt]; rfl
      have r2 : epactref23_Utc.f 12001 m p = some (0, 0, 1) := by unfold epactref23_Utc.f; rw [r1]; simp
      have r3 : epactref23_From.f 12001 m p = some (0, 1) := by unfold epactref23_From.f; rw [ref_utc_no m p _ rt]; simp
      have r4 : epactref23_Twice.f 12001 m p = some (false, 1) := by unfold epactref23_Twice.f; rw [r1]; simp
      rw [putc_no m p hp _ nk, r2, ptai_no m p hp _ nk, r1, pfrom_no m p hp _ nk, r3, twice_no m p hp _ nk, r4]
      simp
    · obtain ⟨u, f1, f2⟩ := from_both ho p hp 12001 (by omega)
      obtain ⟨v, w1, w2⟩ := twice_both ho p hp 12001 (by omega)
      rw [putc_law ho p hp _ (by omega), ref_putc_law ho p hp _ (by omega), ptai_law ho p hp _ (by omega), ref_ptai_law ho p hp _ (by omega), f1, f2, w1, w2]
      simp
end Go.Proofs.Ytlfnkamhokfeaaa.Pure
