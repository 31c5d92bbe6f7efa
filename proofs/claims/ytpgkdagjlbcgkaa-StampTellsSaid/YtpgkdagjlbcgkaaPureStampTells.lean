/- StampTells: clocks, seconds, texts, and what they say, are those of the document's answer, for any numbers and any text: no condition. -/
import Derived.Test.YtpgkdagjlbcgkaaRef04
import Derived.Test.YtpgkdagjlbcgkaaSmall04
import Derived.Test.YtpgkdagjlbcgkaaPAllx7
namespace Go.Proofs.Ytpgkdagjlbcgkaa.Pure
open Go.RowKit Go.Proofs.Ytpgkdagjlbcgkaa.PAll Go.Proofs.YtpgkdagjlbcgkaaW.PrintWords Go.Proofs.YtpgkdagjlbcgkaaW.PrintLast

theorem StampTells : epactlaw04_StampTells.Pure := by
  intro d sec h m s t _ _ _ _ _ _
  refine ⟨10300, ?_⟩
  unfold epactlaw04_StampTells.f
  rw [small04 10298]
  simp only [Option.bind_some]
  by_cases hz : (t.size : Int) > 200
  · rw [if_pos hz]
  · rw [if_neg hz, clock_law 10299, ref_clock_law 10299, second_law 10299, ref_second_law, text_law 10299, ref_text_law 10300 (by omega), day_law 10299, ref_dayt_law 10300 (by omega)]
    simp only [Option.bind_some]
    rcases parse_law 10299 t (by omega) with ⟨y, mm, dd, hh, n, tt, rfl, v, c⟩ | ⟨e, hn⟩
    · rw [parse_text 10299 _ _ _ _ _ _ v c, ref_parse_text 10300 (by omega) _ _ _ _ _ _ v c]; simp
    · rw [e, ref_parse_else 10300 (by omega) _ hn]; simp

end Go.Proofs.Ytpgkdagjlbcgkaa.Pure
