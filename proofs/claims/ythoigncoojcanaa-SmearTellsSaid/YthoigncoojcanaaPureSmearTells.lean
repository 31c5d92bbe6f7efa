/- SmearTells: windows, and ticks that are smeared, and not, are the document's answers, for any records and any ticks: no condition. -/
import Derived.Test.YthoigncoojcanaaS25
import Derived.Test.YthoigncoojcanaaF25
import Derived.Test.YthoigncoojcanaaStmtSmearTells
namespace Go.Proofs.Ythoigncoojcanaa.Pure
open Go.RowKit Go.Proofs.Ythoigncoojcanaa.PAll Go.Proofs.YthoigncoojcanaaW.PrintWords Go.Proofs.YthoigncoojcanaaW.PrintLast
theorem SmearTells : epactlaw25_SmearTells.Pure := by
  intro m t n p q hw hm ht _ hp _
  have hw := wr_of hw
  have ht := i64_of ht
  have hp := i64_of hp
  refine ⟨12500, ?_⟩
  unfold epactlaw25_SmearTells.f
  rw [small25 12500 (by omega)]
  simp only [Option.bind_some]
  by_cases h0 : (m.length : Int) > 150
  · rw [if_pos h0]
  · rw [if_neg h0]
    rcases known_cases m (by omega) hw 12500 (by omega) with ⟨nk, ne⟩ | ⟨l, has, exp, ho, rfl⟩
    · have rt := ref_table_no m (by omega) hw ne 12500 (by omega)
      have rk : epactref22_Known.f 12500 m = some false := by unfold epactref22_Known.f; rw [rt]; rfl
      have e1 : epactref25_Window.f 12500 m t = some (0, 0, false) := by unfold epactref25_Window.f; rw [rk]; simp
      have e2 : ∀ a b, epactref25_Plain.f 12500 m a b = some (0, 0, 1) := by intro a b; unfold epactref25_Plain.f; rw [rk]; simp [epactref25_Plain.j0]
      have e3 : epactref25_Smear.f 12500 m t n = some (0, 0, 1) := by unfold epactref25_Smear.f; rw [e2]; simp
      have e4 : epactref25_Unsmear.f 12500 m p q = some (0, 0, 1) := by unfold epactref25_Unsmear.f; rw [rk]; simp [epactref25_Unsmear.j0]
      have r1 := right_no m t n 12500 nk
      have r2 := right_no m p q 12500 nk
      rw [window_no m t _ nk, e1, smear_no m t n 1 (by omega) _ (plain_no m t n _ r1), e3, unsmear_no m p q _ r2, e4, plain_no m t n _ r1, e2, sless_law, ref_sless_law]
      simp
    · obtain ⟨a, a1, a2⟩ := window_both ho t ht 12500 (by omega)
      obtain ⟨b, b1, b2⟩ := smear_both ho t n ht 12500 (by omega)
      obtain ⟨c, c1, c2⟩ := unsmear_both ho p q hp
      obtain ⟨d, d1, d2⟩ := plain_both ho t n ht 12500 (by omega)
      rw [a1, a2, b1, b2, c1, c2, d1, d2, sless_law, ref_sless_law]
      simp
end Go.Proofs.Ythoigncoojcanaa.Pure
