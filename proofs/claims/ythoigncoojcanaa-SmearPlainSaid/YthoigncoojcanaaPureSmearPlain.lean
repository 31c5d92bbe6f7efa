/- SmearPlain: without leap seconds nothing is smeared, and what is smeared is unsmeared just so; any tick: no condition. -/
import Derived.Test.YthoigncoojcanaaS25
import Derived.Test.YthoigncoojcanaaStmtSmearPlain
namespace Go.Proofs.Ythoigncoojcanaa.Pure
open Go.RowKit Go.Proofs.Ythoigncoojcanaa.PAll Go.Proofs.YthoigncoojcanaaW.PrintWords Go.Proofs.YthoigncoojcanaaW.PrintLast
set_option linter.unusedSimpArgs false
set_option linter.unusedVariables false
theorem nil_ok : okT [] false 0 = true := by decide
theorem nil_full : full [] false 0 = [] := rfl
theorem nil_at (t d sec : Int) (A : ScaleP.At (List.map toL []) t d sec) : d * 86400 + sec = t + 63072000 ∧ 0 ≤ sec ∧ sec < 86400 ∧ 730 ≤ d := by
  have a := A.eq; have b := A.s0; have c := A.s1; have e := A.d0
  have s : LeapP.stp (List.map toL []) d = 0 := rfl
  have g : ScaleP.beg (List.map toL []) d = d * 86400 + 0 := rfl
  rw [s] at c
  rw [g] at a
  omega
theorem SmearPlain : epactlaw25_SmearPlain.Pure := by
  intro t n ht hn
  have ht := i64_of ht
  refine ⟨2001, ?_⟩
  unfold epactlaw25_SmearPlain.f
  rw [small25 2001 (by omega)]
  simp only [Option.bind_some]
  have no : ∀ D, ¬ LeapP.stp (List.map toL ([] : List S49)) D ≠ 0 := fun D h => h rfl
  have win : smear_Window.f 2001 [] t = some (0, 0, false) := by
    rcases window_law nil_ok t 2001 (by omega) with ⟨D, a, b, e⟩ | ⟨a, e⟩
    · exact absurd a (no D)
    · rw [nil_full] at e; exact e
  rw [win]
  rcases smear_cases nil_ok t n ht 2001 (by omega) with ⟨e, he, hp, hs⟩ | ⟨d, sec, A, nx, hd, n0, n1, hu, hf, hp, hc⟩
  · rw [nil_full] at hp hs
    rw [hp, hs]
    simp [he]
  · rcases hc with ⟨ni, hs⟩ | ⟨D, hD, hi, hs⟩
    · obtain ⟨q, s0, s1, d0⟩ := nil_at t d sec A
      have mn : min sec 86399 = sec := by omega
      have us := unsmear_out nil_ok (d * 86400 + sec) n (by unfold I64; omega) n0 n1 (fun D h => absurd h (no D)) 2001 (by omega)
      rw [show (d * 86400 + sec) / 86400 = d by omega, show (d * 86400 + sec) % 86400 = sec by omega, ScaleP.tai_at A hd (by omega) nx, if_pos rfl] at us
      rw [nil_full] at hp hs us
      rw [hp, hs, mn]
      simp only [Option.bind_some, if_true]
      rw [us]
      simp only [Option.bind_some, if_true]
      rw [w64 (by omega) (by omega), q]
      simp
    · exact absurd hD (no D)
end Go.Proofs.Ythoigncoojcanaa.Pure
