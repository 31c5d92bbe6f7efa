/- SmearRises: of two ticks the later one is smeared no earlier, and a whole second later, later; any records, any tick, any number of nanoseconds: no condition. -/
import Derived.Test.YthoigncoojcanaaS25
import Derived.Test.YthoigncoojcanaaStmtSmearRises
namespace Go.Proofs.Ythoigncoojcanaa.Pure
open Go.RowKit Go.Proofs.Ythoigncoojcanaa.PAll Go.Proofs.YthoigncoojcanaaW.PrintWords Go.Proofs.YthoigncoojcanaaW.PrintLast
set_option linter.unusedSimpArgs false
set_option linter.unusedVariables false
theorem smear_Sm {l : List S49} {has : Bool} {exp : Int} (ho : okT l has exp = true) (t n : Int) (ht : I64 t) (k : Nat) (hk : 1400 < k) :
    (∃ e, e ≠ 0 ∧ smear_Smear.f k (full l has exp) t n = some (0, 0, e)) ∨ ∃ a b, smear_Smear.f k (full l has exp) t n = some (a, b, 0) ∧ 0 ≤ b ∧ b < 1000000000 ∧ SmearP.Sm (l.map toL) t n (a * 1000000000 + b) := by
  rcases smear_cases ho t n ht k hk with ⟨e, he, hp, hs⟩ | ⟨d, sec, A, nx, hd, n0, n1, hu, hf, hp, hc⟩
  · exact .inl ⟨e, he, hs⟩
  · rcases hc with ⟨ni, hs⟩ | ⟨D, hD, hi, hs⟩
    · have o := SmearP.out_window _ (tG ho) t d sec A ni
      refine .inr ⟨_, _, hs, n0, n1, n0, n1, d, sec, A, .inl ⟨ni, ?_⟩⟩
      rw [show min sec 86399 = sec by omega]
    · refine .inr ⟨_, _, hs, by omega, by omega, n0, n1, d, sec, A, .inr ⟨D, hD, hi, ?_⟩⟩
      rw [smR_eq]; omega
theorem SmearRises : epactlaw25_SmearRises.Pure := by
  intro m t n N hw hm ht hn hN
  have hw := wr_of hw
  have ht := i64_of ht
  have hn := i64_of hn
  have hN := i64_of hN
  refine ⟨2003, ?_⟩
  unfold epactlaw25_SmearRises.f
  rw [small25 2003 (by omega)]
  simp only [Option.bind_some]
  have out : epactlaw25_SmearRises.j0 2003 m N true true t n = some true := by simp [epactlaw25_SmearRises.j0]
  by_cases h0 : (m.length : Int) > 150
  · rw [if_pos h0, out]
  · by_cases h1 : N < 0
    · rw [if_neg h0, if_pos h1, out]
    · by_cases h2 : N > 1000000000000000000
      · rw [if_neg h0, if_neg h1, if_pos h2, out]
      · by_cases h3 : t > 1152921504606846976
        · rw [if_neg h0, if_neg h1, if_neg h2, if_pos h3, out]
        · by_cases h4 : n < 0
          · rw [if_neg h0, if_neg h1, if_neg h2, if_neg h3, if_pos h4, out]
          · rw [if_neg h0, if_neg h1, if_neg h2, if_neg h3, if_neg h4]
            by_cases h5 : n ≥ 1000000000
            · rw [decide_eq_true h5, out]
            · rw [decide_eq_false h5]
              unfold I64 at ht hn hN
              have key : ∀ t' n', 0 ≤ n' → n' < 1000000000 → (t' - t) * 1000000000 + n' - n = N → t' ≤ 3000000000000000000 → epactlaw25_SmearRises.j1 2002 m N true t n t' n' = some true := by
                intro t' n' q0 q1 q2 q3
                have ht' : I64 t' := by unfold I64; omega
                simp only [epactlaw25_SmearRises.j1]
                have j2 : ∀ a b c d, epactlaw25_SmearRises.j2 2001 N true true a b c d = some true := by intro a b c d; simp [epactlaw25_SmearRises.j2]
                rcases known_cases m (by omega) hw 2001 (by omega) with ⟨nk, ne⟩ | ⟨l, has, exp, ho, rfl⟩
                · rw [smear_no m t n 1 (by omega) _ (plain_no m t n _ (right_no m t n _ nk)), smear_no m t' n' 1 (by omega) _ (plain_no m t' n' _ (right_no m t' n' _ nk))]
                  simp only [Option.bind_some]
                  rw [if_neg (by omega), j2]
                · rcases smear_Sm ho t n ht 2001 (by omega) with ⟨e, he, hs⟩ | ⟨a, b, hs, b0, b1, hS⟩
                  · rcases smear_Sm ho t' n' ht' 2001 (by omega) with ⟨e', he', hs'⟩ | ⟨a', b', hs', _, _, _⟩ <;>
                    · rw [hs, hs']
                      simp only [Option.bind_some]
                      rw [if_neg he, j2]
                  · rcases smear_Sm ho t' n' ht' 2001 (by omega) with ⟨e', he', hs'⟩ | ⟨a', b', hs', b0', b1', hS'⟩
                    · rw [hs, hs']
                      have : (e' != 0) = true := by rw [bne_iff_ne]; exact he'
                      simp only [Option.bind_some, if_true]
                      rw [this, j2]
                    · rw [hs, hs']
                      have : ((0 : Int) != 0) = false := rfl
                      simp only [Option.bind_some, if_true]
                      rw [this]
                      have R := SmearP.rises _ (tG ho) t n _ t' n' _ hS hS' (by omega)
                      simp only [epactlaw25_SmearRises.j2, Bool.false_eq_true, if_false, if_true]
                      rw [sless_law, sless_law]
                      simp only [Option.bind_some]
                      rw [decide_eq_false (by omega)]
                      simp only [Bool.false_eq_true, if_false]
                      by_cases h6 : N < 1000000000
                      · rw [if_pos h6]
                      · have := R.2 (by omega)
                        rw [if_neg h6, decide_eq_true (by omega)]
              simp only [epactlaw25_SmearRises.j0, Bool.false_eq_true, if_false]
              rw [tm (a := N) (b := 1000000000) (by omega), td (a := N) (b := 1000000000) (by omega), w64 (n := n + N % 1000000000) (by omega) (by omega), w64 (n := N / 1000000000) (by omega) (by omega), w64 (n := t + N / 1000000000) (by omega) (by omega)]
              by_cases h6 : n + N % 1000000000 ≥ 1000000000
              · rw [if_pos h6, w64 (by omega) (by omega), w64 (by omega) (by omega)]
                exact key _ _ (by omega) (by omega) (by omega) (by omega)
              · rw [if_neg h6]
                exact key _ _ (by omega) (by omega) (by omega) (by omega)
end Go.Proofs.Ythoigncoojcanaa.Pure
