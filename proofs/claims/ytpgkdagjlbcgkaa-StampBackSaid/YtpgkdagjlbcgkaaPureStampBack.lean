/- StampBack: texts and what they say are each other's, for any two numbers and any text: no condition. -/
import Derived.Test.YtpgkdagjlbcgkaaStampO
import Derived.Test.YtpgkdagjlbcgkaaSmall04
import Derived.Test.YtpgkdagjlbcgkaaPAllx8
namespace Go.Proofs.Ytpgkdagjlbcgkaa.Pure
open Go.RowKit Go.Proofs.Ytpgkdagjlbcgkaa.PAll Go.Proofs.YtpgkdagjlbcgkaaW.PrintWords Go.Proofs.YtpgkdagjlbcgkaaW.PrintLast

theorem StampBack : epactlaw04_StampBack.Pure := by
  intro d sec t _ _ _
  refine ⟨10, ?_⟩
  unfold epactlaw04_StampBack.f
  rw [small04 8]
  simp only [Option.bind_some]
  by_cases hz : (t.size : Int) > 200
  · rw [if_pos hz]
  · rw [if_neg hz]
    have key : ∀ (k : Nat) (x8 : ByteArray) (x9 : Bool), (x9 = true ∨ x8 = ⟨#[]⟩) → epactlaw04_StampBack.j1 (k + 2) t true x8 x9 = some true := by
      intro k x8 x9 hx
      rw [epactlaw04_StampBack.j1]
      rcases parse_law k t (by omega) with ⟨y, mm, dd, hh, n, tt, rfl, v, c⟩ | ⟨e, hn⟩
      · have bn := Cal.num_bd _ _ _ v
        obtain ⟨c0, c1, _⟩ := cv_clock _ _ _ c
        rw [parse_text k _ _ _ _ _ _ v c]
        simp only [Option.bind_some, if_true]
        rw [text_law k, if_pos ⟨bn, c0, c1⟩]
        simp only [Option.bind_some, if_true]
        rw [dsx_text _ _ _ _ _ _ v c]
        show some ((txb y mm dd hh n tt).toList == (txb y mm dd hh n tt).toList) = _
        rw [beq_self_eq_true]
      · rw [e]
        simp only [Option.bind_some, if_true]
        rcases hx with rfl | rfl
        · simp
        · cases x9 <;> simp
    rw [text_law 9]
    simp only [Option.bind_some]
    by_cases h1 : -719162 ≤ d ∧ d ≤ 2932896
    · rw [if_pos (show d ≥ -719162 from h1.1), if_pos h1.2]
      by_cases h2 : 0 ≤ sec
      · rw [if_pos (show sec ≥ 0 from h2)]
        by_cases h3 : sec ≤ 86400
        · rw [decide_eq_true h3, if_pos ⟨h1, h2, h3⟩]
          simp only [epactlaw04_StampBack.j0]
          have v := (Cal.date_law d h1.1 h1.2).1
          have vn := (Cal.date_law d h1.1 h1.2).2
          obtain ⟨c, cn⟩ := clock_cv sec h2 h3
          have p := parse_text 8 _ _ _ _ _ _ v c
          rw [vn, cn] at p
          have p' : stamp_Parse.f 9 ⟨(dsx d sec).toArray⟩ = some (d, sec, true) := p
          rw [if_neg (by decide), if_pos trivial, p']
          simp only [Option.bind_some, if_true]
          rw [if_pos (show ((⟨(dsx d sec).toArray⟩ : ByteArray).size : Int) = 20 from rfl)]
          exact key 7 _ _ (.inl rfl)
        · rw [decide_eq_false h3, if_neg (fun q => h3 q.2.2)]
          simp only [epactlaw04_StampBack.j0]
          rw [if_neg (by decide), if_neg (by decide)]
          exact key 7 _ _ (.inr rfl)
      · rw [if_neg (show ¬ sec ≥ 0 from h2), if_neg (fun q => h2 q.2.1)]
        simp only [epactlaw04_StampBack.j0]
        rw [if_neg (by decide), if_neg (by decide)]
        exact key 7 _ _ (.inr rfl)
    · rw [if_neg (fun q : (_ ∧ _) ∧ _ => h1 q.1)]
      have e : epactlaw04_StampBack.j0 10 d sec t true ⟨#[]⟩ false (false != false) = some true := by
        simp only [epactlaw04_StampBack.j0]
        rw [if_neg (by decide), if_neg (by decide)]
        exact key 7 _ _ (.inr rfl)
      by_cases a : d ≥ -719162
      · rw [if_pos a, if_neg (by omega)]; exact e
      · rw [if_neg a]; exact e

end Go.Proofs.Ytpgkdagjlbcgkaa.Pure
