/- The order of texts is that of what they say; what a text of a day and a second says. -/
import Derived.Test.YtpgkdagjlbcgkaaStamp
namespace Go.Proofs.Ytpgkdagjlbcgkaa.Pure
open Go.RowKit Go.Proofs.Ytpgkdagjlbcgkaa.PAll Go.Proofs.YtpgkdagjlbcgkaaW.PrintWords Go.Proofs.YtpgkdagjlbcgkaaW.PrintLast Go.Proofs.YtpgkdagjlbcgkaaW.PrintMore
set_option linter.unusedVariables false
set_option linter.unusedSimpArgs false
theorem dsx_text (y m d h n s : Int) (v : Cal.Valid y m d) (c : CV h n s) : dsx (Cal.num y m d) (sod h n s) = tx y m d h n s := by
  obtain ⟨e1, e2, e3⟩ := Cal.date_of y m d _ v rfl
  obtain ⟨_, _, e4, e5, e6⟩ := cv_clock h n s c
  unfold dsx; rw [e1, e2, e3, e4, e5, e6]
theorem dsx_parse (k : Nat) (d sec : Int) (h1 : -719162 ≤ d ∧ d ≤ 2932896) (h2 : 0 ≤ sec ∧ sec ≤ 86400) : stamp_Parse.f (k + 1) ⟨(dsx d sec).toArray⟩ = some (d, sec, true) := by
  obtain ⟨v, vn⟩ := Cal.date_law d h1.1 h1.2
  obtain ⟨c, cn⟩ := clock_cv sec h2.1 h2.2
  have p := parse_text k _ _ _ _ _ _ v c
  rw [vn, cn] at p
  exact p
theorem dsx_inj (d sec e then_ : Int) (h1 : -719162 ≤ d ∧ d ≤ 2932896) (h2 : 0 ≤ sec ∧ sec ≤ 86400) (h3 : -719162 ≤ e ∧ e ≤ 2932896) (h4 : 0 ≤ then_ ∧ then_ ≤ 86400) (h : dsx d sec = dsx e then_) : d = e ∧ sec = then_ := by
  have p := dsx_parse 0 d sec h1 h2
  rw [h, dsx_parse 0 e then_ h3 h4] at p
  simp only [Option.some.injEq, Prod.mk.injEq] at p
  exact ⟨p.1.symm, p.2.1.symm⟩
theorem less_dg (a b : Int) (r r' : List UInt8) : Op.bytesLess (dg a :: r) (dg b :: r') = (decide (a % 10 < b % 10) || (decide (a % 10 = b % 10) && Op.bytesLess r r')) := by
  have ha := dg_nat a
  have hb := dg_nat b
  have h1 : (dg a < dg b) ↔ a % 10 < b % 10 := by rw [UInt8.lt_iff_toNat_lt]; omega
  have h2 : (dg a == dg b) = decide (a % 10 = b % 10) := by
    rw [Bool.eq_iff_iff, beq_iff_eq, decide_eq_true_iff, ← UInt8.toNat_inj]; omega
  simp only [Op.bytesLess]
  rw [h2, decide_eq_decide.mpr h1]
theorem less_same (c : UInt8) (r r' : List UInt8) : Op.bytesLess (c :: r) (c :: r') = Op.bytesLess r r' := by
  simp [Op.bytesLess]
theorem less_two (a b : Int) (ha : 0 ≤ a ∧ a ≤ 99) (hb : 0 ≤ b ∧ b ≤ 99) (r r' : List UInt8) : Op.bytesLess (dg (a / 10) :: dg a :: r) (dg (b / 10) :: dg b :: r') = (decide (a < b) || (decide (a = b) && Op.bytesLess r r')) := by
  rw [less_dg, less_dg]
  generalize Op.bytesLess r r' = q
  rw [Bool.eq_iff_iff]
  cases q <;> simp only [Bool.or_eq_true, Bool.and_eq_true, decide_eq_true_iff, Bool.false_eq_true, and_false, or_false, and_true] <;> omega
theorem less_four (a b : Int) (ha : 0 ≤ a ∧ a ≤ 9999) (hb : 0 ≤ b ∧ b ≤ 9999) (r r' : List UInt8) : Op.bytesLess (dg (a / 10 / 10 / 10) :: dg (a / 10 / 10) :: dg (a / 10) :: dg a :: r) (dg (b / 10 / 10 / 10) :: dg (b / 10 / 10) :: dg (b / 10) :: dg b :: r') = (decide (a < b) || (decide (a = b) && Op.bytesLess r r')) := by
  rw [less_dg, less_dg, less_dg, less_dg]
  generalize Op.bytesLess r r' = q
  rw [Bool.eq_iff_iff]
  cases q <;> simp only [Bool.or_eq_true, Bool.and_eq_true, decide_eq_true_iff, Bool.false_eq_true, and_false, or_false, and_true] <;> omega
theorem less_tx (y m d h n s y' m' d' h' n' s' : Int) (y0 : 0 ≤ y ∧ y ≤ 9999) (m0 : 0 ≤ m ∧ m ≤ 99) (d0 : 0 ≤ d ∧ d ≤ 99) (h0 : 0 ≤ h ∧ h ≤ 99) (n0 : 0 ≤ n ∧ n ≤ 99) (s0 : 0 ≤ s ∧ s ≤ 99)
    (y0' : 0 ≤ y' ∧ y' ≤ 9999) (m0' : 0 ≤ m' ∧ m' ≤ 99) (d0' : 0 ≤ d' ∧ d' ≤ 99) (h0' : 0 ≤ h' ∧ h' ≤ 99) (n0' : 0 ≤ n' ∧ n' ≤ 99) (s0' : 0 ≤ s' ∧ s' ≤ 99) :
    Op.bytesLess (tx y m d h n s) (tx y' m' d' h' n' s') = true ↔ (Cal.before y m d y' m' d' ∨ (y = y' ∧ m = m' ∧ d = d') ∧ (h < h' ∨ h = h' ∧ (n < n' ∨ n = n' ∧ s < s'))) := by
  unfold tx dx cx
  simp only [List.cons_append, List.nil_append]
  rw [less_four y y' y0 y0', less_same, less_two m m' m0 m0', less_same, less_two d d' d0 d0', less_same, less_two h h' h0 h0', less_same, less_two n n' n0 n0', less_same, less_two s s' s0 s0', less_same]
  have e : Op.bytesLess [] [] = false := rfl
  rw [e]
  unfold Cal.before
  simp only [Bool.or_eq_true, Bool.and_eq_true, decide_eq_true_iff, Bool.false_eq_true, and_false, or_false]
  omega
theorem less_dsx (d sec e then_ : Int) (h1 : -719162 ≤ d ∧ d ≤ 2932896) (h2 : 0 ≤ sec ∧ sec ≤ 86400) (h3 : -719162 ≤ e ∧ e ≤ 2932896) (h4 : 0 ≤ then_ ∧ then_ ≤ 86400) : Op.bytesLess (dsx d sec) (dsx e then_) = true ↔ (d < e ∨ d = e ∧ sec < then_) := by
  obtain ⟨v, vn⟩ := Cal.date_law d h1.1 h1.2
  obtain ⟨c, cn⟩ := clock_cv sec h2.1 h2.2
  obtain ⟨v', vn'⟩ := Cal.date_law e h3.1 h3.2
  obtain ⟨c', cn'⟩ := clock_cv then_ h4.1 h4.2
  obtain ⟨b1, b2, b3⟩ := valid_bd v
  obtain ⟨b4, b5, b6⟩ := cv_bd c
  obtain ⟨b1', b2', b3'⟩ := valid_bd v'
  obtain ⟨b4', b5', b6'⟩ := cv_bd c'
  unfold dsx
  rw [less_tx _ _ _ _ _ _ _ _ _ _ _ _ b1 b2 b3 b4 b5 b6 b1' b2' b3' b4' b5' b6']
  have l1 := Cal.num_lt _ _ _ _ _ _ v v'
  have l2 := Cal.num_lt _ _ _ _ _ _ v' v
  rw [vn, vn'] at l1 l2
  have l3 : d = e → (Cal.dY d = Cal.dY e ∧ Cal.dM d = Cal.dM e ∧ Cal.dD d = Cal.dD e) := by rintro rfl; exact ⟨rfl, rfl, rfl⟩
  have l4 : (Cal.dY d = Cal.dY e ∧ Cal.dM d = Cal.dM e ∧ Cal.dD d = Cal.dD e) → d = e := by
    rintro ⟨q1, q2, q3⟩; rw [← vn, ← vn', q1, q2, q3]
  have t3 : Cal.before (Cal.dY d) (Cal.dM d) (Cal.dD d) (Cal.dY e) (Cal.dM e) (Cal.dD e) ∨ (Cal.dY d = Cal.dY e ∧ Cal.dM d = Cal.dM e ∧ Cal.dD d = Cal.dD e) ∨ Cal.before (Cal.dY e) (Cal.dM e) (Cal.dD e) (Cal.dY d) (Cal.dM d) (Cal.dD d) := by unfold Cal.before; omega
  have k1 : (cH sec < cH then_ ∨ cH sec = cH then_ ∧ (cM sec < cM then_ ∨ cM sec = cM then_ ∧ cS sec < cS then_)) ↔ sec < then_ := by
    unfold sod at cn cn'
    unfold CV at c c'
    omega
  rw [k1]
  generalize Cal.before (Cal.dY d) (Cal.dM d) (Cal.dD d) (Cal.dY e) (Cal.dM e) (Cal.dD e) = A at *
  generalize Cal.before (Cal.dY e) (Cal.dM e) (Cal.dD e) (Cal.dY d) (Cal.dM d) (Cal.dD d) = B at *
  generalize (Cal.dY d = Cal.dY e ∧ Cal.dM d = Cal.dM e ∧ Cal.dD d = Cal.dD e) = C at *
  constructor
  · rintro (a | ⟨a, b⟩)
    · exact .inl (l1 a)
    · exact .inr ⟨l4 a, b⟩
  · rintro (a | ⟨a, b⟩)
    · rcases t3 with q | q | q
      · exact .inl q
      · have := l4 q; omega
      · have := l2 q; omega
    · exact .inr ⟨l3 a, b⟩
end Go.Proofs.Ytpgkdagjlbcgkaa.Pure
