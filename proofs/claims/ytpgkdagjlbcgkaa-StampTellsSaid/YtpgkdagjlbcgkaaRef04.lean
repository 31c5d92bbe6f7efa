/- The reference's clocks, texts, and what it reads of them, are those in plain numbers and bytes. -/
import Derived.Test.YtpgkdagjlbcgkaaStampO
import Derived.Test.YtpgkdagjlbcgkaaRef03N
import Derived.Test.YtpgkdagjlbcgkaaPAllx3
import Derived.Test.YtpgkdagjlbcgkaaPAllx4
import Derived.Test.YtpgkdagjlbcgkaaPAllx5
import Derived.Test.YtpgkdagjlbcgkaaPAllx6
namespace Go.Proofs.Ytpgkdagjlbcgkaa.Pure
open Go.RowKit Go.Proofs.Ytpgkdagjlbcgkaa.PAll Go.Proofs.YtpgkdagjlbcgkaaW.PrintWords Go.Proofs.YtpgkdagjlbcgkaaW.PrintLast Go.Proofs.YtpgkdagjlbcgkaaW.PrintMore
set_option linter.unusedVariables false
set_option linter.unusedSimpArgs false
theorem ref_clock_law (k : Nat) (n : Int) : epactref04_Clock.f (k + 1) n = some (if 0 ≤ n ∧ n ≤ 86400 then (cH n, cM n, cS n, true) else (0, 0, 0, false)) := by
  have hj : ∀ n, epactref04_Clock.j0 (k + 1) n true = some (0, 0, 0, false) := fun n => by simp [epactref04_Clock.j0]
  unfold epactref04_Clock.f
  by_cases h1 : n < 0
  · rw [if_pos h1, hj, if_neg (by omega)]
  · rw [if_neg h1]
    by_cases h2 : n > 86400
    · rw [decide_eq_true h2, hj, if_neg (by omega)]
    · rw [decide_eq_false h2, if_pos (by omega)]
      simp only [epactref04_Clock.j0]
      rw [if_neg (by decide)]
      unfold cH cM cS
      by_cases e : n = 86400
      · subst e; simp
      · simp only [if_neg e]
        rw [td (show 0 ≤ n by omega), td (show 0 ≤ n by omega), tm (show 0 ≤ n by omega), w64 (n := n / 3600) (by omega) (by omega), w64 (n := n / 60) (by omega) (by omega), tm (show 0 ≤ n / 60 by omega)]
theorem ref_second_law (h m s : Int) : epactref04_Second.f h m s = some (if CV h m s then (sod h m s, true) else (0, false)) := by
  have key : 0 ≤ h → h ≤ 23 → 0 ≤ m → m ≤ 59 → 0 ≤ s → s ≤ 60 → wrap64 ((wrap64 ((wrap64 (3600 * h)) + (wrap64 (60 * m)))) + s) = sod h m s := by
    intros; unfold sod
    rw [w64 (n := 3600 * h) (by omega) (by omega), w64 (n := 60 * m) (by omega) (by omega), w64 (n := 3600 * h + 60 * m) (by omega) (by omega), w64 (by omega) (by omega)]
  unfold epactref04_Second.f
  by_cases c : CV h m s
  · rw [if_pos c]
    have c' := c
    unfold CV at c'
    have e := key (by omega) (by omega) (by omega) (by omega) (by omega) (by omega)
    rw [e]
    repeat' split
    all_goals first
      | rfl
      | (exfalso; omega)
  · rw [if_neg c]
    unfold CV at c
    repeat' split
    all_goals first
      | rfl
      | (exfalso; apply c; omega)
theorem digit_step (k : Nat) (x many i : Int) (s : ByteArray) (x0 : 0 ≤ x) (x1 : x ≤ 100000) (hi : i < many) (i0 : 0 ≤ i) (i1 : i ≤ 10) (hs : s.size ≤ 100) : epactref04_digits.l0 (k + 1) x many s i = epactref04_digits.l0 k (x / 10) many (⟨#[dg x]⟩ ++ s) (i + 1) := by
  have e : strOfNums [wrap64 (48 + Int.tmod x 10) % 256] = ⟨#[dg x]⟩ := by
    rw [tm x0, w64 (by omega) (by omega), show (48 + x % 10) % 256 = 48 + x % 10 by omega]; rfl
  rw [epactref04_digits.l0, if_pos hi]
  simp only [Option.bind_some]
  rw [e, if_pos (show _ ≤ _ from by show 1 + s.size ≤ 9223372036854775807; omega), td x0, w64 (n := x / 10) (by omega) (by omega), w64 (n := i + 1) (by omega) (by omega)]
theorem digits_two (k : Nat) (x : Int) (h : 0 ≤ x ∧ x ≤ 99) : epactref04_digits.f (k + 3) x 2 = some ⟨#[dg (x / 10), dg x]⟩ := by
  unfold epactref04_digits.f
  rw [digit_step (k + 2) x 2 0 _ (by omega) (by omega) (by omega) (by omega) (by omega) (by decide), digit_step (k + 1) (x / 10) 2 _ _ (by omega) (by omega) (by omega) (by omega) (by omega) (by show 1 ≤ 100; omega), epactref04_digits.l0, if_neg (by omega)]
  rfl
theorem digits_four (k : Nat) (x : Int) (h : 0 ≤ x ∧ x ≤ 9999) : epactref04_digits.f (k + 5) x 4 = some ⟨#[dg (x / 10 / 10 / 10), dg (x / 10 / 10), dg (x / 10), dg x]⟩ := by
  unfold epactref04_digits.f
  rw [digit_step (k + 4) x 4 0 _ (by omega) (by omega) (by omega) (by omega) (by omega) (by decide), digit_step (k + 3) (x / 10) 4 _ _ (by omega) (by omega) (by omega) (by omega) (by omega) (by show 1 ≤ 100; omega),
    digit_step (k + 2) (x / 10 / 10) 4 _ _ (by omega) (by omega) (by omega) (by omega) (by omega) (by show 2 ≤ 100; omega), digit_step (k + 1) (x / 10 / 10 / 10) 4 _ _ (by omega) (by omega) (by omega) (by omega) (by omega) (by show 3 ≤ 100; omega), epactref04_digits.l0, if_neg (by omega)]
  rfl
theorem ref_dayt_law (k : Nat) (hk : 10100 ≤ k) (d : Int) : epactref04_Day.f k d = some (if -719162 ≤ d ∧ d ≤ 2932896 then (⟨(dx (Cal.dY d) (Cal.dM d) (Cal.dD d)).toArray⟩, true) else (⟨#[]⟩, false)) := by
  unfold epactref04_Day.f
  rw [ref_date_law d k hk]
  simp only [Option.bind_some]
  by_cases h : -719162 ≤ d ∧ d ≤ 2932896
  · obtain ⟨b1, b2, b3⟩ := valid_bd (Cal.date_law d h.1 h.2).1
    obtain ⟨k, rfl⟩ : ∃ q, k = q + 5 := ⟨k - 5, by omega⟩
    simp only [if_pos h, if_true]
    rw [digits_four k _ b1]
    simp only [Option.bind_some]
    rw [if_pos (show _ ≤ _ from by show 4 + 1 ≤ 9223372036854775807; omega), digits_two (k + 2) _ b2]
    simp only [Option.bind_some]
    rw [if_pos (show _ ≤ _ from by show 5 + 2 ≤ 9223372036854775807; omega), if_pos (show _ ≤ _ from by show 7 + 1 ≤ 9223372036854775807; omega), digits_two (k + 2) _ b3]
    simp only [Option.bind_some]
    rw [if_pos (show _ ≤ _ from by show 8 + 2 ≤ 9223372036854775807; omega)]
    rfl
  · simp only [if_neg h]
    rw [if_neg (by decide)]
theorem ref_text_law (k : Nat) (hk : 10100 ≤ k) (d sec : Int) : epactref04_Text.f k d sec = some (if (-719162 ≤ d ∧ d ≤ 2932896) ∧ 0 ≤ sec ∧ sec ≤ 86400 then (⟨(dsx d sec).toArray⟩, true) else (⟨#[]⟩, false)) := by
  unfold epactref04_Text.f
  rw [ref_dayt_law k hk]
  obtain ⟨k, rfl⟩ : ∃ q, k = q + 5 := ⟨k - 5, by omega⟩
  rw [ref_clock_law (k + 4)]
  simp only [Option.bind_some]
  by_cases h : -719162 ≤ d ∧ d ≤ 2932896
  · simp only [if_pos h, if_true]
    by_cases g : 0 ≤ sec ∧ sec ≤ 86400
    · obtain ⟨b4, b5, b6⟩ := cv_bd (clock_cv sec g.1 g.2).1
      simp only [if_pos g]
      rw [epactref04_Text.j0, if_neg (by decide)]
      rw [if_pos (show _ ≤ _ from by show 10 + 1 ≤ 9223372036854775807; omega), digits_two (k + 1) _ b4]
      simp only [Option.bind_some]
      rw [if_pos (show _ ≤ _ from by show 11 + 2 ≤ 9223372036854775807; omega), if_pos (show _ ≤ _ from by show 13 + 1 ≤ 9223372036854775807; omega), digits_two (k + 1) _ b5]
      simp only [Option.bind_some]
      rw [if_pos (show _ ≤ _ from by show 14 + 2 ≤ 9223372036854775807; omega), if_pos (show _ ≤ _ from by show 16 + 1 ≤ 9223372036854775807; omega), digits_two (k + 1) _ b6]
      simp only [Option.bind_some]
      rw [if_pos (show _ ≤ _ from by show 17 + 2 ≤ 9223372036854775807; omega), if_pos (show _ ≤ _ from by show 19 + 1 ≤ 9223372036854775807; omega), if_pos ⟨h, g⟩]
      rfl
    · simp only [if_neg g]
      rw [epactref04_Text.j0, if_pos (by decide), if_neg (fun q => g q.2)]
  · simp only [if_neg h]
    rw [if_neg (by decide), epactref04_Text.j0, if_pos rfl, if_neg (fun q => h q.1)]
theorem number_some (s : ByteArray) (hs : s.size ≤ 100) (j : Nat) : ∀ (i acc : Int) (k : Nat), 0 ≤ i → (s.size : Int) - i = j → I64 acc → j < k → ∃ v, epactref04_number.l0 k s acc i = some v ∧ I64 v := by
  induction j with
  | zero =>
    intro i acc k i0 hj ha hk
    obtain ⟨k, rfl⟩ : ∃ q, k = q + 1 := ⟨k - 1, by omega⟩
    rw [epactref04_number.l0, if_neg (by omega)]
    exact ⟨acc, rfl, ha⟩
  | succ j ih =>
    intro i acc k i0 hj ha hk
    obtain ⟨k, rfl⟩ : ∃ q, k = q + 1 := ⟨k - 1, by omega⟩
    rw [epactref04_number.l0, if_pos (by omega), if_pos i0]
    split
    · exact ⟨-1, rfl, by unfold I64; omega⟩
    · split
      · exact ⟨-1, rfl, by unfold I64; omega⟩
      · rw [w64 (n := i + 1) (by omega) (by omega)]
        exact ih (i + 1) _ k (by omega) (by omega) (wrap_i64 _) (by omega)
theorem number_f_some (s : ByteArray) (hs : s.size ≤ 100) (k : Nat) (hk : 200 ≤ k) : ∃ v, epactref04_number.f k s = some v ∧ I64 v :=
  number_some s hs s.size 0 0 k (by omega) (by omega) (by unfold I64; omega) (by omega)
theorem number_step (k : Nat) (s : ByteArray) (x i i' : Int) (hi' : i + 1 = i') (i0 : 0 ≤ i) (hi : i < s.size) (i1 : i ≤ 10) (hb : bt s i = 48 + x % 10) (x0 : 0 ≤ x) (x1 : x ≤ 100000) : epactref04_number.l0 (k + 1) s (x / 10) i = epactref04_number.l0 k s x i' := by
  subst hi'
  rw [epactref04_number.l0, if_pos hi, if_pos i0, hb, if_neg (by omega), if_neg (by omega), w64 (n := i + 1) (by omega) (by omega), w64 (n := 10 * (x / 10)) (by omega) (by omega), show (48 + x % 10 - 48) % 256 = x % 10 by omega, w64 (by omega) (by omega), show 10 * (x / 10) + x % 10 = x by omega]
theorem number_two (k : Nat) (x : Int) (h : 0 ≤ x ∧ x ≤ 99) : epactref04_number.f (k + 3) ⟨#[dg (x / 10), dg x]⟩ = some x := by
  unfold epactref04_number.f
  have e := number_step (k + 2) ⟨#[dg (x / 10), dg x]⟩ (x / 10) 0 1 rfl (by omega) (by show (0 : Int) < 2; omega) (by omega) (dg_nat (x / 10)) (by omega) (by omega)
  rw [show x / 10 / 10 = 0 by omega] at e
  rw [e, number_step (k + 1) ⟨#[dg (x / 10), dg x]⟩ x 1 2 rfl (by omega) (by show (1 : Int) < 2; omega) (by omega) (dg_nat x) (by omega) (by omega), epactref04_number.l0, if_neg (by show ¬ (2 : Int) < 2; omega)]
theorem number_four (k : Nat) (x : Int) (h : 0 ≤ x ∧ x ≤ 9999) : epactref04_number.f (k + 5) ⟨#[dg (x / 10 / 10 / 10), dg (x / 10 / 10), dg (x / 10), dg x]⟩ = some x := by
  unfold epactref04_number.f
  have e := number_step (k + 4) ⟨#[dg (x / 10 / 10 / 10), dg (x / 10 / 10), dg (x / 10), dg x]⟩ (x / 10 / 10 / 10) 0 1 rfl (by omega) (by show (0 : Int) < 4; omega) (by omega) (dg_nat (x / 10 / 10 / 10)) (by omega) (by omega)
  rw [show x / 10 / 10 / 10 / 10 = 0 by omega] at e
  rw [e, number_step (k + 3) ⟨#[dg (x / 10 / 10 / 10), dg (x / 10 / 10), dg (x / 10), dg x]⟩ (x / 10 / 10) 1 2 rfl (by omega) (by show (1 : Int) < 4; omega) (by omega) (dg_nat (x / 10 / 10)) (by omega) (by omega),
    number_step (k + 2) ⟨#[dg (x / 10 / 10 / 10), dg (x / 10 / 10), dg (x / 10), dg x]⟩ (x / 10) 2 3 rfl (by omega) (by show (2 : Int) < 4; omega) (by omega) (dg_nat (x / 10)) (by omega) (by omega),
    number_step (k + 1) ⟨#[dg (x / 10 / 10 / 10), dg (x / 10 / 10), dg (x / 10), dg x]⟩ x 3 4 rfl (by omega) (by show (3 : Int) < 4; omega) (by omega) (dg_nat x) (by omega) (by omega), epactref04_number.l0, if_neg (by show ¬ (4 : Int) < 4; omega)]
theorem ref_parse_text (k : Nat) (hk : 10200 ≤ k) (y m d h n s : Int) (v : Cal.Valid y m d) (c : CV h n s) : epactref04_Parse.f k (txb y m d h n s) = some (Cal.num y m d, sod h n s, true) := by
  obtain ⟨b1, b2, b3⟩ := valid_bd v
  obtain ⟨b4, b5, b6⟩ := cv_bd c
  have bn := Cal.num_bd y m d v
  obtain ⟨c0, c1, _⟩ := cv_clock h n s c
  unfold epactref04_Parse.f
  have z : ((txb y m d h n s).size : Int) = 20 := rfl
  have x1 : (txb y m d h n s).extract 0 4 = ⟨#[dg (y / 10 / 10 / 10), dg (y / 10 / 10), dg (y / 10), dg y]⟩ := rfl
  have x2 : (txb y m d h n s).extract 5 7 = ⟨#[dg (m / 10), dg m]⟩ := rfl
  have x3 : (txb y m d h n s).extract 8 10 = ⟨#[dg (d / 10), dg d]⟩ := rfl
  have x4 : (txb y m d h n s).extract 11 13 = ⟨#[dg (h / 10), dg h]⟩ := rfl
  have x5 : (txb y m d h n s).extract 14 16 = ⟨#[dg (n / 10), dg n]⟩ := rfl
  have x6 : (txb y m d h n s).extract 17 19 = ⟨#[dg (s / 10), dg s]⟩ := rfl
  obtain ⟨k, rfl⟩ : ∃ q, k = q + 5 := ⟨k - 5, by omega⟩
  rw [z, x1, x2, x3, x4, x5, x6, if_pos rfl, if_pos (by omega), if_pos (by omega), number_four k y b1]
  simp only [Option.bind_some]
  rw [if_pos (by omega), if_pos (by omega), number_two (k + 2) m b2]
  simp only [Option.bind_some]
  rw [if_pos (by omega), if_pos (by omega), number_two (k + 2) d b3]
  simp only [Option.bind_some]
  rw [ref_number_law (k + 5) (by omega) y m d (by unfold I64; omega), if_pos v]
  simp only [Option.bind_some]
  rw [if_pos (by omega), if_pos (by omega), number_two (k + 2) h b4]
  simp only [Option.bind_some]
  rw [if_pos (by omega), if_pos (by omega), number_two (k + 2) n b5]
  simp only [Option.bind_some]
  rw [if_pos (by omega), if_pos (by omega), number_two (k + 2) s b6]
  simp only [Option.bind_some]
  rw [ref_second_law, if_pos c]
  simp only [Option.bind_some]
  rw [ref_text_law (k + 5) (by omega), if_pos ⟨bn, c0, c1⟩]
  simp only [Option.bind_some, if_true]
  rw [dsx_text y m d h n s v c, if_pos]
  rfl
theorem ref_parse_else (k : Nat) (hk : 10200 ≤ k) (s : ByteArray) (hn : ∀ y m d h n t, Cal.Valid y m d → CV h n t → s ≠ txb y m d h n t) : epactref04_Parse.f k s = some (0, 0, false) := by
  unfold epactref04_Parse.f
  by_cases z : (s.size : Int) = 20
  · rw [z, if_pos rfl, if_pos (by omega), if_pos (by omega)]
    have hx : ∀ a b, (s.extract a b).size ≤ 100 := fun a b => by rw [ByteArray.size_extract]; omega
    obtain ⟨v1, h1, i1⟩ := number_f_some (s.extract 0 4) (hx _ _) k (by omega)
    obtain ⟨v2, h2, i2⟩ := number_f_some (s.extract 5 7) (hx _ _) k (by omega)
    obtain ⟨v3, h3, i3⟩ := number_f_some (s.extract 8 10) (hx _ _) k (by omega)
    obtain ⟨v4, h4, i4⟩ := number_f_some (s.extract 11 13) (hx _ _) k (by omega)
    obtain ⟨v5, h5, i5⟩ := number_f_some (s.extract 14 16) (hx _ _) k (by omega)
    obtain ⟨v6, h6, i6⟩ := number_f_some (s.extract 17 19) (hx _ _) k (by omega)
    rw [h1]
    simp only [Option.bind_some]
    rw [if_pos (by omega), if_pos (by omega), h2]
    simp only [Option.bind_some]
    rw [if_pos (by omega), if_pos (by omega), h3]
    simp only [Option.bind_some]
    rw [ref_number_law k (by omega) v1 v2 v3 i3]
    simp only [Option.bind_some]
    rw [if_pos (by omega), if_pos (by omega), h4]
    simp only [Option.bind_some]
    rw [if_pos (by omega), if_pos (by omega), h5]
    simp only [Option.bind_some]
    rw [if_pos (by omega), if_pos (by omega), h6]
    simp only [Option.bind_some]
    rw [ref_second_law]
    simp only [Option.bind_some]
    rw [ref_text_law k (by omega)]
    simp only [Option.bind_some]
    by_cases v : Cal.Valid v1 v2 v3
    · by_cases c : CV v4 v5 v6
      · have bn := Cal.num_bd _ _ _ v
        obtain ⟨c0, c1, _⟩ := cv_clock _ _ _ c
        have hc : (-719162 ≤ Cal.num v1 v2 v3 ∧ Cal.num v1 v2 v3 ≤ 2932896) ∧ 0 ≤ sod v4 v5 v6 ∧ sod v4 v5 v6 ≤ 86400 := ⟨bn, c0, c1⟩
        simp only [if_pos v, if_pos c, if_pos hc, if_true]
        rw [dsx_text _ _ _ _ _ _ v c, if_neg]
        intro e
        exact hn _ _ _ _ _ _ v c (ba_ext e).symm
      · simp only [if_pos v, if_neg c, if_true]; simp
    · simp only [if_neg v]; simp
  · rw [if_neg z]
end Go.Proofs.Ytpgkdagjlbcgkaa.Pure
