/- Clocks, texts of days and seconds, and what is read of them, in plain numbers and bytes. -/
import Derived.Test.YtpgkdagjlbcgkaaDayN
import Derived.Test.YtpgkdagjlbcgkaaPAllx1
import Derived.Test.YtpgkdagjlbcgkaaPAllx2
namespace Go.Proofs.Ytpgkdagjlbcgkaa.Pure
open Go.RowKit Go.Proofs.Ytpgkdagjlbcgkaa.PAll Go.Proofs.YtpgkdagjlbcgkaaW.PrintWords Go.Proofs.YtpgkdagjlbcgkaaW.PrintLast Go.Proofs.YtpgkdagjlbcgkaaW.PrintMore
set_option linter.unusedVariables false
set_option linter.unusedSimpArgs false
/-- is it a clock? -/
def CV (h m s : Int) : Prop := 0 ≤ h ∧ h ≤ 23 ∧ 0 ≤ m ∧ m ≤ 59 ∧ 0 ≤ s ∧ (s ≤ 59 ∨ (h = 23 ∧ m = 59 ∧ s = 60))
instance (h m s : Int) : Decidable (CV h m s) := by unfold CV; exact inferInstance
def cH (n : Int) : Int := if n = 86400 then 23 else n / 3600
def cM (n : Int) : Int := if n = 86400 then 59 else n / 60 % 60
def cS (n : Int) : Int := if n = 86400 then 60 else n % 60
def sod (h m s : Int) : Int := 3600 * h + 60 * m + s
theorem clock_cv (n : Int) (h0 : 0 ≤ n) (h1 : n ≤ 86400) : CV (cH n) (cM n) (cS n) ∧ sod (cH n) (cM n) (cS n) = n := by
  unfold CV cH cM cS sod
  by_cases e : n = 86400
  · subst e; simp
  · simp only [if_neg e]; omega
theorem cv_clock (h m s : Int) (v : CV h m s) : 0 ≤ sod h m s ∧ sod h m s ≤ 86400 ∧ cH (sod h m s) = h ∧ cM (sod h m s) = m ∧ cS (sod h m s) = s := by
  unfold CV at v
  unfold cH cM cS sod
  by_cases e : 3600 * h + 60 * m + s = 86400
  · simp only [if_pos e]; omega
  · simp only [if_neg e]; omega
theorem clock_law (k : Nat) (n : Int) : stamp_Clock.f (k + 1) n = some (if 0 ≤ n ∧ n ≤ 86400 then (cH n, cM n, cS n, true) else (0, 0, 0, false)) := by
  have hj : ∀ n, stamp_Clock.j0 (k + 1) n true = some (0, 0, 0, false) := fun n => by simp [stamp_Clock.j0]
  unfold stamp_Clock.f
  by_cases h1 : n < 0
  · rw [if_pos h1, hj, if_neg (by omega)]
  · rw [if_neg h1]
    by_cases h2 : n > 86400
    · rw [decide_eq_true h2, hj, if_neg (by omega)]
    · rw [decide_eq_false h2, if_pos (by omega)]
      simp only [stamp_Clock.j0]
      rw [if_neg (by decide)]
      unfold cH cM cS
      by_cases e : n = 86400
      · subst e; simp
      · simp only [if_neg e]
        rw [td (show 0 ≤ n by omega), td (show 0 ≤ n by omega), tm (show 0 ≤ n by omega), w64 (n := n / 3600) (by omega) (by omega), w64 (n := n / 60) (by omega) (by omega), tm (show 0 ≤ n / 60 by omega)]
theorem mn_neg (a b c : Int) : mn (mn a b) c < 0 ↔ (a < 0 ∨ b < 0 ∨ c < 0) := by
  unfold mn; split <;> split <;> omega
theorem second_law (k : Nat) (h m s : Int) : stamp_Second.f (k + 1) h m s = some (if CV h m s then (sod h m s, true) else (0, false)) := by
  have hf : ∀ h m s, ¬ (h = 23 ∧ m = 59 ∧ s = 60) → stamp_Second.j0 (k + 1) h m s false = some (if CV h m s then (sod h m s, true) else (0, false)) := by
    intro h m s hn
    simp only [stamp_Second.j0]
    rw [if_neg (by decide)]
    by_cases h1 : mn (mn h m) s < 0
    · rw [if_pos h1, if_neg (by have := (mn_neg h m s).mp h1; unfold CV; omega)]
    · have h1' : ¬ (h < 0 ∨ m < 0 ∨ s < 0) := fun q => h1 ((mn_neg h m s).mpr q)
      rw [if_neg h1]
      by_cases h2 : h > 23
      · rw [if_pos h2, if_neg (by unfold CV; omega)]
      · rw [if_neg h2]
        by_cases h3 : m > 59
        · rw [if_pos h3, if_neg (by unfold CV; omega)]
        · rw [if_neg h3]
          by_cases h4 : s > 59
          · rw [if_pos h4, if_neg (by unfold CV; omega)]
          · rw [if_neg h4, if_pos (by unfold CV; omega)]
            unfold sod
            rw [w64 (n := h * 60) (by omega) (by omega), w64 (n := h * 60 + m) (by omega) (by omega), w64 (n := (h * 60 + m) * 60) (by omega) (by omega), w64 (by omega) (by omega)]
            congr 2; omega
  unfold stamp_Second.f
  by_cases h1 : h = 23
  · rw [if_pos h1]
    by_cases h2 : m = 59
    · rw [if_pos h2]
      by_cases h3 : s = 60
      · subst h1; subst h2; subst h3
        simp [stamp_Second.j0, CV, sod]
      · rw [show (s == 60) = false from beq_eq_false_iff_ne.mpr h3]
        exact hf h m s (by omega)
    · rw [if_neg h2]; exact hf h m s (by omega)
  · rw [if_neg h1]; exact hf h m s (by omega)

/-- a number's last digit -/
def dg (n : Int) : UInt8 := UInt8.ofNat (48 + n % 10).toNat
theorem dg_nat (n : Int) : ((dg n).toNat : Int) = 48 + n % 10 := by
  unfold dg; rw [UInt8.toNat_ofNat']; omega
theorem dg_eq (n : Int) (b : UInt8) (h : (b.toNat : Int) = 48 + n % 10) : dg n = b := by
  have := dg_nat n
  exact UInt8.toNat_inj.mp (by omega)
theorem dg_lp (x : Int) (h : 0 ≤ x) : UInt8.ofNat ((48 + Int.tmod x 10) % 256).toNat = dg x := by
  unfold dg; rw [tm h, show (48 + x % 10) % 256 = 48 + x % 10 by omega]
def dx (y m d : Int) : List UInt8 := [dg (y / 10 / 10 / 10), dg (y / 10 / 10), dg (y / 10), dg y, 45, dg (m / 10), dg m, 45, dg (d / 10), dg d]
def cx (h n s : Int) : List UInt8 := [84, dg (h / 10), dg h, 58, dg (n / 10), dg n, 58, dg (s / 10), dg s]
def tx (y m d h n s : Int) : List UInt8 := dx y m d ++ cx h n s ++ [90]
def sh19 : ByteArray := ⟨#[48, 48, 48, 48, 45, 48, 48, 45, 48, 48, 84, 48, 48, 58, 48, 48, 58, 48, 48]⟩
def sh10 : ByteArray := ⟨#[48, 48, 48, 48, 45, 48, 48, 45, 48, 48]⟩
theorem lp_sep (sh : ByteArray) (n : Nat) (k : Int) (ns : List Int) (acc : List UInt8) (c : UInt8) (hc : sh.get! n = c) (h : c ≠ 48) : stamp_fill.lp sh (n + 1) k ns acc = stamp_fill.lp sh n (k - 1) ns (c :: acc) := by
  rw [stamp_fill.lp, hc, if_pos h]
theorem lp_dig (sh : ByteArray) (n : Nat) (k : Int) (ns : List Int) (acc : List UInt8) (x : Int) (ns' : List Int) (hc : sh.get! n = 48) (hk : 0 ≤ k ∧ k < ns.length) (hx : rd ns k = x) (h0 : 0 ≤ x) (h1 : x ≤ 100000) (hs : ns.set k.toNat (x / 10) = ns') : stamp_fill.lp sh (n + 1) k ns acc = stamp_fill.lp sh n k ns' (dg x :: acc) := by
  rw [stamp_fill.lp, hc, if_neg (by decide), if_pos hk, hx, dg_lp x h0, td h0, w64 (by omega) (by omega), hs]
theorem fill_text (y m d h n s : Int) (y0 : 0 ≤ y ∧ y ≤ 9999) (m0 : 0 ≤ m ∧ m ≤ 99) (d0 : 0 ≤ d ∧ d ≤ 99) (h0 : 0 ≤ h ∧ h ≤ 99) (n0 : 0 ≤ n ∧ n ≤ 99) (s0 : 0 ≤ s ∧ s ≤ 99) :
    stamp_fill.f sh19 [y, m, d, h, n, s] = some ⟨(dx y m d ++ cx h n s).toArray⟩ := by
  unfold stamp_fill.f
  rw [if_pos (by refine ⟨by decide, by simp, by simp⟩)]
  have e : stamp_fill.lp sh19 sh19.size (([y, m, d, h, n, s] : List Int).length - 1 : Int) [y, m, d, h, n, s] [] = some (dx y m d ++ cx h n s) := by
    show stamp_fill.lp sh19 19 5 _ _ = _
    rw [lp_dig sh19 18 5 _ _ s [y, m, d, h, n, s / 10] rfl (by simp) rfl (by omega) (by omega) rfl,
      lp_dig sh19 17 5 _ _ (s / 10) [y, m, d, h, n, s / 10 / 10] rfl (by simp) rfl (by omega) (by omega) rfl,
      lp_sep sh19 16 5 _ _ 58 rfl (by decide),
      lp_dig sh19 15 (5 - 1) _ _ n [y, m, d, h, n / 10, s / 10 / 10] rfl (by simp) rfl (by omega) (by omega) rfl,
      lp_dig sh19 14 (5 - 1) _ _ (n / 10) [y, m, d, h, n / 10 / 10, s / 10 / 10] rfl (by simp) rfl (by omega) (by omega) rfl,
      lp_sep sh19 13 (5 - 1) _ _ 58 rfl (by decide),
      lp_dig sh19 12 (5 - 1 - 1) _ _ h [y, m, d, h / 10, n / 10 / 10, s / 10 / 10] rfl (by simp) rfl (by omega) (by omega) rfl,
      lp_dig sh19 11 (5 - 1 - 1) _ _ (h / 10) [y, m, d, h / 10 / 10, n / 10 / 10, s / 10 / 10] rfl (by simp) rfl (by omega) (by omega) rfl,
      lp_sep sh19 10 (5 - 1 - 1) _ _ 84 rfl (by decide),
      lp_dig sh19 9 (5 - 1 - 1 - 1) _ _ d [y, m, d / 10, h / 10 / 10, n / 10 / 10, s / 10 / 10] rfl (by simp) rfl (by omega) (by omega) rfl,
      lp_dig sh19 8 (5 - 1 - 1 - 1) _ _ (d / 10) [y, m, d / 10 / 10, h / 10 / 10, n / 10 / 10, s / 10 / 10] rfl (by simp) rfl (by omega) (by omega) rfl,
      lp_sep sh19 7 (5 - 1 - 1 - 1) _ _ 45 rfl (by decide),
      lp_dig sh19 6 (5 - 1 - 1 - 1 - 1) _ _ m [y, m / 10, d / 10 / 10, h / 10 / 10, n / 10 / 10, s / 10 / 10] rfl (by simp) rfl (by omega) (by omega) rfl,
      lp_dig sh19 5 (5 - 1 - 1 - 1 - 1) _ _ (m / 10) [y, m / 10 / 10, d / 10 / 10, h / 10 / 10, n / 10 / 10, s / 10 / 10] rfl (by simp) rfl (by omega) (by omega) rfl,
      lp_sep sh19 4 (5 - 1 - 1 - 1 - 1) _ _ 45 rfl (by decide),
      lp_dig sh19 3 (5 - 1 - 1 - 1 - 1 - 1) _ _ y [y / 10, m / 10 / 10, d / 10 / 10, h / 10 / 10, n / 10 / 10, s / 10 / 10] rfl (by simp) rfl (by omega) (by omega) rfl,
      lp_dig sh19 2 (5 - 1 - 1 - 1 - 1 - 1) _ _ (y / 10) [y / 10 / 10, m / 10 / 10, d / 10 / 10, h / 10 / 10, n / 10 / 10, s / 10 / 10] rfl (by simp) rfl (by omega) (by omega) rfl,
      lp_dig sh19 1 (5 - 1 - 1 - 1 - 1 - 1) _ _ (y / 10 / 10) [y / 10 / 10 / 10, m / 10 / 10, d / 10 / 10, h / 10 / 10, n / 10 / 10, s / 10 / 10] rfl (by simp) rfl (by omega) (by omega) rfl,
      lp_dig sh19 0 (5 - 1 - 1 - 1 - 1 - 1) _ _ (y / 10 / 10 / 10) [y / 10 / 10 / 10 / 10, m / 10 / 10, d / 10 / 10, h / 10 / 10, n / 10 / 10, s / 10 / 10] rfl (by simp) rfl (by omega) (by omega) rfl,
      stamp_fill.lp]
    rfl
  rw [e]; rfl
theorem fill_day (y m d : Int) (y0 : 0 ≤ y ∧ y ≤ 9999) (m0 : 0 ≤ m ∧ m ≤ 99) (d0 : 0 ≤ d ∧ d ≤ 99) :
    stamp_fill.f sh10 [y, m, d] = some ⟨(dx y m d).toArray⟩ := by
  unfold stamp_fill.f
  rw [if_pos (by refine ⟨by decide, by simp, by simp⟩)]
  have e : stamp_fill.lp sh10 sh10.size (([y, m, d] : List Int).length - 1 : Int) [y, m, d] [] = some (dx y m d) := by
    show stamp_fill.lp sh10 10 2 _ _ = _
    rw [lp_dig sh10 9 2 _ _ d [y, m, d / 10] rfl (by simp) rfl (by omega) (by omega) rfl,
      lp_dig sh10 8 2 _ _ (d / 10) [y, m, d / 10 / 10] rfl (by simp) rfl (by omega) (by omega) rfl,
      lp_sep sh10 7 2 _ _ 45 rfl (by decide),
      lp_dig sh10 6 (2 - 1) _ _ m [y, m / 10, d / 10 / 10] rfl (by simp) rfl (by omega) (by omega) rfl,
      lp_dig sh10 5 (2 - 1) _ _ (m / 10) [y, m / 10 / 10, d / 10 / 10] rfl (by simp) rfl (by omega) (by omega) rfl,
      lp_sep sh10 4 (2 - 1) _ _ 45 rfl (by decide),
      lp_dig sh10 3 (2 - 1 - 1) _ _ y [y / 10, m / 10 / 10, d / 10 / 10] rfl (by simp) rfl (by omega) (by omega) rfl,
      lp_dig sh10 2 (2 - 1 - 1) _ _ (y / 10) [y / 10 / 10, m / 10 / 10, d / 10 / 10] rfl (by simp) rfl (by omega) (by omega) rfl,
      lp_dig sh10 1 (2 - 1 - 1) _ _ (y / 10 / 10) [y / 10 / 10 / 10, m / 10 / 10, d / 10 / 10] rfl (by simp) rfl (by omega) (by omega) rfl,
      lp_dig sh10 0 (2 - 1 - 1) _ _ (y / 10 / 10 / 10) [y / 10 / 10 / 10 / 10, m / 10 / 10, d / 10 / 10] rfl (by simp) rfl (by omega) (by omega) rfl,
      stamp_fill.lp]
    rfl
  rw [e]; rfl
theorem valid_bd {y m d : Int} (v : Cal.Valid y m d) : (0 ≤ y ∧ y ≤ 9999) ∧ (0 ≤ m ∧ m ≤ 99) ∧ (0 ≤ d ∧ d ≤ 99) := by
  have := Cal.mdays_bd y m
  unfold Cal.Valid at v; omega
theorem cv_bd {h n s : Int} (v : CV h n s) : (0 ≤ h ∧ h ≤ 99) ∧ (0 ≤ n ∧ n ≤ 99) ∧ (0 ≤ s ∧ s ≤ 99) := by
  unfold CV at v; omega
/-- a day's and a second's text -/
def dsx (d sec : Int) : List UInt8 := tx (Cal.dY d) (Cal.dM d) (Cal.dD d) (cH sec) (cM sec) (cS sec)
theorem day_law (k : Nat) (d : Int) : stamp_Day.f (k + 1) d = some (if -719162 ≤ d ∧ d ≤ 2932896 then (⟨(dx (Cal.dY d) (Cal.dM d) (Cal.dD d)).toArray⟩, true) else (⟨#[]⟩, false)) := by
  unfold stamp_Day.f
  rw [date_law]
  simp only [Option.bind_some]
  by_cases h : -719162 ≤ d ∧ d ≤ 2932896
  · obtain ⟨b1, b2, b3⟩ := valid_bd (Cal.date_law d h.1 h.2).1
    have f := fill_day _ _ _ b1 b2 b3
    simp only [if_pos h, if_true]
    rw [if_pos (by omega), if_pos (by omega)]
    rw [show (⟨#[48, 48, 48, 48, 45, 48, 48, 45, 48, 48, 84, 48, 48, 58, 48, 48, 58, 48, 48, 90]⟩ : ByteArray).extract 0 10 = sh10 from rfl, f]
    rfl
  · simp only [if_neg h]
    rw [if_neg (by decide)]
theorem text_law (k : Nat) (d sec : Int) : stamp_Text.f (k + 1) d sec = some (if (-719162 ≤ d ∧ d ≤ 2932896) ∧ 0 ≤ sec ∧ sec ≤ 86400 then (⟨(dsx d sec).toArray⟩, true) else (⟨#[]⟩, false)) := by
  unfold stamp_Text.f
  rw [date_law, clock_law]
  simp only [Option.bind_some]
  by_cases h : -719162 ≤ d ∧ d ≤ 2932896
  · obtain ⟨b1, b2, b3⟩ := valid_bd (Cal.date_law d h.1 h.2).1
    simp only [if_pos h, if_true]
    by_cases g : 0 ≤ sec ∧ sec ≤ 86400
    · obtain ⟨b4, b5, b6⟩ := cv_bd (clock_cv sec g.1 g.2).1
      have f := fill_text _ _ _ _ _ _ b1 b2 b3 b4 b5 b6
      simp only [if_pos g, if_true]
      rw [if_pos (by omega), if_pos (by omega)]
      rw [show (⟨#[48, 48, 48, 48, 45, 48, 48, 45, 48, 48, 84, 48, 48, 58, 48, 48, 58, 48, 48, 90]⟩ : ByteArray).extract 0 19 = sh19 from rfl, f]
      simp only [Option.bind_some]
      rw [if_pos (show _ ≤ _ from by show 20 ≤ 9223372036854775807; omega), if_pos ⟨h, g⟩]
      rfl
    · simp only [if_neg g]
      rw [if_neg (by decide), if_neg (fun q => g q.2)]
  · simp only [if_neg h]
    rw [if_neg (by decide), if_neg (fun q => h q.1)]
/-! reading -/
theorem ba_ext {a b : ByteArray} (h : a.toList = b.toList) : a = b := by
  rw [ByteArray.toList_eq, ByteArray.toList_eq] at h
  have := Array.toList_inj.mp h
  cases a; cases b; simp_all
theorem ba_list (l : List UInt8) : (⟨l.toArray⟩ : ByteArray).toList = l := by rw [ByteArray.toList_eq]
theorem run_good (s : ByteArray) (hs : s.size = 20) (hg : ∀ j, j < 20 → stamp_read.good s j = true) : ∀ n i, n + i = 21 → 1 ≤ n → stamp_read.run s n i = (stamp_read.st s 20, true) := by
  intro n
  induction n with
  | zero => intro i _ h; omega
  | succ n ih =>
    intro i e _
    rw [stamp_read.run]
    by_cases h : i < s.size
    · rw [if_pos h, if_pos (hg i (by omega))]
      exact ih (i + 1) (by omega) (by omega)
    · rw [if_neg h, show i = 20 by omega, decide_eq_true hs]
theorem run_true (s : ByteArray) : ∀ n i, n + i = 21 → 1 ≤ n → (∀ j, j < i → stamp_read.good s j = true) → (stamp_read.run s n i).2 = true → s.size = 20 ∧ ∀ j, j < 20 → stamp_read.good s j = true := by
  intro n
  induction n with
  | zero => intro i _ h; omega
  | succ n ih =>
    intro i e _ hj hr
    rw [stamp_read.run] at hr
    by_cases h : i < s.size
    · rw [if_pos h] at hr
      by_cases g : stamp_read.good s i = true
      · rw [if_pos g] at hr
        have i20 : i < 20 := by
          unfold stamp_read.good at g
          rw [Bool.and_eq_true, decide_eq_true_eq] at g; exact g.1
        refine ih (i + 1) (by omega) (by omega) (fun j q => ?_) hr
        by_cases e2 : j = i
        · rw [e2]; exact g
        · exact hj j (by omega)
      · rw [if_neg g] at hr; simp at hr
    · rw [if_neg h] at hr
      have hz : s.size = 20 := by simpa using hr
      exact ⟨hz, fun j q => hj j (by omega)⟩
theorem run_st (s : ByteArray) : ∀ n i, ∃ j, (stamp_read.run s n i).1 = stamp_read.st s j := by
  intro n
  induction n with
  | zero => intro i; exact ⟨i, rfl⟩
  | succ n ih =>
    intro i
    rw [stamp_read.run]
    split
    · split
      · exact ih (i + 1)
      · exact ⟨i, rfl⟩
    · exact ⟨i, rfl⟩
theorem wrap_i64 (n : Int) : I64 (wrap64 n) := by unfold I64 wrap64; omega
theorem st_i64 (s : ByteArray) : ∀ i x, x ∈ stamp_read.st s i → I64 x := by
  intro i
  induction i with
  | zero => intro x hx; simp [stamp_read.st] at hx; subst hx; unfold I64; omega
  | succ i ih =>
    intro x hx
    rw [stamp_read.st] at hx
    split at hx
    · rcases List.mem_or_eq_of_mem_set hx with h | h
      · exact ih x h
      · rw [h]; exact wrap_i64 _
    · exact ih x hx
theorem rd_i64 (l : List Int) (h : ∀ x, x ∈ l → I64 x) (i : Int) : I64 (rd l i) := by
  unfold rd
  rw [List.getD_eq_getElem?_getD]
  by_cases q : i.toNat < l.length
  · rw [List.getElem?_eq_getElem q]; exact h _ (List.getElem_mem q)
  · rw [List.getElem?_eq_none (by omega)]; unfold I64; simp
theorem st_sep (s : ByteArray) (i : Nat) (l : List Int) (hm : stamp_read.m i ≠ 48) (h : stamp_read.st s i = l) : stamp_read.st s (i + 1) = l := by
  rw [stamp_read.st, if_neg hm, h]
theorem st_dig (s : ByteArray) (i kk : Nat) (l : List Int) (x : Int) (l' : List Int) (h : stamp_read.st s i = l) (hm : stamp_read.m i = 48) (hk : stamp_read.k i = kk) (hx : rd l (kk : Int) = x / 10) (hc : s.get! i = dg x) (x0 : 0 ≤ x) (x1 : x ≤ 100000) (hs : l.set kk x = l') : stamp_read.st s (i + 1) = l' := by
  have e : stamp_read.c s i = 48 + x % 10 := by unfold stamp_read.c; rw [hc, dg_nat]
  rw [stamp_read.st, if_pos hm, h, hk, hx, e, w64 (n := 10 * (x / 10)) (by omega) (by omega), w64 (by omega) (by omega), show 10 * (x / 10) + (48 + x % 10 - 48) = x by omega, hs]
def txb (y m d h n s : Int) : ByteArray := ⟨(tx y m d h n s).toArray⟩
theorem st_text (y m d h n s : Int) (y0 : 0 ≤ y ∧ y ≤ 9999) (m0 : 0 ≤ m ∧ m ≤ 99) (d0 : 0 ≤ d ∧ d ≤ 99) (h0 : 0 ≤ h ∧ h ≤ 99) (n0 : 0 ≤ n ∧ n ≤ 99) (s0 : 0 ≤ s ∧ s ≤ 99) :
    stamp_read.st (txb y m d h n s) 20 = [y, m, d, h, n, s] := by
  have e0 : stamp_read.st (txb y m d h n s) 0 = [0, 0, 0, 0, 0, 0] := rfl
  have e1 := st_dig _ 0 0 _ (y / 10 / 10 / 10) [y / 10 / 10 / 10, 0, 0, 0, 0, 0] e0 rfl rfl (by show (0 : Int) = _; omega) rfl (by omega) (by omega) rfl
  have e2 := st_dig _ 1 0 _ (y / 10 / 10) [y / 10 / 10, 0, 0, 0, 0, 0] e1 rfl rfl rfl rfl (by omega) (by omega) rfl
  have e3 := st_dig _ 2 0 _ (y / 10) [y / 10, 0, 0, 0, 0, 0] e2 rfl rfl rfl rfl (by omega) (by omega) rfl
  have e4 := st_dig _ 3 0 _ y [y, 0, 0, 0, 0, 0] e3 rfl rfl rfl rfl (by omega) (by omega) rfl
  have e5 := st_sep _ 4 _ (by decide) e4
  have e6 := st_dig _ 5 1 _ (m / 10) [y, m / 10, 0, 0, 0, 0] e5 rfl rfl (by show (0 : Int) = _; omega) rfl (by omega) (by omega) rfl
  have e7 := st_dig _ 6 1 _ m [y, m, 0, 0, 0, 0] e6 rfl rfl rfl rfl (by omega) (by omega) rfl
  have e8 := st_sep _ 7 _ (by decide) e7
  have e9 := st_dig _ 8 2 _ (d / 10) [y, m, d / 10, 0, 0, 0] e8 rfl rfl (by show (0 : Int) = _; omega) rfl (by omega) (by omega) rfl
  have e10 := st_dig _ 9 2 _ d [y, m, d, 0, 0, 0] e9 rfl rfl rfl rfl (by omega) (by omega) rfl
  have e11 := st_sep _ 10 _ (by decide) e10
  have e12 := st_dig _ 11 3 _ (h / 10) [y, m, d, h / 10, 0, 0] e11 rfl rfl (by show (0 : Int) = _; omega) rfl (by omega) (by omega) rfl
  have e13 := st_dig _ 12 3 _ h [y, m, d, h, 0, 0] e12 rfl rfl rfl rfl (by omega) (by omega) rfl
  have e14 := st_sep _ 13 _ (by decide) e13
  have e15 := st_dig _ 14 4 _ (n / 10) [y, m, d, h, n / 10, 0] e14 rfl rfl (by show (0 : Int) = _; omega) rfl (by omega) (by omega) rfl
  have e16 := st_dig _ 15 4 _ n [y, m, d, h, n, 0] e15 rfl rfl rfl rfl (by omega) (by omega) rfl
  have e17 := st_sep _ 16 _ (by decide) e16
  have e18 := st_dig _ 17 5 _ (s / 10) [y, m, d, h, n, s / 10] e17 rfl rfl (by show (0 : Int) = _; omega) rfl (by omega) (by omega) rfl
  have e19 := st_dig _ 18 5 _ s [y, m, d, h, n, s] e18 rfl rfl rfl rfl (by omega) (by omega) rfl
  exact st_sep _ 19 _ (by decide) e19
theorem good_dig (s : ByteArray) (j : Nat) (x : Int) (h : j < 20) (hm : stamp_read.m j = 48) (hc : s.get! j = dg x) : stamp_read.good s j = true := by
  have e : stamp_read.c s j = 48 + x % 10 := by unfold stamp_read.c; rw [hc, dg_nat]
  unfold stamp_read.good
  rw [if_pos hm, decide_eq_true h, decide_eq_true (show 48 ≤ stamp_read.c s j by omega), decide_eq_true (show stamp_read.c s j ≤ 57 by omega)]; rfl
theorem good_sep (s : ByteArray) (j : Nat) (h : j < 20) (hm : stamp_read.m j ≠ 48) (hc : s.get! j = stamp_read.sh.get! j) : stamp_read.good s j = true := by
  unfold stamp_read.good
  rw [if_neg hm, decide_eq_true h, decide_eq_true (show stamp_read.c s j = stamp_read.m j by unfold stamp_read.m stamp_read.c; rw [hc])]; rfl
theorem text_good (y m d h n s : Int) : ∀ j, j < 20 → stamp_read.good (txb y m d h n s) j = true := by
  intro j hj
  have : j = 0 ∨ j = 1 ∨ j = 2 ∨ j = 3 ∨ j = 4 ∨ j = 5 ∨ j = 6 ∨ j = 7 ∨ j = 8 ∨ j = 9 ∨ j = 10 ∨ j = 11 ∨ j = 12 ∨ j = 13 ∨ j = 14 ∨ j = 15 ∨ j = 16 ∨ j = 17 ∨ j = 18 ∨ j = 19 := by omega
  rcases this with rfl | rfl | rfl | rfl | rfl | rfl | rfl | rfl | rfl | rfl | rfl | rfl | rfl | rfl | rfl | rfl | rfl | rfl | rfl | rfl
  all_goals first
    | exact good_sep _ _ hj (by decide) rfl
    | exact good_dig _ _ _ hj rfl rfl
theorem run_text (y m d h n s : Int) (y0 : 0 ≤ y ∧ y ≤ 9999) (m0 : 0 ≤ m ∧ m ≤ 99) (d0 : 0 ≤ d ∧ d ≤ 99) (h0 : 0 ≤ h ∧ h ≤ 99) (n0 : 0 ≤ n ∧ n ≤ 99) (s0 : 0 ≤ s ∧ s ≤ 99) :
    stamp_read.run (txb y m d h n s) 21 0 = ([y, m, d, h, n, s], true) := by
  rw [run_good _ rfl (text_good y m d h n s) 21 0 rfl (by omega), st_text y m d h n s y0 m0 d0 h0 n0 s0]
theorem good_is (s : ByteArray) (j : Nat) (g : stamp_read.good s j = true) : (stamp_read.m j = 48 → 48 ≤ stamp_read.c s j ∧ stamp_read.c s j ≤ 57) ∧ (stamp_read.m j ≠ 48 → stamp_read.c s j = stamp_read.m j) := by
  unfold stamp_read.good at g
  rw [Bool.and_eq_true] at g
  refine ⟨fun hm => ?_, fun hm => ?_⟩
  · have := g.2
    rw [if_pos hm, Bool.and_eq_true, decide_eq_true_eq, decide_eq_true_eq] at this; exact this
  · have := g.2
    rw [if_neg hm, decide_eq_true_eq] at this; exact this
theorem byte_eq {b c : UInt8} (h : (b.toNat : Int) = (c.toNat : Int)) : b = c := UInt8.toNat_inj.mp (by omega)
theorem four (a b c d : UInt8) (ha : 48 ≤ (a.toNat : Int) ∧ (a.toNat : Int) ≤ 57) (hb : 48 ≤ (b.toNat : Int) ∧ (b.toNat : Int) ≤ 57) (hc : 48 ≤ (c.toNat : Int) ∧ (c.toNat : Int) ≤ 57) (hd : 48 ≤ (d.toNat : Int) ∧ (d.toNat : Int) ≤ 57) :
    ∃ y : Int, (0 ≤ y ∧ y ≤ 9999) ∧ dg (y / 10 / 10 / 10) = a ∧ dg (y / 10 / 10) = b ∧ dg (y / 10) = c ∧ dg y = d :=
  ⟨1000 * ((a.toNat : Int) - 48) + 100 * ((b.toNat : Int) - 48) + 10 * ((c.toNat : Int) - 48) + ((d.toNat : Int) - 48), by omega, dg_eq _ _ (by omega), dg_eq _ _ (by omega), dg_eq _ _ (by omega), dg_eq _ _ (by omega)⟩
theorem two (a b : UInt8) (ha : 48 ≤ (a.toNat : Int) ∧ (a.toNat : Int) ≤ 57) (hb : 48 ≤ (b.toNat : Int) ∧ (b.toNat : Int) ≤ 57) :
    ∃ y : Int, (0 ≤ y ∧ y ≤ 99) ∧ dg (y / 10) = a ∧ dg y = b :=
  ⟨10 * ((a.toNat : Int) - 48) + ((b.toNat : Int) - 48), by omega, dg_eq _ _ (by omega), dg_eq _ _ (by omega)⟩
theorem good_text (s : ByteArray) (hs : s.size = 20) (hg : ∀ j, j < 20 → stamp_read.good s j = true) : ∃ y m d h n t : Int, (0 ≤ y ∧ y ≤ 9999) ∧ (0 ≤ m ∧ m ≤ 99) ∧ (0 ≤ d ∧ d ≤ 99) ∧ (0 ≤ h ∧ h ≤ 99) ∧ (0 ≤ n ∧ n ≤ 99) ∧ (0 ≤ t ∧ t ≤ 99) ∧ s = txb y m d h n t := by
  obtain ⟨⟨l⟩⟩ := s
  have hl : l.length = 20 := hs
  match l, hl, hg with
  | [b0, b1, b2, b3, b4, b5, b6, b7, b8, b9, b10, b11, b12, b13, b14, b15, b16, b17, b18, b19], _, hg =>
    have D := fun j (hj : j < 20) (hm : stamp_read.m j = 48) => (good_is _ j (hg j hj)).1 hm
    have S := fun j (hj : j < 20) (hm : stamp_read.m j ≠ 48) => (good_is _ j (hg j hj)).2 hm
    obtain ⟨y, yb, y1, y2, y3, y4⟩ := four b0 b1 b2 b3 (D 0 (by omega) rfl) (D 1 (by omega) rfl) (D 2 (by omega) rfl) (D 3 (by omega) rfl)
    obtain ⟨m, mb, m1, m2⟩ := two b5 b6 (D 5 (by omega) rfl) (D 6 (by omega) rfl)
    obtain ⟨d, db, d1, d2⟩ := two b8 b9 (D 8 (by omega) rfl) (D 9 (by omega) rfl)
    obtain ⟨h, hb, h1, h2⟩ := two b11 b12 (D 11 (by omega) rfl) (D 12 (by omega) rfl)
    obtain ⟨n, nb, n1, n2⟩ := two b14 b15 (D 14 (by omega) rfl) (D 15 (by omega) rfl)
    obtain ⟨t, tb, t1, t2⟩ := two b17 b18 (D 17 (by omega) rfl) (D 18 (by omega) rfl)
    have s4 : b4 = 45 := byte_eq (S 4 (by omega) (by decide))
    have s7 : b7 = 45 := byte_eq (S 7 (by omega) (by decide))
    have s10 : b10 = 84 := byte_eq (S 10 (by omega) (by decide))
    have s13 : b13 = 58 := byte_eq (S 13 (by omega) (by decide))
    have s16 : b16 = 58 := byte_eq (S 16 (by omega) (by decide))
    have s19 : b19 = 90 := byte_eq (S 19 (by omega) (by decide))
    refine ⟨y, m, d, h, n, t, yb, mb, db, hb, nb, tb, ?_⟩
    unfold txb tx dx cx
    rw [y1, y2, y3, y4, m1, m2, d1, d2, h1, h2, n1, n2, t1, t2, s4, s7, s10, s13, s16, s19]
    rfl
/-- what a text says -/
theorem parse_text (k : Nat) (y m d h n s : Int) (v : Cal.Valid y m d) (c : CV h n s) : stamp_Parse.f (k + 1) (txb y m d h n s) = some (Cal.num y m d, sod h n s, true) := by
  obtain ⟨b1, b2, b3⟩ := valid_bd v
  obtain ⟨b4, b5, b6⟩ := cv_bd c
  unfold stamp_Parse.f
  rw [if_pos (show _ ≤ _ from by show 20 ≤ 1000; omega), run_text y m d h n s b1 b2 b3 b4 b5 b6]
  show ((day_Number.f (k + 1) y m d).bind fun n_ => ((stamp_Second.f (k + 1) h n s).bind fun s_ => some (stamp_Parse.g true n_.1 n_.2 s_.1 s_.2))) = _
  rw [number_law _ _ _ _ (by unfold I64; omega), second_law, if_pos v, if_pos c]
  rfl
theorem parse_law (k : Nat) (s : ByteArray) (hs : s.size ≤ 1000) : (∃ y m d h n t, s = txb y m d h n t ∧ Cal.Valid y m d ∧ CV h n t) ∨ (stamp_Parse.f (k + 1) s = some (0, 0, false) ∧ ∀ y m d h n t, Cal.Valid y m d → CV h n t → s ≠ txb y m d h n t) := by
  by_cases q : ∃ y m d h n t, s = txb y m d h n t ∧ Cal.Valid y m d ∧ CV h n t
  · exact .inl q
  · refine .inr ⟨?_, fun y m d h n t v c e => q ⟨y, m, d, h, n, t, e, v, c⟩⟩
    unfold stamp_Parse.f
    rw [if_pos hs]
    obtain ⟨j, hj⟩ := run_st s 21 0
    have hi : I64 (rd (stamp_read.run s 21 0).1 2) := by rw [hj]; exact rd_i64 _ (st_i64 s j) 2
    rw [number_law _ _ _ _ hi, second_law]
    simp only [Option.bind_some]
    cases hb : (stamp_read.run s 21 0).2 with
    | false => simp [stamp_Parse.g]
    | true =>
      obtain ⟨hz, hg⟩ := run_true s 21 0 rfl (by omega) (fun j h => by omega) hb
      obtain ⟨y, m, d, h, n, t, b1, b2, b3, b4, b5, b6, rfl⟩ := good_text s hz hg
      rw [run_text y m d h n t b1 b2 b3 b4 b5 b6]
      have hn : ¬ (Cal.Valid y m d ∧ CV h n t) := fun z => q ⟨y, m, d, h, n, t, rfl, z.1, z.2⟩
      show some (stamp_Parse.g true (if Cal.Valid y m d then (Cal.num y m d, true) else (0, false)).1 (if Cal.Valid y m d then (Cal.num y m d, true) else (0, false)).2 (if CV h n t then (sod h n t, true) else (0, false)).1 (if CV h n t then (sod h n t, true) else (0, false)).2) = some (0, 0, false)
      by_cases v : Cal.Valid y m d
      · rw [if_pos v, if_neg (fun c => hn ⟨v, c⟩)]; simp [stamp_Parse.g]
      · rw [if_neg v]; simp [stamp_Parse.g]
end Go.Proofs.Ytpgkdagjlbcgkaa.Pure
