/- The calendar in plain numbers: years, months, days, and the number of a day; no program in sight. Tables of leaps in plain numbers and lists: what is wrong of them, and what is found. Records of leap seconds in plain numbers and lists: what is wrong of them, their sums, and tables made of them. More of records in plain lists: beginnings, sums of steps, expiries. Days and seconds of TAI by a table of leaps, in plain numbers and lists. Seconds of TAI and days, by a table of leaps: which day has a second, and what is told of it. The windows of leaps: which day's window has a second; smearing within one, there and back. Smeared ticks and plain ones, in plain numbers: near, in order, and out of all windows the same. -/
import Derived.RowKit
namespace Go.Proofs.Ythoigncoojcanaa.Cal
def leap (y : Int) : Bool := decide (y % 4 = 0) && (!decide (y % 100 = 0) || decide (y % 400 = 0))
def mdays (y m : Int) : Int := if m = 2 then (if leap y = true then 29 else 28) else if m = 4 ∨ m = 6 ∨ m = 9 ∨ m = 11 then 30 else 31
/-- days ahead of the first of March of a year, but for a fixed number -/
def yd (y : Int) : Int := 365 * y + y / 4 - y / 100 + y / 400
def Valid (y m d : Int) : Prop := 1 ≤ y ∧ y ≤ 9999 ∧ 1 ≤ m ∧ m ≤ 12 ∧ 1 ≤ d ∧ d ≤ mdays y m
def num (y m d : Int) : Int := if m < 3 then yd (y - 1) + (153 * (m + 9) + 2) / 5 + d - 719469 else yd y + (153 * (m - 3) + 2) / 5 + d - 719469

theorem yd_era (y : Int) : 146097 * (y / 400) + 365 * (y % 400) + (y % 400) / 4 - (y % 400) / 100 = yd y := by
  unfold yd; omega
theorem yd_mono (y z : Int) (h : y ≤ z) : yd y ≤ yd z := by unfold yd; omega
theorem yd_step (y : Int) : 365 ≤ yd (y + 1) - yd y ∧ yd (y + 1) - yd y ≤ 366 := by unfold yd; omega
theorem leap_400 (y : Int) : leap (y + 400) = leap y := by
  unfold leap
  rw [show (y + 400) % 4 = y % 4 by omega, show (y + 400) % 100 = y % 100 by omega, show (y + 400) % 400 = y % 400 by omega]
theorem leap_true {y : Int} (h : leap y = true) : yd y - yd (y - 1) = 366 := by
  unfold leap at h; simp at h; unfold yd; omega
theorem leap_false {y : Int} (h : leap y = false) : yd y - yd (y - 1) = 365 := by
  unfold leap at h; simp at h; unfold yd; omega
theorem mdays_bd (y m : Int) : 28 ≤ mdays y m ∧ mdays y m ≤ 31 := by
  unfold mdays; split
  · split <;> omega
  · split <;> omega

/-- the day within its year, counted from March on -/
theorem num_part (y m d : Int) (h : Valid y m d) : ∃ z k : Int, num y m d = yd z + k - 719468 ∧ 0 ≤ k ∧ k < yd (z + 1) - yd z ∧ (m < 3 → z = y - 1 ∧ 306 ≤ k) ∧ (3 ≤ m → z = y ∧ k < 306) := by
  obtain ⟨h1, h2, h3, h4, h5, h6⟩ := h
  by_cases hm : m < 3
  · refine ⟨y - 1, (153 * (m + 9) + 2) / 5 + d - 1, ?_, ?_, ?_, ?_, ?_⟩
    · unfold num; rw [if_pos hm]; omega
    · omega
    · rw [show y - 1 + 1 = y by omega]
      unfold mdays at h6
      cases hl : leap y with
      | true => have := leap_true hl; simp [hl] at h6; split at h6 <;> (try split at h6) <;> omega
      | false => have := leap_false hl; simp [hl] at h6; split at h6 <;> (try split at h6) <;> omega
    · intro; constructor <;> omega
    · intro; omega
  · refine ⟨y, (153 * (m - 3) + 2) / 5 + d - 1, ?_, ?_, ?_, ?_, ?_⟩
    · unfold num; rw [if_neg hm]; omega
    · omega
    · have hy : 365 ≤ yd (y + 1) - yd y := by unfold yd; omega
      unfold mdays at h6
      have : m = 3 ∨ m = 4 ∨ m = 5 ∨ m = 6 ∨ m = 7 ∨ m = 8 ∨ m = 9 ∨ m = 10 ∨ m = 11 ∨ m = 12 := by omega
      rcases this with rfl | rfl | rfl | rfl | rfl | rfl | rfl | rfl | rfl | rfl <;> simp at h6 <;> omega
    · intro; omega
    · intro
      refine ⟨rfl, ?_⟩
      unfold mdays at h6
      have : m = 3 ∨ m = 4 ∨ m = 5 ∨ m = 6 ∨ m = 7 ∨ m = 8 ∨ m = 9 ∨ m = 10 ∨ m = 11 ∨ m = 12 := by omega
      rcases this with rfl | rfl | rfl | rfl | rfl | rfl | rfl | rfl | rfl | rfl <;> simp at h6 <;> omega

theorem num_month (y m d k e : Int) (h : Valid y m d) (h' : Valid y k e) (hlt : m < k) : num y m d < num y k e := by
  have A := num_part y m d h
  have B := num_part y k e h'
  obtain ⟨z, p, e1, p0, p1, q1, q2⟩ := A
  obtain ⟨z', p', e1', p0', p1', q1', q2'⟩ := B
  obtain ⟨h1, h2, h3, h4, h5, h6⟩ := h
  obtain ⟨_, _, h3', h4', h5', h6'⟩ := h'
  by_cases hm : m < 3
  · by_cases hk : k < 3
    · have : m = 1 := by omega
      subst this
      have : k = 2 := by omega
      subst this
      unfold num; simp; unfold mdays at h6; simp at h6; omega
    · have a := q1 hm
      have b := q2' (by omega)
      rw [e1, e1', a.1, b.1]
      have : p < yd y - yd (y - 1) := by have := p1; rw [a.1] at this; rw [show y - 1 + 1 = y by omega] at this; exact this
      omega
  · unfold num; rw [if_neg hm, if_neg (by omega)]
    unfold mdays at h6
    have : m = 3 ∨ m = 4 ∨ m = 5 ∨ m = 6 ∨ m = 7 ∨ m = 8 ∨ m = 9 ∨ m = 10 ∨ m = 11 := by omega
    rcases this with rfl | rfl | rfl | rfl | rfl | rfl | rfl | rfl | rfl <;> simp at h6 <;> omega

theorem num_year (y m d z k e : Int) (h : Valid y m d) (h' : Valid z k e) (hlt : y < z) : num y m d < num z k e := by
  obtain ⟨a, p, e1, p0, p1, q1, q2⟩ := num_part y m d h
  obtain ⟨a', p', e1', p0', p1', q1', q2'⟩ := num_part z k e h'
  rw [e1, e1']
  have m1 := yd_mono (a + 1) a'
  by_cases hm : m < 3
  · have := q1 hm
    by_cases hk : k < 3
    · have := q1' hk; have := m1 (by omega); omega
    · have := q2' (by omega); have := m1 (by omega); omega
  · have := q2 (by omega)
    by_cases hk : k < 3
    · have hh := q1' hk
      by_cases hy : a + 1 ≤ a'
      · have := m1 hy; omega
      · have : a = a' := by omega
        subst this; omega
    · have := q2' (by omega); have := m1 (by omega); omega

/-- which of two dates is ahead -/
def before (y m d z k e : Int) : Prop := y < z ∨ y = z ∧ (m < k ∨ m = k ∧ d < e)
theorem num_lt (y m d z k e : Int) (h : Valid y m d) (h' : Valid z k e) (hb : before y m d z k e) : num y m d < num z k e := by
  rcases hb with hb | ⟨rfl, hb | ⟨rfl, hb⟩⟩
  · exact num_year _ _ _ _ _ _ h h' hb
  · exact num_month _ _ _ _ _ h h' hb
  · unfold num; split <;> omega
theorem num_inj (y m d z k e : Int) (h : Valid y m d) (h' : Valid z k e) (he : num y m d = num z k e) : y = z ∧ m = k ∧ d = e := by
  have A : ¬ before y m d z k e := fun hb => by have := num_lt _ _ _ _ _ _ h h' hb; omega
  have B : ¬ before z k e y m d := fun hb => by have := num_lt _ _ _ _ _ _ h' h hb; omega
  unfold before at A B; omega

theorem valid_first : Valid 1 1 1 := by refine ⟨by omega, by omega, by omega, by omega, by omega, by decide⟩
theorem valid_last : Valid 9999 12 31 := by refine ⟨by omega, by omega, by omega, by omega, by omega, by decide⟩
theorem num_bd (y m d : Int) (h : Valid y m d) : -719162 ≤ num y m d ∧ num y m d ≤ 2932896 := by
  have h0 := h
  obtain ⟨h1, h2, h3, h4, h5, h6⟩ := h
  constructor
  · by_cases e : before 1 1 1 y m d
    · have := num_lt _ _ _ _ _ _ valid_first h0 e
      have : num 1 1 1 = -719162 := by decide
      omega
    · have : y = 1 ∧ m = 1 ∧ d = 1 := by unfold before at e; omega
      obtain ⟨rfl, rfl, rfl⟩ := this; decide
  · by_cases e : before y m d 9999 12 31
    · have := num_lt _ _ _ _ _ _ h0 valid_last e
      have : num 9999 12 31 = 2932896 := by decide
      omega
    · have := mdays_bd y m
      have : y = 9999 ∧ m = 12 ∧ d = 31 := by unfold before at e; omega
      obtain ⟨rfl, rfl, rfl⟩ := this; decide

/-- the year within four hundred, and the day of it, from March on -/
theorem yoe_law (x : Int) (h0 : 0 ≤ x) (h1 : x < 146097) : ∃ c : Int, (x - x / 1460 + x / 36524 - x / 146096) / 365 = c ∧ 0 ≤ c ∧ c ≤ 399 ∧ yd c ≤ x ∧ x < yd (c + 1) := by
  refine ⟨_, rfl, by omega, by omega, ?_⟩
  generalize hb : (x - x / 1460 + x / 36524 - x / 146096) / 365 = b
  have hb0 : 0 ≤ b ∧ b ≤ 399 := by omega
  unfold yd
  have hg : x / 36524 = 0 ∨ x / 36524 = 1 ∨ x / 36524 = 2 ∨ x / 36524 = 3 ∨ x / 36524 = 4 := by omega
  have hh : x / 146096 = 0 ∨ x / 146096 = 1 := by omega
  have hf : ∃ f s : Int, x = 1460 * f + s ∧ x / 1460 = f ∧ 0 ≤ s ∧ s < 1460 := ⟨x / 1460, x % 1460, by omega, rfl, by omega, by omega⟩
  obtain ⟨f, s, e1, e2, s0, s1⟩ := hf
  have he : b / 400 = 0 := by omega
  have hc : ∃ c t : Int, b = 4 * c + t ∧ b / 4 = c ∧ 0 ≤ t ∧ t < 4 := ⟨b / 4, b % 4, by omega, rfl, by omega, by omega⟩
  obtain ⟨c, t, e3, e4, t0, t1⟩ := hc
  have hm : f = c - 1 ∨ f = c ∨ f = c + 1 := by omega
  have ht : t = 0 ∨ t = 1 ∨ t = 2 ∨ t = 3 := by omega
  rw [e2] at hb
  rw [e4, he]
  have k1 : b / 100 = c / 25 := by omega
  rw [k1]
  rcases hg with g | g | g | g | g <;> rw [g] at hb
  all_goals
    rcases hh with h | h <;> rw [h] at hb
    all_goals
      rcases hm with m | m | m <;> subst m
      all_goals
        rcases ht with rfl | rfl | rfl | rfl
        all_goals
          first
          | (exfalso; omega; done)
          | (constructor
             · omega
             · first
               | omega
               | (have : (b + 1) / 4 = c := by omega
                  have : (b + 1) / 100 = c / 25 := by omega
                  have : (b + 1) / 400 = 0 := by omega
                  omega)
               | (have : (b + 1) / 4 = c + 1 := by omega
                  have : (b + 1) / 100 = (c + 1) / 25 := by omega
                  have : (b + 1) / 400 = (c + 1) / 100 := by omega
                  omega))

def yoe (x : Int) : Int := (x - x / 1460 + x / 36524 - x / 146096) / 365
def dY (n : Int) : Int := let o := (n + 719468) % 146097; let c := yoe o; let p := (5 * (o - yd c) + 2) / 153; 400 * ((n + 719468) / 146097) + c + (if p < 10 then 0 else 1)
def dM (n : Int) : Int := let o := (n + 719468) % 146097; let c := yoe o; let p := (5 * (o - yd c) + 2) / 153; if p < 10 then p + 3 else p - 9
def dD (n : Int) : Int := let o := (n + 719468) % 146097; let c := yoe o; let p := (5 * (o - yd c) + 2) / 153; o - yd c - (153 * p + 2) / 5 + 1
theorem leap_of {y : Int} (h : yd y - yd (y - 1) = 366) : leap y = true := by
  cases hl : leap y with
  | true => rfl
  | false => have := leap_false hl; omega
theorem yd_400 (e c : Int) : yd (400 * e + c) = 146097 * e + yd c := by unfold yd; omega
theorem date_law (n : Int) (h0 : -719162 ≤ n) (h1 : n ≤ 2932896) : Valid (dY n) (dM n) (dD n) ∧ num (dY n) (dM n) (dD n) = n := by
  unfold dY dM dD
  generalize ho : (n + 719468) % 146097 = o
  generalize he : (n + 719468) / 146097 = e
  obtain ⟨c, hc, c0, c1, k0, k1⟩ := yoe_law o (by omega) (by omega)
  have hc' : yoe o = c := hc
  simp only [hc']
  clear hc hc'
  have y1 := yd_400 e c
  have y2 := yd_400 e (c + 1)
  generalize hk : o - yd c = k
  have hk0 : 0 ≤ k := by omega
  have hk1 : k < yd (c + 1) - yd c := by omega
  have hyy : 365 ≤ yd (c + 1) - yd c ∧ yd (c + 1) - yd c ≤ 366 := by unfold yd; omega
  have hn : n = yd (400 * e + c) + k - 719468 := by omega
  have hY0 : 0 ≤ 400 * e + c := by
    by_cases q : 400 * e + c < 0
    · have := yd_mono (400 * e + c + 1) 0 (by omega); rw [show 400 * e + c + 1 = 400 * e + (c + 1) by omega] at this; have : yd 0 = 0 := by decide
      omega
    · omega
  have hY1 : 400 * e + c ≤ 9999 := by
    by_cases q : 9999 < 400 * e + c
    · have := yd_mono 10000 (400 * e + c) (by omega); have : yd 10000 = 3652425 := by decide
      omega
    · omega
  have hY2 : 400 * e + c = 0 → 306 ≤ k := by intro q; rw [q] at hn; have : yd 0 = 0 := by decide
                                             omega
  have hY3 : 400 * e + c = 9999 → k < 306 := by intro q; rw [q] at hn; have : yd 9999 = 3652059 := by decide
                                                omega
  have hp : (5 * k + 2) / 153 = 0 ∨ (5 * k + 2) / 153 = 1 ∨ (5 * k + 2) / 153 = 2 ∨ (5 * k + 2) / 153 = 3 ∨ (5 * k + 2) / 153 = 4 ∨ (5 * k + 2) / 153 = 5 ∨ (5 * k + 2) / 153 = 6 ∨ (5 * k + 2) / 153 = 7 ∨ (5 * k + 2) / 153 = 8 ∨ (5 * k + 2) / 153 = 9 ∨ (5 * k + 2) / 153 = 10 ∨ (5 * k + 2) / 153 = 11 := by omega
  rcases hp with p | p | p | p | p | p | p | p | p | p | p | p <;> simp only [p]
  all_goals simp only [Int.reduceLT, if_true, if_false]
  case inr.inr.inr.inr.inr.inr.inr.inr.inr.inr.inr =>
    constructor
    · refine ⟨by omega, by omega, by omega, by omega, by omega, ?_⟩
      by_cases q : k = 365
      · have : leap (400 * e + c + 1) = true := leap_of (by rw [show 400 * e + c + 1 - 1 = 400 * e + c by omega, show 400 * e + c + 1 = 400 * e + (c + 1) by omega]; omega)
        simp [mdays, this]; omega
      · have := mdays_bd (400 * e + c + 1) 2
        show _ ≤ mdays (400 * e + c + 1) 2
        omega
    · simp only [num]; simp; rw [hn]; omega
  all_goals
    constructor
    · refine ⟨by omega, by omega, by omega, by omega, by omega, ?_⟩
      simp [mdays]; omega
    · simp only [num]; simp; rw [hn]; first | omega | (rw [show 400 * e + c + 1 - 1 = 400 * e + c by omega]; omega)
theorem num_succ_day (y m d : Int) : num y m (d + 1) = num y m d + 1 := by unfold num; split <;> omega
theorem num_succ_month (y m : Int) (h1 : 1 ≤ m) (h2 : m < 12) : num y (m + 1) 1 = num y m (mdays y m) + 1 := by
  have : m = 1 ∨ m = 2 ∨ m = 3 ∨ m = 4 ∨ m = 5 ∨ m = 6 ∨ m = 7 ∨ m = 8 ∨ m = 9 ∨ m = 10 ∨ m = 11 := by omega
  rcases this with rfl | rfl | rfl | rfl | rfl | rfl | rfl | rfl | rfl | rfl | rfl
  case inr.inl =>
    unfold num mdays
    cases hl : leap y with
    | true => have := leap_true hl; simp; omega
    | false => have := leap_false hl; simp; omega
  all_goals
    simp [num, mdays]; try omega
theorem num_succ_year (y : Int) : num (y + 1) 1 1 = num y 12 31 + 1 := by
  simp [num]; try rw [show y + 1 - 1 = y by omega]
  omega
theorem date_of (y m d n : Int) (h : Valid y m d) (e : num y m d = n) : dY n = y ∧ dM n = m ∧ dD n = d := by
  have b := num_bd y m d h
  obtain ⟨v, e'⟩ := date_law n (by omega) (by omega)
  exact num_inj _ _ _ _ _ _ v h (by omega)
theorem mdays_12 (y : Int) : mdays y 12 = 31 := by simp [mdays]
/-- the date of the next day -/
theorem next_law (n : Int) (h0 : -719162 ≤ n) (h1 : n < 2932896) :
    (dD n < mdays (dY n) (dM n) ∧ dY (n + 1) = dY n ∧ dM (n + 1) = dM n ∧ dD (n + 1) = dD n + 1) ∨
    (dD n = mdays (dY n) (dM n) ∧ dM n < 12 ∧ dY (n + 1) = dY n ∧ dM (n + 1) = dM n + 1 ∧ dD (n + 1) = 1) ∨
    (dD n = mdays (dY n) (dM n) ∧ dM n = 12 ∧ dY (n + 1) = dY n + 1 ∧ dM (n + 1) = 1 ∧ dD (n + 1) = 1) := by
  obtain ⟨v, e⟩ := date_law n h0 (by omega)
  generalize dY n = y at v e ⊢
  generalize dM n = m at v e ⊢
  generalize dD n = d at v e ⊢
  have v0 := v
  obtain ⟨y0, y1, m0, m1, d0, d1⟩ := v
  by_cases hd : d < mdays y m
  · left
    have := date_of y m (d + 1) (n + 1) ⟨y0, y1, m0, m1, by omega, by omega⟩ (by rw [num_succ_day]; omega)
    exact ⟨hd, this⟩
  · right
    have hd : d = mdays y m := by omega
    by_cases hm : m < 12
    · left
      have b := mdays_bd y (m + 1)
      have := date_of y (m + 1) 1 (n + 1) ⟨y0, y1, by omega, by omega, by omega, by omega⟩ (by rw [num_succ_month y m m0 hm, ← hd, e])
      exact ⟨hd, hm, this⟩
    · right
      have hm : m = 12 := by omega
      subst hm
      have hd31 : d = 31 := by rw [hd, mdays_12]
      have hy : y + 1 ≤ 9999 := by
        by_cases q : y = 9999
        · subst q; subst hd31; have : num 9999 12 31 = 2932896 := by decide
          omega
        · omega
      have := date_of (y + 1) 1 1 (n + 1) ⟨by omega, hy, by omega, by omega, by omega, by simp [mdays]⟩ (by rw [num_succ_year, ← hd31, e])
      exact ⟨hd, rfl, this⟩
/-- the last day of a month -/
def isEnd (n : Int) : Bool := decide (-719162 ≤ n ∧ n ≤ 2932896) && (dD n == mdays (dY n) (dM n))
end Go.Proofs.Ythoigncoojcanaa.Cal
namespace Go.Proofs.Ythoigncoojcanaa.LeapP
open Go.Proofs.Ythoigncoojcanaa
/-- a leap: its day, its step, its mark -/
structure L where
  day : Int
  step : Int
  roll : Bool
def wrong (k ahead : Int) (x : L) : Int :=
  if k ≥ 200 then 8 else if x.day < 730 ∨ x.day ≥ 2932896 then 9 else if Cal.isEnd x.day = false then 5 else if x.step ≠ 1 ∧ x.step ≠ -1 then 6 else if x.day ≤ ahead then 4 else 0
/-- how far leaps are right: the place of the first wrong one, or the end; what is wrong; the day of the one ahead -/
def chk : List L → Int → Int → Int × Int × Int
  | [], i, a => (i, 0, a)
  | x :: l, i, a => if wrong i a x = 0 then chk l (i + 1) x.day else (i, wrong i a x, a)
/-- leaps that are right, behind a day -/
def Good : Int → List L → Prop
  | _, [] => True
  | a, x :: l => 730 ≤ x.day ∧ x.day < 2932896 ∧ Cal.isEnd x.day = true ∧ (x.step = 1 ∨ x.step = -1) ∧ a < x.day ∧ Good x.day l
theorem wrong_zero (k a : Int) (x : L) : wrong k a x = 0 ↔ k < 200 ∧ 730 ≤ x.day ∧ x.day < 2932896 ∧ Cal.isEnd x.day = true ∧ (x.step = 1 ∨ x.step = -1) ∧ a < x.day := by
  unfold wrong
  by_cases h1 : k ≥ 200
  · simp [h1]; omega
  · by_cases h2 : x.day < 730 ∨ x.day ≥ 2932896
    · simp [h1, h2]; omega
    · by_cases h3 : Cal.isEnd x.day = false
      · simp [h1, h2, h3]
      · have h3' : Cal.isEnd x.day = true := by simpa using h3
        by_cases h4 : x.step ≠ 1 ∧ x.step ≠ -1
        · simp [h1, h2, h3', h4]
        · by_cases h5 : x.day ≤ a
          · rw [if_neg h1, if_neg h2, if_neg h3, if_neg h4, if_pos h5]; simp; omega
          · rw [if_neg h1, if_neg h2, if_neg h3, if_neg h4, if_neg h5]
            simp [h3']; omega
theorem chk_good : ∀ (l : List L) (i a : Int), i ≤ 200 → ((chk l i a).2.1 = 0 ↔ Good a l ∧ i + l.length ≤ 200) := by
  intro l
  induction l with
  | nil => intro i a h; simp [chk, Good]; omega
  | cons x l ih =>
    intro i a h
    unfold chk Good
    by_cases hw : wrong i a x = 0
    · rw [if_pos hw]
      obtain ⟨k1, k2, k3, k4, k5, k6⟩ := (wrong_zero i a x).1 hw
      rw [ih (i + 1) x.day (by omega)]
      simp only [List.length_cons]
      constructor
      · rintro ⟨g, e⟩; exact ⟨⟨k2, k3, k4, k5, k6, g⟩, by omega⟩
      · rintro ⟨⟨_, _, _, _, _, g⟩, e⟩; exact ⟨g, by omega⟩
    · rw [if_neg hw]
      constructor
      · intro e; exact absurd e hw
      · rintro ⟨⟨a1, a2, a3, a4, a5, _⟩, e⟩
        simp only [List.length_cons] at e
        exact absurd ((wrong_zero i a x).2 ⟨by omega, a1, a2, a3, a4, a5⟩) hw
/-- the last day -/
def lastDay : Int → List L → Int
  | a, [] => a
  | _, x :: l => lastDay x.day l
theorem chk_last : ∀ (l : List L) (i a : Int), (chk l i a).2.1 = 0 → chk l i a = (i + l.length, 0, lastDay a l) := by
  intro l
  induction l with
  | nil => intro i a _; simp [chk, lastDay]
  | cons x l ih =>
    intro i a h
    unfold chk at h ⊢
    by_cases hw : wrong i a x = 0
    · rw [if_pos hw] at h ⊢
      rw [ih _ _ h]
      simp only [List.length_cons, lastDay]
      congr 1; omega
    · rw [if_neg hw] at h; exact absurd h hw
def badEnd (a : Int) (has : Bool) (exp : Int) : Prop := if has = true then exp < max ((a + 1) * 86400) 63072000 ∨ exp > 253402300799 else exp ≠ 0
instance (a : Int) (has : Bool) (exp : Int) : Decidable (badEnd a has exp) := by unfold badEnd; exact inferInstance
def check (l : List L) (has : Bool) (exp : Int) : Int × Int :=
  let c := chk l 0 729
  if c.2.1 = 0 then (if badEnd c.2.2 has exp then (l.length, 9) else (l.length, 0)) else (c.1, c.2.1)
def Right (l : List L) (has : Bool) (exp : Int) : Prop := Good 729 l ∧ l.length ≤ 200 ∧ ¬ badEnd (lastDay 729 l) has exp
theorem check_right (l : List L) (has : Bool) (exp : Int) : (check l has exp).2 = 0 ↔ Right l has exp := by
  unfold check Right
  have g := chk_good l 0 729 (by omega)
  by_cases h : (chk l 0 729).2.1 = 0
  · have e := chk_last l 0 729 h
    have g1 := g.1 h
    simp only [h, if_true]
    rw [e]
    by_cases b : badEnd (lastDay 729 l) has exp
    · simp [b]
    · simp [b, g1.1]; omega
  · simp only [h, if_false]
    constructor
    · intro e; exact e.elim
    · rintro ⟨a, b, _⟩; exact (h (g.2 ⟨a, by omega⟩)).elim
theorem check_len (l : List L) (has : Bool) (exp : Int) (h : Right l has exp) : check l has exp = ((l.length : Int), 0) := by
  have e := (check_right l has exp).2 h
  unfold check at e ⊢
  simp only at e ⊢
  split at e
  · split at e
    · simp at e
    · rename_i h1 h2; simp [h1, h2]
  · rename_i h1; exact absurd e h1
/-- how many days are ahead -/
def cnt : List L → Int → Nat
  | [], _ => 0
  | x :: l, d => (if x.day < d then 1 else 0) + cnt l d
/-- the sum of the steps ahead of a day -/
def tot : List L → Int → Int
  | [], _ => 0
  | x :: l, d => (if x.day < d then x.step else 0) + tot l d
def stp : List L → Int → Int
  | [], _ => 0
  | x :: l, d => if x.day = d then x.step else stp l d
theorem good_above : ∀ (l : List L) (a d : Int), Good a l → d ≤ a + 1 → cnt l d = 0 ∧ tot l d = 0 := by
  intro l
  induction l with
  | nil => intro a d _ _; exact ⟨rfl, rfl⟩
  | cons x l ih =>
    intro a d h hd
    obtain ⟨_, _, _, _, h5, h6⟩ := h
    obtain ⟨i1, i2⟩ := ih x.day d h6 (by omega)
    simp only [cnt, tot]
    rw [if_neg (by omega), if_neg (by omega), i1, i2]; simp
theorem good_stp : ∀ (l : List L) (a d : Int), Good a l → d ≤ a → stp l d = 0 := by
  intro l
  induction l with
  | nil => intro a d _ _; rfl
  | cons x l ih =>
    intro a d h hd
    obtain ⟨_, _, _, _, h5, h6⟩ := h
    simp only [stp]
    rw [if_neg (by omega)]; exact ih x.day d h6 (by omega)
theorem tot_next : ∀ (l : List L) (a d : Int), Good a l → tot l (d + 1) = tot l d + stp l d := by
  intro l
  induction l with
  | nil => intro a d _; rfl
  | cons x l ih =>
    intro a d h
    obtain ⟨_, _, _, _, h5, h6⟩ := h
    simp only [tot, stp]
    by_cases h1 : x.day < d
    · rw [if_pos h1, if_pos (by omega), if_neg (by omega), ih x.day d h6]; omega
    · by_cases h2 : x.day = d
      · rw [if_neg h1, if_pos (by omega), if_pos h2, (good_above l x.day (d + 1) h6 (by omega)).2, (good_above l x.day d h6 (by omega)).2]; omega
      · rw [if_neg h1, if_neg (by omega), if_neg h2, ih x.day d h6]; omega
theorem cnt_le (l : List L) (d : Int) : cnt l d ≤ l.length := by
  induction l with
  | nil => simp [cnt]
  | cons x l ih => simp only [cnt, List.length_cons]; split <;> omega
theorem cnt_mono (l : List L) (d e : Int) (h : d ≤ e) : cnt l d ≤ cnt l e := by
  induction l with
  | nil => simp [cnt]
  | cons x l ih => simp only [cnt]; split <;> split <;> omega
/-- element i is ahead of a day just if i is below the count -/
theorem cnt_at : ∀ (l : List L) (a d : Int), Good a l → ∀ (i : Nat) (x : L), l[i]? = some x → (x.day < d ↔ i < cnt l d) := by
  intro l
  induction l with
  | nil => intro a d _ i x h; simp at h
  | cons y l ih =>
    intro a d h i x hx
    obtain ⟨_, _, _, _, h5, h6⟩ := h
    simp only [cnt]
    cases i with
    | zero =>
      simp at hx; subst hx
      by_cases h1 : y.day < d
      · rw [if_pos h1]; simp [h1]; omega
      · rw [if_neg h1, (good_above l y.day d h6 (by omega)).1]; simp [h1]
    | succ i =>
      simp at hx
      have := ih y.day d h6 i x hx
      by_cases h1 : y.day < d
      · rw [if_pos h1, this]; omega
      · have c0 := (good_above l y.day d h6 (by omega)).1
        rw [if_neg h1, this]; omega
theorem stp_at : ∀ (l : List L) (a d : Int), Good a l → stp l d = match l[cnt l d]? with | some x => if x.day = d then x.step else 0 | none => 0 := by
  intro l
  induction l with
  | nil => intro a d _; rfl
  | cons y l ih =>
    intro a d h
    obtain ⟨_, _, _, _, h5, h6⟩ := h
    simp only [cnt, stp]
    by_cases h1 : y.day < d
    · rw [if_pos h1, if_neg (by omega), ih y.day d h6, Nat.add_comm]; rfl
    · have c0 := (good_above l y.day d h6 (by omega)).1
      rw [if_neg h1, c0]
      by_cases h2 : y.day = d
      · simp [h2]
      · rw [if_neg h2, good_stp l y.day d h6 (by omega)]
        simp [h2]
theorem good_mem : ∀ (l : List L) (a : Int), Good a l → ∀ x ∈ l, 730 ≤ x.day ∧ x.day < 2932896 ∧ Cal.isEnd x.day = true ∧ (x.step = 1 ∨ x.step = -1) ∧ a < x.day := by
  intro l
  induction l with
  | nil => intro a _ x h; simp at h
  | cons y l ih =>
    intro a h x hx
    obtain ⟨h1, h2, h3, h4, h5, h6⟩ := h
    rcases List.mem_cons.1 hx with rfl | hx
    · exact ⟨h1, h2, h3, h4, h5⟩
    · have := ih y.day h6 x hx; exact ⟨this.1, this.2.1, this.2.2.1, this.2.2.2.1, by omega⟩
theorem stp_mem (l : List L) (d : Int) (a : Int) (h : Good a l) : stp l d = 0 ∨ stp l d = 1 ∨ stp l d = -1 := by
  induction l generalizing a with
  | nil => left; rfl
  | cons y l ih =>
    simp only [stp]
    split
    · have := h.2.2.2.1; omega
    · exact ih _ h.2.2.2.2.2
theorem tot_bd : ∀ (l : List L) (a d : Int), Good a l → -(cnt l d : Int) ≤ tot l d ∧ tot l d ≤ cnt l d := by
  intro l
  induction l with
  | nil => intro a d _; simp [cnt, tot]
  | cons y l ih =>
    intro a d h
    have h4 := h.2.2.2.1
    have := ih y.day d h.2.2.2.2.2
    simp only [cnt, tot]
    split <;> simp <;> omega
theorem good_asc : ∀ (l : List L) (a : Int), Good a l → l.Pairwise (fun x y => x.day < y.day) := by
  intro l
  induction l with
  | nil => intro a _; exact List.Pairwise.nil
  | cons y l ih =>
    intro a h
    refine List.Pairwise.cons (fun x hx => (good_mem l y.day h.2.2.2.2.2 x hx).2.2.2.2) (ih y.day h.2.2.2.2.2)
/-- beginnings of right leaps are right -/
theorem good_take : ∀ (l : List L) (a : Int) (k : Nat), Good a l → Good a (l.take k) := by
  intro l
  induction l with
  | nil => intro a k _; simp [Good]
  | cons y l ih =>
    intro a k h
    cases k with
    | zero => simp [Good]
    | succ k => obtain ⟨h1, h2, h3, h4, h5, h6⟩ := h; exact ⟨h1, h2, h3, h4, h5, ih y.day k h6⟩
/-- two ends of months lie 28 days apart at least -/
theorem ends_apart (m n : Int) (hm : Cal.isEnd m = true) (hn : Cal.isEnd n = true) (h : m < n) : 28 ≤ n - m := by
  unfold Cal.isEnd at hm hn
  simp only [Bool.and_eq_true, decide_eq_true_eq, beq_iff_eq] at hm hn
  obtain ⟨⟨m0, m1⟩, me⟩ := hm
  obtain ⟨⟨n0, n1⟩, ne⟩ := hn
  have first : Cal.dD (m + 1) = 1 := by
    rcases Cal.next_law m m0 (by omega) with ⟨a, _⟩ | ⟨_, _, _, _, d⟩ | ⟨_, _, _, _, d⟩
    · omega
    · exact d
    · exact d
  obtain ⟨v, e⟩ := Cal.date_law (m + 1) (by omega) (by omega)
  rw [first] at v e
  by_cases hc : n - m < 28
  · obtain ⟨v1, v2, v3, v4, v5, v6⟩ := v
    have b := Cal.mdays_bd (Cal.dY (m + 1)) (Cal.dM (m + 1))
    have q : Cal.num (Cal.dY (m + 1)) (Cal.dM (m + 1)) (n - m) = n := by
      have : ∀ y k d : Int, Cal.num y k d = Cal.num y k 1 + d - 1 := by intro y k d; unfold Cal.num; split <;> omega
      rw [this, e]; omega
    obtain ⟨q1, q2, q3⟩ := Cal.date_of _ _ _ n ⟨v1, v2, v3, v4, by omega, by omega⟩ q
    have b2 := Cal.mdays_bd (Cal.dY n) (Cal.dM n)
    omega
  · omega
end Go.Proofs.Ythoigncoojcanaa.LeapP
namespace Go.Proofs.Ythoigncoojcanaa.RecP
open Go.Proofs.Ythoigncoojcanaa Go.RowKit
/-- a record: when it is, and the sum from then on -/
structure R where
  at_ : Int
  corr : Int
/-- what stands ahead of all records -/
def start : R := ⟨-2419199, 0⟩
/-- what is wrong of record k, behind a -/
def wr (k : Int) (a c : R) (last : Bool) : Int :=
  if k > 200 then 8 else if c.at_ < 0 then 9 else if ¬ (last = true ∧ c.corr = a.corr) ∧ c.corr - a.corr ≠ 1 ∧ c.corr - a.corr ≠ -1 then 6
  else if k > 0 ∧ c.at_ - a.at_ < (if last = true ∧ c.corr = a.corr then 0 else 2419199) then 7 else 0
def chk : List R → Int → R → Int × Int
  | [], k, _ => (k, 0)
  | c :: l, k, a => if wr k a c l.isEmpty = 0 then chk l (k + 1) c else (k, wr k a c l.isEmpty)
def check (l : List R) : Int × Int := chk l 0 start
/-- leaps that are right, behind a record -/
def G : R → List R → Prop
  | _, [] => True
  | a, c :: l => 0 ≤ c.at_ ∧ (c.corr - a.corr = 1 ∨ c.corr - a.corr = -1) ∧ a.at_ + 2419199 ≤ c.at_ ∧ G c l
/-- the records but the expiry; the expiry -/
def lp : Int → List R → List R
  | _, [] => []
  | a, c :: l => if l = [] ∧ c.corr = a then [] else c :: lp c.corr l
def ex : Int → List R → Option Int
  | _, [] => none
  | a, c :: l => if l = [] ∧ c.corr = a then some c.at_ else ex c.corr l
def lastR : R → List R → R
  | a, [] => a
  | _, c :: l => lastR c l
instance (l : List R) (p : Prop) [Decidable p] : Decidable (l = [] ∧ p) := by
  cases l with
  | nil => exact decidable_of_iff p (by simp)
  | cons x l => exact isFalse (by simp)
theorem wr_zero (k : Int) (a c : R) (last : Bool) : wr k a c last = 0 ↔ k ≤ 200 ∧ 0 ≤ c.at_ ∧ ((last = true ∧ c.corr = a.corr) ∨ c.corr - a.corr = 1 ∨ c.corr - a.corr = -1) ∧
    (k > 0 → (last = true ∧ c.corr = a.corr → a.at_ ≤ c.at_) ∧ (¬ (last = true ∧ c.corr = a.corr) → a.at_ + 2419199 ≤ c.at_)) := by
  unfold wr
  by_cases h1 : k > 200
  · simp [h1]; omega
  · rw [if_neg h1]
    by_cases h2 : c.at_ < 0
    · simp [h2]; omega
    · rw [if_neg h2]
      by_cases h3 : last = true ∧ c.corr = a.corr
      · rw [if_neg (fun h => h.1 h3)]
        simp only [if_pos h3]
        by_cases h4 : k > 0 ∧ c.at_ - a.at_ < 0
        · rw [if_pos h4]
          constructor
          · intro h; exact absurd h (by omega)
          · rintro ⟨_, _, _, q⟩; have := (q h4.1).1 h3; omega
        · rw [if_neg h4]
          simp only [true_iff]
          exact ⟨by omega, by omega, .inl h3, fun hk => ⟨fun _ => by omega, fun h => absurd h3 h⟩⟩
      · simp only [if_neg h3]
        by_cases h5 : c.corr - a.corr ≠ 1 ∧ c.corr - a.corr ≠ -1
        · rw [if_pos ⟨h3, h5⟩]
          constructor
          · intro h; exact absurd h (by omega)
          · rintro ⟨_, _, q, _⟩; rcases q with q | q | q
            · exact absurd q h3
            · exact absurd q h5.1
            · exact absurd q h5.2
        · rw [if_neg (fun h => h5 h.2)]
          by_cases h4 : k > 0 ∧ c.at_ - a.at_ < 2419199
          · rw [if_pos h4]
            constructor
            · intro h; exact absurd h (by omega)
            · rintro ⟨_, _, _, q⟩; have := (q h4.1).2 h3; omega
          · rw [if_neg h4]
            simp only [true_iff]
            exact ⟨by omega, by omega, .inr (by omega), fun hk => ⟨fun h => absurd h h3, fun _ => by omega⟩⟩
/-- right records: leaps that are right, and an expiry that is not ahead of them -/
theorem chk_good : ∀ (l : List R) (k : Int) (a : R), 0 ≤ k → k ≤ 201 → (k > 0 ∨ a.at_ = -2419199) →
    ((chk l k a).2 = 0 ↔ G a (lp a.corr l) ∧ (∀ e, ex a.corr l = some e → 0 ≤ e ∧ (lastR a (lp a.corr l)).at_ ≤ e) ∧ k + l.length ≤ 201) := by
  intro l
  induction l with
  | nil => intro k a h0 h1 _; simp [chk, G, lp, ex]; omega
  | cons c l ih =>
    intro k a h0 h1 h2
    unfold chk lp ex
    simp only [List.length_cons]
    by_cases he : l = [] ∧ c.corr = a.corr
    · simp only [if_pos he]
      obtain ⟨rfl, hc⟩ := he
      have hw := wr_zero k a c true
      rw [show ([] : List R).isEmpty = true from rfl]
      by_cases w : wr k a c true = 0
      · rw [if_pos w]
        obtain ⟨q1, q2, q3, q4⟩ := hw.1 w
        simp only [chk, G, lastR, true_iff]
        refine ⟨trivial, fun e h => ?_, by simp; omega⟩
        obtain rfl := Option.some.inj h
        refine ⟨q2, ?_⟩
        rcases h2 with h2 | h2
        · exact (q4 h2).1 ⟨rfl, hc⟩
        · omega
      · rw [if_neg w]
        constructor
        · intro h; exact absurd h w
        · rintro ⟨_, q, b⟩
          obtain ⟨e1, e2⟩ := q _ rfl
          simp only [lastR] at e2
          refine absurd (hw.2 ⟨by simp at b; omega, e1, .inl ⟨rfl, hc⟩, fun _ => ⟨fun _ => e2, fun h => absurd ⟨rfl, hc⟩ h⟩⟩) w
    · simp only [if_neg he]
      have hn : ¬ (l.isEmpty = true ∧ c.corr = a.corr) := by rw [List.isEmpty_iff]; exact he
      have hw := wr_zero k a c l.isEmpty
      by_cases w : wr k a c l.isEmpty = 0
      · rw [if_pos w]
        obtain ⟨q1, q2, q3, q4⟩ := hw.1 w
        have q3 : c.corr - a.corr = 1 ∨ c.corr - a.corr = -1 := by rcases q3 with q | q; exact absurd q hn; exact q
        have q5 : a.at_ + 2419199 ≤ c.at_ := by
          rcases h2 with h2 | h2
          · exact (q4 h2).2 hn
          · omega
        rw [ih (k + 1) c (by omega) (by omega) (.inl (by omega))]
        simp only [G, lastR]
        constructor
        · rintro ⟨g, e, b⟩; exact ⟨⟨q2, q3, q5, g⟩, e, by omega⟩
        · rintro ⟨⟨_, _, _, g⟩, e, b⟩; exact ⟨g, e, by omega⟩
      · rw [if_neg w]
        constructor
        · intro h; exact absurd h w
        · rintro ⟨⟨g1, g2, g3, _⟩, _, b⟩
          exact absurd (hw.2 ⟨by omega, g1, .inr g2, fun _ => ⟨fun h => absurd h hn, fun _ => g3⟩⟩) w
theorem chk_len : ∀ (l : List R) (k : Int) (a : R), (chk l k a).2 = 0 → chk l k a = (k + l.length, 0) := by
  intro l
  induction l with
  | nil => intro k a _; simp [chk]
  | cons c l ih =>
    intro k a h
    unfold chk at h ⊢
    by_cases w : wr k a c l.isEmpty = 0
    · rw [if_pos w] at h ⊢
      rw [ih _ _ h]; simp only [List.length_cons]; congr 1; omega
    · rw [if_neg w] at h; exact absurd h w
/-- right records -/
def Right (l : List R) : Prop := G start (lp 0 l) ∧ (∀ e, ex 0 l = some e → 0 ≤ e ∧ (lastR start (lp 0 l)).at_ ≤ e) ∧ l.length ≤ 201
theorem check_right (l : List R) : (check l).2 = 0 ↔ Right l := by
  unfold check Right
  rw [chk_good l 0 start (by omega) (by omega) (.inr rfl)]
  have : start.corr = 0 := rfl
  rw [this]
  constructor
  · rintro ⟨a, b, c⟩; exact ⟨a, b, by omega⟩
  · rintro ⟨a, b, c⟩; exact ⟨a, b, by omega⟩
theorem lp_split : ∀ (l : List R) (a : R), l = lp a.corr l ++ (match ex a.corr l with | some e => [⟨e, (lastR a (lp a.corr l)).corr⟩] | none => []) := by
  intro l
  induction l with
  | nil => intro a; rfl
  | cons c l ih =>
    intro a
    unfold lp ex
    by_cases he : l = [] ∧ c.corr = a.corr
    · simp only [if_pos he, lastR, List.nil_append]
      rw [he.1, ← he.2]
    · simp only [if_neg he, lastR, List.cons_append]
      congr 1
      exact ih c
theorem lp_len (l : List R) (a : R) : l.length = (lp a.corr l).length + (if (ex a.corr l).isSome then 1 else 0) := by
  have := congrArg List.length (lp_split l a)
  rw [List.length_append] at this
  cases h : ex a.corr l <;> simp [h] at this ⊢ <;> exact this
/-- the sum up to a second; by how much it changes there -/
def sm : Int → List R → Int → Int
  | a, [], _ => a
  | a, c :: l, t => if c.at_ ≤ t then sm c.corr l t else a
def sp : Int → List R → Int → Int
  | _, [], _ => 0
  | a, c :: l, t => if c.at_ ≤ t then (if c.at_ = t then c.corr - a else sp c.corr l t) else 0
theorem G_above : ∀ (l : List R) (a : R), G a l → ∀ c ∈ l, a.at_ + 2419199 ≤ c.at_ := by
  intro l
  induction l with
  | nil => intro a _ c h; simp at h
  | cons x l ih =>
    intro a h c hc
    obtain ⟨_, _, h3, h4⟩ := h
    rcases List.mem_cons.1 hc with rfl | hc
    · exact h3
    · have := ih x h4 c hc; omega
theorem G_asc : ∀ (l : List R) (a : R), G a l → l.Pairwise (fun x y => x.at_ < y.at_) := by
  intro l
  induction l with
  | nil => intro a _; exact List.Pairwise.nil
  | cons x l ih => intro a h; exact List.Pairwise.cons (fun y hy => by have := G_above l x h.2.2.2 y hy; omega) (ih x h.2.2.2)
theorem G_mem : ∀ (l : List R) (a : R), G a l → ∀ c ∈ l, 0 ≤ c.at_ := by
  intro l
  induction l with
  | nil => intro a _ c h; simp at h
  | cons x l ih =>
    intro a h c hc
    rcases List.mem_cons.1 hc with rfl | hc
    · exact h.1
    · exact ih x h.2.2.2 c hc
/-- sums stay small -/
theorem G_corr : ∀ (l : List R) (a : R), G a l → ∀ c ∈ l, a.corr - l.length ≤ c.corr ∧ c.corr ≤ a.corr + l.length := by
  intro l
  induction l with
  | nil => intro a _ c h; simp at h
  | cons x l ih =>
    intro a h c hc
    obtain ⟨_, h2, _, h4⟩ := h
    simp only [List.length_cons]
    rcases List.mem_cons.1 hc with rfl | hc
    · omega
    · have := ih x h4 c hc; omega
theorem lastR_mem : ∀ (l : List R) (a : R), lastR a l = a ∨ lastR a l ∈ l := by
  intro l
  induction l with
  | nil => intro a; exact .inl rfl
  | cons x l ih => intro a; rcases ih x with h | h <;> simp [lastR, h]
theorem sm_bd : ∀ (l : List R) (a : R) (t : Int), G a l → a.corr - l.length ≤ sm a.corr l t ∧ sm a.corr l t ≤ a.corr + l.length := by
  intro l
  induction l with
  | nil => intro a t _; simp [sm]
  | cons x l ih =>
    intro a t h
    obtain ⟨_, h2, _, h4⟩ := h
    simp only [sm, List.length_cons]
    have := ih x t h4
    split <;> omega
theorem sp_bd : ∀ (l : List R) (a : R) (t : Int), G a l → sp a.corr l t = 0 ∨ sp a.corr l t = 1 ∨ sp a.corr l t = -1 := by
  intro l
  induction l with
  | nil => intro a t _; simp [sp]
  | cons x l ih =>
    intro a t h
    obtain ⟨_, h2, _, h4⟩ := h
    simp only [sp]
    have := ih x t h4
    split
    · split <;> omega
    · omega
/-- ahead of all nothing is summed -/
theorem sm_ahead (l : List R) (a : R) (t : Int) (h : G a l) (ht : t < a.at_ + 2419199) : sm a.corr l t = a.corr ∧ sp a.corr l t = 0 := by
  cases l with
  | nil => simp [sm, sp]
  | cons x l => simp only [sm, sp]; rw [if_neg (by have := h.2.2.1; omega), if_neg (by have := h.2.2.1; omega)]; simp
/-- how many records are not behind a second, and what the last of these says -/
theorem sm_count : ∀ (l : List R) (a : R) (t : Int), G a l →
    (if l.countP (fun y => decide (y.at_ ≤ t)) = 0 then a.corr else (l.getD (l.countP (fun y => decide (y.at_ ≤ t)) - 1) a).corr) = sm a.corr l t := by
  intro l
  induction l with
  | nil => intro a t _; simp [sm]
  | cons x l ih =>
    intro a t h
    have h4 := h.2.2.2
    simp only [sm, List.countP_cons]
    by_cases hx : x.at_ ≤ t
    · rw [if_pos hx, ← ih x t h4]
      simp only [hx, decide_true, if_true]
      rw [if_neg (by omega)]
      by_cases hz : l.countP (fun y => decide (y.at_ ≤ t)) = 0
      · rw [if_pos hz, hz]; simp
      · rw [if_neg hz]
        obtain ⟨m, hm⟩ : ∃ m, l.countP (fun y => decide (y.at_ ≤ t)) = m + 1 := ⟨_, (Nat.succ_pred_eq_of_pos (Nat.pos_of_ne_zero hz)).symm⟩
        have hle := List.countP_le_length (p := fun y : R => decide (y.at_ ≤ t)) (l := l)
        have hlt : m < l.length := by omega
        rw [hm]
        simp [hlt]
    · have hz : l.countP (fun y => decide (y.at_ ≤ t)) = 0 := by
        rw [List.countP_eq_zero]; intro y hy; have := G_above l x h4 y hy; simp; omega
      rw [if_neg hx, hz]
      simp [hx]
theorem sp_count : ∀ (l : List R) (a : R) (t : Int), G a l →
    (if l.countP (fun y => decide (y.at_ < t)) < l.length then (if (l.getD (l.countP (fun y => decide (y.at_ < t))) a).at_ = t then (if l.countP (fun y => decide (y.at_ < t)) = 0 then (l.getD 0 a).corr - a.corr else (l.getD (l.countP (fun y => decide (y.at_ < t))) a).corr - (l.getD (l.countP (fun y => decide (y.at_ < t)) - 1) a).corr) else 0) else 0) = sp a.corr l t := by
  intro l
  induction l with
  | nil => intro a t _; simp [sp]
  | cons x l ih =>
    intro a t h
    have h4 := h.2.2.2
    simp only [sp, List.length_cons]
    by_cases hx : x.at_ < t
    · have e : (x :: l).countP (fun y => decide (y.at_ < t)) = l.countP (fun y => decide (y.at_ < t)) + 1 := by simp [hx]
      rw [e, if_pos (show x.at_ ≤ t by omega), if_neg (show ¬ x.at_ = t by omega), ← ih x t h4]
      have gd : ∀ n, n < l.length → (x :: l).getD (n + 1) a = l.getD n x := by intro n hn; simp [hn]
      by_cases hl : l.countP (fun y => decide (y.at_ < t)) < l.length
      · rw [if_pos (by omega), if_pos hl, gd _ hl]
        by_cases ht : (l.getD (l.countP (fun y => decide (y.at_ < t))) x).at_ = t
        · rw [if_pos ht, if_pos ht, if_neg (by omega)]
          by_cases hz : l.countP (fun y => decide (y.at_ < t)) = 0
          · rw [if_pos hz, hz]; simp
          · rw [if_neg hz]
            obtain ⟨m, hm⟩ : ∃ m, l.countP (fun y => decide (y.at_ < t)) = m + 1 := ⟨_, (Nat.succ_pred_eq_of_pos (Nat.pos_of_ne_zero hz)).symm⟩
            rw [hm, Nat.add_sub_cancel, Nat.add_sub_cancel, gd m (by omega)]
        · rw [if_neg ht, if_neg ht]
      · rw [if_neg (by omega), if_neg hl]
    · have hz : l.countP (fun y => decide (y.at_ < t)) = 0 := by
        rw [List.countP_eq_zero]; intro y hy; have := G_above l x h4 y hy; simp; omega
      have e : (x :: l).countP (fun y => decide (y.at_ < t)) = 0 := by simp [hx, hz]
      rw [e, if_pos (by omega)]
      by_cases ht : x.at_ = t
      · rw [if_pos (show x.at_ ≤ t by omega)]; simp [ht]
      · rw [if_neg (show ¬ x.at_ ≤ t by omega)]; simp [ht]
/-- the sum changes by the step -/
theorem sm_step : ∀ (l : List R) (a : R) (t : Int), G a l → sm a.corr l t = sm a.corr l (t - 1) + sp a.corr l t := by
  intro l
  induction l with
  | nil => intro a t _; simp [sm, sp]
  | cons x l ih =>
    intro a t h
    have h4 := h.2.2.2
    simp only [sm, sp]
    by_cases h1 : x.at_ ≤ t
    · rw [if_pos h1, if_pos h1]
      by_cases h2 : x.at_ = t
      · rw [if_neg (by omega), if_pos h2, (sm_ahead l x t h4 (by omega)).1]; omega
      · rw [if_pos (by omega), if_neg h2, ih x t h4]
    · rw [if_neg h1, if_neg (by omega), if_neg h1]; omega
-- ---- tables
/-- the records of leaps, behind a sum; the sum at their end -/
def recs : Int → List LeapP.L → List R
  | _, [] => []
  | n, x :: l => ⟨(x.day + 1) * 86400 + n + min x.step 0, n + x.step⟩ :: recs (n + x.step) l
def tots : Int → List LeapP.L → Int
  | n, [] => n
  | n, x :: l => tots (n + x.step) l
def full (l : List LeapP.L) (has : Bool) (exp : Int) : List R := recs 0 l ++ (if has = true then [⟨exp + tots 0 l, tots 0 l⟩] else [])
theorem recs_len : ∀ (l : List LeapP.L) (n : Int), (recs n l).length = l.length := by
  intro l
  induction l with
  | nil => intro n; rfl
  | cons x l ih => intro n; simp [recs, ih]
theorem tots_bd : ∀ (l : List LeapP.L) (n : Int), (∀ x ∈ l, x.step = 1 ∨ x.step = -1) → n - l.length ≤ tots n l ∧ tots n l ≤ n + l.length := by
  intro l
  induction l with
  | nil => intro n _; simp [tots]
  | cons x l ih =>
    intro n h
    have := h x (by simp)
    have := ih (n + x.step) (fun y hy => h y (by simp [hy]))
    simp only [tots, List.length_cons]; omega
theorem good_steps {l : List LeapP.L} {a : Int} (h : LeapP.Good a l) : ∀ x ∈ l, x.step = 1 ∨ x.step = -1 := fun x hx => (LeapP.good_mem l a h x hx).2.2.2.1
theorem recs_last : ∀ (l : List LeapP.L) (a : R), (lastR a (recs a.corr l)).corr = tots a.corr l := by
  intro l
  induction l with
  | nil => intro a; rfl
  | cons x l ih => intro a; simp only [recs, lastR, tots]; exact ih ⟨_, _⟩
/-- records of right leaps are right -/
theorem recs_G : ∀ (l : List LeapP.L) (a : Int) (b : R), LeapP.Good a l → 729 ≤ a → -a ≤ b.corr → b.corr ≤ a →
    (b.at_ = -2419199 ∧ b.corr = 0 ∨ Cal.isEnd a = true ∧ ∃ s, (s = 1 ∨ s = -1) ∧ b.at_ = (a + 1) * 86400 + (b.corr - s) + min s 0) → G b (recs b.corr l) := by
  intro l
  induction l with
  | nil => intro a b _ _ _ _ _; trivial
  | cons x l ih =>
    intro a b h h0 h1 h2 h3
    obtain ⟨g1, g2, g3, g4, g5, g6⟩ := h
    simp only [recs, G]
    refine ⟨by omega, by omega, ?_, ?_⟩
    · rcases h3 with ⟨e, _⟩ | ⟨e, s, hs, hb⟩
      · omega
      · have := LeapP.ends_apart a x.day e g3 g5; omega
    · refine ih x.day ⟨_, _⟩ g6 (by omega) ?_ ?_ (.inr ⟨g3, x.step, g4, ?_⟩)
      · show -x.day ≤ b.corr + x.step; omega
      · show b.corr + x.step ≤ x.day; omega
      · show (x.day + 1) * 86400 + b.corr + min x.step 0 = (x.day + 1) * 86400 + (b.corr + x.step - x.step) + min x.step 0; omega
theorem recs_G0 (l : List LeapP.L) (h : LeapP.Good 729 l) : G start (recs 0 l) := recs_G l 729 start h (by omega) (by show -729 ≤ (0 : Int); omega) (by show (0 : Int) ≤ 729; omega) (.inl ⟨rfl, rfl⟩)
theorem recs_lastat : ∀ (l : List LeapP.L) (a : Int) (b : R), (∀ x ∈ l, x.step = 1 ∨ x.step = -1) → b.at_ ≤ (a + 1) * 86400 + b.corr → (lastR b (recs b.corr l)).at_ ≤ (LeapP.lastDay a l + 1) * 86400 + tots b.corr l := by
  intro l
  induction l with
  | nil => intro a b _ h; simpa [recs, lastR, LeapP.lastDay, tots] using h
  | cons x l ih =>
    intro a b hs h
    simp only [recs, lastR, LeapP.lastDay, tots]
    have := hs x (by simp)
    refine ih x.day ⟨_, _⟩ (fun y hy => hs y (by simp [hy])) ?_
    show (x.day + 1) * 86400 + b.corr + min x.step 0 ≤ (x.day + 1) * 86400 + (b.corr + x.step); omega
theorem lp_recs : ∀ (l : List LeapP.L) (n : Int), (∀ x ∈ l, x.step = 1 ∨ x.step = -1) → lp n (recs n l) = recs n l ∧ ex n (recs n l) = none := by
  intro l
  induction l with
  | nil => intro n _; exact ⟨rfl, rfl⟩
  | cons x l ih =>
    intro n h
    have := h x (by simp)
    obtain ⟨i1, i2⟩ := ih (n + x.step) (fun y hy => h y (by simp [hy]))
    simp only [recs, lp, ex]
    rw [if_neg (by omega), if_neg (by omega), i1, i2]; exact ⟨rfl, rfl⟩
theorem lp_exp (t : Int) : ∀ (l : List LeapP.L) (n : Int), (∀ x ∈ l, x.step = 1 ∨ x.step = -1) → lp n (recs n l ++ [⟨t, tots n l⟩]) = recs n l ∧ ex n (recs n l ++ [⟨t, tots n l⟩]) = some t := by
  intro l
  induction l with
  | nil => intro n _; simp [recs, lp, ex, tots]
  | cons x l ih =>
    intro n h
    have := h x (by simp)
    obtain ⟨i1, i2⟩ := ih (n + x.step) (fun y hy => h y (by simp [hy]))
    simp only [recs, lp, ex, tots, List.cons_append]
    rw [if_neg (by rintro ⟨_, e⟩; omega), if_neg (by rintro ⟨_, e⟩; omega), i1, i2]; exact ⟨rfl, rfl⟩
theorem lp_full (l : List LeapP.L) (has : Bool) (exp : Int) (h : ∀ x ∈ l, x.step = 1 ∨ x.step = -1) : lp 0 (full l has exp) = recs 0 l ∧ ex 0 (full l has exp) = (if has = true then some (exp + tots 0 l) else none) := by
  unfold full
  cases has with
  | true => simp only [if_true]; exact lp_exp _ l 0 h
  | false => simp only [Bool.false_eq_true, if_false, List.append_nil]; exact lp_recs l 0 h
theorem full_right (l : List LeapP.L) (has : Bool) (exp : Int) (h : LeapP.Right l has exp) : Right (full l has exp) := by
  obtain ⟨h1, h2, h3⟩ := h
  obtain ⟨e1, e2⟩ := lp_full l has exp (good_steps h1)
  have tb := tots_bd l 0 (good_steps h1)
  unfold Right
  rw [e1, e2]
  refine ⟨recs_G0 l h1, fun e he => ?_, ?_⟩
  · cases has with
    | false => simp at he
    | true =>
      simp only [if_true] at he
      obtain rfl := Option.some.inj he
      unfold LeapP.badEnd at h3
      simp only [if_true] at h3
      refine ⟨by omega, ?_⟩
      cases l with
      | nil => show (-2419199 : Int) ≤ exp + 0; omega
      | cons x l =>
        have hx := good_steps h1 x (by simp)
        have := recs_lastat l x.day ⟨(x.day + 1) * 86400 + 0 + min x.step 0, 0 + x.step⟩ (fun y hy => good_steps h1 y (by simp [hy])) (by show (x.day + 1) * 86400 + 0 + min x.step 0 ≤ (x.day + 1) * 86400 + (0 + x.step); omega)
        simp only [recs, lastR, LeapP.lastDay, tots] at this h3 ⊢
        omega
  · unfold full
    rw [List.length_append, recs_len]
    cases has <;> simp <;> omega
/-- the leaps of records; where a number goes round it does so as the program's -/
def unr : Int → List R → Option (List LeapP.L)
  | _, [] => some []
  | n, c :: l => if wrap64 (c.at_ - n - min (c.corr - n) 0) % 86400 = 0 then (unr c.corr l).map (fun y => ⟨wrap64 (c.at_ - n - min (c.corr - n) 0) / 86400 - 1, c.corr - n, false⟩ :: y) else none
theorem w64_id {n : Int} (h : -9223372036854775808 ≤ n) (h' : n ≤ 9223372036854775807) : wrap64 n = n := by unfold wrap64; omega
theorem unr_recs : ∀ (l : List LeapP.L) (a n : Int), LeapP.Good a l → (∀ x ∈ l, x.roll = false) → -300 ≤ n - l.length → n + l.length ≤ 300 → unr n (recs n l) = some l := by
  intro l
  induction l with
  | nil => intro a n _ _ _ _; rfl
  | cons x l ih =>
    intro a n h hr h1 h2
    obtain ⟨g1, g2, g3, g4, g5, g6⟩ := h
    simp only [List.length_cons] at h1 h2
    simp only [recs, unr]
    have e : (x.day + 1) * 86400 + n + min x.step 0 - n - min (n + x.step - n) 0 = (x.day + 1) * 86400 := by omega
    rw [e, w64_id (by omega) (by omega), if_pos (by omega), ih x.day (n + x.step) g6 (fun y hy => hr y (by simp [hy])) (by omega) (by omega)]
    simp only [Option.map_some]
    have r := hr x (by simp)
    rw [show (x.day + 1) * 86400 / 86400 - 1 = x.day by omega, show n + x.step - n = x.step by omega, ← r]
theorem unr_back : ∀ (l : List R) (b : R) (xs : List LeapP.L) (a : Int), G b l → (∀ c ∈ l, c.at_ ≤ 9223372036854775807) → -300 ≤ b.corr - l.length → b.corr + l.length ≤ 300 → unr b.corr l = some xs → LeapP.Good a xs → recs b.corr xs = l ∧ (∀ x ∈ xs, x.roll = false) := by
  intro l
  induction l with
  | nil => intro b xs a _ _ _ _ h _; obtain rfl := Option.some.inj h; exact ⟨rfl, by simp⟩
  | cons c l ih =>
    intro b xs a g hb h1 h2 h hg
    obtain ⟨g1, g2, g3, g4⟩ := g
    simp only [List.length_cons] at h1 h2
    simp only [unr] at h
    split at h
    · rename_i hm
      obtain ⟨ys, hy, rfl⟩ := Option.map_eq_some_iff.mp h
      obtain ⟨q1, q2, _, q4, q5, q6⟩ := hg
      simp only at q1 q2
      obtain ⟨i1, i2⟩ := ih c ys _ g4 (fun y hy => hb y (by simp [hy])) (by omega) (by omega) hy q6
      have hc := hb c (by simp)
      have e : wrap64 (c.at_ - b.corr - min (c.corr - b.corr) 0) = c.at_ - b.corr - min (c.corr - b.corr) 0 := by
        unfold wrap64 at q1 q2 ⊢; omega
      rw [e] at hm ⊢
      refine ⟨?_, fun x hx => ?_⟩
      · simp only [recs]
        rw [show b.corr + (c.corr - b.corr) = c.corr by omega, i1]
        congr 1
        have : ((c.at_ - b.corr - min (c.corr - b.corr) 0) / 86400 - 1 + 1) * 86400 + b.corr + min (c.corr - b.corr) 0 = c.at_ := by omega
        rw [this]
      · rcases List.mem_cons.1 hx with rfl | hx
        · rfl
        · exact i2 x hx
    · simp at h
/-- the POSIX second of an expiry; where it goes round it does so as the program's -/
def expOf : Option Int → Int → Int
  | none, _ => 0
  | some e, c => wrap64 (e - c)
/-- the table of records -/
def table (l : List R) : Option (List LeapP.L × Bool × Int) :=
  match unr 0 (lp 0 l) with
  | none => none
  | some xs =>
    if (LeapP.check xs (ex 0 l).isSome (expOf (ex 0 l) (lastR start (lp 0 l)).corr)).2 = 0 then some (xs, (ex 0 l).isSome, expOf (ex 0 l) (lastR start (lp 0 l)).corr) else none
theorem ex_le {l : List R} (hb : ∀ c ∈ l, c.at_ ≤ 9223372036854775807) : ∀ (a : Int) (e : Int), ex a l = some e → e ≤ 9223372036854775807 := by
  induction l with
  | nil => intro a e h; simp [ex] at h
  | cons c l ih =>
    intro a e h
    simp only [ex] at h
    split at h
    · obtain rfl := Option.some.inj h; exact hb c (by simp)
    · exact ih (fun y hy => hb y (by simp [hy])) _ e h
theorem lp_mem {l : List R} : ∀ (a : Int) (c : R), c ∈ lp a l → c ∈ l := by
  induction l with
  | nil => intro a c h; simp [lp] at h
  | cons x l ih =>
    intro a c h
    simp only [lp] at h
    split at h
    · simp at h
    · rcases List.mem_cons.1 h with rfl | h
      · simp
      · exact List.mem_cons_of_mem _ (ih _ c h)
theorem lastR_bd (l : List R) (h : G start l) : -(l.length : Int) ≤ (lastR start l).corr ∧ (lastR start l).corr ≤ l.length := by
  rcases lastR_mem l start with e | e
  · rw [e]; show -(l.length : Int) ≤ 0 ∧ (0 : Int) ≤ l.length; omega
  · have := G_corr l start h _ e
    have z : start.corr = 0 := rfl
    omega
/-- THE TABLE OF RECORDS: right records have a table just if they are a table's records, and it is that one -/
theorem table_iff (l : List R) (hr : Right l) (hb : ∀ c ∈ l, c.at_ ≤ 9223372036854775807) (xs : List LeapP.L) (has : Bool) (exp : Int) :
    table l = some (xs, has, exp) ↔ LeapP.Right xs has exp ∧ (∀ x ∈ xs, x.roll = false) ∧ l = full xs has exp := by
  obtain ⟨r1, r2, r3⟩ := hr
  have ll := lp_len l start
  have sc : start.corr = 0 := rfl
  rw [sc] at ll
  constructor
  · intro h
    unfold table at h
    split at h
    · simp at h
    · rename_i ys hy
      split at h
      · rename_i hc
        obtain ⟨rfl, rfl, rfl⟩ : ys = xs ∧ (ex 0 l).isSome = has ∧ expOf (ex 0 l) (lastR start (lp 0 l)).corr = exp := by
          have := Option.some.inj h; simp only [Prod.mk.injEq] at this; exact this
        have R := (LeapP.check_right _ _ _).1 hc
        have lb : (lp 0 l).length ≤ 201 := by omega
        obtain ⟨b1, b2⟩ := unr_back (lp 0 l) start ys 729 r1 (fun c hc => hb c (lp_mem 0 c hc)) (by rw [sc]; omega) (by rw [sc]; omega) (by rw [sc]; exact hy) R.1
        refine ⟨R, b2, ?_⟩
        rw [sc] at b1
        have sp := lp_split l start
        rw [sc] at sp
        have lc := lastR_bd _ r1
        have tl : (lastR start (lp 0 l)).corr = tots 0 ys := by rw [← b1]; exact recs_last ys start
        unfold full
        rw [b1]
        have R3 := R.2.2
        have re := r2
        cases he : ex 0 l with
        | none => rw [he] at sp; simpa using sp
        | some e =>
          rw [he] at sp R3
          simp only [expOf] at R3 ⊢
          have e0 := (re e he).1
          have e1 := ex_le hb 0 e he
          have ew : wrap64 (e - (lastR start (lp 0 l)).corr) = e - (lastR start (lp 0 l)).corr := by
            unfold LeapP.badEnd at R3
            simp only [Option.isSome_some, if_true] at R3
            unfold wrap64 at R3 ⊢; omega
          simp only [Option.isSome_some, if_true]
          rw [ew, ← tl, show e - (lastR start (lp 0 l)).corr + (lastR start (lp 0 l)).corr = e by omega]
          exact sp
      · simp at h
  · rintro ⟨R, nr, rfl⟩
    have st := good_steps R.1
    obtain ⟨e1, e2⟩ := lp_full xs has exp st
    have tb := tots_bd xs 0 st
    have r2' := R.2.1
    unfold table
    rw [e1, e2, unr_recs xs 729 0 R.1 nr (by omega) (by omega)]
    have tl : (lastR start (recs 0 xs)).corr = tots 0 xs := recs_last xs start
    have R3 := R.2.2
    have hc := (LeapP.check_right xs has exp).2 R
    cases has with
    | false =>
      unfold LeapP.badEnd at R3
      simp only [Bool.false_eq_true, if_false, Option.isSome_none, expOf] at R3 ⊢
      have : exp = 0 := by omega
      subst this
      rw [if_pos hc]
    | true =>
      unfold LeapP.badEnd at R3
      simp only [if_true, Option.isSome_some, expOf] at R3 ⊢
      rw [tl, w64_id (by omega) (by omega), show exp + tots 0 xs - tots 0 xs = exp by omega, if_pos hc]
end Go.Proofs.Ythoigncoojcanaa.RecP
namespace Go.Proofs.Ythoigncoojcanaa.RecP
open Go.Proofs.Ythoigncoojcanaa Go.RowKit
theorem wr_mono (k : Int) (a c : R) (h : wr k a c false = 0) : wr k a c true = 0 := by
  obtain ⟨h1, h2, h3, h4⟩ := (wr_zero k a c false).1 h
  have h3 : c.corr - a.corr = 1 ∨ c.corr - a.corr = -1 := by rcases h3 with ⟨h, _⟩ | h; exact absurd h (by simp); exact h
  refine (wr_zero k a c true).2 ⟨h1, h2, .inr h3, fun hk => ⟨fun e => ?_, fun _ => (h4 hk).2 (by simp)⟩⟩
  omega
theorem chk_ge : ∀ (l : List R) (k : Int) (a : R), k ≤ (chk l k a).1 ∧ (chk l k a).1 ≤ k + l.length ∧ ((chk l k a).2 ≠ 0 → (chk l k a).1 < k + l.length) := by
  intro l
  induction l with
  | nil => intro k a; simp [chk]
  | cons c l ih =>
    intro k a
    simp only [chk, List.length_cons]
    split
    · have := ih (k + 1) c
      exact ⟨by omega, by omega, fun h => by have := this.2.2 h; omega⟩
    · exact ⟨by simp, by simp only; omega, fun _ => by simp only; omega⟩
theorem chk_parts : ∀ (l : List R) (n : Nat) (k : Int) (a : R), n ≤ l.length →
    ((chk l k a).2 = 0 → (chk (l.take n) k a).2 = 0) ∧ ((chk (l.take n) k a).2 ≠ 0 → (chk l k a).1 ≤ (chk (l.take n) k a).1 ∧ (chk (l.take n) k a).1 < k + n) ∧ ((chk (l.take n) k a).2 = 0 → k + n - 1 ≤ (chk l k a).1) := by
  intro l
  induction l with
  | nil => intro n k a h; simp at h; subst h; simp [chk]; omega
  | cons c l ih =>
    intro n k a h
    simp only [List.length_cons] at h
    cases n with
    | zero =>
      have := (chk_ge (c :: l) k a).1
      simp only [List.take_zero]
      have e : chk [] k a = (k, 0) := rfl
      rw [e]
      exact ⟨fun _ => rfl, fun h => absurd rfl h, fun _ => by simp; omega⟩
    | succ n =>
      simp only [List.take_succ_cons]
      have le : (l.take n).length = n := by rw [List.length_take]; omega
      have flags : wr k a c l.isEmpty = 0 → wr k a c (l.take n).isEmpty = 0 := by
        intro w
        cases n with
        | zero =>
          simp only [List.take_zero, List.isEmpty_nil]
          cases l with
          | nil => exact w
          | cons d l => exact wr_mono k a c w
        | succ n =>
          cases l with
          | nil => simp at h
          | cons d l => exact w
      have i := ih n (k + 1) c (by omega)
      have e1 : chk (c :: l) k a = if wr k a c l.isEmpty = 0 then chk l (k + 1) c else (k, wr k a c l.isEmpty) := rfl
      have e2 : chk (c :: l.take n) k a = if wr k a c (l.take n).isEmpty = 0 then chk (l.take n) (k + 1) c else (k, wr k a c (l.take n).isEmpty) := rfl
      by_cases w : wr k a c l.isEmpty = 0
      · have w2 := flags w
        rw [if_pos w] at e1
        rw [if_pos w2] at e2
        rw [e1, e2]
        obtain ⟨i1, i2, i3⟩ := i
        exact ⟨i1, fun q => by have := i2 q; omega, fun q => by have := i3 q; omega⟩
      · rw [if_neg w] at e1
        rw [e1]
        refine ⟨fun q => absurd q w, fun q => ?_, fun q => ?_⟩
        · by_cases w2 : wr k a c (l.take n).isEmpty = 0
          · rw [if_pos w2] at e2
            rw [e2] at q ⊢
            have g := chk_ge (l.take n) (k + 1) c
            rw [le] at g
            have := g.2.2 q
            exact ⟨by simp only; omega, by omega⟩
          · rw [if_neg w2] at e2
            rw [e2]
            exact ⟨by simp, by simp only; omega⟩
        · cases n with
          | zero => simp only; omega
          | succ n =>
            cases l with
            | nil => simp at h
            | cons d l =>
              have w2 : ¬ wr k a c (List.take (n + 1) (d :: l)).isEmpty = 0 := w
              rw [if_neg w2] at e2
              rw [e2] at q
              exact absurd q w2
/-- without an expiry nothing is left out -/
theorem G_lp : ∀ (l : List R) (a : R), G a l → lp a.corr l = l ∧ ex a.corr l = none := by
  intro l
  induction l with
  | nil => intro a _; exact ⟨rfl, rfl⟩
  | cons c l ih =>
    intro a h
    obtain ⟨_, h2, _, h4⟩ := h
    obtain ⟨i1, i2⟩ := ih c h4
    simp only [lp, ex]
    rw [if_neg (by rintro ⟨_, e⟩; omega), if_neg (by rintro ⟨_, e⟩; omega), i1, i2]; exact ⟨rfl, rfl⟩
theorem lp_right {l : List R} (h : Right l) : Right (lp 0 l) ∧ lp 0 (lp 0 l) = lp 0 l ∧ ex 0 (lp 0 l) = none := by
  obtain ⟨h1, h2, h3⟩ := h
  have g := G_lp _ _ h1
  have sc : start.corr = 0 := rfl
  have ll := lp_len l start
  rw [sc] at g ll
  refine ⟨⟨by rw [g.1]; exact h1, fun e he => ?_, by omega⟩, g.1, g.2⟩
  rw [g.2] at he; exact absurd he (by simp)
theorem lastR_getD : ∀ (l : List R) (a d : R), l ≠ [] → lastR a l = l.getD (l.length - 1) d := by
  intro l
  induction l with
  | nil => intro a d h; exact absurd rfl h
  | cons c l ih =>
    intro a d _
    cases l with
    | nil => simp [lastR]
    | cons e l =>
      rw [show (c :: e :: l).length - 1 = ((e :: l).length - 1) + 1 by simp, List.getD_cons_succ, ← ih c d (by simp)]
      rfl
theorem sp_last : ∀ (l : List R) (a : R), G a l → l ≠ [] → sp a.corr l (lastR a l).at_ ≠ 0 := by
  intro l
  induction l with
  | nil => intro a _ h; exact absurd rfl h
  | cons c l ih =>
    intro a h _
    obtain ⟨_, h2, _, h4⟩ := h
    rw [show lastR a (c :: l) = lastR c l from rfl]
    simp only [sp]
    cases l with
    | nil => rw [show lastR c [] = c from rfl, if_pos (Int.le_refl _), if_pos rfl]; omega
    | cons d l =>
      have m : lastR c (d :: l) ∈ d :: l := by
        rcases lastR_mem l d with e | e
        · simp [lastR, e]
        · simp [lastR, e]
      have := G_above _ _ h4 _ m
      rw [if_pos (by omega), if_neg (by omega)]
      exact ih c h4 (by simp)
theorem sp_behind : ∀ (l : List R) (a : R) (e : Int), (∀ c ∈ l, c.at_ < e) → sp a.corr l e = 0 := by
  intro l
  induction l with
  | nil => intro a e _; rfl
  | cons c l ih =>
    intro a e h
    have := h c (by simp)
    simp only [sp]
    rw [if_pos (by omega), if_neg (by omega)]
    exact ih c e (fun y hy => h y (by simp [hy]))
/-- the sum of what a function says of all seconds of records up to one -/
def ssum (f : Int → Int) (t : Int) : List R → Int
  | [] => 0
  | c :: l => (if c.at_ ≤ t then f c.at_ else 0) + ssum f t l
theorem ssum_congr (f g : Int → Int) (t : Int) : ∀ (l : List R), (∀ c ∈ l, f c.at_ = g c.at_) → ssum f t l = ssum g t l := by
  intro l
  induction l with
  | nil => intro _; rfl
  | cons c l ih => intro h; simp only [ssum]; rw [h c (by simp), ih (fun y hy => h y (by simp [hy]))]
theorem ssum_app (f : Int → Int) (t : Int) : ∀ (a b : List R), ssum f t (a ++ b) = ssum f t a + ssum f t b := by
  intro a
  induction a with
  | nil => intro b; simp [ssum]
  | cons c a ih => intro b; simp only [List.cons_append, ssum, ih]; omega
theorem ssum_sm : ∀ (l : List R) (a : R) (t : Int), G a l → ssum (fun x => sp a.corr l x) t l = sm a.corr l t - a.corr := by
  intro l
  induction l with
  | nil => intro a t _; simp [ssum, sm]
  | cons c l ih =>
    intro a t h
    obtain ⟨_, h2, h3, h4⟩ := h
    have cg : ssum (fun x => sp a.corr (c :: l) x) t l = ssum (fun x => sp c.corr l x) t l := by
      refine ssum_congr _ _ t l (fun d hd => ?_)
      have := G_above l c h4 d hd
      simp only [sp]
      rw [if_pos (by omega), if_neg (by omega)]
    simp only [ssum]
    rw [cg, ih c t h4]
    have e : sp a.corr (c :: l) c.at_ = c.corr - a.corr := by simp only [sp]; rw [if_pos (by omega), if_pos trivial]
    rw [e]
    simp only [sm]
    by_cases ht : c.at_ ≤ t
    · rw [if_pos ht, if_pos ht]; omega
    · rw [if_neg ht, if_neg ht, (sm_ahead l c t h4 (by omega)).1]; omega
/-- all steps up to a second; where the expiry stands on the last leap, that one is told twice -/
theorem ssum_all (l : List R) (h : Right l) (t : Int) : ssum (fun x => sp 0 (lp 0 l) x) t l =
    sm 0 (lp 0 l) t + (match ex 0 l with | some e => if e ≤ t then sp 0 (lp 0 l) e else 0 | none => 0) := by
  obtain ⟨h1, h2, h3⟩ := h
  have sl := lp_split l start
  have sc : start.corr = 0 := rfl
  have s := ssum_sm _ _ t h1
  rw [sc] at sl s
  have e : ssum (fun x => sp 0 (lp 0 l) x) t l = ssum (fun x => sp 0 (lp 0 l) x) t (lp 0 l ++ (match ex 0 l with | some e => [⟨e, (lastR start (lp 0 l)).corr⟩] | none => [])) := congrArg _ sl
  rw [e, ssum_app, s]
  cases ex 0 l with
  | none => simp [ssum]
  | some e => simp [ssum]
end Go.Proofs.Ythoigncoojcanaa.RecP
namespace Go.Proofs.Ythoigncoojcanaa.RecP
/-- no leap is behind the last one -/
theorem G_le_last : ∀ (l : List R) (a : R), G a l → ∀ c ∈ l, c.at_ ≤ (lastR a l).at_ := by
  intro l
  induction l with
  | nil => intro a _ c h; simp at h
  | cons x l ih =>
    intro a h c hc
    have h4 := h.2.2.2
    simp only [lastR]
    rcases List.mem_cons.1 hc with rfl | hc
    · rcases lastR_mem l c with e | e
      · rw [e]; omega
      · have := G_above l c h4 _ e; omega
    · exact ih x h4 c hc
end Go.Proofs.Ythoigncoojcanaa.RecP
namespace Go.Proofs.Ythoigncoojcanaa.ScaleP
open Go.Proofs.Ythoigncoojcanaa Go.RowKit
theorem cnt_gap : ∀ (l : List LeapP.L) (a d : Int), LeapP.Good a l → a < d → (LeapP.cnt l d : Int) ≤ d - 1 - a := by
  intro l
  induction l with
  | nil => intro a d _ h; simp [LeapP.cnt]; omega
  | cons x l ih =>
    intro a d h hd
    obtain ⟨_, _, _, _, h5, h6⟩ := h
    simp only [LeapP.cnt]
    by_cases h1 : x.day < d
    · rw [if_pos h1]
      have := ih x.day d h6 h1
      omega
    · rw [if_neg h1, (LeapP.good_above l x.day d h6 (by omega)).1]; simp; omega
theorem head_ahead (l : List LeapP.L) (a n t : Int) (h : LeapP.Good a l) (ht : t < (a + 2) * 86400 + n - 1) : RecP.sm n (RecP.recs n l) t = n ∧ RecP.sp n (RecP.recs n l) t = 0 := by
  cases l with
  | nil => exact ⟨rfl, rfl⟩
  | cons x l =>
    obtain ⟨_, _, _, h4, h5, h6⟩ := h
    simp only [RecP.recs, RecP.sm, RecP.sp]
    rw [if_neg (by omega), if_neg (by omega)]; exact ⟨rfl, rfl⟩
/-- the second that is inserted counts one more; and how the sum changes at a second -/
def late (s sec : Int) : Int := if s = 1 ∧ sec = 86400 then 1 else 0
def chg (s y sec : Int) : Int := if s = 1 ∧ sec = 86400 then 1 else if y = -1 ∧ sec = 0 then -1 else 0
theorem late_no {s sec : Int} (h : ¬ (s = 1 ∧ sec = 86400)) : late s sec = 0 := if_neg h
theorem late_yes {s sec : Int} (h : s = 1 ∧ sec = 86400) : late s sec = 1 := if_pos h
theorem chg_no {s y sec : Int} (h : ¬ (s = 1 ∧ sec = 86400)) (h' : ¬ (y = -1 ∧ sec = 0)) : chg s y sec = 0 := by unfold chg; rw [if_neg h, if_neg h']
theorem chg_yes {s y sec : Int} (h : s = 1 ∧ sec = 86400) : chg s y sec = 1 := if_pos h
theorem chg_down {s y sec : Int} (h : y = -1 ∧ sec = 0) : chg s y sec = -1 := by unfold chg; rw [if_neg (by omega), if_pos h]
/-- THE SUM AND THE STEP AT A DAY'S SECOND -/
theorem day_law : ∀ (l : List LeapP.L) (a n d sec : Int), LeapP.Good a l → 0 ≤ sec → sec < 86400 + LeapP.stp l d →
    RecP.sm n (RecP.recs n l) (d * 86400 + n + LeapP.tot l d + sec) = n + LeapP.tot l d + late (LeapP.stp l d) sec ∧
    RecP.sp n (RecP.recs n l) (d * 86400 + n + LeapP.tot l d + sec) = chg (LeapP.stp l d) (LeapP.stp l (d - 1)) sec := by
  intro l
  induction l with
  | nil => intro a n d sec _ _ _; simp [RecP.recs, RecP.sm, RecP.sp, LeapP.tot, LeapP.stp, late, chg]
  | cons x l ih =>
    intro a n d sec h h0 h1
    obtain ⟨_, _, _, h4, h5, h6⟩ := h
    by_cases q1 : d < x.day
    · have t0 := (LeapP.good_above l x.day d h6 (by omega)).2
      have s0 := LeapP.good_stp l x.day d h6 (by omega)
      have s1 := LeapP.good_stp l x.day (d - 1) h6 (by omega)
      have e0 : LeapP.tot (x :: l) d = 0 := by simp only [LeapP.tot]; rw [if_neg (by omega), t0]; rfl
      have e1 : LeapP.stp (x :: l) d = 0 := by simp only [LeapP.stp]; rw [if_neg (by omega), s0]
      have e2 : LeapP.stp (x :: l) (d - 1) = 0 := by simp only [LeapP.stp]; rw [if_neg (by omega), s1]
      rw [e1] at h1
      rw [e0, e1, e2, late_no (by omega), chg_no (by omega) (by omega)]
      simp only [RecP.recs, RecP.sm, RecP.sp]
      rw [if_neg (by omega), if_neg (by omega)]
      exact ⟨by omega, rfl⟩
    · by_cases q2 : d = x.day
      · have t0 := (LeapP.good_above l x.day d h6 (by omega)).2
        have s1 := LeapP.good_stp l x.day (d - 1) h6 (by omega)
        have e0 : LeapP.tot (x :: l) d = 0 := by simp only [LeapP.tot]; rw [if_neg (by omega), t0]; rfl
        have e1 : LeapP.stp (x :: l) d = x.step := by simp only [LeapP.stp]; rw [if_pos q2.symm]
        have e2 : LeapP.stp (x :: l) (d - 1) = 0 := by simp only [LeapP.stp]; rw [if_neg (by omega), s1]
        rw [e1] at h1
        rw [e0, e1, e2]
        simp only [RecP.recs, RecP.sm, RecP.sp]
        by_cases q3 : x.step = 1 ∧ sec = 86400
        · have := head_ahead l x.day (n + x.step) (d * 86400 + n + 0 + sec) h6 (by omega)
          rw [late_yes q3, chg_yes q3, if_pos (by omega), if_pos (by omega), if_pos (by omega), this.1]
          exact ⟨by omega, by omega⟩
        · rw [late_no q3, chg_no q3 (by omega), if_neg (by omega), if_neg (by omega)]
          exact ⟨by omega, rfl⟩
      · have c := cnt_gap l x.day d h6 (by omega)
        have tb := LeapP.tot_bd l x.day d h6
        have e0 : LeapP.tot (x :: l) d = x.step + LeapP.tot l d := by simp only [LeapP.tot]; rw [if_pos (by omega)]
        have e1 : LeapP.stp (x :: l) d = LeapP.stp l d := by simp only [LeapP.stp]; rw [if_neg (by omega)]
        rw [e1] at h1
        have i := ih x.day (n + x.step) d sec h6 h0 h1
        rw [e0, e1]
        simp only [RecP.recs, RecP.sm, RecP.sp]
        have e : d * 86400 + n + (x.step + LeapP.tot l d) + sec = d * 86400 + (n + x.step) + LeapP.tot l d + sec := by omega
        rw [e, i.1, i.2, if_pos (by omega), if_pos (by omega)]
        refine ⟨by omega, ?_⟩
        by_cases q4 : x.day = d - 1
        · have s1 := LeapP.good_stp l x.day (d - 1) h6 (by omega)
          have t0 := (LeapP.good_above l x.day d h6 (by omega)).2
          have e2 : LeapP.stp (x :: l) (d - 1) = x.step := by simp only [LeapP.stp]; rw [if_pos q4]
          rw [e2, s1, t0]
          by_cases q5 : x.step = -1 ∧ sec = 0
          · rw [if_pos (by omega), chg_down q5]; omega
          · rw [if_neg (by omega)]
            by_cases q6 : LeapP.stp l d = 1 ∧ sec = 86400
            · rw [chg_yes q6, chg_yes q6]
            · rw [chg_no q6 (by omega), chg_no q6 q5]
        · have e2 : LeapP.stp (x :: l) (d - 1) = LeapP.stp l (d - 1) := by simp only [LeapP.stp]; rw [if_neg q4]
          rw [e2, if_neg (by omega)]
/-- the first second of a day -/
def beg (l : List LeapP.L) (d : Int) : Int := d * 86400 + LeapP.tot l d
theorem beg_next (l : List LeapP.L) (a d : Int) (h : LeapP.Good a l) : beg l (d + 1) = beg l d + 86400 + LeapP.stp l d := by
  unfold beg; have := LeapP.tot_next l a d h; omega
theorem day_law0 (l : List LeapP.L) (a d sec : Int) (h : LeapP.Good a l) (h0 : 0 ≤ sec) (h1 : sec < 86400 + LeapP.stp l d) :
    RecP.sm 0 (RecP.recs 0 l) (beg l d + sec) = LeapP.tot l d + late (LeapP.stp l d) sec ∧
    RecP.sp 0 (RecP.recs 0 l) (beg l d + sec) = chg (LeapP.stp l d) (LeapP.stp l (d - 1)) sec := by
  have := day_law l a 0 d sec h h0 h1
  unfold beg
  rw [show d * 86400 + LeapP.tot l d + sec = d * 86400 + 0 + LeapP.tot l d + sec by omega]
  refine ⟨by rw [this.1]; omega, this.2⟩
/-- two days with leaps are 28 days apart at least -/
theorem stp_apart (l : List LeapP.L) (a d e : Int) (h : LeapP.Good a l) (hd : LeapP.stp l d ≠ 0) (he : LeapP.stp l e ≠ 0) (hlt : d < e) : 28 ≤ e - d := by
  have isE : ∀ (l : List LeapP.L) (a d : Int), LeapP.Good a l → LeapP.stp l d ≠ 0 → Cal.isEnd d = true := by
    intro l
    induction l with
    | nil => intro a d _ h; exact absurd rfl h
    | cons x l ih =>
      intro a d h hd
      obtain ⟨_, _, h3, _, _, h6⟩ := h
      simp only [LeapP.stp] at hd
      split at hd
      · rename_i e; rw [← e]; exact h3
      · exact ih x.day d h6 hd
  exact LeapP.ends_apart d e (isE l a d h hd) (isE l a e h he) hlt
/-- records of a place -/
theorem recs_at : ∀ (l : List LeapP.L) (a n : Int), LeapP.Good a l → ∀ (i : Nat) (x : LeapP.L), l[i]? = some x → (RecP.recs n l)[i]? = some ⟨(x.day + 1) * 86400 + n + LeapP.tot l x.day + min x.step 0, n + LeapP.tot l x.day + x.step⟩ ∧ LeapP.stp l x.day = x.step := by
  intro l
  induction l with
  | nil => intro a n _ i x h; simp at h
  | cons y l ih =>
    intro a n h i x hx
    obtain ⟨_, _, _, _, h5, h6⟩ := h
    cases i with
    | zero =>
      simp at hx; subst hx
      have t0 := (LeapP.good_above l y.day y.day h6 (by omega)).2
      simp only [RecP.recs, LeapP.tot, LeapP.stp]
      rw [if_neg (by omega), t0]
      simp
    | succ i =>
      simp only [List.getElem?_cons_succ] at hx
      have hm := (LeapP.good_mem l y.day h6 x (List.mem_of_getElem? hx)).2.2.2.2
      obtain ⟨i1, i2⟩ := ih y.day (n + y.step) h6 i x hx
      simp only [RecP.recs, List.getElem?_cons_succ, LeapP.tot, LeapP.stp]
      rw [if_pos hm, if_neg (by omega), i1, i2]
      refine ⟨?_, rfl⟩
      congr 2 <;> omega
/-- all records of a table are ahead of 2^40 -/
theorem recs_bd : ∀ (l : List LeapP.L) (a n : Int), LeapP.Good a l → n + l.length ≤ 300 → ∀ c ∈ RecP.recs n l, c.at_ ≤ 253402300800 + 300 := by
  intro l
  induction l with
  | nil => intro a n _ _ c h; simp [RecP.recs] at h
  | cons x l ih =>
    intro a n h hn c hc
    obtain ⟨_, h2, _, h4, h5, h6⟩ := h
    simp only [List.length_cons] at hn
    simp only [RecP.recs, List.mem_cons] at hc
    rcases hc with rfl | hc
    · show (x.day + 1) * 86400 + n + min x.step 0 ≤ _; omega
    · exact ih x.day (n + x.step) h6 (by omega) c hc
theorem full_bd (l : List LeapP.L) (has : Bool) (exp : Int) (h : LeapP.Right l has exp) : ∀ c ∈ RecP.full l has exp, c.at_ ≤ 253402300800 + 300 := by
  obtain ⟨h1, h2, h3⟩ := h
  have tb := RecP.tots_bd l 0 (RecP.good_steps h1)
  intro c hc
  unfold RecP.full at hc
  rcases List.mem_append.1 hc with hc | hc
  · exact recs_bd l 729 0 h1 (by omega) c hc
  · cases has with
    | false => simp at hc
    | true =>
      simp only [if_true, List.mem_singleton] at hc
      subst hc
      unfold LeapP.badEnd at h3
      simp only [if_true] at h3
      show exp + RecP.tots 0 l ≤ _
      omega
/-- the sum at the end is the total of all days -/
theorem tots_tot : ∀ (l : List LeapP.L) (a n d : Int), LeapP.Good a l → LeapP.lastDay a l < d → RecP.tots n l = n + LeapP.tot l d := by
  intro l
  induction l with
  | nil => intro a n d _ _; simp [RecP.tots, LeapP.tot]
  | cons x l ih =>
    intro a n d h hd
    obtain ⟨_, _, _, _, h5, h6⟩ := h
    have mono : ∀ (l : List LeapP.L) (a : Int), LeapP.Good a l → a ≤ LeapP.lastDay a l := by
      intro l
      induction l with
      | nil => intro a _; exact Int.le_refl _
      | cons y l ih2 => intro a h; have := ih2 y.day h.2.2.2.2.2; have := h.2.2.2.2.1; simp only [LeapP.lastDay]; omega
    have := mono l x.day h6
    simp only [LeapP.lastDay] at hd
    simp only [RecP.tots, LeapP.tot]
    rw [if_pos (by omega), ih x.day (n + x.step) d h6 hd]; omega
end Go.Proofs.Ythoigncoojcanaa.ScaleP
namespace Go.Proofs.Ythoigncoojcanaa.ScaleP
open Go.Proofs.Ythoigncoojcanaa Go.RowKit
theorem stp_bd (l : List LeapP.L) (d : Int) (h : LeapP.Good 729 l) : LeapP.stp l d = 0 ∨ LeapP.stp l d = 1 ∨ LeapP.stp l d = -1 := LeapP.stp_mem l d 729 h
theorem beg_first (l : List LeapP.L) (h : LeapP.Good 729 l) (d : Int) (hd : d ≤ 730) : beg l d = d * 86400 := by
  unfold beg; rw [(LeapP.good_above l 729 d h (by omega)).2]; omega
theorem beg_step (l : List LeapP.L) (h : LeapP.Good 729 l) (d : Int) : beg l (d + 1) = beg l d + 86400 + LeapP.stp l d := beg_next l 729 d h
theorem beg_mono (l : List LeapP.L) (h : LeapP.Good 729 l) (d : Int) : ∀ n : Nat, beg l d + 86399 * n ≤ beg l (d + n) := by
  intro n
  induction n with
  | zero => simp
  | succ n ih =>
    have := beg_step l h (d + n)
    have := stp_bd l (d + n) h
    rw [show d + ((n + 1 : Nat) : Int) = d + n + 1 by omega]
    omega
theorem beg_lt (l : List LeapP.L) (h : LeapP.Good 729 l) (d e : Int) (hd : d < e) : beg l (d + 1) ≤ beg l e := by
  have := beg_mono l h (d + 1) (e - (d + 1)).toNat
  rw [show d + 1 + (((e - (d + 1)).toNat : Nat) : Int) = e by omega] at this
  omega
theorem beg_near (l : List LeapP.L) (h : LeapP.Good 729 l) (hl : l.length ≤ 200) (d : Int) : d * 86400 - 200 ≤ beg l d ∧ beg l d ≤ d * 86400 + 200 := by
  have := LeapP.tot_bd l 729 d h
  have := LeapP.cnt_le l d
  unfold beg; omega
/-- a day's second is a second of TAI -/
structure At (l : List LeapP.L) (t d sec : Int) : Prop where
  d0 : 730 ≤ d
  s0 : 0 ≤ sec
  s1 : sec < 86400 + LeapP.stp l d
  eq : beg l d + sec = t + 63072000
theorem at_ex (l : List LeapP.L) (h : LeapP.Good 729 l) (t : Int) (ht : 0 ≤ t) : ∃ d sec, At l t d sec := by
  have b0 := beg_first l h 730 (by omega)
  have key : ∀ n : Nat, t + 63072000 < beg l (730 + n) → ∃ d sec, At l t d sec := by
    intro n
    induction n with
    | zero => intro hn; simp at hn; omega
    | succ n ih =>
      intro hn
      by_cases hlt : t + 63072000 < beg l (730 + n)
      · exact ih hlt
      · have := beg_step l h (730 + n)
        rw [show (730 : Int) + ((n + 1 : Nat) : Int) = 730 + n + 1 by omega] at hn
        exact ⟨730 + n, t + 63072000 - beg l (730 + n), by omega, by omega, by omega, by omega⟩
  refine key (t.toNat + 1) ?_
  have := beg_mono l h 730 (t.toNat + 1)
  omega
theorem at_uniq (l : List LeapP.L) (h : LeapP.Good 729 l) (t d sec e s : Int) (h1 : At l t d sec) (h2 : At l t e s) : d = e ∧ sec = s := by
  have a := beg_step l h d
  have b := beg_step l h e
  have c := h1.eq; have c' := h2.eq; have p := h1.s0; have p' := h2.s0; have q := h1.s1; have q' := h2.s1
  by_cases hlt : d < e
  · have := beg_lt l h d e hlt; omega
  · by_cases hgt : e < d
    · have := beg_lt l h e d hgt; omega
    · have : d = e := by omega
      subst this; exact ⟨rfl, by omega⟩
theorem at_next (l : List LeapP.L) (h : LeapP.Good 729 l) (t d sec : Int) (h1 : At l t d sec) : (sec + 1 < 86400 + LeapP.stp l d ∧ At l (t + 1) d (sec + 1)) ∨ (sec + 1 = 86400 + LeapP.stp l d ∧ At l (t + 1) (d + 1) 0) := by
  have a := beg_step l h d
  have z := stp_bd l (d + 1) h
  have c := h1.eq; have p := h1.s0; have q := h1.s1; have r := h1.d0
  by_cases hl : sec + 1 < 86400 + LeapP.stp l d
  · exact .inl ⟨hl, ⟨r, by omega, hl, by omega⟩⟩
  · exact .inr ⟨by omega, ⟨by omega, by omega, by omega, by omega⟩⟩
/-- how far a second is from its day -/
theorem at_bd (l : List LeapP.L) (h : LeapP.Good 729 l) (hl : l.length ≤ 200) (t d sec : Int) (h1 : At l t d sec) : 0 ≤ t ∧ (d - 730) * 86400 - 200 ≤ t ∧ t < (d - 729) * 86400 + 201 ∧ sec ≤ 86400 := by
  have := beg_near l h hl d
  have z := stp_bd l d h
  have c := h1.eq; have p := h1.s0; have q := h1.s1; have r := h1.d0
  have b0 := beg_first l h 730 (by omega)
  refine ⟨?_, by omega, by omega, by omega⟩
  by_cases e : d = 730
  · subst e; omega
  · have := beg_lt l h 730 d (by omega)
    have := beg_step l h 730
    have := stp_bd l 730 h
    omega
/-- the first second of TAI of which nothing is known -/
def fin (l : List LeapP.L) (exp : Int) : Int := exp + RecP.tots 0 l - 63072000
/-- what is told of a second of TAI on a day -/
def utcR (has : Bool) (e t d sec : Int) : Int × Int × Int := if has = true ∧ e ≤ t then (0, 0, 10) else if d > 2932896 then (0, 0, 9) else (d, sec, 0)
/-- the second of TAI of a day's second -/
def taiR (l : List LeapP.L) (has : Bool) (exp d sec : Int) : Int × Int :=
  if d < 730 ∨ d > 2932896 ∨ sec < 0 ∨ sec > 86400 then (0, 9) else if sec ≥ 86400 + LeapP.stp l d then (0, 11)
  else if has = true ∧ fin l exp ≤ beg l d + sec - 63072000 then (0, 10) else (beg l d + sec - 63072000, 0)
theorem utcR_ok {has : Bool} {e t d sec : Int} (h : (utcR has e t d sec).2.2 = 0) : ¬ (has = true ∧ e ≤ t) ∧ d ≤ 2932896 ∧ utcR has e t d sec = (d, sec, 0) := by
  unfold utcR at h ⊢
  by_cases h1 : has = true ∧ e ≤ t
  · rw [if_pos h1] at h; exact absurd h (by simp)
  · rw [if_neg h1] at h ⊢
    by_cases h2 : d > 2932896
    · rw [if_pos h2] at h; exact absurd h (by simp)
    · rw [if_neg h2]; exact ⟨h1, by omega, rfl⟩
theorem utcR_no {has : Bool} {e t d sec : Int} (h : (utcR has e t d sec).2.2 ≠ 0) : (utcR has e t d sec).1 = 0 ∧ (utcR has e t d sec).2.1 = 0 := by
  unfold utcR at h ⊢
  by_cases h1 : has = true ∧ e ≤ t
  · rw [if_pos h1]; simp
  · rw [if_neg h1] at h ⊢
    by_cases h2 : d > 2932896
    · rw [if_pos h2]; simp
    · rw [if_neg h2] at h; exact absurd rfl h
theorem taiR_ok {l : List LeapP.L} {has : Bool} {exp d sec : Int} (h : (taiR l has exp d sec).2 = 0) : 730 ≤ d ∧ d ≤ 2932896 ∧ 0 ≤ sec ∧ sec ≤ 86400 ∧ sec < 86400 + LeapP.stp l d ∧ ¬ (has = true ∧ fin l exp ≤ beg l d + sec - 63072000) ∧ taiR l has exp d sec = (beg l d + sec - 63072000, 0) := by
  unfold taiR at h ⊢
  by_cases h1 : d < 730 ∨ d > 2932896 ∨ sec < 0 ∨ sec > 86400
  · rw [if_pos h1] at h; exact absurd h (by simp)
  · rw [if_neg h1] at h ⊢
    by_cases h2 : sec ≥ 86400 + LeapP.stp l d
    · rw [if_pos h2] at h; exact absurd h (by simp)
    · rw [if_neg h2] at h ⊢
      by_cases h3 : has = true ∧ fin l exp ≤ beg l d + sec - 63072000
      · rw [if_pos h3] at h; exact absurd h (by simp)
      · rw [if_neg h3]; exact ⟨by omega, by omega, by omega, by omega, by omega, h3, rfl⟩
theorem taiR_no {l : List LeapP.L} {has : Bool} {exp d sec : Int} (h : (taiR l has exp d sec).2 ≠ 0) : (taiR l has exp d sec).1 = 0 := by
  unfold taiR at h ⊢
  by_cases h1 : d < 730 ∨ d > 2932896 ∨ sec < 0 ∨ sec > 86400
  · rw [if_pos h1]
  · rw [if_neg h1] at h ⊢
    by_cases h2 : sec ≥ 86400 + LeapP.stp l d
    · rw [if_pos h2]
    · rw [if_neg h2] at h ⊢
      by_cases h3 : has = true ∧ fin l exp ≤ beg l d + sec - 63072000
      · rw [if_pos h3]
      · rw [if_neg h3] at h; exact absurd rfl h
/-- seconds of TAI and of days are each other's -/
theorem tai_at {l : List LeapP.L} {has : Bool} {exp t d sec : Int} (h1 : At l t d sec) (hd : d ≤ 2932896) (hs : sec ≤ 86400) (he : ¬ (has = true ∧ fin l exp ≤ t)) : taiR l has exp d sec = (t, 0) := by
  have c := h1.eq; have p := h1.s0; have q := h1.s1; have r := h1.d0
  unfold taiR
  rw [if_neg (by omega), if_neg (by omega), show beg l d + sec - 63072000 = t by omega, if_neg he]
theorem at_tai {l : List LeapP.L} {has : Bool} {exp d sec : Int} (h : (taiR l has exp d sec).2 = 0) : At l (taiR l has exp d sec).1 d sec := by
  obtain ⟨a, b, c, e, f, _, g⟩ := taiR_ok h
  rw [g]
  exact ⟨a, c, f, by simp only; omega⟩
/-- days without leaps between -/
theorem tot_same : ∀ (l : List LeapP.L) (d e : Int), (∀ x ∈ l, x.day < d ↔ x.day < e) → LeapP.tot l d = LeapP.tot l e := by
  intro l
  induction l with
  | nil => intro d e _; rfl
  | cons x l ih =>
    intro d e h
    simp only [LeapP.tot]
    rw [ih d e (fun y hy => h y (by simp [hy]))]
    have := h x (by simp)
    by_cases hx : x.day < d
    · rw [if_pos hx, if_pos (this.1 hx)]
    · rw [if_neg hx, if_neg (fun h => hx (this.2 h))]
theorem stp_none : ∀ (l : List LeapP.L) (d : Int), (∀ x ∈ l, x.day ≠ d) → LeapP.stp l d = 0 := by
  intro l
  induction l with
  | nil => intro d _; rfl
  | cons x l ih =>
    intro d h
    simp only [LeapP.stp]
    rw [if_neg (h x (by simp)), ih d (fun y hy => h y (by simp [hy]))]
/-- all between two days lies even -/
theorem at_flat (l : List LeapP.L) (t d0 left e : Int) (h0 : 730 ≤ d0) (hl : 0 ≤ left) (hb : beg l d0 + left = t + 63072000) (hlt : d0 + left / 86400 < e) (hn : ∀ x ∈ l, x.day < d0 ∨ e ≤ x.day) : At l t (d0 + left / 86400) (left % 86400) := by
  have t1 : LeapP.tot l (d0 + left / 86400) = LeapP.tot l d0 := tot_same l _ _ (fun x hx => by have := hn x hx; omega)
  have s1 : LeapP.stp l (d0 + left / 86400) = 0 := stp_none l _ (fun x hx => by have := hn x hx; omega)
  refine ⟨by omega, by omega, by omega, ?_⟩
  unfold beg at hb ⊢
  rw [t1]; omega
end Go.Proofs.Ythoigncoojcanaa.ScaleP
namespace Go.Proofs.Ythoigncoojcanaa.SmearP
open Go.Proofs.Ythoigncoojcanaa Go.RowKit
abbrev W := Int × Int × Int
def wins : Int → List LeapP.L → List W
  | _, [] => []
  | n, x :: l => (x.day * 86400 + 43200 - 63072000 + n, x.day * 86400 + 43200, 86400 + x.step) :: wins (n + x.step) l
def wd (n : Int) (l : List LeapP.L) (d : Int) : W := (ScaleP.beg l d + 43200 - 63072000 + n, d * 86400 + 43200, 86400 + LeapP.stp l d)
theorem wd_cons (x : LeapP.L) (l : List LeapP.L) (n d : Int) (h : x.day < d) : wd n (x :: l) d = wd (n + x.step) l d := by
  unfold wd ScaleP.beg
  simp only [LeapP.tot, LeapP.stp]
  rw [if_pos h, if_neg (by omega)]
  congr 1; omega
theorem stp_day (l : List LeapP.L) (d : Int) (h : LeapP.stp l d ≠ 0) : ∃ x ∈ l, x.day = d ∧ x.step = LeapP.stp l d := by
  induction l with
  | nil => exact absurd rfl h
  | cons x l ih =>
    simp only [LeapP.stp] at h ⊢
    by_cases e : x.day = d
    · rw [if_pos e]; exact ⟨x, by simp, e, rfl⟩
    · rw [if_neg e] at h ⊢
      obtain ⟨y, h1, h2⟩ := ih h
      exact ⟨y, by simp [h1], h2⟩
theorem stp_range (l : List LeapP.L) (a d : Int) (g : LeapP.Good a l) (h : LeapP.stp l d ≠ 0) : 730 ≤ d ∧ d < 2932896 ∧ a < d := by
  obtain ⟨x, hx, rfl, _⟩ := stp_day l d h
  have := LeapP.good_mem l a g x hx
  exact ⟨this.1, this.2.1, this.2.2.2.2⟩
/-- the list of windows holds just those of the days that have a leap -/
theorem mem_wins : ∀ (l : List LeapP.L) (a n : Int), LeapP.Good a l → ∀ w, w ∈ wins n l ↔ ∃ d, LeapP.stp l d ≠ 0 ∧ w = wd n l d := by
  intro l
  induction l with
  | nil => intro a n _ w; simp [wins, LeapP.stp]
  | cons x l ih =>
    intro a n h w
    obtain ⟨h1, h2, h3, h4, h5, h6⟩ := h
    have t0 := (LeapP.good_above l x.day x.day h6 (by omega)).2
    have e0 : wd n (x :: l) x.day = (x.day * 86400 + 43200 - 63072000 + n, x.day * 86400 + 43200, 86400 + x.step) := by
      unfold wd ScaleP.beg
      simp only [LeapP.tot, LeapP.stp]
      rw [if_neg (by omega), t0]; simp
    simp only [wins, List.mem_cons]
    rw [ih x.day (n + x.step) h6 w]
    constructor
    · rintro (rfl | ⟨d, hd, rfl⟩)
      · exact ⟨x.day, by simp [LeapP.stp]; omega, e0.symm⟩
      · have := stp_range l x.day d h6 hd
        exact ⟨d, by simp only [LeapP.stp]; rw [if_neg (by omega)]; exact hd, (wd_cons x l n d this.2.2).symm⟩
    · rintro ⟨d, hd, rfl⟩
      by_cases e : x.day = d
      · subst e; exact .inl e0
      · simp only [LeapP.stp] at hd
        rw [if_neg e] at hd
        have := stp_range l x.day d h6 hd
        exact .inr ⟨d, hd, wd_cons x l n d this.2.2⟩
theorem find_cases (l : List LeapP.L) (h : LeapP.Good 729 l) (p : W → Bool) (C : Int → Prop) (hp : ∀ d, LeapP.stp l d ≠ 0 → (p (wd 0 l d) = true ↔ C d)) :
    (∃ d, LeapP.stp l d ≠ 0 ∧ C d ∧ (wins 0 l).find? p = some (wd 0 l d)) ∨ ((∀ d, LeapP.stp l d ≠ 0 → ¬ C d) ∧ (wins 0 l).find? p = none) := by
  cases hf : (wins 0 l).find? p with
  | some w =>
    obtain ⟨d, hd, rfl⟩ := (mem_wins l 729 0 h w).1 (List.mem_of_find?_eq_some hf)
    exact .inl ⟨d, hd, (hp d hd).1 (List.find?_some hf), rfl⟩
  | none =>
    refine .inr ⟨fun d hd c => ?_, rfl⟩
    have := List.find?_eq_none.1 hf _ ((mem_wins l 729 0 h _).2 ⟨d, hd, rfl⟩)
    exact this ((hp d hd).2 c)
/-- a second of TAI lies in a day's window -/
def InT (l : List LeapP.L) (t d : Int) : Prop := ScaleP.beg l d + 43200 ≤ t + 63072000 ∧ t + 63072000 < ScaleP.beg l (d + 1) + 43200
/-- a POSIX second lies in a day's window -/
def InP (p d : Int) : Prop := d * 86400 + 43200 ≤ p ∧ p < d * 86400 + 129600
theorem inT_uniq (l : List LeapP.L) (h : LeapP.Good 729 l) (t d e : Int) (h1 : InT l t d) (h2 : InT l t e) : d = e := by
  unfold InT at *
  by_cases a : d < e
  · have := ScaleP.beg_lt l h d e a; omega
  · by_cases b : e < d
    · have := ScaleP.beg_lt l h e d b; omega
    · omega
theorem inP_uniq (p d e : Int) (h1 : InP p d) (h2 : InP p e) : d = e := by unfold InP at *; omega
/-- smeared and unsmeared -/
def up (q n c : Int) : Int := q * n / c + (if q * n % c > 0 then 1 else 0)
theorem back (x n : Int) (hn : n = 86399 ∨ n = 86401) (h0 : 0 ≤ x) (h1 : x < n * 1000000000) :
    0 ≤ x * 86400 / n ∧ x * 86400 / n < 86400000000000 ∧ 0 ≤ up (x * 86400 / n) n 86400 ∧ up (x * 86400 / n) n 86400 ≤ x ∧ x ≤ up (x * 86400 / n) n 86400 + 1 := by
  unfold up
  rcases hn with rfl | rfl
  · refine ⟨by omega, by omega, ?_, ?_, ?_⟩ <;> split <;> omega
  · refine ⟨by omega, by omega, ?_, ?_, ?_⟩ <;> split <;> omega
theorem up_bd (y n : Int) (hn : n = 86399 ∨ n = 86401) (h0 : 0 ≤ y) (h1 : y < 86400000000000) : 0 ≤ up y n 86400 ∧ up y n 86400 ≤ n * 1000000000 := by
  unfold up
  rcases hn with rfl | rfl
  · refine ⟨?_, ?_⟩ <;> split <;> omega
  · refine ⟨?_, ?_⟩ <;> split <;> omega
end Go.Proofs.Ythoigncoojcanaa.SmearP
namespace Go.Proofs.Ythoigncoojcanaa.SmearP
open Go.Proofs.Ythoigncoojcanaa Go.RowKit
theorem at_window (l : List LeapP.L) (h : LeapP.Good 729 l) (t d sec D : Int) (A : ScaleP.At l t d sec) (hi : InT l t D) : (d = D ∧ 43200 ≤ sec) ∨ (d = D + 1 ∧ sec < 43200 ∧ ScaleP.beg l d = ScaleP.beg l D + 86400 + LeapP.stp l D) := by
  have e := A.eq; have s0 := A.s0; have s1 := A.s1
  unfold InT at hi
  have b := ScaleP.beg_step l h d
  have c := ScaleP.beg_step l h D
  by_cases h1 : d = D
  · subst h1; exact .inl ⟨rfl, by omega⟩
  · by_cases h2 : d = D + 1
    · subst h2; exact .inr ⟨rfl, by omega, c⟩
    · by_cases h3 : d < D
      · have := ScaleP.beg_lt l h d D h3; omega
      · have := ScaleP.beg_lt l h (D + 1) d (by omega)
        have c' := ScaleP.beg_step l h (D + 1)
        have := ScaleP.stp_bd l (D + 1) h
        omega
theorem out_window (l : List LeapP.L) (h : LeapP.Good 729 l) (t d sec : Int) (A : ScaleP.At l t d sec) (hi : ∀ D, LeapP.stp l D ≠ 0 → ¬ InT l t D) : sec < 86400 ∧ ∀ D, LeapP.stp l D ≠ 0 → ¬ InP (d * 86400 + sec) D := by
  have e := A.eq; have s0 := A.s0; have s1 := A.s1
  have b := ScaleP.beg_step l h d
  have z := ScaleP.stp_bd l d h
  have hs : sec < 86400 := by
    by_cases q : LeapP.stp l d = 0
    · omega
    · have := hi d q
      unfold InT at this
      omega
  refine ⟨hs, fun D hD hp => hi D hD ?_⟩
  have c := ScaleP.beg_step l h D
  have z' := ScaleP.stp_bd l D h
  unfold InP at hp
  unfold InT
  have : d = D ∨ d = D + 1 := by omega
  rcases this with rfl | rfl
  · omega
  · omega
/-- a tick that is smeared within a day's window: nanoseconds from the window's begin -/
def sm (l : List LeapP.L) (t n d : Int) : Int := ((t - (ScaleP.beg l d + 43200 - 63072000)) * 1000000000 + n) * 86400 / (86400 + LeapP.stp l d)
/-- a tick in a day's window, against the plain one -/
theorem near (l : List LeapP.L) (h : LeapP.Good 729 l) (t n d sec D : Int) (A : ScaleP.At l t d sec) (hD : LeapP.stp l D ≠ 0) (hi : InT l t D) (h0 : 0 ≤ n) (h1 : n < 1000000000) :
    -1000000000 ≤ (D * 86400 + 43200 - (d * 86400 + min sec 86399)) * 1000000000 + sm l t n D - n ∧ (D * 86400 + 43200 - (d * 86400 + min sec 86399)) * 1000000000 + sm l t n D - n ≤ 1000000000 := by
  have e := A.eq; have s0 := A.s0; have s1 := A.s1
  have z := ScaleP.stp_bd l D h
  have w := at_window l h t d sec D A hi
  unfold InT at hi
  have c := ScaleP.beg_step l h D
  unfold sm
  rcases w with ⟨w0, w⟩ | ⟨w0, w, w'⟩
  · subst w0
    generalize ScaleP.beg l d = B at *
    generalize LeapP.stp l d = s at *
    rcases z with rfl | rfl | rfl
    · exact absurd rfl hD
    · constructor <;> omega
    · constructor <;> omega
  · subst w0
    generalize ScaleP.beg l (D + 1) = B' at *
    generalize ScaleP.beg l D = B at *
    generalize LeapP.stp l D = s at *
    rcases z with rfl | rfl | rfl
    · exact absurd rfl hD
    · constructor <;> omega
    · constructor <;> omega
/-- how many nanoseconds a smeared tick is -/
def Sm (l : List LeapP.L) (t n V : Int) : Prop := 0 ≤ n ∧ n < 1000000000 ∧ ∃ d sec, ScaleP.At l t d sec ∧ (((∀ D, LeapP.stp l D ≠ 0 → ¬ InT l t D) ∧ V = (d * 86400 + sec) * 1000000000 + n) ∨ ∃ D, LeapP.stp l D ≠ 0 ∧ InT l t D ∧ V = (D * 86400 + 43200) * 1000000000 + sm l t n D)
theorem sm_bd (l : List LeapP.L) (h : LeapP.Good 729 l) (t n D : Int) (hD : LeapP.stp l D ≠ 0) (hi : InT l t D) (h0 : 0 ≤ n) (h1 : n < 1000000000) : 0 ≤ sm l t n D ∧ sm l t n D < 86400000000000 := by
  have z := ScaleP.stp_bd l D h
  unfold InT at hi
  have c := ScaleP.beg_step l h D
  unfold sm
  generalize ScaleP.beg l D = B at *
  generalize LeapP.stp l D = s at *
  rcases z with rfl | rfl | rfl
  · exact absurd rfl hD
  · constructor <;> omega
  · constructor <;> omega
theorem rises (l : List LeapP.L) (h : LeapP.Good 729 l) (t n V t' n' V' : Int) (h1 : Sm l t n V) (h2 : Sm l t' n' V') (hN : 0 ≤ (t' - t) * 1000000000 + n' - n) : V ≤ V' ∧ (1000000000 ≤ (t' - t) * 1000000000 + n' - n → V < V') := by
  obtain ⟨a0, a1, d, sec, A, hA⟩ := h1
  obtain ⟨b0, b1, d', sec', A', hB⟩ := h2
  have e := A.eq; have s0 := A.s0; have s1 := A.s1
  have e' := A'.eq; have s0' := A'.s0; have s1' := A'.s1
  have tt : t ≤ t' := by omega
  have bd := ScaleP.beg_step l h d
  have bd' := ScaleP.beg_step l h d'
  rcases hA with ⟨ni, rfl⟩ | ⟨D, hD, hi, rfl⟩
  · have o := out_window l h t d sec A ni
    rcases hB with ⟨ni', rfl⟩ | ⟨D', hD', hi', rfl⟩
    · have o' := out_window l h t' d' sec' A' ni'
      by_cases q : d = d'
      · subst q; constructor <;> omega
      · by_cases q1 : d < d'
        · constructor <;> omega
        · have := ScaleP.beg_lt l h d' d (by omega); omega
    · have sb := sm_bd l h t' n' D' hD' hi' b0 b1
      have w := ni D' hD'
      have w' := hi'
      have c := ScaleP.beg_step l h D'
      unfold InT at w w'
      have : t + 63072000 < ScaleP.beg l D' + 43200 := by omega
      by_cases q : d < D'
      · constructor <;> omega
      · by_cases q1 : d = D'
        · subst q1; constructor <;> omega
        · have := ScaleP.beg_lt l h D' d (by omega)
          have := ScaleP.stp_bd l D' h
          omega
  · have sb := sm_bd l h t n D hD hi a0 a1
    have c := ScaleP.beg_step l h D
    rcases hB with ⟨ni', rfl⟩ | ⟨D', hD', hi', rfl⟩
    · have o' := out_window l h t' d' sec' A' ni'
      have w := ni' D hD
      have w' := hi
      unfold InT at w w'
      have : ScaleP.beg l (D + 1) + 43200 ≤ t' + 63072000 := by omega
      by_cases q : d' < D + 1
      · have := ScaleP.beg_lt l h d' (D + 1) q; omega
      · by_cases q1 : d' = D + 1
        · subst q1; constructor <;> omega
        · constructor <;> omega
    · have sb' := sm_bd l h t' n' D' hD' hi' b0 b1
      by_cases q : D = D'
      · subst q
        have z := ScaleP.stp_bd l D h
        unfold InT at hi
        have q2 : 0 ≤ (t - (ScaleP.beg l D + 43200 - 63072000)) * 1000000000 + n := by omega
        unfold sm
        generalize ScaleP.beg l D = B at *
        generalize hx : (t - (B + 43200 - 63072000)) * 1000000000 + n = x at *
        generalize hx' : (t' - (B + 43200 - 63072000)) * 1000000000 + n' = x' at *
        have hxx : x' - x = (t' - t) * 1000000000 + n' - n := by omega
        generalize LeapP.stp l D = s at *
        rcases z with rfl | rfl | rfl
        · exact absurd rfl hD
        · constructor <;> omega
        · constructor <;> omega
      · by_cases q1 : D < D'
        · constructor <;> omega
        · have := ScaleP.beg_lt l h D' D (by omega)
          unfold InT at hi hi'
          omega
end Go.Proofs.Ythoigncoojcanaa.SmearP
