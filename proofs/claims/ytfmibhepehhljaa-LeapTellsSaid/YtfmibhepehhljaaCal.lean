/- The calendar in plain numbers: years, months, days, and the number of a day; no program in sight. -/
namespace Go.Proofs.Ytfmibhepehhljaa.Cal
def leap (y : Int) : Bool := decide (y % 4 = 0) && (!decide (y % 100 = 0) || decide (y % 400 = 0))
def mdays (y m : Int) : Int := if m = 2 then (if leap y = true then 29 else 28) else if m = 4 ∨ m = 6 ∨ m = 9 ∨ m = 11 then 30 else 31
/-- days ahead of the first of March of a year, but for a fixed number -/
def yd (y : Int) : Int := 365 * y + y / 4 - y / 100 + y / 400
def Valid (y m d : Int) : Prop := 1 ≤ y ∧ y ≤ 9999 ∧ 1 ≤ m ∧ m ≤ 12 ∧ 1 ≤ d ∧ d ≤ mdays y m
def num (y m d : Int) : Int := if m < 3 then yd (y - 1) + (153 * (m + 9) + 2) / 5 + d - 719469 else yd y + (153 * (m - 3) + 2) / 5 + d - 719469

theorem yd_era (y : Int) : 146097 * (y / 400) + 365 * (y % 400) + (y % 400) / 4 - (y % 400) / 100 = yd y := by
  unfold yd; omega
theorem yd_mono (y z : Int) (h : y ≤ z) : yd y ≤ yd z := by unfold yd; omega
theorem yd_step (y : Int) : 365 ≤ yd (y + 1) - yd y ∧ yd (y + 1) - yd y ≤ 366 := by unfold yd; omega
theorem leap_400 (y : Int) : leap (y + 400) = leap y := by
  unfold leap
  rw [show (y + 400) % 4 = y % 4 by omega, show (y + 400) % 100 = y % 100 by omega, show (y + 400) % 400 = y % 400 by omega]
theorem leap_true {y : Int} (h : leap y = true) : yd y - yd (y - 1) = 366 := by
  unfold leap at h; simp at h; unfold yd; omega
theorem leap_false {y : Int} (h : leap y = false) : yd y - yd (y - 1) = 365 := by
  unfold leap at h; simp at h; unfold yd; omega
theorem mdays_bd (y m : Int) : 28 ≤ mdays y m ∧ mdays y m ≤ 31 := by
  unfold mdays; split
  · split <;> omega
  · split <;> omega

/-- the day within its year, counted from March on -/
theorem num_part (y m d : Int) (h : Valid y m d) : ∃ z k : Int, num y m d = yd z + k - 719468 ∧ 0 ≤ k ∧ k < yd (z + 1) - yd z ∧ (m < 3 → z = y - 1 ∧ 306 ≤ k) ∧ (3 ≤ m → z = y ∧ k < 306) := by
  obtain ⟨h1, h2, h3, h4, h5, h6⟩ := h
  by_cases hm : m < 3
  · refine ⟨y - 1, (153 * (m + 9) + 2) / 5 + d - 1, ?_, ?_, ?_, ?_, ?_⟩
    · unfold num; rw [if_pos hm]; omega
    · omega
    · rw [show y - 1 + 1 = y by omega]
      unfold mdays at h6
      cases hl : leap y with
      | true => have := leap_true hl; simp [hl] at h6; split at h6 <;> (try split at h6) <;> omega
      | false => have := leap_false hl; simp [hl] at h6; split at h6 <;> (try split at h6) <;> omega
    · intro; constructor <;> omega
    · intro; omega
  · refine ⟨y, (153 * (m - 3) + 2) / 5 + d - 1, ?_, ?_, ?_, ?_, ?_⟩
    · unfold num; rw [if_neg hm]; omega
    · omega
    · have hy : 365 ≤ yd (y + 1) - yd y := by unfold yd; omega
      unfold mdays at h6
      have : m = 3 ∨ m = 4 ∨ m = 5 ∨ m = 6 ∨ m = 7 ∨ m = 8 ∨ m = 9 ∨ m = 10 ∨ m = 11 ∨ m = 12 := by omega
      rcases this with rfl | rfl | rfl | rfl | rfl | rfl | rfl | rfl | rfl | rfl <;> simp at h6 <;> omega
    · intro; omega
    · intro
      refine ⟨rfl, ?_⟩
      unfold mdays at h6
      have : m = 3 ∨ m = 4 ∨ m = 5 ∨ m = 6 ∨ m = 7 ∨ m = 8 ∨ m = 9 ∨ m = 10 ∨ m = 11 ∨ m = 12 := by omega
      rcases this with rfl | rfl | rfl | rfl | rfl | rfl | rfl | rfl | rfl | rfl <;> simp at h6 <;> omega

theorem num_month (y m d k e : Int) (h : Valid y m d) (h' : Valid y k e) (hlt : m < k) : num y m d < num y k e := by
  have A := num_part y m d h
  have B := num_part y k e h'
  obtain ⟨z, p, e1, p0, p1, q1, q2⟩ := A
  obtain ⟨z', p', e1', p0', p1', q1', q2'⟩ := B
  obtain ⟨h1, h2, h3, h4, h5, h6⟩ := h
  obtain ⟨_, _, h3', h4', h5', h6'⟩ := h'
  by_cases hm : m < 3
  · by_cases hk : k < 3
    · have : m = 1 := by omega
      subst this
      have : k = 2 := by omega
      subst this
      unfold num; simp; unfold mdays at h6; simp at h6; omega
    · have a := q1 hm
      have b := q2' (by omega)
      rw [e1, e1', a.1, b.1]
      have : p < yd y - yd (y - 1) := by have := p1; rw [a.1] at this; rw [show y - 1 + 1 = y by omega] at this; exact this
      omega
  · unfold num; rw [if_neg hm, if_neg (by omega)]
    unfold mdays at h6
    have : m = 3 ∨ m = 4 ∨ m = 5 ∨ m = 6 ∨ m = 7 ∨ m = 8 ∨ m = 9 ∨ m = 10 ∨ m = 11 := by omega
    rcases this with rfl | rfl | rfl | rfl | rfl | rfl | rfl | rfl | rfl <;> simp at h6 <;> omega

theorem num_year (y m d z k e : Int) (h : Valid y m d) (h' : Valid z k e) (hlt : y < z) : num y m d < num z k e := by
  obtain ⟨a, p, e1, p0, p1, q1, q2⟩ := num_part y m d h
  obtain ⟨a', p', e1', p0', p1', q1', q2'⟩ := num_part z k e h'
  rw [e1, e1']
  have m1 := yd_mono (a + 1) a'
  by_cases hm : m < 3
  · have := q1 hm
    by_cases hk : k < 3
    · have := q1' hk; have := m1 (by omega); omega
    · have := q2' (by omega); have := m1 (by omega); omega
  · have := q2 (by omega)
    by_cases hk : k < 3
    · have hh := q1' hk
      by_cases hy : a + 1 ≤ a'
      · have := m1 hy; omega
      · have : a = a' := by omega
        subst this; omega
    · have := q2' (by omega); have := m1 (by omega); omega

/-- which of two dates is ahead -/
def before (y m d z k e : Int) : Prop := y < z ∨ y = z ∧ (m < k ∨ m = k ∧ d < e)
theorem num_lt (y m d z k e : Int) (h : Valid y m d) (h' : Valid z k e) (hb : before y m d z k e) : num y m d < num z k e := by
  rcases hb with hb | ⟨rfl, hb | ⟨rfl, hb⟩⟩
  · exact num_year _ _ _ _ _ _ h h' hb
  · exact num_month _ _ _ _ _ h h' hb
  · unfold num; split <;> omega
theorem num_inj (y m d z k e : Int) (h : Valid y m d) (h' : Valid z k e) (he : num y m d = num z k e) : y = z ∧ m = k ∧ d = e := by
  have A : ¬ before y m d z k e := fun hb => by have := num_lt _ _ _ _ _ _ h h' hb; omega
  have B : ¬ before z k e y m d := fun hb => by have := num_lt _ _ _ _ _ _ h' h hb; omega
  unfold before at A B; omega

theorem valid_first : Valid 1 1 1 := by refine ⟨by omega, by omega, by omega, by omega, by omega, by decide⟩
theorem valid_last : Valid 9999 12 31 := by refine ⟨by omega, by omega, by omega, by omega, by omega, by decide⟩
theorem num_bd (y m d : Int) (h : Valid y m d) : -719162 ≤ num y m d ∧ num y m d ≤ 2932896 := by
  have h0 := h
  obtain ⟨h1, h2, h3, h4, h5, h6⟩ := h
  constructor
  · by_cases e : before 1 1 1 y m d
    · have := num_lt _ _ _ _ _ _ valid_first h0 e
      have : num 1 1 1 = -719162 := by decide
      omega
    · have : y = 1 ∧ m = 1 ∧ d = 1 := by unfold before at e; omega
      obtain ⟨rfl, rfl, rfl⟩ := this; decide
  · by_cases e : before y m d 9999 12 31
    · have := num_lt _ _ _ _ _ _ h0 valid_last e
      have : num 9999 12 31 = 2932896 := by decide
      omega
    · have := mdays_bd y m
      have : y = 9999 ∧ m = 12 ∧ d = 31 := by unfold before at e; omega
      obtain ⟨rfl, rfl, rfl⟩ := this; decide

/-- the year within four hundred, and the day of it, from March on -/
theorem yoe_law (x : Int) (h0 : 0 ≤ x) (h1 : x < 146097) : ∃ c : Int, (x - x / 1460 + x / 36524 - x / 146096) / 365 = c ∧ 0 ≤ c ∧ c ≤ 399 ∧ yd c ≤ x ∧ x < yd (c + 1) := by
  refine ⟨_, rfl, by omega, by omega, ?_⟩
  generalize hb : (x - x / 1460 + x / 36524 - x / 146096) / 365 = b
  have hb0 : 0 ≤ b ∧ b ≤ 399 := by omega
  unfold yd
  have hg : x / 36524 = 0 ∨ x / 36524 = 1 ∨ x / 36524 = 2 ∨ x / 36524 = 3 ∨ x / 36524 = 4 := by omega
  have hh : x / 146096 = 0 ∨ x / 146096 = 1 := by omega
  have hf : ∃ f s : Int, x = 1460 * f + s ∧ x / 1460 = f ∧ 0 ≤ s ∧ s < 1460 := ⟨x / 1460, x % 1460, by omega, rfl, by omega, by omega⟩
  obtain ⟨f, s, e1, e2, s0, s1⟩ := hf
  have he : b / 400 = 0 := by omega
  have hc : ∃ c t : Int, b = 4 * c + t ∧ b / 4 = c ∧ 0 ≤ t ∧ t < 4 := ⟨b / 4, b % 4, by omega, rfl, by omega, by omega⟩
  obtain ⟨c, t, e3, e4, t0, t1⟩ := hc
  have hm : f = c - 1 ∨ f = c ∨ f = c + 1 := by omega
  have ht : t = 0 ∨ t = 1 ∨ t = 2 ∨ t = 3 := by omega
  rw [e2] at hb
  rw [e4, he]
  have k1 : b / 100 = c / 25 := by omega
  rw [k1]
  rcases hg with g | g | g | g | g <;> rw [g] at hb
  all_goals
    rcases hh with h | h <;> rw [h] at hb
    all_goals
      rcases hm with m | m | m <;> subst m
      all_goals
        rcases ht with rfl | rfl | rfl | rfl
        all_goals
          first
          | (exfalso; omega; done)
          | (constructor
             · omega
             · first
               | omega
               | (have : (b + 1) / 4 = c := by omega
                  have : (b + 1) / 100 = c / 25 := by omega
                  have : (b + 1) / 400 = 0 := by omega
                  omega)
               | (have : (b + 1) / 4 = c + 1 := by omega
                  have : (b + 1) / 100 = (c + 1) / 25 := by omega
                  have : (b + 1) / 400 = (c + 1) / 100 := by omega
                  omega))

def yoe (x : Int) : Int := (x - x / 1460 + x / 36524 - x / 146096) / 365
def dY (n : Int) : Int := let o := (n + 719468) % 146097; let c := yoe o; let p := (5 * (o - yd c) + 2) / 153; 400 * ((n + 719468) / 146097) + c + (if p < 10 then 0 else 1)
def dM (n : Int) : Int := let o := (n + 719468) % 146097; let c := yoe o; let p := (5 * (o - yd c) + 2) / 153; if p < 10 then p + 3 else p - 9
def dD (n : Int) : Int := let o := (n + 719468) % 146097; let c := yoe o; let p := (5 * (o - yd c) + 2) / 153; o - yd c - (153 * p + 2) / 5 + 1
theorem leap_of {y : Int} (h : yd y - yd (y - 1) = 366) : leap y = true := by
  cases hl : leap y with
  | true => rfl
  | false => have := leap_false hl; omega
theorem yd_400 (e c : Int) : yd (400 * e + c) = 146097 * e + yd c := by unfold yd; omega
theorem date_law (n : Int) (h0 : -719162 ≤ n) (h1 : n ≤ 2932896) : Valid (dY n) (dM n) (dD n) ∧ num (dY n) (dM n) (dD n) = n := by
  unfold dY dM dD
  generalize ho : (n + 719468) % 146097 = o
  generalize he : (n + 719468) / 146097 = e
  obtain ⟨c, hc, c0, c1, k0, k1⟩ := yoe_law o (by omega) (by omega)
  have hc' : yoe o = c := hc
  simp only [hc']
  clear hc hc'
  have y1 := yd_400 e c
  have y2 := yd_400 e (c + 1)
  generalize hk : o - yd c = k
  have hk0 : 0 ≤ k := by omega
  have hk1 : k < yd (c + 1) - yd c := by omega
  have hyy : 365 ≤ yd (c + 1) - yd c ∧ yd (c + 1) - yd c ≤ 366 := by unfold yd; omega
  have hn : n = yd (400 * e + c) + k - 719468 := by omega
  have hY0 : 0 ≤ 400 * e + c := by
    by_cases q : 400 * e + c < 0
    · have := yd_mono (400 * e + c + 1) 0 (by omega); rw [show 400 * e + c + 1 = 400 * e + (c + 1) by omega] at this; have : yd 0 = 0 := by decide
      omega
    · omega
  have hY1 : 400 * e + c ≤ 9999 := by
    by_cases q : 9999 < 400 * e + c
    · have := yd_mono 10000 (400 * e + c) (by omega); have : yd 10000 = 3652425 := by decide
      omega
    · omega
  have hY2 : 400 * e + c = 0 → 306 ≤ k := by intro q; rw [q] at hn; have : yd 0 = 0 := by decide
                                             omega
  have hY3 : 400 * e + c = 9999 → k < 306 := by intro q; rw [q] at hn; have : yd 9999 = 3652059 := by decide
                                                omega
  have hp : (5 * k + 2) / 153 = 0 ∨ (5 * k + 2) / 153 = 1 ∨ (5 * k + 2) / 153 = 2 ∨ (5 * k + 2) / 153 = 3 ∨ (5 * k + 2) / 153 = 4 ∨ (5 * k + 2) / 153 = 5 ∨ (5 * k + 2) / 153 = 6 ∨ (5 * k + 2) / 153 = 7 ∨ (5 * k + 2) / 153 = 8 ∨ (5 * k + 2) / 153 = 9 ∨ (5 * k + 2) / 153 = 10 ∨ (5 * k + 2) / 153 = 11 := by omega
  rcases hp with p | p | p | p | p | p | p | p | p | p | p | p <;> simp only [p]
  all_goals simp only [Int.reduceLT, if_true, if_false]
  case inr.inr.inr.inr.inr.inr.inr.inr.inr.inr.inr =>
    constructor
    · refine ⟨by omega, by omega, by omega, by omega, by omega, ?_⟩
      by_cases q : k = 365
      · have : leap (400 * e + c + 1) = true := leap_of (by rw [show 400 * e + c + 1 - 1 = 400 * e + c by omega, show 400 * e + c + 1 = 400 * e + (c + 1) by omega]; omega)
        simp [mdays, this]; omega
      · have := mdays_bd (400 * e + c + 1) 2
        show _ ≤ mdays (400 * e + c + 1) 2
        omega
    · simp only [num]; simp; rw [hn]; omega
  all_goals
    constructor
    · refine ⟨by omega, by omega, by omega, by omega, by omega, ?_⟩
      simp [mdays]; omega
    · simp only [num]; simp; rw [hn]; first | omega | (rw [show 400 * e + c + 1 - 1 = 400 * e + c by omega]; omega)
theorem num_succ_day (y m d : Int) : num y m (d + 1) = num y m d + 1 := by unfold num; split <;> omega
theorem num_succ_month (y m : Int) (h1 : 1 ≤ m) (h2 : m < 12) : num y (m + 1) 1 = num y m (mdays y m) + 1 := by
  have : m = 1 ∨ m = 2 ∨ m = 3 ∨ m = 4 ∨ m = 5 ∨ m = 6 ∨ m = 7 ∨ m = 8 ∨ m = 9 ∨ m = 10 ∨ m = 11 := by omega
  rcases this with rfl | rfl | rfl | rfl | rfl | rfl | rfl | rfl | rfl | rfl | rfl
  case inr.inl =>
    unfold num mdays
    cases hl : leap y with
    | true => have := leap_true hl; simp; omega
    | false => have := leap_false hl; simp; omega
  all_goals
    simp [num, mdays]; try omega
theorem num_succ_year (y : Int) : num (y + 1) 1 1 = num y 12 31 + 1 := by
  simp [num]; try rw [show y + 1 - 1 = y by omega]
  omega
theorem date_of (y m d n : Int) (h : Valid y m d) (e : num y m d = n) : dY n = y ∧ dM n = m ∧ dD n = d := by
  have b := num_bd y m d h
  obtain ⟨v, e'⟩ := date_law n (by omega) (by omega)
  exact num_inj _ _ _ _ _ _ v h (by omega)
theorem mdays_12 (y : Int) : mdays y 12 = 31 := by simp [mdays]
/-- the date of the next day -/
theorem next_law (n : Int) (h0 : -719162 ≤ n) (h1 : n < 2932896) :
    (dD n < mdays (dY n) (dM n) ∧ dY (n + 1) = dY n ∧ dM (n + 1) = dM n ∧ dD (n + 1) = dD n + 1) ∨
    (dD n = mdays (dY n) (dM n) ∧ dM n < 12 ∧ dY (n + 1) = dY n ∧ dM (n + 1) = dM n + 1 ∧ dD (n + 1) = 1) ∨
    (dD n = mdays (dY n) (dM n) ∧ dM n = 12 ∧ dY (n + 1) = dY n + 1 ∧ dM (n + 1) = 1 ∧ dD (n + 1) = 1) := by
  obtain ⟨v, e⟩ := date_law n h0 (by omega)
  generalize dY n = y at v e ⊢
  generalize dM n = m at v e ⊢
  generalize dD n = d at v e ⊢
  have v0 := v
  obtain ⟨y0, y1, m0, m1, d0, d1⟩ := v
  by_cases hd : d < mdays y m
  · left
    have := date_of y m (d + 1) (n + 1) ⟨y0, y1, m0, m1, by omega, by omega⟩ (by rw [num_succ_day]; omega)
    exact ⟨hd, this⟩
  · right
    have hd : d = mdays y m := by omega
    by_cases hm : m < 12
    · left
      have b := mdays_bd y (m + 1)
      have := date_of y (m + 1) 1 (n + 1) ⟨y0, y1, by omega, by omega, by omega, by omega⟩ (by rw [num_succ_month y m m0 hm, ← hd, e])
      exact ⟨hd, hm, this⟩
    · right
      have hm : m = 12 := by omega
      subst hm
      have hd31 : d = 31 := by rw [hd, mdays_12]
      have hy : y + 1 ≤ 9999 := by
        by_cases q : y = 9999
        · subst q; subst hd31; have : num 9999 12 31 = 2932896 := by decide
          omega
        · omega
      have := date_of (y + 1) 1 1 (n + 1) ⟨by omega, hy, by omega, by omega, by omega, by simp [mdays]⟩ (by rw [num_succ_year, ← hd31, e])
      exact ⟨hd, rfl, this⟩
/-- the last day of a month -/
def isEnd (n : Int) : Bool := decide (-719162 ≤ n ∧ n ≤ 2932896) && (dD n == mdays (dY n) (dM n))
end Go.Proofs.Ytfmibhepehhljaa.Cal
