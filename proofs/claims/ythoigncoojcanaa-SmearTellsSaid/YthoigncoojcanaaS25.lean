/- What the printed functions of the package smear tell. The small case of layer 25 comes out right. -/
import Derived.Test.YthoigncoojcanaaP25
import Derived.Test.YthoigncoojcanaaR25
import Derived.Test.YthoigncoojcanaaW25
import Derived.Test.YthoigncoojcanaaPAllx4
import Derived.Test.YthoigncoojcanaaPAllx5
import Derived.Test.YthoigncoojcanaaPAllx6
import Derived.Test.YthoigncoojcanaaPAllx7
import Derived.Test.YthoigncoojcanaaPAllx8
import Derived.Test.YthoigncoojcanaaPAllx9
import Derived.Test.YthoigncoojcanaaPAllx10
namespace Go.Proofs.Ythoigncoojcanaa.Pure
open Go.RowKit Go.Proofs.Ythoigncoojcanaa.PAll Go.Proofs.YthoigncoojcanaaW.PrintWords Go.Proofs.YthoigncoojcanaaW.PrintLast
set_option linter.unusedVariables false
set_option linter.unusedSimpArgs false
set_option linter.unusedSectionVars false
def toW (w : SmearP.W) : S56 := ⟨w.1, w.2.1, w.2.2⟩
theorem windows_loop (y : List S49) (hl : y.length ≤ 300) (rest : List S49) : ∀ (pre : List S49) (acc : List S56) (s a : Int) (k : Nat), y = pre ++ rest → LeapP.Good a (rest.map toL) → -(pre.length : Int) ≤ s → s ≤ pre.length → acc.length = pre.length → rest.length < k →
    smear_windows.l0 k acc s y (y.length : Int) (pre.length : Int) = some (acc ++ (SmearP.wins s (rest.map toL)).map toW) := by
  induction rest with
  | nil =>
    intro pre acc s a k e _ _ _ _ hk
    obtain ⟨k, rfl⟩ : ∃ m, k = m + 1 := ⟨k - 1, by omega⟩
    have : y.length = pre.length := by rw [e]; simp
    simp only [smear_windows.l0]
    rw [if_neg (by omega)]; simp [SmearP.wins]
  | cons x rest ih =>
    intro pre acc s a k e g b1 b2 ha hk
    simp only [List.length_cons] at hk
    obtain ⟨k, rfl⟩ : ∃ m, k = m + 1 := ⟨k - 1, by omega⟩
    have hlen : y.length = pre.length + (rest.length + 1) := by rw [e]; simp
    have hr : rd_T49 y (pre.length : Int) = x := by rw [e]; exact rd_at pre rest x
    obtain ⟨g1, g2, _, g4, _, g6⟩ := g
    have q0 : (toL x).day = x.f0 := rfl
    have q1 : (toL x).step = x.f1 := rfl
    rw [q0] at g1 g2
    rw [q1] at g4
    simp only [smear_windows.l0]
    rw [if_pos (by omega), if_pos (by omega), if_pos (by omega), if_pos (by omega), hr, w64 (n := x.f0 * 86400) (by omega) (by omega), w64 (n := x.f0 * 86400 + 43200) (by omega) (by omega), w64 (n := x.f0 * 86400 + 43200 - 63072000) (by omega) (by omega), w64 (n := x.f0 * 86400 + 43200 - 63072000 + s) (by omega) (by omega), w64 (n := 86400 + x.f1) (by omega) (by omega), w64 (n := s + x.f1) (by omega) (by omega), w64 (n := (pre.length : Int) + 1) (by omega) (by omega)]
    have := ih (pre ++ [x]) (acc ++ [⟨x.f0 * 86400 + 43200 - 63072000 + s, x.f0 * 86400 + 43200, 86400 + x.f1⟩]) (s + x.f1) _ k (by rw [e]; simp) g6 (by simp; omega) (by simp; omega) (by simp; omega) (by omega)
    simp only [List.length_append, List.length_cons, List.length_nil] at this
    rw [show ((pre.length : Int) + 1) = ((pre.length + (0 + 1) : Nat) : Int) by omega, this]
    simp [SmearP.wins, toW, q0, q1]
theorem later_law (a n : Int) (h0 : 0 ≤ n) (h1 : n ≤ 100000000000000) (ha : -1000000000000 ≤ a) (ha' : a ≤ 1000000000000) : smear_later.f a n = some (a + n / 1000000000, n % 1000000000) := by
  unfold smear_later.f
  rw [div_law n 1000000000 (by unfold I64; omega) (by unfold I64; omega) (by omega)]
  simp only [Option.bind_some]
  rw [w64 (by omega) (by omega)]
theorem nanos_law (s n a : Int) (h0 : -100000000 ≤ s - a) (h1 : s - a ≤ 100000000) (hn : 0 ≤ n) (hn' : n < 1000000000) : smear_nanos.f s n a = some ((s - a) * 1000000000 + n) := by
  unfold smear_nanos.f
  rw [w64 (n := s - a) (by omega) (by omega), w64 (n := (s - a) * 1000000000) (by omega) (by omega), w64 (by omega) (by omega)]
theorem sless_law (a b c d : Int) : smear_Less.f a b c d = some (decide (a < c ∨ a = c ∧ b < d)) := by
  unfold smear_Less.f
  by_cases h1 : a < c
  · have : (a == c) = false := by rw [beq_eq_false_iff_ne]; omega
    rw [this]; simp [h1]
  · by_cases h2 : a = c
    · subst h2
      by_cases h3 : b = d
      · subst h3; simp
      · simp [h3]
    · simp [h1, h2]
theorem right_no (m : List S53) (t n : Int) (k : Nat) (h : scale_Known.f k m = some false) : smear_right.f k m t n = some false := by
  unfold smear_right.f; rw [h]; simp
theorem right_bad (m : List S53) (t n : Int) (k : Nat) (h : ¬ (0 ≤ n ∧ n < 1000000000)) : smear_right.f k m t n = some false := by
  unfold smear_right.f
  by_cases h1 : n ≥ 0
  · rw [if_pos h1, if_neg (by omega)]
  · rw [if_neg h1]
theorem plain_no (m : List S53) (t n : Int) (k : Nat) (h : smear_right.f k m t n = some false) : smear_Plain.f k m t n = some (0, 0, 1) := by
  unfold smear_Plain.f; rw [h]; simp
theorem smear_no (m : List S53) (t n e : Int) (he : e ≠ 0) (k : Nat) (h : smear_Plain.f k m t n = some (0, 0, e)) : smear_Smear.f k m t n = some (0, 0, e) := by
  unfold smear_Smear.f; rw [h]; simp [he]
theorem unsmear_no (m : List S53) (t n : Int) (k : Nat) (h : smear_right.f k m t n = some false) : smear_Unsmear.f k m t n = some (0, 0, 1) := by
  unfold smear_Unsmear.f; rw [h]; simp
theorem window_no (m : List S53) (t : Int) (k : Nat) (h : scale_Known.f k m = some false) : smear_Window.f k m t = some (0, 0, false) := by
  unfold smear_Window.f; rw [h]; simp
/-- a tick that is smeared within a day's window -/
def smR (l : List LeapP.L) (t n d : Int) : Int := ((t - (ScaleP.beg l d + 43200 - 63072000)) * 1000000000 + n) * 86400 / (86400 + LeapP.stp l d)
section
variable {l : List S49} {has : Bool} {exp : Int} (ho : okT l has exp = true)
include ho
theorem windows_law (k : Nat) (hk : 1000 < k) : smear_windows.f k (full l has exp) = some ((SmearP.wins 0 (l.map toL)).map toW) := by
  unfold smear_windows.f
  rw [full_table_law ho k (by omega)]
  simp only [Option.bind_some]
  have h := tl ho
  rw [List.length_map] at h
  have := windows_loop l (by omega) l [] [] 0 729 k rfl (tG ho) (by simp) (by simp) rfl (by omega)
  simpa using this
theorem wd_range (d : Int) (hd : LeapP.stp (l.map toL) d ≠ 0) : 730 ≤ d ∧ d < 2932896 ∧ (LeapP.stp (l.map toL) d = 1 ∨ LeapP.stp (l.map toL) d = -1) ∧ d * 86400 - 200 ≤ ScaleP.beg (l.map toL) d ∧ ScaleP.beg (l.map toL) d ≤ d * 86400 + 200 ∧ ScaleP.beg (l.map toL) (d + 1) = ScaleP.beg (l.map toL) d + 86400 + LeapP.stp (l.map toL) d := by
  have r := SmearP.stp_range _ 729 d (tG ho) hd
  have b := ScaleP.beg_near _ (tG ho) (tl ho) d
  have s := ScaleP.stp_bd _ d (tG ho)
  exact ⟨r.1, r.2.1, by omega, b.1, b.2, ScaleP.beg_step _ (tG ho) d⟩
theorem find_gen (c t : Int → Prop) (a : Nat × Int) (C : Int → Prop) (k : Nat) (hk : 1000 < k) (ha : a.1 = 31 ∨ a.1 = 37 ∨ a.1 = 44)
    (hp : ∀ d, LeapP.stp (l.map toL) d ≠ 0 → (smear_find.p a (toW (SmearP.wd 0 (l.map toL) d)) = true ↔ C d)) :
    (∃ d, LeapP.stp (l.map toL) d ≠ 0 ∧ C d ∧ smear_find.f k (full l has exp) a = some (ScaleP.beg (l.map toL) d + 43200 - 63072000, d * 86400 + 43200, 86400 + LeapP.stp (l.map toL) d, true)) ∨ ((∀ d, LeapP.stp (l.map toL) d ≠ 0 → ¬ C d) ∧ smear_find.f k (full l has exp) a = some (0, 0, 0, false)) := by
  have hlen : ∀ (x : List LeapP.L) (n : Int), (SmearP.wins n x).length = x.length := by
    intro x
    induction x with
    | nil => intro n; rfl
    | cons y x ih => intro n; simp [SmearP.wins, ih]
  unfold smear_find.f
  rw [windows_law ho k hk]
  simp only [Option.bind_some]
  have := tl ho
  rw [if_pos ⟨by rw [List.length_map, hlen]; omega, ha⟩, List.find?_map]
  rcases SmearP.find_cases (l.map toL) (tG ho) (smear_find.p a ∘ toW) C hp with ⟨d, hd, hc, e⟩ | ⟨hn, e⟩
  · refine .inl ⟨d, hd, hc, ?_⟩
    rw [e]; simp [smear_find.out, toW, SmearP.wd]
  · refine .inr ⟨hn, ?_⟩
    rw [e]; rfl
theorem find_T (c : Nat) (hc : c = 31 ∨ c = 37) (t : Int) (k : Nat) (hk : 1000 < k) :
    (∃ d, LeapP.stp (l.map toL) d ≠ 0 ∧ SmearP.InT (l.map toL) t d ∧ smear_find.f k (full l has exp) (c, t) = some (ScaleP.beg (l.map toL) d + 43200 - 63072000, d * 86400 + 43200, 86400 + LeapP.stp (l.map toL) d, true)) ∨ ((∀ d, LeapP.stp (l.map toL) d ≠ 0 → ¬ SmearP.InT (l.map toL) t d) ∧ smear_find.f k (full l has exp) (c, t) = some (0, 0, 0, false)) := by
  refine find_gen ho (fun _ => True) (fun _ => True) (c, t) _ k hk (by rcases hc with h | h <;> simp [h]) (fun d hd => ?_)
  obtain ⟨h1, h2, h3, h4, h5, h6⟩ := wd_range ho d hd
  have e : smear_find.p (c, t) (toW (SmearP.wd 0 (l.map toL) d)) = (decide (t ≥ ScaleP.beg (l.map toL) d + 43200 - 63072000) && decide (t < wrap64 (ScaleP.beg (l.map toL) d + 43200 - 63072000 + (86400 + LeapP.stp (l.map toL) d)))) := by
    rcases hc with rfl | rfl <;> simp [smear_find.p, toW, SmearP.wd]
  rw [e, w64 (by omega) (by omega), Bool.and_eq_true, decide_eq_true_eq, decide_eq_true_eq]
  unfold SmearP.InT
  omega
theorem find_P (p : Int) (k : Nat) (hk : 1000 < k) :
    (∃ d, LeapP.stp (l.map toL) d ≠ 0 ∧ SmearP.InP p d ∧ smear_find.f k (full l has exp) (44, p) = some (ScaleP.beg (l.map toL) d + 43200 - 63072000, d * 86400 + 43200, 86400 + LeapP.stp (l.map toL) d, true)) ∨ ((∀ d, LeapP.stp (l.map toL) d ≠ 0 → ¬ SmearP.InP p d) ∧ smear_find.f k (full l has exp) (44, p) = some (0, 0, 0, false)) := by
  refine find_gen ho (fun _ => True) (fun _ => True) (44, p) _ k hk (by simp) (fun d hd => ?_)
  obtain ⟨h1, h2, h3, h4, h5, h6⟩ := wd_range ho d hd
  have e : smear_find.p (44, p) (toW (SmearP.wd 0 (l.map toL) d)) = (decide (p ≥ d * 86400 + 43200) && decide (p < wrap64 (d * 86400 + 43200 + 86400))) := by
    simp [smear_find.p, toW, SmearP.wd]
  rw [e, w64 (by omega) (by omega), Bool.and_eq_true, decide_eq_true_eq, decide_eq_true_eq]
  unfold SmearP.InP
  omega
theorem window_law (t : Int) (k : Nat) (hk : 1400 < k) :
    (∃ d, LeapP.stp (l.map toL) d ≠ 0 ∧ SmearP.InT (l.map toL) t d ∧ smear_Window.f k (full l has exp) t = some (ScaleP.beg (l.map toL) d + 43200 - 63072000, 86400 + LeapP.stp (l.map toL) d, true)) ∨ ((∀ d, LeapP.stp (l.map toL) d ≠ 0 → ¬ SmearP.InT (l.map toL) t d) ∧ smear_Window.f k (full l has exp) t = some (0, 0, false)) := by
  unfold smear_Window.f
  rw [known_law ho k (by omega)]
  simp only [Option.bind_some, if_true]
  rcases find_T ho _ (.inl rfl) t k (by omega) with ⟨d, a, b, e⟩ | ⟨a, e⟩
  · exact .inl ⟨d, a, b, by rw [e]; rfl⟩
  · exact .inr ⟨a, by rw [e]; rfl⟩
theorem sright_law (t n : Int) (h0 : 0 ≤ n) (h1 : n < 1000000000) (k : Nat) (hk : 1400 < k) : smear_right.f k (full l has exp) t n = some true := by
  unfold smear_right.f
  rw [if_pos (by omega), if_pos h1, known_law ho k (by omega)]; rfl
/-- what Plain and Smear tell of known records: nothing, by one error, or a tick -/
theorem smear_cases (t n : Int) (ht : I64 t) (k : Nat) (hk : 1400 < k) :
    (∃ e, e ≠ 0 ∧ smear_Plain.f k (full l has exp) t n = some (0, 0, e) ∧ smear_Smear.f k (full l has exp) t n = some (0, 0, e)) ∨
    (∃ d sec, ScaleP.At (l.map toL) t d sec ∧ ¬ (has = true ∧ ScaleP.fin (l.map toL) exp ≤ t) ∧ d ≤ 2932896 ∧ 0 ≤ n ∧ n < 1000000000 ∧ scale_Utc.f k (full l has exp) t = some (d, sec, 0) ∧ posix_From.f k (full l has exp) t = some (d * 86400 + min sec 86399, 0) ∧
      smear_Plain.f k (full l has exp) t n = some (d * 86400 + min sec 86399, n, 0) ∧
      (((∀ d, LeapP.stp (l.map toL) d ≠ 0 → ¬ SmearP.InT (l.map toL) t d) ∧ smear_Smear.f k (full l has exp) t n = some (d * 86400 + min sec 86399, n, 0)) ∨
       (∃ D, LeapP.stp (l.map toL) D ≠ 0 ∧ SmearP.InT (l.map toL) t D ∧ smear_Smear.f k (full l has exp) t n = some (D * 86400 + 43200 + smR (l.map toL) t n D / 1000000000, smR (l.map toL) t n D % 1000000000, 0)))) := by
  by_cases hn : 0 ≤ n ∧ n < 1000000000
  · have hr := sright_law ho t n hn.1 hn.2 k hk
    have hf : (∃ e, e ≠ 0 ∧ posix_From.f k (full l has exp) t = some (0, e)) ∨ (∃ d sec, ScaleP.At (l.map toL) t d sec ∧ ¬ (has = true ∧ ScaleP.fin (l.map toL) exp ≤ t) ∧ d ≤ 2932896 ∧ scale_Utc.f k (full l has exp) t = some (d, sec, 0) ∧ posix_From.f k (full l has exp) t = some (d * 86400 + min sec 86399, 0)) := by
      by_cases h0 : t < 0
      · exact .inl ⟨9, by omega, pfrom_neg ho t ht h0 k hk⟩
      · obtain ⟨d, sec, A⟩ := ScaleP.at_ex (l.map toL) (tG ho) t (by omega)
        rw [pfrom_law ho t ht d sec A k hk, utc_law ho t ht (by omega) d sec A k hk]
        unfold fromR
        by_cases hz : (ScaleP.utcR has (ScaleP.fin (l.map toL) exp) t d sec).2.2 = 0
        · obtain ⟨a, b, c⟩ := ScaleP.utcR_ok hz
          exact .inr ⟨d, sec, A, a, b, by rw [c], by rw [if_pos hz, c]⟩
        · exact .inl ⟨_, hz, by rw [if_neg hz]⟩
    rcases hf with ⟨e, he, hf⟩ | ⟨d, sec, A, ne, hd, hu, hf⟩
    · have hp : smear_Plain.f k (full l has exp) t n = some (0, 0, e) := by
        unfold smear_Plain.f; rw [hr]; simp only [Option.bind_some, if_true]; rw [hf]; simp [he]
      exact .inl ⟨e, he, hp, smear_no _ t n e he k hp⟩
    · have hp : smear_Plain.f k (full l has exp) t n = some (d * 86400 + min sec 86399, n, 0) := by
        unfold smear_Plain.f; rw [hr]; simp only [Option.bind_some, if_true]; rw [hf]; simp
      refine .inr ⟨d, sec, A, ne, hd, hn.1, hn.2, hu, hf, hp, ?_⟩
      unfold smear_Smear.f
      rw [hp]
      simp only [Option.bind_some, if_true]
      rcases find_T ho _ (.inr rfl) t k (by omega) with ⟨D, a, b, e⟩ | ⟨a, e⟩
      · refine .inr ⟨D, a, b, ?_⟩
        obtain ⟨w1, w2, w3, w4, w5, w6⟩ := wd_range ho D a
        have b' := b
        unfold SmearP.InT at b'
        rw [e]
        simp only [Option.bind_some, if_true]
        rw [nanos_law _ _ _ (by omega) (by omega) hn.1 hn.2]
        simp only [Option.bind_some]
        obtain ⟨k, rfl⟩ : ∃ m, k = m + 21 := ⟨k - 21, by omega⟩
        rw [muldiv_law k _ _ _ (by unfold IW; omega) (by unfold IW; omega) (by unfold IW; omega)]
        have B := SmearP.back ((t - (ScaleP.beg (l.map toL) D + 43200 - 63072000)) * 1000000000 + n) (86400 + LeapP.stp (l.map toL) D) (by omega) (by omega) (by rcases w3 with h | h <;> rw [h] <;> omega)
        have M : MD ((t - (ScaleP.beg (l.map toL) D + 43200 - 63072000)) * 1000000000 + n) 86400 (86400 + LeapP.stp (l.map toL) D) = (smR (l.map toL) t n D, ((t - (ScaleP.beg (l.map toL) D + 43200 - 63072000)) * 1000000000 + n) * 86400 % (86400 + LeapP.stp (l.map toL) D), true) := by
          unfold MD smR; rw [if_pos ⟨by omega, by omega, by omega, by omega⟩]
        rw [M]
        simp only [Option.bind_some]
        have B1 : 0 ≤ smR (l.map toL) t n D := B.1
        have B2 : smR (l.map toL) t n D < 86400000000000 := B.2.1
        rw [later_law _ _ B1 (by omega) (by omega) (by omega)]; rfl
      · exact .inl ⟨a, by rw [e]; simp⟩
  · have hp := plain_no _ t n k (right_bad (full l has exp) t n k hn)
    exact .inl ⟨1, by omega, hp, smear_no _ t n 1 (by omega) k hp⟩
/-- Unsmear within a window -/
theorem unsmear_in (p n D : Int) (hp : I64 p) (h0 : 0 ≤ n) (h1 : n < 1000000000) (hD : LeapP.stp (l.map toL) D ≠ 0) (hi : SmearP.InP p D) (k : Nat) (hk : 1400 < k) :
    ∃ z, z = SmearP.up ((p - (D * 86400 + 43200)) * 1000000000 + n) (86400 + LeapP.stp (l.map toL) D) 86400 ∧ 0 ≤ z ∧ z ≤ (86400 + LeapP.stp (l.map toL) D) * 1000000000 ∧
    smear_Unsmear.f k (full l has exp) p n = (scale_Utc.f k (full l has exp) (ScaleP.beg (l.map toL) D + 43200 - 63072000 + z / 1000000000)).bind fun u => if u.2.2 = 0 then some (ScaleP.beg (l.map toL) D + 43200 - 63072000 + z / 1000000000, z % 1000000000, 0) else some (0, 0, u.2.2) := by
  obtain ⟨w1, w2, w3, w4, w5, w6⟩ := wd_range ho D hD
  have hi' := hi
  unfold SmearP.InP at hi'
  have U := SmearP.up_bd ((p - (D * 86400 + 43200)) * 1000000000 + n) (86400 + LeapP.stp (l.map toL) D) (by omega) (by omega) (by omega)
  refine ⟨_, rfl, U.1, U.2, ?_⟩
  unfold smear_Unsmear.f
  rw [sright_law ho p n h0 h1 k hk]
  simp only [Option.bind_some, if_true]
  rcases find_P ho p k (by omega) with ⟨D', a, b, e⟩ | ⟨a, e⟩
  · obtain rfl := SmearP.inP_uniq p D' D b hi
    rw [e]
    simp only [Option.bind_some, if_true]
    rw [nanos_law _ _ _ (by omega) (by omega) h0 h1]
    simp only [Option.bind_some]
    obtain ⟨k, rfl⟩ : ∃ m, k = m + 21 := ⟨k - 21, by omega⟩
    rw [up_law k _ _ _ (by unfold IW; omega) (by unfold IW; omega) (by unfold IW; omega)]
    generalize hy : (p - (D' * 86400 + 43200)) * 1000000000 + n = y at *
    generalize LeapP.stp (l.map toL) D' = s at *
    have y0 : 0 ≤ y := by omega
    have y1 : y < 86400000000000 := by omega
    have q0 : 0 ≤ y * (86400 + s) / 86400 ∧ y * (86400 + s) / 86400 ≤ 90000000000000 := by rcases w3 with rfl | rfl <;> omega
    have M : MD y (86400 + s) 86400 = (y * (86400 + s) / 86400, y * (86400 + s) % 86400, true) := by
      unfold MD; rw [if_pos ⟨by omega, by omega, by omega, by omega⟩]
    have P : UP y (86400 + s) 86400 = (SmearP.up y (86400 + s) 86400, true) := by
      unfold UP SmearP.up
      rw [M]
      rw [if_pos ⟨rfl, by rintro ⟨_, h⟩; simp only at h; omega⟩]
    rw [P]
    simp only [Option.bind_some]
    rw [later_law _ _ U.1 (by rcases w3 with rfl | rfl <;> omega) (by omega) (by omega)]
    simp only [Option.bind_some]
  · exact absurd hi (a D hD)
/-- Unsmear outside all windows -/
theorem unsmear_out (p n : Int) (hp : I64 p) (h0 : 0 ≤ n) (h1 : n < 1000000000) (hi : ∀ D, LeapP.stp (l.map toL) D ≠ 0 → ¬ SmearP.InP p D) (k : Nat) (hk : 1400 < k) :
    smear_Unsmear.f k (full l has exp) p n = if (ScaleP.taiR (l.map toL) has exp (p / 86400) (p % 86400)).2 = 0 then some ((ScaleP.taiR (l.map toL) has exp (p / 86400) (p % 86400)).1, n, 0) else some (0, 0, (ScaleP.taiR (l.map toL) has exp (p / 86400) (p % 86400)).2) := by
  unfold smear_Unsmear.f
  rw [sright_law ho p n h0 h1 k hk]
  simp only [Option.bind_some, if_true]
  rcases find_P ho p k (by omega) with ⟨D', a, b, e⟩ | ⟨a, e⟩
  · exact absurd b (hi D' a)
  · rw [e]
    simp only [Option.bind_some, Bool.false_eq_true, if_false]
    rw [ptai_law ho p hp k hk]
    simp only [Option.bind_some]
end
end Go.Proofs.Ythoigncoojcanaa.Pure
namespace Go.Proofs.Ythoigncoojcanaa.Pure
open Go.RowKit Go.Proofs.Ythoigncoojcanaa.PAll Go.Proofs.YthoigncoojcanaaW.PrintWords Go.Proofs.YthoigncoojcanaaW.PrintLast
theorem small25 (k : Nat) (hk : 100 ≤ k) : epactlaw25_small.f k = some true :=
  at_rounds (g := epactlaw25_small.f) epactlaw25_small.mono (k := 100) hk (by decide +kernel)
theorem apart_law (a b c d : Int) (h : -5 ≤ a - c) (h' : a - c ≤ 5) (hb : 0 ≤ b) (hb' : b < 1000000000) (hd : 0 ≤ d) (hd' : d < 1000000000) : epactlaw25_apart.f a b c d = some ((a - c) * 1000000000 + b - d) := by
  unfold epactlaw25_apart.f
  rw [w64 (n := a - c) (by omega) (by omega), if_neg (by omega), if_neg (by omega), w64 (n := (a - c) * 1000000000) (by omega) (by omega), w64 (n := (a - c) * 1000000000 + b) (by omega) (by omega), w64 (by omega) (by omega)]
theorem smR_eq (l : List LeapP.L) (t n d : Int) : smR l t n d = SmearP.sm l t n d := rfl
end Go.Proofs.Ythoigncoojcanaa.Pure
