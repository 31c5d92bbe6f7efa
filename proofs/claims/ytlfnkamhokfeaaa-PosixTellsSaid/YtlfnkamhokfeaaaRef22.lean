/- The reference's days and seconds of TAI are the program's. -/
import Derived.Test.YtlfnkamhokfeaaaScale
import Derived.Test.YtlfnkamhokfeaaaRefA
import Derived.Test.YtlfnkamhokfeaaaPAllx9
import Derived.Test.YtlfnkamhokfeaaaPAllx10
import Derived.Test.YtlfnkamhokfeaaaPAllx11
namespace Go.Proofs.Ytlfnkamhokfeaaa.Pure
open Go.RowKit Go.Proofs.Ytlfnkamhokfeaaa.PAll Go.Proofs.YtlfnkamhokfeaaaW.PrintWords Go.Proofs.YtlfnkamhokfeaaaW.PrintLast
set_option linter.unusedVariables false
set_option linter.unusedSimpArgs false
set_option linter.unusedSectionVars false
theorem ref_step_loop9 (l : List S54) (has : Bool) (exp d : Int) (hl : l.length ≤ 300) (rest : List S54) : ∀ (pre : List S54) (k : Nat), l = pre ++ rest → rest.length < k →
    epactref09_Step.l0 k d (pre.length : Int) l has exp = some (LeapP.stp (rest.map toL) d) := by
  induction rest with
  | nil =>
    intro pre k e hk
    obtain ⟨k, rfl⟩ : ∃ m, k = m + 1 := ⟨k - 1, by omega⟩
    have : l.length = pre.length := by rw [e]; simp
    simp only [epactref09_Step.l0]
    rw [if_neg (by omega)]; rfl
  | cons x rest ih =>
    intro pre k e hk
    simp only [List.length_cons] at hk
    obtain ⟨k, rfl⟩ : ∃ m, k = m + 1 := ⟨k - 1, by omega⟩
    have hlen : l.length = pre.length + (rest.length + 1) := by rw [e]; simp
    have hr : rd_T54 l (pre.length : Int) = x := by rw [e]; exact rd_at pre rest x
    have := ih (pre ++ [x]) k (by rw [e]; simp) (by omega)
    simp only [List.length_append, List.length_cons, List.length_nil] at this
    simp only [epactref09_Step.l0, List.map_cons, LeapP.stp]
    rw [if_pos (by omega), if_pos (by omega), hr, w64 (by omega) (by omega), show ((pre.length : Int) + 1) = ((pre.length + (0 + 1) : Nat) : Int) by omega, this]
    have e0 : (toL x).day = x.f0 := rfl
    have e1 : (toL x).step = x.f1 := rfl
    rw [e0, e1]
    by_cases h : x.f0 = d
    · rw [if_pos h, if_pos h]
    · rw [if_neg h, if_neg h]
theorem ref_step9 (l : List S54) (has : Bool) (exp d : Int) (hl : l.length ≤ 300) (k : Nat) (hk : 300 < k) : epactref09_Step.f k l has exp d = some (LeapP.stp (l.map toL) d) := by
  unfold epactref09_Step.f
  have := ref_step_loop9 l has exp d hl l [] k rfl (by omega)
  simpa using this
theorem ref_length9 (l : List S54) (has : Bool) (exp d : Int) (hl : l.length ≤ 300) (G : LeapP.Good 729 (l.map toL)) (k : Nat) (hk : 300 < k) : epactref09_Length.f k l has exp d = some (86400 + LeapP.stp (l.map toL) d) := by
  unfold epactref09_Length.f
  rw [ref_step9 l has exp d hl k hk]
  have := ScaleP.stp_bd _ d G
  simp only [Option.bind_some]
  rw [w64 (by omega) (by omega)]
theorem ref_find_loop9 (l : List S54) (has : Bool) (exp d : Int) (hl : l.length ≤ 300) (rest : List S54) : ∀ (pre : List S54) (a : Int) (k : Nat), l = pre ++ rest → LeapP.Good a (rest.map toL) → rest.length < k →
    epactref09_Find.l0 k d (pre.length : Int) l has exp = some ((pre.length : Int) + (LeapP.cnt (rest.map toL) d : Nat)) := by
  induction rest with
  | nil =>
    intro pre a k e _ hk
    obtain ⟨k, rfl⟩ : ∃ m, k = m + 1 := ⟨k - 1, by omega⟩
    have : l.length = pre.length := by rw [e]; simp
    simp only [epactref09_Find.l0]
    rw [if_neg (by omega)]; simp [LeapP.cnt]
  | cons x rest ih =>
    intro pre a k e g hk
    simp only [List.length_cons] at hk
    obtain ⟨k, rfl⟩ : ∃ m, k = m + 1 := ⟨k - 1, by omega⟩
    have hlen : l.length = pre.length + (rest.length + 1) := by rw [e]; simp
    have hr : rd_T54 l (pre.length : Int) = x := by rw [e]; exact rd_at pre rest x
    have g6 := g.2.2.2.2.2
    have := ih (pre ++ [x]) (toL x).day k (by rw [e]; simp) g6 (by omega)
    simp only [List.length_append, List.length_cons, List.length_nil] at this
    simp only [epactref09_Find.l0, List.map_cons, LeapP.cnt]
    rw [if_pos (by omega), if_pos (by omega), hr, w64 (by omega) (by omega), show ((pre.length : Int) + 1) = ((pre.length + (0 + 1) : Nat) : Int) by omega, this]
    have e0 : (toL x).day = x.f0 := rfl
    by_cases h : x.f0 < d
    · rw [if_pos h, if_pos (by rw [e0]; exact h)]; congr 1; omega
    · rw [if_neg h, if_neg (by rw [e0]; exact h), (LeapP.good_above _ _ d g6 (by rw [e0]; omega)).1]; simp
theorem ref_find9 (l : List S54) (has : Bool) (exp d : Int) (hl : l.length ≤ 300) (G : LeapP.Good 729 (l.map toL)) (k : Nat) (hk : 300 < k) : epactref09_Find.f k l has exp d = some ((LeapP.cnt (l.map toL) d : Nat) : Int) := by
  unfold epactref09_Find.f
  have := ref_find_loop9 l has exp d hl l [] 729 k rfl G (by omega)
  simpa using this
theorem ref_total_loop9 (l : List S54) (has : Bool) (exp d : Int) (hl : l.length ≤ 300) (G0 : LeapP.Good 729 (l.map toL)) (rest : List S54) : ∀ (pre : List S54) (a s : Int) (k : Nat), l = pre ++ rest → LeapP.Good a (rest.map toL) → LeapP.cnt (l.map toL) d ≤ pre.length + LeapP.cnt (rest.map toL) d → (0 < LeapP.cnt (rest.map toL) d → pre.length + LeapP.cnt (rest.map toL) d ≤ LeapP.cnt (l.map toL) d) → -(pre.length : Int) ≤ s → s ≤ pre.length → rest.length + 302 < k →
    epactref09_Total.l0 k d s (pre.length : Int) l has exp = some (s + LeapP.tot (rest.map toL) d) := by
  induction rest with
  | nil =>
    intro pre a s k e _ c1 c2 b0 b1 hk
    obtain ⟨k, rfl⟩ : ∃ m, k = m + 1 := ⟨k - 1, by omega⟩
    have : l.length = pre.length := by rw [e]; simp
    have cl := LeapP.cnt_le (l.map toL) d
    rw [List.length_map] at cl
    simp only [List.length_nil] at hk
    simp only [List.map_nil, LeapP.cnt] at c1
    simp only [epactref09_Total.l0]
    rw [ref_find9 l has exp d hl G0 k (by omega)]
    simp only [Option.bind_some]
    rw [if_neg (by omega)]; simp [LeapP.tot]
  | cons x rest ih =>
    intro pre a s k e g c1 c2 b0 b1 hk
    simp only [List.length_cons] at hk
    obtain ⟨k, rfl⟩ : ∃ m, k = m + 1 := ⟨k - 1, by omega⟩
    have hlen : l.length = pre.length + (rest.length + 1) := by rw [e]; simp
    have hr : rd_T54 l (pre.length : Int) = x := by rw [e]; exact rd_at pre rest x
    obtain ⟨_, _, _, g4, _, g6⟩ := g
    have e0 : (toL x).day = x.f0 := rfl
    have e1 : (toL x).step = x.f1 := rfl
    rw [e1] at g4
    simp only [List.map_cons, LeapP.cnt, e0] at c1 c2
    simp only [epactref09_Total.l0, List.map_cons, LeapP.tot, e0, e1]
    rw [ref_find9 l has exp d hl G0 k (by omega)]
    simp only [Option.bind_some]
    by_cases h : x.f0 < d
    · simp only [if_pos h] at c1 c2 ⊢
      rw [if_pos (by omega), if_pos (by omega), if_pos (by omega), hr, w64 (by omega) (by omega), w64 (by omega) (by omega)]
      have := ih (pre ++ [x]) (toL x).day (s + x.f1) k (by rw [e]; simp) g6 (by simp; omega) (fun q => by simp; omega) (by simp; omega) (by simp; omega) (by omega)
      simp only [List.length_append, List.length_cons, List.length_nil] at this
      rw [show ((pre.length : Int) + 1) = ((pre.length + (0 + 1) : Nat) : Int) by omega, this]
      congr 1; omega
    · obtain ⟨c0, t0⟩ := LeapP.good_above _ _ d g6 (by rw [e0]; omega)
      simp only [if_neg h, c0] at c1 c2 ⊢
      rw [if_neg (by omega), t0]; simp
theorem ref_total9 (l : List S54) (has : Bool) (exp d : Int) (hl : l.length ≤ 300) (G : LeapP.Good 729 (l.map toL)) (k : Nat) (hk : 700 < k) : epactref09_Total.f k l has exp d = some (LeapP.tot (l.map toL) d) := by
  unfold epactref09_Total.f
  have := ref_total_loop9 l has exp d hl G l [] 729 0 k rfl G (by simp) (fun _ => by simp) (by simp) (by simp) (by omega)
  simpa using this
/-- records that have no table -/
theorem ref_table_no (m : List S40) (hm : m.length ≤ 300) (hw : WR m) (ne : ∀ l has exp, okT l has exp = true → m ≠ full l has exp) (k : Nat) (hk : 11000 < k) : epactref22_table.f k m = some ([], false, 0, false) := by
  unfold epactref22_table.f
  rw [ref_rright_law m (by omega) hw k (by omega)]
  simp only [Option.bind_some]
  cases h : ((RecP.check (m.map toR)).2 == 0) with
  | false => simp
  | true =>
    obtain ⟨hr, hn⟩ := rrn_of h
    simp only [if_true]
    rw [ref_rtable_law m hr.1 hn k (by omega)]
    rcases table_cases m hr hw hn k (by omega) with ⟨e, _⟩ | ⟨l, has, exp, e, ho, rfl⟩
    · rw [rtable_law m (by omega) hr.1 hn k (by omega)] at e
      rw [e]; rfl
    · exact absurd rfl (ne l has exp ho)
section
variable {l : List S54} {has : Bool} {exp : Int} (ho : okT l has exp = true)
include ho
theorem ref_table_full (k : Nat) (hk : 11000 < k) : epactref22_table.f k (full l has exp) = some (l, has, exp, true) := by
  obtain ⟨h1, h2, h3⟩ := full_rr ho
  unfold epactref22_table.f
  rw [ref_rright_law _ (by omega) (full_wr ho) k (by omega), h3]
  simp only [Option.bind_some, beq_self_eq_true, if_true]
  have e := full_table_law ho k (by omega)
  rw [rtable_law _ (by omega) h1.1 h2 k (by omega)] at e
  rw [ref_rtable_law _ h1.1 h2 k (by omega), e]; rfl
theorem ref_end_full (k : Nat) (hk : 11000 < k) : epactref22_End.f k (full l has exp) = some (if has = true then (ScaleP.fin (l.map toL) exp, true) else (0, false)) := by
  unfold epactref22_End.f
  have tt := ttots ho
  have te := texp ho
  rw [ref_table_full ho k hk, ref_rexpiry_law _ (by have := (full_rr ho).2.1; omega), (lpf ho).2]
  simp only [Option.bind_some, if_true]
  unfold ScaleP.fin
  cases has with
  | true =>
    have := te rfl
    simp only [if_true, exOf]
    rw [w64 (by omega) (by omega)]
  | false => simp [exOf]
/-- what is told of a second with its day -/
theorem ref_utc_loop (t : Int) (ht : I64 t) (d sec : Int) (hA : ScaleP.At (l.map toL) t d sec) (rest : List S54) : ∀ (pre : List S54) (left d0 : Int) (k : Nat), l = pre ++ rest → 730 ≤ d0 → d0 ≤ 2932896 → 0 ≤ left → left ≤ t → ScaleP.beg (l.map toL) d0 + left = t + 63072000 → LeapP.Good (d0 - 1) (rest.map toL) → (∀ x ∈ pre, x.f0 < d0) → rest.length < k →
    epactref22_Utc.l0 k left d0 (pre.length : Int) l has exp = some (if d > 2932896 then (0, 0, 9) else (d, sec, 0)) := by
  have G := tG ho
  have ln := okT_len ho
  unfold I64 at ht
  have flat : ∀ (left d0 e : Int), 730 ≤ d0 → 0 ≤ left → ScaleP.beg (l.map toL) d0 + left = t + 63072000 → d0 + left / 86400 < e → (∀ x ∈ l.map toL, x.day < d0 ∨ e ≤ x.day) → d = d0 + left / 86400 ∧ sec = left % 86400 := by
    intro left d0 e h0 h1 h2 h3 h4
    have := ScaleP.at_flat _ t d0 left e h0 h1 h2 h3 h4
    have := ScaleP.at_uniq _ G t _ _ _ _ hA this
    exact this
  induction rest with
  | nil =>
    intro pre left d0 k e h0 h00 hl hlt hb g hp hk
    obtain ⟨k, rfl⟩ : ∃ m, k = m + 1 := ⟨k - 1, by omega⟩
    have len : l.length = pre.length := by rw [e]; simp
    obtain ⟨e1, e2⟩ := flat left d0 (d0 + left / 86400 + 1) h0 hl hb (by omega) (fun x hx => by
      obtain ⟨y, hy, rfl⟩ := List.mem_map.1 hx
      rw [e] at hy
      exact .inl (hp y (by simpa using hy)))
    simp only [epactref22_Utc.l0]
    rw [if_neg (by omega), td hl, tm hl, w64 (n := left / 86400) (by omega) (by omega), w64 (by omega) (by omega), ← e1, ← e2]
    split <;> rfl
  | cons x rest ih =>
    intro pre left d0 k e h0 h00 hl hlt hb g hp hk
    simp only [List.length_cons] at hk
    obtain ⟨k, rfl⟩ : ∃ m, k = m + 1 := ⟨k - 1, by omega⟩
    have hlen : l.length = pre.length + (rest.length + 1) := by rw [e]; simp
    have hr : rd_T54 l (pre.length : Int) = x := by rw [e]; exact rd_at pre rest x
    obtain ⟨g1, g2, g3, g4, g5, g6⟩ := g
    have x0 : (toL x).day = x.f0 := rfl
    have x1 : (toL x).step = x.f1 := rfl
    rw [x0] at g1 g2 g3 g5 g6
    rw [x1] at g4
    have later : ∀ y ∈ rest, x.f0 < y.f0 := by
      intro y hy
      have := (LeapP.good_mem _ _ g6 (toL y) (List.mem_map_of_mem hy)).2.2.2.2
      exact this
    have all : ∀ y ∈ l.map toL, y.day < d0 ∨ x.f0 ≤ y.day := by
      intro y hy
      obtain ⟨z, hz, rfl⟩ := List.mem_map.1 hy
      rw [e] at hz
      rcases List.mem_append.1 hz with hz | hz
      · exact .inl (hp z hz)
      · rcases List.mem_cons.1 hz with rfl | hz
        · exact .inr (Int.le_refl _)
        · have := later z hz; exact .inr (by show x.f0 ≤ z.f0; omega)
    simp only [epactref22_Utc.l0]
    rw [if_pos (by omega), if_pos (by omega), hr, w64 (n := x.f0 - d0) (by omega) (by omega), w64 (n := 86400 * (x.f0 - d0)) (by omega) (by omega)]
    by_cases hq : left < 86400 * (x.f0 - d0)
    · obtain ⟨e1, e2⟩ := flat left d0 x.f0 h0 hl hb (by omega) all
      rw [if_pos hq, td hl, tm hl, w64 (n := left / 86400) (by omega) (by omega), w64 (by omega) (by omega), ← e1, ← e2]
      split <;> rfl
    · rw [if_neg hq]
      have sx : LeapP.stp (l.map toL) x.f0 = x.f1 := by
        have i1 : (l.map toL)[pre.length]? = some (toL x) := by rw [e]; simp
        exact (ScaleP.recs_at _ 729 0 G pre.length _ i1).2
      have bx : ScaleP.beg (l.map toL) x.f0 = ScaleP.beg (l.map toL) d0 + 86400 * (x.f0 - d0) := by
        unfold ScaleP.beg
        rw [ScaleP.tot_same _ x.f0 d0 (fun y hy => by have := all y hy; omega)]; omega
      have bn := ScaleP.beg_step _ G x.f0
      rw [sx, bx] at bn
      rw [w64 (n := left - 86400 * (x.f0 - d0)) (by omega) (by omega), w64 (n := 86400 + x.f1) (by omega) (by omega)]
      by_cases hs : left - 86400 * (x.f0 - d0) < 86400 + x.f1
      · have A2 : ScaleP.At (l.map toL) t x.f0 (left - 86400 * (x.f0 - d0)) := ⟨g1, by omega, by rw [sx]; omega, by rw [bx]; omega⟩
        obtain ⟨e1, e2⟩ := ScaleP.at_uniq _ G t _ _ _ _ hA A2
        rw [if_pos hs, if_neg (by omega), e1, e2]
      · rw [if_neg hs, w64 (n := left - 86400 * (x.f0 - d0) - 86400) (by omega) (by omega), w64 (n := left - 86400 * (x.f0 - d0) - 86400 - x.f1) (by omega) (by omega), w64 (n := x.f0 + 1) (by omega) (by omega), w64 (by omega) (by omega)]
        have := ih (pre ++ [x]) (left - 86400 * (x.f0 - d0) - 86400 - x.f1) (x.f0 + 1) k (by rw [e]; simp) (by omega) (by omega) (by omega) (by omega) (by rw [bn]; omega) (by rw [show x.f0 + 1 - 1 = x.f0 by omega]; exact g6) (fun y hy => by
          rcases List.mem_append.1 hy with hy | hy
          · have := hp y hy; omega
          · simp only [List.mem_singleton] at hy; subst hy; omega) (by omega)
        simp only [List.length_append, List.length_cons, List.length_nil] at this
        rw [show ((pre.length : Int) + 1) = ((pre.length + (0 + 1) : Nat) : Int) by omega]
        exact this
theorem ref_utc_law (t : Int) (ht : I64 t) (h0 : 0 ≤ t) (d sec : Int) (hA : ScaleP.At (l.map toL) t d sec) (k : Nat) (hk : 11100 < k) :
    epactref22_Utc.f k (full l has exp) t = some (ScaleP.utcR has (ScaleP.fin (l.map toL) exp) t d sec) := by
  obtain ⟨k, rfl⟩ : ∃ q, k = q + 1 := ⟨k - 1, by omega⟩
  have G := tG ho
  have ln := okT_len ho
  unfold epactref22_Utc.f
  rw [ref_table_full ho _ (by omega)]
  simp only [Option.bind_some, if_true]
  rw [if_neg (by omega), ref_end_full ho _ (by omega)]
  simp only [Option.bind_some]
  unfold ScaleP.utcR
  have loop : epactref22_Utc.j0 (k + 1) t false l has exp = some (if d > 2932896 then (0, 0, 9) else (d, sec, 0)) := by
    simp only [epactref22_Utc.j0, Bool.false_eq_true, if_false]
    have := ref_utc_loop ho t ht d sec hA l [] t 730 k rfl (by omega) (by omega) h0 (by omega) (by rw [ScaleP.beg_first _ G 730 (by omega)]; omega) G (fun x hx => absurd hx (by simp)) (by omega)
    simpa using this
  cases has with
  | true =>
    simp only [if_true, true_and]
    by_cases he : ScaleP.fin (l.map toL) exp ≤ t
    · rw [if_pos he, decide_eq_true he]; simp [epactref22_Utc.j0]
    · rw [if_neg he, decide_eq_false he, loop]
  | false =>
    simp only [Bool.false_eq_true, if_false, false_and]
    exact loop
theorem ref_utc_neg (t : Int) (h0 : t < 0) (k : Nat) (hk : 11100 < k) : epactref22_Utc.f k (full l has exp) t = some (0, 0, 9) := by
  unfold epactref22_Utc.f
  rw [ref_table_full ho _ (by omega)]
  simp only [Option.bind_some, if_true]
  rw [if_pos h0]
theorem ref_tai_law (d sec : Int) (hs : I64 sec) (k : Nat) (hk : 11100 < k) : epactref22_Tai.f k (full l has exp) d sec = some (ScaleP.taiR (l.map toL) has exp d sec) := by
  obtain ⟨k, rfl⟩ : ∃ q, k = q + 1 := ⟨k - 1, by omega⟩
  have G := tG ho
  have ln := okT_len ho
  unfold epactref22_Tai.f ScaleP.taiR
  rw [ref_table_full ho _ (by omega)]
  simp only [Option.bind_some, if_true]
  have j9 : epactref22_Tai.j0 (k + 1) (full l has exp) d sec true l has exp = some (0, 9) := by simp [epactref22_Tai.j0]
  rw [j9]
  by_cases h1 : d < 730
  · rw [if_pos h1, if_pos (by omega)]
  · rw [if_neg h1]
    by_cases h2 : d > 2932896
    · rw [if_pos h2, if_pos (by omega)]
    · rw [if_neg h2]
      by_cases h3 : sec < 0
      · rw [if_pos h3, if_pos (by omega)]
      · rw [if_neg h3]
        by_cases h4 : sec > 86400
        · rw [decide_eq_true h4, j9, if_pos (by omega)]
        · rw [decide_eq_false h4, if_neg (by omega)]
          simp only [epactref22_Tai.j0, Bool.false_eq_true, if_false]
          rw [ref_length9 l has exp d (by omega) G _ (by omega)]
          simp only [Option.bind_some]
          by_cases h5 : sec ≥ 86400 + LeapP.stp (l.map toL) d
          · rw [if_pos h5, if_pos h5]
          · rw [if_neg h5, if_neg h5, ref_total9 l has exp d (by omega) G _ (by omega), ref_end_full ho _ (by omega)]
            simp only [Option.bind_some]
            have bn := ScaleP.beg_near _ G (tl ho) d
            have bg : ScaleP.beg (l.map toL) d = d * 86400 + LeapP.tot (l.map toL) d := rfl
            rw [bg] at bn ⊢
            rw [w64 (n := d - 730) (by omega) (by omega), w64 (n := 86400 * (d - 730)) (by omega) (by omega), w64 (n := 86400 * (d - 730) + LeapP.tot (l.map toL) d) (by omega) (by omega), w64 (by omega) (by omega)]
            rw [show 86400 * (d - 730) + LeapP.tot (l.map toL) d + sec = d * 86400 + LeapP.tot (l.map toL) d + sec - 63072000 by omega]
            cases has with
            | true =>
              simp only [if_true, true_and]
              by_cases he : ScaleP.fin (l.map toL) exp ≤ d * 86400 + LeapP.tot (l.map toL) d + sec - 63072000
              · rw [if_pos he, if_pos he]
              · rw [if_neg he, if_neg (by omega)]
            | false => simp
end
/-- of records without a table the reference tells nothing -/
theorem ref_utc_no (m : List S40) (t : Int) (k : Nat) (h : epactref22_table.f k m = some ([], false, 0, false)) : epactref22_Utc.f k m t = some (0, 0, 1) := by
  unfold epactref22_Utc.f; rw [h]; simp
theorem ref_tai_no (m : List S40) (d sec : Int) (k : Nat) (h : epactref22_table.f k m = some ([], false, 0, false)) : epactref22_Tai.f k m d sec = some (0, 1) := by
  unfold epactref22_Tai.f; rw [h]; simp
end Go.Proofs.Ytlfnkamhokfeaaa.Pure
