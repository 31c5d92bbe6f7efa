/- What the printed functions of the package record tell, in the words of plain lists. -/
import Derived.Test.YtlfnkamhokfeaaaRecP
import Derived.Test.YtlfnkamhokfeaaaLeapC
import Derived.Test.YtlfnkamhokfeaaaPAllx1
import Derived.Test.YtlfnkamhokfeaaaPAllx2
import Derived.Test.YtlfnkamhokfeaaaPAllx4
import Derived.Test.YtlfnkamhokfeaaaPAllx5
import Derived.Test.YtlfnkamhokfeaaaPAllx3
namespace Go.Proofs.Ytlfnkamhokfeaaa.Pure
open Go.RowKit Go.Proofs.Ytlfnkamhokfeaaa.PAll Go.Proofs.YtlfnkamhokfeaaaW.PrintWords Go.Proofs.YtlfnkamhokfeaaaW.PrintLast
set_option linter.unusedVariables false
set_option linter.unusedSimpArgs false
def toR (x : S40) : RecP.R := ⟨x.f0, x.f1⟩
def WR (l : List S40) : Prop := ∀ x ∈ l, I64 x.f0 ∧ I64 x.f1
theorem wr_of {l : List S40} (h : ∀ x ∈ l, (Lit.int .i64 x.f0).wf = true ∧ (Lit.int .i64 x.f1).wf = true) : WR l := fun x hx => ⟨i64_of (h x hx).1, i64_of (h x hx).2⟩
theorem wr_take {l : List S40} (n : Nat) (h : WR l) : WR (l.take n) := fun x hx => h x (List.mem_of_mem_take hx)
theorem wr_at {l : List S40} (h : WR l) : ∀ c ∈ l.map toR, c.at_ ≤ 9223372036854775807 := by
  intro c hc
  obtain ⟨x, hx, rfl⟩ := List.mem_map.1 hc
  exact (h x hx).1.2
theorem toR_inj {x y : S40} (h : toR x = toR y) : x = y := by
  cases x; cases y; simp only [toR, RecP.R.mk.injEq] at h; obtain ⟨rfl, rfl⟩ := h; rfl
theorem mapR_inj : ∀ {a b : List S40}, a.map toR = b.map toR → a = b := by
  intro a
  induction a with
  | nil => intro b h; cases b with | nil => rfl | cons y b => simp at h
  | cons x a ih =>
    intro b h
    cases b with
    | nil => simp at h
    | cons y b => simp only [List.map_cons, List.cons.injEq] at h; rw [toR_inj h.1, ih h.2]
theorem rdr_at (pre rest : List S40) (x : S40) : rd_T40 (pre ++ x :: rest) (pre.length : Int) = x := by
  unfold rd_T40; simp
theorem sub_law (a b : Int) (ha : I64 a) (hb : I64 b) : num_Sub.f a b = some (if -9223372036854775808 ≤ a - b ∧ a - b ≤ 9223372036854775807 then (a - b, true) else (0, false)) := by
  unfold I64 at *
  unfold num_Sub.f
  have w : wrap64 (a - b) = if -9223372036854775808 ≤ a - b ∧ a - b ≤ 9223372036854775807 then a - b else if a - b < -9223372036854775808 then a - b + 18446744073709551616 else a - b - 18446744073709551616 := by
    unfold wrap64; split
    · omega
    · split <;> omega
  by_cases h : -9223372036854775808 ≤ a - b ∧ a - b ≤ 9223372036854775807
  · rw [if_pos h] at w
    rw [if_pos h, w]
    by_cases h0 : b = 0
    · simp [h0]
    · rw [if_neg]
      by_cases h1 : b > 0
      · rw [decide_eq_true h1, decide_eq_true (by omega)]; simp
      · rw [decide_eq_false h1, decide_eq_false (by omega)]; simp
  · rw [if_neg h] at w
    rw [if_neg h]
    have h0 : ¬ b = 0 := by omega
    rw [if_pos, if_neg h0]
    by_cases h1 : b > 0
    · rw [if_pos (by omega)] at w; rw [w, decide_eq_true h1, decide_eq_false (by omega)]; rfl
    · rw [if_neg (by omega)] at w; rw [w, decide_eq_false h1, decide_eq_true (by omega)]; rfl
theorem isEmpty_last {α : Type} (rest : List α) (n m : Nat) (h : m = n + (rest.length + 1)) (hm : m ≤ 9223372036854775807) : ((n : Int) == wrap64 ((m : Int) - 1)) = rest.isEmpty := by
  rw [w64 (by omega) (by omega)]
  cases rest with
  | nil => simp only [List.length_nil] at h; simp; omega
  | cons x r => simp only [List.length_cons] at h; simp; omega
/-- one round of Check -/
theorem rcheck_round (l : List S40) (i : Nat) (hi : i < l.length) (hl : l.length ≤ 9223372036854775806) (a b : Int) (k : Nat) (hb : I64 b)
    (ha : (i : Int) > 0 → 0 ≤ a ∧ I64 a) (c : S40) (hc : rd_T40 l (i : Int) = c) (hw : I64 c.f0 ∧ I64 c.f1) (last : Bool) (hlast : ((i : Int) == wrap64 ((l.length : Int) - 1)) = last) :
    record_Check.l0 (k + 4) l l (l.length : Int) (i : Int) a b = if RecP.wr i ⟨a, b⟩ (toR c) last = 0 then record_Check.l0 k l l (l.length : Int) ((i : Int) + 1) c.f0 c.f1 else some ((i : Int), RecP.wr i ⟨a, b⟩ (toR c) last) := by
  have e0 : (toR c).at_ = c.f0 := rfl
  have e1 : (toR c).corr = c.f1 := rfl
  generalize hN : record_Check.l0 k l l (l.length : Int) ((i : Int) + 1) c.f0 c.f1 = N
  unfold record_Check.l0
  rw [if_pos (by omega), if_pos (by omega), if_pos (by omega), hc, sub_law _ _ hw.2 hb, hlast]
  simp only [Option.bind_some]
  unfold I64 at hw hb ha
  have h3 : 0 ≤ c.f0 → ∀ (g : Int) (t : Bool), record_Check.j3 (k + 1) l i g l (l.length : Int) i t a b c.f0 c.f1 = if t = true then some ((i : Int), 6) else if (i : Int) > 0 ∧ c.f0 - a < g then some ((i : Int), 7) else N := by
    intro h0 g t
    cases t with
    | true => simp [record_Check.j3]
    | false =>
      simp only [Bool.false_eq_true, if_false, record_Check.j3]
      rw [w64 (n := (i : Int) + 1) (by omega) (by omega), hN]
      by_cases h1 : (i : Int) > 0
      · have := ha h1
        rw [if_pos h1, w64 (by omega) (by omega)]
        by_cases h2 : c.f0 - a < g
        · rw [if_pos h2, if_pos ⟨h1, h2⟩]
        · rw [if_neg h2, if_neg (by omega)]
      · rw [if_neg h1, if_neg (by omega)]
  have h2 : ∀ (st g : Int) (ok exp : Bool), (exp = true → ok = true ∧ st = 0) → record_Check.j2 (k + 2) l i st ok exp g l (l.length : Int) i a b c.f0 c.f1 =
      if (i : Int) > 200 then some ((i : Int), 8) else if c.f0 < 0 then some ((i : Int), 9) else if exp = false ∧ ¬ (ok = true ∧ (st = 1 ∨ st = -1)) then some ((i : Int), 6) else if (i : Int) > 0 ∧ c.f0 - a < g then some ((i : Int), 7) else N := by
    intro st g ok exp hx
    unfold record_Check.j2
    by_cases q1 : (i : Int) > 200
    · rw [if_pos q1, if_pos q1]
    · rw [if_neg q1, if_neg q1]
      by_cases q2 : c.f0 < 0
      · rw [if_pos q2, if_pos q2]
      · rw [if_neg q2, if_neg q2]
        have h3 := h3 (by omega)
        cases exp with
        | true =>
          rw [if_pos rfl, h3]
          simp only [Bool.false_eq_true, if_false, Bool.true_eq_false, false_and]
        | false =>
          rw [if_neg (by simp)]
          simp only [true_and]
          cases ok with
          | false => rw [if_neg (by simp), h3]; simp
          | true =>
            rw [if_pos rfl]
            simp only [true_and]
            by_cases q3 : st = 1
            · rw [if_pos q3, if_neg (fun h => h (.inl q3)), h3]; simp
            · rw [if_neg q3, h3]
              by_cases q4 : st = -1
              · rw [if_neg (show ¬ ¬ (st = 1 ∨ st = -1) from fun h => h (.inr q4))]
                simp [q4]
              · rw [if_pos (show ¬ (st = 1 ∨ st = -1) by omega)]
                simp [q4]
  have h1 : ∀ (st : Int) (ok exp : Bool), (exp = true → ok = true ∧ st = 0) → record_Check.j1 (k + 3) l i st ok exp l (l.length : Int) i a b c.f0 c.f1 =
      if (i : Int) > 200 then some ((i : Int), 8) else if c.f0 < 0 then some ((i : Int), 9) else if exp = false ∧ ¬ (ok = true ∧ (st = 1 ∨ st = -1)) then some ((i : Int), 6) else if (i : Int) > 0 ∧ c.f0 - a < (if exp = true then 0 else 2419199) then some ((i : Int), 7) else N := by
    intro st ok exp hx
    unfold record_Check.j1
    cases exp with
    | true => rw [if_pos rfl, h2 st 0 ok true hx]; simp
    | false => rw [if_neg (by simp), h2 st 2419199 ok false hx]; simp
  unfold RecP.wr
  rw [e0, e1]
  simp only
  by_cases hs : -9223372036854775808 ≤ c.f1 - b ∧ c.f1 - b ≤ 9223372036854775807
  · rw [if_pos hs]
    simp only [if_true]
    by_cases hz : c.f1 - b = 0
    · rw [if_pos hz, h1 _ _ _ (fun _ => ⟨rfl, hz⟩)]
      have hz' : c.f1 = b := by omega
      cases last with
      | true =>
        simp only [hz', true_and, if_true, not_true_eq_false, false_and, if_false, Bool.true_eq_false]
        by_cases q1 : (i : Int) > 200
        · simp [q1]
        · by_cases q2 : c.f0 < 0
          · simp [q1, q2]
          · by_cases q3 : (i : Int) > 0 ∧ c.f0 - a < 0
            · simp only [if_neg q1, if_neg q2, if_pos q3]; simp
            · simp only [if_neg q1, if_neg q2, if_neg q3]; simp
      | false =>
        have z6 : ¬ (true = true ∧ (c.f1 - b = 1 ∨ c.f1 - b = -1)) := by rintro ⟨_, h⟩; omega
        have z7 : ¬ (false = true ∧ c.f1 = b) ∧ c.f1 - b ≠ 1 ∧ c.f1 - b ≠ -1 := ⟨by simp, by omega, by omega⟩
        rw [if_pos (show false = false ∧ ¬ (true = true ∧ (c.f1 - b = 1 ∨ c.f1 - b = -1)) from ⟨rfl, z6⟩), if_pos z7]
        by_cases q1 : (i : Int) > 200
        · simp [q1]
        · by_cases q2 : c.f0 < 0
          · simp [q1, q2]
          · simp [q1, q2]
    · rw [if_neg hz, h1 _ _ _ (by simp)]
      have hz' : ¬ (last = true ∧ c.f1 = b) := by rintro ⟨_, h⟩; omega
      simp only [if_neg hz', Bool.false_eq_true, if_false, true_and]
      by_cases q1 : (i : Int) > 200
      · simp [q1]
      · by_cases q2 : c.f0 < 0
        · simp [q1, q2]
        · by_cases q4 : c.f1 - b = 1 ∨ c.f1 - b = -1
          · rw [if_neg q1, if_neg q2, if_neg (fun h => h q4)]
            have q5 : ¬ (¬ (last = true ∧ c.f1 = b) ∧ c.f1 - b ≠ 1 ∧ c.f1 - b ≠ -1) := by rintro ⟨_, h, h'⟩; omega
            simp only [if_neg q1, if_neg q2, if_neg q5]
            by_cases q3 : (i : Int) > 0 ∧ c.f0 - a < 2419199
            · simp only [if_pos q3]; simp
            · simp only [if_neg q3]; simp
          · rw [if_neg q1, if_neg q2, if_pos q4]
            have q5 : (¬ (last = true ∧ c.f1 = b) ∧ c.f1 - b ≠ 1 ∧ c.f1 - b ≠ -1) := ⟨hz', by omega, by omega⟩
            simp only [if_neg q1, if_neg q2, if_pos q5]; simp
  · rw [if_neg hs]
    simp only [Bool.false_eq_true, if_false]
    rw [h1 _ _ _ (by simp)]
    have hz' : ¬ (last = true ∧ c.f1 = b) := by rintro ⟨_, h⟩; omega
    have q5 : (¬ (last = true ∧ c.f1 = b) ∧ c.f1 - b ≠ 1 ∧ c.f1 - b ≠ -1) := ⟨hz', by omega, by omega⟩
    simp only [if_pos q5, Bool.false_eq_true, false_and, not_false_eq_true, true_and, if_true]
    by_cases q1 : (i : Int) > 200
    · simp [q1]
    · by_cases q2 : c.f0 < 0
      · simp [q1, q2]
      · simp [q1, q2]
theorem rcheck_loop (l : List S40) (hl : l.length ≤ 9223372036854775806) (hw : WR l) (rest : List S40) : ∀ (pre : List S40) (a b : Int) (k : Nat), l = pre ++ rest → I64 b → ((pre.length : Int) > 0 → 0 ≤ a ∧ I64 a) → 4 * rest.length < k →
    record_Check.l0 k l l (l.length : Int) (pre.length : Int) a b = some (RecP.chk (rest.map toR) pre.length ⟨a, b⟩) := by
  induction rest with
  | nil =>
    intro pre a b k e _ _ hk
    obtain ⟨k, rfl⟩ : ∃ m, k = m + 1 := ⟨k - 1, by omega⟩
    have : l.length = pre.length := by rw [e]; simp
    simp only [record_Check.l0, List.map_nil, RecP.chk]
    rw [if_neg (by omega), this]
  | cons x rest ih =>
    intro pre a b k e hb ha hk
    simp only [List.length_cons] at hk
    obtain ⟨k, rfl⟩ : ∃ m, k = m + 4 := ⟨k - 4, by omega⟩
    have hlen : l.length = pre.length + (rest.length + 1) := by rw [e]; simp
    have hr : rd_T40 l (pre.length : Int) = x := by rw [e]; exact rdr_at pre rest x
    have hx := hw x (by rw [e]; simp)
    rw [rcheck_round l pre.length (by omega) hl a b k hb ha x hr hx rest.isEmpty (isEmpty_last rest _ _ hlen (by omega))]
    simp only [List.map_cons, RecP.chk]
    have em : (rest.map toR).isEmpty = rest.isEmpty := by cases rest <;> rfl
    rw [em]
    by_cases w : RecP.wr pre.length ⟨a, b⟩ (toR x) rest.isEmpty = 0
    · rw [if_pos w, if_pos w]
      have w' := (RecP.wr_zero _ _ _ _).1 w
      have h0 : (toR x).at_ = x.f0 := rfl
      have := ih (pre ++ [x]) x.f0 x.f1 k (by rw [e]; simp) hx.2 (fun _ => ⟨by rw [← h0]; exact w'.2.1, hx.1⟩) (by omega)
      simp only [List.length_append, List.length_cons, List.length_nil] at this
      rw [show ((pre.length : Int) + 1) = ((pre.length + (0 + 1) : Nat) : Int) by omega, this]
      rw [show ((pre.length + (0 + 1) : Nat) : Int) = (pre.length : Int) + 1 by omega]
      rfl
    · rw [if_neg w, if_neg w]
theorem rcheck_law (l : List S40) (hl : l.length ≤ 9223372036854775806) (hw : WR l) (k : Nat) (hk : 4 * l.length < k) : record_Check.f k l = some (RecP.check (l.map toR)) := by
  unfold record_Check.f RecP.check
  have := rcheck_loop l hl hw l [] (-2419199) 0 k rfl (by unfold I64; omega) (by simp) hk
  simp only [List.length_nil, Int.natCast_zero] at this
  rw [this]; rfl
theorem rright_law (l : List S40) (hl : l.length ≤ 9223372036854775806) (hw : WR l) (k : Nat) (hk : 4 * l.length < k) : record_Right.f k l = some ((RecP.check (l.map toR)).2 == 0) := by
  unfold record_Right.f
  rw [rcheck_law l hl hw k hk]; rfl
end Go.Proofs.Ytlfnkamhokfeaaa.Pure
