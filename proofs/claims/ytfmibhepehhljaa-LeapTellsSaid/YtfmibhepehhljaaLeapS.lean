/- When two tables are the same; what is added; by the program and by the reference. -/
import Derived.Test.YtfmibhepehhljaaLeapC
import Derived.Test.YtfmibhepehhljaaRef09
import Derived.Test.YtfmibhepehhljaaPAllx3
import Derived.Test.YtfmibhepehhljaaPAllx4
import Derived.Test.YtfmibhepehhljaaPAllx7
namespace Go.Proofs.Ytfmibhepehhljaa.Pure
open Go.RowKit Go.Proofs.Ytfmibhepehhljaa.PAll Go.Proofs.YtfmibhepehhljaaW.PrintWords Go.Proofs.YtfmibhepehhljaaW.PrintLast
set_option linter.unusedVariables false
set_option linter.unusedSimpArgs false
/-- are two leaps other ones? -/
def oth (x y : S26) : Bool := !(x.f0 == y.f0) || (!(x.f1 == y.f1) || (!(x.f2 == y.f2)))
def sam : List S26 → List S26 → Bool
  | x :: l, y :: m => if oth x y = true then false else sam l m
  | _, _ => true
theorem sam_self : ∀ l, sam l l = true
  | [] => rfl
  | x :: l => by simp [sam, oth, sam_self l]
theorem same_loop2 (l m : List S26) (hl : l.length ≤ 9223372036854775806) (rest : List S26) : ∀ (rest' pre pre' : List S26) (k : Nat), l = pre ++ rest → m = pre' ++ rest' → pre.length = pre'.length → rest.length = rest'.length → rest.length < k →
    api_Leap_30.l0 k l m (l.length : Int) (pre.length : Int) = some (sam rest rest') := by
  induction rest with
  | nil =>
    intro rest' pre pre' k e e' hp hr hk
    obtain ⟨k, rfl⟩ : ∃ m, k = m + 1 := ⟨k - 1, by omega⟩
    have : l.length = pre.length := by rw [e]; simp
    have h0 : rest' = [] := List.eq_nil_of_length_eq_zero (by simpa using hr.symm)
    subst h0
    simp only [api_Leap_30.l0]
    rw [if_neg (by omega)]; rfl
  | cons x rest ih =>
    intro rest' pre pre' k e e' hp hr hk
    cases rest' with
    | nil => simp at hr
    | cons y rest' =>
      simp only [List.length_cons] at hk hr
      obtain ⟨k, rfl⟩ : ∃ m, k = m + 1 := ⟨k - 1, by omega⟩
      have hlen : l.length = pre.length + (rest.length + 1) := by rw [e]; simp
      have hlen' : m.length = pre'.length + (rest'.length + 1) := by rw [e']; simp
      have hx : rd_T26 l (pre.length : Int) = x := by rw [e]; exact rd_at pre rest x
      have hy : rd_T26 m (pre.length : Int) = y := by rw [hp, e']; exact rd_at pre' rest' y
      have := ih rest' (pre ++ [x]) (pre' ++ [y]) k (by rw [e]; simp) (by rw [e']; simp) (by simp [hp]) (by omega) (by omega)
      simp only [List.length_append, List.length_cons, List.length_nil] at this
      simp only [api_Leap_30.l0, sam]
      rw [if_pos (by omega), if_pos (by omega), if_pos (by omega), if_pos (by omega), hx, hy]
      rw [w64 (n := (pre.length : Int) + 1) (by omega) (by omega), show ((pre.length : Int) + 1) = ((pre.length + (0 + 1) : Nat) : Int) by omega, this]
      show (if oth x y = true then _ else _) = _
      split <;> rfl
theorem ref_same_loop (l m : List S26) (h1 h2 : Bool) (e1 e2 : Int) (hl : l.length ≤ 9223372036854775806) (rest : List S26) : ∀ (rest' pre pre' : List S26) (k : Nat), l = pre ++ rest → m = pre' ++ rest' → pre.length = pre'.length → rest.length = rest'.length → rest.length < k →
    epactref09_Same.l0 k (pre.length : Int) l h1 e1 m h2 e2 = some (sam rest rest') := by
  induction rest with
  | nil =>
    intro rest' pre pre' k e e' hp hr hk
    obtain ⟨k, rfl⟩ : ∃ m, k = m + 1 := ⟨k - 1, by omega⟩
    have : l.length = pre.length := by rw [e]; simp
    have h0 : rest' = [] := List.eq_nil_of_length_eq_zero (by simpa using hr.symm)
    subst h0
    simp only [epactref09_Same.l0]
    rw [if_neg (by omega)]; rfl
  | cons x rest ih =>
    intro rest' pre pre' k e e' hp hr hk
    cases rest' with
    | nil => simp at hr
    | cons y rest' =>
      simp only [List.length_cons] at hk hr
      obtain ⟨k, rfl⟩ : ∃ m, k = m + 1 := ⟨k - 1, by omega⟩
      have hlen : l.length = pre.length + (rest.length + 1) := by rw [e]; simp
      have hlen' : m.length = pre'.length + (rest'.length + 1) := by rw [e']; simp
      have hx : rd_T26 l (pre.length : Int) = x := by rw [e]; exact rd_at pre rest x
      have hy : rd_T26 m (pre.length : Int) = y := by rw [hp, e']; exact rd_at pre' rest' y
      have := ih rest' (pre ++ [x]) (pre' ++ [y]) k (by rw [e]; simp) (by rw [e']; simp) (by simp [hp]) (by omega) (by omega)
      simp only [List.length_append, List.length_cons, List.length_nil] at this
      simp only [epactref09_Same.l0, sam]
      rw [if_pos (by omega), if_pos (by omega), if_pos (by omega), hx, hy]
      rw [w64 (n := (pre.length : Int) + 1) (by omega) (by omega), show ((pre.length : Int) + 1) = ((pre.length + (0 + 1) : Nat) : Int) by omega, this]
      show (if oth x y = true then _ else _) = _
      split <;> rfl
/-- are two tables the same? -/
def samT (l : List S26) (h1 : Bool) (e1 : Int) (m : List S26) (h2 : Bool) (e2 : Int) : Bool := if h1 = h2 ∧ e1 = e2 ∧ l.length = m.length then sam l m else false
theorem same_law (l m : List S26) (h1 h2 : Bool) (e1 e2 : Int) (hl : l.length ≤ 400) (k : Nat) (hk : 410 < k) : leap_Same.f k l h1 e1 m h2 e2 = some (samT l h1 e1 m h2 e2) := by
  unfold leap_Same.f samT
  by_cases a : h1 = h2
  · rw [if_pos (by simp [a])]
    by_cases b : e1 = e2
    · rw [if_pos b]
      unfold api_Leap_30.f
      by_cases c : l.length = m.length
      · rw [if_pos (by omega), if_pos ⟨a, b, c⟩]
        have := same_loop2 l m (by omega) l m [] [] k rfl rfl rfl c (by omega)
        simp only [List.length_nil, Int.natCast_zero] at this
        rw [this]; rfl
      · rw [if_neg (by omega), if_neg (fun q => c q.2.2)]; rfl
    · rw [if_neg b, if_neg (fun q => b q.2.1)]
  · rw [if_neg (by simpa using a), if_neg (fun q => a q.1)]
theorem ref_same_law (l m : List S26) (h1 h2 : Bool) (e1 e2 : Int) (hl : l.length ≤ 400) (k : Nat) (hk : 410 < k) : epactref09_Same.f k l h1 e1 m h2 e2 = some (samT l h1 e1 m h2 e2) := by
  obtain ⟨k, rfl⟩ : ∃ q, k = q + 1 := ⟨k - 1, by omega⟩
  have hj : epactref09_Same.j0 (k + 1) true l h1 e1 m h2 e2 = some false := by simp [epactref09_Same.j0]
  unfold epactref09_Same.f samT
  by_cases c : l.length = m.length
  · rw [if_pos (by omega)]
    by_cases a : h1 = h2
    · rw [if_neg (by simp [a])]
      by_cases b : e1 = e2
      · have : (e1 != e2) = false := by simp [b]
        rw [this, if_pos ⟨a, b, c⟩]
        simp only [epactref09_Same.j0, Bool.false_eq_true, if_false]
        have := ref_same_loop l m h1 h2 e1 e2 (by omega) l m [] [] k rfl rfl rfl c (by omega)
        simp only [List.length_nil, Int.natCast_zero] at this
        exact this
      · have : (e1 != e2) = true := by simp [b]
        rw [this, hj, if_neg (fun q => b q.2.1)]
    · rw [if_pos (by simpa using a), hj, if_neg (fun q => a q.1)]
  · rw [if_neg (by omega), hj, if_neg (fun q => c q.2.2)]
theorem samT_self (l : List S26) (h : Bool) (e : Int) : samT l h e l h e = true := by
  unfold samT; rw [if_pos ⟨rfl, rfl, rfl⟩, sam_self]
/-- what is added -/
def addR (l : List S26) (has : Bool) (exp a b : Int) (c : Bool) : List S26 × Bool × Int × Int :=
  let e := (LeapP.check ((l ++ [(⟨a, b, c⟩ : S26)]).map toL) has exp).2; if e = 0 then (l ++ [(⟨a, b, c⟩ : S26)], has, exp, 0) else (l, has, exp, e)
theorem add_law (l : List S26) (has : Bool) (exp a b : Int) (c : Bool) (hl : l.length ≤ 300) (k : Nat) (hk : 310 < k) :
    leap_Add.f k l has exp a b c = some (addR l has exp a b c) := by
  have h1 : ([] : List S26).length + l.length < 5864062014805 := by rw [List.length_nil]; omega
  have h2 : (([] : List S26) ++ l).length + [(⟨a, b, c⟩ : S26)].length < 5864062014805 := by rw [List.length_append, List.length_nil, List.length_singleton]; omega
  have h3 := check_law (l ++ [(⟨a, b, c⟩ : S26)]) has exp (by rw [List.length_append, List.length_singleton]; omega) k (by rw [List.length_append, List.length_singleton]; omega)
  unfold leap_Add.f api_Leap_31.f addR
  rw [Option.bind_some, if_pos h1, Option.bind_some, Option.bind_some, if_pos h2, Option.bind_some, List.nil_append, h3, Option.bind_some]
  by_cases h : (LeapP.check ((l ++ [(⟨a, b, c⟩ : S26)]).map toL) has exp).2 = 0
  · rw [if_pos h]; simp only [if_pos h]
  · rw [if_neg h, List.take_left]; simp only [if_neg h]
theorem ref_copy_law (l : List S26) (has : Bool) (exp : Int) (hl : l.length ≤ 300) : epactref09_Copy.f l has exp = some (l, has, exp) := by
  unfold epactref09_Copy.f
  rw [Option.bind_some, if_pos (by rw [List.length_nil]; omega)]; rfl
theorem ref_add_law (l : List S26) (has : Bool) (exp a b : Int) (c : Bool) (hl : l.length ≤ 300) (k : Nat) (hk : 10600 < k) :
    epactref09_Add.f k l has exp a b c = some (addR l has exp a b c) := by
  have h3 := ref_check_law (l ++ [(⟨a, b, c⟩ : S26)]) has exp (by rw [List.length_append, List.length_singleton]; omega) k (by rw [List.length_append, List.length_singleton]; omega)
  unfold epactref09_Add.f addR
  rw [ref_copy_law l has exp hl]
  simp only [Option.bind_some]
  rw [if_pos (by omega), h3]
  simp only [Option.bind_some]
  by_cases h : (LeapP.check ((l ++ [(⟨a, b, c⟩ : S26)]).map toL) has exp).2 = 0
  · rw [if_pos h, if_pos h]
  · rw [if_neg h, if_neg h]
theorem addR_len (l : List S26) (has : Bool) (exp a b : Int) (c : Bool) (hl : l.length ≤ 300) : (addR l has exp a b c).1.length ≤ 301 := by
  unfold addR
  simp only
  split
  · rw [List.length_append, List.length_singleton]; omega
  · exact Nat.le_trans hl (by decide)
end Go.Proofs.Ytfmibhepehhljaa.Pure
