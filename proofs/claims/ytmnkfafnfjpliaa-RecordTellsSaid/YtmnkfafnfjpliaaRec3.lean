/- Records of right tables, and tables of right records. -/
import Derived.Test.YtmnkfafnfjpliaaRec2
import Derived.Test.YtmnkfafnfjpliaaScaleP
import Derived.Test.YtmnkfafnfjpliaaPAllx8
import Derived.Test.YtmnkfafnfjpliaaPAllx7
namespace Go.Proofs.Ytmnkfafnfjpliaa.Pure
open Go.RowKit Go.Proofs.Ytmnkfafnfjpliaa.PAll Go.Proofs.YtmnkfafnfjpliaaW.PrintWords Go.Proofs.YtmnkfafnfjpliaaW.PrintLast
set_option linter.unusedVariables false
theorem few_law (l : List S47) (has : Bool) (exp : Int) : epactlaw09_Few.f l has exp = some (decide ((l.length : Int) ≤ 300)) := rfl
theorem rrn_of {l : List S44} (h : ((RecP.check (l.map toR)).2 == 0) = true) : RecP.Right (l.map toR) ∧ l.length ≤ 201 := by
  have r := (RecP.check_right _).1 (by simpa using h)
  refine ⟨r, ?_⟩
  have := r.2.2; rwa [List.length_map] at this
/-- the records of a table, as the program holds them -/
def full (l : List S47) (has : Bool) (exp : Int) : List S44 := (RecP.full (l.map toL) has exp).map frR
theorem full_map (l : List S47) (has : Bool) (exp : Int) : (full l has exp).map toR = RecP.full (l.map toL) has exp := toR_frR _
theorem full_rr {l : List S47} {has : Bool} {exp : Int} (h : okT l has exp = true) : RecP.Right ((full l has exp).map toR) ∧ (full l has exp).length ≤ 201 ∧ (RecP.check ((full l has exp).map toR)).2 = 0 := by
  have R := ((okT_iff l has exp).1 h).1
  have F := RecP.full_right _ _ _ R
  rw [full_map]
  refine ⟨F, ?_, (RecP.check_right _).2 F⟩
  have := F.2.2; unfold full; rwa [List.length_map]
theorem full_at {l : List S47} {has : Bool} {exp : Int} (h : okT l has exp = true) : ∀ c ∈ (full l has exp).map toR, c.at_ ≤ 9223372036854775807 := by
  intro c hc
  rw [full_map] at hc
  have := ScaleP.full_bd _ _ _ ((okT_iff l has exp).1 h).1 c hc
  omega
theorem right_mem {l : List RecP.R} (h : RecP.Right l) : ∀ c ∈ l, 0 ≤ c.at_ ∧ -400 ≤ c.corr ∧ c.corr ≤ 400 := by
  obtain ⟨h1, h2, h3⟩ := h
  have sp := RecP.lp_split l RecP.start
  have sc : RecP.start.corr = 0 := rfl
  have ll := RecP.lp_len l RecP.start
  rw [sc] at sp ll
  have cb := RecP.G_corr _ _ h1
  rw [sc] at cb
  have lb := RecP.lastR_bd _ h1
  intro c hc
  rw [sp] at hc
  rcases List.mem_append.1 hc with hc | hc
  · have := RecP.G_mem _ _ h1 c hc
    have := cb c hc
    omega
  · cases he : RecP.ex 0 l with
    | none => rw [he] at hc; simp at hc
    | some e =>
      rw [he] at hc
      simp only [List.mem_singleton] at hc
      subst hc
      have := h2 e he
      exact ⟨this.1, by simp only; omega, by simp only; omega⟩
theorem wr_right {l : List S44} (h : RecP.Right (l.map toR)) (hb : ∀ c ∈ l.map toR, c.at_ ≤ 9223372036854775807) : WR l := by
  intro x hx
  have a := right_mem h (toR x) (List.mem_map_of_mem hx)
  have b := hb (toR x) (List.mem_map_of_mem hx)
  have e0 : (toR x).at_ = x.f0 := rfl
  have e1 : (toR x).corr = x.f1 := rfl
  rw [e0, e1] at a
  rw [e0] at b
  unfold I64; omega
theorem full_wr {l : List S47} {has : Bool} {exp : Int} (h : okT l has exp = true) : WR (full l has exp) := wr_right (full_rr h).1 (full_at h)
theorem full_right_law {l : List S47} {has : Bool} {exp : Int} (h : okT l has exp = true) (k : Nat) (hk : 900 < k) : record_Right.f k (full l has exp) = some true := by
  obtain ⟨h1, h2, h3⟩ := full_rr h
  rw [rright_law _ (by omega) (full_wr h) k (by omega), h3]; rfl
theorem full_table_law {l : List S47} {has : Bool} {exp : Int} (h : okT l has exp = true) (k : Nat) (hk : 900 < k) : record_Table.f k (full l has exp) = some (l, has, exp, true) := by
  obtain ⟨h1, h2, h3⟩ := full_rr h
  have o := (okT_iff l has exp).1 h
  rw [rtable_law _ (by omega) h1.1 h2 k hk, (RecP.table_iff _ h1 (full_at h) _ _ _).2 ⟨o.1, o.2, full_map l has exp⟩]
  simp only [tabOut, frL_toL]
/-- the table of right records -/
theorem table_cases (m : List S44) (hr : RecP.Right (m.map toR)) (hw : WR m) (hn : m.length ≤ 201) (k : Nat) (hk : 900 < k) :
    record_Table.f k m = some ([], false, 0, false) ∧ (∀ l has exp, okT l has exp = true → m ≠ full l has exp) ∨ ∃ l has exp, record_Table.f k m = some (l, has, exp, true) ∧ okT l has exp = true ∧ m = full l has exp := by
  rw [rtable_law m (by omega) hr.1 hn k hk]
  cases ht : RecP.table (m.map toR) with
  | none =>
    refine .inl ⟨rfl, fun l has exp ho e => ?_⟩
    have o := (okT_iff l has exp).1 ho
    have := (RecP.table_iff _ hr (wr_at hw) _ _ _).2 ⟨o.1, o.2, by rw [e]; exact full_map l has exp⟩
    rw [ht] at this; exact absurd this (by simp)
  | some t =>
    obtain ⟨xs, has, exp⟩ := t
    obtain ⟨a, b, c⟩ := (RecP.table_iff _ hr (wr_at hw) _ _ _).1 ht
    refine .inr ⟨xs.map frL, has, exp, rfl, (okT_iff _ _ _).2 ⟨by rw [toL_frL]; exact a, by rw [toL_frL]; exact b⟩, ?_⟩
    apply mapR_inj
    rw [full_map, toL_frL]; exact c
theorem okT_len {l : List S47} {has : Bool} {exp : Int} (h : okT l has exp = true) : l.length ≤ 200 := by
  have := ((okT_iff l has exp).1 h).1.2.1; rwa [List.length_map] at this
theorem ref09_same_loop (l rest : List S47) (hl : l.length ≤ 9223372036854775806) (has : Bool) (exp : Int) : ∀ (pre : List S47) (k : Nat), l = pre ++ rest → rest.length < k →
    epactref09_Same.l0 k (pre.length : Int) l has exp l has exp = some true := by
  induction rest with
  | nil =>
    intro pre k e hk
    obtain ⟨k, rfl⟩ : ∃ m, k = m + 1 := ⟨k - 1, by omega⟩
    have : l.length = pre.length := by rw [e]; simp
    simp only [epactref09_Same.l0]
    rw [if_neg (by omega)]
  | cons x rest ih =>
    intro pre k e hk
    simp only [List.length_cons] at hk
    obtain ⟨k, rfl⟩ : ∃ m, k = m + 1 := ⟨k - 1, by omega⟩
    have hlen : l.length = pre.length + (rest.length + 1) := by rw [e]; simp
    have := ih (pre ++ [x]) k (by rw [e]; simp) (by omega)
    simp only [List.length_append, List.length_cons, List.length_nil] at this
    simp only [epactref09_Same.l0]
    rw [if_pos (by omega), if_pos (by omega), if_pos (by omega)]
    rw [w64 (n := (pre.length : Int) + 1) (by omega) (by omega), show ((pre.length : Int) + 1) = ((pre.length + (0 + 1) : Nat) : Int) by omega, this]
    simp
theorem ref09_same_self (l : List S47) (has : Bool) (exp : Int) (hl : l.length ≤ 300) (k : Nat) (hk : 310 < k) : epactref09_Same.f k l has exp l has exp = some true := by
  obtain ⟨k, rfl⟩ : ∃ m, k = m + 1 := ⟨k - 1, by omega⟩
  have h3 : (has != has) = false := by simp
  have h4 : (exp != exp) = false := by simp
  unfold epactref09_Same.f
  rw [if_pos rfl, h3, h4]
  simp only [Bool.false_eq_true, if_false, epactref09_Same.j0]
  exact ref09_same_loop l l (by omega) has exp [] k rfl (by omega)
theorem rsame_self (a : List S44) (hl : a.length ≤ 300) (k : Nat) (hk : 310 < k) : record_Same.f k a a = some true := by
  rw [rsame_law a a (by omega) k (by omega), (sameR_iff a a).2 rfl]
theorem okT_right {l : List S47} {has : Bool} {exp : Int} (h : okT l has exp = true) (k : Nat) (hk : 900 < k) : leap_Right.f k l has exp = some true := by
  have := okT_len h
  have R := ((okT_iff l has exp).1 h).1
  rw [right_law l has exp (by omega) k (by omega), (LeapP.check_right _ _ _).2 R]; rfl
end Go.Proofs.Ytmnkfafnfjpliaa.Pure
