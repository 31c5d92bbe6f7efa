/- Records of right tables, and tables of right records. -/
import Derived.Test.YtlfnkamhokfeaaaRecA
import Derived.Test.YtlfnkamhokfeaaaScaleP
namespace Go.Proofs.Ytlfnkamhokfeaaa.Pure
open Go.RowKit Go.Proofs.Ytlfnkamhokfeaaa.PAll Go.Proofs.YtlfnkamhokfeaaaW.PrintWords Go.Proofs.YtlfnkamhokfeaaaW.PrintLast
set_option linter.unusedVariables false
set_option linter.unusedSimpArgs false
theorem rrn_of {l : List S40} (h : ((RecP.check (l.map toR)).2 == 0) = true) : RecP.Right (l.map toR) ∧ l.length ≤ 201 := by
  have r := (RecP.check_right _).1 (by simpa using h)
  refine ⟨r, ?_⟩
  have := r.2.2; rwa [List.length_map] at this
/-- the records of a table, as the program holds them -/
def full (l : List S54) (has : Bool) (exp : Int) : List S40 := (RecP.full (l.map toL) has exp).map frR
theorem full_map (l : List S54) (has : Bool) (exp : Int) : (full l has exp).map toR = RecP.full (l.map toL) has exp := toR_frR _
theorem full_rr {l : List S54} {has : Bool} {exp : Int} (h : okT l has exp = true) : RecP.Right ((full l has exp).map toR) ∧ (full l has exp).length ≤ 201 ∧ (RecP.check ((full l has exp).map toR)).2 = 0 := by
  have R := ((okT_iff l has exp).1 h).1
  have F := RecP.full_right _ _ _ R
  rw [full_map]
  refine ⟨F, ?_, (RecP.check_right _).2 F⟩
  have := F.2.2; unfold full; rwa [List.length_map]
theorem full_at {l : List S54} {has : Bool} {exp : Int} (h : okT l has exp = true) : ∀ c ∈ (full l has exp).map toR, c.at_ ≤ 9223372036854775807 := by
  intro c hc
  rw [full_map] at hc
  have := ScaleP.full_bd _ _ _ ((okT_iff l has exp).1 h).1 c hc
  omega
theorem right_mem {l : List RecP.R} (h : RecP.Right l) : ∀ c ∈ l, 0 ≤ c.at_ ∧ -400 ≤ c.corr ∧ c.corr ≤ 400 := by
  obtain ⟨h1, h2, h3⟩ := h
  have sp := RecP.lp_split l RecP.start
  have sc : RecP.start.corr = 0 := rfl
  have ll := RecP.lp_len l RecP.start
  rw [sc] at sp ll
  have cb := RecP.G_corr _ _ h1
  rw [sc] at cb
  have lb := RecP.lastR_bd _ h1
  intro c hc
  rw [sp] at hc
  rcases List.mem_append.1 hc with hc | hc
  · have := RecP.G_mem _ _ h1 c hc
    have := cb c hc
    omega
  · cases he : RecP.ex 0 l with
    | none => rw [he] at hc; simp at hc
    | some e =>
      rw [he] at hc
      simp only [List.mem_singleton] at hc
      subst hc
      have := h2 e he
      exact ⟨this.1, by simp only; omega, by simp only; omega⟩
theorem wr_right {l : List S40} (h : RecP.Right (l.map toR)) (hb : ∀ c ∈ l.map toR, c.at_ ≤ 9223372036854775807) : WR l := by
  intro x hx
  have a := right_mem h (toR x) (List.mem_map_of_mem hx)
  have b := hb (toR x) (List.mem_map_of_mem hx)
  have e0 : (toR x).at_ = x.f0 := rfl
  have e1 : (toR x).corr = x.f1 := rfl
  rw [e0, e1] at a
  rw [e0] at b
  unfold I64; omega
theorem full_wr {l : List S54} {has : Bool} {exp : Int} (h : okT l has exp = true) : WR (full l has exp) := wr_right (full_rr h).1 (full_at h)
theorem full_right_law {l : List S54} {has : Bool} {exp : Int} (h : okT l has exp = true) (k : Nat) (hk : 900 < k) : record_Right.f k (full l has exp) = some true := by
  obtain ⟨h1, h2, h3⟩ := full_rr h
  rw [rright_law _ (by omega) (full_wr h) k (by omega), h3]; rfl
theorem full_table_law {l : List S54} {has : Bool} {exp : Int} (h : okT l has exp = true) (k : Nat) (hk : 900 < k) : record_Table.f k (full l has exp) = some (l, has, exp, true) := by
  obtain ⟨h1, h2, h3⟩ := full_rr h
  have o := (okT_iff l has exp).1 h
  rw [rtable_law _ (by omega) h1.1 h2 k hk, (RecP.table_iff _ h1 (full_at h) _ _ _).2 ⟨o.1, o.2, full_map l has exp⟩]
  simp only [tabOut, frL_toL]
/-- the table of right records -/
theorem table_cases (m : List S40) (hr : RecP.Right (m.map toR)) (hw : WR m) (hn : m.length ≤ 201) (k : Nat) (hk : 900 < k) :
    record_Table.f k m = some ([], false, 0, false) ∧ (∀ l has exp, okT l has exp = true → m ≠ full l has exp) ∨ ∃ l has exp, record_Table.f k m = some (l, has, exp, true) ∧ okT l has exp = true ∧ m = full l has exp := by
  rw [rtable_law m (by omega) hr.1 hn k hk]
  cases ht : RecP.table (m.map toR) with
  | none =>
    refine .inl ⟨rfl, fun l has exp ho e => ?_⟩
    have o := (okT_iff l has exp).1 ho
    have := (RecP.table_iff _ hr (wr_at hw) _ _ _).2 ⟨o.1, o.2, by rw [e]; exact full_map l has exp⟩
    rw [ht] at this; exact absurd this (by simp)
  | some t =>
    obtain ⟨xs, has, exp⟩ := t
    obtain ⟨a, b, c⟩ := (RecP.table_iff _ hr (wr_at hw) _ _ _).1 ht
    refine .inr ⟨xs.map frL, has, exp, rfl, (okT_iff _ _ _).2 ⟨by rw [toL_frL]; exact a, by rw [toL_frL]; exact b⟩, ?_⟩
    apply mapR_inj
    rw [full_map, toL_frL]; exact c
theorem okT_len {l : List S54} {has : Bool} {exp : Int} (h : okT l has exp = true) : l.length ≤ 200 := by
  have := ((okT_iff l has exp).1 h).1.2.1; rwa [List.length_map] at this
theorem okT_right {l : List S54} {has : Bool} {exp : Int} (h : okT l has exp = true) (k : Nat) (hk : 900 < k) : leap_Right.f k l has exp = some true := by
  have := okT_len h
  have R := ((okT_iff l has exp).1 h).1
  rw [right_law l has exp (by omega) k (by omega), (LeapP.check_right _ _ _).2 R]; rfl
end Go.Proofs.Ytlfnkamhokfeaaa.Pure
