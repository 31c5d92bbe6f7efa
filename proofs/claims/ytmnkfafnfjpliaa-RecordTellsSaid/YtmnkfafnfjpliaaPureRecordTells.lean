/- RecordTells: records of tables, what is wrong of records, and what is found are the document's answers; any table, any records, any second, any others: no condition. -/
import Derived.Test.YtmnkfafnfjpliaaSmall12
import Derived.Test.YtmnkfafnfjpliaaRef12b
import Derived.Test.YtmnkfafnfjpliaaStmtRecordTells
namespace Go.Proofs.Ytmnkfafnfjpliaa.Pure
open Go.RowKit Go.Proofs.Ytmnkfafnfjpliaa.PAll Go.Proofs.YtmnkfafnfjpliaaW.PrintWords Go.Proofs.YtmnkfafnfjpliaaW.PrintLast
set_option linter.unusedSimpArgs false
theorem tells_j1 (m : List S44) (hm : m.length ≤ 300) (hw : WR m) (t : Int) (k : Nat) (hk : 12000 < k) : epactlaw12_RecordTells.j1 (k + 1) m t true false = some true := by
  obtain ⟨k, rfl⟩ : ∃ q, k = q + 1 := ⟨k - 1, by omega⟩
  simp only [epactlaw12_RecordTells.j1, Bool.false_eq_true, if_false]
  rw [ref_rright_law m (by omega) hw _ (by omega)]
  simp only [Option.bind_some]
  cases h : ((RecP.check (m.map toR)).2 == 0) with
  | false => simp
  | true =>
    obtain ⟨hr, hn⟩ := rrn_of h
    simp only [if_true]
    rw [rexpiry_law m (by omega), ref_rexpiry_law m (by omega), rtable_law m (by omega) hr.1 hn _ (by omega), ref_rtable_law m hr.1 hn _ (by omega)]
    simp only [Option.bind_some, if_true, beq_self_eq_true]
    have len : (tabOut (RecP.table (m.map toR))).1.length ≤ 300 := by
      cases ht : RecP.table (m.map toR) with
      | none => simp [tabOut]
      | some q =>
        obtain ⟨xs, has, exp⟩ := q
        have := ((RecP.table_iff _ hr (wr_at hw) _ _ _).1 ht).1.2.1
        simp only [tabOut, List.length_map]; omega
    rw [ref09_same_self _ _ _ len _ (by omega)]
    simp only [Option.bind_some, if_true]
    rw [rsum_law m (by omega) hr.1, ref_rsum_law m (by omega) hr.1 t _ (by omega), rstep_law m (by omega) hr.1, ref_rstep_law m (by omega) hr.1 t _ (by omega)]
    simp
theorem RecordTells : epactlaw12_RecordTells.Pure := by
  intro l has exp m t other hg hl he hw hm ht ho hlo
  have hw := wr_of hw
  refine ⟨13002, ?_⟩
  unfold epactlaw12_RecordTells.f
  rw [small12 13002 (by omega), few_law]
  simp only [Option.bind_some]
  have out : ∀ k, epactlaw12_RecordTells.j0 (k + 1) m t other true true l has exp = some true := by intro k; simp [epactlaw12_RecordTells.j0]
  by_cases hf : (l.length : Int) ≤ 300
  · rw [decide_eq_true hf, if_pos rfl]
    by_cases h1 : (m.length : Int) > 300
    · rw [if_pos h1]; exact out _
    · rw [if_neg h1]
      by_cases h2 : (other.length : Int) > 300
      · rw [decide_eq_true h2]; exact out _
      · rw [decide_eq_false h2]
        simp only [epactlaw12_RecordTells.j0, Bool.false_eq_true, if_false]
        have rl : ((if okT l has exp = true then ((RecP.full (l.map toL) has exp).map frR, true) else ([], false)) : List S44 × Bool).1.length ≤ 300 := by
          by_cases o : okT l has exp = true
          · rw [if_pos o]; have := (full_rr o).2.1; unfold full at this; simp only; omega
          · rw [if_neg o]; simp
        rw [records_law l has exp (by omega) _ (by omega), ref_records_law l has exp (by omega) _ (by omega), rcheck_law m (by omega) hw _ (by omega), ref_rcheck_law m (by omega) hw _ (by omega)]
        simp only [Option.bind_some]
        rw [ref_rsame_law _ _ (by omega) _ (by omega), (sameR_iff _ _).2 rfl]
        simp only [Option.bind_some, if_true, bne_self_eq_false, Bool.false_eq_true, if_false]
        rw [rright_law m (by omega) hw _ (by omega), ref_rright_law m (by omega) hw _ (by omega)]
        simp only [Option.bind_some, bne_self_eq_false, Bool.false_eq_true, if_false]
        rw [rsame_law m other (by omega) _ (by omega), ref_rsame_law m other (by omega) _ (by omega)]
        simp only [Option.bind_some, bne_self_eq_false]
        exact tells_j1 m (by omega) hw t 13000 (by omega)
  · rw [decide_eq_false hf, if_neg (by simp)]; exact out _
end Go.Proofs.Ytmnkfafnfjpliaa.Pure
