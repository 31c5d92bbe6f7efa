/- RecordBack: tables of UTC and their records are each other's, for any table and any records: no condition. -/
import Derived.Test.YtmnkfafnfjpliaaSmall12
import Derived.Test.YtmnkfafnfjpliaaRec3
import Derived.Test.YtmnkfafnfjpliaaStmtRecordBack
namespace Go.Proofs.Ytmnkfafnfjpliaa.Pure
open Go.RowKit Go.Proofs.Ytmnkfafnfjpliaa.PAll Go.Proofs.YtmnkfafnfjpliaaW.PrintWords Go.Proofs.YtmnkfafnfjpliaaW.PrintLast
theorem back_j1 (m : List S44) (hm : m.length ≤ 300) (hw : WR m) (k : Nat) (hk : 1800 < k) : epactlaw12_RecordBack.j1 (k + 1) m true = some true := by
  simp only [epactlaw12_RecordBack.j1]
  rw [rright_law m (by omega) hw k (by omega)]
  simp only [Option.bind_some]
  cases h : ((RecP.check (m.map toR)).2 == 0) with
  | false => simp
  | true =>
    obtain ⟨hr, hn⟩ := rrn_of h
    simp only [if_true]
    rcases table_cases m hr hw hn k (by omega) with ⟨e, _⟩ | ⟨l, has, exp, e, ho, rfl⟩
    · rw [e]
      simp only [Option.bind_some, Bool.false_eq_true, if_false]
      rw [ref09_same_self [] false 0 (by simp) k (by omega)]; rfl
    · rw [e]
      have ln := okT_len ho
      simp only [Option.bind_some, if_true]
      rw [records_law l has exp (by omega) k (by omega), if_pos ho]
      simp only [Option.bind_some, if_true]
      rw [show (RecP.full (l.map toL) has exp).map frR = full l has exp from rfl, rsame_self _ (by omega) k (by omega)]
      simp only [Option.bind_some, if_true]
      rw [okT_right ho k (by omega)]; rfl
theorem RecordBack : epactlaw12_RecordBack.Pure := by
  intro l has exp m hg hl he hw hm
  have hw := wr_of hw
  refine ⟨2002, ?_⟩
  unfold epactlaw12_RecordBack.f
  rw [small12 2002 (by omega), few_law]
  simp only [Option.bind_some]
  have out : ∀ k, epactlaw12_RecordBack.j0 (k + 1) m true true l has exp = some true := by intro k; simp [epactlaw12_RecordBack.j0]
  by_cases hf : (l.length : Int) ≤ 300
  · rw [decide_eq_true hf, if_pos rfl]
    by_cases h3 : (m.length : Int) > 300
    · rw [decide_eq_true h3]; exact out _
    · rw [decide_eq_false h3]
      simp only [epactlaw12_RecordBack.j0, Bool.false_eq_true, if_false]
      rw [records_law l has exp (by omega) _ (by omega)]
      simp only [Option.bind_some]
      by_cases ho : okT l has exp = true
      · rw [if_pos ho]
        simp only [if_true]
        rw [show (RecP.full (l.map toL) has exp).map frR = full l has exp from rfl, full_table_law ho _ (by omega)]
        simp only [Option.bind_some, if_true]
        rw [ref09_same_self l has exp (by omega) _ (by omega)]
        simp only [Option.bind_some, if_true]
        rw [full_right_law ho _ (by omega)]
        simp only [Option.bind_some, if_true]
        exact back_j1 m (by omega) hw 2000 (by omega)
      · rw [if_neg ho]
        simp only [Bool.false_eq_true, if_false]
        exact back_j1 m (by omega) hw 2000 (by omega)
  · rw [decide_eq_false hf, if_neg (by simp)]; exact out _
end Go.Proofs.Ytmnkfafnfjpliaa.Pure
