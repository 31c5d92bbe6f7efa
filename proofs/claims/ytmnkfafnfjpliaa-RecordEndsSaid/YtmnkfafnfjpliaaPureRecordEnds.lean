/- RecordEnds: an expiry is no leap: without it all sums are the same; any right records, any second: no condition. -/
import Derived.Test.YtmnkfafnfjpliaaSmall12
import Derived.Test.YtmnkfafnfjpliaaRec3
import Derived.Test.YtmnkfafnfjpliaaRecQ
import Derived.Test.YtmnkfafnfjpliaaStmtRecordEnds
namespace Go.Proofs.Ytmnkfafnfjpliaa.Pure
open Go.RowKit Go.Proofs.Ytmnkfafnfjpliaa.PAll Go.Proofs.YtmnkfafnfjpliaaW.PrintWords Go.Proofs.YtmnkfafnfjpliaaW.PrintLast
theorem rd_lastR (l : List S44) (h : 0 < l.length) (a : RecP.R) : (rd_T44 l ((l.length - 1 : Nat) : Int)).f0 = (RecP.lastR a (l.map toR)).at_ := by
  have e : (toR (rd_T44 l ((l.length - 1 : Nat) : Int))).at_ = (rd_T44 l ((l.length - 1 : Nat) : Int)).f0 := rfl
  rw [← e, ← rdr_map, RecP.lastR_getD (l.map toR) a ⟨0, 0⟩ (by intro h'; have := congrArg List.length h'; simp at this; subst this; simp at h), List.length_map]
theorem RecordEnds : epactlaw12_RecordEnds.Pure := by
  intro l t hw hm ht
  have hw := wr_of hw
  refine ⟨2002, ?_⟩
  unfold epactlaw12_RecordEnds.f
  rw [small12 2002 (by omega)]
  simp only [Option.bind_some]
  have out : epactlaw12_RecordEnds.j0 2002 l t true true = some true := by simp [epactlaw12_RecordEnds.j0]
  by_cases h0 : (l.length : Int) > 300
  · rw [if_pos h0]; exact out
  · rw [if_neg h0, rright_law l (by omega) hw _ (by omega)]
    simp only [Option.bind_some]
    cases hr : ((RecP.check (l.map toR)).2 == 0) with
    | false => exact out
    | true =>
      clear out
      obtain ⟨R, hn⟩ := rrn_of hr
      have R1 := R.1
      simp only [epactlaw12_RecordEnds.j0, Bool.not_true, Bool.false_eq_true, if_false]
      rw [rexpiry_law l (by omega) _]
      simp only [Option.bind_some]
      cases he : RecP.ex 0 (l.map toR) with
      | some e =>
        obtain ⟨e1, e2, e3⟩ := ex_at l e he
        obtain ⟨L1, L2, L3⟩ := RecP.lp_right R
        have tk : l.take (lv l).length = lv l := by rw [lv_len]; rfl
        have ll := lv_len l
        simp only [exOf, if_true]
        rw [w64 (by omega) (by omega), if_neg (by omega), if_pos (by omega), if_pos (by omega), show ((l.length : Int) - 1) = ((lv l).length : Int) by omega, Int.toNat_natCast, tk]
        rw [rexpiry_law (lv l) (by omega) _, lv_map, L3]
        simp only [Option.bind_some, exOf, Bool.false_eq_true, if_false]
        rw [if_pos (by omega), if_pos e2.symm]
        have wl : WR (lv l) := by unfold lv; exact wr_take _ hw
        rw [rright_law (lv l) (by omega) wl _ (by omega), lv_map, (RecP.check_right _).2 L1]
        simp only [Option.bind_some, beq_self_eq_true, if_true]
        have G2 : RecP.G RecP.start (RecP.lp 0 ((lv l).map toR)) := by rw [lv_map, L2]; exact R1
        rw [rsum_law (lv l) (by omega) G2, rsum_law l (by omega) R1, rstep_law (lv l) (by omega) G2, rstep_law l (by omega) R1, lv_map, L2]
        simp
      | none =>
        have lvl := ex_no l he
        have mp := lv_map l
        rw [lvl] at mp
        simp only [exOf, Bool.false_eq_true, if_false, if_true]
        by_cases hz : (l.length : Int) = 0
        · rw [if_pos hz]
        · rw [if_neg hz, w64 (by omega) (by omega), if_pos (by omega), if_pos (by omega), rstep_law l (by omega) R1]
          simp only [Option.bind_some]
          rw [show ((l.length : Int) - 1) = ((l.length - 1 : Nat) : Int) by omega, rd_lastR l (by omega) RecP.start]
          have := RecP.sp_last _ _ R1 (by intro h; rw [← mp] at h; have := congrArg List.length h; simp at this; subst this; simp at hz)
          have sc : RecP.start.corr = 0 := rfl
          rw [sc, ← mp] at this
          rw [← mp]
          simp [this]
end Go.Proofs.Ytmnkfafnfjpliaa.Pure
