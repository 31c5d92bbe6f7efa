/- RecordDays: a leap's record is where a day would end, with all leap seconds counted, and a day more than that is no other's; any table, any place: no condition. -/
import Derived.Test.YtmnkfafnfjpliaaSmall12
import Derived.Test.YtmnkfafnfjpliaaRec3
import Derived.Test.YtmnkfafnfjpliaaLeapF
import Derived.Test.YtmnkfafnfjpliaaStmtRecordDays
namespace Go.Proofs.Ytmnkfafnfjpliaa.Pure
open Go.RowKit Go.Proofs.Ytmnkfafnfjpliaa.PAll Go.Proofs.YtmnkfafnfjpliaaW.PrintWords Go.Proofs.YtmnkfafnfjpliaaW.PrintLast
theorem rdl_map (l : List S47) (i : Nat) (h : i < l.length) : (l.map toL)[i]? = some (toL (rd_T47 l (i : Int))) := by
  unfold rd_T47
  rw [List.getElem?_map, Int.toNat_natCast]
  simp [h]
theorem RecordDays : epactlaw12_RecordDays.Pure := by
  intro l has exp c hg hm he hc
  refine ⟨2002, ?_⟩
  unfold epactlaw12_RecordDays.f
  rw [small12 2002 (by omega), few_law]
  simp only [Option.bind_some]
  have out : epactlaw12_RecordDays.j0 2002 c true true l has exp = some true := by simp [epactlaw12_RecordDays.j0]
  by_cases hf : (l.length : Int) ≤ 300
  · rw [decide_eq_true hf, if_pos rfl]
    by_cases h1 : c < 0
    · rw [if_pos h1]; exact out
    · rw [if_neg h1]
      by_cases h2 : c ≥ (l.length : Int)
      · rw [decide_eq_true h2]; exact out
      · rw [decide_eq_false h2]
        clear out
        obtain ⟨i, rfl⟩ := Int.eq_ofNat_of_zero_le (show 0 ≤ c by omega)
        simp only [epactlaw12_RecordDays.j0, Bool.false_eq_true, if_false]
        rw [records_law l has exp (by omega) _ (by omega)]
        simp only [Option.bind_some]
        by_cases ho : okT l has exp = true
        · rw [if_pos ho]
          simp only [if_true]
          rw [show (RecP.full (l.map toL) has exp).map frR = full l has exp from rfl]
          have R := ((okT_iff l has exp).1 ho).1
          have ln := okT_len ho
          obtain ⟨F1, F2, F3⟩ := full_rr ho
          have lpf := (RecP.lp_full (l.map toL) has exp (RecP.good_steps R.1)).1
          have hi := rdl_map l i (by omega)
          obtain ⟨at1, at2⟩ := ScaleP.recs_at (l.map toL) 729 0 R.1 i _ hi
          have gm := LeapP.good_mem _ _ R.1 _ (List.mem_of_getElem? hi)
          have tb := LeapP.tot_bd _ 729 (rd_T47 l (i : Int)).f0 R.1
          have cl := LeapP.cnt_le (l.map toL) (rd_T47 l (i : Int)).f0
          rw [List.length_map] at cl
          have tn := LeapP.tot_next _ 729 (rd_T47 l (i : Int)).f0 R.1
          have apart := ScaleP.stp_apart (l.map toL) 729 (rd_T47 l (i : Int)).f0 ((rd_T47 l (i : Int)).f0 + 1) R.1
          have day := fun d sec => ScaleP.day_law0 (l.map toL) 729 d sec R.1
          have d0 : (toL (rd_T47 l (i : Int))).day = (rd_T47 l (i : Int)).f0 := rfl
          have d1 : (toL (rd_T47 l (i : Int))).step = (rd_T47 l (i : Int)).f1 := rfl
          rw [d0, d1] at at1 at2 gm
          have fl : i < (full l has exp).length := by
            unfold full RecP.full; rw [List.length_map, List.length_append, RecP.recs_len, List.length_map]; omega
          have rf : (rd_T44 (full l has exp) (i : Int)).f0 = ((rd_T47 l (i : Int)).f0 + 1) * 86400 + 0 + LeapP.tot (l.map toL) (rd_T47 l (i : Int)).f0 + min (rd_T47 l (i : Int)).f1 0 := by
            have q := rdr_map (full l has exp) i
            rw [full_map] at q
            unfold RecP.full at q
            rw [List.getD_eq_getElem?_getD, List.getElem?_append_left (by rw [RecP.recs_len, List.length_map]; omega), at1, Option.getD_some] at q
            exact (congrArg RecP.R.at_ q).symm
          rw [if_neg (by omega), if_pos (by omega), if_pos (by omega), total_law l has exp _ 729 R.1 ln _ (by omega), length_law l has exp _ 729 R.1 (by omega), at2]
          simp only [Option.bind_some]
          have G2 : RecP.G RecP.start (RecP.lp 0 ((full l has exp).map toR)) := F1.1
          have sum := rsum_law (full l has exp) (by omega) G2
          have step := rstep_law (full l has exp) (by omega) G2
          rw [full_map, lpf] at sum step
          clear hi at1
          generalize hx : rd_T47 l (i : Int) = x at *
          obtain ⟨d, s, ro⟩ := x
          simp only at *
          obtain ⟨m1, m2, m3, m4, m5⟩ := gm
          generalize hn : LeapP.tot (l.map toL) d = n at *
          have b1 : ScaleP.beg (l.map toL) d = d * 86400 + n := by unfold ScaleP.beg; rw [hn]
          have b2 : ScaleP.beg (l.map toL) (d + 1) = (d + 1) * 86400 + n + s := by unfold ScaleP.beg; rw [tn, at2]; omega
          have s1 : LeapP.stp (l.map toL) (d + 1) = 0 := by
            by_cases hz : LeapP.stp (l.map toL) (d + 1) = 0
            · exact hz
            · have := apart (by omega) hz (by omega); omega
          have t2 : LeapP.tot (l.map toL) (d + 1) = n + s := by rw [tn, at2]
          -- the four answers
          have A1 : RecP.sm 0 (RecP.recs 0 (l.map toL)) (86400 * d + n) = n := by
            have := (day d 0 (by omega) (by omega)).1
            rw [b1, hn, ScaleP.late_no (by omega)] at this
            rw [show 86400 * d + n = d * 86400 + n + 0 by omega, this]; omega
          have A2 : RecP.sm 0 (RecP.recs 0 (l.map toL)) ((d + 1) * 86400 + 0 + n + min s 0) = n + s ∧ RecP.sp 0 (RecP.recs 0 (l.map toL)) ((d + 1) * 86400 + 0 + n + min s 0) = s := by
            rcases m4 with hs | hs
            · have := day d 86400 (by omega) (by omega)
              rw [b1, hn, ScaleP.late_yes ⟨by omega, rfl⟩, ScaleP.chg_yes ⟨by omega, rfl⟩] at this
              rw [show (d + 1) * 86400 + 0 + n + min s 0 = d * 86400 + n + 86400 by omega, this.1, this.2]; omega
            · have := day (d + 1) 0 (by omega) (by omega)
              rw [b2, t2, ScaleP.late_no (by omega), ScaleP.chg_down ⟨by rw [show d + 1 - 1 = d by omega]; omega, rfl⟩] at this
              rw [show (d + 1) * 86400 + 0 + n + min s 0 = (d + 1) * 86400 + n + s + 0 by omega, this.1, this.2]; omega
          have A3 : RecP.sp 0 (RecP.recs 0 (l.map toL)) ((d + 1) * 86400 + 0 + n + min s 0 + 86400) = 0 := by
            rcases m4 with hs | hs
            · have := (day (d + 1) 86399 (by omega) (by omega)).2
              rw [b2, ScaleP.chg_no (by omega) (by omega)] at this
              rw [show (d + 1) * 86400 + 0 + n + min s 0 + 86400 = (d + 1) * 86400 + n + s + 86399 by omega, this]
            · have z := ScaleP.beg_next (l.map toL) 729 (d + 1) R.1
              have s2 : LeapP.stp (l.map toL) (d + 1 + 1) = 0 ∨ LeapP.stp (l.map toL) (d + 1 + 1) = 1 ∨ LeapP.stp (l.map toL) (d + 1 + 1) = -1 := LeapP.stp_mem _ _ 729 R.1
              have := (day (d + 1 + 1) 0 (by omega) (by omega)).2
              rw [z, b2, s1, show d + 1 + 1 - 1 = d + 1 by omega, s1, ScaleP.chg_no (by omega) (by omega)] at this
              rw [show (d + 1) * 86400 + 0 + n + min s 0 + 86400 = (d + 1) * 86400 + n + s + 86400 + 0 + 0 by omega, this]
          have fin : ∀ k, epactlaw12_RecordDays.j1 (k + 3) (i : Int) true (full l has exp) d n ((d + 1) * 86400 + 0 + n + min s 0) l has exp = some true := by
            intro k
            simp only [epactlaw12_RecordDays.j1, if_true]
            rw [if_pos (by omega), if_pos (by omega), if_pos rf, w64 (n := 86400 * d) (by omega) (by omega), w64 (n := 86400 * d + n) (by omega) (by omega), sum, A1]
            simp only [Option.bind_some, if_true]
            rw [rf, sum, A2.1]
            simp only [Option.bind_some]
            rw [if_pos (by omega), hx]
            simp only
            rw [if_pos (w64 (n := n + s) (by omega) (by omega)).symm, step, A2.2]
            simp only [Option.bind_some, if_true]
            rw [w64 (by omega) (by omega), step, A3]
            rfl
          have e0 : ∀ q, (86400 * d + n + (86400 + s) - 1 = q) → s ≥ 0 → q = (d + 1) * 86400 + 0 + n + min s 0 := by intro q e h; omega
          rw [w64 (n := 86400 * d) (by omega) (by omega), w64 (n := 86400 * d + n) (by omega) (by omega), w64 (n := 86400 * d + n + (86400 + s)) (by omega) (by omega), w64 (n := 86400 * d + n + (86400 + s) - 1) (by omega) (by omega), w64 (n := 86400 * d + n + (86400 + s) - 1 + 1) (by omega) (by omega)]
          by_cases hs : s < 0
          · rw [if_pos hs, show 86400 * d + n + (86400 + s) - 1 + 1 = (d + 1) * 86400 + 0 + n + min s 0 by omega]; exact fin 1998
          · rw [if_neg hs, show 86400 * d + n + (86400 + s) - 1 = (d + 1) * 86400 + 0 + n + min s 0 by omega]; exact fin 1998
        · rw [if_neg ho]; simp
  · rw [decide_eq_false hf, if_neg (by simp)]; exact out
end Go.Proofs.Ytmnkfafnfjpliaa.Pure
