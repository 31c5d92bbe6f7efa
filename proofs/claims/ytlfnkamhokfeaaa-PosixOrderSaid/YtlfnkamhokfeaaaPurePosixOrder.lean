/- PosixOrder: POSIX seconds never fall, and two seconds of TAI have one just where they are the last one of a day, and the one that is inserted behind it; any records, any second of TAI: no condition. -/
import Derived.Test.YtlfnkamhokfeaaaSmall23
import Derived.Test.YtlfnkamhokfeaaaStmtPosixOrder
namespace Go.Proofs.Ytlfnkamhokfeaaa.Pure
open Go.RowKit Go.Proofs.Ytlfnkamhokfeaaa.PAll Go.Proofs.YtlfnkamhokfeaaaW.PrintWords Go.Proofs.YtlfnkamhokfeaaaW.PrintLast
theorem PosixOrder : epactlaw23_PosixOrder.Pure := by
  intro m t hw hm ht
  have hw := wr_of hw
  refine ⟨2002, ?_⟩
  unfold epactlaw23_PosixOrder.f
  rw [small23 2002 (by omega)]
  simp only [Option.bind_some]
  have out : epactlaw23_PosixOrder.j0 2002 m t true true = some true := by simp [epactlaw23_PosixOrder.j0]
  by_cases h0 : (m.length : Int) > 300
  · rw [if_pos h0]; exact out
  · rw [if_neg h0]
    by_cases h1 : t < 0
    · rw [if_pos h1]; exact out
    · rw [if_neg h1]
      by_cases h2 : t > 1152921504606846976
      · rw [decide_eq_true h2]; exact out
      · rw [decide_eq_false h2]
        clear out
        simp only [epactlaw23_PosixOrder.j0, Bool.false_eq_true, if_false]
        rw [w64 (n := t + 1) (by omega) (by omega)]
        rcases known_cases m (by omega) hw 2001 (by omega) with ⟨nk, _⟩ | ⟨l, has, exp, ho, rfl⟩
        · rw [pfrom_no m t (by unfold I64; omega) _ nk, pfrom_no m (t + 1) (by unfold I64; omega) _ nk]
          simp [epactlaw23_PosixOrder.j1]
        · have G := tG ho
          obtain ⟨d, s, A⟩ := ScaleP.at_ex _ G t (by omega)
          obtain ⟨c, r, A2⟩ := ScaleP.at_ex _ G (t + 1) (by omega)
          have hcr : c = d ∧ r = s + 1 ∧ s + 1 < 86400 + LeapP.stp (l.map toL) d ∨ c = d + 1 ∧ r = 0 ∧ s + 1 = 86400 + LeapP.stp (l.map toL) d := by
            rcases ScaleP.at_next _ G t d s A with ⟨hl, A3⟩ | ⟨hl, A3⟩
            · obtain ⟨e1, e2⟩ := ScaleP.at_uniq _ G _ _ _ _ _ A2 A3; exact .inl ⟨e1, e2, hl⟩
            · obtain ⟨e1, e2⟩ := ScaleP.at_uniq _ G _ _ _ _ _ A2 A3; exact .inr ⟨e1, e2, hl⟩
          have sd := ScaleP.stp_bd _ d G
          have bd := ScaleP.at_bd _ G (tl ho) _ _ _ A
          have d0 := A.d0
          have s0 := A.s0
          have s1 := A.s1
          rw [pfrom_law ho t (by unfold I64; omega) d s A _ (by omega), pfrom_law ho (t + 1) (by unfold I64; omega) c r A2 _ (by omega)]
          simp only [Option.bind_some]
          by_cases he : (ScaleP.utcR has (ScaleP.fin (l.map toL) exp) t d s).2.2 = 0
          · obtain ⟨u1, u2, u3⟩ := ScaleP.utcR_ok he
            by_cases hf : (ScaleP.utcR has (ScaleP.fin (l.map toL) exp) (t + 1) c r).2.2 = 0
            · obtain ⟨v1, v2, v3⟩ := ScaleP.utcR_ok hf
              have f1 : fromR (ScaleP.utcR has (ScaleP.fin (l.map toL) exp) t d s) = (d * 86400 + min s 86399, 0) := by rw [u3]; rfl
              have f2 : fromR (ScaleP.utcR has (ScaleP.fin (l.map toL) exp) (t + 1) c r) = (c * 86400 + min r 86399, 0) := by rw [v3]; rfl
              rw [f1, f2]
              simp only [if_true, bne_self_eq_false]
              simp only [epactlaw23_PosixOrder.j1, Bool.false_eq_true, if_false]
              rw [w64 (n := t + 1) (by omega) (by omega), utc_law ho (t + 1) (by unfold I64; omega) (by omega) c r A2 _ (by omega), utc_law ho t (by unfold I64; omega) (by omega) d s A _ (by omega), u3, v3]
              simp only [Option.bind_some]
              rw [length_law1 ho d _ (by omega), if_neg (by omega)]
              simp only [Option.bind_some]
              have P1 : (d * 86400 + min s 86399) / 86400 = d := by omega
              have P2 : (d * 86400 + min s 86399) % 86400 = min s 86399 := by omega
              by_cases h64 : s = 86400
              · -- the inserted one itself
                have A0 : ScaleP.At (l.map toL) (t - 1) d 86399 := ⟨d0, by omega, by omega, by have := A.eq; omega⟩
                have T : ScaleP.taiR (l.map toL) has exp ((d * 86400 + min s 86399) / 86400) ((d * 86400 + min s 86399) % 86400) = (t - 1, 0) := by
                  rw [P1, P2, show min s 86399 = 86399 by omega]
                  exact ScaleP.tai_at A0 u2 (by omega) (fun h => u1 ⟨h.1, by omega⟩)
                have tw := twice_law ho (d * 86400 + min s 86399) (by unfold I64; omega) 2000 (by omega) (d * 86400 + min s 86399, 0) (by
                  rw [T]; simp only
                  rw [show t - 1 + 1 = t by omega, pfrom_law ho t (by unfold I64; omega) d s A _ (by omega), f1])
                rw [T] at tw
                rw [tw]
                simp only [Option.bind_some, if_true]
                rw [if_pos h64, w64 (by omega) (by omega), if_pos (by omega)]
                simp
              · have T : ScaleP.taiR (l.map toL) has exp ((d * 86400 + min s 86399) / 86400) ((d * 86400 + min s 86399) % 86400) = (t, 0) := by
                  rw [P1, P2, show min s 86399 = s by omega]
                  exact ScaleP.tai_at A u2 (by omega) u1
                have tw := twice_law ho (d * 86400 + min s 86399) (by unfold I64; omega) 2000 (by omega) (c * 86400 + min r 86399, 0) (by
                  rw [T]; simp only
                  rw [pfrom_law ho (t + 1) (by unfold I64; omega) c r A2 _ (by omega), f2])
                rw [T] at tw
                rw [tw]
                simp only [Option.bind_some, if_true]
                rw [if_neg h64]
                have e0 : wrap64 (d * 86400 + min s 86399 + 0) = d * 86400 + min s 86399 := by rw [w64 (by omega) (by omega)]; omega
                have e1 : wrap64 (d * 86400 + min s 86399 + 1) = d * 86400 + min s 86399 + 1 := w64 (by omega) (by omega)
                have e2 : wrap64 (d * 86400 + min s 86399 + 2) = d * 86400 + min s 86399 + 2 := w64 (by omega) (by omega)
                rw [e0, e1, e2]
                by_cases hr : r = 86400
                · have q : c * 86400 + min r 86399 = d * 86400 + min s 86399 := by omega
                  have b1 : (r == 86400) = true := by simp [hr]
                  rw [if_pos hr, if_neg (by omega), q, b1]; simp
                · have b1 : (r == 86400) = false := by simp [hr]
                  have b2 : (c * 86400 + min r 86399 == d * 86400 + min s 86399) = false := by rw [beq_eq_false_iff_ne]; omega
                  rw [if_neg hr, b1, b2]
                  by_cases h39 : 86400 + LeapP.stp (l.map toL) d = 86399
                  · rw [if_pos h39]
                    by_cases h98 : s = 86398
                    · rw [if_pos h98, if_pos (by omega)]; simp
                    · rw [if_neg h98, if_pos (by omega)]; simp
                  · rw [if_neg h39, if_pos (by omega)]; simp
            · have : ((fromR (ScaleP.utcR has (ScaleP.fin (l.map toL) exp) (t + 1) c r)).2 != 0) = true := by
                unfold fromR; rw [if_neg hf]; simp [hf]
              rw [this]
              split <;> simp [epactlaw23_PosixOrder.j1]
          · have : ¬ (fromR (ScaleP.utcR has (ScaleP.fin (l.map toL) exp) t d s)).2 = 0 := by
              unfold fromR; rw [if_neg he]; exact he
            rw [if_neg this]; simp [epactlaw23_PosixOrder.j1]
end Go.Proofs.Ytlfnkamhokfeaaa.Pure
