/- ScaleSums: a day's first second is as far behind another one's as all days between are long together; any records without an expiry, any day, how many days, up to 100: no condition beyond these. -/
import Derived.Test.YthecldgopjaogaaSmall22
import Derived.Test.YthecldgopjaogaaScaleE
import Derived.Test.YthecldgopjaogaaStmtScaleSums
namespace Go.Proofs.Ythecldgopjaogaa.Pure
open Go.RowKit Go.Proofs.Ythecldgopjaogaa.PAll Go.Proofs.YthecldgopjaogaaW.PrintWords Go.Proofs.YthecldgopjaogaaW.PrintLast
theorem ssums_loop {l : List S53} {exp : Int} (ho : okT l false exp = true) (d : Int) (h0 : 730 ≤ d) (h1 : d ≤ 2932796) (n : Nat) (hn : n ≤ 100) (j : Nat) : ∀ (i k : Nat), i + j = n → j + 1400 < k →
    epactlaw22_ScaleSums.l0 k (full l false exp) d n true (ScaleP.beg (l.map toL) d - 63072000) 0 (ScaleP.beg (l.map toL) (d + n) - 63072000) 0 (ScaleP.beg (l.map toL) (d + i) - ScaleP.beg (l.map toL) d) (i : Int) = some true := by
  have G := tG ho
  have b0 := ScaleP.beg_near _ G (tl ho) d
  induction j with
  | zero =>
    intro i k hi hk
    obtain ⟨k, rfl⟩ : ∃ q, k = q + 1 := ⟨k - 1, by omega⟩
    have e : i = n := by omega
    subst e
    have b1 := ScaleP.beg_near _ G (tl ho) (d + i)
    simp only [epactlaw22_ScaleSums.l0]
    rw [if_neg (by omega), if_pos trivial, if_pos trivial, if_pos trivial, w64 (by omega) (by omega)]
    have : ScaleP.beg (l.map toL) (d + i) - 63072000 - (ScaleP.beg (l.map toL) d - 63072000) = ScaleP.beg (l.map toL) (d + i) - ScaleP.beg (l.map toL) d := by omega
    rw [this]; simp
  | succ j ih =>
    intro i k hi hk
    obtain ⟨k, rfl⟩ : ∃ q, k = q + 1 := ⟨k - 1, by omega⟩
    have b1 := ScaleP.beg_near _ G (tl ho) (d + i)
    have bs := ScaleP.beg_step _ G (d + i)
    have sb := ScaleP.stp_bd _ (d + i) G
    simp only [epactlaw22_ScaleSums.l0]
    rw [if_pos (by omega), w64 (n := d + (i : Int)) (by omega) (by omega), length_law1 ho _ _ (by omega), if_neg (by omega)]
    simp only [Option.bind_some, if_true]
    have := ih (i + 1) k (by omega) (by omega)
    rw [show d + ((i + 1 : Nat) : Int) = d + i + 1 by omega, bs] at this
    rw [w64 (by omega) (by omega), w64 (by omega) (by omega), show ((i : Int) + 1) = ((i + 1 : Nat) : Int) by omega, show ScaleP.beg (l.map toL) (d + i) - ScaleP.beg (l.map toL) d + (86400 + LeapP.stp (l.map toL) (d + i)) = ScaleP.beg (l.map toL) (d + i) + 86400 + LeapP.stp (l.map toL) (d + i) - ScaleP.beg (l.map toL) d by omega]
    exact this
theorem ScaleSums : epactlaw22_ScaleSums.Pure := by
  intro m d n hw hm hd hn
  have hw := wr_of hw
  refine ⟨2002, ?_⟩
  unfold epactlaw22_ScaleSums.f
  rw [small22 2002 (by omega)]
  simp only [Option.bind_some]
  have out : epactlaw22_ScaleSums.j0 2002 m d n true true = some true := by simp [epactlaw22_ScaleSums.j0]
  by_cases h0 : (m.length : Int) > 300
  · rw [if_pos h0]; exact out
  · rw [if_neg h0]
    by_cases h1 : n < 0
    · rw [if_pos h1]; exact out
    · rw [if_neg h1]
      by_cases h2 : n > 100
      · rw [if_pos h2]; exact out
      · rw [if_neg h2]
        by_cases h3 : d < 730
        · rw [if_pos h3]; exact out
        · rw [if_neg h3]
          by_cases h4 : d > 2932796
          · rw [decide_eq_true h4]; exact out
          · rw [decide_eq_false h4]
            clear out
            simp only [epactlaw22_ScaleSums.j0, Bool.false_eq_true, if_false]
            have out : epactlaw22_ScaleSums.j1 2001 m d n true true = some true := by simp [epactlaw22_ScaleSums.j1]
            rcases known_cases m (by omega) hw 2001 (by omega) with ⟨nk, _⟩ | ⟨l, has, exp, ho, rfl⟩
            · rw [end_no m (by omega) 2000 nk, nk]
              simp only [Option.bind_some, Bool.false_eq_true, if_false]
              exact out
            · rw [end_full ho _ (by omega)]
              cases has with
              | true => simp only [Option.bind_some, if_true]; exact out
              | false =>
                simp only [Option.bind_some, Bool.false_eq_true, if_false]
                rw [known_law ho _ (by omega)]
                simp only [Option.bind_some, Bool.not_true]
                clear out
                obtain ⟨n, rfl⟩ := Int.eq_ofNat_of_zero_le (show 0 ≤ n by omega)
                have G := tG ho
                simp only [epactlaw22_ScaleSums.j1, Bool.false_eq_true, if_false]
                have ta : ∀ e, 730 ≤ e → e ≤ 2932896 → ScaleP.taiR (l.map toL) false exp e 0 = (ScaleP.beg (l.map toL) e - 63072000, 0) := by
                  intro e x1 x2
                  have sb := ScaleP.stp_bd _ e G
                  unfold ScaleP.taiR
                  rw [if_neg (by omega), if_neg (by omega), if_neg (by simp), Int.add_zero]
                rw [w64 (n := d + (n : Int)) (by omega) (by omega), tai_law ho d 0 (by unfold I64; omega) _ (by omega), tai_law ho (d + n) 0 (by unfold I64; omega) _ (by omega), ta d (by omega) (by omega), ta (d + n) (by omega) (by omega)]
                simp only [Option.bind_some]
                have := ssums_loop ho d (by omega) (by omega) n (by omega) n 0 2000 (by omega) (by omega)
                simp only [Int.natCast_zero, Int.add_zero, Int.sub_self] at this
                exact this
end Go.Proofs.Ythecldgopjaogaa.Pure
