/- ScaleBack: seconds of TAI and of days are each other's; any records, any second of TAI, any day, any second of it: no condition. -/
import Derived.Test.YthecldgopjaogaaSmall22
import Derived.Test.YthecldgopjaogaaStmtScaleBack
namespace Go.Proofs.Ythecldgopjaogaa.Pure
open Go.RowKit Go.Proofs.Ythecldgopjaogaa.PAll Go.Proofs.YthecldgopjaogaaW.PrintWords Go.Proofs.YthecldgopjaogaaW.PrintLast
theorem back_j0 (m : List S45) (hm : m.length ≤ 300) (hw : WR m) (d sec : Int) (hs : I64 sec) (k : Nat) (hk : 1500 < k) : epactlaw22_ScaleBack.j0 (k + 1) m d sec true = some true := by
  simp only [epactlaw22_ScaleBack.j0]
  rcases known_cases m hm hw k (by omega) with ⟨nk, _⟩ | ⟨l, has, exp, ho, rfl⟩
  · rw [tai_no m d sec k nk]; simp
  · rw [tai_law ho d sec hs k (by omega)]
    simp only [Option.bind_some]
    by_cases h : (ScaleP.taiR (l.map toL) has exp d sec).2 = 0
    · have A := ScaleP.at_tai h
      obtain ⟨a, b, c, e, f, g, q⟩ := ScaleP.taiR_ok h
      have bd := ScaleP.at_bd _ (tG ho) (tl ho) _ _ _ A
      rw [if_pos h, utc_law ho _ (by unfold I64; omega) (by omega) d sec A k (by omega)]
      simp only [Option.bind_some, if_true]
      have u : ScaleP.utcR has (ScaleP.fin (l.map toL) exp) (ScaleP.taiR (l.map toL) has exp d sec).1 d sec = (d, sec, 0) := by
        unfold ScaleP.utcR
        rw [q]
        simp only
        rw [if_neg g, if_neg (by omega)]
      rw [u]; simp
    · rw [if_neg h, if_pos trivial, ScaleP.taiR_no h]; rfl
theorem ScaleBack : epactlaw22_ScaleBack.Pure := by
  intro m t d sec hw hm ht hd hs
  have hw := wr_of hw
  have ht := i64_of ht
  have hs := i64_of hs
  refine ⟨2001, ?_⟩
  unfold epactlaw22_ScaleBack.f
  rw [small22 2001 (by omega)]
  simp only [Option.bind_some]
  by_cases h0 : (m.length : Int) > 300
  · rw [if_pos h0]
  · rw [if_neg h0]
    have J := back_j0 m (by omega) hw d sec hs 2000 (by omega)
    rcases known_cases m (by omega) hw 2001 (by omega) with ⟨nk, _⟩ | ⟨l, has, exp, ho, rfl⟩
    · rw [utc_no m t ht _ nk]; simp only [Option.bind_some]; exact J
    · by_cases hn : t < 0
      · rw [utc_neg ho t ht hn _ (by omega)]; simp only [Option.bind_some]; exact J
      · obtain ⟨a, b, A⟩ := ScaleP.at_ex _ (tG ho) t (by omega)
        have bd := ScaleP.at_bd _ (tG ho) (tl ho) _ _ _ A
        rw [utc_law ho t ht (by omega) a b A _ (by omega)]
        simp only [Option.bind_some]
        by_cases h : (ScaleP.utcR has (ScaleP.fin (l.map toL) exp) t a b).2.2 = 0
        · obtain ⟨h1, h2, h3⟩ := ScaleP.utcR_ok h
          rw [if_pos h, h3]
          simp only
          rw [tai_law ho a b (by unfold I64; have := A.s0; omega) _ (by omega), ScaleP.tai_at A h2 bd.2.2.2 h1]
          simp only [Option.bind_some, if_true]
          exact J
        · obtain ⟨z1, z2⟩ := ScaleP.utcR_no h
          rw [if_neg h, if_pos z1, if_pos z2]; exact J
end Go.Proofs.Ythecldgopjaogaa.Pure
