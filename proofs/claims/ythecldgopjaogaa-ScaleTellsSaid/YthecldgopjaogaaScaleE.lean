/- What End of the package scale tells. -/
import Derived.Test.YthecldgopjaogaaScale
import Derived.Test.YthecldgopjaogaaPAllx5
namespace Go.Proofs.Ythecldgopjaogaa.Pure
open Go.RowKit Go.Proofs.Ythecldgopjaogaa.PAll Go.Proofs.YthecldgopjaogaaW.PrintWords Go.Proofs.YthecldgopjaogaaW.PrintLast
theorem end_full {l : List S53} {has : Bool} {exp : Int} (ho : okT l has exp = true) (k : Nat) (hk : 1400 < k) : scale_End.f k (full l has exp) = some (if has = true then (ScaleP.fin (l.map toL) exp, true) else (0, false)) := by
  obtain ⟨k, rfl⟩ : ∃ q, k = q + 1 := ⟨k - 1, by omega⟩
  have tt := ttots ho
  have te := texp ho
  unfold scale_End.f
  rw [full_expiry_law ho]
  simp only [Option.bind_some]
  unfold ScaleP.fin
  cases has with
  | true =>
    have := te rfl
    simp only [if_true]
    rw [known_law ho _ (by omega)]
    simp only [Option.bind_some, if_true]
    rw [w64 (by omega) (by omega)]
  | false => simp
theorem end_no (m : List S45) (hm : m.length ≤ 300) (k : Nat) (h : scale_Known.f (k + 1) m = some false) : scale_End.f (k + 1) m = some (0, false) := by
  unfold scale_End.f
  rw [rexpiry_law m (by omega)]
  simp only [Option.bind_some]
  split
  · rw [h]; simp
  · rfl
end Go.Proofs.Ythecldgopjaogaa.Pure
