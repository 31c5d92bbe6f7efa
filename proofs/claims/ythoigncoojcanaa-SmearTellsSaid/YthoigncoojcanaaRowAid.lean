/- For the rows of laws over structs and slices of structs: what a reading as data says of the value. -/
import Derived.Deep.Slices
import Derived.Deep.Strs
import Derived.ChangeSame
import Derived.ChangeArms
import Derived.DataReads
import Derived.Lib.SmallJoins
import Derived.Test.YthoigncoojcanaaWWords
import Derived.Test.YthoigncoojcanaaWMore
namespace Go.Proofs.Ythoigncoojcanaa.RowAid
open Go.RowKit Go.ChangeShapes Go.Deep Go.Proofs.YthoigncoojcanaaW.PrintWords
section
variable {H : Type} {enc : TypeId × Value → H} {P : Program} {w : World} {base : Nat} {spare : Nat → Bool} {held : Bool} {fuel : Nat} {t e : TypeId}
theorem add_add_ (a : Addr) (i j : Nat) : (a.add i).add j = a.add (i + j) := by
  by_cases hi : i = 0
  · subst hi; simp [Addr.add]
  · by_cases hj : j = 0
    · subst hj; simp [Addr.add]
    · have : i + j ≠ 0 := by omega
      simp [Addr.add, hi, hj, Nat.add_assoc]
/-- A slice of elements that a kind tells. -/
theorem open_row {α : Type} {d : Kd α} {z : α} {Good : α → Prop} {a : Option Addr} {n c : Nat} {x : DataW H × List MemPlace}
    (helem : ∀ (m : Nat) (cs : List Value) (y : DataW H × List MemPlace), DataW.trod enc P w base spare held m e cs = some y → ∃ p, d.K w p cs ∧ Good p)
    (ht : P.underlying t = some (.slice e)) (hsz : P.cellsOf e = d.sz) (h : DataW.trod enc P w base spare held fuel t [.slice a n c] = some x) :
    ∃ l : List α, n = l.length ∧ d.C w a l.length l ∧ l.length ≤ c ∧ l.length ≤ 9223372036854775807 ∧ ∀ p ∈ l, Good p := by
  rcases open_slice ht h with ⟨hcs, _⟩ | ⟨a', len, cap, m, n', D, Pl, hcs, hb, hl, hm, hmm, _, hx⟩
  · simp at hcs
    obtain ⟨rfl, rfl, rfl⟩ := hcs
    exact ⟨[], rfl, ⟨rfl, by simp, fun h => by simp at h⟩, by simp, by simp, by simp⟩
  · simp at hcs
    obtain ⟨rfl, rfl, rfl⟩ := hcs
    have hle : n ≤ m := by rw [hmm]; split <;> omega
    haveI : Inhabited α := ⟨z⟩
    obtain ⟨f, hf⟩ := choose_lt (α := α) (n := n) (p := fun i p => ∃ cs', w.cells? base (a'.add (i * P.cellsOf e)) (P.cellsOf e) = some cs' ∧ d.K w p cs' ∧ Good p) (fun i hi => by
      obtain ⟨cs', h1, h2⟩ := hx i (by omega)
      obtain ⟨p, h3, h4⟩ := helem _ _ _ h2
      exact ⟨p, cs', h1, h3, h4⟩)
    have hml : n ≤ 9223372036854775807 := by unfold maxLen at hm; omega
    refine ⟨(List.range n).map f, by simp, ?_, by simpa using hl, by simpa using hml, ?_⟩
    · refine ⟨rfl, by simpa using hml, fun _ => ⟨a', rfl, fun j p hj => ?_⟩⟩
      have hjn : j < n := by
        have := (List.getElem?_eq_some_iff.1 hj).1
        simpa using this
      have hp : p = f j := by simpa [hjn] using hj.symm
      subst hp
      obtain ⟨cs', h1, h2, _⟩ := hf j hjn
      obtain ⟨_, hlen, hc⟩ := World.cells?_some h1
      refine ⟨cs', by rw [hlen, hsz], h2, fun i u hu => ?_⟩
      have hi : i < P.cellsOf e := by
        have := (List.getElem?_eq_some_iff.1 hu).1
        omega
      have := hc i hi
      rw [hu] at this
      rw [hsz] at this
      rw [← this]
      rw [add_add_]
    · intro p hp
      obtain ⟨i, hi, rfl⟩ := List.mem_map.1 hp
      exact (hf i (by simpa using hi)).choose_spec.2.2
end
end Go.Proofs.Ythoigncoojcanaa.RowAid
