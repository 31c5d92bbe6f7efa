/- LeapParts: a table is right just if its beginnings are, for any table, cut anywhere: no condition. -/
import Derived.Test.YtfmibhepehhljaaSmall09
import Derived.Test.YtfmibhepehhljaaStmtLeapParts
namespace Go.Proofs.Ytfmibhepehhljaa.Pure
open Go.RowKit Go.Proofs.Ytfmibhepehhljaa.PAll Go.Proofs.YtfmibhepehhljaaW.PrintWords Go.Proofs.YtfmibhepehhljaaW.PrintLast

/-- what is wrong of a beginning is wrong of the whole, at the same place; a right one's end is not behind what is wrong -/
theorem chk_parts : ∀ (l : List LeapP.L) (n : Nat) (i a : Int), n ≤ l.length →
    ((LeapP.chk (l.take n) i a).2.1 ≠ 0 → LeapP.chk l i a = LeapP.chk (l.take n) i a) ∧ ((LeapP.chk (l.take n) i a).2.1 = 0 → i + n ≤ (LeapP.chk l i a).1) := by
  intro l
  induction l with
  | nil => intro n i a h; simp at h; subst h; simp [LeapP.chk]
  | cons x l ih =>
    intro n i a h
    cases n with
    | zero =>
      simp only [List.take_zero, LeapP.chk]
      refine ⟨fun e => absurd rfl e, fun _ => ?_⟩
      split
      · have := (ih 0 (i + 1) x.day (by omega)).2 (by simp [LeapP.chk])
        omega
      · simp
    | succ n =>
      simp only [List.take_succ_cons, LeapP.chk]
      simp only [List.length_cons] at h
      split
      · obtain ⟨a1, a2⟩ := ih n (i + 1) x.day (by omega)
        exact ⟨a1, fun e => by have := a2 e; omega⟩
      · rename_i hw
        exact ⟨fun _ => rfl, fun e => absurd e hw⟩
theorem check_bare (l : List LeapP.L) : LeapP.check l false 0 = (if (LeapP.chk l 0 729).2.1 = 0 then (l.length : Int) else (LeapP.chk l 0 729).1, (LeapP.chk l 0 729).2.1) := by
  unfold LeapP.check LeapP.badEnd
  simp only [Bool.false_eq_true, if_false]
  by_cases h : (LeapP.chk l 0 729).2.1 = 0
  · simp [h]
  · simp [h]
theorem chk_end (l : List LeapP.L) (h : (LeapP.chk l 0 729).2.1 = 0) : (LeapP.chk l 0 729).1 = l.length := by
  rw [LeapP.chk_last l 0 729 h]; simp
theorem LeapParts : epactlaw09_LeapParts.Pure := by
  intro l has exp c hg hm he hc
  refine ⟨400, ?_⟩
  unfold epactlaw09_LeapParts.f
  rw [small09 400 (by omega), few_law]
  simp only [Option.bind_some]
  have out : epactlaw09_LeapParts.j0 400 c true true l has exp = some true := by simp [epactlaw09_LeapParts.j0]
  by_cases hf : (l.length : Int) ≤ 300
  · rw [decide_eq_true hf, if_pos rfl]
    by_cases h1 : c < 0
    · rw [if_pos h1]; exact out
    · rw [if_neg h1]
      by_cases h2 : c > (l.length : Int)
      · rw [decide_eq_true h2]; exact out
      · rw [decide_eq_false h2]
        clear out
        obtain ⟨n, rfl⟩ := Int.eq_ofNat_of_zero_le (show 0 ≤ c by omega)
        simp only [epactlaw09_LeapParts.j0, Bool.false_eq_true, if_false]
        rw [if_pos (by omega), if_pos (by omega), Int.toNat_natCast]
        rw [check_law l false 0 (by omega) _ (by omega), check_law (l.take n) false 0 (by rw [List.length_take]; omega) _ (by rw [List.length_take]; omega)]
        simp only [Option.bind_some, if_true]
        rw [List.map_take, check_bare, check_bare]
        obtain ⟨p1, p2⟩ := chk_parts (l.map toL) n 0 729 (by rw [List.length_map]; omega)
        by_cases h3 : (LeapP.chk ((l.map toL).take n) 0 729).2.1 = 0
        · have p2 := p2 h3
          simp only [h3, if_true]
          rw [if_pos (by rw [List.length_take, List.length_map]; omega)]
          by_cases h4 : (LeapP.chk (l.map toL) 0 729).2.1 = 0
          · simp [h4]
          · rw [if_neg h4]; simp only [if_neg h4]; rw [decide_eq_true (by omega)]
        · have p1 := p1 h3
          simp only [p1, if_neg h3]
          simp
  · rw [decide_eq_false hf, if_neg (by simp)]; exact out

end Go.Proofs.Ytfmibhepehhljaa.Pure
