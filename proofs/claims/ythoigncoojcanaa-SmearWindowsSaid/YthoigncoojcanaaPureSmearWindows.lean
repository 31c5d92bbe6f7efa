/- SmearWindows: a second is in a window just if a leap is at most half a day off, and the windows of a table's leaps are as long as their days; any table, any second of TAI: no condition. -/
import Derived.Test.YthoigncoojcanaaS25
import Derived.Test.YthoigncoojcanaaL25
import Derived.Test.YthoigncoojcanaaStmtSmearWindows
import Derived.Test.YthoigncoojcanaaPAllx17
namespace Go.Proofs.Ythoigncoojcanaa.Pure
open Go.RowKit Go.Proofs.Ythoigncoojcanaa.PAll Go.Proofs.YthoigncoojcanaaW.PrintWords Go.Proofs.YthoigncoojcanaaW.PrintLast
set_option linter.unusedSimpArgs false
set_option linter.unusedVariables false
theorem stp_own (l : List LeapP.L) (h : LeapP.Good 729 l) (x : LeapP.L) (hx : x ∈ l) : LeapP.stp l x.day = x.step ∧ LeapP.stp l x.day ≠ 0 := by
  obtain ⟨i, hi⟩ := List.getElem?_of_mem hx
  have := (ScaleP.recs_at l 729 0 h i x hi).2
  have g := (LeapP.good_mem l 729 h x hx).2.2.2.1
  exact ⟨this, by omega⟩
theorem windows_round {l : List S49} {has : Bool} {exp : Int} (ho : okT l has exp = true) (s : Int) (hs : I64 s) (a b : Int) (c : Bool)
    (hw : (∃ d, LeapP.stp (l.map toL) d ≠ 0 ∧ SmearP.InT (l.map toL) s d ∧ a = ScaleP.beg (l.map toL) d + 43200 - 63072000 ∧ b = 86400 + LeapP.stp (l.map toL) d ∧ c = true) ∨ ((∀ d, LeapP.stp (l.map toL) d ≠ 0 → ¬ SmearP.InT (l.map toL) s d) ∧ a = 0 ∧ b = 0 ∧ c = false))
    (rest : List S49) : ∀ (pre : List S49) (had : Bool) (k : Nat), l = pre ++ rest → (had = true ↔ ∃ x ∈ pre, SmearP.InT (l.map toL) s x.f0) → 2 * rest.length + 300 < k →
    epactlaw25_SmearWindows.l0 k s true a b c had (pre.length : Int) l has exp = some true := by
  have G := tG ho
  have ln := okT_len ho
  induction rest with
  | nil =>
    intro pre had k e hh hk
    obtain ⟨k, rfl⟩ : ∃ m, k = m + 1 := ⟨k - 1, by omega⟩
    rw [List.append_nil] at e
    subst e
    simp only [epactlaw25_SmearWindows.l0]
    rw [if_neg (by omega)]
    simp only [if_true]
    rcases hw with ⟨d, h1, h2, rfl, rfl, rfl⟩ | ⟨h1, rfl, rfl, rfl⟩
    · have : had = true := by
        obtain ⟨y, hy, hd, _⟩ := SmearP.stp_day _ d h1
        obtain ⟨x, hx, rfl⟩ := List.mem_map.1 hy
        exact hh.2 ⟨x, hx, by rw [show x.f0 = d from hd]; exact h2⟩
      rw [this]; simp
    · have : had = false := by
        cases hb : had with
        | false => rfl
        | true =>
          obtain ⟨x, hx, hi⟩ := hh.1 hb
          exact absurd hi (h1 x.f0 (stp_own _ G (toL x) (List.mem_map.2 ⟨x, hx, rfl⟩)).2)
      rw [this]; simp
  | cons x rest ih =>
    intro pre had k e hh hk
    simp only [List.length_cons] at hk
    obtain ⟨k, rfl⟩ : ∃ m, k = m + 2 := ⟨k - 2, by omega⟩
    have hlen : l.length = pre.length + (rest.length + 1) := by rw [e]; simp
    have hr : rd_T49 l (pre.length : Int) = x := by rw [e]; exact rd_at pre rest x
    have hx : x ∈ l := by rw [e]; simp
    have so := stp_own _ G (toL x) (List.mem_map.2 ⟨x, hx, rfl⟩)
    rw [show (toL x).day = x.f0 from rfl] at so
    have w := wd_range ho x.f0 so.2
    have bg : ScaleP.beg (l.map toL) x.f0 = x.f0 * 86400 + LeapP.tot (l.map toL) x.f0 := rfl
    unfold I64 at hs
    have nx : ∀ had', (had' = true ↔ ∃ y ∈ pre ++ [x], SmearP.InT (l.map toL) s y.f0) → epactlaw25_SmearWindows.l0 k s true a b c had' (wrap64 ((pre.length : Int) + 1)) l has exp = some true := by
      intro had' h'
      have := ih (pre ++ [x]) had' k (by rw [e]; simp) h' (by omega)
      rw [w64 (by omega) (by omega)]
      simpa using this
    have no : ¬ SmearP.InT (l.map toL) s x.f0 → epactlaw25_SmearWindows.l0 k s true a b c had (wrap64 ((pre.length : Int) + 1)) l has exp = some true := by
      intro hn
      refine nx had ?_
      rw [hh]
      constructor
      · rintro ⟨y, hy, hi⟩; exact ⟨y, by simp [hy], hi⟩
      · rintro ⟨y, hy, hi⟩
        rcases List.mem_append.1 hy with hy | hy
        · exact ⟨y, hy, hi⟩
        · simp at hy; subst hy; exact absurd hi hn
    simp only [epactlaw25_SmearWindows.l0]
    rw [if_pos (by omega), if_pos (by omega), hr, total_law l has exp x.f0 729 G ln _ (by omega), length_law l has exp x.f0 729 G (by omega)]
    simp only [Option.bind_some]
    have en : wrap64 (wrap64 (wrap64 (86400 * wrap64 (x.f0 - 730)) + LeapP.tot (l.map toL) x.f0) + 43200) = ScaleP.beg (l.map toL) x.f0 + 43200 - 63072000 := by
      rw [w64 (n := x.f0 - 730) (by omega) (by omega), w64 (n := 86400 * (x.f0 - 730)) (by omega) (by omega), w64 (n := 86400 * (x.f0 - 730) + LeapP.tot (l.map toL) x.f0) (by omega) (by omega), w64 (by omega) (by omega)]; omega
    rw [en]
    by_cases h1 : s < ScaleP.beg (l.map toL) x.f0 + 43200 - 63072000
    · rw [if_pos h1]
      simp only [epactlaw25_SmearWindows.j2, if_true]
      exact no (by unfold SmearP.InT; omega)
    · rw [if_neg h1, w64 (n := s - (ScaleP.beg (l.map toL) x.f0 + 43200 - 63072000)) (by omega) (by omega)]
      by_cases h2 : s - (ScaleP.beg (l.map toL) x.f0 + 43200 - 63072000) ≥ 86400 + LeapP.stp (l.map toL) x.f0
      · rw [decide_eq_true h2]
        simp only [epactlaw25_SmearWindows.j2, if_true]
        exact no (by unfold SmearP.InT; omega)
      · rw [decide_eq_false h2]
        have hi : SmearP.InT (l.map toL) s x.f0 := by unfold SmearP.InT; omega
        rcases hw with ⟨d, q1, q2, rfl, rfl, rfl⟩ | ⟨q1, _, _, _⟩
        · obtain rfl := SmearP.inT_uniq _ G s d x.f0 q2 hi
          simp only [epactlaw25_SmearWindows.j2, Bool.false_eq_true, if_false]
          rw [length_law l has exp x.f0 729 G (by omega)]
          simp only [Option.bind_some, if_true]
          exact nx true ⟨fun _ => ⟨x, by simp, hi⟩, fun _ => rfl⟩
        · exact absurd hi (q1 _ so.2)
theorem windows_join {l : List S49} {has : Bool} {exp : Int} (ho : okT l has exp = true) (s : Int) (hs : I64 s) (k : Nat) (hk : 1400 < k) :
    ((smear_Window.f k (full l has exp) s).bind fun b => epactlaw25_SmearWindows.l0 k s true b.1 b.2.1 b.2.2 false 0 l has exp) = some true := by
  have ln := okT_len ho
  rcases window_law ho s k (by omega) with ⟨d, a, b, e⟩ | ⟨a, e⟩
  · rw [e]
    simp only [Option.bind_some]
    have h := windows_round ho s hs _ _ _ (.inl ⟨d, a, b, rfl, rfl, rfl⟩) l [] false k rfl (by simp) (by omega)
    simp only [List.length_nil, Int.natCast_zero] at h
    exact h
  · rw [e]
    simp only [Option.bind_some]
    have h := windows_round ho s hs _ _ _ (.inr ⟨a, rfl, rfl, rfl⟩) l [] false k rfl (by simp) (by omega)
    simp only [List.length_nil, Int.natCast_zero] at h
    exact h
theorem SmearWindows : epactlaw25_SmearWindows.Pure := by
  intro l has exp s hg hl he hs
  have hs := i64_of hs
  refine ⟨2001, ?_⟩
  unfold epactlaw25_SmearWindows.f
  rw [small25 2001 (by omega), show epactlaw09_Few.f l has exp = some (decide ((l.length : Int) ≤ 300)) from rfl]
  simp only [Option.bind_some]
  have out : epactlaw25_SmearWindows.j0 2001 s true true l has exp = some true := by simp [epactlaw25_SmearWindows.j0]
  by_cases hf : (l.length : Int) ≤ 300
  · rw [decide_eq_true hf, if_pos rfl]
    by_cases h1 : (l.length : Int) > 100
    · rw [decide_eq_true h1]; exact out
    · rw [decide_eq_false h1]
      clear out
      simp only [epactlaw25_SmearWindows.j0, Bool.false_eq_true, if_false]
      rw [records_law l has exp (by omega) _ (by omega)]
      simp only [Option.bind_some]
      by_cases ho : okT l has exp = true
      · rw [if_pos ho]
        simp only [if_true]
        rw [show (RecP.full (l.map toL) has exp).map frR = full l has exp from rfl]
        exact windows_join ho s hs 2000 (by omega)
      · rw [if_neg ho]; simp
  · rw [decide_eq_false hf, if_neg (by simp)]; exact out
end Go.Proofs.Ythoigncoojcanaa.Pure
