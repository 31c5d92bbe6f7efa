/- The reference's functions of records are the program's, as far as they are told. -/
import Derived.Test.YtlfnkamhokfeaaaRecK
import Derived.Test.YtlfnkamhokfeaaaRef09
import Derived.Test.YtlfnkamhokfeaaaPAllx6
import Derived.Test.YtlfnkamhokfeaaaPAllx7
import Derived.Test.YtlfnkamhokfeaaaPAllx10
import Derived.Test.YtlfnkamhokfeaaaPAllx9
namespace Go.Proofs.Ytlfnkamhokfeaaa.Pure
open Go.RowKit Go.Proofs.Ytlfnkamhokfeaaa.PAll Go.Proofs.YtlfnkamhokfeaaaW.PrintWords Go.Proofs.YtlfnkamhokfeaaaW.PrintLast
set_option linter.unusedVariables false
set_option linter.unusedSimpArgs false
theorem ahead_law (l : List S40) (i : Nat) (hi : i < l.length + 1) (hl : l.length ≤ 9223372036854775806) : epactref12_ahead.f l (i : Int) = some (if i = 0 then 0 else (rd_T40 l ((i - 1 : Nat) : Int)).f1) := by
  unfold epactref12_ahead.f
  by_cases h : i = 0
  · rw [if_pos (by omega), if_pos h]
  · rw [if_neg (by omega), if_neg h, w64 (by omega) (by omega), if_pos (by omega), if_pos (by omega), show ((i : Int) - 1) = ((i - 1 : Nat) : Int) by omega]
theorem ref_sub_law (a b : Int) (ha : I64 a) (hb : I64 b) : epactref01_Sub.f a b = some (if -9223372036854775808 ≤ a - b ∧ a - b ≤ 9223372036854775807 then (a - b, true) else (0, false)) := by
  unfold I64 at *
  unfold epactref01_Sub.f
  by_cases h1 : b < 0
  · rw [if_pos h1, w64 (n := 9223372036854775807 + b) (by omega) (by omega), if_neg (show ¬ b > 0 by omega)]
    by_cases h2 : a > 9223372036854775807 + b
    · rw [if_pos h2, if_neg (by omega)]
    · rw [if_neg h2, if_pos (by omega), w64 (by omega) (by omega)]
  · rw [if_neg h1]
    by_cases h3 : b > 0
    · rw [if_pos h3, w64 (n := -9223372036854775808 + b) (by omega) (by omega)]
      by_cases h2 : a < -9223372036854775808 + b
      · rw [if_pos h2, if_neg (by omega)]
      · rw [if_neg h2, if_pos (by omega), w64 (by omega) (by omega)]
    · rw [if_neg h3, if_pos (by omega), w64 (by omega) (by omega)]
theorem ref_rcheck_round (l : List S40) (i : Nat) (hi : i < l.length) (hl : l.length ≤ 9223372036854775806) (a b : Int) (k : Nat) (hb : I64 b)
    (ha : (i : Int) > 0 → 0 ≤ a ∧ I64 a) (c : S40) (hc : rd_T40 l (i : Int) = c) (hw : I64 c.f0 ∧ I64 c.f1) (last : Bool) (hlast : ((i : Int) == wrap64 ((l.length : Int) - 1)) = last)
    (hpb : (if i = 0 then 0 else (rd_T40 l ((i - 1 : Nat) : Int)).f1) = b) (hpa : (i : Int) > 0 → (rd_T40 l ((i - 1 : Nat) : Int)).f0 = a) :
    epactref12_Check.l0 (k + 3) l (i : Int) = if RecP.wr i ⟨a, b⟩ (toR c) last = 0 then epactref12_Check.l0 k l ((i : Int) + 1) else some ((i : Int), RecP.wr i ⟨a, b⟩ (toR c) last) := by
  have e0 : (toR c).at_ = c.f0 := rfl
  have e1 : (toR c).corr = c.f1 := rfl
  generalize hN : epactref12_Check.l0 k l ((i : Int) + 1) = N
  unfold I64 at hw hb ha
  have h2 : 0 ≤ c.f0 → ∀ (same bad : Bool), epactref12_Check.j2 (k + 1) l (i : Int) same bad = if bad = true then some ((i : Int), 6) else if (i : Int) > 0 ∧ (if same = true then c.f0 < a else c.f0 - a < 2419199) then some ((i : Int), 7) else N := by
    intro h0 same bad
    cases bad with
    | true => simp [epactref12_Check.j2]
    | false =>
      simp only [epactref12_Check.j2, Bool.false_eq_true, if_false]
      rw [w64 (n := (i : Int) + 1) (by omega) (by omega), hN]
      by_cases h1 : (i : Int) > 0
      · have := ha h1
        have pa := hpa h1
        rw [if_pos h1, w64 (n := (i : Int) - 1) (by omega) (by omega)]
        simp only [if_pos (show 0 ≤ (i : Int) by omega), if_pos (show (i : Int) < (l.length : Int) by omega), if_pos (show 0 ≤ (i : Int) - 1 by omega), if_pos (show (i : Int) - 1 < (l.length : Int) by omega)]
        rw [show ((i : Int) - 1) = ((i - 1 : Nat) : Int) by omega, hc, pa, w64 (n := c.f0 - a) (by omega) (by omega)]
        cases same with
        | true =>
          simp only [if_true]
          by_cases q : c.f0 < a
          · rw [if_pos q, if_pos ⟨h1, q⟩]
          · rw [if_neg q, if_neg (fun h => q h.2)]
        | false =>
          simp only [Bool.false_eq_true, if_false]
          by_cases q : c.f0 - a < 2419199
          · rw [if_pos q, if_pos ⟨h1, q⟩]
          · rw [if_neg q, if_neg (by omega), if_neg (fun h => q h.2)]
      · rw [if_neg h1, if_neg (fun h => h1 h.1)]
  have h1 : ∀ (same one : Bool), epactref12_Check.j1 (k + 2) l (i : Int) last same one = if (i : Int) > 200 then some ((i : Int), 8) else if c.f0 < 0 then some ((i : Int), 9) else if one = false ∧ ¬ (last = true ∧ same = true) then some ((i : Int), 6) else if (i : Int) > 0 ∧ (if same = true then c.f0 < a else c.f0 - a < 2419199) then some ((i : Int), 7) else N := by
    intro same one
    simp only [epactref12_Check.j1]
    by_cases q1 : (i : Int) > 200
    · rw [if_pos q1, if_pos q1]
    · rw [if_neg q1, if_neg q1, if_pos (by omega), if_pos (by omega), hc]
      by_cases q2 : c.f0 < 0
      · rw [if_pos q2, if_pos q2]
      · rw [if_neg q2, if_neg q2]
        have h2 := h2 (by omega)
        cases one with
        | true => rw [if_pos rfl, h2]; simp
        | false =>
          cases last with
          | true => rw [if_neg (by simp), if_pos rfl, h2]; cases same <;> simp
          | false => rw [if_neg (by simp), if_neg (by simp), h2]; simp
  simp only [epactref12_Check.l0]
  rw [if_pos (by omega), if_pos (by omega), ahead_law l i (by omega) hl, hpb]
  simp only [Option.bind_some]
  rw [hc, ref_sub_law _ _ hw.2 hb, hlast]
  simp only [Option.bind_some]
  unfold RecP.wr
  rw [e0, e1]
  simp only
  have key : ∀ one : Bool, (one = true ↔ (c.f1 - b = 1 ∨ c.f1 - b = -1)) → epactref12_Check.j1 (k + 2) l (i : Int) last (c.f1 == b) one =
      if (if (i : Int) > 200 then (8 : Int) else if c.f0 < 0 then 9 else if ¬ (last = true ∧ c.f1 = b) ∧ c.f1 - b ≠ 1 ∧ c.f1 - b ≠ -1 then 6 else if (i : Int) > 0 ∧ c.f0 - a < (if last = true ∧ c.f1 = b then 0 else 2419199) then 7 else 0) = 0 then N else some ((i : Int), if (i : Int) > 200 then (8 : Int) else if c.f0 < 0 then 9 else if ¬ (last = true ∧ c.f1 = b) ∧ c.f1 - b ≠ 1 ∧ c.f1 - b ≠ -1 then 6 else if (i : Int) > 0 ∧ c.f0 - a < (if last = true ∧ c.f1 = b then 0 else 2419199) then 7 else 0) := by
    intro one ho
    rw [h1]
    by_cases q1 : (i : Int) > 200
    · simp only [if_pos q1]; rfl
    · simp only [if_neg q1]
      by_cases q2 : c.f0 < 0
      · simp only [if_pos q2]; rfl
      · simp only [if_neg q2]
        by_cases q3 : last = true ∧ c.f1 = b
        · have s : (c.f1 == b) = true := by simp [q3.2]
          rw [s, if_neg (by simp [q3.1])]
          simp only [if_pos q3, if_true, if_neg (show ¬ (¬ (last = true ∧ c.f1 = b) ∧ c.f1 - b ≠ 1 ∧ c.f1 - b ≠ -1) from fun h => h.1 q3)]
          by_cases q4 : (i : Int) > 0 ∧ c.f0 < a
          · rw [if_pos q4]; simp only [if_pos (show (i : Int) > 0 ∧ c.f0 - a < 0 by omega)]; rfl
          · rw [if_neg q4]; simp only [if_neg (show ¬ ((i : Int) > 0 ∧ c.f0 - a < 0) by omega)]; rfl
        · have q3' : ¬ (last = true ∧ (c.f1 == b) = true) := by rw [beq_iff_eq]; exact q3
          simp only [if_neg q3]
          cases one with
          | true =>
            have o := ho.1 rfl
            have s : (c.f1 == b) = false := by rw [beq_eq_false_iff_ne]; omega
            rw [if_neg (by simp), s]
            simp only [Bool.false_eq_true, if_false, if_neg (show ¬ (¬ (last = true ∧ c.f1 = b) ∧ c.f1 - b ≠ 1 ∧ c.f1 - b ≠ -1) from fun h => by omega)]
            by_cases q4 : (i : Int) > 0 ∧ c.f0 - a < 2419199
            · simp only [if_pos q4]; rfl
            · simp only [if_neg q4]; rfl
          | false =>
            have o : ¬ (c.f1 - b = 1 ∨ c.f1 - b = -1) := fun h => by have := ho.2 h; simp at this
            rw [if_pos ⟨rfl, q3'⟩]
            simp only [if_pos (show ¬ (last = true ∧ c.f1 = b) ∧ c.f1 - b ≠ 1 ∧ c.f1 - b ≠ -1 from ⟨q3, by omega, by omega⟩)]; rfl
  by_cases hs : -9223372036854775808 ≤ c.f1 - b ∧ c.f1 - b ≤ 9223372036854775807
  · rw [if_pos hs]
    simp only [if_true]
    by_cases h3 : c.f1 - b = 1
    · rw [if_pos h3]; exact key true (by simp [h3])
    · rw [if_neg h3]
      refine key _ ?_
      rw [beq_iff_eq]; omega
  · rw [if_neg hs]
    simp only [Bool.false_eq_true, if_false]
    exact key false (by constructor; · intro h; exact absurd h (by simp)
                        · intro h; omega)
theorem ref_rcheck_loop (l : List S40) (hl : l.length ≤ 9223372036854775806) (hw : WR l) (rest : List S40) : ∀ (pre : List S40) (a b : Int) (k : Nat), l = pre ++ rest → I64 b → ((pre.length : Int) > 0 → 0 ≤ a ∧ I64 a) →
    (if pre.length = 0 then 0 else (rd_T40 l ((pre.length - 1 : Nat) : Int)).f1) = b → ((pre.length : Int) > 0 → (rd_T40 l ((pre.length - 1 : Nat) : Int)).f0 = a) → 3 * rest.length < k →
    epactref12_Check.l0 k l (pre.length : Int) = some (let r := RecP.chk (rest.map toR) pre.length ⟨a, b⟩; r) := by
  induction rest with
  | nil =>
    intro pre a b k e _ _ _ _ hk
    obtain ⟨k, rfl⟩ : ∃ m, k = m + 1 := ⟨k - 1, by omega⟩
    have : l.length = pre.length := by rw [e]; simp
    simp only [epactref12_Check.l0, List.map_nil, RecP.chk]
    rw [if_neg (by omega), this]
  | cons x rest ih =>
    intro pre a b k e hb ha hpb hpa hk
    simp only [List.length_cons] at hk
    obtain ⟨k, rfl⟩ : ∃ m, k = m + 3 := ⟨k - 3, by omega⟩
    have hlen : l.length = pre.length + (rest.length + 1) := by rw [e]; simp
    have hr : rd_T40 l (pre.length : Int) = x := by rw [e]; exact rdr_at pre rest x
    have hx := hw x (by rw [e]; simp)
    rw [ref_rcheck_round l pre.length (by omega) hl a b k hb ha x hr hx rest.isEmpty (isEmpty_last rest _ _ hlen (by omega)) hpb hpa]
    simp only [List.map_cons, RecP.chk]
    have em : (rest.map toR).isEmpty = rest.isEmpty := by cases rest <;> rfl
    rw [em]
    by_cases w : RecP.wr pre.length ⟨a, b⟩ (toR x) rest.isEmpty = 0
    · rw [if_pos w, if_pos w]
      have w' := (RecP.wr_zero _ _ _ _).1 w
      have h0 : (toR x).at_ = x.f0 := rfl
      have hp : rd_T40 l (((pre ++ [x]).length - 1 : Nat) : Int) = x := by
        rw [show (pre ++ [x]).length - 1 = pre.length by simp]; exact hr
      have := ih (pre ++ [x]) x.f0 x.f1 k (by rw [e]; simp) hx.2 (fun _ => ⟨by rw [← h0]; exact w'.2.1, hx.1⟩) (by rw [if_neg (by simp), hp]) (fun _ => by rw [hp]) (by omega)
      simp only [List.length_append, List.length_cons, List.length_nil] at this
      rw [show ((pre.length : Int) + 1) = ((pre.length + (0 + 1) : Nat) : Int) by omega, this]
      rw [show ((pre.length + (0 + 1) : Nat) : Int) = (pre.length : Int) + 1 by omega]
      rfl
    · rw [if_neg w, if_neg w]
theorem ref_rcheck_law (l : List S40) (hl : l.length ≤ 9223372036854775806) (hw : WR l) (k : Nat) (hk : 3 * l.length < k) : epactref12_Check.f k l = some (RecP.check (l.map toR)) := by
  unfold epactref12_Check.f RecP.check
  have := ref_rcheck_loop l hl hw l [] (-2419199) 0 k rfl (by unfold I64; omega) (by simp) (by simp) (by simp) hk
  simp only [List.length_nil, Int.natCast_zero] at this
  rw [this]; rfl
theorem ref_rright_law (l : List S40) (hl : l.length ≤ 9223372036854775806) (hw : WR l) (k : Nat) (hk : 3 * l.length < k) : epactref12_Right.f k l = some ((RecP.check (l.map toR)).2 == 0) := by
  unfold epactref12_Right.f
  rw [ref_rcheck_law l hl hw k hk]; rfl
theorem ref_leaps_law (l : List S40) (hl : l.length ≤ 9223372036854775806) : epactref12_leaps.f l = some ((lv l).length : Int) := by
  unfold epactref12_leaps.f
  by_cases h0 : (l.length : Int) > 0
  · rw [if_pos h0, w64 (by omega) (by omega), if_pos (by omega), if_pos (by omega), show ((l.length : Int) - 1) = ((l.length - 1 : Nat) : Int) by omega, ahead_law l (l.length - 1) (by omega) hl]
    simp only [Option.bind_some]
    have I := lp_idx (l.map toR) 0 (by rw [List.length_map]; omega)
    simp only [List.length_map] at I
    rw [rdr_map, rdr_map] at I
    have e1 : ∀ x : S40, (toR x).corr = x.f1 := fun _ => rfl
    rw [e1, e1] at I
    rw [lv_len]
    have pe : (if l.length - 1 = 0 then 0 else (rd_T40 l ((l.length - 1 - 1 : Nat) : Int)).f1) = (if l.length = 1 then 0 else (rd_T40 l ((l.length - 2 : Nat) : Int)).f1) := by
      by_cases q : l.length = 1
      · rw [if_pos (by omega), if_pos q]
      · rw [if_neg (by omega), if_neg q, show l.length - 1 - 1 = l.length - 2 by omega]
    rw [pe]
    by_cases hq : (rd_T40 l ((l.length - 1 : Nat) : Int)).f1 = (if l.length = 1 then 0 else (rd_T40 l ((l.length - 2 : Nat) : Int)).f1)
    · rw [if_pos hq, (I.1 hq).1]
    · rw [if_neg hq, (I.2 hq).1]
  · rw [if_neg h0]
    have := lv_le l
    have : (lv l).length = l.length := by omega
    rw [this]
theorem ref_rexpiry_law (l : List S40) (hl : l.length ≤ 9223372036854775806) : epactref12_Expiry.f l = some (exOf (RecP.ex 0 (l.map toR))) := by
  unfold epactref12_Expiry.f
  rw [ref_leaps_law l hl]
  simp only [Option.bind_some]
  cases h : RecP.ex 0 (l.map toR) with
  | some e =>
    obtain ⟨h1, h2, _⟩ := ex_at l e h
    rw [if_neg (by omega), if_pos (by omega), if_pos (by omega), h2]; rfl
  | none => rw [ex_no l h, if_pos rfl]; rfl
theorem ref_div_law (a b : Int) (ha : I64 a) (hb : I64 b) (h : 1 ≤ b) : epactref01_Div.f a b = some (a / b, a % b, true) := by
  have := div_law a b ha hb h
  unfold num_Div.f at this
  unfold epactref01_Div.f
  exact this
theorem ref_table_loop (l : List S40) (hl : l.length ≤ 400) (rest : List S40) : ∀ (pre : List S40) (acc : List LeapP.L) (b : RecP.R) (k : Nat), lv l = pre ++ rest → acc.length = pre.length → RecP.G b (rest.map toR) → -400 ≤ b.corr - rest.length → b.corr + rest.length ≤ 400 → rest.length + 10610 < k →
    epactref12_Table.l0 k l ((lv l).length : Int) b.corr (pre.length : Int) (acc.map frL) false 0 =
      some (match RecP.unr b.corr (rest.map toR) with
        | none => ([], false, 0, false)
        | some ys => tabOut (if (LeapP.check (acc ++ ys) (RecP.ex 0 (l.map toR)).isSome (RecP.expOf (RecP.ex 0 (l.map toR)) (RecP.lastR b (rest.map toR)).corr)).2 = 0 then some (acc ++ ys, (RecP.ex 0 (l.map toR)).isSome, RecP.expOf (RecP.ex 0 (l.map toR)) (RecP.lastR b (rest.map toR)).corr) else none)) := by
  have le := lv_le l
  induction rest with
  | nil =>
    intro pre acc b k e ha g b1 b2 hk
    obtain ⟨k, rfl⟩ : ∃ m, k = m + 1 := ⟨k - 1, by omega⟩
    have e' : (lv l).length = pre.length := by rw [e]; simp
    simp only [epactref12_Table.l0, List.map_nil, RecP.unr, RecP.lastR, List.append_nil]
    rw [if_neg (by omega)]
    cases hex : RecP.ex 0 (l.map toR) with
    | some x =>
      obtain ⟨h1, h2, _⟩ := ex_at l x hex
      rw [if_pos (by omega), if_pos (by omega), h2]
      rw [ref_right_law _ _ _ (by rw [List.length_map]; omega) k (by rw [List.length_map]; simp only [List.length_nil] at hk; omega), toL_frL]
      simp only [Option.bind_some]
      by_cases hc : (LeapP.check acc true (wrap64 (x - b.corr))).2 = 0
      · rw [if_pos (by simp [hc]), if_pos (show (LeapP.check acc (some x).isSome (RecP.expOf (some x) b.corr)).2 = 0 from hc)]; rfl
      · rw [if_neg (by simp [hc]), if_neg (show ¬ (LeapP.check acc (some x).isSome (RecP.expOf (some x) b.corr)).2 = 0 from hc)]; rfl
    | none =>
      have h1 := ex_no l hex
      rw [if_neg (by rw [h1]; omega)]
      rw [ref_right_law _ _ _ (by rw [List.length_map]; omega) k (by rw [List.length_map]; simp only [List.length_nil] at hk; omega), toL_frL]
      simp only [Option.bind_some]
      by_cases hc : (LeapP.check acc false 0).2 = 0
      · rw [if_pos (by simp [hc]), if_pos (show (LeapP.check acc (none : Option Int).isSome (RecP.expOf none b.corr)).2 = 0 from hc)]; rfl
      · rw [if_neg (by simp [hc]), if_neg (show ¬ (LeapP.check acc (none : Option Int).isSome (RecP.expOf none b.corr)).2 = 0 from hc)]; rfl
  | cons x rest ih =>
    intro pre acc b k e ha g b1 b2 hk
    simp only [List.length_cons] at hk b1 b2
    obtain ⟨k, rfl⟩ : ∃ m, k = m + 1 := ⟨k - 1, by omega⟩
    have hlen : (lv l).length = pre.length + (rest.length + 1) := by rw [e]; simp
    have hr : rd_T40 l (pre.length : Int) = x := by
      have h1 : rd_T40 (lv l) (pre.length : Int) = x := by rw [e]; exact rdr_at pre rest x
      rw [← h1]
      have hlt : pre.length < (lv l).length := by omega
      have hlt2 : pre.length < (RecP.lp 0 (l.map toR)).length := by rw [← lv_len]; exact hlt
      unfold rd_T40 lv
      rw [Int.toNat_natCast]
      simp [List.getD, List.getElem?_take, hlt2]
    obtain ⟨g1, g2, g3, g4⟩ := g
    have d0 : (toR x).at_ = x.f0 := rfl
    have d1 : (toR x).corr = x.f1 := rfl
    rw [d1] at g2
    simp only [epactref12_Table.l0]
    rw [if_pos (by omega), if_pos (by omega), if_pos (by omega), hr, w64 (n := x.f1 - b.corr) (by omega) (by omega)]
    simp only [List.map_cons, RecP.unr, RecP.lastR]
    rw [d0, d1]
    have wa : wrap64 (wrap64 (x.f0 - b.corr) + 1) = wrap64 (x.f0 - b.corr + 1) := by unfold wrap64; omega
    have body : ∀ q : Int, q = wrap64 (x.f0 - b.corr - min (x.f1 - b.corr) 0) → ((epactref01_Div.f q 86400).bind fun bt => if bt.2.1 = 0 then if (acc.map frL).length < 5864062014805 then epactref12_Table.l0 k l ((lv l).length : Int) x.f1 (wrap64 ((pre.length : Int) + 1)) (acc.map frL ++ [(⟨wrap64 (bt.1 - 1), x.f1 - b.corr, false⟩ : S54)]) false 0 else none else some ([], false, 0, false)) =
        some (match (if wrap64 (x.f0 - b.corr - min (x.f1 - b.corr) 0) % 86400 = 0 then (RecP.unr x.f1 (rest.map toR)).map (fun y => (⟨wrap64 (x.f0 - b.corr - min (x.f1 - b.corr) 0) / 86400 - 1, x.f1 - b.corr, false⟩ : LeapP.L) :: y) else none) with
        | none => ([], false, 0, false)
        | some ys => tabOut (if (LeapP.check (acc ++ ys) (RecP.ex 0 (l.map toR)).isSome (RecP.expOf (RecP.ex 0 (l.map toR)) (RecP.lastR (toR x) (rest.map toR)).corr)).2 = 0 then some (acc ++ ys, (RecP.ex 0 (l.map toR)).isSome, RecP.expOf (RecP.ex 0 (l.map toR)) (RecP.lastR (toR x) (rest.map toR)).corr) else none)) := by
      intro q hq
      have wb := wrap_bd (x.f0 - b.corr - min (x.f1 - b.corr) 0)
      rw [hq, ref_div_law _ _ wb (by unfold I64; omega) (by omega)]
      simp only [Option.bind_some]
      by_cases hm : wrap64 (x.f0 - b.corr - min (x.f1 - b.corr) 0) % 86400 = 0
      · unfold I64 at wb
        rw [if_pos hm, if_pos hm, if_pos (by rw [List.length_map]; omega), w64 (n := wrap64 (x.f0 - b.corr - min (x.f1 - b.corr) 0) / 86400 - 1) (by omega) (by omega), w64 (n := (pre.length : Int) + 1) (by omega) (by omega)]
        have := ih (pre ++ [x]) (acc ++ [⟨wrap64 (x.f0 - b.corr - min (x.f1 - b.corr) 0) / 86400 - 1, x.f1 - b.corr, false⟩]) (toR x) k (by rw [e]; simp) (by simp [ha]) g4 (by rw [d1]; omega) (by rw [d1]; omega) (by omega)
        rw [d1] at this
        simp only [List.map_append, List.map_cons, List.map_nil, frL, List.length_append, List.length_cons, List.length_nil] at this
        rw [show ((pre.length : Int) + 1) = ((pre.length + (0 + 1) : Nat) : Int) by omega]
        refine this.trans ?_
        cases RecP.unr x.f1 (rest.map toR) with
        | none => rfl
        | some ys => simp
      · rw [if_neg hm, if_neg hm]
    by_cases hs : x.f1 - b.corr < 0
    · rw [if_pos hs]
      refine body _ ?_
      rw [wa]; congr 1; omega
    · rw [if_neg hs]
      refine body _ ?_
      congr 1; omega
theorem ref_rtable_law (l : List S40) (h : RecP.G RecP.start (RecP.lp 0 (l.map toR))) (hn : l.length ≤ 201) (k : Nat) (hk : 10900 < k) : epactref12_Table.f k l = some (tabOut (RecP.table (l.map toR))) := by
  have le := lv_le l
  unfold epactref12_Table.f
  rw [ref_leaps_law l (by omega)]
  simp only [Option.bind_some]
  have sc : RecP.start.corr = 0 := rfl
  have := ref_table_loop l (by omega) (lv l) [] [] RecP.start k rfl rfl (by rw [lv_map]; exact h) (by rw [sc]; omega) (by rw [sc]; omega) (by omega)
  rw [sc, lv_map] at this
  simp only [List.map_nil, List.length_nil, Int.natCast_zero, List.nil_append] at this
  rw [this]
  unfold RecP.table
  cases RecP.unr 0 (RecP.lp 0 (l.map toR)) <;> rfl
end Go.Proofs.Ytlfnkamhokfeaaa.Pure
