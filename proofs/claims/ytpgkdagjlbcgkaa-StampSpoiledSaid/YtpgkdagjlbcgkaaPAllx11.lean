-- Written for this claim by wip/tools of this repo (after the kit's print; own contracts laid in).
import Derived.Test.YtpgkdagjlbcgkaaPAllx0
import Derived.Test.YtpgkdagjlbcgkaaPAllx1
import Derived.Test.YtpgkdagjlbcgkaaPAllx2
import Derived.Test.YtpgkdagjlbcgkaaPAllx3
namespace Go.Proofs.Ytpgkdagjlbcgkaa.PAll
open Go.RowKit Go.Proofs.YtpgkdagjlbcgkaaW.PrintWords Go.Proofs.YtpgkdagjlbcgkaaW.PrintLast Go.Proofs.YtpgkdagjlbcgkaaW.PrintMore
attribute [local go_sem] max2_int min2_int max_two min_two max_three min_three max_four min_four   -- for this text's walks alone
set_option linter.unusedVariables false
set_option linter.unusedSimpArgs false

/-! ### epactlaw04_StampSpoiled: function 7 -/
-- by hand: wip/hand
/-- a text with one byte of another kind -/
def epactlaw04_StampSpoiled.sp (s : ByteArray) (k : Nat) (c : Int) : ByteArray := ⟨(s.data.toList.set k (UInt8.ofNat c.toNat)).toArray⟩
def epactlaw04_StampSpoiled.g (k : Nat) (t0 : Bool) (s : ByteArray) (kk : Nat) (c : Int) : Option Bool :=
  (stamp_Parse.f k (epactlaw04_StampSpoiled.sp s kk c)).bind fun b2 => (stamp_Parse.f k (s.extract 0 kk)).bind fun b3 => (stamp_Parse.f k (s ++ (epactlaw04_StampSpoiled.sp s kk c).extract kk (kk + 1))).bind fun b4 =>
    if t0 = true ∧ b3.2.2 = false ∧ b4.2.2 = false then
      (if b2.2.2 = true then (stamp_Text.f k b2.1 b2.2.1).bind fun b5 => (if b5.1.toList = (epactlaw04_StampSpoiled.sp s kk c).toList ∧ ((48 ≤ c ∧ c ≤ 57) ∨ (epactlaw04_StampSpoiled.sp s kk c).toList = s.toList) then some true else none)
      else if (epactlaw04_StampSpoiled.sp s kk c).toList = s.toList then none else some true)
    else none
def epactlaw04_StampSpoiled.f (k : Nat) (a0 : Int) (a1 : Int) (a2 : Int) (a3 : Int) : Option (Bool) :=
  (epactlaw04_small.f k).bind fun t0 => (stamp_Text.f k a0 a1).bind fun b1 =>
    if b1.2 = true ∧ 0 ≤ a2 ∧ a2 < b1.1.size then (if b1.1.size ≤ 1000 ∧ 0 ≤ a3 ∧ a3 ≤ 255 then epactlaw04_StampSpoiled.g k t0 b1.1 a2.toNat a3 else none) else some t0
theorem epactlaw04_StampSpoiled.get (l : List UInt8) (j : Nat) (hj : j < l.length) : (⟨l.toArray⟩ : ByteArray).get! j = l[j] := by
  show (l.toArray)[j]! = _
  rw [getElem!_pos l.toArray j (by simpa using hj)]; simp
theorem epactlaw04_StampSpoiled.frz (W : World) (s : ByteArray) (kk : Nat) (hk : kk < s.size) : (Go.Lib.bytesWorld W 5 s).frozen? ⟨W.heap.size, kk, none⟩ = false := by
  have := stamp_fill.Out.open_ (stamp_fill.Out.start W s) kk hk
  exact this
theorem epactlaw04_StampSpoiled.back (W : World) (s : ByteArray) (kk : Nat) (hk : kk < s.size) (c : Int) (c0 : 0 ≤ c) (c1 : c ≤ 255) (cap : Nat) :
    (convert 35 9 (.slice (some ⟨W.heap.size, 0, none⟩) s.size cap)).run Try.prog ((Go.Lib.bytesWorld W 5 s).setCell ⟨W.heap.size, kk, none⟩ (.int .u8 c)) = .ok (.string (epactlaw04_StampSpoiled.sp s kk c)) ((Go.Lib.bytesWorld W 5 s).setCell ⟨W.heap.size, kk, none⟩ (.int .u8 c)) := by
  have hl : (s.data.toList.set kk (UInt8.ofNat c.toNat)).length = s.size := by simp
  have := Go.run_convert_bytes_back (P := Try.prog) ((Go.Lib.bytesWorld W 5 s).setCell ⟨W.heap.size, kk, none⟩ (.int .u8 c)) 35 9 5 ⟨W.heap.size, 0, none⟩ cap (s.data.toList.set kk (UInt8.ofNat c.toNat)) Try.underlying35 Try.underlying5 Try.underlying9 (fun j hj => by
    rw [hl] at hj
    have hj2 : j < s.data.size := hj
    have hk2 : kk < s.data.size := hk
    rw [add_plain]
    have hz : s.size ≤ (Go.Lib.bytesCells W 5 s).size := by simp [Go.Lib.bytesCells]
    have h0 := Go.Lib.bytesWorld_cell W 5 s j hj
    simp only [World.cell?, Go.Lib.bytesWorld_at_new] at h0
    simp at h0
    simp only [World.cell?, World.setCell, Array.getElem?_modify, if_true, Go.Lib.bytesWorld_at_new, Option.map_some]
    by_cases e : j = kk
    · subst e
      simp [Array.getElem?_setIfInBounds, show j < (Go.Lib.bytesCells W 5 s).size by omega]
      omega
    · have e2 : ¬ kk = j := fun q => e q.symm
      show ((Go.Lib.bytesCells W 5 s).setIfInBounds kk (Value.int .u8 c))[j]? = _
      rw [Array.getElem?_setIfInBounds_ne e2, h0, List.getElem_set_ne e2]
      simp
      rw [Array.getElem?_eq_getElem hj2]; rfl)
  rw [hl] at this
  exact this
theorem epactlaw04_StampSpoiled.below (W : World) (s : ByteArray) (b : Nat) (w : World) (h : Below b w W) (hb : b ≤ W.heap.size) (kk : Nat) (c : Value) : Below b w ((Go.Lib.bytesWorld W 5 s).setCell ⟨W.heap.size, kk, none⟩ c) := by
  refine Below.setCell ?_ hb _
  refine h.trans ?_
  exact ⟨by simp [Go.Lib.bytesWorld, World.freeze]; try rfl, by simp [Go.Lib.bytesWorld, World.freeze]; try rfl, by simp [Go.Lib.bytesWorld, World.freeze]; try rfl, by rw [Go.Lib.bytesWorld_size]; omega, fun j hj => Go.Lib.bytesWorld_at_old W 5 s j (by omega)⟩
theorem epactlaw04_StampSpoiled.cut (t : ByteArray) (kk : Nat) (hk : kk < t.size) (W : World) : (Instr.slice 9 (.string t) (some (.int .i64 (kk : Int))) (some (.int .i64 ((kk : Int) + 1))) none).run Try.prog W = .ok (.string (t.extract kk (kk + 1))) W := by
  have h0 : (0 : Int) ≤ (kk : Int) + 1 := by omega
  have h1 : (kk : Int) ≤ (kk : Int) + 1 := by omega
  have h2 : (kk : Int) + 1 ≤ (t.size : Int) := by omega
  have h3 : ((kk : Int) + 1).toNat = kk + 1 := by omega
  simp [Instr.slice, run_underlying Try.underlying9, Instr.sliceBounds, run_sliceBound, sliced, h0, h1, h2, h3]
set_option maxHeartbeats 8000000 in
set_option maxRecDepth 100000 in
theorem epactlaw04_StampSpoiled.calls (k : Nat) (a0 : Int) (a1 : Int) (a2 : Int) (a3 : Int) (r : Bool) (w : World) (h : epactlaw04_StampSpoiled.f k a0 a1 a2 a3 = some r) :
    Calls Try.prog 7 #[.int .i64 a0, .int .i64 a1, .int .i64 a2, .int .u8 a3] w fun e w' => e = .returned (.bool r) ∧ Below w.heap.size w w' := by
  unfold epactlaw04_StampSpoiled.f at h
  obtain ⟨t0, h0, g0⟩ := Option.bind_eq_some_iff.mp h
  clear h
  obtain ⟨⟨s, ok⟩, h1, h⟩ := Option.bind_eq_some_iff.mp g0
  clear g0
  simp only [] at h
  have A0 := Aside0.mk h0
  have A1 := Aside0.mk h1
  clear h0 h1
  by_cases hc : ok = true ∧ 0 ≤ a2 ∧ a2 < s.size
  · rw [if_pos hc] at h
    obtain ⟨rfl, k0, k1⟩ := hc
    by_cases hd : s.size ≤ 1000 ∧ 0 ≤ a3 ∧ a3 ≤ 255
    · rw [if_pos hd] at h
      obtain ⟨s3, c0, c1⟩ := hd
      obtain ⟨kk, rfl⟩ : ∃ kk : Nat, a2 = (kk : Int) := ⟨a2.toNat, by omega⟩
      have hk : kk < s.size := by omega
      rw [Int.toNat_natCast] at h
      unfold epactlaw04_StampSpoiled.g at h
      have hsz : (epactlaw04_StampSpoiled.sp s kk a3).size = s.size := by
        show (s.data.toList.set kk (UInt8.ofNat a3.toNat)).toArray.size = _
        simp
      have hcv := fun W : World => Go.Lib.run_convert_string_bytes (P := Try.prog) W 9 35 5 s Try.underlying9 Try.underlying35 Try.underlying5
      have hcl := fun W : World => Go.Lib.bytesWorld_cell W 5 s kk hk
      have hfz := fun W : World => epactlaw04_StampSpoiled.frz W s kk hk
      have hbk := fun (W : World) (cap : Nat) => epactlaw04_StampSpoiled.back W s kk hk a3 c0 c1 cap
      generalize hsp : epactlaw04_StampSpoiled.sp s kk a3 = t at h hsz hbk
      have hct := fun W : World => epactlaw04_StampSpoiled.cut t kk (by omega) W
      have hus : (t.extract kk (kk + 1)).size ≤ 1000 := by rw [ByteArray.size_extract]; omega
      generalize hu : t.extract kk (kk + 1) = u at h hct hus
      have hcat : (9223372036854775807 < s.size + u.size) = False := eq_false (by omega)
      clear hus hu
      obtain ⟨⟨x, y, is_⟩, h2, g2⟩ := Option.bind_eq_some_iff.mp h
      clear h
      obtain ⟨⟨x2, y2, sh⟩, h3, g3⟩ := Option.bind_eq_some_iff.mp g2
      clear g2
      obtain ⟨⟨x3, y3, lo⟩, h4, h⟩ := Option.bind_eq_some_iff.mp g3
      clear g3
      simp only [] at h
      by_cases hz : t0 = true ∧ sh = false ∧ lo = false
      · rw [if_pos hz] at h
        obtain ⟨rfl, rfl, rfl⟩ := hz
        have A2 := Aside0.mk h2
        have A3 := Aside0.mk h3
        have A4 := Aside0.mk h4
        clear h2 h3 h4
        cases is_ with
        | true =>
          rw [if_pos rfl] at h
          obtain ⟨⟨u5, z5⟩, h5, h6⟩ := Option.bind_eq_some_iff.mp h
          clear h
          by_cases he : u5.toList = t.toList ∧ ((48 ≤ a3 ∧ a3 ≤ 57) ∨ t.toList = s.toList)
          · rw [if_pos (show _ ∧ _ from he)] at h6
            obtain rfl := Option.some.inj h6
            clear h6
            have A5 := Aside0.mk h5
            clear h5
            obtain ⟨he1, he2⟩ := he
            have hb1 : (u5.toList == t.toList) = true := beq_iff_eq.mpr he1
            clear he1
            by_cases hdig : 48 ≤ a3 ∧ a3 ≤ 57
            · obtain ⟨q1, q2⟩ := hdig
              clear he2
              go_enter Try.func7, Try.ntmps7
              go_wp2_with (first | (go_at_call 8; (with_reducible refine (epactlaw04_small.calls k _ _ A0.out).mono ?_); rintro e w1 ⟨rfl, hb⟩; have HB1 := Aside0.mk hb; clear hb) | (go_at_call 13; (with_reducible refine (stamp_Text.calls k _ _ _ _ _ A1.out).mono ?_); rintro e w2 ⟨rfl, hb⟩; have HB2 := Aside0.mk (below_step HB1.out hb); clear hb) | (go_at_call 15; (with_reducible refine (stamp_Parse.calls k _ _ _ _ _ A2.out).mono ?_); rintro e w3 ⟨rfl, hb⟩; have HB3 := Aside0.mk (below_step (epactlaw04_StampSpoiled.below _ s _ _ HB2.out (below_size HB2.out) kk _) hb); clear hb) | (go_at_call 15; (with_reducible refine (stamp_Parse.calls k _ _ _ _ _ A3.out).mono ?_); rintro e w4 ⟨rfl, hb⟩; have HB4 := Aside0.mk (below_step HB3.out hb); clear hb) | (go_at_call 15; (with_reducible refine (stamp_Parse.calls k _ _ _ _ _ A4.out).mono ?_); rintro e w5 ⟨rfl, hb⟩; have HB5 := Aside0.mk (below_step HB4.out hb); clear hb) | (go_at_call 13; (with_reducible refine (stamp_Text.calls k _ _ _ _ _ A5.out).mono ?_); rintro e w6 ⟨rfl, hb⟩; have HB6 := Aside0.mk (below_step HB5.out hb); clear hb))
              go_ret
              exact ⟨rfl, HB6.out⟩
            · have hb2 : (t.toList == s.toList) = true := beq_iff_eq.mpr (he2.resolve_left hdig)
              clear he2
              by_cases q1 : 48 ≤ a3
              · have q2 : ¬ a3 ≤ 57 := fun q => hdig ⟨q1, q⟩
                clear hdig
                go_enter Try.func7, Try.ntmps7
                go_wp2_with (first | (go_at_call 8; (with_reducible refine (epactlaw04_small.calls k _ _ A0.out).mono ?_); rintro e w1 ⟨rfl, hb⟩; have HB1 := Aside0.mk hb; clear hb) | (go_at_call 13; (with_reducible refine (stamp_Text.calls k _ _ _ _ _ A1.out).mono ?_); rintro e w2 ⟨rfl, hb⟩; have HB2 := Aside0.mk (below_step HB1.out hb); clear hb) | (go_at_call 15; (with_reducible refine (stamp_Parse.calls k _ _ _ _ _ A2.out).mono ?_); rintro e w3 ⟨rfl, hb⟩; have HB3 := Aside0.mk (below_step (epactlaw04_StampSpoiled.below _ s _ _ HB2.out (below_size HB2.out) kk _) hb); clear hb) | (go_at_call 15; (with_reducible refine (stamp_Parse.calls k _ _ _ _ _ A3.out).mono ?_); rintro e w4 ⟨rfl, hb⟩; have HB4 := Aside0.mk (below_step HB3.out hb); clear hb) | (go_at_call 15; (with_reducible refine (stamp_Parse.calls k _ _ _ _ _ A4.out).mono ?_); rintro e w5 ⟨rfl, hb⟩; have HB5 := Aside0.mk (below_step HB4.out hb); clear hb) | (go_at_call 13; (with_reducible refine (stamp_Text.calls k _ _ _ _ _ A5.out).mono ?_); rintro e w6 ⟨rfl, hb⟩; have HB6 := Aside0.mk (below_step HB5.out hb); clear hb))
                go_ret
                exact ⟨rfl, HB6.out⟩
              · clear hdig
                go_enter Try.func7, Try.ntmps7
                go_wp2_with (first | (go_at_call 8; (with_reducible refine (epactlaw04_small.calls k _ _ A0.out).mono ?_); rintro e w1 ⟨rfl, hb⟩; have HB1 := Aside0.mk hb; clear hb) | (go_at_call 13; (with_reducible refine (stamp_Text.calls k _ _ _ _ _ A1.out).mono ?_); rintro e w2 ⟨rfl, hb⟩; have HB2 := Aside0.mk (below_step HB1.out hb); clear hb) | (go_at_call 15; (with_reducible refine (stamp_Parse.calls k _ _ _ _ _ A2.out).mono ?_); rintro e w3 ⟨rfl, hb⟩; have HB3 := Aside0.mk (below_step (epactlaw04_StampSpoiled.below _ s _ _ HB2.out (below_size HB2.out) kk _) hb); clear hb) | (go_at_call 15; (with_reducible refine (stamp_Parse.calls k _ _ _ _ _ A3.out).mono ?_); rintro e w4 ⟨rfl, hb⟩; have HB4 := Aside0.mk (below_step HB3.out hb); clear hb) | (go_at_call 15; (with_reducible refine (stamp_Parse.calls k _ _ _ _ _ A4.out).mono ?_); rintro e w5 ⟨rfl, hb⟩; have HB5 := Aside0.mk (below_step HB4.out hb); clear hb) | (go_at_call 13; (with_reducible refine (stamp_Text.calls k _ _ _ _ _ A5.out).mono ?_); rintro e w6 ⟨rfl, hb⟩; have HB6 := Aside0.mk (below_step HB5.out hb); clear hb))
                go_ret
                exact ⟨rfl, HB6.out⟩
          · rw [if_neg (show ¬ (_ ∧ _) from he)] at h6; cases h6
        | false =>
          rw [if_neg (show ¬ false = true by decide)] at h
          by_cases he : t.toList = s.toList
          · rw [if_pos he] at h; cases h
          · rw [if_neg he] at h
            obtain rfl := Option.some.inj h
            have hb1 : (t.toList == s.toList) = false := beq_eq_false_iff_ne.mpr he
            have hb2 : (t.toList != s.toList) = true := bne_iff_ne.mpr he
            go_enter Try.func7, Try.ntmps7
            go_wp2_with (first | (go_at_call 8; (with_reducible refine (epactlaw04_small.calls k _ _ A0.out).mono ?_); rintro e w1 ⟨rfl, hb⟩; have HB1 := Aside0.mk hb; clear hb) | (go_at_call 13; (with_reducible refine (stamp_Text.calls k _ _ _ _ _ A1.out).mono ?_); rintro e w2 ⟨rfl, hb⟩; have HB2 := Aside0.mk (below_step HB1.out hb); clear hb) | (go_at_call 15; (with_reducible refine (stamp_Parse.calls k _ _ _ _ _ A2.out).mono ?_); rintro e w3 ⟨rfl, hb⟩; have HB3 := Aside0.mk (below_step (epactlaw04_StampSpoiled.below _ s _ _ HB2.out (below_size HB2.out) kk _) hb); clear hb) | (go_at_call 15; (with_reducible refine (stamp_Parse.calls k _ _ _ _ _ A3.out).mono ?_); rintro e w4 ⟨rfl, hb⟩; have HB4 := Aside0.mk (below_step HB3.out hb); clear hb) | (go_at_call 15; (with_reducible refine (stamp_Parse.calls k _ _ _ _ _ A4.out).mono ?_); rintro e w5 ⟨rfl, hb⟩; have HB5 := Aside0.mk (below_step HB4.out hb); clear hb))
            go_ret
            exact ⟨rfl, HB5.out⟩
      · rw [if_neg hz] at h; cases h
    · rw [if_neg hd] at h; cases h
  · rw [if_neg hc] at h
    obtain rfl := Option.some.inj h
    clear h
    have go0 : ok = false ∨ (ok = true ∧ a2 < 0) ∨ (ok = true ∧ 0 ≤ a2 ∧ (s.size : Int) ≤ a2) := by
      cases ok
      · exact .inl rfl
      · by_cases q : 0 ≤ a2
        · by_cases z : a2 < (s.size : Int)
          · exact absurd ⟨rfl, q, z⟩ hc
          · exact .inr (.inr ⟨rfl, q, by omega⟩)
        · exact .inr (.inl ⟨rfl, by omega⟩)
    clear hc
    rcases go0 with rfl | ⟨rfl, q1⟩ | ⟨rfl, q1, q2⟩
    all_goals
      go_enter Try.func7, Try.ntmps7
      go_wp2_with (first | (go_at_call 8; (with_reducible refine (epactlaw04_small.calls k _ _ A0.out).mono ?_); rintro e w1 ⟨rfl, hb⟩; have HB1 := Aside0.mk hb; clear hb) | (go_at_call 13; (with_reducible refine (stamp_Text.calls k _ _ _ _ _ A1.out).mono ?_); rintro e w2 ⟨rfl, hb⟩; have HB2 := Aside0.mk (below_step HB1.out hb); clear hb))
      go_ret
      exact ⟨rfl, HB2.out⟩
/-- THE ONE PURE STATEMENT of epactlaw04_StampSpoiled -/
def epactlaw04_StampSpoiled.Pure : Prop := ∀ (a0 : Int) (a1 : Int) (a2 : Int) (a3 : Int), (Lit.int .i64 a0).wf = true → (Lit.int .i64 a1).wf = true → (Lit.int .i64 a2).wf = true → (Lit.int .u8 a3).wf = true → ∃ k, epactlaw04_StampSpoiled.f k a0 a1 a2 a3 = some true
theorem epactlaw04_StampSpoiled.walk (P : epactlaw04_StampSpoiled.Pure) (a0 : Int) (a1 : Int) (a2 : Int) (a3 : Int) (w : World) (w0 : (Lit.int .i64 a0).wf = true) (w1 : (Lit.int .i64 a1).wf = true) (w2 : (Lit.int .i64 a2).wf = true) (w3 : (Lit.int .u8 a3).wf = true) :
    Calls Try.prog 7 #[.int .i64 a0, .int .i64 a1, .int .i64 a2, .int .u8 a3] w fun e w' => e = .returned (.bool true) ∧ Below w.heap.size w w' := by
  obtain ⟨k, h⟩ := P a0 a1 a2 a3 w0 w1 w2 w3
  refine (epactlaw04_StampSpoiled.calls k a0 a1 a2 a3 true w h).mono ?_
  rintro e w' ⟨rfl, hd⟩
  exact ⟨rfl, hd⟩

end Go.Proofs.Ytpgkdagjlbcgkaa.PAll
