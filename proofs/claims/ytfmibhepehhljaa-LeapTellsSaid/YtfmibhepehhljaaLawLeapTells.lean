import Derived.Test.YtfmibhepehhljaaRows
import Derived.Test.YtfmibhepehhljaaPAllx9
import Derived.Test.YtfmibhepehhljaaRowAid
import Derived.Test.YtfmibhepehhljaaPureLeapTells
import Derived.WalkKit
import Derived.ProofKit
import Derived.OpenShut
import Derived.ShutString
import Derived.ChangeOld
import Derived.Below
import Derived.SizedLaws
import Derived.Lib.SmallJoins
import Derived.Deep.Strs
namespace Go.Proofs.Ytfmibhepehhljaa.leapTells
open Go.ChangeShapes Go.WideShapes Go.ChangeAt Go.RowKit Go.Joins Go.Deep
open Go.ChangeMaps (open_string shut_string)
set_option linter.unusedVariables false
theorem own : ownKnob Try.prog.godebug = none := by kernel_rfl
theorem laidOut : laidOutB Try.prog = true := by kernel_rfl
set_option maxRecDepth 100000 in
theorem elem26 {H : Type} (enc : TypeId × Value → H) (W : World) (base : Nat) (spare : Nat → Bool) (held : Bool) :
    ∀ (m : Nat) (cs : List Value) (y : DataW H × List MemPlace), DataW.trod enc Try.prog W base spare held m 26 cs = some y → ∃ p : PAll.S26, PAll.k26.K W p cs ∧ ((Lit.int .i64 p.f0).wf = true ∧ (Lit.int .i64 p.f1).wf = true) := by
  intro m cs y h
  obtain ⟨y0, y1, y2, n, _, hl, h0, h1, h2⟩ := trod_struct3 Try.underlying26 h
  have hl : cs.length = 3 := hl.trans (by kernel_rfl)
  obtain ⟨c0, c1, c2, rfl⟩ : ∃ c0 c1 c2, cs = [c0, c1, c2] := by
    match cs, hl with
    | [c0, c1, c2], _ => exact ⟨c0, c1, c2, rfl⟩
  have z0 : Try.prog.cellsOf 3 = 1 := by kernel_rfl
  have h0 : DataW.trod enc Try.prog W base spare held n 3 [c0] = some y0 := by have q := h0; rw [z0] at q; exact q
  obtain ⟨b0, e0, _, w0⟩ := DataW.trod_int Try.underlying3 h0
  obtain rfl : c0 = _ := by simpa using e0
  have z1 : Try.prog.cellsOf 3 = 1 := by kernel_rfl
  have h1 : DataW.trod enc Try.prog W base spare held n 3 [c1] = some y1 := by have q := h1; rw [z1] at q; exact q
  obtain ⟨b1, e1, _, w1⟩ := DataW.trod_int Try.underlying3 h1
  obtain rfl : c1 = _ := by simpa using e1
  have z2 : Try.prog.cellsOf 4 = 1 := by kernel_rfl
  have h2 : DataW.trod enc Try.prog W base spare held n 4 [c2] = some y2 := by have q := h2; rw [z2] at q; exact q
  obtain ⟨b2, e2, _⟩ := DataW.trod_bool Try.underlying4 h2
  obtain rfl : c2 = _ := by simpa using e2
  exact ⟨⟨b0, b1, b2⟩, PAll.k26_mk _ _, w0, w1⟩
set_option maxRecDepth 100000 in
theorem lifted (os : Os) (started : os.Started) (H : Type) (enc : TypeId × Value → H) :
    ReturnsInHanded {} Try.checked os 3 .any (Rows.leapTellsSpec.pre6 enc Try.prog Try.f3 Rows.leapTellsRow.domain false) (Rows.leapTellsSpec.post enc Try.prog Try.f3 false true false false) := by
  refine returnsInHanded_of_change_sized (C := Try.checked) own started (by kernel_rfl) Try.func3
    (ChangeSpec.witness6 (enc := enc) (C := Try.checked) false ⟨#[], #[.agg #[.slice none 0 0, .bool false, .int .i64 0], .int .i64 0, .agg #[.int .i64 0, .int .i64 0, .bool false], .agg #[.slice none 0 0, .bool false, .int .i64 0]], []⟩ 8 (by kernel_rfl) (by kernel_rfl) (by kernel_rfl) (by kernel_rfl)) ?_
  intro W base args ds gs before hval0 hW hcnd hsz0 _
  have hsz : (DataW.weightsEach Try.prog (Try.f3.params.toList ++ Rows.leapTellsSpec.plain.varTypes Try.prog) (ds ++ gs)).all (· ≤ reachBytes) = true := hsz0
  have hval : ∀ (j : Nat) t v, Try.f3.params[j]? = some t → args[j]? = some v → Value.okWide Try.prog W .any base t v := hval0
  have hW' := hW
  obtain ⟨p, q, hA0, hV, rfl, hfz, hnd⟩ := hW
  have hA : DataW.TrodAll enc Try.prog W 0 (fun _ => true) true Try.f3.params.toList args.toList ds p := hA0
  rw [Try.params3] at hA hval hsz
  obtain ⟨v0, vs0, d0, ds0, p0, q0, hargs, rfl, rfl, h0, r0⟩ := trodAll_cons hA
  obtain ⟨v1, vs1, d1, ds1, p1, q1, rfl, rfl, rfl, h1, r1⟩ := trodAll_cons r0
  obtain ⟨v2, vs2, d2, ds2, p2, q2, rfl, rfl, rfl, h2, r2⟩ := trodAll_cons r1
  obtain ⟨v3, vs3, d3, ds3, p3, q3, rfl, rfl, rfl, h3, r3⟩ := trodAll_cons r2
  obtain ⟨rfl, rfl, rfl⟩ := trodAll_nil r3
  obtain rfl : args = #[v0, v1, v2, v3] := by cases args; simp_all
  obtain ⟨rfl, rfl⟩ := trodVars_none hV
  have k0 := h0
  have lt0 : ∀ x ∈ p0, x.block < W.heap.size := by obtain ⟨m, hm⟩ := k0; exact DataW.trod_lt m _ _ _ hm
  obtain ⟨u0_0, u0_1, u0_2, y0_0, y0_1, y0_2, m0, rfl, rfl, rfl, g0_0, g0_1, g0_2⟩ := open_agg3 Try.underlying24 (by kernel_rfl) (by kernel_rfl) (hval 0 24 v0 rfl rfl) h0
  obtain ⟨A0_0, n0_0, c0_0, e0_0⟩ := slice_form Try.underlying22 g0_0
  obtain rfl : u0_0 = .slice A0_0 n0_0 c0_0 := by simpa using e0_0
  obtain ⟨l0_0, rfl, hr0_0, hc0_0, hm0_0, hg0_0⟩ := RowAid.open_row (d := PAll.k26) (z := PAll.z26) (elem26 enc W 0 _ true) Try.underlying22 (by kernel_rfl) g0_0
  obtain ⟨a0_1, e0_1, _⟩ := DataW.trod_bool Try.underlying4 g0_1
  obtain rfl : u0_1 = .bool a0_1 := by simpa using e0_1
  obtain ⟨a0_2, e0_2, _, hw0_2⟩ := DataW.trod_int Try.underlying3 g0_2
  obtain rfl : u0_2 = .int .i64 a0_2 := by simpa using e0_2
  obtain ⟨a1, rfl, rfl, rfl, hw1⟩ := open_int Try.underlying3 (hval 1 3 v1 rfl rfl) h1
  have k2 := h2
  have lt2 : ∀ x ∈ p2, x.block < W.heap.size := by obtain ⟨m, hm⟩ := k2; exact DataW.trod_lt m _ _ _ hm
  obtain ⟨u2_0, u2_1, u2_2, y2_0, y2_1, y2_2, m2, rfl, rfl, rfl, g2_0, g2_1, g2_2⟩ := open_agg3 Try.underlying26 (by kernel_rfl) (by kernel_rfl) (hval 2 26 v2 rfl rfl) h2
  obtain ⟨a2_0, e2_0, _, hw2_0⟩ := DataW.trod_int Try.underlying3 g2_0
  obtain rfl : u2_0 = .int .i64 a2_0 := by simpa using e2_0
  obtain ⟨a2_1, e2_1, _, hw2_1⟩ := DataW.trod_int Try.underlying3 g2_1
  obtain rfl : u2_1 = .int .i64 a2_1 := by simpa using e2_1
  obtain ⟨a2_2, e2_2, _⟩ := DataW.trod_bool Try.underlying4 g2_2
  obtain rfl : u2_2 = .bool a2_2 := by simpa using e2_2
  have k3 := h3
  have lt3 : ∀ x ∈ p3, x.block < W.heap.size := by obtain ⟨m, hm⟩ := k3; exact DataW.trod_lt m _ _ _ hm
  obtain ⟨u3_0, u3_1, u3_2, y3_0, y3_1, y3_2, m3, rfl, rfl, rfl, g3_0, g3_1, g3_2⟩ := open_agg3 Try.underlying24 (by kernel_rfl) (by kernel_rfl) (hval 3 24 v3 rfl rfl) h3
  obtain ⟨A3_0, n3_0, c3_0, e3_0⟩ := slice_form Try.underlying22 g3_0
  obtain rfl : u3_0 = .slice A3_0 n3_0 c3_0 := by simpa using e3_0
  obtain ⟨l3_0, rfl, hr3_0, hc3_0, hm3_0, hg3_0⟩ := RowAid.open_row (d := PAll.k26) (z := PAll.z26) (elem26 enc W 0 _ true) Try.underlying22 (by kernel_rfl) g3_0
  obtain ⟨a3_1, e3_1, _⟩ := DataW.trod_bool Try.underlying4 g3_1
  obtain rfl : u3_1 = .bool a3_1 := by simpa using e3_1
  obtain ⟨a3_2, e3_2, _, hw3_2⟩ := DataW.trod_int Try.underlying3 g3_2
  obtain rfl : u3_2 = .int .i64 a3_2 := by simpa using e3_2
  clear hA0 hval0 hsz0 hsz hval
  obtain ⟨k, h⟩ := Pure.LeapTells l0_0 a0_1 a0_2 a1 a2_0 a2_1 a2_2 l3_0 a3_1 a3_2 hg0_0 hm0_0 hw0_2 hw1 hw2_0 hw2_1 hg3_0 hm3_0 hw3_2
  refine (PAll.epactlaw09_LeapTells.calls k A0_0 c0_0 l0_0 a0_1 a0_2 a1 a2_0 a2_1 a2_2 A3_0 c3_0 l3_0 a3_1 a3_2 true W hr0_0 hc0_0 hr3_0 hc3_0 h).mono fun e W' ⟨he, bel⟩ => ?_
  subst he
  exact ⟨_, rfl, _, _, _, [], _, [], hW', trodAll_mk1 (shut_bool Try.underlying4 _), (trodAll_cons_mk (Below.trod laidOut (by kernel_rfl) (of_decide_eq_true (by kernel_rfl)) k0 bel lt0) (trodAll_cons_mk (shut_int Try.underlying3 hw1) (trodAll_cons_mk (Below.trod laidOut (by kernel_rfl) (of_decide_eq_true (by kernel_rfl)) k2 bel lt2) (trodAll_cons_mk (Below.trod laidOut (by kernel_rfl) (of_decide_eq_true (by kernel_rfl)) k3 bel lt3) trodAll_mk0)))), rfl, bel.frame _, fun h => by cases h⟩
theorem over : Rows.leapTellsRow.holds Try.pinned (OpenSpec.ofChange Rows.leapTellsSpec) :=
  OpenClaim.holds_of_wide 3 Try.f3 rfl rfl rfl rfl rfl rfl rfl ⟨rfl, rfl, rfl, rfl, rfl⟩ rfl rfl rfl rfl rfl (by kernel_rfl) Try.func3 (by kernel_rfl)
    (of_decide_eq_true (by kernel_rfl)) (by unfold Func.isWrapper; first | (rw [if_pos (by decide +kernel)]; kernel_rfl) | (rw [if_neg (by decide +kernel)]; exact ⟨rfl, rfl⟩))
    (fun os started H enc _ => lifted os started H enc)
theorem proved : Rows.LeapTellsSaid := over
#print axioms proved
end Go.Proofs.Ytfmibhepehhljaa.leapTells
namespace Go.Proofs.Ytfmibhepehhljaa
/-- The row, under a short name, for the claim. -/
theorem leapTells_holds : Rows.LeapTellsSaid := leapTells.proved
end Go.Proofs.Ytfmibhepehhljaa
