import Derived.Test.YthoigncoojcanaaRows
import Derived.Test.YthoigncoojcanaaPAllx18
import Derived.Test.YthoigncoojcanaaRowAid
import Derived.Test.YthoigncoojcanaaPureSmearWindows
import Derived.WalkKit
import Derived.ProofKit
import Derived.OpenShut
import Derived.ShutString
import Derived.ChangeOld
import Derived.Below
import Derived.SizedLaws
import Derived.Lib.SmallJoins
import Derived.Deep.Strs
namespace Go.Proofs.Ythoigncoojcanaa.smearWindows
open Go.ChangeShapes Go.WideShapes Go.ChangeAt Go.RowKit Go.Joins Go.Deep
open Go.ChangeMaps (open_string shut_string)
set_option linter.unusedVariables false
theorem own : ownKnob Try.prog.godebug = none := by kernel_rfl
theorem laidOut : laidOutB Try.prog = true := by kernel_rfl
set_option maxRecDepth 100000 in
theorem elem49 {H : Type} (enc : TypeId × Value → H) (W : World) (base : Nat) (spare : Nat → Bool) (held : Bool) :
    ∀ (m : Nat) (cs : List Value) (y : DataW H × List MemPlace), DataW.trod enc Try.prog W base spare held m 49 cs = some y → ∃ p : PAll.S49, PAll.k49.K W p cs ∧ ((Lit.int .i64 p.f0).wf = true ∧ (Lit.int .i64 p.f1).wf = true) := by
  intro m cs y h
  obtain ⟨y0, y1, y2, n, _, hl, h0, h1, h2⟩ := trod_struct3 Try.underlying49 h
  have hl : cs.length = 3 := hl.trans (by kernel_rfl)
  obtain ⟨c0, c1, c2, rfl⟩ : ∃ c0 c1 c2, cs = [c0, c1, c2] := by
    match cs, hl with
    | [c0, c1, c2], _ => exact ⟨c0, c1, c2, rfl⟩
  have z0 : Try.prog.cellsOf 3 = 1 := by kernel_rfl
  have h0 : DataW.trod enc Try.prog W base spare held n 3 [c0] = some y0 := by have q := h0; rw [z0] at q; exact q
  obtain ⟨b0, e0, _, w0⟩ := DataW.trod_int Try.underlying3 h0
  obtain rfl : c0 = _ := by simpa using e0
  have z1 : Try.prog.cellsOf 3 = 1 := by kernel_rfl
  have h1 : DataW.trod enc Try.prog W base spare held n 3 [c1] = some y1 := by have q := h1; rw [z1] at q; exact q
  obtain ⟨b1, e1, _, w1⟩ := DataW.trod_int Try.underlying3 h1
  obtain rfl : c1 = _ := by simpa using e1
  have z2 : Try.prog.cellsOf 4 = 1 := by kernel_rfl
  have h2 : DataW.trod enc Try.prog W base spare held n 4 [c2] = some y2 := by have q := h2; rw [z2] at q; exact q
  obtain ⟨b2, e2, _⟩ := DataW.trod_bool Try.underlying4 h2
  obtain rfl : c2 = _ := by simpa using e2
  exact ⟨⟨b0, b1, b2⟩, PAll.k49_mk _ _, w0, w1⟩
set_option maxRecDepth 100000 in
theorem lifted (os : Os) (started : os.Started) (H : Type) (enc : TypeId × Value → H) :
    ReturnsInHanded {} Try.checked os 9 .any (Rows.smearWindowsSpec.pre6 enc Try.prog Try.f9 Rows.smearWindowsRow.domain false) (Rows.smearWindowsSpec.post enc Try.prog Try.f9 false true false false) := by
  refine returnsInHanded_of_change_sized (C := Try.checked) own started (by kernel_rfl) Try.func9
    (ChangeSpec.witness6 (enc := enc) (C := Try.checked) false ⟨#[], #[.agg #[.slice none 0 0, .bool false, .int .i64 0], .int .i64 0], []⟩ 8 (by kernel_rfl) (by kernel_rfl) (by kernel_rfl) (by kernel_rfl)) ?_
  intro W base args ds gs before hval0 hW hcnd hsz0 _
  have hsz : (DataW.weightsEach Try.prog (Try.f9.params.toList ++ Rows.smearWindowsSpec.plain.varTypes Try.prog) (ds ++ gs)).all (· ≤ reachBytes) = true := hsz0
  have hval : ∀ (j : Nat) t v, Try.f9.params[j]? = some t → args[j]? = some v → Value.okWide Try.prog W .any base t v := hval0
  have hW' := hW
  obtain ⟨p, q, hA0, hV, rfl, hfz, hnd⟩ := hW
  have hA : DataW.TrodAll enc Try.prog W 0 (fun _ => true) true Try.f9.params.toList args.toList ds p := hA0
  rw [Try.params9] at hA hval hsz
  obtain ⟨v0, vs0, d0, ds0, p0, q0, hargs, rfl, rfl, h0, r0⟩ := trodAll_cons hA
  obtain ⟨v1, vs1, d1, ds1, p1, q1, rfl, rfl, rfl, h1, r1⟩ := trodAll_cons r0
  obtain ⟨rfl, rfl, rfl⟩ := trodAll_nil r1
  obtain rfl : args = #[v0, v1] := by cases args; simp_all
  obtain ⟨rfl, rfl⟩ := trodVars_none hV
  have k0 := h0
  have lt0 : ∀ x ∈ p0, x.block < W.heap.size := by obtain ⟨m, hm⟩ := k0; exact DataW.trod_lt m _ _ _ hm
  obtain ⟨u0_0, u0_1, u0_2, y0_0, y0_1, y0_2, m0, rfl, rfl, rfl, g0_0, g0_1, g0_2⟩ := open_agg3 Try.underlying44 (by kernel_rfl) (by kernel_rfl) (hval 0 44 v0 rfl rfl) h0
  obtain ⟨A0_0, n0_0, c0_0, e0_0⟩ := slice_form Try.underlying42 g0_0
  obtain rfl : u0_0 = .slice A0_0 n0_0 c0_0 := by simpa using e0_0
  obtain ⟨l0_0, rfl, hr0_0, hc0_0, hm0_0, hg0_0⟩ := RowAid.open_row (d := PAll.k49) (z := PAll.z49) (elem49 enc W 0 _ true) Try.underlying42 (by kernel_rfl) g0_0
  obtain ⟨a0_1, e0_1, _⟩ := DataW.trod_bool Try.underlying4 g0_1
  obtain rfl : u0_1 = .bool a0_1 := by simpa using e0_1
  obtain ⟨a0_2, e0_2, _, hw0_2⟩ := DataW.trod_int Try.underlying3 g0_2
  obtain rfl : u0_2 = .int .i64 a0_2 := by simpa using e0_2
  obtain ⟨a1, rfl, rfl, rfl, hw1⟩ := open_int Try.underlying3 (hval 1 3 v1 rfl rfl) h1
  clear hA0 hval0 hsz0 hsz hval
  obtain ⟨k, h⟩ := Pure.SmearWindows l0_0 a0_1 a0_2 a1 hg0_0 hm0_0 hw0_2 hw1
  refine (PAll.epactlaw25_SmearWindows.calls k A0_0 c0_0 l0_0 a0_1 a0_2 a1 true W hr0_0 hc0_0 h).mono fun e W' ⟨he, bel⟩ => ?_
  subst he
  exact ⟨_, rfl, _, _, _, [], _, [], hW', trodAll_mk1 (shut_bool Try.underlying4 _), (trodAll_cons_mk (Below.trod laidOut (by kernel_rfl) (of_decide_eq_true (by kernel_rfl)) k0 bel lt0) (trodAll_cons_mk (shut_int Try.underlying3 hw1) trodAll_mk0)), rfl, bel.frame _, fun h => by cases h⟩
theorem over : Rows.smearWindowsRow.holds Try.pinned (OpenSpec.ofChange Rows.smearWindowsSpec) :=
  OpenClaim.holds_of_wide 9 Try.f9 rfl rfl rfl rfl rfl rfl rfl ⟨rfl, rfl, rfl, rfl, rfl⟩ rfl rfl rfl rfl rfl (by kernel_rfl) Try.func9 (by kernel_rfl)
    (of_decide_eq_true (by kernel_rfl)) (by unfold Func.isWrapper; first | (rw [if_pos (by decide +kernel)]; kernel_rfl) | (rw [if_neg (by decide +kernel)]; exact ⟨rfl, rfl⟩))
    (fun os started H enc _ => lifted os started H enc)
theorem proved : Rows.SmearWindowsSaid := over
#print axioms proved
end Go.Proofs.Ythoigncoojcanaa.smearWindows
namespace Go.Proofs.Ythoigncoojcanaa
/-- The row, under a short name, for the claim. -/
theorem smearWindows_holds : Rows.SmearWindowsSaid := smearWindows.proved
end Go.Proofs.Ythoigncoojcanaa
