-- Written for this claim by wip/tools of this repo (after the kit's print; own contracts laid in).
import Derived.Test.YtpgkdagjlbcgkaaPAllx0
import Derived.Test.YtpgkdagjlbcgkaaPAllx1
namespace Go.Proofs.Ytpgkdagjlbcgkaa.PAll
open Go.RowKit Go.Proofs.YtpgkdagjlbcgkaaW.PrintWords Go.Proofs.YtpgkdagjlbcgkaaW.PrintLast Go.Proofs.YtpgkdagjlbcgkaaW.PrintMore
attribute [local go_sem] max2_int min2_int max_two min_two max_three min_three max_four min_four   -- for this text's walks alone
set_option linter.unusedVariables false
set_option linter.unusedSimpArgs false

/-! ### stamp_read: function 22 -/
-- by hand: wip/hand
/-- how a text looks -/
def stamp_read.sh : ByteArray := ⟨#[48, 48, 48, 48, 45, 48, 48, 45, 48, 48, 84, 48, 48, 58, 48, 48, 58, 48, 48, 90]⟩
def stamp_read.c (s : ByteArray) (i : Nat) : Int := ((s.get! i).toNat : Int)
def stamp_read.m (i : Nat) : Int := stamp_read.c stamp_read.sh i
/-- has a place of a text what the shape asks for? -/
def stamp_read.good (s : ByteArray) (i : Nat) : Bool := decide (i < 20) && (if stamp_read.m i = 48 then decide (48 ≤ stamp_read.c s i) && decide (stamp_read.c s i ≤ 57) else decide (stamp_read.c s i = stamp_read.m i))
/-- the number whose digits stand at a place -/
def stamp_read.k : Nat → Nat
  | 0 => 0
  | i + 1 => if stamp_read.m i = 48 then stamp_read.k i else stamp_read.k i + 1
/-- the numbers ahead of a place -/
def stamp_read.st (s : ByteArray) : Nat → List Int
  | 0 => [0, 0, 0, 0, 0, 0]
  | i + 1 => if stamp_read.m i = 48 then (stamp_read.st s i).set (stamp_read.k i) (wrap64 (wrap64 (10 * rd (stamp_read.st s i) (stamp_read.k i)) + (stamp_read.c s i - 48))) else stamp_read.st s i
def stamp_read.run (s : ByteArray) : Nat → Nat → List Int × Bool
  | 0, i => (stamp_read.st s i, false)
  | n + 1, i => if i < s.size then (if stamp_read.good s i = true then stamp_read.run s n (i + 1) else (stamp_read.st s i, false)) else (stamp_read.st s i, decide (s.size = 20))
set_option maxRecDepth 20000 in
theorem stamp_read.decode (s : ByteArray) (i : Nat) (h : i < s.size) : (stamp_read.c s i < 128 → Utf8.decode s i = ((s.get! i).toNat, 1)) ∧ (128 ≤ stamp_read.c s i → 128 ≤ (Utf8.decode s i).1 ∧ (Utf8.decode s i).1 < 2147483648) := by
  unfold stamp_read.c
  refine ⟨fun h1 => ?_, fun h1 => ?_⟩
  · simp only [Utf8.decode, Nat.add_zero]
    rw [if_pos (by omega)]
  · have hz : ∀ k, (s.get! k).toNat < 256 := fun k => UInt8.toNat_lt _
    simp only [Utf8.decode, Nat.add_zero]
    rw [if_neg (by omega)]
    have z0 := hz i; have z1 := hz (i + 1); have z2 := hz (i + 2); have z3 := hz (i + 3)
    clear hz
    have re : ∀ n, 128 ≤ ((Utf8.runeError, n) : Nat × Nat).1 ∧ ((Utf8.runeError, n) : Nat × Nat).1 < 2147483648 := fun n => by simp [Utf8.runeError]
    split
    · split
      · rename_i h2; exact ⟨h2, by show _ < _; omega⟩
      · exact re 1
    · split
      · split
        · rename_i h2; simp only [Bool.and_eq_true, decide_eq_true_eq] at h2; exact ⟨by show _ ≤ _; omega, by show _ < _; omega⟩
        · exact re 1
      · split
        · split
          · rename_i h2; simp only [Bool.and_eq_true, decide_eq_true_eq] at h2; exact ⟨by show _ ≤ _; omega, by show _ < _; omega⟩
          · exact re 1
        · exact re 1
theorem stamp_read.six (s : ByteArray) : ∀ i, ∃ x0 x1 x2 x3 x4 x5, stamp_read.st s i = [x0, x1, x2, x3, x4, x5] := by
  intro i
  have hl : (stamp_read.st s i).length = 6 := by
    induction i with
    | zero => rfl
    | succ i ih => simp only [stamp_read.st]; split <;> simp [ih]
  match hq : stamp_read.st s i, hl with
  | [x0, x1, x2, x3, x4, x5], _ => exact ⟨x0, x1, x2, x3, x4, x5, rfl⟩
theorem stamp_read.put {w : World} {g : Nat} {t : TypeId} {cs cs' : Array Value} (h : w.heap[g]? = some (.cells cs t (0, 0))) (i : Nat) (u : Value) (e : cs.setIfInBounds i u = cs') : (w.setCell ⟨g, i, none⟩ u).heap[g]? = some (.cells cs' t (0, 0)) := by
  subst e; simp [World.setCell, Array.getElem?_modify, h]
/-- the next rune of a text -/
theorem stamp_read.next (w : World) (b : Nat) (s : ByteArray) (i : Nat) (ty : TypeId) (h : i < s.size) (hb : w.heap[b]? = some (.stringIter s i)) :
    (Instr.next (.pointer (some ⟨b, 0, none⟩)) true ty).run Try.prog w = .ok (.tuple #[.bool true, .int .i64 (i : Int), .int .i32 (((Utf8.decode s i).1 : Nat) : Int)]) { w with heap := w.heap.setIfInBounds b (.stringIter s (i + (Utf8.decode s i).2)) } := by
  simp [Instr.next, getObj, setObj, Sem.run, hb, h, goInt]
theorem stamp_read.over (w : World) (b : Nat) (s : ByteArray) (i : Nat) (ty : TypeId) (h : ¬ i < s.size) (hb : w.heap[b]? = some (.stringIter s i)) :
    (Instr.next (.pointer (some ⟨b, 0, none⟩)) true ty).run Try.prog w = .ok (.tuple #[.bool false]) w := by
  simp [Instr.next, getObj, Sem.run, hb, h]
theorem stamp_read.index (i : Nat) (hi : i < 20) (W : World) : (Instr.index 9 (.string ⟨#[48, 48, 48, 48, 45, 48, 48, 45, 48, 48, 84, 48, 48, 58, 48, 48, 58, 48, 48, 90]⟩) (.int .i64 (i : Int))).run Try.prog W = .ok (.int .u8 (stamp_read.m i)) W := by
  rw [run_index_string W 9 _ .i64 (i : Int) Try.underlying9]
  have hz : (⟨#[48, 48, 48, 48, 45, 48, 48, 45, 48, 48, 84, 48, 48, 58, 48, 48, 58, 48, 48, 90]⟩ : ByteArray).size = 20 := rfl
  rw [dif_pos ⟨by omega, by rw [hz]; omega⟩]
  have hj : i < stamp_read.sh.size := hi
  have : stamp_read.m i = ((stamp_read.sh[i]'hj).toNat : Int) := by
    unfold stamp_read.m stamp_read.c
    have hg : stamp_read.sh.get! i = stamp_read.sh[i]'hj := by
      have hj2 : i < stamp_read.sh.data.size := hj
      show stamp_read.sh.data[i]! = _
      rw [getElem!_pos stamp_read.sh.data i hj2]; rfl
    rw [hg]
  rw [this]; rfl
/-- what a rune is, where the shape is met, and where it isn't -/
theorem stamp_read.met (s : ByteArray) (i : Nat) (h : i < s.size) : (stamp_read.good s i = true → i < 20 ∧ (((Utf8.decode s i).1 : Nat) : Int) = stamp_read.c s i ∧ (Utf8.decode s i).2 = 1 ∧ ((stamp_read.m i = 48 ∧ 48 ≤ stamp_read.c s i ∧ stamp_read.c s i ≤ 57) ∨ (stamp_read.m i ≠ 48 ∧ stamp_read.c s i = stamp_read.m i))) ∧
    (stamp_read.good s i = false → 20 ≤ i ∨ (i < 20 ∧ stamp_read.m i = 48 ∧ ((((Utf8.decode s i).1 : Nat) : Int) < 48 ∨ 57 < (((Utf8.decode s i).1 : Nat) : Int))) ∨ (i < 20 ∧ stamp_read.m i ≠ 48 ∧ (((Utf8.decode s i).1 : Nat) : Int) ≠ stamp_read.m i)) := by
  obtain ⟨d1, d2⟩ := stamp_read.decode s i h
  have hm : i < 20 → stamp_read.m i < 128 := by
    intro hi
    have : ∀ j : Fin 20, stamp_read.m j.val < 128 := by decide
    exact this ⟨i, hi⟩
  have hc : ((s.get! i).toNat : Int) = stamp_read.c s i := rfl
  unfold stamp_read.good
  refine ⟨fun hg => ?_, fun hg => ?_⟩
  · rw [Bool.and_eq_true, decide_eq_true_eq] at hg
    obtain ⟨h20, hg⟩ := hg
    by_cases h48 : stamp_read.m i = 48
    · rw [if_pos h48, Bool.and_eq_true, decide_eq_true_eq, decide_eq_true_eq] at hg
      have := d1 (by omega)
      rw [this]
      exact ⟨h20, hc, rfl, .inl ⟨h48, hg.1, hg.2⟩⟩
    · rw [if_neg h48, decide_eq_true_eq] at hg
      have := d1 (by have := hm h20; omega)
      rw [this]
      exact ⟨h20, hc, rfl, .inr ⟨h48, hg⟩⟩
  · by_cases h20 : i < 20
    · rw [decide_eq_true h20, Bool.true_and] at hg
      refine .inr ?_
      by_cases h48 : stamp_read.m i = 48
      · rw [if_pos h48] at hg
        refine .inl ⟨h20, h48, ?_⟩
        by_cases h128 : stamp_read.c s i < 128
        · rw [d1 h128]
          simp only [hc]
          by_cases a : 48 ≤ stamp_read.c s i
          · rw [decide_eq_true a, Bool.true_and, decide_eq_false_iff_not] at hg; omega
          · omega
        · have := d2 (by omega); omega
      · rw [if_neg h48, decide_eq_false_iff_not] at hg
        refine .inr ⟨h20, h48, ?_⟩
        by_cases h128 : stamp_read.c s i < 128
        · rw [d1 h128]; simp only [hc]; exact hg
        · have := d2 (by omega); have := hm h20; omega
    · exact .inl (by omega)
set_option maxHeartbeats 8000000 in
set_option maxRecDepth 100000 in
theorem stamp_read.calls (a0 : ByteArray) (l : List Int) (b : Bool) (w : World) (hs : a0.size < 4611686018427387904) (hrun : stamp_read.run a0 21 0 = (l, b)) :
    Calls Try.prog 22 #[.string a0] w fun e w' => e = .returned (.tuple #[.agg (l.map (Value.int .i64)).toArray, .bool b]) ∧ Below w.heap.size w w' := by
  have HSZ := Aside0.mk hs
  clear hs
  have hu39 := Try.underlying39
  have hu40 := Try.underlying40
  have HRUN := Aside0.mk hrun
  clear hrun
  go_enter Try.func22, Try.ntmps22
  go_wp2
  go_loopg [4] 21 (fun gg s4 wr => ∃ (i n : Nat), n + i = 21 ∧ i ≤ 20 ∧ i ≤ a0.size ∧ n ≤ gg ∧ s4 = .int .i64 (stamp_read.k i) ∧ Aside (stamp_read.run a0 n i = (l, b)) ∧ Aside (wr.heap[w.heap.size]? = some (.cells ((stamp_read.st a0 i).map (Value.int .i64)).toArray 39 (0, 0))) ∧ Aside (wr.heap[w.heap.size + 1]? = some (.stringIter a0 i)) ∧ Aside (Below w.heap.size w wr) ∧ wr.heap.size = w.heap.size + 2)
  case atStart =>
    refine ⟨0, 21, rfl, by omega, by omega, by omega, rfl, HRUN.out, ?_, ?_, ?_, ?_⟩
    · exact blk_alloc (blk_new _ _) _
    · have hz_ : ∀ o, (w.alloc o).heap.size = w.heap.size + 1 := fun o => by simp
      show ((w.alloc _).iter a0 0).heap[w.heap.size + 1]? = _
      rw [← hz_]
      exact World.iter_heap _ a0 0
    · exact below_alloc (below_alloc (Below.refl _ _) _) _
    · simp [World.iter]
  case round =>
    obtain ⟨i, n, e0, e1, e2, e3, rfl, HR, HC, HI, HB, HZ⟩ := hrel
    have HLAST := HC
    obtain ⟨x0, x1, x2, x3, x4, x5, hx⟩ := stamp_read.six a0 i
    have hce := HC.out
    rw [hx] at hce
    simp only [List.map_cons, List.map_nil] at hce
    have hiz : (i : Int) ≤ 20 := by omega
    have hiz0 : (0 : Int) ≤ (i : Int) := by omega
    by_cases hi : i < a0.size
    · have hnx := stamp_read.next wr (w.heap.size + 1) a0 i 0 hi HI.out
      obtain ⟨g1, g2⟩ := stamp_read.met a0 i hi
      have hrb : (0 : Int) ≤ (((Utf8.decode a0 i).1 : Nat) : Int) ∧ (((Utf8.decode a0 i).1 : Nat) : Int) < 2147483648 := by
        obtain ⟨d1, d2⟩ := stamp_read.decode a0 i hi
        by_cases h128 : stamp_read.c a0 i < 128
        · rw [d1 h128]
          have : (a0.get! i).toNat < 256 := UInt8.toNat_lt _
          show 0 ≤ (((a0.get! i).toNat : Nat) : Int) ∧ (((a0.get! i).toNat : Nat) : Int) < 2147483648
          omega
        · have := d2 (by omega); omega
      obtain ⟨w3, he3, hC3, hI3, hB3, hZ3⟩ : ∃ w3 : World, ({ wr with heap := wr.heap.setIfInBounds (w.heap.size + 1) (.stringIter a0 (i + (Utf8.decode a0 i).2)) } : World) = w3 ∧ w3.heap[w.heap.size]? = some (.cells ((stamp_read.st a0 i).map (Value.int .i64)).toArray 39 (0, 0)) ∧ w3.heap[w.heap.size + 1]? = some (.stringIter a0 (i + (Utf8.decode a0 i).2)) ∧ Below w.heap.size w w3 ∧ w3.heap.size = w.heap.size + 2 := by
        refine ⟨_, rfl, ?_, ?_, ?_, ?_⟩
        · have := HC.out
          simp [Array.getElem?_setIfInBounds, this]
        · simp [Array.getElem?_setIfInBounds, HZ]
        · obtain ⟨b1, b2, b3, b4, b5⟩ := HB.out
          refine ⟨b1, b2, b3, by simpa using b4, fun j hj => ?_⟩
          rw [← b5 j hj]
          simp [Array.getElem?_setIfInBounds]; omega
        · simp [HZ]
      rw [he3] at hnx
      clear he3
      generalize hru : (((Utf8.decode a0 i).1 : Nat) : Int) = ru at hnx g1 g2 hrb
      have hres := HR.out
      obtain ⟨n, rfl⟩ : ∃ q, n = q + 1 := ⟨n - 1, by omega⟩
      simp only [stamp_read.run] at hres
      rw [if_pos hi] at hres
      have HX := Aside0.mk hx
      have HB3 := Aside0.mk hB3
      have hce3 := hC3
      rw [hx] at hce3
      simp only [List.map_cons, List.map_nil] at hce3
      have HE := Aside0.mk hce3
      have HC3 := Aside0.mk hC3
      have HX := Aside0.mk hx
      clear hce hB3 hC3 HLAST hx HC HI HB HR hce3
      cases hg : stamp_read.good a0 i with
      | false =>
        rw [if_neg (by rw [hg]; decide)] at hres
        obtain ⟨rfl, rfl⟩ := Prod.mk.inj hres
        clear hres hI3 g1
        have g3 := g2 hg
        clear g2
        have hc0 : w3.cell? ⟨w.heap.size, 0, none⟩ = some (.int .i64 x0) := blk_cell HE.out 0
        have hc1 : w3.cell? ⟨w.heap.size, 1, none⟩ = some (.int .i64 x1) := blk_cell HE.out 1
        have hc2 : w3.cell? ⟨w.heap.size, 2, none⟩ = some (.int .i64 x2) := blk_cell HE.out 2
        have hc3 : w3.cell? ⟨w.heap.size, 3, none⟩ = some (.int .i64 x3) := blk_cell HE.out 3
        have hc4 : w3.cell? ⟨w.heap.size, 4, none⟩ = some (.int .i64 x4) := blk_cell HE.out 4
        have hc5 : w3.cell? ⟨w.heap.size, 5, none⟩ = some (.int .i64 x5) := blk_cell HE.out 5
        have hf0 : w3.frozen? ⟨w.heap.size, 0, none⟩ = false := by simp [World.frozen?, HE.out]
        have hf1 : w3.frozen? ⟨w.heap.size, 1, none⟩ = false := by simp [World.frozen?, HE.out]
        have hf2 : w3.frozen? ⟨w.heap.size, 2, none⟩ = false := by simp [World.frozen?, HE.out]
        have hf3 : w3.frozen? ⟨w.heap.size, 3, none⟩ = false := by simp [World.frozen?, HE.out]
        have hf4 : w3.frozen? ⟨w.heap.size, 4, none⟩ = false := by simp [World.frozen?, HE.out]
        have hf5 : w3.frozen? ⟨w.heap.size, 5, none⟩ = false := by simp [World.frozen?, HE.out]
        rcases g3 with h20 | ⟨i20, hm, hd⟩ | ⟨i20, hm, hd⟩
        · have hi20 : (20 : Int) ≤ (i : Int) := by omega
          go_wp2
          refine bodyPost_ret (results_ct rfl _ _ w.heap.size 39 #[.int .i64 x0, .int .i64 x1, .int .i64 x2, .int .i64 x3, .int .i64 x4, .int .i64 x5] (0, 0) _ rfl (by refine stamp_read.put (cs := #[.int .i64 x0, .int .i64 x1, .int .i64 x2, .int .i64 x3, .int .i64 x4, .int .i64 x5]) ?_ 5 _ rfl; refine stamp_read.put (cs := #[.int .i64 x0, .int .i64 x1, .int .i64 x2, .int .i64 x3, .int .i64 x4, .int .i64 x5]) ?_ 4 _ rfl; refine stamp_read.put (cs := #[.int .i64 x0, .int .i64 x1, .int .i64 x2, .int .i64 x3, .int .i64 x4, .int .i64 x5]) ?_ 3 _ rfl; refine stamp_read.put (cs := #[.int .i64 x0, .int .i64 x1, .int .i64 x2, .int .i64 x3, .int .i64 x4, .int .i64 x5]) ?_ 2 _ rfl; refine stamp_read.put (cs := #[.int .i64 x0, .int .i64 x1, .int .i64 x2, .int .i64 x3, .int .i64 x4, .int .i64 x5]) ?_ 1 _ rfl; refine stamp_read.put (cs := #[.int .i64 x0, .int .i64 x1, .int .i64 x2, .int .i64 x3, .int .i64 x4, .int .i64 x5]) ?_ 0 _ rfl; exact HE.out) Try.underlying39 rfl (by kernel_rfl)) rfl ?_
          refine ⟨?_, ?_⟩
          · rw [HX.out]; rfl
          · exact (((((HB3.out.setCell (Nat.le_refl _) _).setCell (Nat.le_refl _) _).setCell (Nat.le_refl _) _).setCell (Nat.le_refl _) _).setCell (Nat.le_refl _) _).setCell (Nat.le_refl _) _
        · have hix := stamp_read.index i i20
          rw [hm] at hix
          have hi20 : (i : Int) < (20 : Int) := by omega
          rcases hd with hd | hd
          · skip
            go_wp2
            refine bodyPost_ret (results_ct rfl _ _ w.heap.size 39 #[.int .i64 x0, .int .i64 x1, .int .i64 x2, .int .i64 x3, .int .i64 x4, .int .i64 x5] (0, 0) _ rfl (by refine stamp_read.put (cs := #[.int .i64 x0, .int .i64 x1, .int .i64 x2, .int .i64 x3, .int .i64 x4, .int .i64 x5]) ?_ 5 _ rfl; refine stamp_read.put (cs := #[.int .i64 x0, .int .i64 x1, .int .i64 x2, .int .i64 x3, .int .i64 x4, .int .i64 x5]) ?_ 4 _ rfl; refine stamp_read.put (cs := #[.int .i64 x0, .int .i64 x1, .int .i64 x2, .int .i64 x3, .int .i64 x4, .int .i64 x5]) ?_ 3 _ rfl; refine stamp_read.put (cs := #[.int .i64 x0, .int .i64 x1, .int .i64 x2, .int .i64 x3, .int .i64 x4, .int .i64 x5]) ?_ 2 _ rfl; refine stamp_read.put (cs := #[.int .i64 x0, .int .i64 x1, .int .i64 x2, .int .i64 x3, .int .i64 x4, .int .i64 x5]) ?_ 1 _ rfl; refine stamp_read.put (cs := #[.int .i64 x0, .int .i64 x1, .int .i64 x2, .int .i64 x3, .int .i64 x4, .int .i64 x5]) ?_ 0 _ rfl; exact HE.out) Try.underlying39 rfl (by kernel_rfl)) rfl ?_
            refine ⟨?_, ?_⟩
            · rw [HX.out]; rfl
            · exact (((((HB3.out.setCell (Nat.le_refl _) _).setCell (Nat.le_refl _) _).setCell (Nat.le_refl _) _).setCell (Nat.le_refl _) _).setCell (Nat.le_refl _) _).setCell (Nat.le_refl _) _
          · skip
            go_wp2
            refine bodyPost_ret (results_ct rfl _ _ w.heap.size 39 #[.int .i64 x0, .int .i64 x1, .int .i64 x2, .int .i64 x3, .int .i64 x4, .int .i64 x5] (0, 0) _ rfl (by refine stamp_read.put (cs := #[.int .i64 x0, .int .i64 x1, .int .i64 x2, .int .i64 x3, .int .i64 x4, .int .i64 x5]) ?_ 5 _ rfl; refine stamp_read.put (cs := #[.int .i64 x0, .int .i64 x1, .int .i64 x2, .int .i64 x3, .int .i64 x4, .int .i64 x5]) ?_ 4 _ rfl; refine stamp_read.put (cs := #[.int .i64 x0, .int .i64 x1, .int .i64 x2, .int .i64 x3, .int .i64 x4, .int .i64 x5]) ?_ 3 _ rfl; refine stamp_read.put (cs := #[.int .i64 x0, .int .i64 x1, .int .i64 x2, .int .i64 x3, .int .i64 x4, .int .i64 x5]) ?_ 2 _ rfl; refine stamp_read.put (cs := #[.int .i64 x0, .int .i64 x1, .int .i64 x2, .int .i64 x3, .int .i64 x4, .int .i64 x5]) ?_ 1 _ rfl; refine stamp_read.put (cs := #[.int .i64 x0, .int .i64 x1, .int .i64 x2, .int .i64 x3, .int .i64 x4, .int .i64 x5]) ?_ 0 _ rfl; exact HE.out) Try.underlying39 rfl (by kernel_rfl)) rfl ?_
            refine ⟨?_, ?_⟩
            · rw [HX.out]; rfl
            · exact (((((HB3.out.setCell (Nat.le_refl _) _).setCell (Nat.le_refl _) _).setCell (Nat.le_refl _) _).setCell (Nat.le_refl _) _).setCell (Nat.le_refl _) _).setCell (Nat.le_refl _) _
        · have hix := stamp_read.index i i20
          have hmi : (0 : Int) ≤ stamp_read.m i ∧ stamp_read.m i < 256 := by
            have : (stamp_read.sh.get! i).toNat < 256 := UInt8.toNat_lt _
            unfold stamp_read.m stamp_read.c; omega
          have hi20 : (i : Int) < (20 : Int) := by omega
          generalize stamp_read.m i = mi at hix hm hd hmi
          have hb1 : (mi != 48) = true := by simpa using hm
          have hb2 : (ru != mi) = true := by simpa using hd
          go_wp2
          refine bodyPost_ret (results_ct rfl _ _ w.heap.size 39 #[.int .i64 x0, .int .i64 x1, .int .i64 x2, .int .i64 x3, .int .i64 x4, .int .i64 x5] (0, 0) _ rfl (by refine stamp_read.put (cs := #[.int .i64 x0, .int .i64 x1, .int .i64 x2, .int .i64 x3, .int .i64 x4, .int .i64 x5]) ?_ 5 _ rfl; refine stamp_read.put (cs := #[.int .i64 x0, .int .i64 x1, .int .i64 x2, .int .i64 x3, .int .i64 x4, .int .i64 x5]) ?_ 4 _ rfl; refine stamp_read.put (cs := #[.int .i64 x0, .int .i64 x1, .int .i64 x2, .int .i64 x3, .int .i64 x4, .int .i64 x5]) ?_ 3 _ rfl; refine stamp_read.put (cs := #[.int .i64 x0, .int .i64 x1, .int .i64 x2, .int .i64 x3, .int .i64 x4, .int .i64 x5]) ?_ 2 _ rfl; refine stamp_read.put (cs := #[.int .i64 x0, .int .i64 x1, .int .i64 x2, .int .i64 x3, .int .i64 x4, .int .i64 x5]) ?_ 1 _ rfl; refine stamp_read.put (cs := #[.int .i64 x0, .int .i64 x1, .int .i64 x2, .int .i64 x3, .int .i64 x4, .int .i64 x5]) ?_ 0 _ rfl; exact HE.out) Try.underlying39 rfl (by kernel_rfl)) rfl ?_
          refine ⟨?_, ?_⟩
          · rw [HX.out]; rfl
          · exact (((((HB3.out.setCell (Nat.le_refl _) _).setCell (Nat.le_refl _) _).setCell (Nat.le_refl _) _).setCell (Nat.le_refl _) _).setCell (Nat.le_refl _) _).setCell (Nat.le_refl _) _
      | true =>
        rw [if_pos hg] at hres
        have HRES := Aside0.mk hres
        obtain ⟨i20, e1r, e2r, hd⟩ := g1 hg
        rw [e2r] at hI3
        have hix := stamp_read.index i i20
        have HI3 := Aside0.mk hI3
        have hmi : (0 : Int) ≤ stamp_read.m i ∧ stamp_read.m i < 256 := by
          have : (stamp_read.sh.get! i).toNat < 256 := UInt8.toNat_lt _
          unfold stamp_read.m stamp_read.c; omega
        clear g1 g2 hres hI3 hg hru
        have hkb : stamp_read.k i ≤ 10 ∧ (stamp_read.m i = 48 → stamp_read.k i < 6) := by
          have : ∀ j : Fin 20, stamp_read.k j.val ≤ 10 ∧ (stamp_read.m j.val = 48 → stamp_read.k j.val < 6) := by decide
          exact this ⟨i, i20⟩
        have hi20 : (i : Int) < (20 : Int) := by omega
        rcases hd with ⟨hm, hd⟩ | ⟨hm, hd⟩
        · have hk6 := hkb.2 hm
          obtain ⟨kk, hkk⟩ : ∃ kk, stamp_read.k i = kk := ⟨_, rfl⟩
          have hst : stamp_read.st a0 (i + 1) = (stamp_read.st a0 i).set kk (wrap64 (wrap64 (10 * rd (stamp_read.st a0 i) (kk : Int)) + (stamp_read.c a0 i - 48))) := by
            rw [stamp_read.st, if_pos hm, hkk]
          have hk1 : stamp_read.k (i + 1) = kk := by rw [stamp_read.k, if_pos hm, hkk]
          have HST := Aside0.mk hst
          have hlen : (stamp_read.st a0 i).length = 6 := by rw [HX.out]; rfl
          rw [hkk] at hk6
          rw [hkk]
          have hc : w3.cell? ⟨w.heap.size, kk, none⟩ = some (.int .i64 (rd (stamp_read.st a0 i) (kk : Int))) := by
            have hkl : kk < (stamp_read.st a0 i).length := by rw [hlen]; exact hk6
            simp [World.cell?, HC3.out, hkl, rd]
          have hf : w3.frozen? ⟨w.heap.size, kk, none⟩ = false := by simp [World.frozen?, HC3.out]
          generalize hx : rd (stamp_read.st a0 i) (kk : Int) = x at hc
          have HXX := Aside0.mk hx
          clear hx hkb
          have hk6i : (kk : Int) < 6 := by omega
          have hk0i : (0 : Int) ≤ (kk : Int) := by omega
          rw [hm] at hix
          rw [e1r] at hnx
          have HK1 := Aside0.mk hk1
          clear hk1 hst hmi e1r hrb hkk hlen
          generalize hcc : stamp_read.c a0 i = ci at hnx hd
          have HCC := Aside0.mk hcc
          clear hcc
          go_wp2
          go_roundg n
          case measure => omega
          case rel =>
            refine ⟨i + 1, n, by omega, by omega, by omega, by omega, by rw [HK1.out], HRES.out, ?_, ?_, ?_, ?_⟩
            · show (w3.setCell _ _).heap[w.heap.size]? = _
              rw [HST.out, HXX.out, HCC.out]
              refine stamp_read.put HC3.out kk _ ?_
              simp
            · show (w3.setCell _ _).heap[w.heap.size + 1]? = _
              have := HI3.out
              simp [World.setCell, Array.getElem?_modify, this]
            · exact HB3.out.setCell (Nat.le_refl _) _
            · show (w3.setCell _ _).heap.size = _
              simp [World.setCell, hZ3]
        · have hk1 : stamp_read.k (i + 1) = stamp_read.k i + 1 := by rw [stamp_read.k, if_neg hm]
          have hst : stamp_read.st a0 (i + 1) = stamp_read.st a0 i := by rw [stamp_read.st, if_neg hm]
          generalize hmm : stamp_read.m i = mi at hix hm hd hmi
          rw [e1r] at hnx
          rw [hd] at hnx
          go_wp2
          go_roundg n
          case measure => omega
          case rel =>
            refine ⟨i + 1, n, by omega, by omega, by omega, by omega, ?_, HRES.out, by rw [hst]; exact HC3.out, HI3.out, HB3.out, hZ3⟩
            rw [hk1]; rfl
    · have hov := stamp_read.over wr (w.heap.size + 1) a0 i 0 hi HI.out
      have hres := HR.out
      obtain ⟨n, rfl⟩ : ∃ q, n = q + 1 := ⟨n - 1, by omega⟩
      simp only [stamp_read.run] at hres
      rw [if_neg hi] at hres
      obtain ⟨rfl, rfl⟩ := Prod.mk.inj hres
      clear hres
      have hc0 : wr.cell? ⟨w.heap.size, 0, none⟩ = some (.int .i64 x0) := blk_cell hce 0
      have hc1 : wr.cell? ⟨w.heap.size, 1, none⟩ = some (.int .i64 x1) := blk_cell hce 1
      have hc2 : wr.cell? ⟨w.heap.size, 2, none⟩ = some (.int .i64 x2) := blk_cell hce 2
      have hc3 : wr.cell? ⟨w.heap.size, 3, none⟩ = some (.int .i64 x3) := blk_cell hce 3
      have hc4 : wr.cell? ⟨w.heap.size, 4, none⟩ = some (.int .i64 x4) := blk_cell hce 4
      have hc5 : wr.cell? ⟨w.heap.size, 5, none⟩ = some (.int .i64 x5) := blk_cell hce 5
      have hf0 : wr.frozen? ⟨w.heap.size, 0, none⟩ = false := by simp [World.frozen?, hce]
      have hf1 : wr.frozen? ⟨w.heap.size, 1, none⟩ = false := by simp [World.frozen?, hce]
      have hf2 : wr.frozen? ⟨w.heap.size, 2, none⟩ = false := by simp [World.frozen?, hce]
      have hf3 : wr.frozen? ⟨w.heap.size, 3, none⟩ = false := by simp [World.frozen?, hce]
      have hf4 : wr.frozen? ⟨w.heap.size, 4, none⟩ = false := by simp [World.frozen?, hce]
      have hf5 : wr.frozen? ⟨w.heap.size, 5, none⟩ = false := by simp [World.frozen?, hce]
      have hd20 : decide ((a0.size : Int) = 20) = decide (a0.size = 20) := by rw [decide_eq_decide]; omega
      have HX := Aside0.mk hx
      have HE := Aside0.mk hce
      have HD := Aside0.mk hd20
      clear hx hce hd20 HLAST
      go_wp2
      refine bodyPost_ret (results_ct rfl _ _ w.heap.size 39 #[.int .i64 x0, .int .i64 x1, .int .i64 x2, .int .i64 x3, .int .i64 x4, .int .i64 x5] (0, 0) _ rfl (by refine stamp_read.put (cs := #[.int .i64 x0, .int .i64 x1, .int .i64 x2, .int .i64 x3, .int .i64 x4, .int .i64 x5]) ?_ 5 _ rfl; refine stamp_read.put (cs := #[.int .i64 x0, .int .i64 x1, .int .i64 x2, .int .i64 x3, .int .i64 x4, .int .i64 x5]) ?_ 4 _ rfl; refine stamp_read.put (cs := #[.int .i64 x0, .int .i64 x1, .int .i64 x2, .int .i64 x3, .int .i64 x4, .int .i64 x5]) ?_ 3 _ rfl; refine stamp_read.put (cs := #[.int .i64 x0, .int .i64 x1, .int .i64 x2, .int .i64 x3, .int .i64 x4, .int .i64 x5]) ?_ 2 _ rfl; refine stamp_read.put (cs := #[.int .i64 x0, .int .i64 x1, .int .i64 x2, .int .i64 x3, .int .i64 x4, .int .i64 x5]) ?_ 1 _ rfl; refine stamp_read.put (cs := #[.int .i64 x0, .int .i64 x1, .int .i64 x2, .int .i64 x3, .int .i64 x4, .int .i64 x5]) ?_ 0 _ rfl; exact HE.out) Try.underlying39 rfl (by kernel_rfl)) rfl ?_
      refine ⟨?_, ?_⟩
      · rw [HX.out]
        have hb20 : ((a0.size : Int) == 20) = decide (a0.size = 20) := by rw [← HD.out]; rfl
        simp [hb20]
      · exact (((((HB.out.setCell (Nat.le_refl _) _).setCell (Nat.le_refl _) _).setCell (Nat.le_refl _) _).setCell (Nat.le_refl _) _).setCell (Nat.le_refl _) _).setCell (Nat.le_refl _) _

/-! ### day_Leap: function 32 -/
def day_Leap.f (a0 : Int) : Option (Bool) := if (Int.tmod a0 4) = 0 then (if (Int.tmod a0 100) = 0 then (some ((Int.tmod a0 400) == 0)) else (some true)) else (some false)
set_option maxHeartbeats 8000000 in
set_option maxRecDepth 100000 in
theorem day_Leap.calls (a0 : Int) (r : Bool) (w : World) (h : day_Leap.f a0 = some r) :
    Calls Try.prog 32 #[.int .i64 a0] w fun e w' => e = .returned (.bool r) ∧ Drawn0 w w' := by
  have H : (if (Int.tmod a0 4) = 0 then (if (Int.tmod a0 100) = 0 then (some ((Int.tmod a0 400) == 0)) else (some true)) else (some false)) = some r := h
  clear h
  by_cases c2 : (Int.tmod a0 4) = 0
  · rw [if_pos c2] at H
    have c2b0 : ((Int.tmod a0 4) == 0) = true := beq_iff_eq.mpr c2
    have c2b1 : ((Int.tmod a0 4) != 0) = false := bne_eq_false_iff_eq.mpr c2
    clear c2
    by_cases c3 : (Int.tmod a0 100) = 0
    · rw [if_pos c3] at H
      have c3b0 : ((Int.tmod a0 100) == 0) = true := beq_iff_eq.mpr c3
      have c3b1 : ((Int.tmod a0 100) != 0) = false := bne_eq_false_iff_eq.mpr c3
      clear c3
      obtain rfl := Option.some.inj H
      go_enter Try.func32, Try.ntmps32
      go_wp2
      go_ret
      exact ⟨by first | rfl | (simp; done) | (simp [*]; done), by repeat (first | exact Drawn0.refl _ | apply Drawn0.step)⟩
    · rw [if_neg c3] at H
      have c3b0 : ((Int.tmod a0 100) == 0) = false := beq_eq_false_iff_ne.mpr c3
      have c3b1 : ((Int.tmod a0 100) != 0) = true := bne_iff_ne.mpr c3
      obtain rfl := Option.some.inj H
      go_enter Try.func32, Try.ntmps32
      go_wp2
      go_ret
      exact ⟨by first | rfl | (simp; done) | (simp [*]; done), by repeat (first | exact Drawn0.refl _ | apply Drawn0.step)⟩
  · rw [if_neg c2] at H
    have c2b0 : ((Int.tmod a0 4) == 0) = false := beq_eq_false_iff_ne.mpr c2
    have c2b1 : ((Int.tmod a0 4) != 0) = true := bne_iff_ne.mpr c2
    obtain rfl := Option.some.inj H
    go_enter Try.func32, Try.ntmps32
    go_wp2
    go_ret
    exact ⟨by first | rfl | (simp; done) | (simp [*]; done), by repeat (first | exact Drawn0.refl _ | apply Drawn0.step)⟩

/-! ### day_Last: function 28 -/
-- by hand: wip/hand
/-- the months' days, of a year that is no leap year -/
def day_Last.tab (m : Int) : Int := if m = 2 then 28 else if m = 4 ∨ m = 6 ∨ m = 9 ∨ m = 11 then 30 else 31
def day_Last.f (a0 : Int) (a1 : Int) : Option (Int × Bool) :=
  if a0 < 1 ∨ a0 > 9999 ∨ a1 < 1 ∨ a1 > 12 then some (0, false)
  else if a1 = 2 then (day_Leap.f a0).bind fun t => some (if t = true then 29 else 28, true)
  else some (day_Last.tab a1, true)
theorem day_Last.at0 (w : World) : (Instr.index 48 (.agg #[.int .i64 31, .int .i64 28, .int .i64 31, .int .i64 30, .int .i64 31, .int .i64 30, .int .i64 31, .int .i64 31, .int .i64 30, .int .i64 31, .int .i64 30, .int .i64 31]) (.int .i64 0)).run Try.prog w = .ok (.int .i64 31) w := by kernel_rfl
theorem day_Last.at1 (w : World) : (Instr.index 48 (.agg #[.int .i64 31, .int .i64 28, .int .i64 31, .int .i64 30, .int .i64 31, .int .i64 30, .int .i64 31, .int .i64 31, .int .i64 30, .int .i64 31, .int .i64 30, .int .i64 31]) (.int .i64 1)).run Try.prog w = .ok (.int .i64 28) w := by kernel_rfl
theorem day_Last.at2 (w : World) : (Instr.index 48 (.agg #[.int .i64 31, .int .i64 28, .int .i64 31, .int .i64 30, .int .i64 31, .int .i64 30, .int .i64 31, .int .i64 31, .int .i64 30, .int .i64 31, .int .i64 30, .int .i64 31]) (.int .i64 2)).run Try.prog w = .ok (.int .i64 31) w := by kernel_rfl
theorem day_Last.at3 (w : World) : (Instr.index 48 (.agg #[.int .i64 31, .int .i64 28, .int .i64 31, .int .i64 30, .int .i64 31, .int .i64 30, .int .i64 31, .int .i64 31, .int .i64 30, .int .i64 31, .int .i64 30, .int .i64 31]) (.int .i64 3)).run Try.prog w = .ok (.int .i64 30) w := by kernel_rfl
theorem day_Last.at4 (w : World) : (Instr.index 48 (.agg #[.int .i64 31, .int .i64 28, .int .i64 31, .int .i64 30, .int .i64 31, .int .i64 30, .int .i64 31, .int .i64 31, .int .i64 30, .int .i64 31, .int .i64 30, .int .i64 31]) (.int .i64 4)).run Try.prog w = .ok (.int .i64 31) w := by kernel_rfl
theorem day_Last.at5 (w : World) : (Instr.index 48 (.agg #[.int .i64 31, .int .i64 28, .int .i64 31, .int .i64 30, .int .i64 31, .int .i64 30, .int .i64 31, .int .i64 31, .int .i64 30, .int .i64 31, .int .i64 30, .int .i64 31]) (.int .i64 5)).run Try.prog w = .ok (.int .i64 30) w := by kernel_rfl
theorem day_Last.at6 (w : World) : (Instr.index 48 (.agg #[.int .i64 31, .int .i64 28, .int .i64 31, .int .i64 30, .int .i64 31, .int .i64 30, .int .i64 31, .int .i64 31, .int .i64 30, .int .i64 31, .int .i64 30, .int .i64 31]) (.int .i64 6)).run Try.prog w = .ok (.int .i64 31) w := by kernel_rfl
theorem day_Last.at7 (w : World) : (Instr.index 48 (.agg #[.int .i64 31, .int .i64 28, .int .i64 31, .int .i64 30, .int .i64 31, .int .i64 30, .int .i64 31, .int .i64 31, .int .i64 30, .int .i64 31, .int .i64 30, .int .i64 31]) (.int .i64 7)).run Try.prog w = .ok (.int .i64 31) w := by kernel_rfl
theorem day_Last.at8 (w : World) : (Instr.index 48 (.agg #[.int .i64 31, .int .i64 28, .int .i64 31, .int .i64 30, .int .i64 31, .int .i64 30, .int .i64 31, .int .i64 31, .int .i64 30, .int .i64 31, .int .i64 30, .int .i64 31]) (.int .i64 8)).run Try.prog w = .ok (.int .i64 30) w := by kernel_rfl
theorem day_Last.at9 (w : World) : (Instr.index 48 (.agg #[.int .i64 31, .int .i64 28, .int .i64 31, .int .i64 30, .int .i64 31, .int .i64 30, .int .i64 31, .int .i64 31, .int .i64 30, .int .i64 31, .int .i64 30, .int .i64 31]) (.int .i64 9)).run Try.prog w = .ok (.int .i64 31) w := by kernel_rfl
theorem day_Last.at10 (w : World) : (Instr.index 48 (.agg #[.int .i64 31, .int .i64 28, .int .i64 31, .int .i64 30, .int .i64 31, .int .i64 30, .int .i64 31, .int .i64 31, .int .i64 30, .int .i64 31, .int .i64 30, .int .i64 31]) (.int .i64 10)).run Try.prog w = .ok (.int .i64 30) w := by kernel_rfl
theorem day_Last.at11 (w : World) : (Instr.index 48 (.agg #[.int .i64 31, .int .i64 28, .int .i64 31, .int .i64 30, .int .i64 31, .int .i64 30, .int .i64 31, .int .i64 31, .int .i64 30, .int .i64 31, .int .i64 30, .int .i64 31]) (.int .i64 11)).run Try.prog w = .ok (.int .i64 31) w := by kernel_rfl
set_option maxHeartbeats 8000000 in
set_option maxRecDepth 100000 in
theorem day_Last.calls (a0 : Int) (a1 : Int) (r1 : Int) (r2 : Bool) (w : World) (h : day_Last.f a0 a1 = some (r1, r2)) :
    Calls Try.prog 28 #[.int .i64 a0, .int .i64 a1] w fun e w' => e = .returned (.tuple #[.int .i64 r1, .bool r2]) ∧ Drawn0 w w' := by
  have H : (if a0 < 1 ∨ a0 > 9999 ∨ a1 < 1 ∨ a1 > 12 then some (0, false) else if a1 = 2 then (day_Leap.f a0).bind fun t => some (if t = true then 29 else 28, true) else some (day_Last.tab a1, true)) = some (r1, r2) := h
  clear h
  by_cases c1 : a0 < 1 ∨ a0 > 9999 ∨ a1 < 1 ∨ a1 > 12
  · rw [if_pos c1] at H
    simp only [Option.some.injEq, Prod.mk.injEq] at H
    obtain ⟨rfl, rfl⟩ := H
    have HX := Aside0.mk c1
    by_cases c2 : a0 < 1
    · clear c1
      have b2 : decide (a0 < 1) = true := decide_eq_true c2
      go_enter Try.func28, Try.ntmps28
      go_wp2
      repeat (go_quiet (fail); try go_wp2)
      go_ret2
      exact ⟨rfl, by repeat (first | exact Drawn0.refl _ | apply Drawn0.step)⟩
    · have b2 : decide (a0 < 1) = false := decide_eq_false c2
      by_cases c3 : 9999 < a0
      · clear c1
        have b3 : decide (9999 < a0) = true := decide_eq_true c3
        go_enter Try.func28, Try.ntmps28
        go_wp2
        repeat (go_quiet (fail); try go_wp2)
        go_ret2
        exact ⟨rfl, by repeat (first | exact Drawn0.refl _ | apply Drawn0.step)⟩
      · have b3 : decide (9999 < a0) = false := decide_eq_false c3
        by_cases c4 : a1 < 1
        · clear c1
          have b4 : decide (a1 < 1) = true := decide_eq_true c4
          go_enter Try.func28, Try.ntmps28
          go_wp2
          repeat (go_quiet (fail); try go_wp2)
          go_ret2
          exact ⟨rfl, by repeat (first | exact Drawn0.refl _ | apply Drawn0.step)⟩
        · have b4 : decide (a1 < 1) = false := decide_eq_false c4
          have c5 : 12 < a1 := by omega
          clear c1
          have b5 : decide (12 < a1) = true := decide_eq_true c5
          go_enter Try.func28, Try.ntmps28
          go_wp2
          repeat (go_quiet (fail); try go_wp2)
          go_ret2
          exact ⟨rfl, by repeat (first | exact Drawn0.refl _ | apply Drawn0.step)⟩
  · rw [if_neg c1] at H
    have b2 : decide (a0 < 1) = false := decide_eq_false (by omega)
    have b3 : decide (9999 < a0) = false := decide_eq_false (by omega)
    have c4 : a1 = 1 ∨ a1 = 2 ∨ a1 = 3 ∨ a1 = 4 ∨ a1 = 5 ∨ a1 = 6 ∨ a1 = 7 ∨ a1 = 8 ∨ a1 = 9 ∨ a1 = 10 ∨ a1 = 11 ∨ a1 = 12 := by omega
    clear c1
    rcases c4 with rfl | rfl | rfl | rfl | rfl | rfl | rfl | rfl | rfl | rfl | rfl | rfl
    case inr.inl =>
      rw [if_pos rfl] at H
      cases hl : day_Leap.f a0 with
      | none => rw [hl] at H; exact absurd H (by simp)
      | some t =>
        rw [hl] at H
        have hc := day_Leap.calls a0 t
        have HC := Aside0.mk hc
        clear hc
        have HL := Aside0.mk hl
        clear hl
        have hix := day_Last.at1
        cases t with
        | true =>
          simp only [Option.bind_some, if_true, Option.some.injEq, Prod.mk.injEq] at H
          obtain ⟨rfl, rfl⟩ := H
          go_enter Try.func28, Try.ntmps28
          go_wp2_with (go_at_call 32; refine (HC.out _ HL.out).mono ?_; rintro e w' ⟨rfl, hd⟩)
          go_ret2
          exact ⟨rfl, by repeat (first | exact Drawn0.refl _ | exact hd | apply Drawn0.step)⟩
        | false =>
          simp only [Option.bind_some, Bool.false_eq_true, if_false, Option.some.injEq, Prod.mk.injEq] at H
          obtain ⟨rfl, rfl⟩ := H
          go_enter Try.func28, Try.ntmps28
          go_wp2_with (go_at_call 32; refine (HC.out _ HL.out).mono ?_; rintro e w' ⟨rfl, hd⟩)
          go_ret2
          exact ⟨rfl, by repeat (first | exact Drawn0.refl _ | exact hd | apply Drawn0.step)⟩
    · rw [if_neg (by omega)] at H
      simp only [day_Last.tab] at H
      simp at H
      obtain ⟨rfl, rfl⟩ := H
      have hix := day_Last.at0
      go_enter Try.func28, Try.ntmps28
      go_wp2
      repeat (go_quiet (fail); try go_wp2)
      go_ret2
      exact ⟨rfl, by repeat (first | exact Drawn0.refl _ | apply Drawn0.step)⟩
    · rw [if_neg (by omega)] at H
      simp only [day_Last.tab] at H
      simp at H
      obtain ⟨rfl, rfl⟩ := H
      have hix := day_Last.at2
      go_enter Try.func28, Try.ntmps28
      go_wp2
      repeat (go_quiet (fail); try go_wp2)
      go_ret2
      exact ⟨rfl, by repeat (first | exact Drawn0.refl _ | apply Drawn0.step)⟩
    · rw [if_neg (by omega)] at H
      simp only [day_Last.tab] at H
      simp at H
      obtain ⟨rfl, rfl⟩ := H
      have hix := day_Last.at3
      go_enter Try.func28, Try.ntmps28
      go_wp2
      repeat (go_quiet (fail); try go_wp2)
      go_ret2
      exact ⟨rfl, by repeat (first | exact Drawn0.refl _ | apply Drawn0.step)⟩
    · rw [if_neg (by omega)] at H
      simp only [day_Last.tab] at H
      simp at H
      obtain ⟨rfl, rfl⟩ := H
      have hix := day_Last.at4
      go_enter Try.func28, Try.ntmps28
      go_wp2
      repeat (go_quiet (fail); try go_wp2)
      go_ret2
      exact ⟨rfl, by repeat (first | exact Drawn0.refl _ | apply Drawn0.step)⟩
    · rw [if_neg (by omega)] at H
      simp only [day_Last.tab] at H
      simp at H
      obtain ⟨rfl, rfl⟩ := H
      have hix := day_Last.at5
      go_enter Try.func28, Try.ntmps28
      go_wp2
      repeat (go_quiet (fail); try go_wp2)
      go_ret2
      exact ⟨rfl, by repeat (first | exact Drawn0.refl _ | apply Drawn0.step)⟩
    · rw [if_neg (by omega)] at H
      simp only [day_Last.tab] at H
      simp at H
      obtain ⟨rfl, rfl⟩ := H
      have hix := day_Last.at6
      go_enter Try.func28, Try.ntmps28
      go_wp2
      repeat (go_quiet (fail); try go_wp2)
      go_ret2
      exact ⟨rfl, by repeat (first | exact Drawn0.refl _ | apply Drawn0.step)⟩
    · rw [if_neg (by omega)] at H
      simp only [day_Last.tab] at H
      simp at H
      obtain ⟨rfl, rfl⟩ := H
      have hix := day_Last.at7
      go_enter Try.func28, Try.ntmps28
      go_wp2
      repeat (go_quiet (fail); try go_wp2)
      go_ret2
      exact ⟨rfl, by repeat (first | exact Drawn0.refl _ | apply Drawn0.step)⟩
    · rw [if_neg (by omega)] at H
      simp only [day_Last.tab] at H
      simp at H
      obtain ⟨rfl, rfl⟩ := H
      have hix := day_Last.at8
      go_enter Try.func28, Try.ntmps28
      go_wp2
      repeat (go_quiet (fail); try go_wp2)
      go_ret2
      exact ⟨rfl, by repeat (first | exact Drawn0.refl _ | apply Drawn0.step)⟩
    · rw [if_neg (by omega)] at H
      simp only [day_Last.tab] at H
      simp at H
      obtain ⟨rfl, rfl⟩ := H
      have hix := day_Last.at9
      go_enter Try.func28, Try.ntmps28
      go_wp2
      repeat (go_quiet (fail); try go_wp2)
      go_ret2
      exact ⟨rfl, by repeat (first | exact Drawn0.refl _ | apply Drawn0.step)⟩
    · rw [if_neg (by omega)] at H
      simp only [day_Last.tab] at H
      simp at H
      obtain ⟨rfl, rfl⟩ := H
      have hix := day_Last.at10
      go_enter Try.func28, Try.ntmps28
      go_wp2
      repeat (go_quiet (fail); try go_wp2)
      go_ret2
      exact ⟨rfl, by repeat (first | exact Drawn0.refl _ | apply Drawn0.step)⟩
    · rw [if_neg (by omega)] at H
      simp only [day_Last.tab] at H
      simp at H
      obtain ⟨rfl, rfl⟩ := H
      have hix := day_Last.at11
      go_enter Try.func28, Try.ntmps28
      go_wp2
      repeat (go_quiet (fail); try go_wp2)
      go_ret2
      exact ⟨rfl, by repeat (first | exact Drawn0.refl _ | apply Drawn0.step)⟩

/-! ### day_Number: function 23 -/
def day_Number.j0 : Nat → Int → Int → Int → Bool → Option (Int × Bool)
  | 0, _, _, _, _ => none
  | k + 1, x0, x1, x2, x30 => if x30 = true then (some (0, false)) else (if x1 < 3 then ((num_Div.f (wrap64 (x0 - 1)) 400).bind fun bt118 => (some (wrap64 ((wrap64 ((wrap64 ((wrap64 ((wrap64 ((wrap64 (146097 * bt118.1)) + (wrap64 (365 * bt118.2.1)))) + (wrap64 (Int.tdiv bt118.2.1 4)))) - (wrap64 (Int.tdiv bt118.2.1 100)))) + (wrap64 ((wrap64 ((wrap64 (Int.tdiv (wrap64 ((wrap64 (153 * (wrap64 ((wrap64 (x1 + 12)) - 3)))) + 2)) 5)) + x2)) - 1)))) - 719468), true))) else ((num_Div.f x0 400).bind fun bt121 => (some (wrap64 ((wrap64 ((wrap64 ((wrap64 ((wrap64 ((wrap64 (146097 * bt121.1)) + (wrap64 (365 * bt121.2.1)))) + (wrap64 (Int.tdiv bt121.2.1 4)))) - (wrap64 (Int.tdiv bt121.2.1 100)))) + (wrap64 ((wrap64 ((wrap64 (Int.tdiv (wrap64 ((wrap64 (153 * (wrap64 (x1 - 3)))) + 2)) 5)) + x2)) - 1)))) - 719468), true))))
def day_Number.f (k : Nat) (a0 : Int) (a1 : Int) (a2 : Int) : Option (Int × Bool) := (day_Last.f a0 a1).bind fun bt116 => (if bt116.2 = true then (if a2 < 1 then (day_Number.j0 k a0 a1 a2 true) else (day_Number.j0 k a0 a1 a2 (decide (a2 > bt116.1)))) else (day_Number.j0 k a0 a1 a2 true))
theorem day_Number.mono_l : ∀ k, (∀ y0 y1 y2 y3, LeO (day_Number.j0 k y0 y1 y2 y3) (day_Number.j0 (k + 1) y0 y1 y2 y3))
  | 0 => fun _ _ _ _ r h => by simp [day_Number.j0] at h
  | k + 1 => by
    have ih0 := day_Number.mono_l k
    · intro y0 y1 y2 y3
      unfold day_Number.j0
      repeat' first
      | (with_reducible exact ih0 _ _ _ _)
      | (with_reducible exact LeO.refl _)
      | (with_reducible exact LeO.none _)
      | (with_reducible refine LeO.ite ?_ ?_)
      | (with_reducible refine LeO.bind ?_ (fun _ => ?_))
      | exact ih0 _ _ _ _
      | exact LeO.none _
      | refine LeO.ite ?_ ?_
      | refine LeO.bind ?_ (fun _ => ?_)
theorem day_Number.mono : ∀ a0 a1 a2 k, LeO (day_Number.f k a0 a1 a2) (day_Number.f (k + 1) a0 a1 a2) := by
  intro a0 a1 a2 k
  have ih0 := day_Number.mono_l k
  unfold day_Number.f
  repeat' first
      | (with_reducible exact ih0 _ _ _ _)
      | (with_reducible exact LeO.refl _)
      | (with_reducible exact LeO.none _)
      | (with_reducible refine LeO.ite ?_ ?_)
      | (with_reducible refine LeO.bind ?_ (fun _ => ?_))
      | exact ih0 _ _ _ _
      | exact LeO.none _
      | refine LeO.ite ?_ ?_
      | refine LeO.bind ?_ (fun _ => ?_)
set_option maxHeartbeats 8000000 in
set_option maxRecDepth 100000 in
theorem day_Number.calls (k : Nat) (a0 : Int) (a1 : Int) (a2 : Int) (r1 : Int) (r2 : Bool) (w : World) (h : day_Number.f k a0 a1 a2 = some (r1, r2)) :
    Calls Try.prog 23 #[.int .i64 a0, .int .i64 a1, .int .i64 a2] w fun e w' => e = .returned (.tuple #[.int .i64 r1, .bool r2]) ∧ Drawn0 w w' := by
  have H : ((day_Last.f a0 a1).bind fun bt116 => (if bt116.2 = true then (if a2 < 1 then (day_Number.j0 k a0 a1 a2 true) else (day_Number.j0 k a0 a1 a2 (decide (a2 > bt116.1)))) else (day_Number.j0 k a0 a1 a2 true))) = some (r1, r2) := h
  clear h
  replace H := Option.bind_eq_some_iff.mp H
  obtain ⟨⟨t116, t117⟩, A40, H⟩ := H
  replace H : (if t117 = true then (if a2 < 1 then (day_Number.j0 k a0 a1 a2 true) else (day_Number.j0 k a0 a1 a2 (decide (a2 > t116)))) else (day_Number.j0 k a0 a1 a2 true)) = some (r1, r2) := H
  have A4 := Aside0.mk A40
  clear A40
  have HC5 := Aside0.mk H
  clear H
  go_enter Try.func23, Try.ntmps23
  go_upto_region 2 with (first | ((with_reducible refine gate_callee (f := 28) rfl ?_); refine goesL_ (some 17) rfl rfl Try.func28 (by kernel_rfl) rfl #[.int .i64 a0, .int .i64 a1] rfl (by (try simp only [List.map_toArray, List.map_cons, List.map_nil]); first | done | rfl | (simp only [List.length_drop, List.length_take]; rfl)) ?_; (with_reducible refine (day_Last.calls a0 a1 t116 t117 _ A4.out).mono ?_); rintro e w' ⟨rfl, ⟨nd, rfl⟩⟩; refine ⟨_, rfl, ?_⟩))
  (try simp only [Act.put, List.setIfInBounds_toArray, List.set_cons_zero, List.set_cons_succ])
  go_cut [30] (fun v30 wc => ∃ (kq : Nat) (x30_4 : Bool), v30 = .bool x30_4 ∧ Aside0 (day_Number.j0 kq a0 a1 a2 x30_4 = some (r1, r2)) ∧ Aside0 (kq ≤ k) ∧ Drawn0 w wc)
  case first =>
    have H := HC5.out
    clear HC5
    by_cases c6 : t117 = true
    · subst c6
      have H1 : (if a2 < 1 then (day_Number.j0 k a0 a1 a2 true) else (day_Number.j0 k a0 a1 a2 (decide (a2 > t116)))) = some (r1, r2) := by rw [if_pos rfl] at H; exact H
      clear H
      have H := H1
      clear H1
      by_cases c7 : a2 < 1
      · rw [if_pos c7] at H
        have c7b0 : decide (a2 < 1) = true := decide_eq_true c7
        clear c7
        (first | rw [c7b0] | (simp only [i64_w, i32_w]; rw [c7b0]) | skip)
        have H' := Aside0.mk H
        clear H
        go_wp2
        go_meet
        case rel => exact ⟨_, (true), (by first | rfl | (simp; done) | (simp [*]; done)), H', ⟨by first | omega | exact Nat.le_refl _⟩, by repeat (first | exact Drawn0.refl _ | apply Drawn0.step)⟩
      · rw [if_neg c7] at H
        have c7b0 : decide (a2 < 1) = false := decide_eq_false c7
        clear c7
        (first | rw [c7b0] | (simp only [i64_w, i32_w]; rw [c7b0]) | skip)
        have H' := Aside0.mk H
        clear H
        go_wp2
        go_meet
        case rel => exact ⟨_, (decide (a2 > t116)), (by first | rfl | (simp; done) | (simp [*]; done)), H', ⟨by first | omega | exact Nat.le_refl _⟩, by repeat (first | exact Drawn0.refl _ | apply Drawn0.step)⟩
    · replace c6 := Bool.eq_false_iff.mpr c6
      subst c6
      have H1 : (day_Number.j0 k a0 a1 a2 true) = some (r1, r2) := by rw [if_neg (show ¬ (false = true) by decide)] at H; exact H
      clear H
      have H := H1
      clear H1
      have H' := Aside0.mk H
      clear H
      go_wp2
      go_meet
      case rel => exact ⟨_, (true), (by first | rfl | (simp; done) | (simp [*]; done)), H', ⟨by first | omega | exact Nat.le_refl _⟩, by repeat (first | exact Drawn0.refl _ | apply Drawn0.step)⟩
  case rest =>
    clear HC5
    try clear c2
    try clear p2
    try clear c6
    try clear c7
    try clear c7b0
    obtain ⟨kq, x30_4, rfl, HA, HJ4, ⟨mc4, rfl⟩⟩ := hcut
    cases kq with
    | zero => exact absurd HA.out (by simp [day_Number.j0])
    | succ kj4 =>
      have H := HA.out
      clear HA
      simp only [day_Number.j0] at H
      by_cases c8 : x30_4 = true
      · subst c8
        have H1 : (some (0, false)) = some (r1, r2) := by rw [if_pos rfl] at H; exact H
        clear H
        have H := H1
        clear H1
        simp only [Option.some.injEq, Prod.mk.injEq] at H
        obtain ⟨rfl, rfl⟩ := H
        go_wp2
        go_ret2
        exact ⟨by first | rfl | (simp; done) | (simp [*]; done), by repeat (first | exact Drawn0.refl _ | apply Drawn0.step)⟩
      · replace c8 := Bool.eq_false_iff.mpr c8
        subst c8
        have H1 : (if a1 < 3 then ((num_Div.f (wrap64 (a0 - 1)) 400).bind fun bt118 => (some (wrap64 ((wrap64 ((wrap64 ((wrap64 ((wrap64 ((wrap64 (146097 * bt118.1)) + (wrap64 (365 * bt118.2.1)))) + (wrap64 (Int.tdiv bt118.2.1 4)))) - (wrap64 (Int.tdiv bt118.2.1 100)))) + (wrap64 ((wrap64 ((wrap64 (Int.tdiv (wrap64 ((wrap64 (153 * (wrap64 ((wrap64 (a1 + 12)) - 3)))) + 2)) 5)) + a2)) - 1)))) - 719468), true))) else ((num_Div.f a0 400).bind fun bt121 => (some (wrap64 ((wrap64 ((wrap64 ((wrap64 ((wrap64 ((wrap64 (146097 * bt121.1)) + (wrap64 (365 * bt121.2.1)))) + (wrap64 (Int.tdiv bt121.2.1 4)))) - (wrap64 (Int.tdiv bt121.2.1 100)))) + (wrap64 ((wrap64 ((wrap64 (Int.tdiv (wrap64 ((wrap64 (153 * (wrap64 (a1 - 3)))) + 2)) 5)) + a2)) - 1)))) - 719468), true)))) = some (r1, r2) := by rw [if_neg (show ¬ (false = true) by decide)] at H; exact H
        clear H
        have H := H1
        clear H1
        by_cases c9 : a1 < 3
        · rw [if_pos c9] at H
          have c9b0 : decide (a1 < 3) = true := decide_eq_true c9
          clear c9
          replace H := Option.bind_eq_some_iff.mp H
          obtain ⟨⟨t118, t119, t120⟩, A100, H⟩ := H
          replace H : (some (wrap64 ((wrap64 ((wrap64 ((wrap64 ((wrap64 ((wrap64 (146097 * t118)) + (wrap64 (365 * t119)))) + (wrap64 (Int.tdiv t119 4)))) - (wrap64 (Int.tdiv t119 100)))) + (wrap64 ((wrap64 ((wrap64 (Int.tdiv (wrap64 ((wrap64 (153 * (wrap64 ((wrap64 (a1 + 12)) - 3)))) + 2)) 5)) + a2)) - 1)))) - 719468), true)) = some (r1, r2) := H
          have A10 := Aside0.mk A100
          clear A100
          simp only [Option.some.injEq, Prod.mk.injEq] at H
          obtain ⟨rfl, rfl⟩ := H
          go_wp2_with (first | ((with_reducible refine gate_callee (f := 27) rfl ?_); refine goesL_ (some 39) rfl rfl Try.func27 (by kernel_rfl) rfl #[.int .i64 (wrap64 (a0 - 1)), .int .i64 400] rfl (by (try simp only [List.map_toArray, List.map_cons, List.map_nil]); first | done | rfl | (simp only [List.length_drop, List.length_take]; rfl)) ?_; (with_reducible refine (num_Div.calls (wrap64 (a0 - 1)) 400 t118 t119 t120 _ A10.out).mono ?_); rintro e w' ⟨rfl, ⟨nd, rfl⟩⟩; refine ⟨_, rfl, ?_⟩))
          go_ret2
          exact ⟨by first | rfl | (simp; done) | (simp [*]; done), by repeat (first | exact Drawn0.refl _ | apply Drawn0.step)⟩
        · rw [if_neg c9] at H
          have c9b0 : decide (a1 < 3) = false := decide_eq_false c9
          clear c9
          replace H := Option.bind_eq_some_iff.mp H
          obtain ⟨⟨t121, t122, t123⟩, A110, H⟩ := H
          replace H : (some (wrap64 ((wrap64 ((wrap64 ((wrap64 ((wrap64 ((wrap64 (146097 * t121)) + (wrap64 (365 * t122)))) + (wrap64 (Int.tdiv t122 4)))) - (wrap64 (Int.tdiv t122 100)))) + (wrap64 ((wrap64 ((wrap64 (Int.tdiv (wrap64 ((wrap64 (153 * (wrap64 (a1 - 3)))) + 2)) 5)) + a2)) - 1)))) - 719468), true)) = some (r1, r2) := H
          have A11 := Aside0.mk A110
          clear A110
          simp only [Option.some.injEq, Prod.mk.injEq] at H
          obtain ⟨rfl, rfl⟩ := H
          go_wp2_with (first | ((with_reducible refine gate_callee (f := 27) rfl ?_); refine goesL_ (some 39) rfl rfl Try.func27 (by kernel_rfl) rfl #[.int .i64 a0, .int .i64 400] rfl (by (try simp only [List.map_toArray, List.map_cons, List.map_nil]); first | done | rfl | (simp only [List.length_drop, List.length_take]; rfl)) ?_; (with_reducible refine (num_Div.calls a0 400 t121 t122 t123 _ A11.out).mono ?_); rintro e w' ⟨rfl, ⟨nd, rfl⟩⟩; refine ⟨_, rfl, ?_⟩))
          go_ret2
          exact ⟨by first | rfl | (simp; done) | (simp [*]; done), by repeat (first | exact Drawn0.refl _ | apply Drawn0.step)⟩

/-! ### stamp_Parse: function 15 -/
-- by hand: wip/hand
def stamp_Parse.g (looks : Bool) (d : Int) (is : Bool) (sec : Int) (also_ : Bool) : Int × Int × Bool := if looks = true then (if is = true then (if also_ = true then (d, sec, true) else (0, 0, false)) else (0, 0, false)) else (0, 0, false)
def stamp_Parse.f (k : Nat) (a0 : ByteArray) : Option (Int × Int × Bool) := if a0.size ≤ 1000 then ((day_Number.f k (rd (stamp_read.run a0 21 0).1 0) (rd (stamp_read.run a0 21 0).1 1) (rd (stamp_read.run a0 21 0).1 2)).bind fun n => ((stamp_Second.f k (rd (stamp_read.run a0 21 0).1 3) (rd (stamp_read.run a0 21 0).1 4) (rd (stamp_read.run a0 21 0).1 5)).bind fun s => some (stamp_Parse.g (stamp_read.run a0 21 0).2 n.1 n.2 s.1 s.2))) else none
theorem stamp_Parse.mono : ∀ a0 k, LeO (stamp_Parse.f k a0) (stamp_Parse.f (k + 1) a0) := by
  intro a0 k
  unfold stamp_Parse.f
  repeat' first
      | (with_reducible exact day_Number.mono _ _ _ _)
      | (with_reducible exact stamp_Second.mono _ _ _ _)
      | (with_reducible exact LeO.refl _)
      | (with_reducible exact LeO.none _)
      | (with_reducible refine LeO.ite ?_ ?_)
      | (with_reducible refine LeO.bind ?_ (fun _ => ?_))
theorem stamp_read.run_six (s : ByteArray) : ∀ n i, ∃ x0 x1 x2 x3 x4 x5, (stamp_read.run s n i).1 = [x0, x1, x2, x3, x4, x5] := by
  intro n
  induction n with
  | zero => intro i; exact stamp_read.six s i
  | succ n ih =>
    intro i
    simp only [stamp_read.run]
    split
    · split
      · exact ih (i + 1)
      · exact stamp_read.six s i
    · exact stamp_read.six s i
set_option maxHeartbeats 8000000 in
set_option maxRecDepth 100000 in
theorem stamp_Parse.calls (k : Nat) (a0 : ByteArray) (r1 : Int) (r2 : Int) (r3 : Bool) (w : World) (h : stamp_Parse.f k a0 = some (r1, r2, r3)) :
    Calls Try.prog 15 #[.string a0] w fun e w' => e = .returned (.tuple #[.int .i64 r1, .int .i64 r2, .bool r3]) ∧ Below w.heap.size w w' := by
  unfold stamp_Parse.f at h
  by_cases hs : a0.size ≤ 1000
  · rw [if_pos hs] at h
    obtain ⟨x0, x1, x2, x3, x4, x5, hx⟩ := stamp_read.run_six a0 21 0
    obtain ⟨lb, hlb⟩ : ∃ lb, stamp_read.run a0 21 0 = ([x0, x1, x2, x3, x4, x5], lb) := ⟨(stamp_read.run a0 21 0).2, by rw [← hx]⟩
    rw [hlb] at h
    have h1 : ((day_Number.f k x0 x1 x2).bind fun n => ((stamp_Second.f k x3 x4 x5).bind fun s => some (stamp_Parse.g lb n.1 n.2 s.1 s.2))) = some (r1, r2, r3) := h
    clear h hx
    obtain ⟨⟨d, is⟩, hn, h2⟩ := Option.bind_eq_some_iff.mp h1
    obtain ⟨⟨sec, als⟩, hsc, h3⟩ := Option.bind_eq_some_iff.mp h2
    simp only [] at h3
    clear h1 h2
    have HL := Aside0.mk hlb
    have HN := Aside0.mk hn
    have HS := Aside0.mk hsc
    have HZ := Aside0.mk (show a0.size < 4611686018427387904 by omega)
    have H3 := Aside0.mk (Option.some.inj h3)
    clear hlb hn hsc hs h3
    have hu39 := Try.underlying39
    go_enter Try.func15, Try.ntmps15
    cases lb <;> cases is <;> cases als
    all_goals
      go_wp2_with (first | (go_at_call 22; (with_reducible refine (stamp_read.calls a0 _ _ _ HZ.out HL.out).mono ?_); rintro e w1 ⟨rfl, hb1⟩; have HB1 := Aside0.mk hb1; clear hb1) | (go_at_call 23; (with_reducible refine (day_Number.calls k _ _ _ _ _ _ HN.out).mono ?_); rintro e w2 ⟨rfl, ⟨nd, rfl⟩⟩) | (go_at_call 11; (with_reducible refine (stamp_Second.calls k _ _ _ _ _ _ HS.out).mono ?_); rintro e w3 ⟨rfl, hb3⟩; have HB3 := Aside0.mk hb3; clear hb3))
      go_ret3
      have h3 := H3.out
      simp [stamp_Parse.g] at h3
      obtain ⟨rfl, rfl, rfl⟩ := h3
      exact ⟨rfl, below_step (pw_below_drewN (below_alloc HB1.out _) _) HB3.out⟩
  · rw [if_neg hs] at h; cases h

/-! ### stamp_Day: function 17 -/
def stamp_Day.f (k : Nat) (a0 : Int) : Option (ByteArray × Bool) := (day_Date.f k a0).bind fun bt124 => (if bt124.2.2.2 = true then (if 0 ≤ 10 then (if 10 ≤ 20 then ((stamp_fill.f ((⟨#[48, 48, 48, 48, 45, 48, 48, 45, 48, 48, 84, 48, 48, 58, 48, 48, 58, 48, 48, 90]⟩ : ByteArray).extract 0 10) (([bt124.1, bt124.2.1, bt124.2.2.1] : List Int))).bind fun t131 => (some (t131, true))) else (none)) else (none)) else (some ((⟨#[]⟩ : ByteArray), false)))
theorem stamp_Day.mono : ∀ a0 k, LeO (stamp_Day.f k a0) (stamp_Day.f (k + 1) a0) := by
  intro a0 k
  unfold stamp_Day.f
  repeat' first
      | (with_reducible exact day_Date.mono _ _)
      | (with_reducible exact LeO.refl _)
      | (with_reducible exact LeO.none _)
      | (with_reducible refine LeO.ite ?_ ?_)
      | (with_reducible refine LeO.bind ?_ (fun _ => ?_))
      | exact day_Date.mono _ _
      | exact LeO.none _
      | refine LeO.ite ?_ ?_
      | refine LeO.bind ?_ (fun _ => ?_)
set_option maxHeartbeats 8000000 in
set_option maxRecDepth 100000 in
theorem stamp_Day.calls (k : Nat) (a0 : Int) (r1 : ByteArray) (r2 : Bool) (w : World) (h : stamp_Day.f k a0 = some (r1, r2)) :
    Calls Try.prog 17 #[.int .i64 a0] w fun e w' => e = .returned (.tuple #[.string r1, .bool r2]) ∧ Below w.heap.size w w' := by
  have HB := Aside0.mk (Below.refl w.heap.size w)
  have H : ((day_Date.f k a0).bind fun bt124 => (if bt124.2.2.2 = true then (if 0 ≤ 10 then (if 10 ≤ 20 then ((stamp_fill.f ((⟨#[48, 48, 48, 48, 45, 48, 48, 45, 48, 48, 84, 48, 48, 58, 48, 48, 58, 48, 48, 90]⟩ : ByteArray).extract 0 10) (([bt124.1, bt124.2.1, bt124.2.2.1] : List Int))).bind fun t131 => (some (t131, true))) else (none)) else (none)) else (some ((⟨#[]⟩ : ByteArray), false)))) = some (r1, r2) := h
  clear h
  replace H := Option.bind_eq_some_iff.mp H
  obtain ⟨⟨t124, t125, t126, t127⟩, A20, H⟩ := H
  replace H : (if t127 = true then (if 0 ≤ 10 then (if 10 ≤ 20 then ((stamp_fill.f ((⟨#[48, 48, 48, 48, 45, 48, 48, 45, 48, 48, 84, 48, 48, 58, 48, 48, 58, 48, 48, 90]⟩ : ByteArray).extract 0 10) (([t124, t125, t126] : List Int))).bind fun t131 => (some (t131, true))) else (none)) else (none)) else (some ((⟨#[]⟩ : ByteArray), false))) = some (r1, r2) := H
  have A2 := Aside0.mk A20
  clear A20
  by_cases c3 : t127 = true
  · subst c3
    have H1 : (if 0 ≤ 10 then (if 10 ≤ 20 then ((stamp_fill.f ((⟨#[48, 48, 48, 48, 45, 48, 48, 45, 48, 48, 84, 48, 48, 58, 48, 48, 58, 48, 48, 90]⟩ : ByteArray).extract 0 10) (([t124, t125, t126] : List Int))).bind fun t131 => (some (t131, true))) else (none)) else (none)) = some (r1, r2) := by rw [if_pos rfl] at H; exact H
    clear H
    have H := H1
    clear H1
    by_cases c4 : 0 ≤ 10
    · rw [if_pos c4] at H
      have c4b0 := eq_true c4
      have c4b1 : decide (0 ≤ 10) = true := decide_eq_true c4
      clear c4
      by_cases c5 : 10 ≤ 20
      · rw [if_pos c5] at H
        have c5b0 := eq_true c5
        have c5b1 : decide (10 ≤ 20) = true := decide_eq_true c5
        clear c5
        obtain ⟨y128, hy128⟩ : ∃ y_ : List Int, y_ = (([t124, t125, t126] : List Int)) := ⟨_, rfl⟩
        replace H : ((stamp_fill.f ((⟨#[48, 48, 48, 48, 45, 48, 48, 45, 48, 48, 84, 48, 48, 58, 48, 48, 58, 48, 48, 90]⟩ : ByteArray).extract 0 10) y128).bind fun t131 => (some (t131, true))) = some (r1, r2) := by first | (rw [hy128]; with_reducible exact H) | (have H2_ := (Option.bind_some _ _).symm.trans H; rw [hy128]; with_reducible exact H2_) | (have H2_ := (Option.bind_some _ _).symm.trans H; with_reducible exact H2_) | with_reducible exact H | (rw [hy128]; exact H) | exact H
        have Ny128 := Aside0.mk hy128
        clear hy128
        replace H := Option.bind_eq_some_iff.mp H
        obtain ⟨t131, A60, H⟩ := H
        replace H : (some (t131, true)) = some (r1, r2) := H
        have A6 := Aside0.mk A60
        clear A60
        simp only [Option.some.injEq, Prod.mk.injEq] at H
        obtain ⟨rfl, rfl⟩ := H
        go_enter Try.func17, Try.ntmps17
        go_wp2_with (first | ((with_reducible refine gate_callee (f := 19) rfl ?_); refine goesL_ (some 10) rfl rfl Try.func19 (by kernel_rfl) rfl #[.int .i64 a0] rfl (by (try simp only [List.map_toArray, List.map_cons, List.map_nil]); first | done | rfl | (simp only [List.length_drop, List.length_take]; rfl)) ?_; (with_reducible refine (day_Date.calls k a0 t124 t125 t126 true _ A2.out).mono ?_); rintro e w' ⟨rfl, ⟨nd, rfl⟩⟩; refine ⟨_, rfl, ?_⟩) | ((with_reducible refine gate_dst (N := 21) rfl ?_); refine Kd.R_lit (Kd.int .i64) _ 3 ?hg (N := 21) ?hd (xs := ([t124, t125, t126] : List Int)) (inner := [.int .i64 t124, .int .i64 t125, .int .i64 t126]) (ok := fun _ => True) (okp := fun _ => True) ?hr ?hp (fun _ hk => hk) trivial (Below.refl _ _) (Nat.le_refl _) (by simp) ?_; (case hd => rfl); (case hg => rfl); (case hr => first | (go_simp; done) | (go_simp; rfl)); (case hp => exact (Reps.one (show Kd.M (Kd.int .i64) _ _ _ t124 [.int .i64 t124] from rfl) (Reps.one (show Kd.M (Kd.int .i64) _ _ _ t125 [.int .i64 t125] from rfl) (Reps.one (show Kd.M (Kd.int .i64) _ _ _ t126 [.int .i64 t126] from rfl) (Reps.none _ _))))); intro v129 w7 ho8 hb hg_ hnew_; clear hg_ hnew_; (first | rw [← Ny128.out] at ho8 | (simp only [Int.reduceToNat] at ho8; rw [← Ny128.out] at ho8)); have n0_ := Aside0.mk (Kd.R_lower ho8 (below_size (by repeat (first | (with_reducible first | exact HB.out | apply below_alloc | apply pw_below_drewN | apply below_drew1) | exact HB.out)))); have n1_ := Aside0.mk (below_step (by repeat (first | (with_reducible first | exact HB.out | apply below_alloc | apply pw_below_drewN | apply below_drew1) | exact HB.out)) hb); clear HB; have HO130 := n0_; have HB := n1_; clear n0_ n1_; clear hb ho8; obtain ⟨Ao9, co9, eo9⟩ := Kd.R_slice HO130.out; subst eo9) | ((with_reducible refine gate_callee (f := 20) rfl ?_); refine goesL_ (some 22) rfl rfl Try.func20 (by kernel_rfl) rfl #[.string ((⟨#[48, 48, 48, 48, 45, 48, 48, 45, 48, 48, 84, 48, 48, 58, 48, 48, 58, 48, 48, 90]⟩ : ByteArray).extract 0 10), .slice Ao9 y128.length co9] rfl (by (try simp only [List.map_toArray, List.map_cons, List.map_nil]); first | done | rfl | (simp only [List.length_drop, List.length_take]; rfl)) ?_; (with_reducible refine (stamp_fill.calls (w0 := w) (ok := fun _ => True) ((⟨#[48, 48, 48, 48, 45, 48, 48, 45, 48, 48, 84, 48, 48, 58, 48, 48, 58, 48, 48, 90]⟩ : ByteArray).extract 0 10) _ _ y128 t131 _ ?side1 ?side2 A6.out).mono ?_); (case side1 => exact (by (with_reducible repeat (first | apply Kd.R_alloc | apply Kd.R_drewN | apply Kd.R_drew)); exact HO130.out)); (case side2 => repeat (first | (with_reducible first | exact HB.out | apply below_alloc | apply pw_below_drewN | apply below_drew1) | exact HB.out)); rintro e w10 ⟨rfl, hb⟩; refine ⟨_, rfl, ?_⟩; have n1_ := Aside0.mk hb; clear HO130; clear HB; have HB := n1_; clear n1_; (try clear hb); (try clear hb2); (try clear hk); (try clear hi)))
        go_ret2
        exact ⟨by first | rfl | (simp [errW_none, errW_some] <;> rfl) | (simp [*, errW_none, errW_some] <;> rfl), by repeat (first | (with_reducible first | exact HB.out | apply below_alloc | apply pw_below_drewN | apply below_drew1) | exact HB.out)⟩
      · rw [if_neg c5] at H
        exact absurd H (by simp)
    · rw [if_neg c4] at H
      exact absurd H (by simp)
  · replace c3 := Bool.eq_false_iff.mpr c3
    subst c3
    have H1 : (some ((⟨#[]⟩ : ByteArray), false)) = some (r1, r2) := by rw [if_neg (show ¬ (false = true) by decide)] at H; exact H
    clear H
    have H := H1
    clear H1
    simp only [Option.some.injEq, Prod.mk.injEq] at H
    obtain ⟨rfl, rfl⟩ := H
    go_enter Try.func17, Try.ntmps17
    go_wp2_with (first | ((with_reducible refine gate_callee (f := 19) rfl ?_); refine goesL_ (some 10) rfl rfl Try.func19 (by kernel_rfl) rfl #[.int .i64 a0] rfl (by (try simp only [List.map_toArray, List.map_cons, List.map_nil]); first | done | rfl | (simp only [List.length_drop, List.length_take]; rfl)) ?_; (with_reducible refine (day_Date.calls k a0 t124 t125 t126 false _ A2.out).mono ?_); rintro e w' ⟨rfl, ⟨nd, rfl⟩⟩; refine ⟨_, rfl, ?_⟩))
    go_ret2
    exact ⟨by first | rfl | (simp [errW_none, errW_some] <;> rfl) | (simp [*, errW_none, errW_some] <;> rfl), by repeat (first | (with_reducible first | exact HB.out | apply below_alloc | apply pw_below_drewN | apply below_drew1) | exact HB.out)⟩

end Go.Proofs.Ytpgkdagjlbcgkaa.PAll
