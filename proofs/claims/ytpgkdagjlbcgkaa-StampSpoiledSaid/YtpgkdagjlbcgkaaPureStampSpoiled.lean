/- StampSpoiled: a text with one byte of another kind, shorter, or longer, says nothing, or what it says in full, for any day, any second, any place and any byte: no condition. -/
import Derived.Test.YtpgkdagjlbcgkaaStampO
import Derived.Test.YtpgkdagjlbcgkaaSmall04
import Derived.Test.YtpgkdagjlbcgkaaPAllx11
namespace Go.Proofs.Ytpgkdagjlbcgkaa.Pure
open Go.RowKit Go.Proofs.Ytpgkdagjlbcgkaa.PAll Go.Proofs.YtpgkdagjlbcgkaaW.PrintWords Go.Proofs.YtpgkdagjlbcgkaaW.PrintLast
set_option linter.unusedVariables false

theorem parse_size (k : Nat) (s : ByteArray) (hs : s.size ≤ 1000) (h : s.size ≠ 20) : stamp_Parse.f (k + 1) s = some (0, 0, false) := by
  rcases parse_law k s hs with ⟨y, m, d, hh, n, t, e, _, _⟩ | ⟨e, _⟩
  · subst e; exact absurd rfl h
  · exact e
theorem sp_size (s : ByteArray) (k : Nat) (c : Int) : (epactlaw04_StampSpoiled.sp s k c).size = s.size := by
  show (s.data.toList.set k (UInt8.ofNat c.toNat)).toArray.size = _
  simp
theorem sp_get (s : ByteArray) (k : Nat) (c : Int) (hk : k < s.size) (c0 : 0 ≤ c) (c1 : c ≤ 255) : stamp_read.c (epactlaw04_StampSpoiled.sp s k c) k = c := by
  unfold stamp_read.c epactlaw04_StampSpoiled.sp
  have hk2 : k < s.data.size := hk
  rw [epactlaw04_StampSpoiled.get _ k (by simpa using hk)]
  simp; omega
theorem sp_same (s : ByteArray) (k : Nat) (c : Int) (hk : k < s.size) (c0 : 0 ≤ c) (c1 : c ≤ 255) (h : stamp_read.c s k = c) : epactlaw04_StampSpoiled.sp s k c = s := by
  have hk2 : k < s.data.size := hk
  have hk3 : k < s.data.toList.length := by simpa using hk
  have e : UInt8.ofNat c.toNat = s.data.toList[k] := by
    have g : s.get! k = s.data.toList[k] := by
      show s.data[k]! = _
      rw [getElem!_pos s.data k hk2]; simp
    unfold stamp_read.c at h
    rw [← g]
    apply UInt8.toNat_inj.mp
    rw [UInt8.toNat_ofNat']
    have := UInt8.toNat_lt (s.get! k)
    omega
  unfold epactlaw04_StampSpoiled.sp
  rw [e, List.set_getElem_self]
theorem StampSpoiled : epactlaw04_StampSpoiled.Pure := by
  intro d sec a2 c _ _ _ wc
  have hc : 0 ≤ c ∧ c ≤ 255 := by
    simp [Lit.wf, IntKind.min, IntKind.max, IntKind.signed, IntKind.bits] at wc; omega
  refine ⟨10, ?_⟩
  unfold epactlaw04_StampSpoiled.f
  rw [small04 8, text_law 9]
  simp only [Option.bind_some]
  by_cases h1 : (-719162 ≤ d ∧ d ≤ 2932896) ∧ 0 ≤ sec ∧ sec ≤ 86400
  · simp only [if_pos h1]
    have z : (⟨(dsx d sec).toArray⟩ : ByteArray).size = 20 := rfl
    rw [z]
    by_cases h2 : True ∧ 0 ≤ a2 ∧ a2 < ((20 : Nat) : Int)
    · rw [if_pos h2, if_pos ⟨by omega, hc.1, hc.2⟩]
      obtain ⟨_, k0, k1⟩ := h2
      obtain ⟨kk, rfl⟩ : ∃ kk : Nat, a2 = (kk : Int) := ⟨a2.toNat, by omega⟩
      rw [Int.toNat_natCast]
      have P := dsx_parse 9 d sec h1.1 h1.2
      obtain ⟨v, vn⟩ := Cal.date_law d h1.1.1 h1.1.2
      obtain ⟨cv, cn⟩ := clock_cv sec h1.2.1 h1.2.2
      have hg : ∀ j, j < 20 → stamp_read.good ⟨(dsx d sec).toArray⟩ j = true := text_good _ _ _ _ _ _
      generalize hs : (⟨(dsx d sec).toArray⟩ : ByteArray) = s at *
      unfold epactlaw04_StampSpoiled.g
      have ts := sp_size s kk c
      have tg := sp_get s kk c (by omega) hc.1 hc.2
      have te := sp_same s kk c (by omega) hc.1 hc.2
      generalize epactlaw04_StampSpoiled.sp s kk c = t at *
      have q3 : stamp_Parse.f 10 (s.extract 0 kk) = some (0, 0, false) := parse_size 9 _ (by rw [ByteArray.size_extract]; omega) (by rw [ByteArray.size_extract]; omega)
      have q4 : stamp_Parse.f 10 (s ++ t.extract kk (kk + 1)) = some (0, 0, false) := parse_size 9 _ (by rw [ByteArray.size_append, ByteArray.size_extract]; omega) (by rw [ByteArray.size_append, ByteArray.size_extract]; omega)
      rw [q3, q4]
      rcases parse_law 9 t (by omega) with ⟨y, m, dd, hh, n, tt, rfl, v', c'⟩ | ⟨e, hn⟩
      · have bn := Cal.num_bd _ _ _ v'
        obtain ⟨c0, c1, _⟩ := cv_clock _ _ _ c'
        rw [parse_text 9 _ _ _ _ _ _ v' c']
        simp only [Option.bind_some]
        rw [if_pos (by simp), if_pos trivial, text_law 9, if_pos ⟨bn, c0, c1⟩]
        simp only [Option.bind_some]
        rw [dsx_text _ _ _ _ _ _ v' c', if_pos]
        refine ⟨rfl, ?_⟩
        have g1 := good_is _ kk (text_good y m dd hh n tt kk (by omega))
        have g2 := good_is _ kk (hg kk (by omega))
        rw [tg] at g1
        by_cases q : stamp_read.m kk = 48
        · exact .inl (g1.1 q)
        · right
          rw [te (by rw [g2.2 q, g1.2 q])]
      · rw [e]
        simp only [Option.bind_some]
        rw [if_pos (by simp), if_neg (by decide), if_neg]
        intro hts
        rw [ba_ext hts, P] at e
        simp at e
    · rw [if_neg h2]
  · simp only [if_neg h1]
    rw [if_neg (by simp)]

end Go.Proofs.Ytpgkdagjlbcgkaa.Pure
