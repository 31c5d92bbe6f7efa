import Derived.Test.YtblkhnacgnlbdaaGreatDoorEG
import Derived.Test.YtblkhnacgnlbdaaGreatDoorET0
set_option linter.all false
namespace Go.Den
set_option maxHeartbeats 4000000
open Go.Proofs
theorem ixB_lt (s:ByteArray) (c:UInt8):-1≤ixByte s c∧ixByte s c < s.size:=by
  unfold ixByte
  split
  · rename_i i h
    have:=List.mem_of_find?_eq_some h
    rw [List.mem_range] at this
    omega
  · omega
theorem u8r (c:UInt8):UInt8.ofNat ((c.toNat:Int)).toNat=c:=by simp
theorem ixB_one (c:UInt8):ixByte (bs [c]) c=0:=by
  have e:((bs [c])[0]! == c)=true:=by
    show (c == c)=true
    simp
  unfold ixByte
  have:(List.range (bs [c]).size).find? (fun i=>(bs [c])[i]! == c)=some 0:=by
    show (List.range 1).find? _=_
    simp only [List.range,List.range.loop,List.find?,e]
  rw [this];rfl
theorem v193 (s:ByteArray) (c:Int):∃ v,Val PT 193 [.str s,.int .u8 c] v∧v=i64 (ixByte s (UInt8.ofNat c.toNat)):=by
  refine sv c193 fun Q hF=>?_
  repeat' first | refine ga ?_ | refine gb ?_ | intro _ | refine gd ?_ ?_
  all_goals (subst hF;(repeat refine ge ?_);try dsimp only [RA])
  rfl
theorem v117 (s:ByteArray) (c:UInt8):∃ v,Val PT 117 [.str s,.str (bs [c])] v∧v=i64 (ixByte s c):=by
  refine sv c117 fun Q hF=>?_
  repeat' first | refine ga ?_ | (refine so ?_;first | refine cr (v193 _ _) rfl rfl rfl rfl rfl ?_) | refine gb ?_ | intro _ | refine gd ?_ ?_
  all_goals (subst hF;(repeat refine ge ?_);try dsimp only [RA])
  · rename_i h;rcases h with h | h
    · cases h
    · subst s;rw [ixB_one]
  · show i64 (ixByte s (UInt8.ofNat ((c.toNat:Int)).toNat))=_
    rw [u8r]
theorem v191 (s:ByteArray) (c:UInt8):∃ v,Val PT 191 [.str s,.str (bs [c])] v∧v=i64 (ixByte s c):=by
  refine sv c191 fun Q hF=>?_
  repeat' first | refine ga ?_ | (refine so ?_;first | refine cr (v117 _ _) rfl rfl rfl rfl rfl ?_) | refine gb ?_ | intro _ | refine gd ?_ ?_
  all_goals (subst hF;(repeat refine ge ?_);try dsimp only [RA])
  rfl
theorem v261 (s t:ByteArray) (hs:s.size≤1000000) (ht:t.size≤1000000):∃ v,Val PT 261 [.str s,.str t] v∧((v=.bool true∧t.size≤s.size∧s.extract 0 t.size=t)∨v=.bool false):=by
  refine sv c261 fun Q hF=>?_
  repeat' first | refine ga ?_ | refine gb ?_ | intro _ | refine gd ?_ ?_
  all_goals (subst hF;(repeat refine ge ?_);try dsimp only [RA])
  generalize h:(bif _ then _ else false)=b
  cases b
  · exact .inr rfl
  refine .inl ⟨rfl,?_⟩
  have h1:s.size ≥ t.size:=by
    rcases Nat.lt_or_ge s.size t.size with hh | hh
    · have:decide ((s.size:Int) ≥ t.size)=false:=decide_eq_false (by omega)
      rw [this] at h;cases h
    · exact hh
  rw [show decide ((s.size:Int) ≥ t.size)=true from decide_eq_true (by omega)] at h
  exact ⟨h1,by simpa using bs_eq.mp h⟩
theorem v192 (s t:ByteArray) (hs:s.size≤1000000) (ht:t.size≤1000000):∃ v,Val PT 192 [.str s,.str t] v∧((v=.bool true∧t.size≤s.size)∨v=.bool false):=by
  refine sv c192 fun Q hF=>?_
  repeat' first | refine ga ?_ | refine gb ?_ | intro _ | refine gd ?_ ?_
  all_goals (subst hF;(repeat refine ge ?_);try dsimp only [RA])
  generalize h:(bif _ then _ else false)=b
  cases b
  · exact .inr rfl
  refine .inl ⟨rfl,?_⟩
  rcases Nat.lt_or_ge s.size t.size with hh | hh
  · have:decide ((s.size:Int) ≥ t.size)=false:=decide_eq_false (by omega)
    rw [this] at h;cases h
  · exact hh
theorem v200 (s t:ByteArray) (hs:s.size≤1000000) (ht:t.size≤1000000):∃ v,Val PT 200 [.str s,.str t] v∧∃ b,v=.bool b:=by
  refine sv c200 fun Q hF=>?_
  repeat' first | refine ga ?_ | (refine so ?_;first | (refine wp_call (v261 _ _ hs ht) rfl rfl rfl rfl ?_;rintro _ (⟨rfl,h⟩ | rfl)<;>refine xq ?_)) | refine gb ?_ | intro _ | refine gd ?_ ?_
  all_goals (subst hF;(repeat refine ge ?_);try dsimp only [RA])
  · exact ⟨_,rfl⟩
  · exact ⟨_,rfl⟩
theorem v52 (s:ByteArray) (c:UInt8) (hs:s.size≤1000000):∃ v,Val PT 52 [.str s,.str (bs [c])] v∧v=if 0≤ixByte s c then .tup [.str (s.extract 0 (ixByte s c).toNat),.str (s.extract ((ixByte s c).toNat+1) s.size),.bool true] else .tup [.str s,.str (bs []),.bool false]:=by
  have hc:=ixB_lt s c
  have hb:(bs [c]).size=1:=rfl
  refine sv c52 fun Q hF=>?_
  repeat' first | refine ga ?_ | (refine so ?_;first | refine cr (v117 _ _) rfl rfl rfl rfl rfl ?_) | refine gb ?_ | intro _ | refine gd ?_ ?_
  all_goals (subst hF;(repeat refine ge ?_);try dsimp only [RA])
  · rw [if_pos (by assumption),hb,show (ixByte s c+((1:Nat):Int)).toNat=(ixByte s c).toNat+1 by omega]
  · rw [if_neg (by assumption)]
theorem v21 (s:ByteArray) (c:UInt8) (hs:s.size≤1000000):∃ v,Val PT 21 [.str s,.str (bs [c])] v∧v=if 0≤ixByte s c then .tup [.str (s.extract 0 (ixByte s c).toNat),.str (s.extract ((ixByte s c).toNat+1) s.size),.bool true] else .tup [.str s,.str (bs []),.bool false]:=by
  obtain ⟨v,hv,hw⟩:=v52 s c hs
  have:∃ v,Val PT 52 [.str s,.str (bs [c])] v∧∃ a b t,v=.tup [.str a,.str b,.bool t]∧.tup [.str a,.str b,.bool t]=if 0≤ixByte s c then V.tup [.str (s.extract 0 (ixByte s c).toNat),.str (s.extract ((ixByte s c).toNat+1) s.size),.bool true] else .tup [.str s,.str (bs []),.bool false]:=by
    refine ⟨v,hv,?_⟩
    rw [hw]
    split<;>exact ⟨_,_,_,rfl,rfl⟩
  refine sv c21 fun Q hF=>?_
  repeat' first | refine ga ?_ | (refine so ?_;first | (refine wp_call (this) rfl rfl rfl rfl ?_;rintro _ ⟨a,b,t,rfl,h⟩<;>refine xq ?_)) | refine gb ?_ | intro _ | refine gd ?_ ?_
  all_goals (subst hF;(repeat refine ge ?_);try dsimp only [RA])
  exact h
theorem v116 (s t:ByteArray) (hs:s.size≤1000000) (ht:t.size≤1000000):∃ v,Val PT 116 [.str s,.str t] v∧∃ r,v=.str r∧r.size≤s.size:=by
  refine sv c116 fun Q hF=>?_
  repeat' first | refine ga ?_ | (refine so ?_;first | (refine wp_call (v192 _ _ hs ht) rfl rfl rfl rfl ?_;rintro _ (⟨rfl,h⟩ | rfl)<;>refine xq ?_)) | refine gb ?_ | intro _ | refine gd ?_ ?_
  all_goals (subst hF;(repeat refine ge ?_);try dsimp only [RA])
  · exact ⟨_,rfl,by simp only [ext_size];omega⟩
  · exact ⟨_,rfl,Nat.le_refl _⟩
theorem v51 (s t:ByteArray) (hs:s.size≤1000000) (ht:t.size≤1000000):∃ v,Val PT 51 [.str s,.str t] v∧∃ r,v=.str r∧r.size≤s.size:=by
  refine sv c51 fun Q hF=>?_
  repeat' first | refine ga ?_ | (refine so ?_;first | (refine wp_call (v116 _ _ hs ht) rfl rfl rfl rfl ?_;rintro _ ⟨r,rfl,_⟩<;>refine xq ?_)) | refine gb ?_ | intro _ | refine gd ?_ ?_
  all_goals (subst hF;(repeat refine ge ?_);try dsimp only [RA])
  exact ⟨_,rfl,by assumption⟩
end Go.Den
