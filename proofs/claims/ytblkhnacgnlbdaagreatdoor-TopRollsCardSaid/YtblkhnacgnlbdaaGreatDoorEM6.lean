import Derived.Test.YtblkhnacgnlbdaaGreatDoorEG
import Derived.Test.YtblkhnacgnlbdaaGreatDoorET0
import Derived.Test.YtblkhnacgnlbdaaGreatDoorEM2
import Derived.Test.YtblkhnacgnlbdaaGreatDoorEM5
set_option linter.all false
namespace Go.Den
set_option maxHeartbeats 4000000
open Go.Proofs
set_option linter.unusedSimpArgs false
set_option maxHeartbeats 1000000
def CL (f:Nat):Prop:=∀ c,∃ v,Val PT f [.int .i32 c] v∧∃ b,v=.bool b∧(b=false→0 < c∧c < 128)
theorem v247:CL 247:=by
  intro c
  refine sv c247 fun Q hF=>?_
  repeat' first | refine ga ?_ | (refine so ?_;first | (refine wp_call (v248 _) rfl rfl rfl rfl ?_;rintro _ ⟨t,rfl,h⟩<;>refine xq ?_)) | refine gb ?_ | intro _ | refine gd ?_ ?_
  all_goals (subst hF;(repeat refine ge ?_);try dsimp only [RA])
  exact ⟨_,rfl,fun h'=>h (by simpa using h')⟩
theorem v227s (c:Int):∃ v,Val PT 227 [.int .i32 c] v∧∃ t,v=.bool t∧(t=true→0 < c∧c < 128):=by
  refine sv c227 fun Q hF=>?_
  repeat' first | refine ga ?_ | refine gb ?_ | intro _ | refine gd ?_ ?_
  all_goals (subst hF;(repeat refine ge ?_);try dsimp only [RA])
  refine ⟨_,rfl,fun h=>?_⟩
  have h:=Bp.iff.mp h
  omega
theorem v226:CL 226:=by
  intro c
  refine sv c226 fun Q hF=>?_
  repeat' first | refine ga ?_ | (refine so ?_;first | (refine wp_call (v227s _) rfl rfl rfl rfl ?_;rintro _ ⟨t,rfl,h⟩<;>refine xq ?_)) | refine gb ?_ | intro _ | refine gd ?_ ?_
  all_goals (subst hF;(repeat refine ge ?_);try dsimp only [RA])
  exact ⟨_,rfl,fun h'=>h (by simpa using h')⟩
theorem v274 (s:ByteArray) (f:Nat) (hf:CL f) (hs:s.size≤1000000):∃ v,Val PT 274 [.str s,.fn f [] [],.bool true] v∧∃ k,v=i64 k∧-1≤k∧k < s.size∧(k < 0→0 ∉ tl s):=by
  refine sv c274 fun Q hF=>?_
  repeat' first | refine ga ?_ | refine gb ?_ | intro _ | refine gd ?_ ?_
  show WpL _ _ _ _
  refine wp_loop (n:=21) (fun m y=>∃ (p:Nat),(s.size - p≤m∧p≤s.size∧0 ∉ (tl s).take p)∧y=⟨[(1,[],.fn f [] []),(2,[],.bool true),(10,[],.ptr (0,10,0) 0 0)],[(10,0,.iter s p)],fun _=>none,false⟩) (s.size) ?_ ?_
  · exact ⟨0,⟨by omega,by omega,by simp⟩,rfl⟩
  · rintro m _ ⟨p,⟨h1,h2,h3⟩,rfl⟩
    have hw:=dec_w s p
    show wpC PT 21 _ c274_l0 _ _
    unfold c274_l0
    repeat' first | refine ga ?_ | (refine so ?_;first | (refine wp_call (hf _) rfl rfl rfl rfl ?_;rintro _ ⟨b,rfl,hb⟩<;>refine xq ?_)) | refine gb ?_ | intro _ | refine gd ?_ ?_
    · skip
      all_goals (subst hF;(repeat refine ge ?_);try dsimp only [RA])
      exact ⟨_,rfl,by omega,by omega,fun h=>absurd h (by omega)⟩
    · rename_i hp hbt
      have hbf:b=false:=by simpa using hbt
      have hd:=dec_ascii s p (by have:=hb hbf;omega)
      rw [hd] at hb
      have h0:=hb hbf
      have hget:=get_b s p hp
      refine ⟨m - 1,by omega,_,⟨?_,(hw hp).2,?_⟩,rfl⟩
      · have:=(hw hp).1;omega
      · rw [hd]
        have hlt:p < (tl s).length:=by rw [tl_len];exact hp
        rw [List.take_succ_eq_append_getElem hlt,List.mem_append,List.mem_singleton]
        rintro (h | h)
        · exact h3 h
        · rw [hget,← h] at h0
          exact absurd h0.1 (by decide)
    · skip
      all_goals (subst hF;(repeat refine ge ?_);try dsimp only [RA])
      refine ⟨_,rfl,by omega,by omega,fun _=>?_⟩
      rw [List.take_of_length_le (by rw [tl_len];omega)] at h3
      exact h3
theorem v225 (s:ByteArray) (f:Nat) (hf:CL f) (hs:s.size≤1000000):∃ v,Val PT 225 [.str s,.fn f [] []] v∧∃ k,v=i64 k∧-1≤k∧k < s.size∧(k < 0→0 ∉ tl s):=by
  refine sv c225 fun Q hF=>?_
  repeat' first | refine ga ?_ | (refine so ?_;first | (refine wp_call (v274 s f hf hs) rfl rfl rfl rfl ?_;rintro _ ⟨k,rfl,h1,h2,h3⟩<;>refine xq ?_)) | refine gb ?_ | intro _ | refine gd ?_ ?_
  all_goals (subst hF;(repeat refine ge ?_);try dsimp only [RA])
  exact ⟨k,rfl,h1,h2,h3⟩
theorem v249 (s:ByteArray) (f:Nat) (hf:CL f) (hs:s.size≤1000000):∃ v,Val PT 249 [.str s,.fn f [] []] v∧∃ b,v=.bool b∧(b=false→0 ∉ tl s):=by
  refine sv c249 fun Q hF=>?_
  repeat' first | refine ga ?_ | (refine so ?_;first | (refine wp_call (v225 s f hf hs) rfl rfl rfl rfl ?_;rintro _ ⟨k,rfl,h1,h2,h3⟩<;>refine xq ?_)) | refine gb ?_ | intro _ | refine gd ?_ ?_
  all_goals (subst hF;(repeat refine ge ?_);try dsimp only [RA])
  exact ⟨_,rfl,fun h=>h3 (by simpa using h)⟩
theorem v180 (s:ByteArray) (hs:s.size≤1000000):∃ v,Val PT 180 [.str s] v∧∃ b,v=.bool b∧(b=true→3≤s.size∧s.size≤16∧0 ∉ tl s):=by
  refine sv c180 fun Q hF=>?_
  repeat' first | refine ga ?_ | (refine so ?_;first | (refine rgc rfl (v249 s 247 v247 hs) rfl rfl rfl rfl rfl ?_;rintro _ ⟨b,rfl,hb⟩<;>refine xq ?_)) | refine gb ?_ | intro _ | refine gd ?_ ?_
  all_goals (subst hF;(repeat refine ge ?_);try dsimp only [RA])
  refine ⟨_,rfl,fun h=>?_⟩
  have h:=Bp.iff.mp h
  exact ⟨by omega,by omega,hb (by simpa using h.2)⟩
theorem v131 (a b:List UInt8) (ha:a.length≤1000000) (hb:b.length≤1000000):∃ v,Val PT 131 [.sl 1 (u8l a) .sh,.sl 1 (u8l b) .sh] v∧∃ t,v=.bool t∧(a=[]→b=[]→t=true):=by
  refine sv c131 fun Q hF=>?_
  repeat' first | refine ga ?_ | refine gb ?_ | intro _ | refine gd ?_ ?_
  show WpL _ _ _ _
  refine wp_loop (n:=41) (fun m y=>∃ (k:Int),(b.length - k≤m∧0≤k∧k≤b.length)∧y=⟨[(0,[],.sl 1 (u8l a) .sh),(1,[],.sl 1 (u8l b) .sh),(5,[],.fn 210 [] []),(8,[],.sl 1 (u8l b) .sh),(9,[],i64 b.length),(10,[],i64 k)],[],fun _=>none,false⟩) (b.length) ?_ ?_
  · exact ⟨0,⟨by omega,by omega,by omega⟩,by rw [← u8l_len];rfl⟩
  · rintro m _ ⟨k,⟨h1,h2,h3⟩,rfl⟩
    show wpC PT 41 _ c131_l0 _ _
    unfold c131_l0
    repeat' first | refine ga ?_ | (refine so ?_;first | refine cr (v207 _ _ (fun n=>decide (n > 1)) v210 ha) rfl rfl rfl rfl rfl ?_ | (refine rgc rfl (v207 _ _ (fun n=>decide (n > 1)) v210 hb) rfl rfl rfl rfl rfl ?_;rintro _ rfl<;>refine xq ?_)) | refine gb ?_ | intro _ | refine gd ?_ ?_
    all_goals try exact ⟨m - 1,by omega,k+1,⟨by omega,by omega,by omega⟩,rfl⟩
    all_goals (subst hF;(repeat refine ge ?_);try dsimp only [RA])
    · refine ⟨_,rfl,fun h1 h2=>?_⟩
      subst h2
      exfalso
      have:([]:List UInt8).length=0:=rfl
      omega
    · refine ⟨_,rfl,fun h1 h2=>?_⟩
      subst h1 h2
      rfl
theorem v137 (l:List (Int × Int)) (hl:l.length≤1000000):∃ v,Val PT 137 [.sl 2 (l.map prV) .sh] v∧∃ n c,v=.tup [i64 n,i64 c]∧(c=0→l.length≤201):=by
  refine sv c137 fun Q hF=>?_
  repeat' first | refine ga ?_ | refine gb ?_ | intro _ | refine gd ?_ ?_
  show WpL _ _ _ _
  refine wp_loop (n:=82) (fun m y=>∃ (k a b:Int),(l.length - k≤m∧0≤k∧k≤l.length∧k≤201)∧y=⟨[(0,[],.sl 2 (l.map prV) .sh),(4,[],.ptr (0,4,0) 0 0),(12,[],.sl 2 (l.map prV) .sh),(13,[],i64 l.length),(14,[],i64 k)],[(4,0,.cells 2 [[i64 a,i64 b]])],fun _=>none,false⟩) (l.length) ?_ ?_
  · refine ⟨0,_,_,⟨by omega,by omega,by omega,by omega⟩,by rw [← List.length_map (f:=prV)];rfl⟩
  · rintro m _ ⟨k,a,b,⟨h1,h2,h3,h4⟩,rfl⟩
    show wpC PT 82 _ c137_l0 _ _
    unfold c137_l0
    repeat' first | refine ga ?_ | (refine so ?_;first | (refine wp_call (v101 _ _) rfl rfl rfl rfl ?_;rintro _ ⟨c,t,rfl⟩<;>refine xq ?_)) | refine gb ?_ | intro _ | refine gd ?_ ?_
    all_goals try exact ⟨m - 1,by omega,k+1,_,_,⟨by omega,by omega,by omega,by omega⟩,rfl⟩
    all_goals (subst hF;(repeat refine ge ?_);try dsimp only [RA])
    all_goals (refine ⟨_,_,rfl,fun hz=>?_⟩;first | omega | exact absurd hz (by decide))
theorem v138 (l:List (Int × Int)) (hl:l.length≤1000000):∃ v,Val PT 138 [.sl 2 (l.map prV) .sh] v∧∃ k,v=.sl 2 ((l.take k).map prV) .sh∧k≤l.length:=by
  refine sv c138 fun Q hF=>?_
  repeat' first | refine ga ?_ | refine gb ?_ | intro _ | refine gd ?_ ?_
  all_goals try show WpO _ _ _ _ _ _
  all_goals (subst hF;(repeat refine ge ?_);try dsimp only [RA])
  · exact ⟨(↑(List.map prV l).length - 1:Int).toNat,by rw [List.map_take],ol⟩
  · exact ⟨l.length,by rw [List.take_length],Nat.le_refl _⟩
  · exact ⟨(↑(List.map prV l).length - 1:Int).toNat,by rw [List.map_take],ol⟩
  · exact ⟨l.length,by rw [List.take_length],Nat.le_refl _⟩
theorem v62 (l:List (Int × Int)) (hl:l.length≤1000000):∃ v,Val PT 62 [.sl 2 (l.map prV) .sh] v∧∃ n t,v=.tup [i64 n,.bool t]:=by
  refine sv c62 fun Q hF=>?_
  repeat' first | refine ga ?_ | (refine so ?_;first | (refine wp_call (v138 l hl) rfl rfl rfl rfl ?_;rintro _ ⟨k,rfl,hk⟩<;>refine xq ?_)) | refine gb ?_ | intro _ | refine gd ?_ ?_
  all_goals (subst hF;(repeat refine ge ?_);try dsimp only [RA])
  all_goals exact ⟨_,_,rfl⟩
theorem v61 (l:List (Int × Int)) (hl:l.length≤1000000):∃ v,Val PT 61 [.sl 2 (l.map prV) .sh] v∧∃ t,v=.bool t∧(t=true→l.length≤201):=by
  refine sv c61 fun Q hF=>?_
  repeat' first | refine ga ?_ | (refine so ?_;first | (refine wp_call (v137 l hl) rfl rfl rfl rfl ?_;rintro _ ⟨n,c,rfl,h⟩<;>refine xq ?_)) | refine gb ?_ | intro _ | refine gd ?_ ?_
  all_goals (subst hF;(repeat refine ge ?_);try dsimp only [RA])
  exact ⟨_,rfl,fun hh=>h (by simpa using hh)⟩
end Go.Den
