import Derived.Test.YtblkhnacgnlbdaaGreatDoorEG
import Derived.Test.YtblkhnacgnlbdaaGreatDoorET0
import Derived.Test.YtblkhnacgnlbdaaGreatDoorEM1
import Derived.Test.YtblkhnacgnlbdaaGreatDoorEM2
set_option linter.all false
namespace Go.Den
set_option maxHeartbeats 4000000
open Go.Proofs
set_option linter.unusedSimpArgs false
theorem v197 (s:ByteArray) (hs:s.size≤1000000):∃ v,Val PT 197 [.str s] v∧∃ c t,v=.tup [i64 c,.bool t]:=by
  refine sv c197 fun Q hF=>?_
  repeat' first | refine ga ?_ | refine gb ?_ | intro _ | refine gd ?_ ?_
  show WpL _ _ _ _
  refine wp_loop (n:=50) (fun m y=>∃ k n o,(m:Int)=s.size - k∧0≤k∧k≤s.size∧y=⟨[(0,[],.str s),(2,[],i64 n),(11,[],.sl 1 (str8 s) o),(12,[],i64 s.size),(13,[],i64 k)],[],fun _=>none,false⟩) (s.size) ?_ ?_
  · exact ⟨0,0,.uniq,by omega,by omega,by omega,by rw [← str8_len];rfl⟩
  · rintro m _ ⟨k,n,o,h1,h2,h3,rfl⟩
    show wpC PT 50 _ c197_l0 _ _
    unfold c197_l0
    cases o<;>repeat' first | refine ga ?_ | (refine so ?_;first | (refine wp_call (v257 _ _) rfl rfl rfl rfl ?_;rintro _ ⟨c,t,rfl⟩<;>refine xq ?_) | (refine wp_call (v78 _ _) rfl rfl rfl rfl ?_;rintro _ ⟨c,t,rfl⟩<;>refine xq ?_)) | refine gb ?_ | intro _ | refine gd ?_ ?_
    all_goals try exact ⟨m - 1,by omega,k+1,_,_,by omega,by omega,by omega,rfl⟩
    all_goals (subst hF;(repeat refine ge ?_);try dsimp only [RA])
    all_goals exact ⟨_,_,rfl⟩
theorem v118 (s:ByteArray) (hs:s.size≤1000000):∃ v,Val PT 118 [.str s] v∧∃ r:ByteArray,v=.str r∧r.size=s.size:=by
  refine sv c118 fun Q hF=>?_
  repeat' first | refine ga ?_ | refine gb ?_ | intro _ | refine gd ?_ ?_
  show WpL _ _ _ _
  refine wp_loop (n:=30) (fun m y=>∃ k l,(m:Int)=s.size - k∧0≤k∧k≤s.size∧l.length=s.size∧y=⟨[(3,[],.arr (0,7,0) 1 0 s.size),(8,[],.arr (0,7,0) 1 0 s.size),(9,[],i64 s.size),(10,[],i64 k)],[(7,0,.row 1 (u8l l) false)],fun _=>none,false⟩) (s.size) ?_ ?_
  · exact ⟨0,tl s,by omega,by omega,by omega,tl_len s,by rw [← str8_len];rfl⟩
  · rintro m _ ⟨k,l,h1,h2,h3,h4,rfl⟩
    show wpC PT 30 _ c118_l0 _ _
    unfold c118_l0
    repeat' first | refine ga ?_ | refine gb ?_ | intro _ | refine gd ?_ ?_
    · exact ⟨m - 1,by omega,k+1,_,by omega,by omega,by omega,by simp;omega,rfl⟩
    · exact ⟨m - 1,by omega,k+1,_,by omega,by omega,by omega,h4,rfl⟩
    all_goals (subst hF;(repeat refine ge ?_);try dsimp only [RA])
    exact ⟨_,rfl,h4⟩
theorem v190 (s:ByteArray) (c:UInt8) (hs:s.size≤1000000):∃ v,Val PT 190 [.str s,.str (bs [c])] v∧v=i64 (csByte s c):=by
  have hb:(bs [c]).size=1:=rfl
  refine sv c190 fun Q hF=>?_
  repeat' first | refine ga ?_ | refine gb ?_ | intro _ | refine gd ?_ ?_
  all_goals (subst hF;(repeat refine ge ?_);try dsimp only [RA])
  have e:UInt8.ofNat ((((bs [c]).get! (Int.toNat 0)).toNat:Int)).toNat=c:=u8r c
  rw [e];rfl
theorem v115 (s:ByteArray) (c:UInt8) (n:Int) (hn:n = -1∨n=3) (hs:s.size≤1000000):∃ v,Val PT 115 [.str s,.str (bs [c]),i64 0,i64 n] v∧∃ l:List ByteArray,v=.sl 1 (l.map stE) .uniq∧0 < l.length∧l.length≤s.size+1∧(∀ b ∈ l,b.size≤s.size)∧(n=3→l.length≤3):=by
  have hb:(bs [c]).size=1:=rfl
  have hc:=cs_bound s c
  refine sv c115 fun Q hF=>?_
  repeat' first | refine ga ?_ | (refine so ?_;first | refine cr (v190 _ _ hs) rfl rfl rfl rfl rfl ?_) | refine gb ?_ | intro _ | refine gd ?_ ?_
  · exfalso;omega
  · rename_i h;rw [h] at hb;cases hb
  all_goals (
    show WpL _ _ _ _
    refine wp_loop (n:=66) (fun m y=>∃ (i:Int) (r:ByteArray) (l:List ByteArray) (j:Int) (N:Nat) (es:List (List V)),((N:Int) - i≤m∧0≤i∧i≤j∧j=(N:Int) - 1∧N=l.length∧N≤s.size+1∧r.size≤s.size∧(∀ b ∈ l,b.size≤s.size)∧(n=3→N≤3))∧es=l.map stE∧y=⟨[(0,[],.str r),(1,[],.str (bs [c])),(2,[],i64 0),(3,[],i64 j),(9,[],.arr (0,31,0) 1 0 N),(10,[],i64 i)],[(31,0,.row 1 es false)],fun _=>none,false⟩) (s.size+2) ?_ ?_
    · refine ⟨_,_,_,_,_,_,?_,(List.map_replicate (f:=stE)).symm,rfl⟩
      refine ⟨ol,ol,ol,ol,ol,ol,ol,?_,ol⟩
      intro b hb
      rw [List.mem_replicate] at hb
      rw [hb.2]
      exact Nat.zero_le _
    · rintro m _ ⟨i,r,l,j,N,es,⟨h1,h2,h3,h4,h5,h6,h7,h8,h9⟩,rfl,rfl⟩
      have hx:=ixB_lt r c
      have hm:∀ (k:Nat) (b:ByteArray),b.size≤s.size→∀ a ∈ l.set k b,ByteArray.size a≤s.size:=fun k b hb a ha=>by
        rcases List.mem_or_eq_of_mem_set ha with h | h
        · exact h8 a h
        · rw [h];exact hb
      show wpC PT 66 _ c115_l0 _ _
      unfold c115_l0
      repeat' first | refine ga ?_ | (refine so ?_;first | refine cr (v191 _ _) rfl rfl rfl rfl rfl ?_) | refine gb ?_ | intro _ | refine gd ?_ ?_
      all_goals try (refine ⟨m - 1,by omega,_,_,_,_,_,_,?_,rfl,rfl⟩;simp only [List.length_set,ext_size];exact ⟨by omega,by omega,by omega,by omega,by omega,by omega,by omega,hm _ _ (by simp only [ext_size];omega),h9⟩)
      all_goals (subst hF;(repeat refine ge ?_);try dsimp only [RA])
      all_goals (
        refine ⟨(l.set (0+i.toNat) r).take (i+1).toNat,by rw [List.map_take],ol,ol,fun a ha=>?_,ol⟩
        exact hm _ r (by omega) a (List.mem_of_mem_take ha)))
theorem v50 (s:ByteArray) (c:UInt8) (hs:s.size≤1000000):∃ v,Val PT 50 [.str s,.str (bs [c])] v∧∃ l:List ByteArray,v=.sl 1 (l.map stE) .uniq∧0 < l.length∧l.length≤s.size+1∧∀ b ∈ l,b.size≤s.size:=by
  refine sv c50 fun Q hF=>?_
  repeat' first | refine ga ?_ | (refine so ?_;first | (refine wp_call (v115 _ _ _ (.inl rfl) hs) rfl rfl rfl rfl ?_;rintro _ ⟨l,rfl,h1,h2,h3,_⟩<;>refine xq ?_)) | refine gb ?_ | intro _ | refine gd ?_ ?_
  all_goals (subst hF;(repeat refine ge ?_);try dsimp only [RA])
  exact ⟨_,rfl,h1,h2,h3⟩
theorem v20 (s:ByteArray) (hs:s.size≤1000000):∃ v,Val PT 20 [.str s] v∧∃ (l:List ByteArray) (o:Own),v=.sl 1 (l.map stE) o∧l.length≤s.size+1∧∀ b ∈ l,b.size≤s.size:=by
  refine sv c20 fun Q hF=>?_
  repeat' first | refine ga ?_ | (refine so ?_;first | (refine wp_callB (v50 _ _ hs) rfl rfl rfl rfl ?_;rintro _ ⟨l,rfl,h1,h2,h3⟩)) | refine gb ?_ | intro _ | refine gd ?_ ?_
  all_goals (
    show WpL _ _ _ _
    refine wp_loop (n:=34) (fun m y=>∃ (k:Int) (l:List ByteArray) (N:Nat) (es:List (List V)),((N:Int) - k≤m∧0≤k∧k≤N∧N≤l.length∧l.length≤s.size+1∧(∀ b ∈ l,b.size≤s.size))∧es=l.map stE∧y=⟨[(3,[],.arr (0,7,0) 1 0 N),(20,[],i64 N),(21,[],i64 k)],[(7,0,.row 1 es false)],fun _=>none,false⟩) (s.size+1) ?_ ?_
    · refine ⟨_,l,_,_,?_,rfl,rfl⟩
      simp only [List.length_map]
      exact ⟨by omega,by omega,by omega,by omega,by omega,h3⟩
    · rintro m _ ⟨k,l,N,es,⟨h1,h2,h3,h4,h5,h6⟩,rfl,rfl⟩
      have hm:∀ (k:Nat) (b:ByteArray),b.size≤s.size→∀ a ∈ l.set k b,ByteArray.size a≤s.size:=fun k b hb a ha=>by
        rcases List.mem_or_eq_of_mem_set ha with h | h
        · exact h6 a h
        · rw [h];exact hb
      have hg:∀ {k:Nat} {b:ByteArray},l[k]?=some b→ByteArray.size b≤s.size:=fun h=>h6 _ (List.mem_of_getElem? h)
      show wpC PT 34 _ c20_l0 _ _
      unfold c20_l0
      repeat' first | refine ga ?_ | (refine so ?_;first | (refine wp_call (v51 _ _ (by have:=hg (by assumption);omega) (by decide)) rfl rfl rfl rfl ?_;rintro _ ⟨r,rfl,hr⟩<;>refine xq ?_)) | refine gb ?_ | intro _ | refine gd ?_ ?_
      all_goals try (refine ⟨m - 1,by omega,k+1,_,_,_,?_,rfl,rfl⟩;exact ⟨by omega,by omega,by omega,ol,ol,hm _ _ (by rename_i a1 e1 a2 e2;have:=hg e1;have:=hg e2;omega)⟩)
      all_goals rcases Nat.eq_zero_or_pos N with hN | hN
      all_goals (subst hF;(repeat refine ge ?_);try dsimp only [RA])
      all_goals first
        | exact ⟨[],.sh,rfl,ol,by simp⟩
        | (refine ⟨l.take N,.uniq,by rw [List.map_take],ol,fun a ha=>h6 a (List.mem_of_mem_take ha)⟩))
theorem v22 (s:ByteArray) (hs:s.size≤1000000):∃ v,Val PT 22 [.str s] v∧∃ (l:List ByteArray) (o:Own),v=.sl 1 (l.map stE) o∧l.length≤s.size+1∧∀ b ∈ l,b.size≤s.size:=by
  have hb:(bs [32]).size=1:=rfl
  have hz:(s++bs [32]).size=s.size+1:=ByteArray.size_append
  refine sv c22 fun Q hF=>?_
  repeat' first | refine ga ?_ | refine gb ?_ | intro _ | refine gd ?_ ?_
  show WpL _ _ _ _
  refine wp_loop (n:=42) (fun m y=>∃ (p f:Int) (l:List ByteArray) (o:Own) (es:List (List V)) (q:Nat),((s.size:Int)+1 - p≤m∧q=p∧0≤p∧p≤s.size+1∧-1≤f∧f≤p∧l.length≤p∧(∀ b ∈ l,b.size≤s.size))∧(o=.uniq∨o=.tight∧l=[])∧es=l.map stE∧y=⟨[(0,[],.str s),(2,[],.sl 1 es o),(3,[],i64 f),(9,[],.ptr (0,9,0) 0 0)],[(9,0,.iter (s++bs [32]) q)],fun _=>none,false⟩) (s.size+1) ?_ ?_
  · refine ⟨0,-1,[],.tight,_,_,?_,.inr ⟨rfl,rfl⟩,rfl,rfl⟩
    exact ⟨by omega,rfl,by omega,by omega,by omega,by omega,by simp,by simp⟩
  · rintro m _ ⟨p,f,l,o,es,q,⟨h1,h9,h2,h3,h4,h5,h7,h8⟩,h6,rfl,rfl⟩
    have hw:=dec_w (s++bs [32]) q
    have ha:∀ (a b:Nat),∀ x ∈ l++[s.extract a b],ByteArray.size x≤s.size:=fun a b x hx=>by
      rcases List.mem_append.mp hx with h | h
      · exact h8 x h
      · rw [List.mem_singleton.mp h,ext_size];omega
    show wpC PT 42 _ c22_l0 _ _
    unfold c22_l0
    rcases h6 with rfl | ⟨rfl,rfl⟩<;>repeat' first | refine ga ?_ | refine gb ?_ | intro _ | refine gd ?_ ?_
    all_goals try (refine ⟨m - 1,by omega,((q+(Utf8.decode (s++bs [32]) q).2:Nat):Int),_,l,_,_,_,?_,.inl rfl,rfl,rfl⟩;exact ⟨by omega,by omega,by omega,by omega,by omega,by omega,by omega,h8⟩)
    all_goals try (refine ⟨m - 1,by omega,((q+(Utf8.decode (s++bs [32]) q).2:Nat):Int),_,[],_,_,_,?_,.inr ⟨rfl,rfl⟩,rfl,rfl⟩;exact ⟨by omega,by omega,by omega,by omega,by omega,by omega,ol,by simp⟩)
    all_goals try (refine ⟨m - 1,by omega,((q+(Utf8.decode (s++bs [32]) q).2:Nat):Int),_,l++[s.extract f.toNat ((q:Int)).toNat],_,_,_,?_,.inl rfl,List.map_append.symm,rfl⟩;exact ⟨by omega,by omega,by omega,by omega,by omega,by omega,ol,ha _ _⟩)
    all_goals try (refine ⟨m - 1,by omega,((q+(Utf8.decode (s++bs [32]) q).2:Nat):Int),_,[s.extract f.toNat ((q:Int)).toNat],_,_,_,?_,.inl rfl,rfl,rfl⟩;exact ⟨by omega,by omega,by omega,by omega,by omega,by omega,ol,ha _ _⟩)
    all_goals (subst hF;(repeat refine ge ?_);try dsimp only [RA])
    · exact ⟨l,_,rfl,by omega,h8⟩
    · exact ⟨[],_,rfl,ol,by simp⟩
end Go.Den
