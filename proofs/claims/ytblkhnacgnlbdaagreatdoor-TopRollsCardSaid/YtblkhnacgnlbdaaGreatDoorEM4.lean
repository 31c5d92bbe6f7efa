import Derived.Test.YtblkhnacgnlbdaaGreatDoorEG
import Derived.Test.YtblkhnacgnlbdaaGreatDoorET0
import Derived.Test.YtblkhnacgnlbdaaGreatDoorEM1
import Derived.Test.YtblkhnacgnlbdaaGreatDoorEM2
import Derived.Test.YtblkhnacgnlbdaaGreatDoorEM3
set_option linter.all false
namespace Go.Den
set_option maxHeartbeats 4000000
open Go.Proofs
set_option linter.unusedSimpArgs false
theorem mapV {α:Type} {f:α→V} {l:List α} {i:Nat} (hi:i < l.length):∃ x,l[i]?=some x∧(l.map f)[i]?=some (f x):=⟨l[i],by simp [hi],by simp [hi]⟩
def monN:List ByteArray:=[bs [106,97,110,117,97,114,121],bs [102,101,98,114,117,97,114,121],bs [109,97,114,99,104],bs [97,112,114,105,108],bs [109,97,121],bs [106,117,110,101],bs [106,117,108,121],bs [97,117,103,117,115,116],bs [115,101,112,116,101,109,98,101,114],bs [111,99,116,111,98,101,114],bs [110,111,118,101,109,98,101,114],bs [100,101,99,101,109,98,101,114]]
theorem v258:∃ v,Val PT 258 [] v∧v=.agg (monN.map .str):=by
  refine sv c258 fun Q hF=>?_
  repeat' first | refine ga ?_ | refine gb ?_ | intro _ | refine gd ?_ ?_
  all_goals (subst hF;(repeat refine ge ?_);try dsimp only [RA])
  rfl
theorem v198 (s:ByteArray) (hs:s.size≤1000000):∃ v,Val PT 198 [.str s] v∧∃ c t,v=.tup [i64 c,.bool t]:=by
  have hl:monN.length=12:=rfl
  have hs2:∀ b ∈ monN,b.size≤1000:=by decide
  refine sv c198 fun Q hF=>?_
  repeat' first | refine ga ?_ | (refine so ?_;first | (refine wp_call (v118 _ hs) rfl rfl rfl rfl ?_;rintro _ ⟨r,rfl,hr⟩<;>refine xq ?_) | refine cr (v258) rfl rfl rfl rfl rfl ?_) | refine gb ?_ | intro _ | refine gd ?_ ?_
  show WpL _ _ _ _
  refine wp_loop (n:=25) (fun m y=>∃ (k:Int),((12:Int) - k≤m∧0≤k∧k≤12)∧y=⟨[(4,[],.str r),(9,[],.agg (monN.map .str)),(10,[],i64 k)],[],fun _=>none,false⟩) (12) ?_ ?_
  · exact ⟨_,⟨by omega,by omega,by omega⟩,rfl⟩
  · rintro m _ ⟨k,⟨h1,h2,h3⟩,rfl⟩
    show wpC PT 25 _ c198_l0 _ _
    unfold c198_l0
    repeat' first | refine ga ?_ | (refine so ?_;first | (obtain ⟨xx,hx1,hx2⟩:=mapV (f:=V.str) (i:=k.toNat) (l:=monN) (by omega);refine rx rfl rfl (by omega) hx2 ?_) | (refine rgc rfl (v200 _ _ (by have:=hs2 _ (List.mem_of_getElem? hx1);omega) (by omega)) rfl rfl rfl rfl rfl ?_;rintro _ ⟨b,rfl⟩<;>refine xq ?_)) | refine gb ?_ | intro _ | refine gd ?_ ?_
    all_goals try exact ⟨m - 1,by omega,k+1,⟨by omega,by omega,by omega⟩,rfl⟩
    all_goals (subst hF;(repeat refine ge ?_);try dsimp only [RA])
    all_goals exact ⟨_,_,rfl⟩
theorem v259 (s:ByteArray) (c:UInt8) (hs:s.size≤1000000):∃ v,Val PT 259 [.str s,.str (bs [c]),i64 3] v∧∃ l:List ByteArray,v=.sl 1 (l.map stE) .uniq∧l.length≤3∧∀ b ∈ l,b.size≤s.size:=by
  refine sv c259 fun Q hF=>?_
  repeat' first | refine ga ?_ | (refine so ?_;first | (refine wp_call (v115 _ _ _ (.inr rfl) hs) rfl rfl rfl rfl ?_;rintro _ ⟨l,rfl,h1,h2,h3,h4⟩<;>refine xq ?_)) | refine gb ?_ | intro _ | refine gd ?_ ?_
  all_goals (subst hF;(repeat refine ge ?_);try dsimp only [RA])
  exact ⟨_,rfl,h4 rfl,h3⟩
theorem v199 (s:ByteArray) (hs:s.size≤1000000):∃ v,Val PT 199 [.str s] v∧∃ c t,v=.tup [i64 c,.bool t]:=by
  refine sv c199 fun Q hF=>?_
  repeat' first | refine ga ?_ | (refine so ?_;first | (refine wp_call (v259 _ _ hs) rfl rfl rfl rfl ?_;rintro _ ⟨l,rfl,h1,h2⟩<;>refine xq ?_) | (refine wp_call (v260 _ _ _) rfl rfl rfl rfl ?_;rintro _ ⟨n,t,rfl⟩<;>refine xq ?_)) | refine gb ?_ | intro _ | refine gd ?_ ?_
  · skip
    all_goals (subst hF;(repeat refine ge ?_);try dsimp only [RA])
    exact ⟨_,_,rfl⟩
  rename_i hlt
  rw [List.length_map] at hlt
  show WpL _ _ _ _
  refine wp_loop (n:=47) (fun m y=>∃ (k a b c:Int) (N:Int),((3:Int) - k≤m∧0≤k∧k≤3∧N=l.length)∧y=⟨[(4,[],.ptr (0,4,0) 0 0),(15,[],.sl 1 (l.map stE) .sh),(16,[],i64 N),(17,[],i64 k)],[(4,0,.cells 3 [[i64 a,i64 b,i64 c]])],fun _=>none,false⟩) (3) ?_ ?_
  · exact ⟨0,0,0,0,_,⟨by omega,by omega,by omega,by rw [List.length_map]⟩,rfl⟩
  · rintro m _ ⟨k,a,b,c,N,⟨h3,h4,h5,h6⟩,rfl⟩
    have hg:∀ {k:Nat} {b:ByteArray},l[k]?=some b→ByteArray.size b≤1000000:=fun h=>by have:=h2 _ (List.mem_of_getElem? h);omega
    have hN:N=3:=by omega
    subst hN
    have hk:k=0∨k=1∨k=2∨k=3:=by omega
    show wpC PT 47 _ c199_l0 _ _
    unfold c199_l0
    rcases hk with rfl | rfl | rfl | rfl<;>repeat' first | refine ga ?_ | (refine so ?_;first | (refine wp_call (v197 _ (hg (by assumption))) rfl rfl rfl rfl ?_;rintro _ ⟨c,t,rfl⟩<;>refine xq ?_) | (refine wp_call (v260 _ _ _) rfl rfl rfl rfl ?_;rintro _ ⟨n,t,rfl⟩<;>refine xq ?_)) | refine gb ?_ | intro _ | refine gd ?_ ?_
    all_goals try exact ⟨m - 1,by omega,_,_,_,_,_,⟨by omega,by omega,by omega,h6⟩,rfl⟩
    all_goals try (exfalso;omega)
    all_goals (subst hF;(repeat refine ge ?_);try dsimp only [RA])
    all_goals exact ⟨_,_,rfl⟩
theorem v119 (k:Int) (l:List ByteArray) (hl:5≤l.length) (hs:∀ b ∈ l,b.size≤1000000):∃ v,Val PT 119 [i64 k,.sl 1 (l.map stE) .sh] v∧∃ a b c d e t,v=.tup [.agg [i64 a,i64 b,i64 c,i64 d,i64 e,.str (bs []),.bool false],.bool t]:=by
  have hg:∀ {k:Nat} {b:ByteArray},l[k]?=some b→ByteArray.size b≤1000000:=fun h=>hs _ (List.mem_of_getElem? h)
  refine sv c119 fun Q hF=>?_
  repeat' first | refine ga ?_ | (refine so ?_;first | (refine wp_call (v197 _ (hg (by assumption))) rfl rfl rfl rfl ?_;rintro _ ⟨c,t,rfl⟩<;>refine xq ?_) | (refine wp_call (v198 _ (hg (by assumption))) rfl rfl rfl rfl ?_;rintro _ ⟨c,t,rfl⟩<;>refine xq ?_) | (refine wp_call (v199 _ (hg (by assumption))) rfl rfl rfl rfl ?_;rintro _ ⟨c,t,rfl⟩<;>refine xq ?_)) | refine gb ?_ | intro _ | refine gd ?_ ?_
  all_goals (subst hF;(repeat refine ge ?_);try dsimp only [RA])
  exact ⟨_,_,_,_,_,_,rfl⟩
theorem v120 (s:ByteArray) (hs:s.size≤1000000):∃ v,Val PT 120 [.str s] v∧∃ a b,v=.tup [.bool a,.bool b]:=by
  refine sv c120 fun Q hF=>?_
  repeat' first | refine ga ?_ | (refine so ?_;first | (refine wp_call (v118 _ hs) rfl rfl rfl rfl ?_;rintro _ ⟨r,rfl,hr⟩<;>refine xq ?_) | (refine wp_call (v200 _ _ (by decide) (by omega)) rfl rfl rfl rfl ?_;rintro _ ⟨b,rfl⟩<;>refine xq ?_) | (refine rgc rfl (v200 _ _ (by decide) (by omega)) rfl rfl rfl rfl rfl ?_;rintro _ ⟨b,rfl⟩<;>refine xq ?_)) | refine gb ?_ | intro _ | refine gd ?_ ?_
  all_goals (subst hF;(repeat refine ge ?_);try dsimp only [RA])
  exact ⟨_,_,rfl⟩
theorem v53 (l:List ByteArray) (hl:0 < l.length) (hs:∀ b ∈ l,b.size≤1000000):∃ v,Val PT 53 [.sl 1 (l.map stE) .sh] v∧∃ a b c d e s r t,v=.tup [.agg [i64 a,i64 b,i64 c,i64 d,i64 e,.str s,.bool r],.bool t]:=by
  have hg:∀ {k:Nat} {b:ByteArray},l[k]?=some b→ByteArray.size b≤1000000:=fun h=>hs _ (List.mem_of_getElem? h)
  refine sv c53 fun Q hF=>?_
  repeat' first | refine ga ?_ | (refine so ?_;first | (refine wp_call (v118 _ (hg (by assumption))) rfl rfl rfl rfl ?_;rintro _ ⟨r,rfl,hr⟩<;>refine xq ?_) | (refine wp_call (v119 _ _ (by (try simp only [List.length_map] at *);omega) hs) rfl rfl rfl rfl ?_;rintro _ ⟨a,b,c,d,e,t,rfl⟩<;>refine xq ?_) | (refine wp_call (v120 _ (hg (by assumption))) rfl rfl rfl rfl ?_;rintro _ ⟨a,b,rfl⟩<;>refine xq ?_)) | refine gb ?_ | intro _ | refine gd ?_ ?_
  all_goals (subst hF;(repeat refine ge ?_);try dsimp only [RA])
  all_goals exact ⟨_,_,_,_,_,_,_,_,rfl⟩
theorem v56' (t:Tb) (es:List (List V)) (he:es=t.leaps.map Lp.l):∃ v,Val PT 56 [.agg [.sl 3 es .sh,.bool t.has,i64 t.exp]] v∧∃ n c,v=.tup [i64 n,i64 c]∧(c=0→t.leaps.length≤200∧∀ p ∈ t.leaps,730≤p.day∧p.day < 2932896∧(p.step=1∨p.step = -1)):=by
  subst he
  refine sv c56 fun Q hF=>?_
  repeat' first | refine ga ?_ | refine gb ?_ | intro _ | refine gd ?_ ?_
  show WpL _ _ _ _
  refine wp_loop (n:=51) (fun m y=>∃ (k a N:Int) (o:Own) (es:List (List V)),(t.leaps.length - k≤m∧0≤k∧k≤t.leaps.length∧N=t.leaps.length∧(o=.sh)∧∀ (j:Nat) p,(j:Int) < k→t.leaps[j]?=some p→j < 200∧730≤p.day∧p.day < 2932896∧(p.step=1∨p.step = -1))∧es=t.leaps.map Lp.l∧y=⟨[(1,[],.ptr (0,1,0) 0 0),(4,[],i64 a),(11,[],.sl 3 es o),(12,[],i64 N),(13,[],i64 k)],[(1,0,.cells 3 [[.sl 3 es .sh,.bool t.has,i64 t.exp]])],fun _=>none,false⟩) (t.leaps.length) ?_ ?_
  · exact ⟨0,729,_,.sh,_,⟨by omega,by omega,by omega,by rw [List.length_map],rfl,fun j p h=>by omega⟩,rfl,rfl⟩
  · rintro m _ ⟨k,a,N,o,es,⟨h1,h2,h3,h4,rfl,h5⟩,rfl,rfl⟩
    show wpC PT 51 _ c56_l0 _ _
    unfold c56_l0
    repeat' first | refine ga ?_ | (refine so ?_;first | (refine wp_call (v123 _ _ _ _ _) rfl rfl rfl rfl ?_;rintro _ ⟨c,rfl,hc⟩<;>refine xq ?_)) | refine gb ?_ | intro _ | refine gd ?_ ?_
    all_goals try (
      refine ⟨m - 1,by omega,k+1,_,_,_,_,⟨by omega,by omega,by omega,h4,rfl,?_⟩,rfl,rfl⟩
      intro j p hj hp
      rcases Int.lt_or_le j k with h | h
      · exact h5 j p h hp
      · rename_i q hq hc0
        have hj:j=k.toNat:=by omega
        subst hj
        rw [hq] at hp
        cases hp
        have:=hc (Classical.not_not.mp hc0)
        exact ⟨by omega,this.2.1,this.2.2.1,this.2.2.2.1⟩)
    all_goals (subst hF;(repeat refine ge ?_);try dsimp only [RA])
    all_goals (refine ⟨_,_,rfl,fun hz=>?_⟩)
    all_goals first
      | (exfalso;omega)
      | skip
    all_goals (
      have hN:k=t.leaps.length:=by omega
      refine ⟨?_,fun p hp=>?_⟩
      · rcases Nat.eq_zero_or_pos t.leaps.length with h0 | h0
        · omega
        · have:=h5 (t.leaps.length - 1) t.leaps[t.leaps.length - 1] (by omega) (by simp [h0])
          omega
      · obtain ⟨j,hj⟩:=List.mem_iff_getElem?.mp hp
        have hjl:j < t.leaps.length:=by
          rcases Nat.lt_or_ge j t.leaps.length with h | h
          · exact h
          · rw [List.getElem?_eq_none h] at hj;cases hj
        exact (h5 j p (by omega) hj).2)
theorem v24' (t:Tb) (es:List (List V)) (he:es=t.leaps.map Lp.l):∃ v,Val PT 24 [.agg [.sl 3 es .sh,.bool t.has,i64 t.exp]] v∧∃ b,v=.bool b∧(b=true→t.leaps.length≤200∧∀ p ∈ t.leaps,730≤p.day∧p.day < 2932896∧(p.step=1∨p.step = -1)):=by
  subst he
  refine sv c24 fun Q hF=>?_
  repeat' first | refine ga ?_ | (refine so ?_;first | (refine wp_call (v56' t _ rfl) rfl rfl rfl rfl ?_;rintro _ ⟨n,c,rfl,h⟩<;>refine xq ?_)) | refine gb ?_ | intro _ | refine gd ?_ ?_
  all_goals (subst hF;(repeat refine ge ?_);try dsimp only [RA])
  exact ⟨_,rfl,fun hb=>h (by simpa using hb)⟩
theorem v24 (t:Tb):∃ v,Val PT 24 [t.v] v∧∃ b,v=.bool b∧(b=true→t.leaps.length≤200∧∀ p ∈ t.leaps,730≤p.day∧p.day < 2932896∧(p.step=1∨p.step = -1)):=v24' t _ rfl
theorem v122 (t:Tb) (p:Lp) (h:t.leaps.length≤1000):∃ v,Val PT 122 [t.v,.agg p.l] v∧∃ t':Tb,∃ c,v=.tup [t'.v,i64 c]∧t'.leaps.length≤max 200 t.leaps.length:=by
  refine sv c122 fun Q hF=>?_
  repeat' first | refine ga ?_ | (refine so ?_;first | (refine wp_call (v56' ⟨t.leaps++[p],t.has,t.exp⟩ _ (by rw [List.map_append];rfl)) rfl rfl rfl rfl ?_;rintro _ ⟨n,c,rfl,h⟩<;>refine xq ?_)) | refine gb ?_ | intro _ | refine gd ?_ ?_ | (refine wp_clone rfl om ?_;rintro _ (⟨rfl,hne⟩ | ⟨rfl,hne⟩))
  all_goals (subst hF;(repeat refine ge ?_);try dsimp only [RA])
  all_goals first
    | exact ⟨t,c,by rw [List.take_append_of_le_length (by simp),List.take_of_length_le (by simp)];rfl,by omega⟩
    | (refine ⟨⟨t.leaps++[p],t.has,t.exp⟩,0,by simp only [Tb.v,Tb.l,List.map_append];rfl,?_⟩;have:=(h (Classical.not_not.mp (by assumption))).1;omega)
theorem v55 (t:Tb) (at' until':Int) (a b c e f:Int) (sg:ByteArray) (r:Bool) (n:Int) (o:Own) (ho:o≠.uniq) (h:t.leaps.length≤200) (g:Frm):Acts PT 55 2 [.ptr (0,4,0) 0 0,.agg [i64 a,i64 b,i64 c,i64 e,i64 f,.str sg,.bool r],i64 n] g (0,4,0) (.cells 5 [[.sl 3 (t.leaps.map Lp.l) o,.bool t.has,i64 t.exp,i64 at',i64 until']]) (fun v ob=>(∃ c,v=i64 c)∧∃ (t':Tb) (o':Own),o'≠.uniq∧t'.leaps.length≤200∧ob=.cells 5 [[.sl 3 (t'.leaps.map Lp.l) o',.bool t'.has,i64 t'.exp,i64 at',i64 until']]):=by
  refine acts_of ?_
  refine sA c55 fun Q hF=>?_
  cases o
  · repeat' first | refine ga ?_ | (refine so ?_;first | (refine wp_callp (v122 t ⟨_,_,_⟩ (by omega)) rfl rfl rfl rfl ?_;rintro _ ⟨t',c,rfl,h2⟩<;>refine xq ?_)) | refine gb ?_ | intro _ | refine gd ?_ ?_
    all_goals (subst hF;(repeat refine ge ?_);try dsimp only [RA])
    all_goals first
      | exact ⟨_,rfl,by simp,⟨_,rfl⟩,t',.sh,by decide,by omega,rfl⟩
      | exact ⟨_,rfl,fun _=>rfl,⟨_,rfl⟩,t,.sh,by decide,h,rfl⟩
  · repeat' first | refine ga ?_ | (refine so ?_;first | (refine wp_callp (v122 t ⟨_,_,_⟩ (by omega)) rfl rfl rfl rfl ?_;rintro _ ⟨t',c,rfl,h2⟩<;>refine xq ?_)) | refine gb ?_ | intro _ | refine gd ?_ ?_
    all_goals (subst hF;(repeat refine ge ?_);try dsimp only [RA])
    all_goals first
      | exact ⟨_,rfl,by simp,⟨_,rfl⟩,t',.sh,by decide,by omega,rfl⟩
      | exact ⟨_,rfl,fun _=>rfl,⟨_,rfl⟩,t,.tight,by decide,h,rfl⟩
  · exact absurd rfl ho
end Go.Den
