import Derived.Test.YtblkhnacgnlbdaaGreatDoorEG
import Derived.Test.YtblkhnacgnlbdaaGreatDoorET0
import Derived.Test.YtblkhnacgnlbdaaGreatDoorEM2
import Derived.Test.YtblkhnacgnlbdaaGreatDoorEM3
import Derived.Test.YtblkhnacgnlbdaaGreatDoorEM4
import Derived.Test.YtblkhnacgnlbdaaGreatDoorEMC
set_option linter.all false
namespace Go.Den
set_option maxHeartbeats 4000000
open Go.Proofs
set_option linter.unusedSimpArgs false
set_option maxHeartbeats 1000000
theorem v23 (l:List ByteArray) (hl:0 < l.length) (hs:∀ b ∈ l,b.size≤1000000) (t:Tb) (at' un no:Int) (o:Own) (ho:o≠.uniq) (h:t.leaps.length≤200) (g:Frm):Acts PT 23 1 [.ptr (0,4,0) 0 0,i64 no,.sl 1 (l.map stE) .sh] g (0,4,0) (.cells 5 [[.sl 3 (t.leaps.map Lp.l) o,.bool t.has,i64 t.exp,i64 at',i64 un]]) (fun v ob=>(∃ c,v=i64 c)∧∃ (t':Tb) (o':Own) (a u:Int),o'≠.uniq∧t'.leaps.length≤200∧ob=.cells 5 [[.sl 3 (t'.leaps.map Lp.l) o',.bool t'.has,i64 t'.exp,i64 a,i64 u]]):=by
  refine acts_of ?_
  refine sA c23 fun Q hF=>?_
  repeat' first | refine ga ?_ | (refine so ?_;first | (refine wp_call (v53 l hl hs) rfl rfl rfl rfl ?_;rintro _ ⟨a,b,c,d,e,sg,r,t1,rfl⟩<;>refine xq ?_) | (refine wp_call (v54 _ _ _) rfl rfl rfl rfl ?_;rintro _ ⟨n,t2,rfl⟩<;>refine xq ?_) | (refine wp_callO (v55 t at' un _ _ _ _ _ _ _ _ o ho h) rfl rfl rfl rfl rfl (by first | omega | assumption) rfl ?_;rintro _ _ ⟨⟨c1,rfl⟩,t',o',ho',hl',rfl⟩<;>refine xq (fun _ _=>?_))) | refine gb ?_ | intro _ | refine gd ?_ ?_
  all_goals try (
    show WpD _ _ _ _ _ _ _
    refine wp_drw2 ?_
    repeat' first | refine ga ?_ | refine gb ?_ | intro _ | refine gd ?_ ?_
    show DrwE _ _ _ _ _ _ _
    refine ⟨rfl,?_,?_⟩
    · repeat' first | refine ga ?_ | refine gb ?_ | intro _ | refine gd ?_ ?_
      exact ⟨rfl,rfl⟩
    repeat' first | refine ga ?_ | refine gb ?_ | intro _ | refine gd ?_ ?_)
  all_goals (
    skip
    all_goals (subst hF;(repeat refine ge ?_);try dsimp only [RA]))
  all_goals first
    | exact ⟨_,rfl,fun _=>rfl,⟨_,rfl⟩,t,o,_,_,ho,h,rfl⟩
    | exact ⟨_,rfl,fun q=>absurd q (by decide),⟨_,rfl⟩,t,o,_,_,ho,h,rfl⟩
    | (rename_i hh;exact ⟨_,rfl,fun q=>(hh q).2,⟨_,rfl⟩,t',o',_,_,ho',hl',rfl⟩)
theorem wp_call2 {P:Nat→Option Fun} {n d:Nat} {y:Ys} {t f z:Nat} {raw:Bool} {fv:A} {xs:List A} {a b vs:List V} {α:Type} {F:α→List (List V)} {R:α→Prop} {k:Ys→Prop} (hL:∃ v,Val P f (a++vs.map V.sh++b) v∧∃ (q:α) (o:Own),v=.sl z (F q) o∧R q) (e1:ev y [] fv=some (.fn f a b)) (e2:evL y [] xs=some vs) (e3:vs.all plainV=true)
    (e4:(keysL (a++vs.map V.sh++b)).isEmpty=true) (hk:∀ q o,R q→(o=.sh∨o=.uniq)→putK n y t (.sl z (F q) o) k):WpO P n d (.call (some t) raw false fv xs) y k:=by
  obtain ⟨v,hv,q,o,rfl,hR⟩:=hL
  refine wp_call (Φ:=fun v=>v=.sl z (F q) o) ⟨_,hv,rfl⟩ e1 e2 e3 e4 ?_
  rintro _ rfl
  cases o with
  | uniq=>exact ⟨_,rfl,hk q .uniq hR (.inr rfl)⟩
  | sh=>exact ⟨_,rfl,hk q .sh hR (.inl rfl)⟩
  | tight=>exact ⟨_,rfl,hk q .sh hR (.inl rfl)⟩
theorem v6 (s:ByteArray) (hs:s.size≤100000):∃ v,Val PT 6 [.str s] v∧∃ (t:Tb) (a b:Int),v=.tup [t.v,.agg [i64 a,i64 b]]∧t.leaps.length≤200:=by
  refine sv c6 fun Q hF=>?_
  repeat' first | refine ga ?_ | (refine so ?_;first | (refine wp_call2 (F:=fun l:List ByteArray=>l.map stE) (v20 s (by omega)) rfl rfl rfl rfl ?_;rintro l o ⟨h1,h2⟩ ho0)) | refine gb ?_ | intro _ | refine gd ?_ ?_
  show WpL _ _ _ _
  refine wp_loop (n:=60) (fun m y=>∃ (k N:Int) (t:Tb) (o o2:Own) (a u:Int) (w:Bool),(l.length - k≤m∧0≤k∧k≤l.length∧N=l.length∧t.leaps.length≤200∧o≠.uniq)∧(o2=.sh∨o2=.uniq)∧y=⟨[(2,[],.ptr (0,2,0) 0 0),(3,[],.ptr (0,3,0) 0 0),(4,[],.ptr (0,4,0) 0 0),(10,[],.sl 1 (l.map stE) o2),(11,[],i64 N),(12,[],i64 k)],[(2,0,.cells 3 [[.sl 3 [] .tight,.bool false,i64 0]]),(3,0,.cells 2 [[i64 0,i64 0]]),(4,0,.cells 5 [[.sl 3 (t.leaps.map Lp.l) o,.bool t.has,i64 t.exp,i64 a,i64 u]])],fun _=>none,w⟩) (l.length) ?_ ?_
  · exact ⟨0,_,⟨[],false,0⟩,.tight,o,0,0,_,⟨by omega,by omega,by omega,by rw [← List.length_map (f:=stE)],by decide,by decide⟩,ho0,rfl⟩
  · rintro m _ ⟨k,N,t,o,o2,a,u,w,⟨h3,h4,h5,h6,h7,ho⟩,ho2,rfl⟩
    have hg:∀ {k:Nat} {b:ByteArray},l[k]?=some b→ByteArray.size b≤s.size:=fun h=>h2 _ (List.mem_of_getElem? h)
    show wpC PT 60 _ c6_l0 _ _
    unfold c6_l0
    rcases Int.lt_or_le k N with hkN | hkN
    · rcases ho2 with rfl | rfl
      all_goals (
        repeat' first | refine ga ?_ | (refine so ?_;first | (refine wp_call (v21t _ 35 (by have:=hg (by assumption);omega)) rfl rfl rfl rfl ?_;rintro _ ⟨p,q,tt,rfl,hp,hq⟩<;>refine xq ?_) | (refine wp_call2 (F:=fun l:List ByteArray=>l.map stE) (v22 p (by have:=hg (by assumption);omega)) rfl rfl rfl rfl ?_;rintro ws o3 ⟨h8,h9⟩ (rfl | rfl)) | (refine wp_callL (v23 ws (by rename_i hh;rw [List.length_map] at hh;omega) (fun b hb=>by have:=h9 b hb;have:=hg (by assumption);omega) t a u _ o ho h7) rfl rfl rfl rfl rfl rfl ?_;rintro _ _ ⟨⟨c1,rfl⟩,t',o',a',u',ho',ht',rfl⟩<;>refine xq (fun _ _=>?_))) | refine gb ?_ | intro _ | refine gd ?_ ?_
        all_goals try (exfalso;omega)
        all_goals try exact ⟨m - 1,by omega,k+1,N,t,o,_,a,u,_,⟨by omega,by omega,by omega,h6,h7,ho⟩,.inl rfl,rfl⟩
        all_goals try exact ⟨m - 1,by omega,k+1,N,t',o',_,a',u',_,⟨by omega,by omega,by omega,h6,ht',ho'⟩,.inl rfl,rfl⟩
        all_goals (
          skip
          all_goals (subst hF;(repeat refine ge ?_);try dsimp only [RA]))
        all_goals exact ⟨⟨[],false,0⟩,_,_,rfl,by decide⟩)
    · cases o
      case uniq=>exact absurd rfl ho
      all_goals (
        repeat' first | refine ga ?_ | (refine so ?_;first | (refine wp_call (v24 ⟨t.leaps,true,u⟩) rfl rfl rfl rfl ?_;rintro _ ⟨b,rfl,_⟩<;>refine xq ?_)) | refine gb ?_ | intro _ | refine gd ?_ ?_
        all_goals try (exfalso;omega)
        · show WpD _ _ _ _ _ _ _
          refine wp_drw2 ?_
          repeat' first | refine ga ?_ | refine gb ?_ | intro _ | refine gd ?_ ?_
          show DrwE _ _ _ _ _ _ _
          refine ⟨rfl,?_,?_⟩
          · repeat' first | refine ga ?_ | refine gb ?_ | intro _ | refine gd ?_ ?_
            exact ⟨rfl,rfl⟩
          repeat' first | refine ga ?_ | refine gb ?_ | intro _ | refine gd ?_ ?_
          all_goals (subst hF;(repeat refine ge ?_);try dsimp only [RA])
          exact ⟨⟨[],false,0⟩,_,_,rfl,by decide⟩
        · skip
          all_goals (subst hF;(repeat refine ge ?_);try dsimp only [RA])
          exact ⟨⟨t.leaps,true,u⟩,_,_,rfl,h7⟩
        · skip
          all_goals (subst hF;(repeat refine ge ?_);try dsimp only [RA])
          exact ⟨t,_,_,rfl,h7⟩)
end Go.Den
