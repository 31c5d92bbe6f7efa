import Derived.Test.YtblkhnacgnlbdaaGreatDoorEG
import Derived.Test.YtblkhnacgnlbdaaGreatDoorET0
import Derived.Test.YtblkhnacgnlbdaaGreatDoorEM4
import Derived.Test.YtblkhnacgnlbdaaGreatDoorEMB
import Derived.Test.YtblkhnacgnlbdaaGreatDoorEMD
import Derived.Test.YtblkhnacgnlbdaaGreatDoorEME
import Derived.Test.YtblkhnacgnlbdaaGreatDoorEMG
set_option linter.all false
namespace Go.Den
set_option maxHeartbeats 4000000
open Go.Proofs
set_option linter.unusedSimpArgs false
set_option maxHeartbeats 1000000
def resD (d:Nat):List V→Loc→(List V→Loc→Prop)→Prop
  | [],l,k=>k [] l
  | v::r,l,k=>match v with
    | .arr (d',t,u) z lo m=>match Nat.beq d' d with
      | true=>lookC l t u fun o=>match o with
        | .row z' es false=>((z=z'∧lo=0)∧0 < m∧m≤es.length)∧updC l t u (fun _ k2=>k2 (.row z' [] true)) fun l'=>resD d r l' fun vs l2=>k (.sl z' (es.take m) .uniq::vs) l2
        | _=>False
      | false=>False
    | v=>match plV v with
      | some v'=>resD d r l fun vs l2=>k (v'::vs) l2
      | none=>False
theorem plV_own {v v':V} (h:plV v=some v') (hn:∀ k z lo m,v≠.arr k z lo m) (d:Nat) (s:St):resV d true s v=some (v',s):=by
  have:=(plV_ok (d:=d) (own:=true) h s).1
  cases v with
  | arr k z lo m=>exact absurd rfl (hn k z lo m)
  | _=>exact this
theorem resD_ok {d:Nat}:∀ {cs:List V} {k:List V→Loc→Prop} (s:St),resD d cs s.l k→∃ vs l,resL d true cs s=some (vs,{ s with l:=l })∧k vs l
  | [],k,s,h=>⟨[],s.l,rfl,h⟩
  | v::r,k,s,h=>by
    simp only [resD] at h
    split at h
    · rename_i d' t u z lo m
      split at h
      · rename_i hb
        have hd:d'=d:=Nat.eq_of_beq_eq_true hb
        subst hd
        obtain ⟨o,h1,h2⟩:=lookC_ok h
        split at h2
        · rename_i z' es
          obtain ⟨⟨⟨rfl,rfl⟩,hm,hm2⟩,h3⟩:=h2
          obtain ⟨o2,_,h4,rfl,h5⟩:=updC_ok (G:=fun _ e'=>e'=.row z [] true) (fun e k h=>⟨_,rfl,h⟩) h3
          obtain ⟨vs,l,h6,h7⟩:=resD_ok { s with l:=aset s.l t u (.row z [] true) } h5
          refine ⟨_::vs,l,?_,h7⟩
          have hg:s.get d' (d',t,u)=some (.row z es false):=by simp only [St.get,if_true,h1]
          have hv:resV d' true s (.arr (d',t,u) z 0 m)=some (.sl z (es.take m) .uniq,{ s with l:=aset s.l t u (.row z [] true) }):=by
            simp only [resV,if_true,resF,hg]
            rw [if_pos ⟨trivial,trivial,trivial,hm,hm2⟩]
            simp only [St.set,if_true]
          simp only [resL,hv,h6,Option.map_some]
        · exact h2.elim
      · exact h.elim
    · rename_i hna
      split at h
      · rename_i v' hv
        obtain ⟨vs,l,h6,h7⟩:=resD_ok s h
        exact ⟨v'::vs,l,by simp only [resL,plV_own hv (fun k z lo m e=>hna k.1 k.2.1 k.2.2 z lo m e) d s,h6,Option.map_some],h7⟩
      · exact h.elim
theorem r_cmB {d nt a t u i off z m:Nat} {y:Ys} {es:List (List V)} {e:List V} {k:V→Ys→Prop} (hn:Nat.blt a nt=true) (e0:yget y.e a=some ([],.ptr (d,t,u) i off)) (e1:alook y.l t u=some (.cells z es)) (e2:es[i]?=some e) (hm:Nat.ble (off+m) e.length=true) (h:updC y.l t u (fun o k2=>match o with
        | .cells z es=>eltC es i (fun e k3=>k3 (shL e off m)) fun es'=>k2 (.cells z es')
        | _=>False) fun l=>resD d (((shL e off m).drop off).take m) l fun vs l2=>k (.agg vs) ⟨y.e,l2,y.f,y.w⟩):R1 d true nt y (.cell a (some m)) k:=by
  obtain ⟨o,o',h1,⟨z',es',e',rfl,h2,rfl⟩,h4⟩:=updC_ok (G:=fun o o'=>∃ z es e,o=.cells z es∧es[i]?=some e∧o'=.cells z (es.set i (shL e off m))) (fun o k h=>by
    split at h
    · rename_i z es
      obtain ⟨e,e',h1,rfl,h3⟩:=eltC_ok (G:=fun e e'=>e'=shL e off m) (fun e k h=>⟨_,rfl,h⟩) h
      exact ⟨_,⟨z,es,e,rfl,h1,rfl⟩,h3⟩
    · exact h.elim) h
  rw [e1] at h1
  cases h1
  rw [e2] at h2
  cases h2
  have hi:i < es.length:=by
    rcases Nat.lt_or_ge i es.length with hh | hh
    · exact hh
    · rw [List.getElem?_eq_none hh] at e2;cases e2
  have hd:=demAt_own (d:=d) (s:=yst nt y) (off:=off) (m:=m) (t:=t) (u:=u) (i:=i) e1 e2
  have hat:((yst nt y).demAt d (.ptr (d,t,u) i off) m).at d (.ptr (d,t,u) i off)=some ((shL e off m).drop off):=by
    rw [hd]
    have:alook (yst nt y).l t u=some (.cells z es):=e1
    simp only [St.at,St.get,if_true,alook_aset this,List.getElem?_set,hi,Option.map_some]
  obtain ⟨vs,l2,h5,h6⟩:=resD_ok { yst nt y with l:=aset y.l t u (.cells z (es.set i (shL e off m))) } h4
  refine ⟨.agg vs,⟨y.e,l2,y.f,y.w⟩,?_,rfl,rfl,h6⟩
  have hr':=yst_get (nt:=nt) (y:=y) (n:=a) (by simpa [Nat.blt_eq] using hn)
  simp only [yval,e0] at hr'
  simp only [res1,hr',hat]
  have hm':=Nat.le_of_ble_eq_true hm
  rw [if_pos ⟨by rw [List.length_drop,shL_len];omega,shL_noUq e off m⟩]
  have hd':(yst nt y).demAt d (.ptr (d,t,u) i off) m={ yst nt y with l:=aset y.l t u (.cells z (es.set i (shL e off m))) }:=hd
  rw [hd']
  simp only [resG,h5,Bool.true_or,if_true,yst_l]
theorem v221 (z:Zn) (hz:ZOk z) (hl:z.leaps=[]) (ht:1≤z.types.length):∃ v,Val PT 221 [z.v] v∧(v=.agg [.sl 3 (z.types.map tyV) .uniq,.sl 2 (z.trans.map prV) .uniq,.sl 2 [] .sh,.str z.foot,i64 z.ver]∨z.trans=[]∧v=.agg [.sl 3 (z.types.map tyV) .uniq,.sl 2 [] .sh,.sl 2 [] .sh,.str z.foot,i64 z.ver]):=by
  obtain ⟨h1,h2,h3,h4,h5⟩:=hz
  have e1:(z.types.map tyV).length=z.types.length:=List.length_map _
  have e2:(z.trans.map prV).length=z.trans.length:=List.length_map _
  refine sv c221 fun Q hF=>?_
  unfold Zn.v Zn.l
  rw [hl]
  repeat' first | refine ga ?_ | (refine gb ?_;intros) | (refine gd ?_ ?_<;>intros) | (refine wp_clone rfl om ?_;rintro _ (⟨rfl,hne⟩ | ⟨rfl,hne⟩))
  all_goals (subst hF;(repeat refine ge ?_);try dsimp only [RA])
  · refine r_cmB rfl rfl rfl rfl rfl ?_
    refine ⟨⟨⟨rfl,rfl⟩,by omega,by omega⟩,⟨⟨rfl,rfl⟩,List.length_pos_iff.mpr hne,Nat.le_refl _⟩,.inl ?_⟩
    rw [List.take_length,List.take_length]
    rfl
  · refine r_cmB rfl rfl rfl rfl rfl ?_
    refine ⟨⟨⟨rfl,rfl⟩,by omega,by omega⟩,.inr ⟨List.map_eq_nil_iff.mp hne,?_⟩⟩
    rw [List.take_length,hne]
    rfl
  all_goals (
    exfalso
    rename_i hx
    rw [hx] at e1
    have:([]:List (List V)).length=0:=rfl
    omega)
theorem v78r (a b:Int):∃ v,Val PT 78 [i64 a,i64 b] v∧∃ c t,v=.tup [i64 c,.bool t]∧R64 c:=by
  refine sv c78 fun Q hF=>?_
  repeat' first | refine ga ?_ | (refine gb ?_;intros) | (refine gd ?_ ?_<;>intros)
  all_goals (subst hF;(repeat refine ge ?_);try dsimp only [RA])
  · exact ⟨_,_,rfl,by unfold R64;decide⟩
  · exact ⟨_,_,rfl,wrap_r _⟩
theorem v151 (z:Zn) (t:Tb) (p:Int) (hz:ZOk z) (h1:1≤z.types.length) (h2:∀ x ∈ z.trans,0≤x.2∧x.2 < z.types.length) (ht:t.leaps.length≤200):∃ v,Val PT 151 [z.v,t.v,i64 p] v∧∃ n b,v=.tup [i64 n,.bool b]∧R64 n:=by
  have e1:(t.leaps.map Lp.l).length=t.leaps.length:=List.length_map _
  refine sv c151 fun Q hF=>?_
  repeat' first | refine ga ?_ | (refine gb ?_;intros) | (refine gd ?_ ?_<;>intros)
  show WpL _ _ _ _
  refine wp_loop (n:=33) (fun m y=>∃ (k s N:Int),(t.leaps.length - k≤m∧0≤k∧k≤t.leaps.length∧N=t.leaps.length)∧y=⟨[(2,[],i64 p),(3,[],.ptr (0,3,0) 0 0),(8,[],i64 s),(12,[],.sl 3 (t.leaps.map Lp.l) .sh),(13,[],i64 N),(14,[],i64 k)],[(3,0,.cells 5 [z.l]),(4,0,.cells 3 [t.l])],fun _=>none,false⟩) (t.leaps.length) ?_ ?_
  · exact ⟨0,0,_,⟨by omega,by omega,by omega,by rw [← e1]⟩,rfl⟩
  · rintro m _ ⟨k,s,N,⟨h3,h4,h5,h6⟩,rfl⟩
    show wpC PT 33 _ c151_l0 _ _
    unfold c151_l0
    repeat' first | refine ga ?_ | (refine so ?_;first | refine cr (v220z z _ hz h1 h2) rfl rfl rfl rfl rfl ?_ | (refine wp_call (v78r _ _) rfl rfl rfl rfl ?_;rintro _ ⟨n,b,rfl,hr⟩<;>refine xq ?_)) | (refine gb ?_;intros) | (refine gd ?_ ?_<;>intros)
    all_goals try exact ⟨m - 1,by omega,k+1,_,_,⟨by omega,by omega,by omega,h6⟩,rfl⟩
    all_goals try show WpO _ _ _ _ _ _
    all_goals (subst hF;(repeat refine ge ?_);try dsimp only [RA])
    exact ⟨_,_,rfl,hr⟩
theorem v150 (z:Zn) (t:Tb) (p:Int) (hz:ZOk z) (h1:1≤z.types.length) (h2:∀ x ∈ z.trans,0≤x.2∧x.2 < z.types.length) (ht:t.leaps.length≤200) (g:Frm) (g1:g (0,2,0)=some (.cells 5 [z.l])) (g2:g (0,3,0)=some (.cells 3 [t.l])):Reads PT 150 2 [i64 p,.ptr (0,2,0) 0 0,.ptr (0,3,0) 0 0] g (fun v=>∃ n b,v=.tup [i64 n,.bool b]∧R64 n):=by
  obtain ⟨g0,rfl⟩:∃ g0,g=upd (upd g0 (0,2,0) (.cells 5 [z.l])) (0,3,0) (.cells 3 [t.l]):=⟨g,by rw [← upd_same g1];exact upd_same g2⟩
  refine reads_of ?_
  refine sA c150 fun Q hF=>?_
  repeat' first | refine ga ?_ | (refine so ?_;first | (refine wp_call (v151 z t _ hz h1 h2 ht) rfl rfl rfl rfl ?_;rintro _ ⟨n,b,rfl,hr⟩<;>refine xq ?_)) | (refine gb ?_;intros) | (refine gd ?_ ?_<;>intros)
  all_goals try show WpO _ _ _ _ _ _
  all_goals (subst hF;(repeat refine ge ?_);try dsimp only [RA])
  exact ⟨rfl,rfl,_,_,rfl,hr⟩
theorem piaR {t z t' u' lo m d:Nat} {y:Ys} {G:Gs} {a b:A} {q:IntKind} {j:Int} {es:List (List V)} {fz:Bool} (e1:ev y G a=some (.arr (d,t',u') z lo m)) (e2:ev y G b=some (.int q j)) (e3:alook y.l t' u'=some (.row z es fz)) (hc:(0≤j∧j < m)∧lo+m≤es.length):pv d (.ia t z a b) y G=some (.ptr (d,t',u') (lo+j.toNat) 0):=by
  have hg:y.mem.get d (d,t',u')=some (.row z es fz):=by simp only [St.get,if_true,Ys.mem,e3]
  simp only [pv,ev2,ev1,e1,e2,hg]
  exact if_pos ⟨trivial,trivial,hc.1.1,hc.1.2,hc.2⟩
theorem pldpR {α:Type} [Inhabited α] {enc:α→List V} {l:List α} {f:α→V} {t t' u' i off z d:Nat} {y:Ys} {G:Gs} {a:A} {fz:Bool} (e1:ev y G a=some (.ptr (d,t',u') i off)) (e3:alook y.l t' u'=some (.row z (l.map enc) fz)) (hi:i < l.length) (hf:∀ x,(enc x)[off]?=some (f x)) (hs:∀ x,(f x).still=true) (hh:∀ x,(f x).sh=f x):pv d (.ldp t none a) y G=some (f (l[i]?.getD default)):=by
  have hg:y.mem.get d (d,t',u')=some (.row z (l.map enc) fz):=by simp only [St.get,if_true,Ys.mem,e3]
  obtain ⟨x,h1,h2⟩:=map_get (enc:=enc) hi
  have hat:y.mem.at d (.ptr (d,t',u') i off)=some ((enc x).drop off):=by simp only [St.at,hg,h2,Option.map_some]
  obtain ⟨hl,he⟩:=List.getElem?_eq_some_iff.mp (hf x)
  simp only [pv,ev1,e1]
  unfold ldP
  rw [hat,List.drop_eq_getElem_cons hl,he,h1]
  simp only [bnd_some,hs,if_true,hh,Option.getD_some]
theorem v149 (z:Zn) (t:Tb) (hz:ZOk z) (hl:z.leaps=[]) (h1:1≤z.types.length) (h2:∀ x ∈ z.trans,0≤x.2∧x.2 < z.types.length) (ht:t.leaps.length≤200) (g:Frm) (g1:g (0,2,0)=some (.cells 5 [z.l])) (g2:g (0,3,0)=some (.cells 3 [t.l])):Reads PT 149 1 [z.v,.fn 150 [] [.ptr (0,2,0) 0 0,.ptr (0,3,0) 0 0]] g (fun v=>(∃ c,v=.tup [z0.v,i64 c]∧c≠0)∨∃ tr:List (Int × Int),(tr.length=z.trans.length∧∀ q ∈ tr,R64 q.1)∧v=.tup [Zn.v ⟨z.types,tr,[],z.foot,z.ver⟩,i64 0]):=by
  have e1:(z.trans.map prV).length=z.trans.length:=List.length_map _
  obtain ⟨h3,h4,h5,h6,h7⟩:=hz
  refine reads_of ?_
  refine sA c149 fun Q hF=>?_
  repeat' first | refine ga ?_ | (refine so ?_;first | (refine wp_callB (v221 z ⟨h3,h4,h5,h6,h7⟩ hl h1) rfl rfl rfl rfl ?_;rintro _ (rfl | ⟨he,rfl⟩))) | (refine gb ?_;intros) | (refine gd ?_ ?_<;>intros)
  all_goals (
    show WpL _ _ _ _
    refine wp_loop (n:=65) (fun m y=>∃ (k:Int) (N T:Nat) (l:List (Int × Int)) (es:List (List V)),(z.trans.length - k≤m∧0≤k∧k≤z.trans.length∧l.length=z.trans.length∧(∀ (j:Nat) q,(j:Int) < k→l[j]?=some q→R64 q.1)∧N=z.trans.length∧es=l.map prV∧T=(z.types.map tyV).length)∧y=⟨[(1,[],.fn 150 [] [.ptr (0,2,0) 0 0,.ptr (0,3,0) 0 0]),(2,[],.ptr (1,2,0) 0 0),(4,[],.ptr (1,4,0) 0 0),(14,[],.arr (1,12,1) 2 0 N),(15,[],i64 N),(16,[],i64 k)],[(2,0,.cells 5 [[.arr (1,12,0) 3 0 T,.arr (1,12,1) 2 0 N,.arr (1,12,2) 2 0 0,.str z.foot,i64 z.ver]]),(4,0,.cells 5 [[.sl 3 [] .tight,.sl 2 [] .tight,.sl 2 [] .tight,.str (bs []),i64 0]]),(12,0,.row 3 (z.types.map tyV) false),(12,1,.row 2 es false),(12,2,.row 2 [] false)],g,false⟩) (z.trans.length) ?_ ?_
    · first
        | exact ⟨0,_,_,z.trans,_,⟨by omega,by omega,by omega,rfl,fun j q h=>by omega,e1,rfl,rfl⟩,rfl⟩
        | exact ⟨0,0,_,[],_,⟨by omega,by omega,by omega,by rw [he],fun j q h=>by omega,by rw [he];rfl,rfl,rfl⟩,rfl⟩
    · rintro m _ ⟨k,N,T,l,es,⟨h8,h9,h10,h11,hR,h12,rfl,h13⟩,rfl⟩
      show wpC PT 65 _ c149_l0 _ _
      unfold c149_l0
      repeat' first | refine ga ?_ | (refine so ?_;first | (refine wp_callR (v150 z t _ ⟨h3,h4,h5,h6,h7⟩ h1 h2 ht _ ((merge_out (by decide)).trans g1) ((merge_out (by decide)).trans g2)) rfl rfl rfl rfl ?_;rintro _ ⟨n,b,rfl,hr⟩<;>refine xq ?_) | (refine wp_stRM (enc:=prV) (fun q=>(n,q.2)) rfl rfl rfl (by omega) rfl (fun _=>Nat.le_of_ble_eq_true rfl) (fun _=>rfl) (fun _ _=>?_))) | (refine gb ?_;intros) | (refine gd ?_ ?_<;>intros)
      · skip
        all_goals (subst hF;(repeat refine ge ?_);try dsimp only [RA])
        exact ⟨rfl,rfl,.inl ⟨_,rfl,by decide⟩⟩
      · exact ⟨m - 1,by omega,k+1,N,T,_,_,⟨by omega,by omega,by omega,by rw [List.length_set];exact h11,fun j q hj hq=>by
          rw [List.getElem?_set] at hq
          split at hq
          · split at hq
            · cases hq;exact hr
            · cases hq
          · exact hR j q (by omega) hq,h12,rfl,h13⟩,rfl⟩
      · skip
        show WpL _ _ _ _
        refine wp_loop (n:=65) (fun m y=>∃ (j:Int),(z.trans.length - j≤m∧0≤j∧j≤z.trans.length)∧y=⟨[(2,[],.ptr (1,2,0) 0 0),(4,[],.ptr (1,4,0) 0 0),(40,[],i64 N),(41,[],i64 j)],[(2,0,.cells 5 [[.arr (1,12,0) 3 0 T,.arr (1,12,1) 2 0 N,.arr (1,12,2) 2 0 0,.str z.foot,i64 z.ver]]),(4,0,.cells 5 [[.sl 3 [] .tight,.sl 2 [] .tight,.sl 2 [] .tight,.str (bs []),i64 0]]),(12,0,.row 3 (z.types.map tyV) false),(12,1,.row 2 (l.map prV) false),(12,2,.row 2 [] false)],g,false⟩) (z.trans.length) ?_ ?_
        · exact ⟨0,⟨by omega,by omega,by omega⟩,rfl⟩
        · rintro m _ ⟨j,⟨h14,h15,h16⟩,rfl⟩
          show wpC PT 65 _ c149_l1 _ _
          unfold c149_l1
          repeat' first | refine ga ?_ | (refine so ?_;first | (refine rg (o:=.ia _ _ _ _) rfl (fun hc=>piaR rfl rfl rfl (by have hh1:=hc.1;have hh2:=hc.2;(try simp [GH,yget] at hh1 hh2);(try simp only [List.length_map]);omega)) rfl ?_) | (refine rg (o:=.ldp _ none _) rfl (fun hc=>pldpR (enc:=prV) (f:=fun q=>i64 q.1) rfl rfl (by have hh1:=hc.1;have hh2:=hc.2;(try simp [GH,yget] at hh1 hh2);omega) (fun _=>rfl) (fun _=>rfl) (fun _=>rfl)) rfl ?_)) | (refine gb ?_;intros) | (refine gd ?_ ?_<;>intros)
          · skip
            all_goals (subst hF;(repeat refine ge ?_);try dsimp only [RA])
            exact ⟨rfl,rfl,.inl ⟨_,rfl,by decide⟩⟩
          · exact ⟨m - 1,by omega,j+1,⟨by omega,by omega,by omega⟩,rfl⟩
          · skip
            all_goals (subst hF;(repeat refine ge ?_);try dsimp only [RA])
            refine r_cmA rfl rfl rfl rfl rfl ?_
            refine ⟨⟨rfl,by omega⟩,⟨rfl,by simp only [List.length_map];omega⟩,⟨rfl,by decide⟩,rfl,?_⟩
            refine r_t rfl rfl rfl ?_
            refine ⟨rfl,rfl,.inr ⟨l,⟨h11,fun q hq=>?_⟩,?_⟩⟩
            · obtain ⟨i,hi⟩:=List.mem_iff_getElem?.mp hq
              have hil:i < l.length:=by
                rcases Nat.lt_or_ge i l.length with h | h
                · exact h
                · rw [List.getElem?_eq_none h] at hi;cases hi
              exact hR i q (by omega) hi
            rw [List.drop_zero,List.drop_zero,List.take_of_length_le (by omega),List.take_of_length_le (by simp only [List.length_map];omega)]
            rfl)
theorem v69 (z:Zn) (t:Tb) (hz:ZOk z):∃ v,Val PT 69 [z.v,t.v] v∧((∃ c,v=.tup [z0.v,i64 c]∧c≠0)∨∃ tr:List (Int × Int),(tr.length=z.trans.length∧∀ q ∈ tr,R64 q.1)∧v=.tup [Zn.v ⟨z.types,tr,recs z 0 t.leaps++if t.has then [(IntKind.i64.wrap (t.exp+sumR 0 t.leaps),sumR 0 t.leaps)] else [],z.foot,if t.has then 4 else z.ver⟩,i64 0]∧(t.leaps.length≤200∧∀ p ∈ t.leaps,730≤p.day∧p.day < 2932896∧(p.step=1∨p.step = -1))∧(1≤z.types.length∧z.types.length≤64)∧z.trans.length≤2000∧∀ x ∈ z.trans,0≤x.2∧x.2 < z.types.length):=by
  obtain ⟨_,hA,b1,rfl,hB⟩:=v147 z hz
  obtain ⟨_,hC,b2,rfl,hD⟩:=v24 t
  cases b1
  · refine sv c69 fun Q hF=>?_
    repeat' first | refine ga ?_ | (refine so ?_;first | refine cr ((⟨_,hA,rfl⟩:∃ v,Val PT 147 [z.v] v∧v=_)) rfl rfl rfl rfl rfl ?_ | (refine rgc rfl ((⟨_,hC,rfl⟩:∃ v,Val PT 24 [t.v] v∧v=_)) rfl rfl rfl rfl rfl ?_;rintro _ rfl<;>refine xq ?_)) | (refine gb ?_;intros) | (refine gd ?_ ?_<;>intros)
    all_goals (subst hF;(repeat refine ge ?_);try dsimp only [RA])
    exact .inl ⟨_,rfl,by decide⟩
  cases b2
  · refine sv c69 fun Q hF=>?_
    repeat' first | refine ga ?_ | (refine so ?_;first | refine cr ((⟨_,hA,rfl⟩:∃ v,Val PT 147 [z.v] v∧v=_)) rfl rfl rfl rfl rfl ?_ | (refine rgc rfl ((⟨_,hC,rfl⟩:∃ v,Val PT 24 [t.v] v∧v=_)) rfl rfl rfl rfl rfl ?_;rintro _ rfl<;>refine xq ?_)) | (refine gb ?_;intros) | (refine gd ?_ ?_<;>intros)
    all_goals (subst hF;(repeat refine ge ?_);try dsimp only [RA])
    exact .inl ⟨_,rfl,by decide⟩
  obtain ⟨hl,h1,h3,h2⟩:=hB rfl
  have ht:=hD rfl
  refine sv c69 fun Q hF=>?_
  repeat' first | refine ga ?_ | (refine so ?_;first | refine cr ((⟨_,hA,rfl⟩:∃ v,Val PT 147 [z.v] v∧v=_)) rfl rfl rfl rfl rfl ?_ | (refine rgc rfl ((⟨_,hC,rfl⟩:∃ v,Val PT 24 [t.v] v∧v=_)) rfl rfl rfl rfl rfl ?_;rintro _ rfl<;>refine xq ?_) | (refine wp_call (v148 z t hz h1.1 h2 ht.1) rfl rfl rfl rfl ?_;rintro _ (⟨o,c,rfl,hc⟩ | ⟨o,rfl⟩)<;>refine xq ?_) | (refine wp_callR (v149 z t hz hl h1.1 h2 ht.1 _ rfl rfl) rfl rfl rfl rfl ?_;rintro _ (⟨c,rfl,hc⟩ | ⟨tr,htr,rfl⟩)<;>refine xq ?_)) | (refine gb ?_;intros) | (refine gd ?_ ?_<;>intros)
  all_goals try show WpO _ _ _ _ _ _
  all_goals (subst hF;(repeat refine ge ?_);try dsimp only [RA])
  all_goals first
    | exact .inl ⟨_,rfl,hc⟩
    | (exfalso;omega)
    | (rename_i hh;refine .inr ⟨tr,htr,?_,ht,h1,h3,h2⟩;have e:(if t.has=true then (4:Int) else z.ver)=4:=if_pos hh;rw [e];rfl)
    | (rename_i hh;refine .inr ⟨tr,htr,?_,ht,h1,h3,h2⟩;have e:(if t.has=true then (4:Int) else z.ver)=z.ver:=if_neg hh;rw [e];rfl)
end Go.Den
