import Derived.Test.YtblkhnacgnlbdaaGreatDoorEG
import Derived.Test.YtblkhnacgnlbdaaGreatDoorET0
import Derived.Test.YtblkhnacgnlbdaaGreatDoorEM1
import Derived.Test.YtblkhnacgnlbdaaGreatDoorEM9
set_option linter.all false
namespace Go.Den
set_option maxHeartbeats 4000000
open Go.Proofs
set_option linter.unusedSimpArgs false
set_option maxHeartbeats 1000000
theorem Val.det {P:Nat→Option Fun} {f:Nat} {a:List V} {v w:V} (h1:Val P f a v) (h2:Val P f a w):v=w:=by
  obtain ⟨f1,w1,h1⟩:=h1
  obtain ⟨f2,w2,h2⟩:=h2
  rw [h1] at h2
  cases h2
  rfl
theorem v21y (s:ByteArray) (c:UInt8) (hs:s.size≤1000000) (h:0≤ixByte s c):∃ v,Val PT 21 [.str s,.str (bs [c])] v∧v=.tup [.str (s.extract 0 (ixByte s c).toNat),.str (s.extract ((ixByte s c).toNat+1) s.size),.bool true]:=by
  obtain ⟨v,h1,h2⟩:=v21 s c hs
  rw [if_pos h] at h2
  exact ⟨v,h1,h2⟩
theorem v21n (s:ByteArray) (c:UInt8) (hs:s.size≤1000000) (h:ixByte s c < 0):∃ v,Val PT 21 [.str s,.str (bs [c])] v∧v=.tup [.str s,.str (bs []),.bool false]:=by
  obtain ⟨v,h1,h2⟩:=v21 s c hs
  rw [if_neg (by omega)] at h2
  exact ⟨v,h1,h2⟩
theorem v130 (p:ByteArray) (k:Int) (hp:p.size≤1000000):∃ v,Val PT 130 [.str p,i64 k] v∧∃ s b,v=.tup [.str s,.bool b]∧s.size≤16∧(∀ s',PoolG p s' k→v=.tup [.str s',.bool true]):=by
  have hz:(p.extract k.toNat p.size).size≤1000000:=by rw [ext_size];omega
  have key:∀ s',PoolG p s' k→k < p.size∧ixByte (p.extract k.toNat p.size) 0=s'.size∧(p.extract k.toNat p.size).extract 0 s'.size=s'∧Val PT 180 [.str s'] (.bool true):=by
    rintro s' ⟨h0,h1,h2⟩
    have hlt:=h1.lt
    obtain ⟨h3,r,h4⟩:=h1
    have e:tl (p.extract k.toNat p.size)=tl s'++0::r:=by
      rw [tl_ext,List.take_of_length_le (by rw [tl_len];omega),h4]
    refine ⟨by rw [tl_len,tl_len] at hlt;omega,by rw [ix_first e h3,tl_len],?_,h2⟩
    apply tl_inj
    rw [tl_ext,e,List.drop_zero,List.take_append_of_le_length (by rw [tl_len];omega),List.take_of_length_le (by rw [tl_len];omega)]
  rcases Int.lt_or_le (ixByte (p.extract k.toNat p.size) 0) 0 with hx | hx
  · refine sv c130 fun Q hF=>?_
    repeat' first | refine ga ?_ | (refine so ?_;first | refine cr (v21n _ _ hz hx) rfl rfl rfl rfl rfl ?_ | (refine rgc rfl (v180v _ hz) rfl rfl rfl rfl rfl ?_;rintro _ ⟨b,rfl,hv,hb⟩<;>refine xq ?_)) | refine gb ?_ | intro _ | refine gd ?_ ?_
    all_goals (subst hF;(repeat refine ge ?_);try dsimp only [RA])
    all_goals (refine ⟨_,_,rfl,by decide,fun s' h=>?_⟩;have:=key s' h;exfalso;have:=h.1;omega)
  · refine sv c130 fun Q hF=>?_
    repeat' first | refine ga ?_ | (refine so ?_;first | refine cr (v21y _ _ hz hx) rfl rfl rfl rfl rfl ?_ | (refine rgc rfl (v180v _ (by rw [ext_size];omega)) rfl rfl rfl rfl rfl ?_;rintro _ ⟨b,rfl,hv,hb⟩<;>refine xq ?_)) | refine gb ?_ | intro _ | refine gd ?_ ?_
    all_goals (subst hF;(repeat refine ge ?_);try dsimp only [RA])
    · refine ⟨_,_,rfl,by decide,fun s' h=>?_⟩
      have:=key s' h
      exfalso
      have:=h.1
      omega
    · rename_i h1 h2
      refine ⟨_,_,rfl,by decide,fun s' h=>?_⟩
      obtain ⟨_,q1,q2,q3⟩:=key s' h
      exfalso
      rw [q1] at hv
      have e:(p.extract k.toNat p.size).extract 0 ((s'.size:Int)).toNat=s':=q2
      rw [e] at hv
      have:=Val.det hv q3
      cases this
      simp at h2
    · rename_i h1 h2
      have hbt:b=true:=by simpa using h2
      refine ⟨_,_,rfl,(hb hbt).2.1,fun s' h=>?_⟩
      obtain ⟨_,q1,q2,q3⟩:=key s' h
      rw [q1]
      have e:(p.extract k.toNat p.size).extract 0 ((s'.size:Int)).toNat=s':=q2
      rw [e]
      rfl
def resC (d:Nat):List V→Loc→(List V→Loc→Prop)→Prop
  | [],l,k=>k [] l
  | v::r,l,k=>match v with
    | .arr (d',t,u) z lo m=>match Nat.beq d' d with
      | true=>lookC l t u fun o=>match o with
        | .row z' es _=>(z=z'∧lo+m≤es.length)∧updC l t u (fun _ k2=>k2 (.row z' es true)) fun l'=>resC d r l' fun vs l2=>k (.sl z' ((es.drop lo).take m) .sh::vs) l2
        | _=>False
      | false=>False
    | v=>match plV v with
      | some v'=>resC d r l fun vs l2=>k (v'::vs) l2
      | none=>False
theorem resC_ok {d:Nat}:∀ {cs:List V} {k:List V→Loc→Prop} (s:St),resC d cs s.l k→∃ vs l,resL d false cs s=some (vs,{ s with l:=l })∧k vs l
  | [],k,s,h=>⟨[],s.l,rfl,h⟩
  | v::r,k,s,h=>by
    simp only [resC] at h
    split at h
    · rename_i d' t u z lo m
      split at h
      · rename_i hb
        have hd:d'=d:=Nat.eq_of_beq_eq_true hb
        subst hd
        obtain ⟨o,h1,h2⟩:=lookC_ok h
        split at h2
        · rename_i z' es fz
          obtain ⟨⟨rfl,hm⟩,h3⟩:=h2
          obtain ⟨o2,_,h4,rfl,h5⟩:=updC_ok (G:=fun _ e'=>e'=.row z es true) (fun e k h=>⟨_,rfl,h⟩) h3
          obtain ⟨vs,l,h6,h7⟩:=resC_ok { s with l:=aset s.l t u (.row z es true) } h5
          refine ⟨_::vs,l,?_,h7⟩
          have hg:s.get d' (d',t,u)=some (.row z es fz):=by simp only [St.get,if_true,h1]
          have hv:resV d' false s (.arr (d',t,u) z lo m)=some (.sl z ((es.drop lo).take m) .sh,{ s with l:=aset s.l t u (.row z es true) }):=by
            simp only [resV,Bool.false_eq_true,if_false,hg]
            rw [if_pos ⟨trivial,trivial,hm⟩]
            simp only [St.set,if_true]
          simp only [resL,hv,h6,Option.map_some]
        · exact h2.elim
      · exact h.elim
    · split at h
      · rename_i v' hv
        obtain ⟨vs,l,h6,h7⟩:=resC_ok s h
        exact ⟨v'::vs,l,by simp only [resL,(plV_ok hv s).1,h6,Option.map_some],h7⟩
      · exact h.elim
theorem r_cmA {d nt a t u i off z m:Nat} {y:Ys} {es:List (List V)} {e:List V} {k:V→Ys→Prop} (hn:Nat.blt a nt=true) (e0:yget y.e a=some ([],.ptr (d,t,u) i off)) (e1:alook y.l t u=some (.cells z es)) (e2:es[i]?=some e) (hm:Nat.ble (off+m) e.length=true) (h:updC y.l t u (fun o k2=>match o with
        | .cells z es=>eltC es i (fun e k3=>k3 (shL e off m)) fun es'=>k2 (.cells z es')
        | _=>False) fun l=>resC d (((shL e off m).drop off).take m) l fun vs l2=>vs.any V.isBox=false∧k (.agg vs) ⟨y.e,l2,y.f,y.w⟩):R1 d false nt y (.cell a (some m)) k:=by
  obtain ⟨o,o',h1,⟨z',es',e',rfl,h2,rfl⟩,h4⟩:=updC_ok (G:=fun o o'=>∃ z es e,o=.cells z es∧es[i]?=some e∧o'=.cells z (es.set i (shL e off m))) (fun o k h=>by
    split at h
    · rename_i z es
      obtain ⟨e,e',h1,rfl,h3⟩:=eltC_ok (G:=fun e e'=>e'=shL e off m) (fun e k h=>⟨_,rfl,h⟩) h
      exact ⟨_,⟨z,es,e,rfl,h1,rfl⟩,h3⟩
    · exact h.elim) h
  rw [e1] at h1
  cases h1
  rw [e2] at h2
  cases h2
  have hi:i < es.length:=by
    rcases Nat.lt_or_ge i es.length with hh | hh
    · exact hh
    · rw [List.getElem?_eq_none hh] at e2;cases e2
  have hd:=demAt_own (d:=d) (s:=yst nt y) (off:=off) (m:=m) (t:=t) (u:=u) (i:=i) e1 e2
  have hat:((yst nt y).demAt d (.ptr (d,t,u) i off) m).at d (.ptr (d,t,u) i off)=some ((shL e off m).drop off):=by
    rw [hd]
    have:alook (yst nt y).l t u=some (.cells z es):=e1
    simp only [St.at,St.get,if_true,alook_aset this,List.getElem?_set,hi,Option.map_some]
  obtain ⟨vs,l2,h5,h6,h7⟩:=resC_ok { yst nt y with l:=aset y.l t u (.cells z (es.set i (shL e off m))) } h4
  refine ⟨.agg vs,⟨y.e,l2,y.f,y.w⟩,?_,rfl,rfl,h7⟩
  have hr':=yst_get (nt:=nt) (y:=y) (n:=a) (by simpa [Nat.blt_eq] using hn)
  simp only [yval,e0] at hr'
  simp only [res1,hr',hat]
  have hm':=Nat.le_of_ble_eq_true hm
  rw [if_pos ⟨by rw [List.length_drop,shL_len];omega,shL_noUq e off m⟩]
  have hd':(yst nt y).demAt d (.ptr (d,t,u) i off) m={ yst nt y with l:=aset y.l t u (.cells z (es.set i (shL e off m))) }:=hd
  rw [hd']
  simp only [resG,h5,h6,Bool.false_or,Bool.not_false,if_true,yst_l]
end Go.Den
