import Derived.Test.YtblkhnacgnlbdaaGreatDoorEY4
set_option linter.all false
namespace Go.Den
variable {P:Nat→Option Fun} {n d:Nat} {y:Ys} {s:St} {k:Ys→Prop}
theorem demAt_own {t u i off z m:Nat} {es:List (List V)} {e:List V} (hl:alook s.l t u=some (.cells z es)) (h2:es[i]?=some e):s.demAt d (.ptr (d,t,u) i off) m={ s with l:=aset s.l t u (.cells z (es.set i (shL e off m))) }:=by
  unfold St.demAt
  simp only
  split
  · exact demN_own m off s hl h2
  · rename_i hn
    have hg:s.get d (d,t,u)=some (.cells z es):=by simp only [St.get,if_true,hl]
    simp only [St.uqAt,hg,h2,Option.getD_some] at hn
    have hsame:shL e off m=e:=by
      apply List.ext_getElem?
      intro j
      rw [shL_get]
      split
      · rename_i hj
        cases hej:e[j]? with
        | none=>rfl
        | some v =>
          have hmem:v ∈ grab e off m:=by
            unfold grab
            rw [List.mem_iff_getElem?]
            refine ⟨j - off,?_⟩
            rw [List.getElem?_take,if_pos (by omega),List.getElem?_drop,show off+(j - off)=j by omega,hej]
          have hu:v.uq=false:=by
            cases hb:v.uq with
            | false=>rfl
            | true=>exact absurd (List.any_eq_true.mpr ⟨v,hmem,hb⟩) hn
          simp only [Option.map_some,Option.some.injEq]
          cases v with
          | sl z' ds o=>cases o<;>first | rfl | cases hu
          | _=>rfl
      · rfl
    rw [hsame,set_same h2,aset_self hl]
theorem shL_noUq (e:List V) (off m:Nat):hasUq (((shL e off m).drop off).take m)=false:=by
  unfold hasUq
  rw [List.any_eq_false]
  intro v hv
  rw [List.mem_iff_getElem?] at hv
  obtain ⟨j,hj⟩:=hv
  rw [List.getElem?_take] at hj
  split at hj
  · rename_i hjq
    rw [List.getElem?_drop,shL_get,if_pos (by omega)] at hj
    cases hej:e[off+j]? with
    | none=>rw [hej] at hj;cases hj
    | some x =>
      rw [hej] at hj
      simp only [Option.map_some,Option.some.injEq] at hj
      subst hj
      cases x with
      | sl z' ds o=>cases o<;>(intro h;cases h)
      | _=>intro h;cases h
  · cases hj
structure R1 (d:Nat) (one:Bool) (nt:Nat) (y:Ys) (x:Rs) (k:V→Ys→Prop):Prop where
  out:∃ v y',res1 d one (yst nt y) x=some (v,yst nt y')∧y'.f=y.f∧y'.w=y.w∧k v y'
def RA (d nt:Nat):Ys→List Rs→(List V→Ys→Prop)→Prop
  | y,[],k=>k [] y
  | y,x::r,k=>R1 d false nt y x fun v y'=>RA d nt y' r fun l y''=>k (v::l) y''
theorem RA_ok {nt:Nat}:∀ {rs:List Rs} {y:Ys} {k:List V→Ys→Prop},RA d nt y rs k→∃ l y',resA d rs (yst nt y)=some (l,yst nt y')∧y'.f=y.f∧y'.w=y.w∧k l y'
  | [],y,k,h=>⟨[],y,rfl,rfl,rfl,h⟩
  | x::r,y,k,h=>by
    obtain ⟨v,y',h1,h2,h3,h4⟩:=h.out
    obtain ⟨l,y'',h5,h6,h7,h8⟩:=RA_ok h4
    exact ⟨v::l,y'',by simp only [resA,h1,h5,Option.map_some],h6.trans h2,h7.trans h3,h8⟩
def FinC (F:Fun) (d:Nat) (y:Ys) (k:V→Prop):Prop:=
  match F.res with
  | [x]=>R1 d true F.nt y x fun v _=>k v
  | rs=>RA d F.nt y rs fun l _=>k (.tup l)
theorem finC_ok {F:Fun} {k:V→Prop} (h:FinC F d y k):∃ v,fin d F.res (yst F.nt y)=some (v,y.f,y.w)∧k v:=by
  unfold FinC at h
  unfold fin
  split at h
  · rename_i x hx
    obtain ⟨v,y',h1,h2,h3,h4⟩:=h.out
    rw [hx]
    exact ⟨v,by simp only [h1,Option.map_some];simp only [yst,h2,h3],h4⟩
  · rename_i hx
    obtain ⟨l,y',h1,h2,h3,h4⟩:=RA_ok h
    split
    · rename_i x hx';exact (hx x hx').elim
    · exact ⟨_,by rw [h1];simp only [Option.map_some,yst,h2,h3],h4⟩
theorem fin_c {F:Fun} {Φ:V→Prop} (ho:okAll y.e=true) (h:FinC F 0 y Φ):FinS F Φ y:=by
  obtain ⟨v,h1,h2⟩:=finC_ok h
  exact ⟨ho,v,y.f,y.w,h1,h2⟩
theorem fin_b {F:Fun} {Ψ:V→Frm→Bool→Prop} (ho:okAll y.e=true) (h:FinC F d y fun v=>Ψ v y.f y.w):FinA F d Ψ y:=by
  obtain ⟨v,h1,h2⟩:=finC_ok h
  exact ⟨ho,v,y.f,y.w,h1,h2⟩
theorem r_t {one:Bool} {nt m:Nat} {k:V→Ys→Prop} {v v':V} (hn:Nat.blt m nt=true) (e:yget y.e m=some ([],v)) (hr:resE one v=some v') (h:k v' y):R1 d one nt y (.t m) k:=by
  refine ⟨v',y,?_,rfl,rfl,h⟩
  have hr':=yst_get (nt:=nt) (y:=y) (n:=m) (by simpa [Nat.blt_eq] using hn)
  obtain ⟨h1,h2,h3⟩:=resE_ok (d:=d) hr (yst nt y)
  simp only [yval,e] at hr'
  simp only [res1,hr']
  cases v with
  | sl z es o=>cases o<;>first | exact h1 | cases h2
  | arr k z lo m=>exact (h3 _ _ _ _ rfl).elim
  | _=>exact h1
theorem r_u {one:Bool} {nt m z:Nat} {es:List (List V)} {k:V→Ys→Prop} (hn:Nat.blt m nt=true) (e:yget y.e m=some ([],.sl z es .uniq)) (h:delC y.e m fun e'=>k (.sl z es .uniq) ⟨e',y.l,y.f,y.w⟩):R1 d one nt y (.t m) k:=by
  rw [delC_eq] at h
  refine ⟨.sl z es .uniq,⟨ydel y.e m,y.l,y.f,y.w⟩,?_,rfl,rfl,h⟩
  have hr':=yst_get (nt:=nt) (y:=y) (n:=m) (by simpa [Nat.blt_eq] using hn)
  simp only [yval,e] at hr'
  simp only [res1,hr',yst_del]
theorem ytab_e (l:Loc):∀ (m t:Nat),ytab ⟨y.e,l,y.f,y.w⟩ m t=ytab y m t
  | 0,_=>rfl
  | m+1,t=>by simp only [ytab,ytab_e l m];rfl
theorem yst_l (nt:Nat) (l:Loc):yst nt ⟨y.e,l,y.f,y.w⟩={ yst nt y with l:=l }:=by simp only [yst,ytab_e]
theorem r_a {one:Bool} {nt m z t u c:Nat} {es:List (List V)} {k:V→Ys→Prop} (hn:Nat.blt m nt=true) (e:yget y.e m=some ([],.arr (d,t,u) z 0 c)) (el:alook y.l t u=some (.row z es false)) (hc:0 < c∧c≤es.length) (h:updC y.l t u (fun _ k2=>k2 (.row z [] true)) fun l=>k (.sl z (es.take c) .uniq) ⟨y.e,l,y.f,y.w⟩):R1 d one nt y (.t m) k:=by
  obtain ⟨o,_,h1,rfl,h2⟩:=updC_ok (G:=fun _ e'=>e'=.row z [] true) (fun e k h=>⟨_,rfl,h⟩) h
  refine ⟨.sl z (es.take c) .uniq,⟨y.e,aset y.l t u (.row z [] true),y.f,y.w⟩,?_,rfl,rfl,h2⟩
  have hr':=yst_get (nt:=nt) (y:=y) (n:=m) (by simpa [Nat.blt_eq] using hn)
  simp only [yval,e] at hr'
  have hg:(yst nt y).get d (d,t,u)=some (.row z es false):=by simp only [St.get,if_true,yst,el]
  simp only [res1,hr',resV,if_true,resF,hg]
  rw [if_pos ⟨trivial,trivial,trivial,hc.1,hc.2⟩]
  simp only [St.set,if_true,yst_l]
  rfl
theorem r_a0 {one:Bool} {nt m z t u lo c:Nat} {es:List (List V)} {fz:Bool} {k:V→Ys→Prop} (hn:Nat.blt m nt=true) (e:yget y.e m=some ([],.arr (d,t,u) z lo c)) (el:alook y.l t u=some (.row z es fz)) (hc:c=0∧lo≤es.length) (h:updC y.l t u (fun _ k2=>k2 (.row z es true)) fun l=>k (.sl z [] .sh) ⟨y.e,l,y.f,y.w⟩):R1 d one nt y (.t m) k:=by
  obtain ⟨rfl,hlo⟩:=hc
  obtain ⟨o,_,h1,rfl,h2⟩:=updC_ok (G:=fun _ e'=>e'=.row z es true) (fun e k h=>⟨_,rfl,h⟩) h
  refine ⟨.sl z [] .sh,⟨y.e,aset y.l t u (.row z es true),y.f,y.w⟩,?_,rfl,rfl,h2⟩
  have hr':=yst_get (nt:=nt) (y:=y) (n:=m) (by simpa [Nat.blt_eq] using hn)
  simp only [yval,e] at hr'
  have hg:(yst nt y).get d (d,t,u)=some (.row z es fz):=by simp only [St.get,if_true,yst,el]
  have hF:resF d (yst nt y) (d,t,u) z lo 0=none:=by
    unfold resF
    rw [hg]
    cases fz with
    | true=>rfl
    | false=>simp only;exact if_neg (fun h=>by omega)
  simp only [res1,hr',resV,if_true,hF,hg]
  rw [if_pos ⟨trivial,trivial,by omega⟩]
  simp only [St.set,if_true,yst_l,List.take_zero]
  rfl
theorem r_c {one:Bool} {nt a t u i off z:Nat} {es:List (List V)} {e:List V} {v v':V} {k:V→Ys→Prop} (hn:Nat.blt a nt=true) (e0:yget y.e a=some ([],.ptr (d,t,u) i off)) (e1:alook y.l t u=some (.cells z es)) (e2:es[i]?=some e) (e3:e[off]?=some v) (hu:v.uq=false) (hr:resE one v=some v') (h:k v' y):R1 d one nt y (.cell a none) k:=by
  refine ⟨v',y,?_,rfl,rfl,h⟩
  have hr':=yst_get (nt:=nt) (y:=y) (n:=a) (by simpa [Nat.blt_eq] using hn)
  simp only [yval,e0] at hr'
  have hg:(yst nt y).get d (d,t,u)=some (.cells z es):=by simp only [St.get,if_true,yst,e1]
  simp only [res1,hr',hg,e2,e3,hu,Bool.false_eq_true,if_false]
  exact (resE_ok (d:=d) hr (yst nt y)).1
theorem r_cm {one:Bool} {nt a t u i off z m:Nat} {es:List (List V)} {e l:List V} {k:V→Ys→Prop} (hn:Nat.blt a nt=true) (e0:yget y.e a=some ([],.ptr (d,t,u) i off)) (e1:alook y.l t u=some (.cells z es)) (e2:es[i]?=some e) (hm:Nat.ble (off+m) e.length=true) (hl:plL (((shL e off m).drop off).take m)=some l) (hb:(one || !(l.any V.isBox))=true) (h:k (.agg l) ⟨y.e,aset y.l t u (.cells z (es.set i (shL e off m))),y.f,y.w⟩):R1 d one nt y (.cell a (some m)) k:=by
  refine ⟨.agg l,⟨y.e,aset y.l t u (.cells z (es.set i (shL e off m))),y.f,y.w⟩,?_,rfl,rfl,h⟩
  have hr':=yst_get (nt:=nt) (y:=y) (n:=a) (by simpa [Nat.blt_eq] using hn)
  simp only [yval,e0] at hr'
  have hi:i < es.length:=by
    rcases Nat.lt_or_ge i es.length with hh | hh
    · exact hh
    · rw [List.getElem?_eq_none hh] at e2;cases e2
  have hd:=demAt_own (d:=d) (s:=yst nt y) (off:=off) (m:=m) (t:=t) (u:=u) (i:=i) e1 e2
  have hat:((yst nt y).demAt d (.ptr (d,t,u) i off) m).at d (.ptr (d,t,u) i off)=some ((shL e off m).drop off):=by
    rw [hd]
    have:alook (yst nt y).l t u=some (.cells z es):=e1
    simp only [St.at,St.get,if_true,alook_aset this,List.getElem?_set,hi,Option.map_some]
  simp only [res1,hr',hat]
  have hm':=Nat.le_of_ble_eq_true hm
  rw [if_pos ⟨by rw [List.length_drop,shL_len];omega,shL_noUq e off m⟩]
  simp only [resG,plL_ok _ hl,hb,if_true,hd,yst_l]
  rfl
theorem wp_iaS {t z:Nat} {x i:A} {q:IntKind} {j:Int} {es:List (List V)} {o:Own} (e1:ev y [] x=some (.sl z es o)) (e2:ev y [] i=some (.int q j)) (hc:0≤j∧j < es.length) (h:demK n y x fun y1=>putK n y1 t (.pin es j.toNat 0) k):WpO P n d (.ia t z x i) y k:=⟨_,by
  simp only [yia,ev2,ev1,e1,e2]
  exact if_pos ⟨trivial,hc.1,hc.2⟩,h⟩
theorem wp_iaA {t t' u' z lo m:Nat} {x i:A} {q:IntKind} {j:Int} {es:List (List V)} {fz:Bool} (e1:ev y [] x=some (.arr (d,t',u') z lo m)) (e2:ev y [] i=some (.int q j)) (e3:alook y.l t' u'=some (.row z es fz)) (hc:(0≤j∧j < m)∧lo+m≤es.length) (h:putK n y t (.ptr (d,t',u') (lo+j.toNat) 0) k):WpO P n d (.ia t z x i) y k:=⟨_,by
  have hg:y.mem.get d (d,t',u')=some (.row z es fz):=by simp only [St.get,if_true,Ys.mem,e3]
  simp only [yia,ev2,ev1,e1,e2,hg]
  exact if_pos ⟨trivial,trivial,hc.1.1,hc.1.2,hc.2⟩,by
  cases x with
  | c v=>exact h
  | t u=>simp only [demK];rw [e1];exact h⟩
theorem wp_ldpin {t i off:Nat} {sz:Option Nat} {a:A} {es:List (List V)} {e:List V} (e1:ev y [] a=some (.pin es i off)) (he:es[i]?=some e) (h:dropC e off fun c=>hasUq (c.take (sz.getD 1))=false∧tkC (sz.getD 1) c fun cs=>aggC sz cs fun v=>putK n y t v k):WpO P n d (.ld t sz a) y k:=by
  refine ⟨?_⟩
  intro s r
  rw [dropC_eq] at h
  obtain ⟨hu,h2⟩:=h
  obtain ⟨h3,h4⟩:=tkC_ok h2
  have hat:s.at d (.pin es i off)=some (e.drop off):=by simp only [St.at,he,Option.map_some]
  have key:∀ v,ldV d s (.pin es i off) sz=some (v,s)→putK n y t v k→∃ s1 y1,step (low (D P)) d (.ld t sz a) s=some s1∧Yr n y1 s1∧k y1:=by
    intro v hv hk
    obtain ⟨y1,r1,k1⟩:=putK_ok (C:=low (D P)) r hk
    exact ⟨_,y1,by simp only [step,r.ev0 e1,hv,bnd_some],r1,k1⟩
  cases sz with
  | none =>
    cases hc:e.drop off with
    | nil=>rw [hc] at h3;exact absurd h3 (by simp)
    | cons v c =>
      rw [hc] at h4 hu
      refine key v.sh ?_ h4
      unfold ldV
      rw [show s.demAt d (.pin es i off) ((none:Option Nat).getD 1)=s from rfl,hat,hc]
      simp only [bnd_some]
      rw [if_neg]
      simpa [hasUq] using hu
  | some m =>
    refine key _ ?_ h4
    unfold ldV
    rw [show s.demAt d (.pin es i off) ((some m).getD 1)=s from rfl,hat]
    simp only [bnd_some]
    exact if_pos ⟨h3,hu⟩
theorem wp_ldR {t t' u' i off z:Nat} {sz:Option Nat} {a:A} {es:List (List V)} {e:List V} {fz:Bool} (e1:ev y [] a=some (.ptr (d,t',u') i off)) (el:alook y.l t' u'=some (.row z es fz)) (he:es[i]?=some e) (h:dropC e off fun c=>hasUq (c.take (sz.getD 1))=false∧tkC (sz.getD 1) c fun cs=>aggC sz cs fun v=>putK n y t v k):WpO P n d (.ld t sz a) y k:=by
  refine ⟨?_⟩
  intro s r
  rw [dropC_eq] at h
  obtain ⟨hu,h2⟩:=h
  obtain ⟨h3,h4⟩:=tkC_ok h2
  have hg:s.get d (d,t',u')=some (.row z es fz):=by simp only [St.get,if_true,r.l,el]
  have hat:s.at d (.ptr (d,t',u') i off)=some (e.drop off):=by simp only [St.at,hg,he,Option.map_some]
  have hdem:∀ m,s.demAt d (.ptr (d,t',u') i off) m=s:=fun m=>by
    unfold St.demAt
    simp only [St.uqAt,hg,Bool.false_eq_true,if_false]
  have key:∀ v,ldV d s (.ptr (d,t',u') i off) sz=some (v,s)→putK n y t v k→∃ s1 y1,step (low (D P)) d (.ld t sz a) s=some s1∧Yr n y1 s1∧k y1:=by
    intro v hv hk
    obtain ⟨y1,r1,k1⟩:=putK_ok (C:=low (D P)) r hk
    exact ⟨_,y1,by simp only [step,r.ev0 e1,hv,bnd_some],r1,k1⟩
  cases sz with
  | none =>
    cases hc:e.drop off with
    | nil=>rw [hc] at h3;exact absurd h3 (by simp)
    | cons v c =>
      rw [hc] at h4 hu
      refine key v.sh ?_ h4
      unfold ldV
      rw [hdem,hat,hc]
      simp only [bnd_some]
      rw [if_neg]
      simpa [hasUq] using hu
  | some m =>
    refine key _ ?_ h4
    unfold ldV
    rw [hdem,hat]
    simp only [bnd_some]
    exact if_pos ⟨h3,hu⟩
theorem pure_uq {v:V} (h:v.pure=true):v.uq=false:=by
  cases v with
  | sl z es o=>cases o<;>first | rfl | cases h
  | _=>first | rfl | cases h
theorem wp_stR {a b:A} {v:V} {t' u' i off z:Nat} {es:List (List V)} {e:List V} (e1:ev y [] a=some (.ptr (d,t',u') i off)) (e2:ev y [] b=some v) (el:alook y.l t' u'=some (.row z es false)) (he:es[i]?=some e) (hp:v.pure=true) (hl:off < e.length) (h:updC y.l t' u' (fun _ k2=>k2 (.row z (es.set i (e.set off v)) false)) fun l=>k ⟨y.e,l,y.f,y.w⟩):WpO P n d (.st none a b) y k:=by
  refine ⟨?_⟩
  intro s r
  obtain ⟨o,_,h1,rfl,h2⟩:=updC_ok (G:=fun _ e'=>e'=.row z (es.set i (e.set off v)) false) (fun e k h=>⟨_,rfl,h⟩) h
  refine ⟨_,_,?_,r.setl _,h2⟩
  have hg:s.get d (d,t',u')=some (.row z es false):=by simp only [St.get,if_true,r.l,el]
  have hone:v.one=true:=by cases v<;>first | rfl | cases hp
  have hoff:s.off b=s:=off_no (by rw [r.ev0 e2];exact pure_uq hp)
  simp only [step,r.ev0 e1,r.ev0 e2,hone,if_true,hoff,stV,hg,he]
  rw [if_pos ⟨by simp;omega,by simp [hp]⟩]
  simp only [St.set,if_true,splice,rset_set,r.l]
theorem rset_rset:∀ (r:List V) (t:Nat) (v w:V),rset (rset r t v) t w=rset r t w
  | [],_,_,_=>rfl
  | _::_,0,_,_=>rfl
  | a::r,t+1,v,w=>by simp only [rset,rset_rset r]
theorem wp_ob {t z:Nat} {o:O} {es:List (List V)} (ht:Nat.blt t n=true) (e:pv d o y []=some (.sl z es .uniq)) (hd:dst o=t) (h:addC y.l t 0 (.row z es false) fun l=>putK n ⟨y.e,l,y.f,y.w⟩ t (.arr (d,t,0) z 0 es.length) k):WpO P n d (.ob t o) y k:=by
  refine ⟨?_⟩
  intro s r
  obtain ⟨h1,h2⟩:=addC_ok h
  obtain ⟨y1,r1,k1⟩:=putK_ok (C:=low (D P)) (r.setl _) h2
  refine ⟨_,y1,?_,r1,k1⟩
  have hs:=pv_ok (C:=low (D P)) (G:=[]) r trivial trivial e
  rw [hd] at hs
  have hg:rget (s.put t (.sl z es .uniq)).r t=.sl z es .uniq:=by
    simp only [St.put,rget_rset]
    rw [if_pos ⟨trivial,by rw [r.len];simpa [Nat.blt_eq] using ht⟩]
  simp only [step,hs,hg,recv1,Bool.true_and]
  rw [if_pos (by rfl)]
  have ha:(s.put t (.sl z es .uniq)).add t 0 (.row z es false)=some { s.put t (.sl z es .uniq) with l:=ains y.l t 0 (.row z es false) }:=by
    unfold St.add
    rw [show (s.put t (.sl z es .uniq)).l=y.l from r.l,h1]
  rw [ha]
  simp only [Option.map_some,St.put,rset_rset]
theorem pmk {t:Nat} {a b:A} {zero:List V} {i j:Int} (e1:ev y [] a=some (.int .i64 i)) (e2:ev y [] b=some (.int .i64 j)) (hc:0≤i∧i≤j∧j≤16777216) (hz:zero.all V.pure=true):pv d (.mks t zero a b) y []=some (.sl zero.length (List.replicate i.toNat zero) .uniq):=by
  simp only [pv,ev2,ev1,e1,e2]
  exact if_pos ⟨hc.1,hc.2.1,hc.2.2,hz⟩
theorem wp_mks {t:Nat} {a b:A} {zero:List V} {i j:Int} (e1:ev y [] a=some (.int .i64 i)) (e2:ev y [] b=some (.int .i64 j)) (hz:zero.all V.pure=true) (hc:0≤i∧i≤j∧j≤16777216) (h:putK n y t (.sl zero.length (List.replicate i.toNat zero) .uniq) k):WpO P n d (.mks t zero a b) y k:=⟨_,pmk e1 e2 hc hz,h⟩
theorem dem_arr {x:A} {q:Key} {z lo m:Nat} {K:Ys→Prop} (e1:ev y [] x=some (.arr q z lo m)) (h:K y):demK n y x K:=by
  cases x with
  | c v=>exact h
  | t u=>simp only [demK];rw [e1];exact h
theorem wp_slcA {t z lo m:Nat} {x a:A} {q:Key} {j:Int} (e1:ev y [] x=some (.arr q z lo m)) (e2:ev y [] a=some (.int .i64 j)) (hc:0≤j∧j≤m) (h:putK n y t (.arr q z lo j.toNat) k):WpO P n d (.slc t z false x none (some a) none) y k:=⟨_,by
  have h1:j.toNat≤m:=by omega
  simp only [yslc,ev1,evO,e1,e2,slcV,if_true,bndV,if_pos hc.1]
  exact if_pos ⟨Nat.zero_le _,h1⟩,dem_arr e1 h⟩
theorem wp_slcSh {t z:Nat} {x a:A} {es:List (List V)} {o:Own} {j:Int} (e1:ev y [] x=some (.sl z es o)) (e2:ev y [] a=some (.int .i64 j)) (hc:0≤j∧j≤es.length) (h:demK n y x fun y1=>putK n y1 t (.sl z (es.take j.toNat) .sh) k):WpO P n d (.slc t z false x none (some a) none) y k:=⟨_,by
  have h1:j.toNat≤es.length:=by omega
  simp only [yslc,ev1,evO,e1,e2,slcV,true_or,if_true,bndV,if_pos hc.1]
  exact if_pos ⟨Nat.zero_le _,h1⟩,h⟩
theorem wp_slcSl {t z:Nat} {x a:A} {es:List (List V)} {o:Own} {j:Int} (e1:ev y [] x=some (.sl z es o)) (e2:ev y [] a=some (.int .i64 j)) (hc:0≤j∧j≤es.length) (h:demK n y x fun y1=>putK n y1 t (.sl z (es.drop j.toNat) .sh) k):WpO P n d (.slc t z false x (some a) none none) y k:=⟨_,by
  have h1:j.toNat≤es.length:=by omega
  simp only [yslc,ev1,evO,e1,e2,slcV,true_or,if_true,bndV,if_pos hc.1]
  rw [if_pos ⟨h1,Nat.le_refl _⟩,List.take_length],h⟩
theorem dem_K {x:A} {v:V} {K:Ys→Prop} (e1:ev y [] x=some v) (hv:v.uq=false) (h:K y):demK n y x K:=by
  cases x with
  | c v=>exact h
  | t u =>
    simp only [demK];rw [e1]
    cases v with
    | sl z es o=>cases o<;>first | exact h | cases hv
    | _=>exact h
theorem wp_clone {t z:Nat} {a:A} {es:List (List V)} {o:Own} (e1:ev y [] a=some (.sl z es o)) (hc:es.length≤16777216) (h:∀ o',(o'=.uniq∧es≠[])∨(o'=.tight∧es=[])→putK n y t (.sl z es o') k):WpO P n d (.clone t z a) y k:=by
  have key:pv d (.clone t z a) y []=some (.sl z es (tq es)):=by
    simp only [pv,ev1,e1,srcN,srcV,true_or,if_true]
    exact if_pos hc
  refine ⟨_,key,?_⟩
  refine h _ ?_
  cases es with
  | nil=>exact .inr ⟨rfl,rfl⟩
  | cons e r=>exact .inl ⟨rfl,by simp⟩
theorem wp_appU {t z:Nat} {a b:A} {es xs:List (List V)} {o:Own} (e1:ev y [] a=some (.sl z es .uniq)) (e2:ev y [] b=some (.sl z xs o)) (hc:es.length+xs.length≤16777216) (h:offK y a fun y1=>demK n y1 b fun y2=>putK n y2 t (.sl z (es++xs) .uniq) k):WpO P n d (.app t z a b) y k:=by
  refine ⟨⟨_,_,xs,_,e1,e2,?_,?_,h⟩⟩
  · simp only [srcV,true_or,if_true]
  · simp only [appV];exact if_pos ⟨trivial,hc⟩
theorem wp_appT {t z z':Nat} {a b:A} {es xs:List (List V)} {o:Own} (e1:ev y [] a=some (.sl z' es .tight)) (e2:ev y [] b=some (.sl z xs o)) (h0:(Nat.beq z' z || es.isEmpty)=true) (hc:es.length+xs.length≤16777216) (h:offK y a fun y1=>demK n y1 b fun y2=>putK n y2 t (.sl z (es++xs) (tq xs)) k):WpO P n d (.app t z a b) y k:=by
  refine ⟨⟨_,_,xs,_,e1,e2,?_,?_,h⟩⟩
  · simp only [srcV,true_or,if_true]
  · simp only [appV]
    refine if_pos ⟨?_,hc⟩
    simp only [Bool.or_eq_true] at h0
    rcases h0 with h0 | h0
    · exact .inl (Nat.eq_of_beq_eq_true h0)
    · exact .inr h0
theorem wp_appS {t:Nat} {a b:A} {es:List (List V)} {x:ByteArray} (e1:ev y [] a=some (.sl 1 es .uniq)) (e2:ev y [] b=some (.str x)) (hc:es.length+x.size≤16777216) (h:offK y a fun y1=>putK n y1 t (.sl 1 (es++str8 x) .uniq) k):WpO P n d (.app t 1 a b) y k:=by
  have hl:(str8 x).length=x.size:=by unfold str8;rw [List.length_map];rfl
  refine ⟨⟨_,_,str8 x,.sl 1 (es++str8 x) .uniq,e1,e2,?_,?_,?_⟩⟩
  · simp only [srcV,if_true]
  · simp only [appV];exact if_pos ⟨trivial,by rw [hl];exact hc⟩
  · have hb:∀ y1:Ys,(∃ v,ev y1 [] b=some v∧v.uq=false)→putK n y1 t (.sl 1 (es++str8 x) .uniq) k→demK n y1 b fun y2=>putK n y2 t (.sl 1 (es++str8 x) .uniq) k:=fun y1 ⟨v,e,hv⟩ hh=>dem_K e hv hh
    cases b with
    | c v =>
      have:∀ y1:Ys,∀ K:Ys→Prop,demK n y1 (.c v) K=K y1:=fun _ _=>rfl
      simp only [this]
      exact h
    | t m =>
      cases a with
      | c v=>exact hb y ⟨_,e2,rfl⟩ h
      | t q =>
        simp only [offK] at h ⊢
        rw [e1] at h ⊢
        simp only at h ⊢
        unfold delK at h ⊢
        simp only at h ⊢
        split at h
        · rename_i hnm
          rw [delC_eq] at h ⊢
          refine hb _ ?_ h
          simp only [ev,yget_ydel]
          by_cases hmq:m=q
          · rw [if_pos hmq];exact ⟨_,rfl,rfl⟩
          · rw [if_neg hmq]
            exact ⟨_,e2,rfl⟩
        · exact h.elim
end Go.Den
namespace Go.Den
variable {P:Nat→Option Fun} {n d:Nat} {y:Ys} {s:St} {k:Ys→Prop}
theorem wp_ldpx {t i off z:Nat} {sz:Option Nat} {a:A} {q:Key} {g:Frm} {es:List (List V)} (e1:ev y [] a=some (.ptr q i off)) (hf:y.f=upd g q (.cells z es)) (hd:q.1≠d)
    (h:nthC es i fun e=>dropC e off fun c=>(c.take (sz.getD 1)).all V.still=true∧tkC (sz.getD 1) c fun cs=>aggC sz cs fun v=>putK n y t v k):WpO P n d (.ldp t sz a) y k:=by
  obtain ⟨e,h1,h2⟩:=nthC_ok h
  rw [dropC_eq] at h2
  obtain ⟨hu,h2⟩:=h2
  obtain ⟨h3,h4⟩:=tkC_ok h2
  have hat:y.mem.at d (.ptr q i off)=some (e.drop off):=by
    have hg:y.mem.get d q=some (.cells z es):=by simp only [St.get,if_neg hd,Ys.mem,hf,upd,if_true]
    simp only [St.at,hg,h1,Option.map_some]
  have key:∀ v,ldP d y.mem (.ptr q i off) sz=some v→putK n y t v k→wpO P n d (.ldp t sz a) y k:=fun v hv hk=>⟨v,by simp only [pv,ev1,e1];exact hv,hk⟩
  refine ⟨?_⟩
  cases sz with
  | none =>
    cases hc:e.drop off with
    | nil=>rw [hc] at h3;exact absurd h3 (by simp)
    | cons v c =>
      rw [hc] at h4 hu
      refine key v.sh ?_ h4
      unfold ldP
      rw [hat,hc]
      simp only [bnd_some]
      rw [if_pos]
      simpa using hu
  | some m =>
    refine key _ ?_ h4
    unfold ldP
    rw [hat]
    simp only [bnd_some]
    exact if_pos ⟨h3,hu⟩
theorem wp_slcSm {t z:Nat} {x a b:A} {es:List (List V)} {o:Own} {j:Int} (e1:ev y [] x=some (.sl z es o)) (e2:ev y [] a=some (.int .i64 j)) (e3:ev y [] b=some (.int .i64 j)) (hc:0≤j∧j≤es.length) (h:demK n y x fun y1=>putK n y1 t (.sl z (es.take j.toNat) .tight) k):WpO P n d (.slc t z false x none (some a) (some b)) y k:=⟨_,by
  have h1:j.toNat≤es.length:=by omega
  simp only [yslc,ev1,evO,e1,e2,e3,slcV,true_or,if_true,bndV,if_pos hc.1]
  exact if_pos ⟨Nat.zero_le _,h1,trivial,rfl⟩,h⟩
theorem reads_of {f:Nat} {args:List V} {g:Frm} {Φ:V→Prop} (h:∃ v fs w,D P f d args g=some (v,fs,w)∧(fs=g∧w=false∧Φ v)):Reads P f d args g Φ:=by
  obtain ⟨v,fs,w,h1,rfl,rfl,h2⟩:=h
  exact ⟨v,h1,h2⟩
theorem acts_of {f:Nat} {args:List V} {g:Frm} {q:Key} {o:Obj} {Φ:V→Obj→Prop} (h:∃ v fs w,D P f d args (upd g q o)=some (v,fs,w)∧∃ o',fs=upd g q o'∧(w=false→o'=o)∧Φ v o'):Acts P f d args g q o Φ:=by
  obtain ⟨v,fs,w,h1,o',rfl,h2,h3⟩:=h
  exact ⟨v,o',w,h1,h2,h3⟩
end Go.Den
namespace Go.Den
variable {P:Nat→Option Fun} {n d:Nat} {y:Ys} {s:St} {k:Ys→Prop}
theorem r_b {one:Bool} {nt m z t u:Nat} {cs:List V} {k:V→Ys→Prop} (hn:Nat.blt m nt=true) (e:yget y.e m=some ([],.ptr (d,t,u) 0 0)) (el:alook y.l t u=some (.cells z [cs])) (hk:keysL cs=[]) (hu:hasUq cs=false) (h:updC y.l t u (fun _ k2=>k2 (.row z [] true)) fun l=>k (.box cs) ⟨y.e,l,y.f,y.w⟩):R1 d one nt y (.t m) k:=by
  obtain ⟨o,_,h1,rfl,h2⟩:=updC_ok (G:=fun _ e'=>e'=.row z [] true) (fun e k h=>⟨_,rfl,h⟩) h
  refine ⟨.box cs,⟨y.e,aset y.l t u (.row z [] true),y.f,y.w⟩,?_,rfl,rfl,h2⟩
  have hr':=yst_get (nt:=nt) (y:=y) (n:=m) (by simpa [Nat.blt_eq] using hn)
  simp only [yval,e] at hr'
  have hg:(yst nt y).get d (d,t,u)=some (.cells z [cs]):=by simp only [St.get,if_true,yst,el]
  simp only [res1,hr',resW,resV,if_true,and_self,hg,hk,hu]
  simp only [St.set,if_true,yst_l]
  rfl
theorem wp_buildU {t u z off:Nat} {zero:List V} {es:List (List V)} (e1:ev y [] (.t u)=some (.sl z es .uniq)) (h:putK n y u (.sl z es .sh) fun y1=>spliceC zero off [.sl z es .sh] fun cs=>putK n y1 t (.agg cs) k):WpO P n d (.build t zero [(off,1,.t u)]) y k:=by
  refine ⟨?_⟩
  intro s r
  have e:=r.ev0 e1
  simp only [A.ev] at e
  obtain ⟨y1,r1,k1⟩:=putK_ok (C:=low (D P)) r h
  obtain ⟨h2,h3⟩:=spliceC_ok k1 (by simp)
  obtain ⟨y2,r2,k2⟩:=putK_ok (C:=low (D P)) r1 h3
  refine ⟨_,y2,?_,r2,k2⟩
  have hf:(V.sl z es .uniq).sh.flat=some [.sl z es .sh]:=rfl
  simp only [step,partsB,A.ev,e,hf,bnd_some]
  rw [if_pos ⟨rfl,h2⟩]
  simp only [Option.map_some,St.dem,e]
theorem rshr {t:Nat} {a b:A} {i j:Int} {q q':IntKind} (e1:ev y [] a=some (.int q i)) (e2:ev y [] b=some (.int q' j)) (hj:0≤j) (h:putK n y t (.int q (i.fdiv (2 ^ min j.toNat q.bits))) k):WpO P n d (.bin t .shr a b) y k:=⟨_,by
  simp only [pv,ev2,ev1,e1,e2,binV,arS]
  exact if_neg (by omega),h⟩
theorem pldx {t i off z:Nat} {a:A} {q:Key} {g:Frm} {es:List (List V)} {e:List V} {v:V} {G:Gs} (e1:ev y G a=some (.ptr q i off)) (hf:y.f=upd g q (.cells z es)) (hd:q.1≠d) (he:es[i]?=some e) (hv:e[off]?=some v) (hs:v.still=true):pv d (.ld t none a) y G=some v.sh:=by
  have hg:y.mem.get d q=some (.cells z es):=by simp only [St.get,if_neg hd,Ys.mem,hf,upd,if_true]
  have hat:y.mem.at d (.ptr q i off)=some (e.drop off):=by simp only [St.at,hg,he,Option.map_some]
  have hc:∃ c,e.drop off=v::c:=by
    obtain ⟨hl,rfl⟩:=List.getElem?_eq_some_iff.mp hv
    exact ⟨_,List.drop_eq_getElem_cons hl⟩
  obtain ⟨c,hc⟩:=hc
  simp only [pv,ev1,e1]
  unfold ldP
  rw [hat,hc]
  simp only [bnd_some]
  exact if_pos hs
end Go.Den
