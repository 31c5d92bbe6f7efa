import Derived.Test.YtblkhnacgnlbdaaGreatDoorEY2
set_option linter.all false
namespace Go.Den
variable {P:Nat→Option Fun} {n d:Nat} {y:Ys} {s:St} {k:Ys→Prop}
def lbeq (t u a b:Nat):Bool:=Nat.beq t a && Nat.beq u b
theorem lbeq_iff {t u a b:Nat}:lbeq t u a b=true ↔ t=a∧u=b:=by
  simp only [lbeq,Bool.and_eq_true]
  exact ⟨fun h=>⟨Nat.eq_of_beq_eq_true h.1,Nat.eq_of_beq_eq_true h.2⟩,fun h=>by rw [h.1,h.2];exact ⟨Nat.beq_refl _,Nat.beq_refl _⟩⟩
theorem lbeq_f {t u a b:Nat} (h:lbeq t u a b=false):¬(t=a∧u=b):=fun hh=>by rw [lbeq_iff.mpr hh] at h;cases h
def absB:Loc→Nat→Nat→Bool
  | [],_,_=>true
  | (t,u,_)::r,a,b=>match lbeq t u a b with
    | true=>false
    | false=>absB r a b
theorem absB_ok:∀ {l:Loc} {a b:Nat},absB l a b=true→alook l a b=none
  | [],_,_,_=>rfl
  | (t,u,o)::r,a,b,h=>by
    simp only [absB] at h
    split at h
    · cases h
    · rename_i hc;simp only [alook];rw [if_neg (lbeq_f hc)];exact absB_ok h
def insC:Loc→Nat→Nat→Obj→(Loc→Prop)→Prop
  | [],a,b,p,k=>k [(a,b,p)]
  | (t,u,o)::r,a,b,p,k=>match Nat.blt a t || (Nat.beq a t && Nat.blt b u) with
    | true=>k ((a,b,p)::(t,u,o)::r)
    | false=>insC r a b p fun r'=>k ((t,u,o)::r')
theorem insC_eq:∀ (l:Loc) (a b:Nat) (p:Obj) (k:Loc→Prop),insC l a b p k=k (ains l a b p)
  | [],_,_,_,_=>rfl
  | (t,u,o)::r,a,b,p,k=>by
    have hc:(Nat.blt a t || (Nat.beq a t && Nat.blt b u))=decide (a < t∨(a=t∧b < u)):=by
      rw [Bool.eq_iff_iff]
      simp [Nat.blt_eq]
    simp only [insC,ains,hc]
    by_cases h:a < t∨(a=t∧b < u)
    · simp only [h,decide_true,if_true]
    · simp only [h,decide_false,if_false];exact insC_eq r a b p _
def addC (l:Loc) (t u:Nat) (o:Obj) (k:Loc→Prop):Prop:=
  match absB l t u with
  | true=>insC l t u o k
  | false=>False
def Ys.setl (y:Ys) (l:Loc):Ys:=⟨y.e,l,y.f,y.w⟩
theorem addC_ok {l:Loc} {t u:Nat} {o:Obj} {k:Loc→Prop} (h:addC l t u o k):alook l t u=none∧k (ains l t u o):=by
  unfold addC at h
  split at h
  · rename_i hc;rw [insC_eq] at h;exact ⟨absB_ok hc,h⟩
  · exact h.elim
theorem Yr.setl (h:Yr n y s) (l:Loc):Yr n ⟨y.e,l,y.f,y.w⟩ { s with l:=l }:=⟨h.len,rfl,h.f,h.w,fun m=>h.slot m,h.lt,h.wf⟩
theorem add_of {t u:Nat} {o:Obj} {K:Loc→Prop} (h:Yr n y s) (ha:addC y.l t u o K):s.add t u o=some { s with l:=ains y.l t u o }∧K (ains y.l t u o):=by
  obtain ⟨h1,h2⟩:=addC_ok ha
  refine ⟨?_,h2⟩
  unfold St.add
  rw [h.l,h1]
theorem wp_new {t:Nat} {zero:List V} (h:addC y.l t 0 (.cells zero.length [zero]) fun l=>putK n ⟨y.e,l,y.f,y.w⟩ t (.ptr (d,t,0) 0 0) k):WpO P n d (.new t zero) y k:=by
  refine ⟨?_⟩
  intro s r
  obtain ⟨h1,h2⟩:=add_of r h
  obtain ⟨y1,r1,k1⟩:=putK_ok (C:=low (D P)) (r.setl _) h2
  exact ⟨_,y1,by simp only [step,h1,Option.map_some],r1,k1⟩
theorem wp_box {t:Nat} {a:A} {v:V} {cs:List V} (e1:ev y [] a=some v) (e2:v.sh.flat=some cs) (h:demK n y a fun y0=>addC y0.l t 0 (.cells cs.length [cs]) fun l=>putK n ⟨y0.e,l,y0.f,y0.w⟩ t (.ptr (d,t,0) 0 0) k):WpO P n d (.box t a) y k:=by
  refine ⟨?_⟩
  intro s r
  obtain ⟨y0,r0,k0⟩:=demK_ok (C:=low (D P)) r h
  obtain ⟨h1,h2⟩:=add_of r0 k0
  obtain ⟨y1,r1,k1⟩:=putK_ok (C:=low (D P)) (r0.setl _) h2
  exact ⟨_,y1,by simp only [step,r.ev0 e1,e2,bnd_some,h1,Option.map_some],r1,k1⟩
def rsetC:List V→Nat→V→(List V→Prop)→Prop
  | [],_,_,_=>False
  | _::r,0,v,k=>k (v::r)
  | a::r,n+1,v,k=>rsetC r n v fun r'=>k (a::r')
theorem rsetC_ok:∀ {e:List V} {i:Nat} {v:V} {k:List V→Prop},rsetC e i v k→i < e.length∧k (rset e i v)
  | [],_,_,_,h=>h.elim
  | _::r,0,v,k,h=>⟨by simp,h⟩
  | a::r,i+1,v,k,h=>by
    obtain ⟨h1,h2⟩:=rsetC_ok (e:=r) h
    exact ⟨by simp;omega,h2⟩
def spliceC (e:List V) (off:Nat):List V→(List V→Prop)→Prop
  | [],k=>k e
  | v::r,k=>rsetC e off v fun e'=>spliceC e' (off+1) r k
theorem spliceC_ok:∀ {cs e:List V} {off:Nat} {k:List V→Prop},spliceC e off cs k→cs≠[]→off+cs.length≤e.length∧k (splice e off cs)
  | [],_,_,_,_,h=>absurd rfl h
  | [v],e,off,k,h,_=>by
    obtain ⟨h1,h2⟩:=rsetC_ok h
    exact ⟨by simp;omega,h2⟩
  | v::w::r,e,off,k,h,_=>by
    obtain ⟨h1,h2⟩:=rsetC_ok h
    obtain ⟨h3,h4⟩:=spliceC_ok (cs:=w::r) h2 (by simp)
    refine ⟨?_,h4⟩
    rw [rset_length] at h3
    simp at h3 ⊢
    omega
def eltC:List (List V)→Nat→(List V→(List V→Prop)→Prop)→(List (List V)→Prop)→Prop
  | [],_,_,_=>False
  | e::r,0,g,k=>g e fun e'=>k (e'::r)
  | e::r,n+1,g,k=>eltC r n g fun r'=>k (e::r')
theorem eltC_ok {g:List V→(List V→Prop)→Prop} {G:List V→List V→Prop} (hg:∀ e k,g e k→∃ e',G e e'∧k e'):∀ {es:List (List V)} {i:Nat} {k:List (List V)→Prop},eltC es i g k→∃ e e',es[i]?=some e∧G e e'∧k (es.set i e')
  | [],_,_,h=>h.elim
  | e::r,0,k,h=>by
    obtain ⟨e',h1,h2⟩:=hg _ _ h
    exact ⟨e,e',rfl,h1,h2⟩
  | e::r,i+1,k,h=>by
    obtain ⟨e0,e',h0,h1,h2⟩:=eltC_ok hg (es:=r) h
    exact ⟨e0,e',by simpa using h0,h1,h2⟩
def updC:Loc→Nat→Nat→(Obj→(Obj→Prop)→Prop)→(Loc→Prop)→Prop
  | [],_,_,_,_=>False
  | (t,u,o)::r,a,b,g,k=>match lbeq t u a b with
    | true=>g o fun o'=>k ((t,u,o')::r)
    | false=>updC r a b g fun r'=>k ((t,u,o)::r')
theorem updC_ok {g:Obj→(Obj→Prop)→Prop} {G:Obj→Obj→Prop} (hg:∀ e k,g e k→∃ e',G e e'∧k e'):∀ {l:Loc} {a b:Nat} {k:Loc→Prop},updC l a b g k→∃ o o',alook l a b=some o∧G o o'∧k (aset l a b o')
  | [],_,_,_,h=>h.elim
  | (t,u,o)::r,a,b,k,h=>by
    simp only [updC] at h
    split at h
    · rename_i hc
      obtain ⟨o',h1,h2⟩:=hg _ _ h
      have:=lbeq_iff.mp hc
      exact ⟨o,o',by simp only [alook];rw [if_pos this],h1,by simp only [aset];rw [if_pos this];exact h2⟩
    · rename_i hc
      obtain ⟨o0,o',h0,h1,h2⟩:=updC_ok hg (l:=r) h
      exact ⟨o0,o',by simp only [alook];rw [if_neg (lbeq_f hc)];exact h0,h1,by simp only [aset];rw [if_neg (lbeq_f hc)];exact h2⟩
def cellsC (i off:Nat) (cs:List V) (o:Obj) (k:Obj→Prop):Prop:=
  match o with
  | .cells z es=>eltC es i (fun e k2=>spliceC e off cs k2) fun es'=>k (.cells z es')
  | _=>False
theorem cellsC_ok {i off:Nat} {cs:List V} (hc:cs≠[]) (o:Obj) (k:Obj→Prop) (h:cellsC i off cs o k):∃ o',(∃ z es e,o=.cells z es∧es[i]?=some e∧off+cs.length≤e.length∧o'=.cells z (es.set i (splice e off cs)))∧k o':=by
  unfold cellsC at h
  split at h
  · rename_i z es
    obtain ⟨e,e',h1,h2,h3⟩:=eltC_ok (G:=fun e e'=>off+cs.length≤e.length∧e'=splice e off cs) (fun e k h=>⟨_,⟨(spliceC_ok h hc).1,rfl⟩,(spliceC_ok h hc).2⟩) h
    obtain ⟨h4,rfl⟩:=h2
    exact ⟨_,⟨z,es,e,rfl,h1,h4,rfl⟩,h3⟩
  · exact h.elim
theorem st_own {K:Loc→Prop} {t' u' i off:Nat} {cs:List V} (r:Yr n y s) (hc:cs≠[]) (hk:(keysL cs).all (fun x=>Nat.ble x.1 d)=true) (h:updC y.l t' u' (cellsC i off cs) K):∃ l',stV d s (.ptr (d,t',u') i off) cs=some { s with l:=l' }∧K l':=by
  obtain ⟨o,o',h1,⟨z,es,e,rfl,h2,h3,rfl⟩,h4⟩:=updC_ok (fun o k h=>cellsC_ok hc o k h) h
  refine ⟨_,?_,h4⟩
  have hg:s.get d (d,t',u')=some (.cells z es):=by simp only [St.get,if_true,r.l,h1]
  simp only [stV,hg,h2]
  rw [if_pos ⟨h3,by
    rw [List.all_eq_true] at hk ⊢
    intro x hx
    exact decide_eq_true (Nat.le_of_ble_eq_true (hk x hx))⟩]
  simp only [St.set,if_true,r.l]
theorem off_rel {b:A} {K:Ys→Prop} {l:Loc} {f:Frm} {w:Bool} (r:Yr n y s) (h:offK ⟨y.e,l,f,w⟩ b K):∃ y1,Yr n y1 { s.off b with l:=l,f:=f,w:=w }∧K y1:=by
  have r':Yr n ⟨y.e,l,f,w⟩ { s with l:=l,f:=f,w:=w }:=⟨r.len,rfl,rfl,rfl,fun m=>r.slot m,r.lt,r.wf⟩
  obtain ⟨y1,r1,k1⟩:=offK_ok r' h
  refine ⟨y1,?_,k1⟩
  have:({ s with l:=l,f:=f,w:=w }:St).off b={ s.off b with l:=l,f:=f,w:=w }:=by
    cases b with
    | c v=>rfl
    | t u=>simp only [St.off];split<;>rfl
  rw [this] at r1
  exact r1
theorem off_mem (s:St) (b:A):(s.off b).l=s.l∧(s.off b).f=s.f∧(s.off b).w=s.w:=by
  cases b with
  | c v=>exact ⟨rfl,rfl,rfl⟩
  | t u=>simp only [St.off];split<;>exact ⟨rfl,rfl,rfl⟩
theorem wp_st {a b:A} {v:V} {t' u' i off z0:Nat} {es0:List (List V)} (e1:ev y [] a=some (.ptr (d,t',u') i off)) (_e0:alook y.l t' u'=some (.cells z0 es0)) (e2:ev y [] b=some v) (e3:v.one=true) (e4:(keysL [v]).all (fun x=>Nat.ble x.1 d)=true) (h:updC y.l t' u' (cellsC i off [v]) fun l=>offK ⟨y.e,l,y.f,y.w⟩ b k):WpO P n d (.st none a b) y k:=by
  refine ⟨?_⟩
  intro s r
  obtain ⟨l',h1,h2⟩:=st_own r (by simp) e4 h
  obtain ⟨y1,r1,k1⟩:=off_rel r h2
  refine ⟨_,y1,?_,r1,k1⟩
  simp only [step,r.ev0 e1,r.ev0 e2,e3,if_true]
  obtain ⟨m1,m2,m3⟩:=off_mem s b
  have:=stV_mem h1 (s.off b) m1 m2 m3
  rw [this,← r.f,← r.w]
theorem wp_stm {a b:A} {m:Nat} {cs:List V} {t' u' i off z0:Nat} {es0:List (List V)} (e1:ev y [] a=some (.ptr (d,t',u') i off)) (_e0:alook y.l t' u'=some (.cells z0 es0)) (e2:ev y [] b=some (.agg cs)) (e0:Nat.beq cs.length m=true) (e3:cs.all V.one=true) (e5:cs.isEmpty=false) (e4:(keysL cs).all (fun x=>Nat.ble x.1 d)=true) (h:updC y.l t' u' (cellsC i off cs) fun l=>k ⟨y.e,l,y.f,y.w⟩):WpO P n d (.st (some m) a b) y k:=by
  refine ⟨?_⟩
  intro s r
  obtain ⟨l',h1,h2⟩:=st_own r (by rintro rfl;cases e5) e4 h
  refine ⟨_,_,?_,r.setl l',h2⟩
  simp only [step,r.ev0 e1,r.ev0 e2]
  rw [if_pos ⟨Nat.eq_of_beq_eq_true e0,e3⟩]
  exact h1
theorem st_out {K:List (List V)→Prop} {q:Key} {i off z:Nat} {es:List (List V)} {cs:List V} {g:Frm} (r:Yr n y s) (hc:cs≠[]) (hd:q.1≠d) (hf:y.f=upd g q (.cells z es)) (hk:(keysL cs).all (fun x=>Nat.ble x.1 q.1)=true) (h:eltC es i (fun e k2=>spliceC e off cs k2) K):∃ es',stV d s (.ptr q i off) cs=some { s with f:=upd g q (.cells z es'),w:=true }∧K es':=by
  obtain ⟨e,e',h1,h2,h3⟩:=eltC_ok (G:=fun e e'=>off+cs.length≤e.length∧e'=splice e off cs) (fun e k h=>⟨_,⟨(spliceC_ok h hc).1,rfl⟩,(spliceC_ok h hc).2⟩) h
  obtain ⟨h4,rfl⟩:=h2
  refine ⟨_,?_,h3⟩
  have hg:s.get d q=some (.cells z es):=by simp only [St.get,if_neg hd,r.f,hf,upd,if_true]
  simp only [stV,hg,h1]
  rw [if_pos ⟨h4,by
    rw [List.all_eq_true] at hk ⊢
    intro x hx
    exact decide_eq_true (Nat.le_of_ble_eq_true (hk x hx))⟩]
  have:upd s.f q (.cells z (es.set i (splice e off cs)))=upd g q (.cells z (es.set i (splice e off cs))):=by
    rw [r.f,hf];funext x;simp only [upd];split<;>rfl
  simp only [St.set,if_neg hd,this]
theorem wp_sto {a b:A} {v:V} {q:Key} {i off z:Nat} {es:List (List V)} {g:Frm} (e1:ev y [] a=some (.ptr q i off)) (e2:ev y [] b=some v) (e3:v.one=true) (hf:y.f=upd g q (.cells z es)) (hd:q.1≠d) (e4:(keysL [v]).all (fun x=>Nat.ble x.1 q.1)=true) (h:eltC es i (fun e k2=>spliceC e off [v] k2) fun es'=>offK ⟨y.e,y.l,upd g q (.cells z es'),true⟩ b k):WpO P n d (.st none a b) y k:=by
  refine ⟨?_⟩
  intro s r
  obtain ⟨l',h1,h2⟩:=st_out r (by simp) hd hf e4 h
  obtain ⟨y1,r1,k1⟩:=off_rel r h2
  refine ⟨_,y1,?_,r1,k1⟩
  simp only [step,r.ev0 e1,r.ev0 e2,e3,if_true]
  obtain ⟨m1,m2,m3⟩:=off_mem s b
  have:=stV_mem h1 (s.off b) m1 m2 m3
  rw [this,← r.l]
theorem wp_stmo {a b:A} {m:Nat} {cs:List V} {q:Key} {i off z:Nat} {es:List (List V)} {g:Frm} (e1:ev y [] a=some (.ptr q i off)) (e2:ev y [] b=some (.agg cs)) (e0:Nat.beq cs.length m=true) (e3:cs.all V.one=true) (e5:cs.isEmpty=false) (hf:y.f=upd g q (.cells z es)) (hd:q.1≠d) (e4:(keysL cs).all (fun x=>Nat.ble x.1 q.1)=true) (h:eltC es i (fun e k2=>spliceC e off cs k2) fun es'=>k ⟨y.e,y.l,upd g q (.cells z es'),true⟩):WpO P n d (.st (some m) a b) y k:=by
  refine ⟨?_⟩
  intro s r
  obtain ⟨l',h1,h2⟩:=st_out r (by rintro rfl;cases e5) hd hf e4 h
  refine ⟨{ s with f:=upd g q (.cells z l'),w:=true },⟨y.e,y.l,upd g q (.cells z l'),true⟩,?_,⟨r.len,r.l,rfl,rfl,fun m=>r.slot m,r.lt,r.wf⟩,h2⟩
  simp only [step,r.ev0 e1,r.ev0 e2]
  rw [if_pos ⟨Nat.eq_of_beq_eq_true e0,e3⟩]
  exact h1
theorem wp_mkf {t f:Nat} {first caps:List A} {fs cs:List V} (e1:evL y [] first=some fs) (e2:evL y [] caps=some cs) (e3:fs.any V.uq=false) (e4:cs.any V.uq=false) (h:putK n y t (.fn f fs cs) k):WpO P n d (.mkf t f first caps) y k:=by
  refine ⟨?_⟩
  intro s r
  obtain ⟨y1,r1,k1⟩:=putK_ok (C:=low (D P)) r h
  refine ⟨_,y1,?_,r1,k1⟩
  have a1:=r.evL (G:=[]) trivial trivial e1
  have a2:=r.evL (G:=[]) trivial trivial e2
  have b1:(first.all fun y=>!(y.ev s.r).uq)=true:=by
    rw [List.all_eq_true]
    intro x hx
    rw [List.any_eq_false] at e3
    have:=e3 (x.ev s.r) (by rw [← a1];exact List.mem_map_of_mem (f:=fun z=>A.ev s.r z) hx)
    simpa using this
  have b2:(caps.all fun y=>!(y.ev s.r).uq)=true:=by
    rw [List.all_eq_true]
    intro x hx
    rw [List.any_eq_false] at e4
    have:=e4 (x.ev s.r) (by rw [← a2];exact List.mem_map_of_mem (f:=fun z=>A.ev s.r z) hx)
    simpa using this
  simp only [step,b1,b2,Bool.and_self,if_true,a1,a2]
def yBC (y:Ys):List (Nat × Nat × A)→List V→(List V→Prop)→Prop
  | [],cs,k=>k cs
  | (off,n,a)::r,cs,k=>match ev y [] a with
    | some x=>match x.uq with
      | true=>False
      | false=>shC x fun x'=>match x'.flat with
        | some (v::xs)=>match Nat.beq (v::xs).length n with
          | true=>spliceC cs off (v::xs) fun cs'=>yBC y r cs' k
          | false=>False
        | _=>False
    | none=>False
theorem yBC_ok:∀ {ps:List (Nat × Nat × A)} {cs:List V} {k:List V→Prop},yBC y ps cs k→∃ cs',yB y ps cs=some cs'∧k cs'
  | [],cs,k,h=>⟨cs,rfl,h⟩
  | (off,n,a)::r,cs,k,h=>by
    simp only [yBC] at h
    split at h
    · rename_i x hx
      split at h
      · exact h.elim
      · rename_i hu
        rw [shC_eq] at h
        split at h
        · rename_i v xs hf
          split at h
          · rename_i hl
            obtain ⟨h1,h2⟩:=spliceC_ok h (by simp)
            obtain ⟨cs',h3,h4⟩:=yBC_ok h2
            refine ⟨cs',?_,h4⟩
            have e:=Nat.eq_of_beq_eq_true hl
            have hb:(Nat.beq (v::xs).length n && Nat.ble (off+n) cs.length)=true:=by
              rw [hl,Bool.true_and]
              exact Nat.ble_eq_true_of_le (by rw [← e];exact h1)
            simp only [yB,hx,hu,cond_false,hf,hb,cond_true]
            exact h3
          · exact h.elim
        · exact h.elim
    · exact h.elim
theorem wp_build {t:Nat} {zero:List V} {ps:List (Nat × Nat × A)} (h:yBC y ps zero fun cs=>putK n y t (.agg cs) k):WpO P n d (.build t zero ps) y k:=by
  obtain ⟨cs,e1,e2⟩:=yBC_ok h
  refine ⟨?_⟩
  intro s r
  obtain ⟨y1,r1,k1⟩:=putK_ok (C:=low (D P)) r e2
  exact ⟨_,y1,by simp only [step,yB_ok r e1,Option.map_some],r1,k1⟩
def yLC (y:Ys) (z:Nat):List (Nat × A)→List (List V)→(List (List V)→Prop)→Prop
  | [],es,k=>k es
  | (i,a)::r,es,k=>match ev y [] a with
    | some x=>match x.uq with
      | true=>False
      | false=>shC x fun x'=>match x'.flat with
        | some xs=>match Nat.beq xs.length z with
          | true=>eltC es i (fun _ k2=>k2 xs) fun es'=>yLC y z r es' k
          | false=>False
        | _=>False
    | none=>False
theorem yLC_ok {z:Nat}:∀ {ps:List (Nat × A)} {es:List (List V)} {k:List (List V)→Prop},yLC y z ps es k→∃ es',yL y z ps es=some es'∧k es'
  | [],es,k,h=>⟨es,rfl,h⟩
  | (i,a)::r,es,k,h=>by
    simp only [yLC] at h
    split at h
    · rename_i x hx
      split at h
      · exact h.elim
      · rename_i hu
        rw [shC_eq] at h
        split at h
        · rename_i xs hf
          split at h
          · rename_i hl
            obtain ⟨e,e',h1,rfl,h2⟩:=eltC_ok (G:=fun _ e'=>e'=xs) (fun e k h=>⟨xs,rfl,h⟩) h
            obtain ⟨es',h3,h4⟩:=yLC_ok h2
            refine ⟨es',?_,h4⟩
            have hi:i < es.length:=by
              rcases Nat.lt_or_ge i es.length with hh | hh
              · exact hh
              · rw [List.getElem?_eq_none hh] at h1;cases h1
            have hb:(Nat.beq e'.length z && Nat.blt i es.length)=true:=by
              rw [hl,Bool.true_and];simp [Nat.blt_eq,hi]
            simp only [yL,hx,hu,cond_false,hf,hb,cond_true]
            exact h3
          · exact h.elim
        · exact h.elim
    · exact h.elim
theorem wp_lit {t z m:Nat} {zero:List V} {ps:List (Nat × A)} (e0:zero.length=z) (h:yLC y z ps (List.replicate m zero) fun es=>es.all (·.all V.pure)=true∧putK n y t (.sl z es .uniq) k):WpO P n d (.lit t z m zero ps) y k:=by
  obtain ⟨es,h1,h2,h3⟩:=yLC_ok h
  refine ⟨?_⟩
  intro s r
  obtain ⟨y1,r1,k1⟩:=putK_ok (C:=low (D P)) r h3
  exact ⟨_,y1,by simp only [step,e0,if_true,yL_ok r h1,h2],r1,k1⟩
end Go.Den
namespace Go.Den
variable {P:Nat→Option Fun} {n d:Nat} {y:Ys} {s:St} {k:Ys→Prop} {X Z:Prop} {G:Gs}
theorem x {α:Type} {a:α} {q:α→Prop} (h:q a):∃ v,some a=some v∧q v:=⟨a,rfl,h⟩
theorem bs_eq {a b:ByteArray}:(a.toList == b.toList)=true ↔ a=b:=by
  rw [beq_iff_eq]
  constructor
  · intro h
    have h1:a.data.toList=b.data.toList:=by
      have t:∀ (b:ByteArray),b.toList=b.data.toList:=fun b=>ByteArray.toList_eq b
      rw [← t,← t];exact h
    exact str_eq h1
  · rintro rfl;rfl
theorem bE {id:Nat} (h:X):(id=id→X)∧(id≠id→Z):=⟨fun _=>h,fun h=>(h rfl).elim⟩
theorem bO {i j:Nat} (e:Nat.beq i j=false) (h:Z):(i=j→X)∧(i≠j→Z):=⟨fun h=>(by subst h;rw [Nat.beq_refl] at e;exact absurd e (by decide)),fun _=>h⟩
class Bp (b:Bool) (p:outParam Prop):Prop where
  iff:b=true ↔ p
instance bpD {p:Prop} [Decidable p]:Bp (decide p) p:=⟨by simp⟩
instance bpE {a b:Int}:Bp (a == b) (a=b):=⟨by simp⟩
instance bpN {a b:Int}:Bp (a != b) (a≠b):=⟨by simp⟩
instance bpS {a b:ByteArray}:Bp (a.toList == b.toList) (a=b):=⟨bs_eq⟩
instance bpSn {a b:ByteArray}:Bp (a.toList != b.toList) (a≠b):=⟨by rw [bne,Bool.not_eq_true',← Bool.not_eq_true];exact not_congr bs_eq⟩
instance bpO {a b:Bool} {p q:Prop} [h:Bp a p] [k:Bp b q]:Bp (bif a then true else b) (p∨q):=⟨by rw [← h.iff,← k.iff];cases a<;>simp⟩
instance bpA {a b:Bool} {p q:Prop} [h:Bp a p] [k:Bp b q]:Bp (bif a then b else false) (p∧q):=⟨by rw [← h.iff,← k.iff];cases a<;>simp⟩
instance bpX {a b:Bool} {p q:Prop} [h:Bp a p] [k:Bp b q]:Bp (a != b) (¬(p ↔ q)):=⟨by rw [← h.iff,← k.iff];cases a<;>cases b<;>simp⟩
instance bpQ {a b:Bool} {p q:Prop} [h:Bp a p] [k:Bp b q]:Bp (a == b) (p ↔ q):=⟨by rw [← h.iff,← k.iff];cases a<;>cases b<;>simp⟩
instance bpY {a:Bool} {p:Prop} [h:Bp a p]:Bp (!a) (¬p):=⟨by rw [← h.iff];cases a<;>simp⟩
instance bpT:Bp true True:=⟨by simp⟩
instance bpF:Bp false False:=⟨by simp⟩
instance (priority:=low) bpV {b:Bool}:Bp b (b=true):=⟨Iff.rfl⟩
theorem cP {b:Bool} {p:Prop} [h:Bp b p] (h1:p→X) (h2:¬p→Z):(b=true→X)∧(b=false→Z):=⟨fun e=>h1 (h.iff.mp e),fun e=>h2 (fun q=>by rw [h.iff.mpr q] at e;cases e)⟩
theorem pq {t:Nat} {a b:A} {q:IntKind} {i j:Int} (e1:ev y G a=some (.int q i)) (e2:ev y G b=some (.int q j)) (hb:¬j=0):pv d (.bin t .quo a b) y G=some (.int q (q.wrap (i.tdiv j))):=by
  simp only [pv,ev2,ev1,e1,e2]
  cases q<;>exact if_neg hb
theorem pr {t:Nat} {a b:A} {q:IntKind} {i j:Int} (e1:ev y G a=some (.int q i)) (e2:ev y G b=some (.int q j)) (hb:¬j=0):pv d (.bin t .rem a b) y G=some (.int q (i.tmod j)):=by
  simp only [pv,ev2,ev1,e1,e2]
  cases q<;>exact if_neg hb
theorem px {t m:Nat} {a b:A} {cs:List V} {q:IntKind} {i:Int} {v:V} (e1:ev y G a=some (.agg cs)) (e2:ev y G b=some (.int q i)) (hc:0≤i∧i < m) (hv:cs[i.toNat]?=some v):pv d (.ixa t m 1 false a b) y G=some v:=by
  simp only [pv,ev2,ev1,e1,e2]
  rw [if_pos hc]
  simpa using hv
theorem rk {ts:List Nat} (h:wpO P n d (.kill ts) y k):WpO P n d (.kill ts) y k:=⟨h⟩
theorem rv {t u:Nat} (h:wpO P n d (.mv t u) y k):WpO P n d (.mv t u) y k:=⟨h⟩
theorem ro {t u:Nat} (h:wpO P n d (.mvs t u) y k):WpO P n d (.mvs t u) y k:=⟨h⟩
theorem kT {c:Den.A} (e:ev y [] c=some (.bool true)) (h:X):WpK y c X Z:=⟨true,e,fun _=>h,fun e=>(nomatch e)⟩
theorem kF {c:Den.A} (e:ev y [] c=some (.bool false)) (h:Z):WpK y c X Z:=⟨false,e,fun e=>(nomatch e),fun _=>h⟩
theorem kP {c:Den.A} {b:Bool} {p:Prop} [i:Bp b p] (e:ev y [] c=some (.bool b)) (h1:p→X) (h2:¬p→Z):WpK y c X Z:=⟨b,e,cP h1 h2⟩
theorem rg {t u:Nat} {want b:Bool} {gs:Gs} {o:O} {v:V} (eg:yget y.e t=some (gs,.bool b)) (h1:b=want∧GH y gs→pvr P d o y ((t,want)::gs) v) (h2:dstC o=u) (h:putG n y u ((t,want)::gs) v k):WpO P n d (.g t want u o) y k:=⟨by
  unfold wpO
  simp only [eg]
  exact ⟨v,h1,h2,h⟩⟩
theorem rgu {t u:Nat} {want:Bool} {o:O} (eg:yget y.e t=some ([],.tup [])) (h:putK n y u (.tup []) k):WpO P n d (.g t want u o) y k:=⟨by
  unfold wpO
  simp only [eg]
  exact h⟩
theorem rgc {t u t' f:Nat} {want c raw:Bool} {gs:Gs} {fv:Den.A} {xs:List Den.A} {a b vs:List V} {Φ:V→Prop} (eg:yget y.e t=some (gs,.bool c)) (hL:∃ v,Val P f (a++vs.map V.sh++b) v∧Φ v) (e1:ev y ((t,want)::gs) fv=some (.fn f a b)) (e2:evL y ((t,want)::gs) xs=some vs) (e3:vs.all plainV=true) (e4:(keysL (a++vs.map V.sh++b)).isEmpty=true) (hD:t'=u) (h:∀ v,Φ v→∃ v',recvP v=some v'∧putG n y u ((t,want)::gs) v' k) :
    WpO P n d (.g t want u (.call (some t') raw false fv xs)) y k:=by
  obtain ⟨v,hv,hΦ⟩:=hL
  obtain ⟨v',h1,h2⟩:=h v hΦ
  exact rg eg (fun _=>⟨f,a,b,vs,v,e1,e2,e3,e4,hv,h1⟩) hD h2
theorem wr {a:Int} (h:-9223372036854775808≤a∧a < 9223372036854775808):IntKind.i64.wrap a=a:=by
  have e:IntKind.i64.wrap a=if (decide (a % 18446744073709551616 ≥ 9223372036854775808))=true then a % 18446744073709551616 - 18446744073709551616 else a % 18446744073709551616:=rfl
  rw [e]
  split
  · rename_i hc;have:=of_decide_eq_true hc;omega
  · rename_i hc;have:¬ _:=fun hh=>hc (decide_eq_true hh);omega
theorem gadd {a b:Int} (hb:-9223372036854775808≤a+b∧a+b < 9223372036854775808):binV .add (.int .i64 a) (.int .i64 b)=some (.int .i64 (a+b)):=by show some (V.int .i64 (IntKind.i64.wrap (a+b)))=_;rw [wr hb]
theorem gsub {a b:Int} (hb:-9223372036854775808≤a - b∧a - b < 9223372036854775808):binV .sub (.int .i64 a) (.int .i64 b)=some (.int .i64 (a - b)):=by show some (V.int .i64 (IntKind.i64.wrap (a - b)))=_;rw [wr hb]
theorem gsl1 {z:Nat} {b:ByteArray} {i:Int} (hc:0≤i∧i≤b.size):slcV z true (.str b) (some (.int .i64 i)) none none=some (.str (b.extract i.toNat b.size)):=by
  have h1:i.toNat≤b.size:=by omega
  simp only [slcV,bndV,if_pos hc.1]
  rw [if_pos ⟨h1,Nat.le_refl _⟩]
theorem gsl2 {z:Nat} {b:ByteArray} {i:Int} (hc:0≤i∧i≤b.size):slcV z true (.str b) none (some (.int .i64 i)) none=some (.str (b.extract 0 i.toNat)):=by
  have h1:i.toNat≤b.size:=by omega
  simp only [slcV,bndV,if_pos hc.1]
  rw [if_pos ⟨Nat.zero_le _,h1⟩]
theorem gsl3 {z:Nat} {b:ByteArray} {i j:Int} (hc:0≤i∧i≤j∧j≤b.size):slcV z true (.str b) (some (.int .i64 i)) (some (.int .i64 j)) none=some (.str (b.extract i.toNat j.toNat)):=by
  have h0:0≤j:=by omega
  have h1:i.toNat≤j.toNat:=by omega
  have h2:j.toNat≤b.size:=by omega
  simp only [slcV,bndV,if_pos hc.1,if_pos h0]
  rw [if_pos ⟨h1,h2⟩]
theorem pa {t:Nat} {a b:A} {i j:Int} (e1:ev y G a=some (.int .i64 i)) (e2:ev y G b=some (.int .i64 j)) (hb:-9223372036854775808≤i+j∧i+j < 9223372036854775808):pv d (.bin t .add a b) y G=some (.int .i64 (i+j)):=by simp only [pv,ev2,ev1,e1,e2];exact gadd hb
theorem ps {t:Nat} {a b:A} {i j:Int} (e1:ev y G a=some (.int .i64 i)) (e2:ev y G b=some (.int .i64 j)) (hb:-9223372036854775808≤i - j∧i - j < 9223372036854775808):pv d (.bin t .sub a b) y G=some (.int .i64 (i - j)):=by simp only [pv,ev2,ev1,e1,e2];exact gsub hb
theorem pm {t:Nat} {a b:A} {i j:Int} (e1:ev y G a=some (.int .i64 i)) (e2:ev y G b=some (.int .i64 j)) (hb:-9223372036854775808≤i*j∧i*j < 9223372036854775808):pv d (.bin t .mul a b) y G=some (.int .i64 (i*j)):=by
  simp only [pv,ev2,ev1,e1,e2]
  show some (V.int .i64 (IntKind.i64.wrap (i*j)))=_
  rw [wr hb]
theorem ps1 {t z:Nat} {x a:A} {b:ByteArray} {i:Int} (e1:ev y G x=some (.str b)) (e2:ev y G a=some (.int .i64 i)) (hc:0≤i∧i≤b.size):pv d (.slc t z true x (some a) none none) y G=some (.str (b.extract i.toNat b.size)):=by
  simp only [pv,ev1,evO,e1,e2,V.uq,cond_false];exact gsl1 hc
theorem ps2 {t z:Nat} {x a:A} {b:ByteArray} {i:Int} (e1:ev y G x=some (.str b)) (e2:ev y G a=some (.int .i64 i)) (hc:0≤i∧i≤b.size):pv d (.slc t z true x none (some a) none) y G=some (.str (b.extract 0 i.toNat)):=by
  simp only [pv,ev1,evO,e1,e2,V.uq,cond_false];exact gsl2 hc
theorem ps3 {t z:Nat} {x a c:A} {b:ByteArray} {i j:Int} (e1:ev y G x=some (.str b)) (e2:ev y G a=some (.int .i64 i)) (e3:ev y G c=some (.int .i64 j)) (hc:0≤i∧i≤j∧j≤b.size):pv d (.slc t z true x (some a) (some c) none) y G=some (.str (b.extract i.toNat j.toNat)):=by
  simp only [pv,ev1,evO,e1,e2,e3,V.uq,cond_false];exact gsl3 hc
theorem pi {t:Nat} {x a:A} {b:ByteArray} {q:IntKind} {i:Int} (e1:ev y G x=some (.str b)) (e2:ev y G a=some (.int q i)) (hc:0≤i∧i < b.size):pv d (.ixs t x a) y G=some (.int .u8 (b.get! i.toNat).toNat):=by
  simp only [pv,ev2,ev1,e1,e2];rw [if_pos hc]
theorem ys1 {z:Nat} {x a:A} {b:ByteArray} {i:Int} (e1:ev y [] x=some (.str b)) (e2:ev y [] a=some (.int .i64 i)) (hc:0≤i∧i≤b.size):yslc y z true x (some a) none none=some (.str (b.extract i.toNat b.size)):=by simp only [yslc,ev1,evO,e1,e2];exact gsl1 hc
theorem ys2 {z:Nat} {x a:A} {b:ByteArray} {i:Int} (e1:ev y [] x=some (.str b)) (e2:ev y [] a=some (.int .i64 i)) (hc:0≤i∧i≤b.size):yslc y z true x none (some a) none=some (.str (b.extract 0 i.toNat)):=by simp only [yslc,ev1,evO,e1,e2];exact gsl2 hc
theorem ys3 {z:Nat} {x a c:A} {b:ByteArray} {i j:Int} (e1:ev y [] x=some (.str b)) (e2:ev y [] a=some (.int .i64 i)) (e3:ev y [] c=some (.int .i64 j)) (hc:0≤i∧i≤j∧j≤b.size):yslc y z true x (some a) (some c) none=some (.str (b.extract i.toNat j.toNat)):=by simp only [yslc,ev1,evO,e1,e2,e3];exact gsl3 hc
theorem pb {t:Nat} {x:A} {b:ByteArray} (e1:ev y G x=some (.str b)) (hc:b.size≤16777216):pv d (.s2b t x) y G=some (.sl 1 (str8 b) .uniq):=by simp only [pv,ev1,e1];exact if_pos hc
theorem dem_str {x:Den.A} {b:ByteArray} {K:Ys→Prop} (e1:ev y [] x=some (.str b)) (h:K y):demK n y x K:=by
  cases x with
  | c v=>exact h
  | t u=>simp only [demK];rw [e1];exact h
theorem ra {t:Nat} {a b:Den.A} {i j:Int} (e1:ev y [] a=some (.int .i64 i)) (e2:ev y [] b=some (.int .i64 j)) (hb:-9223372036854775808≤i+j∧i+j < 9223372036854775808) (h:putK n y t (.int .i64 (i+j)) k):WpO P n d (.bin t .add a b) y k:=⟨_,pa e1 e2 hb,h⟩
theorem rs {t:Nat} {a b:Den.A} {i j:Int} (e1:ev y [] a=some (.int .i64 i)) (e2:ev y [] b=some (.int .i64 j)) (hb:-9223372036854775808≤i - j∧i - j < 9223372036854775808) (h:putK n y t (.int .i64 (i - j)) k):WpO P n d (.bin t .sub a b) y k:=⟨_,ps e1 e2 hb,h⟩
theorem rm {t:Nat} {a b:Den.A} {i j:Int} (e1:ev y [] a=some (.int .i64 i)) (e2:ev y [] b=some (.int .i64 j)) (hb:-9223372036854775808≤i*j∧i*j < 9223372036854775808) (h:putK n y t (.int .i64 (i*j)) k):WpO P n d (.bin t .mul a b) y k:=⟨_,pm e1 e2 hb,h⟩
theorem rq {t:Nat} {a b:Den.A} {q:IntKind} {i j:Int} (e1:ev y [] a=some (.int q i)) (e2:ev y [] b=some (.int q j)) (hb:¬j=0) (h:putK n y t (.int q (q.wrap (i.tdiv j))) k):WpO P n d (.bin t .quo a b) y k:=⟨_,pq e1 e2 hb,h⟩
theorem rr {t:Nat} {a b:Den.A} {q:IntKind} {i j:Int} (e1:ev y [] a=some (.int q i)) (e2:ev y [] b=some (.int q j)) (hb:¬j=0) (h:putK n y t (.int q (i.tmod j)) k):WpO P n d (.bin t .rem a b) y k:=⟨_,pr e1 e2 hb,h⟩
theorem r1 {t z:Nat} {x a:Den.A} {b:ByteArray} {i:Int} (e1:ev y [] x=some (.str b)) (e2:ev y [] a=some (.int .i64 i)) (hc:0≤i∧i≤b.size) (h:putK n y t (.str (b.extract i.toNat b.size)) k):WpO P n d (.slc t z true x (some a) none none) y k:=⟨_,ys1 e1 e2 hc,dem_str e1 h⟩
theorem r2 {t z:Nat} {x a:Den.A} {b:ByteArray} {i:Int} (e1:ev y [] x=some (.str b)) (e2:ev y [] a=some (.int .i64 i)) (hc:0≤i∧i≤b.size) (h:putK n y t (.str (b.extract 0 i.toNat)) k):WpO P n d (.slc t z true x none (some a) none) y k:=⟨_,ys2 e1 e2 hc,dem_str e1 h⟩
theorem r3 {t z:Nat} {x a c:Den.A} {b:ByteArray} {i j:Int} (e1:ev y [] x=some (.str b)) (e2:ev y [] a=some (.int .i64 i)) (e3:ev y [] c=some (.int .i64 j)) (hc:0≤i∧i≤j∧j≤b.size) (h:putK n y t (.str (b.extract i.toNat j.toNat)) k):WpO P n d (.slc t z true x (some a) (some c) none) y k:=⟨_,ys3 e1 e2 e3 hc,dem_str e1 h⟩
theorem ri {t:Nat} {x a:Den.A} {b:ByteArray} {q:IntKind} {i:Int} (e1:ev y [] x=some (.str b)) (e2:ev y [] a=some (.int q i)) (hc:0≤i∧i < b.size) (h:putK n y t (.int .u8 (b.get! i.toNat).toNat) k):WpO P n d (.ixs t x a) y k:=⟨_,pi e1 e2 hc,h⟩
theorem rb {t:Nat} {x:Den.A} {b:ByteArray} (e1:ev y [] x=some (.str b)) (hc:b.size≤16777216) (h:putK n y t (.sl 1 (str8 b) .uniq) k):WpO P n d (.s2b t x) y k:=⟨_,pb e1 hc,h⟩
theorem rx {t m:Nat} {a b:Den.A} {cs:List V} {q:IntKind} {i:Int} {v:V} (e1:ev y [] a=some (.agg cs)) (e2:ev y [] b=some (.int q i)) (hc:0≤i∧i < m) (hv:cs[i.toNat]?=some v) (h:putK n y t v k):WpO P n d (.ixa t m 1 false a b) y k:=⟨_,px e1 e2 hc hv,h⟩
theorem ext_size (b:ByteArray) (i j:Nat):(b.extract i j).size=min j b.size - i:=ByteArray.size_extract
end Go.Den
namespace Go.Den
variable {P:Nat→Option Fun}
def plV:V→Option V
  | .sl _ _ .uniq | .arr _ _ _ _ | .ptr _ _ _ | .agg _=>none
  | .sl z es _=>some (.sl z es .sh)
  | v=>match v.keys with
    | []=>some v
    | _=>none
def plL:List V→Option (List V)
  | []=>some []
  | v::r=>match plV v with
    | some v'=>match plL r with
      | some l=>some (v'::l)
      | none=>none
    | none=>none
theorem plV_ok {d:Nat} {own:Bool} {v v':V} (h:plV v=some v') (s:St):resV d own s v=some (v',s)∧v.uq=false:=by
  cases v with
  | sl z es o=>cases o<;>first | (cases h;done) | (cases h;exact ⟨rfl,rfl⟩)
  | arr k z lo n=>cases h
  | ptr k i off=>cases h
  | agg cs=>cases h
  | _ =>
    simp only [plV] at h
    split at h
    · rename_i hk;cases h;refine ⟨?_,rfl⟩;simp [resV,hk]
    · cases h
theorem plL_ok {d:Nat} {own:Bool}:∀ {cs l:List V} (s:St),plL cs=some l→resL d own cs s=some (l,s)
  | [],l,s,h=>by cases h;rfl
  | v::r,l,s,h=>by
    simp only [plL] at h
    split at h
    · rename_i v' hv
      split at h
      · rename_i l' hl
        cases h
        simp only [resL,(plV_ok hv s).1,plL_ok s hl,Option.map_some]
      · cases h
    · cases h
def resE (one:Bool) (v:V):Option V:=
  match v with
  | .agg cs=>match plL cs with
    | some l=>match one || !(l.any V.isBox) with
      | true=>some (.agg l)
      | false=>none
    | none=>none
  | v=>plV v
theorem resE_ok {d:Nat} {one:Bool} {v v':V} (h:resE one v=some v') (s:St):resW d one s v=some (v',s)∧v.uq=false∧(∀ k z lo n,v≠.arr k z lo n):=by
  unfold resE at h
  split at h
  · rename_i cs
    split at h
    · rename_i l hl
      split at h
      · rename_i hb
        cases h
        refine ⟨?_,rfl,nofun⟩
        simp only [resW,resG,plL_ok s hl,hb,if_true]
      · cases h
    · cases h
  · rename_i hn
    obtain ⟨h1,h2⟩:=plV_ok (d:=d) (own:=one) h s
    refine ⟨?_,h2,?_⟩
    · cases v<;>first | exact h1 | exact (hn _ rfl).elim
    · rintro k z lo n rfl;cases h
theorem yst_get {nt:Nat} {y:Ys} {n:Nat} (h:n < nt):rget (yst nt y).r n=yval y n:=by
  have:=ytab_get y nt 0 n h
  simpa [yst] using this
theorem yst_del (nt:Nat) (y:Ys) (n:Nat):(yst nt y).put n .dead=yst nt { y with e:=ydel y.e n }:=by
  have:rset (ytab y nt 0) n .dead=ytab { y with e:=ydel y.e n } nt 0:=r_ext (by rw [rset_length,ytab_len,ytab_len]) fun t ht=>by
    rw [rset_length,ytab_len] at ht
    rw [rget_rset,ytab_get _ nt 0 t ht,ytab_get _ nt 0 t ht,ytab_len]
    simp only [Nat.zero_add,yval,yget_ydel]
    by_cases h:t=n
    · subst h;simp [ht]
    · simp [h]
  simp only [St.put,yst,this]
end Go.Den
