import Derived.Test.YtblkhnacgnlbdaaGreatDoorES4
set_option linter.all false
namespace Go.Den
variable {P:Program} {op:Oper} {d t:Nat} {s:St}
structure Pre (w:World)(g:G)(d:Nat)(fs:Frm):Prop where
  objs:∀ k o,fs k=some o→ObjR w g k o
  live:∀ k,g.A k≠none→fs k≠none
  dom:∀ k o,fs k=some o→k.1 < d
  lev:∀ k o,fs k=some o→∀ q ∈ o.keys,q.1≤k.1
structure After (w:World)(g:G)(w':World)(g':G)(d:Nat)(v:V)(x:Value)(fs fs':Frm)(wr:Bool):Prop where
  res:RTR w' g' v x
  objs:∀ k o,fs' k=some o→ObjR w' g' k o
  live:∀ k,g'.A k≠none→fs' k≠none
  dom:∀ k o,fs' k=some o→k.1 < d
  lev:∀ k o,fs' k=some o→∀ q ∈ o.keys,q.1≤k.1
  fr:Fr w g w' g' d
  same:wr=false→fs'=fs
mutual
theorem R_keys {w:World}{g:G}:∀ (v:V)(x:Value),R w g v x→∀ q ∈ v.keys,∃ a,g.A q=some a
  | .agg cs,x,h,q,hq=>by
    simp only [R] at h;simp only [V.keys] at hq
    obtain ⟨xs,_,hr⟩:=h;exact RL_keys cs _ hr q hq
  | .tup cs,x,h,q,hq=>by
    simp only [R] at h;simp only [V.keys] at hq
    obtain ⟨xs,_,hr⟩:=h;exact RL_keys cs _ hr q hq
  | .ptr k i off,x,h,q,hq=>by
    simp only [R] at h;simp only [V.keys,List.mem_singleton] at hq
    subst hq;obtain ⟨b,z,h,_⟩:=h;exact ⟨_,h⟩
  | .arr k z lo n,x,h,q,hq=>by
    simp only [R] at h;simp only [V.keys,List.mem_singleton] at hq
    subst hq;obtain ⟨b,_,_,h,_⟩:=h;exact ⟨_,h⟩
  | .map k,x,h,q,hq=>by
    simp only [R] at h;simp only [V.keys,List.mem_singleton] at hq
    subst hq;obtain ⟨b,h,_⟩:=h;exact ⟨_,h⟩
  | .fn f a b,x,h,q,hq=>by
    simp only [R] at h;simp only [V.keys,List.mem_append] at hq
    obtain ⟨xs,ys,_,h1,h2⟩:=h
    rcases hq with hq | hq
    · exact RL_keys a _ h1 q hq
    · exact RL_keys b _ h2 q hq
  | .box cs,x,h,_,_=>by simp only [R] at h
  | .dead,_,_,_,hq=>by simp [V.keys] at hq
  | .bool _,_,_,_,hq=>by simp [V.keys] at hq
  | .int _ _,_,_,_,hq=>by simp [V.keys] at hq
  | .str _,_,_,_,hq=>by simp [V.keys] at hq
  | .nilp,_,_,_,hq=>by simp [V.keys] at hq
  | .nilf,_,_,_,hq=>by simp [V.keys] at hq
  | .nili,_,_,_,hq=>by simp [V.keys] at hq
  | .sl _ _ _,_,_,_,hq=>by simp [V.keys] at hq
  | .pin _ _ _,_,_,_,hq=>by simp [V.keys] at hq
theorem RL_keys {w:World}{g:G}:∀ (l:List V)(xs:List Value),RL w g l xs→∀ q ∈ keysL l,∃ a,g.A q=some a
  | [],_,_,_,hq=>by simp [keysL] at hq
  | v::r,xs,h,q,hq=>by
    simp only [RL] at h;simp only [keysL,List.mem_append] at hq
    obtain ⟨x,ys,_,h1,h2⟩:=h
    rcases hq with hq | hq
    · exact R_keys v x h1 q hq
    · exact RL_keys r ys h2 q hq
end
theorem RT_keys {w:World}{g:G}{l:Lc}{v:V}{x:Value}(h:RT w g l v x):∀ q ∈ v.keys,∃ a,g.A q=some a:=by
  rcases uq_cases v with hu | ⟨z,es,rfl⟩
  · exact R_keys v x ((RT_not hu).mp h)
  · intro q hq;simp [V.keys] at hq
theorem ObjR_keys {w:World}{g:G}{k:Key}{o:Obj}(h:ObjR w g k o):∀ q ∈ o.keys,∃ a,g.A q=some a:=by
  intro q hq
  cases o with
  | cells z es =>
    simp only [ObjR] at h
    obtain ⟨b,cur,e,fz,_,_,_,_,h5⟩:=h
    simp only [Obj.keys] at hq
    obtain ⟨e,he,hq⟩:=keysLL_mem hq
    obtain ⟨v,hv,hq⟩:=keysL_mem hq
    obtain ⟨i,hi⟩:=List.getElem?_of_mem he
    obtain ⟨j,hj⟩:=List.getElem?_of_mem hv
    obtain ⟨x,_,hr⟩:=(h5 i e hi).2 j v hj
    exact RT_keys hr q hq
  | _=>simp [Obj.keys] at hq
theorem ObjR_A {w:World}{g:G}{k:Key}{q:Obj}(this:ObjR w g k q):∃ a',g.A k=some a':=by
  cases q with
  | cells z es=>simp only [ObjR] at this;obtain ⟨b,_,_,_,h,_⟩:=this;exact ⟨_,h⟩
  | row z es fr=>simp only [ObjR] at this;obtain ⟨b,h,_⟩:=this;exact ⟨_,h⟩
  | iter b p=>simp only [ObjR] at this;obtain ⟨b,h,_⟩:=this;exact ⟨_,h⟩
  | map es=>simp only [ObjR] at this;obtain ⟨b,_,_,h,_⟩:=this;exact ⟨_,h⟩
theorem Inv.depth {w0:World}{g0:G}{s:St}{a:Act}{w:World}{g:G}(hI:Inv w0 g0 d s a w g){k:Key}{a':Nat × Nat}(ha:g.A k=some a'):k.1 < d+1:=by
  have:=hI.live k (by rw [ha];simp)
  unfold St.get at this
  split at this
  · omega
  · cases hq:s.f k with
    | none=>exact absurd hq this
    | some q=>have:=hI.dom k q hq;omega
theorem Inv.levs {w0:World}{g0:G}{s:St}{a:Act}{w:World}{g:G}(hI:Inv w0 g0 d s a w g){k:Key}{o:Obj}(h:s.get d k=some o):∀ q ∈ o.keys,q.1≤k.1:=by
  intro q hq
  by_cases hk:k.1=d
  · obtain ⟨a',ha⟩:=ObjR_keys (hI.objs k o h) q hq
    have:=hI.depth ha
    omega
  · exact hI.lev k o (get_f h hk) q hq
def CallOK (P:Program)(C:CallF):Prop:=
  ∀ f d args fs v fs' wr,C f d args fs=some (v,fs',wr)→(∃ fn c,P.funcs[f]?=some fn∧(fn.name == "runtime.NumGoroutine")=false∧fn.body=some c) ∧
    ∀ (w:World) (g:G) (xs:Array Value),RL w g args xs.toList→Pre w g d fs→Calls P f xs w fun
      | .returned x,w'=>∃ g',After w g w' g' d v x fs fs' wr
      | _,_=>False
theorem keep_kdO {w:World}{g:G}{b:Nat}{k:Key}(h:g.K b=.obj k)(kd:Kd):Keep w g w (setKd g b kd) (fun _=>True) (fun q=>q≠k) where
  size:=Nat.le_refl _
  rows:=fun _ _=>Nat.le_refl _
  imm:=fun x _ hi=>⟨by simp only [setKd];rw [if_neg (by rintro rfl;rw [h] at hi;cases hi)];exact hi,rfl⟩
  os:=rfl
  tape:=rfl
  output:=rfl
  held:=fun x _ hi=>⟨by simp only [setKd];rw [if_neg (by rintro rfl;rw [h] at hi;cases hi)];exact hi,rfl⟩
  priv:=fun l hl x _ hi=>⟨by simp only [setKd];rw [if_neg (by rintro rfl;rw [h] at hi;cases hi)];exact hi,rfl⟩
  obj:=fun q hq x _ hi=>⟨by simp only [setKd];rw [if_neg (by rintro rfl;rw [h] at hi;cases hi;exact hq rfl)];exact hi,rfl⟩
  A:=fun _ _ h=>h
section
variable {w0:World} {g0:G} {a:Act} {w w':World} {g g':G} {s s1:St}
theorem arg1_ok (hI:Inv w0 g0 d s a w g){raw:Bool}{x:Operand}{x':A}(hx:Opd x x'){v:V}{s':St}(h:arg1 d raw x' s=some (v,s')) :
    ∃ g',Inv w0 g0 d s' a w g'∧R w g' v (a.eval x)∧Keep w g w g' (fun _=>False) (fun _=>False):=by
  unfold arg1 at h
  split at h
  · rename_i k z2 lo n hv
    split at h
    · simp only [zI,zP] at h
      obtain ⟨rfl,rfl⟩:=h
      have:=hx.r hI (by rw [hv];rfl)
      rw [hv] at this
      exact ⟨g,hI,this,Keep.refl _ _ _ _⟩
    · split at h
      · rename_i z es fr hg
        split at h
        · rename_i hc
          obtain ⟨e1,hle⟩:=hc
          subst e1
          simp only [zI,zP] at h
          obtain ⟨rfl,rfl⟩:=h
          obtain ⟨b,p,c,hA,hp,hnc,hpp⟩:=hx.arr hI hv
          have hob:=hI.objs k _ hg
          simp only [ObjR] at hob
          obtain ⟨b',e1,e2⟩:=hob
          rw [hA] at e1
          cases e1
          have hlen:((es.drop lo).take n).length=n:=by rw [List.length_take,List.length_drop];omega
          have fin:∀ g':G,(n≠0→g'.K b=.imm∧b < w.heap.size∧RPr w g'.K b z2 0 es)→R w g' (.sl z2 ((es.drop lo).take n) .sh) (a.eval x):=by
            intro g' hg'
            simp only [R]
            refine ⟨by simp,p,c,by rw [hp,hlen],⟨by omega,fun hpn=>?_,fun ad ha=>?_⟩,fun h=>by cases h⟩
            · rcases hpp with h | h
              · rw [hpn] at h;cases h.1
              · exact ⟨List.length_eq_zero_iff.mp (by omega),h.2.1 hpn⟩
            · rcases Nat.eq_zero_or_pos n with h0 | h0
              · have hnil:(es.drop lo).take n=[]:=List.length_eq_zero_iff.mp (by omega)
                rw [hnil]
                refine ⟨?_,fun h=>absurd rfl h,by simp only [RPr]⟩
                rcases hpp with h | h
                · rw [ha] at h;cases h.1;rfl
                · exact h.2.2 ad ha
              · have hpb:p=some ⟨b,lo*z2,none⟩:=by rcases hpp with h | h;exact h.1;exact absurd h.1 (by omega)
                rw [hpb] at ha
                cases ha
                obtain ⟨k1,k2,k3⟩:=hg' (by omega)
                refine ⟨rfl,fun _=>⟨k1,k2⟩,?_⟩
                have:=RPr_sub k3 lo (lo+n)
                rw [Nat.zero_add,List.take_drop] at *
                exact this
          rcases e2 with rfl | ⟨cur,el,fz,e3,e4,e5,e6⟩
          · have hn0:n=0:=by simp at hle;omega
            refine ⟨g,hI.obj hg (Keep.refl _ _ _ _) (fun _=>rfl) ?_,fin g (fun h=>absurd hn0 h),Keep.refl _ _ _ _⟩
            simp only [ObjR]
            exact ⟨b,hA,.inl trivial⟩
          · cases fr with
            | true =>
              refine ⟨g,hI.obj hg (Keep.refl _ _ _ _) (fun _=>rfl) ?_,fin g (fun _=>⟨e4 rfl,heap_lt e3,e6⟩),Keep.refl _ _ _ _⟩
              simp only [ObjR]
              exact ⟨b,hA,.inr ⟨cur,el,fz,e3,fun _=>e4 rfl,fun h=>absurd h (by simp),e6⟩⟩
            | false =>
              have kp:=keep_kdO (w:=w) (e5 rfl).1 .imm
              have e6':=RPr_ext kp.toExt b rfl z2 es 0 e6
              refine ⟨setKd g b .imm,hI.obj hg (kp.weak (fun _ _=>trivial) (fun _ h=>h)) (fun _=>rfl) ?_,fin _ (fun _=>⟨by simp [setKd],heap_lt e3,e6'⟩),kp.weak (fun _ h=>h.elim) (fun _ h=>h.elim)⟩
              simp only [ObjR]
              exact ⟨b,hA,.inr ⟨cur,el,fz,e3,fun _=>by simp [setKd],fun h=>absurd h (by simp),e6'⟩⟩
        · cases h
      · cases h
  · simp only [zI,zP] at h
    obtain ⟨rfl,rfl⟩:=h
    obtain ⟨g',I',hr,kp,_⟩:=hx.dem hI
    exact ⟨g',I',hr,kp.weak (fun _ h=>h.elim) (fun _ h=>h.elim)⟩
theorem argL_ok {raw:Bool}:∀ {xs:List Operand}{l:List A}{s s':St}{g:G}{vs:List V},Inv w0 g0 d s a w g→OpdL xs l→argL d raw l s=some (vs,s') →
    ∃ g',Inv w0 g0 d s' a w g'∧RL w g' vs (xs.map a.eval)∧Keep w g w g' (fun _=>False) (fun _=>False)
  | [],[],s,s',g,vs,hI,_,h=>by
    simp only [argL,zI,zP] at h
    obtain ⟨rfl,rfl⟩:=h
    exact ⟨g,hI,by simp only [RL,List.map_nil],Keep.refl _ _ _ _⟩
  | x::r,y::q,s,s',g,vs,hI,hx,h=>by
    simp only [OpdL] at hx
    simp only [argL] at h
    split at h
    · rename_i v s1 h1
      obtain ⟨g1,I1,r1,k1⟩:=arg1_ok hI hx.1 h1
      cases h2:argL d raw q s1 with
      | none=>rw [h2] at h;cases h
      | some p =>
        rw [h2] at h
        simp only [Option.map_some,zI,zP] at h
        obtain ⟨rfl,rfl⟩:=h
        obtain ⟨g2,I2,r2,k2⟩:=argL_ok (vs:=p.1) (s':=p.2) I1 hx.2 h2
        refine ⟨g2,I2,?_,k1.trans k2⟩
        simp only [RL,List.map_cons]
        exact ⟨_,_,rfl,k2.r r1,r2⟩
    · cases h
  | [],_::_,_,_,_,_,_,h,_=>by simp only [OpdL] at h
  | _::_,[],_,_,_,_,_,h,_=>by simp only [OpdL] at h
theorem argP_ok (hI:Inv w0 g0 d s a w g):∀ {xs:List Operand}{l:List A}{vs:List V},OpdL xs l→argP l s.r=some vs→RL w g vs (xs.map a.eval)
  | [],[],vs,_,h=>by
    simp only [argP,zI] at h
    subst h
    simp only [RL,List.map_nil]
  | x::r,y::q,vs,hx,h=>by
    simp only [OpdL] at hx
    simp only [argP] at h
    split at h
    · rename_i hc
      cases h2:argP q s.r with
      | none=>rw [h2] at h;cases h
      | some l =>
        rw [h2] at h
        simp only [bnd_some,zI] at h
        subst h
        simp only [RL,List.map_cons]
        refine ⟨_,_,rfl,hx.1.r hI ?_,argP_ok hI hx.2 h2⟩
        rcases uq_cases (y.ev s.r) with hu | ⟨z,es,hu⟩
        · exact hu
        · rw [hu] at hc;cases hc
    · cases h
  | [],_::_,_,h,_=>by simp only [OpdL] at h
  | _::_,[],_,h,_=>by simp only [OpdL] at h
end
open Classical in
noncomputable def holdK (g:G):G:={ g with K:=fun b=>if ∃ n,g.K b=.priv (.reg n) then .held else g.K b }
open Classical in
noncomputable def backK (n:Nat)(g g':G):G:={ g' with K:=fun b=>if b < n∧∃ n,g.K b=.priv (.reg n) then g.K b else g'.K b }
theorem hold_of {g:G}{b:Nat}{k:Kd}(h:g.K b=k)(hk:∀ n,k≠.priv (.reg n)):(holdK g).K b=k:=by
  unfold holdK
  simp only
  rw [if_neg]
  · exact h
  · rintro ⟨n,hn⟩
    rw [h] at hn
    exact hk n hn
theorem hold_reg {g:G}{b n:Nat}(h:g.K b=.priv (.reg n)):(holdK g).K b=.held:=by
  unfold holdK
  simp only
  rw [if_pos ⟨n,h⟩]
theorem back_of {n:Nat}{g g':G}{b:Nat}(h:∀ n,g.K b≠.priv (.reg n)):(backK n g g').K b=g'.K b:=by
  unfold backK
  simp only
  rw [if_neg]
  rintro ⟨_,m,hm⟩
  exact h m hm
theorem back_reg {n m:Nat}{g g':G}{b:Nat}(h:g.K b=.priv (.reg m))(hb:b < n):(backK n g g').K b=.priv (.reg m):=by
  unfold backK
  simp only
  rw [if_pos ⟨hb,m,h⟩,h]
theorem alook_relook (d:Nat)(g:Frm):∀ (l:Loc)(t u:Nat),alook (relook d g l) t u=(alook l t u).map fun o=>(g (d,t,u)).getD o
  | [],_,_=>rfl
  | (a,b,o)::r,t,u=>by
    simp only [relook,alook]
    split
    · rename_i h;obtain ⟨rfl,rfl⟩:=h;rfl
    · exact alook_relook d g r t u
theorem merge_get (d:Nat)(s:St):merge d s.l s.f=s.get d:=rfl
theorem after_get {g:Frm}{wr:Bool}{k:Key}(h:wr=false→g=s.get d)(hk:s.get d k≠none→g k≠none):(∀ o,(after d s g wr).get d k=some o→g k=some o):=by
  intro o ho
  cases wr with
  | false=>rw [h rfl];exact ho
  | true =>
    simp only [after,if_true,St.get] at ho
    split at ho
    · rename_i e
      rw [alook_relook] at ho
      cases hq:alook s.l k.2.1 k.2.2 with
      | none=>rw [hq] at ho;cases ho
      | some p =>
        rw [hq] at ho
        simp only [Option.map_some,zI] at ho
        have hk':g k≠none:=hk (by unfold St.get;rw [if_pos e,hq];simp)
        have e2:((d,k.2.1,k.2.2):Key)=k:=by rw [← e]
        rw [e2] at ho
        cases hg:g k with
        | none=>exact absurd hg hk'
        | some q=>rw [hg] at ho;exact congrArg some ho
    · rename_i e
      simp only [unmerge] at ho
      rwa [if_neg e] at ho
theorem call_core (C:CallF)(hC:CallOK P C){w0:World}{g0:G}{a:Act}{w:World}{g:G}(hI:Inv w0 g0 d s a w g){f:Nat}{vs:List V}{xs:Array Value}(hr:RL w g vs xs.toList){v:V}{fs':Frm}{wr:Bool}(h:C f (d+1) vs (merge d s.l s.f)=some (v,fs',wr)){o:Option Nat}{ob:Bool}{s2:St}
    (ht:took d o ob v (after d s fs' wr)=some s2):Calls P f xs w fun
      | .returned x,w'=>∃ g',Inv w0 g0 d s2 (a.put o x) w' g'
      | _,_=>False:=by
  obtain ⟨_,hcall⟩:=hC f (d+1) vs _ v fs' wr h
  have hext:Ext w g w (holdK g):=⟨Nat.le_refl _,fun b _ hi=>⟨hold_of hi (by simp),rfl⟩,fun _ _=>Nat.le_refl _⟩
  have pre:Pre w (holdK g) (d+1) (merge d s.l s.f):=by
    rw [merge_get]
    refine ⟨fun k q hq=>ObjR_ext hext (fun _ h=>h) (fun b _ hb=>⟨hold_of hb (by simp),rfl⟩) (fun i j b _ hb=>⟨hold_of hb (by simp),rfl⟩) q (fun _ _ _ h=>h) (hI.objs k q hq),fun k hk=>hI.live k hk,fun k q hq=>?_,fun k q hq=>hI.levs hq⟩
    unfold St.get at hq
    split at hq
    · rename_i e;omega
    · have:=hI.dom k q hq;omega
  refine (hcall w (holdK g) xs (RL_ext hext _ _ (fun _ _ _ h=>h) hr) pre).mono ?_
  intro e w' he
  cases e with
  | panicked c=>exact he
  | outgrown=>exact he
  | returned x =>
    obtain ⟨g',A⟩:=he
    have hsz:=A.fr.size
    have hreg:∀ n b,b < w.heap.size→g.K b=.priv (.reg n)→(backK w.heap.size g g').K b=.priv (.reg n)∧w'.heap[b]?=w.heap[b]?:=fun n b hb hk=>⟨back_reg hk hb,(A.fr.held b hb (hold_reg hk)).2⟩
    have hAk:∀ k:Key,k.1 < d+1→g'.A k=g.A k:=fun k hk=>A.fr.A k hk
    have hlive:∀ k a',g.A k=some a'→k.1 < d+1:=fun k a' ha=>hI.depth ha
    have hAll:∀ k a',g.A k=some a'→(backK w.heap.size g g').A k=some a':=fun k a' ha=>by
      show g'.A k=some a'
      rw [hAk k (hlive k a' ha)];exact ha
    have x1:Ext w g w' (backK w.heap.size g g'):=⟨hsz,fun b hb hi=>by
      have:=A.fr.imm b hb (hold_of hi (by simp))
      exact ⟨by rw [back_of (by rw [hi];simp)];exact this.1,this.2⟩,A.fr.rows⟩
    have other:∀ b k,g'.K b=k→k≠.held→(backK w.heap.size g g').K b=k:=by
      intro b k hb hk
      unfold backK
      simp only
      rw [if_neg]
      · exact hb
      · rintro ⟨hlt,n,hn⟩
        have:=(A.fr.held b hlt (hold_reg hn)).1
        rw [hb] at this
        exact hk this
    have x2:Ext w' g' w' (backK w.heap.size g g'):=⟨Nat.le_refl _,fun b _ hi=>⟨other b _ hi (by simp),rfl⟩,fun _ _=>Nat.le_refl _⟩
    have hget:∀ k q,(after d s fs' wr).get d k=some q→fs' k=some q:=fun k=>after_get (s:=s) (fun hw=>A.same hw) (fun hk=>by
      cases hq:s.get d k with
      | none=>exact absurd hq hk
      | some q =>
        have:=hI.objs k q hq
        have hA:=ObjR_A this
        obtain ⟨a',ha⟩:=hA
        exact A.live k (by rw [hAk k (hlive k a' ha),ha];simp))
    have I2:Inv w0 g0 d (after d s fs' wr) a w' (backK w.heap.size g g'):=by
      have hr1:(after d s fs' wr).r=s.r:=by unfold after;split<;>rfl
      refine ⟨hI.defers,by rw [hr1];exact hI.len,fun u=>?_,fun k q hq=>?_,fun k hk=>?_,fun k q hq=>?_,fun k q hq=>?_,by unfold after;split;simp;exact hI.same,?_⟩
      · rw [hr1]
        exact RT_ext x1 (fun b hb hk=>hreg u b hb hk) _ _ (fun k _=>hAll k) (hI.regs u)
      · exact ObjR_ext x2 (fun _ h=>h) (fun b _ hb=>⟨other b _ hb (by simp),rfl⟩) (fun i j b _ hb=>⟨other b _ hb (by simp),rfl⟩) q (fun _ _ _ h=>h) (A.objs k q (hget k q hq))
      ·
        have h1:fs' k≠none:=A.live k hk
        have h2:k.1 < d+1:=by
          cases hq:fs' k with
          | none=>exact absurd hq h1
          | some q=>exact A.dom k q hq
        have h3:s.get d k≠none:=hI.live k (by rw [← hAk k h2];exact hk)
        unfold after
        split
        · unfold St.get at h3 ⊢
          simp only
          split
          · rename_i e
            rw [if_pos e] at h3
            rw [alook_relook]
            cases hq:alook s.l k.2.1 k.2.2 with
            | none=>exact absurd hq h3
            | some q=>simp
          · rename_i e
            simp only [unmerge]
            rwa [if_neg e]
        · exact h3
      · have:(∃ p,s.f k=some p)∨k.1≠d∧fs' k=some q:=by
          unfold after at hq
          split at hq
          · simp only [unmerge] at hq
            split at hq
            · exact .inl ⟨_,hq⟩
            · rename_i e;exact .inr ⟨e,hq⟩
          · exact .inl ⟨_,hq⟩
        rcases this with ⟨p,hp⟩ | ⟨e,hq⟩
        · exact hI.dom k p hp
        · have:=A.dom k q hq;omega
      ·
        unfold after at hq
        split at hq
        · simp only [unmerge] at hq
          split at hq
          · exact hI.lev k q hq
          · exact A.lev k q hq
        · exact hI.lev k q hq
      · refine ⟨A.fr.os.trans hI.fr.os,A.fr.tape.trans hI.fr.tape,A.fr.output.trans hI.fr.output,Nat.le_trans hI.fr.size hsz,fun b hb hi=>?_,fun b hb hi=>?_,fun k hk=>?_,fun b hb=>Nat.le_trans (hI.fr.rows b hb) (A.fr.rows b (Nat.lt_of_lt_of_le hb hI.fr.size))⟩
        · obtain ⟨k1,k2⟩:=hI.fr.imm b hb hi
          have:=x1.imm b (Nat.lt_of_lt_of_le hb hI.fr.size) k1
          exact ⟨this.1,this.2.trans k2⟩
        · obtain ⟨k1,k2⟩:=hI.fr.held b hb hi
          have:=A.fr.held b (Nat.lt_of_lt_of_le hb hI.fr.size) (hold_of k1 (by simp))
          exact ⟨by rw [back_of (by rw [k1];simp)];exact this.1,this.2.trans k2⟩
        · show g'.A k=g0.A k
          rw [hAk k (by omega)]
          exact hI.fr.A k hk
    exact took_ok I2 (RTR_ext x2 (fun j b _ hb=>⟨other b _ hb (by simp),rfl⟩) (fun _ _ h=>h) A.res) ht
end Go.Den
namespace Go.Den
variable {P:Program} {op:Oper} {d:Nat} {s:St}
theorem RL_app3 {w:World}{g:G}{A B C:List V}{xs:Array Value}{ys:List Value}{zs:Array Value}(h1:RL w g A xs.toList)(h2:RL w g B ys)(h3:RL w g C zs.toList):RL w g (A++B++C) (xs++ys.toArray++zs).toList:=by
  have:=RL_append (RL_append h1 h2) h3
  simpa using this
theorem OpOk.call {C:CallF}(hC:CallOK P C){fx:Operand}{xs:Array Operand}{ts:Array TypeId}{fv:A}{f:Nat}{first caps:List V}{o:Option Nat}{ob:Bool}{vs:List V}{v:V}{fs':Frm}{wr:Bool}{s1 s2:St}(ho:op.op=.call { callee:=.value fx,args:=xs,argTypes:=ts })(hd:op.dst=o)
    (hf:Opd fx fv) (hfe:fv.ev s.r=.fn f first caps) (hargs:∀ w0 g0 a w g,Inv w0 g0 d s a w g→∃ g1,Inv w0 g0 d s1 a w g1∧RL w g1 vs (xs.toList.map a.eval)∧Keep w g w g1 (fun _=>False) (fun _=>False))
    (h:C f (d+1) (first++vs++caps) (merge d s1.l s1.f)=some (v,fs',wr)) (ht:took d o ob v (after d s1 fs' wr)=some s2):OpOk P op d s s2:=by
  intro w0 g0 a w g hI next Q hn
  obtain ⟨⟨fn,c,hfn,hname,hb⟩,_⟩:=hC f (d+1) _ _ v fs' wr h
  have hr:=hf.r hI (by rw [hfe];rfl)
  rw [hfe] at hr
  obtain ⟨g1,I1,ra,kp⟩:=hargs w0 g0 a w g hI
  have hr:=kp.r hr
  simp only [R] at hr
  obtain ⟨ya,yb,hfa,r1,r2⟩:=hr
  have hrun:(execOp a.eval op).run P w=.ok (.enter f (ya++(xs.toList.map a.eval).toArray++yb)) w:=by
    have e1:xs.map a.eval=(xs.toList.map a.eval).toArray:=by apply Array.ext';simp
    simp only [execOp,ho,resolve,hfa,Deferred.ofValue,invoke,Sem.run_bind,Sem.run_pure,Result.andThen_ok,e1]
    have h1:fn.name≠"runtime.NumGoroutine":=by simpa using hname
    simp [callFunc,hfn,h1,hb]
  unfold Oper.wp
  rw [hrun,Oper.upon_enter]
  refine (call_core C hC I1 (RL_app3 r1 ra r2) h ht).mono ?_
  intro e w' he
  cases e with
  | returned x=>obtain ⟨g',I2⟩:=he;exact hn _ _ _ (by rw [hd];exact I2)
  | panicked c=>exact he.elim
  | outgrown=>exact he.elim
theorem ok_call {C:CallF}(hC:CallOK P C){fx:Operand}{xs:Array Operand}{ts:Array TypeId}{fv:A}{l:List A}{f:Nat}{first caps:List V}{o:Option Nat}{raw ob:Bool}{q:List V × St}{p:V × Frm × Bool}{s2:St}(ho:op.op=.call { callee:=.value fx,args:=xs,argTypes:=ts })(hd:op.dst=o)
    (hf:Opd fx fv) (hl:OpdL xs.toList l) (hfe:fv.ev s.r=.fn f first caps) (hq:argL d raw l s=some q) (h:C f (d+1) (first++q.1++caps) (merge d q.2.l q.2.f)=some p) (ht:took d o ob p.1 (after d q.2 p.2.1 p.2.2)=some s2):OpOk P op d s s2:=
  OpOk.call hC ho hd hf hfe (fun _ _ _ _ _ hI=>argL_ok (vs:=q.1) (s':=q.2) hI hl hq) h ht
theorem recvL_plain {t:Nat}:∀ {cs:List V}{j:Nat}{s:St},cs.any V.isBox=false→recvL d t false j cs s=some (cs.map V.sh,s)
  | [],_,_,_=>rfl
  | v::r,j,s,h=>by
    simp only [List.any_cons,Bool.or_eq_false_iff] at h
    have h1:recv1 d t j false v s=some (v.sh,s):=by
      unfold recv1
      split
      · rfl
      · exact absurd h.1 (by simp [V.isBox])
      · rename_i hn _
        unfold V.sh
        split
        · exact absurd rfl (hn _ _ _)
        · rfl
    simp only [recvL,h1,recvL_plain h.2,Option.map_some,List.map_cons]
theorem recvP_recv {t:Nat}{v v':V}(h:recvP v=some v'):recv d t false v s=some (v',s):=by
  unfold recvP at h
  split at h
  · rename_i cs
    split at h
    · cases h
    · rename_i hb
      cases h
      simp only [recv,recvL_plain (by simpa using hb),Option.map_some]
  · rename_i cs
    split at h
    · cases h
    · rename_i hb
      cases h
      simp only [recv,recvL_plain (by simpa using hb),Option.map_some]
  · cases h
  · cases h;rfl
  · rename_i h1 h2 h3 h4
    cases h
    unfold recv
    split
    · exact absurd rfl (h4 _ _)
    · exact absurd rfl (h1 _)
    · exact absurd rfl (h2 _)
    · unfold recv1
      split
      · rfl
      · exact absurd rfl (h3 _)
      · rename_i hn _
        unfold V.sh
        split
        · exact absurd rfl (hn _ _ _)
        · rfl
theorem ok_callp {C:CallF}(hC:CallOK P C){fx:Operand}{xs:Array Operand}{ts:Array TypeId}{fv:A}{l:List A}{f:Nat}{first caps vs:List V}{t:Nat}{p:V × Frm × Bool}{v:V}(ho:op.op=.call { callee:=.value fx,args:=xs,argTypes:=ts })(hd:op.dst=some t)
    (hf:Opd fx fv) (hl:OpdL xs.toList l) (hfe:fv.ev s.r=.fn f first caps) (hq:argP l s.r=some vs) (h:C f (d+1) (first++vs++caps) (merge d s.l s.f)=some p) (hw:p.2.2=false) (hv:recvP p.1=some v):OpOk P op d s (s.put t v):=
  OpOk.call hC ho hd hf hfe (ob:=false) (v:=p.1) (fs':=p.2.1) (wr:=p.2.2) (fun _ _ _ _ g hI=>⟨g,hI,argP_ok hI hl hq,Keep.refl _ _ _ _⟩) h (by
    rw [hw]
    show took d (some t) false p.1 s=_
    simp only [took,recvP_recv hv,Option.map_some])
theorem ok_ob {t:Nat}{s1:St}{p:V × St}(hd:op.dst=some t)(h:OpOk P op d s s1)(h1:recv1 d t 0 true (rget s1.r t) s1=some p):OpOk P op d s (p.2.put t p.1):=by
  intro w0 g0 a w g hI next Q hn
  refine h w0 g0 a w g hI next Q fun a' w' g' I1=>?_
  have hr:=I1.regs t
  have fin:∀ g2,Inv w0 g0 d (p.2.put t p.1) a' w' g2→next a' w':=fun g2 I=>hn _ _ g2 I
  unfold recv1 at h1
  split at h1
  · rename_i z es o hv
    rw [hv] at hr
    split at h1
    · rename_i hob
      simp only [Bool.true_and,Bool.or_eq_true,beq_iff_eq] at hob
      cases hadd:s1.add t 0 (.row z es false) with
      | none=>rw [hadd] at h1;cases h1
      | some s2 =>
        rw [hadd] at h1
        simp only [Option.map_some,zI] at h1
        subst h1
        have mk:∀ (b:Nat) (gk:G),Keep w' g' w' gk (fun l=>l≠.reg t) (fun _=>True)→(∀ q,gk.A q=g'.A q)→(∀ g2,g2.K=gk.K→g2.A (d,t,0)=some (b,z)→Keep w' g' w' g2 (fun l=>l≠.reg t) (fun _=>True)→ObjR w' g2 (d,t,0) (.row z es false)) →
            (∃ p c,a'.tmps.getD t undef=.slice p es.length c∧es.length≤c∧(p=some ⟨b,0*z,none⟩∧(0+c)*z≤rowSize w' b∨es.length=0∧(p=none→c=0)∧∀ ad,p=some ad→ad.spot=none))→next a' w':=by
          intro b gk k1 hA ho ⟨p,c,hx⟩
          have I2:Inv w0 g0 d (s1.put t .dead) a' w' gk:=I1.keep k1 hA (by simp only [RT,R])
          have hadd2:(s1.put t .dead).add t 0 (.row z es false)=some (s2.put t .dead):=by
            obtain ⟨h1,h2⟩:=add_some hadd
            subst h2
            unfold St.add
            show (match alook s1.l t 0 with | none=>_ | some _=>none)=_
            rw [h1]
            rfl
          have k2:=keep_addA w' gk (d,t,0) (b,z) (by rw [hA];exact I1.free hadd) (fun _=>True) (fun _=>True)
          have I3:Inv w0 g0 d (s2.put t .dead) a' w' (addA gk (d,t,0) (b,z)):=I2.new hadd2 k2 (x:=(b,z)) (fun q=>rfl) (ho _ rfl (by simp [addA]) (k1.trans (k2.weak (fun _ _=>trivial) (fun _ h=>h))))
          have I4:=I3.slot (t:=t) (v:=.arr (d,t,0) z 0 es.length) (by
            simp only [RT,R]
            exact ⟨b,p,c,by simp [addA],hx⟩)
          refine fin (addA gk (d,t,0) (b,z)) (?_:Inv w0 g0 d (s2.put t (.arr (d,t,0) z 0 es.length)) a' w' _)
          have e:(s2.put t .dead).put t (.arr (d,t,0) z 0 es.length)=s2.put t (.arr (d,t,0) z 0 es.length):=by unfold St.put;simp only [rset_twice]
          rw [← e]
          exact I4
        rcases uq_cases (.sl z es o) with hu | ⟨z2,es2,hu⟩
        · have hr:=(RT_not hu).mp hr
          simp only [R] at hr
          obtain ⟨ho,p,c,hx,⟨h1,h2,h3⟩,_⟩:=hr
          have he:es=[]:=by
            rcases hob with h | h
            · exact absurd h ho
            · simpa using h
          subst he
          refine mk 0 g' (Keep.refl _ _ _ _) (fun _=>rfl) (fun g2 _ hA _=>?_) ⟨p,c,hx,h1,.inr ⟨rfl,fun hp=>(h2 hp).2,fun ad ha=>(h3 ad ha).1⟩⟩
          simp only [ObjR]
          exact ⟨0,hA,.inl trivial⟩
        · cases hu
          simp only [RT] at hr
          rcases hr with ⟨hx,he⟩ | ⟨b,c,cur,e,fz,hx,hc,hk,hh,hz,ht,hr⟩
          · subst he
            refine mk 0 g' (Keep.refl _ _ _ _) (fun _=>rfl) (fun g2 _ hA _=>?_) ⟨none,0,hx,Nat.le_refl _,.inr ⟨rfl,fun _=>rfl,fun _ h=>by cases h⟩⟩
            simp only [ObjR]
            exact ⟨0,hA,.inl trivial⟩
          · have kp:=keep_kd (w:=w') hk (.obj (d,t,0))
            refine mk b _ kp (fun _=>rfl) (fun g2 hK hA kq=>?_) ⟨_,c,hx,hc,.inl ⟨by simp,by rw [rowSize_cells hh,Nat.zero_add];exact hz⟩⟩
            simp only [ObjR]
            refine ⟨b,hA,.inr ⟨cur,e,fz,hh,fun h=>absurd h (by simp),fun _=>⟨by rw [hK];simp [setKd],ht⟩,RPr_ext kq.toExt b rfl _ _ _ hr⟩⟩
    · rename_i hob
      simp only [zI] at h1
      subst h1
      have hu:(V.sl z es o).uq=false:=by
        cases o<;>first | rfl | (simp at hob)
      exact fin g' (I1.slot ((RT_not (sh_uq (.sl z es o))).mpr (sh_not hu ((RT_not hu).mp hr))))
  · rename_i cs hv
    rw [hv] at hr
    simp only [RT,R] at hr
  · simp only [zI] at h1
    subst h1
    exact fin g' (I1.slot hr)
section
variable {w0:World} {g0:G} {a:Act} {w:World} {g:G}
theorem takeCell (hI:Inv w0 g0 d s a w g){k:Key}{i' off:Nat}{z b:Nat}{es:List (List V)}{e:List V}{z2:Nat}{es2:List (List V)}(hA:g.A k=some (b,z))(hg:s.get d k=some (.cells z es))(he:es[i']?=some e)(hv:e[off]?=some (.sl z2 es2 .uniq))(l:Lc)(_hl:∀ k i j,l≠.cell k i j) :
    ∃ g' y,w.cell? ⟨b,i'*z+off,none⟩=some y∧Inv w0 g0 d (s.set d k (.cells z (es.set i' (e.set off .dead)))) a w g'∧RT w g' l (.sl z2 es2 .uniq) y∧Keep w g w g' (fun l=>∀ k i j,l≠.cell k i j) (fun _=>False):=by
  have hob:=hI.objs k _ hg
  simp only [ObjR] at hob
  obtain ⟨b',cur,el,fz,h1,h2,h3,h4,h5⟩:=hob
  rw [hA] at h1
  cases h1
  obtain ⟨hlz,hc⟩:=h5 i' e he
  obtain ⟨y,hy,hr⟩:=hc off _ hv
  have hcell:w.cell? ⟨b,i'*z+off,none⟩=some y:=by rw [cell_of_row w b _ cur el fz h3];exact hy
  have hlt:i' < es.length:=by
    rcases Nat.lt_or_ge i' es.length with h | h
    · exact h
    · rw [List.getElem?_eq_none h] at he;cases he
  have hlt2:off < e.length:=by
    rcases Nat.lt_or_ge off e.length with h | h
    · exact h
    · rw [List.getElem?_eq_none h] at hv;cases hv
  have hlev:k.1≠d→∀ q ∈ (Obj.cells z (es.set i' (e.set off .dead))).keys,q.1≤k.1:=by
    intro hk q hq
    simp only [Obj.keys] at hq
    refine hI.lev k _ (get_f hg hk) q ?_
    simp only [Obj.keys]
    rcases keysLL_set hq with h | h
    · obtain ⟨v,hv',hq'⟩:=keysL_mem h
      rcases List.mem_or_eq_of_mem_set hv' with h | h
      · exact mem_keysLL (mem_keysL hq' h) (List.mem_of_getElem? he)
      · subst h;simp [V.keys] at hq'
    · exact h
  have mk:∀ (g':G),Keep w g w g' (fun l=>l≠.cell k i' off) (fun _=>True)→(∀ q,g'.A q=g.A q) →
      Inv w0 g0 d (s.set d k (.cells z (es.set i' (e.set off .dead)))) a w g':=by
    intro g' kp hA'
    refine hI.obj hg ⟨kp.toExt,kp.os,kp.tape,kp.output,kp.held,fun l hl=>kp.priv l (hl i' off),fun q hq=>kp.obj q trivial,kp.A⟩ hA' ?_ hlev
    simp only [ObjR]
    refine ⟨b,cur,el,fz,by rw [hA'];exact hA,(kp.obj k trivial b (heap_lt h3) h2).1,h3,h4,fun q r hq=>?_⟩
    rw [List.getElem?_set] at hq
    by_cases hqi:i'=q
    · subst hqi
      rw [if_pos rfl,if_pos hlt] at hq
      cases hq
      refine ⟨by simpa using hlz,fun j v' hv'=>?_⟩
      rw [List.getElem?_set] at hv'
      by_cases hjo:off=j
      · subst hjo
        rw [if_pos rfl,if_pos hlt2] at hv'
        cases hv'
        exact ⟨y,hy,by simp only [RT,R]⟩
      · rw [if_neg hjo] at hv'
        obtain ⟨y',hy',hr'⟩:=hc j v' hv'
        exact ⟨y',hy',kp.rt (by simp only [ne_eq,Lc.cell.injEq,not_and];intro _ _ h;exact hjo h.symm) hr'⟩
    · rw [if_neg hqi] at hq
      obtain ⟨hz',hc'⟩:=h5 q r hq
      refine ⟨hz',fun j v' hv'=>?_⟩
      obtain ⟨y',hy',hr'⟩:=hc' j v' hv'
      exact ⟨y',hy',kp.rt (by simp only [ne_eq,Lc.cell.injEq,not_and];intro _ h;exact absurd h.symm hqi) hr'⟩
  simp only [RT] at hr
  rcases hr with ⟨hx0,he0⟩ | ⟨bb,c,cu,el2,fz2,hx2,hc2,hk2,hh2,hs2,ht2,hr2⟩
  · exact ⟨g,y,hcell,mk g (Keep.refl _ _ _ _) (fun _=>rfl),by simp only [RT];exact .inl ⟨hx0,he0⟩,Keep.refl _ _ _ _⟩
  · have kp:=keep_kd (w:=w) hk2 (.priv l)
    refine ⟨setKd g bb (.priv l),y,hcell,mk _ kp (fun _=>rfl),?_,kp.weak (fun l h=>h _ _ _) (fun _ h=>h.elim)⟩
    simp only [RT]
    exact .inr ⟨bb,c,cu,el2,fz2,hx2,hc2,by simp [setKd],hh2,hs2,ht2,RPr_kd hk2 _ hr2⟩
theorem Inv.nameCell (hI:Inv w0 g0 d s a w g){k:Key}(hk:k.1=d){t j i c:Nat}{s':St}(h:s.nameCell d t j k i c=some s'):(∃ g',Inv w0 g0 d s' a w g')∧s'.r=s.r:=by
  unfold St.nameCell at h
  split at h
  · rename_i z es hg
    split at h
    · rename_i e he
      split at h
      · rename_i v hv
        split at h
        · rename_i hu
          simp only [zE] at h
          obtain ⟨p,hp,rfl⟩:=h
          rcases uq_cases v with h' | ⟨z2,es2,rfl⟩
          · rw [h'] at hu;cases hu
          obtain ⟨a',hA'⟩:=ObjR_A (hI.objs k _ hg)
          obtain ⟨b,z'⟩:=a'
          have hz:z'=z:=by
            have:=hI.objs k _ hg
            simp only [ObjR] at this
            obtain ⟨b1,_,_,_,h1,_⟩:=this
            rw [hA'] at h1
            cases h1;rfl
          subst hz
          obtain ⟨g1,y,hy,I1,r1,k1⟩:=takeCell hI hA' hg he hv (.res j) (by simp)
          obtain ⟨g2,I2,r2,k2⟩:=recv1_ok I1 (show RB w g1 (.res j) (.sl z2 es2 .uniq) y from by simp only [RB];exact r1) hp
          have hget:p.2.get d k=some (.cells z' (es.set i (e.set c .dead))):=by
            have h0:(s.set d k (.cells z' (es.set i (e.set c .dead)))).get d k=some (.cells z' (es.set i (e.set c .dead))):=get_set_same hg
            unfold recv1 at hp
            simp only [Bool.true_and,beq_self_eq_true,Bool.true_or,if_true,zE] at hp
            obtain ⟨s2,hadd,rfl⟩:=hp
            rw [get_add hadd,if_neg]
            · exact h0
            · rintro rfl
              have:=(add_some hadd).1
              unfold St.get at h0
              rw [if_pos rfl] at h0
              simp only at h0
              rw [this] at h0
              cases h0
          have hr:p.2.r=s.r:=by
            unfold recv1 at hp
            simp only [Bool.true_and,beq_self_eq_true,Bool.true_or,if_true,zE] at hp
            obtain ⟨s2,hadd,rfl⟩:=hp
            obtain ⟨_,rfl⟩:=add_some hadd
            exact set_r _ _ _ _
          refine ⟨⟨g2,I2.obj hget (Keep.refl _ _ _ _) (fun _=>rfl) ?_ (fun h=>absurd hk h)⟩,by rw [set_r];exact hr⟩
          have hob:=I2.objs k _ hget
          simp only [ObjR] at hob ⊢
          obtain ⟨b',cur,el,fz,h1,h2,h3,h4,h5⟩:=hob
          have hA2:g2.A k=some (b,z'):=k2.A k _ (k1.A k _ hA')
          rw [hA2] at h1
          cases h1
          have hlt:i < es.length:=by
            rcases Nat.lt_or_ge i es.length with h | h
            · exact h
            · rw [List.getElem?_eq_none h] at he;cases he
          have hlt2:c < e.length:=by
            rcases Nat.lt_or_ge c e.length with h | h
            · exact h
            · rw [List.getElem?_eq_none h] at hv;cases hv
          refine ⟨b,cur,el,fz,hA2,h2,h3,h4,fun q r hq=>?_⟩
          rw [List.getElem?_set] at hq
          by_cases hqi:i=q
          · subst hqi
            rw [if_pos rfl,if_pos hlt] at hq
            cases hq
            obtain ⟨hl5,hc5⟩:=h5 i (e.set c .dead) (by rw [List.getElem?_set,if_pos rfl,if_pos hlt])
            refine ⟨by simpa using hl5,fun j' v' hv'=>?_⟩
            rw [List.getElem?_set] at hv'
            by_cases hjc:c=j'
            · subst hjc
              rw [if_pos rfl,if_pos hlt2] at hv'
              cases hv'
              refine ⟨y,?_,(RT_not (R_uq r2)).mpr r2⟩
              rw [cell_of_row w b _ cur el fz h3] at hy
              exact hy
            · rw [if_neg hjc] at hv'
              exact hc5 j' v' (by rw [List.getElem?_set,if_neg hjc];exact hv')
          · rw [if_neg hqi] at hq
            exact h5 q r (by rw [List.getElem?_set,if_neg hqi];exact hq)
        · cases h;exact ⟨⟨g,hI⟩,rfl⟩
      · cases h
    · cases h
  · cases h
theorem Inv.nameN {k:Key}(hk:k.1=d){t i off:Nat}:∀ (n j:Nat){s s':St}{g:G},Inv w0 g0 d s a w g→nameN d t k i off n j s=some s'→(∃ g',Inv w0 g0 d s' a w g')∧s'.r=s.r
  | 0,j,s,s',g,hI,h=>by
    simp only [Den.nameN,zI] at h
    subst h;exact ⟨⟨g,hI⟩,rfl⟩
  | n+1,j,s,s',g,hI,h=>by
    simp only [Den.nameN] at h
    cases h1:s.nameCell d t j k i (off+j) with
    | none=>rw [h1] at h;cases h
    | some s1 =>
      rw [h1] at h
      obtain ⟨⟨g1,I1⟩,e1⟩:=hI.nameCell hk h1
      obtain ⟨h2,e2⟩:=Inv.nameN hk n (j+1) I1 h
      exact ⟨h2,e2.trans e1⟩
end
theorem ok_ldo {T:TypeId}{x:Operand}{x':A}{n t:Nat}{k:Key}{i off:Nat}{s1:St}{c:List V}(ho:op.op=.load T x)(hd:op.dst=some t)(hz:szo P T=some (some n))(hx:Opd x x')(hp:x'.ev s.r=.ptr k i off)(hk:k.1=d)(h1:nameN d t k i off n 0 s=some s1)(h2:s1.at d (.ptr k i off)=some c)
    (hc:n≤c.length∧hasUq (c.take n)=false):OpOk P op d s (s1.put t (.agg ((c.take n).map V.sh))):=by
  refine .value fun w0 g0 a w g hI=>?_
  obtain ⟨⟨g1,I1⟩,e1⟩:=Inv.nameN hk n 0 hI h1
  have hr:R w g1 (.ptr k i off) (a.eval x):=by
    have:=hx.r I1 (by rw [e1,hp];rfl)
    rwa [e1,hp] at this
  obtain ⟨y,hy,hry,hu⟩:=load_of (P:=P) I1 hz hr h2 (v:=.agg ((c.take n).map V.sh)) (by simp only;rw [if_pos hc])
  refine ⟨y,w,g1,by simp [execOp,ho,hy],?_⟩
  rw [hd]
  exact I1.put ((RT_not hu).mpr hry)
end Go.Den
namespace Go.Den
variable {P:Program} {op:Oper} {d t:Nat} {C:CallF} {x:O}
theorem bnd_eq {α β:Type}{x:Option α}{k:α→Option β}{r:β}:bnd x k=some r ↔ ∃ a,x=some a∧k a=some r:=by
  cases x with
  | none=>simp [bnd]
  | some a=>simp [bnd]
def SOk (P:Program)(C:CallF)(d:Nat)(op:Oper)(x:O):Prop:=∀ s s',step C d x s=some s'→OpOk P op d s s'
theorem s_mv {draw asg:Bool}{u:Nat}(ho:op.op=.move (.tmp u))(hd:op.dst=some t)(h:some (if asg then O.mvs t u else if draw then .mvp t u else .mv t u)=some x):SOk P C d op x:=by
  intro s s' hs
  cases h
  split at hs
  · simp only [step,zI] at hs;subst hs;exact ok_mvs hd (.inl ho)
  · split at hs
    · simp only [step] at hs
      split at hs
      · cases hs
      · rename_i hu;cases hs;exact ok_mvp hd ho (by simpa using hu)
    · simp only [step,zI] at hs;subst hs;exact ok_mv hd (.inl ho)
theorem s_as {u:Nat}(ho:op.op=.assign (.tmp u))(hd:op.dst=some t)(h:some (O.mvs t u)=some x):SOk P C d op x:=by
  intro s s' hs
  cases h
  simp only [step,zI] at hs;subst hs;exact ok_mvs hd (.inr ho)
theorem s_cst {y:Operand}{T:TypeId}(ho:op.op=.move y∨op.op=.assign y)(hd:op.dst=some t)(h:(match opT P T y with | some (.c v)=>some (O.cst t v) | _=>none)=some x):SOk P C d op x:=by
  intro s s' hs
  split at h
  · rename_i v hv
    cases h
    simp only [step,zI] at hs;subst hs
    exact ok_cst hd ho (opT_cases hv)
  · cases h
theorem s_pick {c a b:Operand}(ho:op.op=.pick c a b)(hd:op.dst=some t)(h:(bnd (opA c) fun c=>bnd (opA a) fun a=>(opA b).map (.pick t c a))=some x):SOk P C d op x:=by
  intro s s' hs
  simp only [bnd_eq,zE] at h
  obtain ⟨c',hc,a',ha,b',hb,rfl⟩:=h
  simp only [step] at hs
  split at hs
  · rename_i v hv
    split at hs
    · rename_i r hr;cases hs;exact ok_pick hd ho (opA_cases hc) (opA_cases ha) (opA_cases hb) hv hr
    · cases hs
  · cases hs
theorem s_new {T:TypeId}(ho:op.op=.alloc T)(hd:op.dst=some t)(h:(zcells P T).map (.new t)=some x):SOk P C d op x:=by
  intro s s' hs
  simp only [zE] at h
  obtain ⟨z,hz,rfl⟩:=h
  simp only [step,zE] at hs
  obtain ⟨s1,h1,rfl⟩:=hs
  exact ok_new ho hd hz h1
theorem s_box {T:TypeId}{y:Operand}(ho:op.op=.box T y)(hd:op.dst=some t)(h:(opA y).map (.box t)=some x):SOk P C d op x:=by
  intro s s' hs
  simp only [zE] at h
  obtain ⟨y',hy,rfl⟩:=h
  simp only [step,bnd_eq,zE] at hs
  obtain ⟨cs,hc,s1,h1,rfl⟩:=hs
  exact ok_box ho hd (opA_cases hy) hc h1
theorem s_build {T:TypeId}{ps:Array (Nat × Operand)}(ho:op.op=.build T ps)(hd:op.dst=some t)(h:(match P.underlying T with
    | some (.struct _)=>bnd (zcells P T) fun z=>(partsOf P T ps.toList).map (.build t z)
    | some (.array _ e)=>bnd (zcells P T) fun z=>bnd (P.info? e) fun i=>(partsA i.size ps.toList).map (.build t z)
    | _=>none)=some x):SOk P C d op x:=by
  intro s s' hs
  split at h
  · rename_i fs hT
    simp only [bnd_eq,zE] at h
    obtain ⟨z,hz,l,hl,rfl⟩:=h
    simp only [step,zE] at hs
    obtain ⟨p,hp,rfl⟩:=hs
    exact ok_build_struct ho hd hT hz hl hp
  · rename_i m e hT
    simp only [bnd_eq,zE] at h
    obtain ⟨z,hz,i,hi,l,hl,rfl⟩:=h
    simp only [step,zE] at hs
    obtain ⟨p,hp,rfl⟩:=hs
    exact ok_build_arr ho hd hT hz hi hl hp
  · cases h
theorem s_lit {T:TypeId}{n:Nat}{ps:Array (Nat × Operand)}{ob:Bool}(ho:op.op=.buildSlice T n ps)(hd:op.dst=some t)(h:(match P.underlying T with
    | some (.slice e)=>bnd (zcells P e) fun z=>bnd (partsS ps.toList) fun l=>if n*z.length≤16777216 then some (if ob then O.lito t z.length n z l else .lit t z.length n z l) else none
    | _=>none)=some x):SOk P C d op x:=by
  intro s s' hs
  split at h
  · rename_i e hT
    simp only [bnd_eq] at h
    obtain ⟨z,hz,l,hl,h⟩:=h
    split at h
    · rename_i hn
      cases h
      split at hs
      · simp only [step] at hs
        rw [if_pos trivial] at hs
        split at hs
        · rename_i s1 es hp
          simp only [zE] at hs
          obtain ⟨s2,h2,rfl⟩:=hs
          exact ok_lito ho hd hT hz hl hn hp h2
        · cases hs
      · simp only [step] at hs
        rw [if_pos trivial] at hs
        split at hs
        · rename_i s1 es hp
          split at hs
          · rename_i hall;cases hs;exact ok_lit ho hd hT hz hl hn hp hall
          · cases hs
        · cases hs
    · cases h
  · cases h
theorem s_ld {T:TypeId}{y:Operand}{draw ap nm:Bool}(ho:op.op=.load T y)(hd:op.dst=some t)(h:(bnd (szo P T) fun s=>bnd (opA y) fun a =>
    match s with
    | none=>some (if ap then O.lds t a else if draw then .ldp t none a else .ld t none a)
    | some n=>some (if nm then .ldo t n a else if draw then .ldp t (some n) a else .ld t (some n) a))=some x):SOk P C d op x:=by
  intro s s' hs
  simp only [bnd_eq] at h
  obtain ⟨z,hz,a,ha,h⟩:=h
  have ld:∀ s s',step C d (.ld t z a) s=some s'→OpOk P op d s s':=by
    intro s s' hs
    simp only [step,bnd_eq,zI] at hs
    obtain ⟨q,hq,rfl⟩:=hs
    exact ok_ld ho hd hz (opA_cases ha) hq
  have ldp:∀ s s',step C d (.ldp t z a) s=some s'→OpOk P op d s s':=by
    intro s s' hs
    simp only [step,bnd_eq,zI] at hs
    obtain ⟨q,hq,rfl⟩:=hs
    exact ok_ldp ho hd hz (opA_cases ha) hq
  split at h
  · cases h
    split at hs
    · simp only [step] at hs
      split at hs
      · rename_i k i off hp
        split at hs
        · rename_i z es hg
          split at hs
          · rename_i e he
            split at hs
            · rename_i v hv
              have:=ok_lds (P:=P) (op:=op) (d:=d) (t:=t) (s:=s) ho hd hz (opA_cases ha) hp hg he hv
              split at hs
              · rename_i hu;cases hs;rwa [if_pos hu] at this
              · rename_i hu;cases hs;rwa [if_neg hu] at this
            · cases hs
          · cases hs
        · cases hs
      · cases hs
    · split at hs
      · exact ldp s s' hs
      · exact ld s s' hs
  · cases h
    split at hs
    · simp only [step] at hs
      split at hs
      · rename_i k i off hp
        split at hs
        · rename_i hk
          simp only [bnd_eq] at hs
          obtain ⟨s1,h1,c,h2,h3⟩:=hs
          split at h3
          · rename_i hc
            cases h3
            exact ok_ldo ho hd hz (opA_cases ha) hp hk h1 h2 hc
          · cases h3
        · cases hs
      · cases hs
    · split at hs
      · exact ldp s s' hs
      · exact ld s s' hs
theorem s_st {T:TypeId}{y z:Operand}(ho:op.op=.store T y z)(hd:op.dst=none)(h:(bnd (szo P T) fun s=>bnd (opA y) fun a=>(opT P T z).map (.st s a))=some x):SOk P C d op x:=by
  intro s s' hs
  simp only [bnd_eq,zE] at h
  obtain ⟨sz,hz,a,ha,b,hb,rfl⟩:=h
  simp only [step] at hs
  split at hs
  · split at hs
    · rename_i h1;exact ok_st1 ho hd hz (opA_cases ha) (opT_cases hb) h1 hs
    · cases hs
  · split at hs
    · rename_i cs hv
      split at hs
      · rename_i hc;exact ok_stn ho hd hz (opA_cases ha) (opT_cases hb) hv hc.1 hc.2 hs
      · cases hs
    · cases hs
theorem slot_eq {y:Operand}{u:Nat}(h:slot y=some u):y=.tmp u:=by
  unfold slot at h
  split at h
  · cases h;rfl
  · cases h
theorem s_chk {y:Operand}(ho:op.op=.nilCheck y)(hd:op.dst=some t)(h:(slot y).map (.chk t)=some x):SOk P C d op x:=by
  intro s s' hs
  simp only [zE] at h
  obtain ⟨u,hu,rfl⟩:=h
  rw [slot_eq hu] at ho
  simp only [step] at hs
  split at hs
  · rename_i k i off hv;cases hs;exact ok_chk ho hd hv (.inl ⟨_,_,_,rfl⟩)
  · rename_i k i off hv;cases hs;exact ok_chk ho hd hv (.inr (.inl ⟨_,_,_,rfl⟩))
  · rename_i k i off hv;cases hs;exact ok_chk ho hd hv (.inr (.inr ⟨_,_,_,rfl⟩))
  · cases hs
theorem if_some {α:Type}{c:Bool}{a:Option α}{r:α}(h:(if c=true then a else none)=some r):c=true∧a=some r:=by
  cases c with
  | true=>exact ⟨rfl,by simpa using h⟩
  | false=>simp at h
theorem nilp_of {b:A}(h:(match b with | .c .nilp=>true | _=>false)=true):b=.c .nilp:=by
  split at h
  · rfl
  · cases h
theorem nili_of {b:A}(h:(match b with | .c .nili=>true | _=>false)=true):b=.c .nili:=by
  split at h
  · rfl
  · cases h
theorem s_bin {cx:Cx}(hk:Ok P cx){bo:BinOp}{T T2:TypeId}{y z:Operand}(ho:op.op=.binOp bo T y z T2)(hd:op.dst=some t)(h:(bnd (P.underlying T) fun u=>bnd (opA y) fun a=>bnd (opA z) fun b =>
    if isAggB u then match (generalizing:=false) bo with
      | .eql=>(cx.eqT.lookup T).map fun ts=>O.eqs t ts true a b
      | .neq=>(cx.eqT.lookup T).map fun ts=>.eqs t ts false a b
      | _=>none
    else match (generalizing:=false) u,bo with
      | .bool,.eql=>some (.beq t true a b)
      | .bool,.neq=>some (.beq t false a b)
      | .pointer _,.eql=>if b matches .c .nilp then some (.isn t true false a) else none
      | .pointer _,.neq=>if b matches .c .nilp then some (.isn t false false a) else none
      | .interface _,.eql=>if b matches .c .nili then some (.isn t true true a) else none
      | .interface _,.neq=>if b matches .c .nili then some (.isn t false true a) else none
      | .int _,_=>(ar bo).map fun r=>.bin t r a b
      | .string,_=>(ar bo).map fun r=>.bin t r a b
      | _,_=>none)=some x):SOk P C d op x:=by
  intro s s' hs
  simp only [bnd_eq] at h
  obtain ⟨u,hu,a,ha,b,hb,h⟩:=h
  have eqs:∀ (e:Bool) ts,bo=(if e then .eql else .neq)→cx.eqT.lookup T=some ts→∀ s s',step C d (.eqs t ts e a b) s=some s'→OpOk P op d s s':=by
    intro e ts hbo hts s s' hs
    simp only [step] at hs
    split at hs
    · rename_i X Y hX hY
      simp only [zE] at hs
      obtain ⟨r,hr,rfl⟩:=hs
      exact ok_eqs hk ho hd hbo hts (opA_cases ha) (opA_cases hb) hX hY hr
    · cases hs
  have beq:∀ (e:Bool),bo=(if e then .eql else .neq)→P.underlying T=some .bool→∀ s s',step C d (.beq t e a b) s=some s'→OpOk P op d s s':=by
    intro e hbo hT s s' hs
    simp only [step] at hs
    split at hs
    · rename_i p q hp hq;cases hs;exact ok_beq ho hd hbo hT (opA_cases ha) (opA_cases hb) hp hq
    · cases hs
  have bin:∀ r,ar bo=some r→∀ s s',step C d (.bin t r a b) s=some s'→OpOk P op d s s':=by
    intro r hr s s' hs
    simp only [step,zE] at hs
    obtain ⟨v,hv,rfl⟩:=hs
    exact ok_bin ho hd hr (opA_cases ha) (opA_cases hb) hv
  have isp:∀ (e:Bool) e0,bo=(if e then .eql else .neq)→P.underlying T=some (.pointer e0)→b=.c .nilp→∀ s s',step C d (.isn t e false a) s=some s'→OpOk P op d s s':=by
    intro e e0 hbo hT hn s s' hs
    simp only [step] at hs
    split at hs
    · rename_i hp;cases hs;exact ok_isn_ptr ho hd hbo hT (opA_cases ha) (hn▸opA_cases hb) (by assumption)
    · rename_i hp;cases hs;exact ok_isn_nil ho hd hbo hT (opA_cases ha) (hn▸opA_cases hb) (by assumption)
    · rename_i hf _;cases hf
    · cases hs
  have isi:∀ (e:Bool) ms,bo=(if e then .eql else .neq)→P.underlying T=some (.interface ms)→b=.c .nili→∀ s s',step C d (.isn t e true a) s=some s'→OpOk P op d s s':=by
    intro e ms hbo hT hn s s' hs
    have hz:∃ v,z=.const v:=by
      subst hn
      rcases opA_cases hb with ⟨n,_,h⟩ | _
      · cases h
      · cases z with
        | const v=>exact ⟨v,rfl⟩
        | tmp n=>simp only [opA,zI] at hb;cases hb
        | func f=>simp only [opA,zI] at hb;cases hb
        | global g=>simp only [opA] at hb;cases hb
    simp only [step] at hs
    split at hs
    · rename_i hf _;cases hf
    · rename_i hf _;cases hf
    · rename_i hp;cases hs;exact ok_isi ho hd hbo hT (opA_cases ha) hz (hn▸opA_cases hb) (by assumption)
    · cases hs
  split at h
  · split at h
    · simp only [zE] at h;obtain ⟨ts,hts,rfl⟩:=h;exact eqs true ts rfl hts s s' hs
    · simp only [zE] at h;obtain ⟨ts,hts,rfl⟩:=h;exact eqs false ts rfl hts s s' hs
    · cases h
  · split at h
    · cases h;exact beq true rfl hu s s' hs
    · cases h;exact beq false rfl hu s s' hs
    · obtain ⟨hm,h⟩:=if_some h
      cases h
      exact isp true _ rfl hu (nilp_of hm) s s' hs
    · obtain ⟨hm,h⟩:=if_some h
      cases h
      exact isp false _ rfl hu (nilp_of hm) s s' hs
    · obtain ⟨hm,h⟩:=if_some h
      cases h
      exact isi true _ rfl hu (nili_of hm) s s' hs
    · obtain ⟨hm,h⟩:=if_some h
      cases h
      exact isi false _ rfl hu (nili_of hm) s s' hs
    · simp only [zE] at h;obtain ⟨r,hr,rfl⟩:=h;exact bin r hr s s' hs
    · simp only [zE] at h;obtain ⟨r,hr,rfl⟩:=h;exact bin r hr s s' hs
    · cases h
end Go.Den
namespace Go.Den
variable {P:Program} {op:Oper} {d t:Nat} {C:CallF} {x:O}
theorem s_not {T:TypeId}{y:Operand}(ho:op.op=.unOp .not T y)(hd:op.dst=some t)(h:(opA y).map (.not t)=some x):SOk P C d op x:=by
  intro s s' hs
  simp only [zE] at h
  obtain ⟨a,ha,rfl⟩:=h
  simp only [step] at hs
  split at hs
  · rename_i b hb;cases hs;exact ok_not ⟨T,ho⟩ hd (opA_cases ha) hb
  · cases hs
theorem s_neg {T:TypeId}{y:Operand}(ho:op.op=.unOp .neg T y)(hd:op.dst=some t)(h:(opA y).map (.neg t)=some x):SOk P C d op x:=by
  intro s s' hs
  simp only [zE] at h
  obtain ⟨a,ha,rfl⟩:=h
  simp only [step] at hs
  split at hs
  · rename_i k n hb;cases hs;exact ok_neg ⟨T,ho⟩ hd (opA_cases ha) hb
  · cases hs
theorem u8_ofS {u:Option TypeDesc}(h:(match u with | some (.int .u8)=>true | _=>false)=true):u=some (.int .u8):=by
  split at h
  · rfl
  · cases h
theorem s_cvt {S T:TypeId}{y:Operand}(ho:op.op=.convert S T y)(hd:op.dst=some t)(h:(bnd (opA y) fun a=>match P.underlying S,P.underlying T with
    | some (.int _),some (.int k)=>some (O.cvt t k a)
    | some .string,some (.slice e)=>if P.underlying e matches some (.int .u8) then some (.s2b t a) else none
    | some (.slice e),some .string=>if P.underlying e matches some (.int .u8) then some (.b2s t a) else none
    | _,_=>none)=some x):SOk P C d op x:=by
  intro s s' hs
  simp only [bnd_eq] at h
  obtain ⟨a,ha,h⟩:=h
  split at h
  · rename_i k0 k hS hT
    cases h
    simp only [step] at hs
    split at hs
    · rename_i k' n hb;cases hs;exact ok_cvt ho hd hS hT (opA_cases ha) hb
    · cases hs
  · rename_i e hS hT
    obtain ⟨he,h⟩:=if_some h
    cases h
    simp only [step] at hs
    split at hs
    · rename_i b hb
      split at hs
      · cases hs;exact ok_s2b ho hd hS hT (u8_ofS he) (opA_cases ha) hb
      · cases hs
    · cases hs
  · rename_i e hS hT
    obtain ⟨he,h⟩:=if_some h
    cases h
    simp only [step] at hs
    split at hs
    · rename_i es hb
      simp only [zE] at hs
      obtain ⟨l,hl,rfl⟩:=hs
      exact ok_b2s ho hd hS (u8_ofS he) hT (opA_cases ha) hb hl
    · cases hs
  · cases h
theorem opAL_L:∀ {xs:List Operand}{l:List A},opAL xs=some l→OpdL xs l
  | [],l,h=>by simp only [opAL] at h;cases h;simp only [OpdL]
  | y::r,l,h=>by
    simp only [opAL,bnd_eq] at h
    obtain ⟨a,ha,q,hq,h⟩:=h
    cases h
    simp only [OpdL]
    exact ⟨opA_cases ha,opAL_L hq⟩
theorem opTL_L:∀ {ts:List TypeId}{xs:List Operand}{l:List A},opTL P ts xs=some l→OpdL xs l
  | ts,[],l,h=>by
    cases ts<;>(simp only [opTL] at h;cases h;simp only [OpdL])
  | t::ts,y::r,l,h=>by
    simp only [opTL,bnd_eq] at h
    obtain ⟨a,ha,q,hq,h⟩:=h
    cases h
    simp only [OpdL]
    exact ⟨opT_cases ha,opTL_L hq⟩
  | [],y::r,l,h=>by
    simp only [opTL,bnd_eq] at h
    obtain ⟨a,ha,q,hq,h⟩:=h
    cases h
    simp only [OpdL]
    exact ⟨opA_cases ha,opTL_L hq⟩
theorem opO_O {y:Option Operand}{a:Option A}(h:opO y=some a):OpdO y a:=by
  cases y with
  | none=>simp only [opO] at h;cases h;trivial
  | some y =>
    simp only [opO,zE] at h
    obtain ⟨a',ha,rfl⟩:=h
    exact opA_cases ha
theorem OpdL.rl {w0:World}{g0:G}{s:St}{a:Act}{w:World}{g:G}(hI:Inv w0 g0 d s a w g):∀ {xs:List Operand}{l:List A},OpdL xs l→(l.all fun y=>!(y.ev s.r).uq)=true→RL w g (l.map (·.ev s.r)) (xs.map a.eval)
  | [],[],_,_=>by simp only [RL,List.map_nil]
  | x::r,y::q,h,hu=>by
    simp only [OpdL] at h
    simp only [List.all_cons,Bool.and_eq_true,Bool.not_eq_true'] at hu
    simp only [List.map_cons,RL]
    exact ⟨_,_,rfl,h.1.r hI hu.1,OpdL.rl hI h.2 hu.2⟩
  | [],_::_,h,_=>by simp only [OpdL] at h
  | _::_,[],h,_=>by simp only [OpdL] at h
theorem s_mkf {f:Nat}{fs cs:Array Operand}(ho:op.op=.makeFunc (.func f) fs cs)(hd:op.dst=some t)(h:(bnd (opAL fs.toList) fun a=>(opAL cs.toList).map (.mkf t f a))=some x):SOk P C d op x:=by
  intro s s' hs
  simp only [bnd_eq,zE] at h
  obtain ⟨a,ha,b,hb,rfl⟩:=h
  simp only [step] at hs
  split at hs
  · rename_i hu
    cases hs
    rw [Bool.and_eq_true] at hu
    exact ok_mkf ho hd (fun w0 g0 a w g hI=>by have:=(opAL_L ha).rl hI hu.1;simpa using this) (fun w0 g0 a w g hI=>by have:=(opAL_L hb).rl hI hu.2;simpa using this)
  · cases hs
theorem s_mks {T:TypeId}{y z:Operand}(ho:op.op=.makeSlice T y z)(hd:op.dst=some t)(h:(match P.underlying T with
    | some (.slice e)=>bnd (zcells P e) fun w=>bnd (opA y) fun a=>(opA z).map (.mks t w a)
    | _=>none)=some x):SOk P C d op x:=by
  intro s s' hs
  split at h
  · rename_i e hT
    simp only [bnd_eq,zE] at h
    obtain ⟨w,hw,a,ha,b,hb,rfl⟩:=h
    simp only [step] at hs
    split at hs
    · rename_i n c hn hc
      split at hs
      · rename_i hh;cases hs;exact ok_mks ho hd hT hw (opA_cases ha) (opA_cases hb) hn hc hh
      · cases hs
    · cases hs
  · cases h
theorem s_slc {T:TypeId}{y:Operand}{lo hi mx:Option Operand}(ho:op.op=.slice T y lo hi mx)(hd:op.dst=some t)(h:(match P.underlying T with
    | some .string=>bnd (opA y) fun a=>bnd (opO lo) fun l=>bnd (opO hi) fun k=>(opO mx).map (.slc t 0 true a l k)
    | some (.slice e)=>bnd (P.info? e) fun i=>if 0 < i.size then bnd (opA y) fun a=>bnd (opO lo) fun l=>bnd (opO hi) fun k=>(opO mx).map (.slc t i.size false a l k) else none
    | _=>none)=some x):SOk P C d op x:=by
  intro s s' hs
  split at h
  · rename_i hT
    simp only [bnd_eq,zE] at h
    obtain ⟨a,ha,l,hl,k,hk,m,hm,rfl⟩:=h
    simp only [step,zE] at hs
    obtain ⟨v,hv,rfl⟩:=hs
    unfold slcV at hv
    split at hv
    · rename_i b hb
      split at hv
      · rename_i l1 h1 hl1 hh1 hm1
        split at hv
        · rename_i hc
          cases hv
          have hm0:m=none:=by cases m<;>simp_all
          subst hm0
          have hmx:mx=none:=by
            have:=opO_O hm
            cases mx with
            | none=>rfl
            | some q=>simp only [OpdO] at this
          subst hmx
          rw [str_dem hb]
          exact ok_slc_str ho hd hT (opA_cases ha) (opO_O hl) (opO_O hk) hb hl1 hh1 hc.1 hc.2
        · cases hv
      · cases hv
    · rename_i hf _;cases hf
    · rename_i hf _;cases hf
    · cases hv
  · rename_i e hT
    simp only [bnd_eq] at h
    obtain ⟨i,hi0,h⟩:=h
    split at h
    · simp only [bnd_eq,zE] at h
      obtain ⟨a,ha,l,hl,k,hk,m,hm,rfl⟩:=h
      simp only [step,zE] at hs
      obtain ⟨v,hv,rfl⟩:=hs
      unfold slcV at hv
      split at hv
      · rename_i hf _;cases hf
      · rename_i z' es o hb
        split at hv
        · rename_i hz
          split at hv
          · rename_i l1 h1 hl1 hh1 hm1
            split at hv
            · rename_i hc
              cases hv
              have hm0:m=none:=by cases m<;>simp_all
              have:=ok_slc_sl (P:=P) (op:=op) (d:=d) (t:=t) (s:=s) (full:=false) ho hd hT hi0 (opA_cases ha) (opO_O hl) (opO_O hk) (opO_O hm) hb hz hl1 hh1 hc.1 hc.2 (by simpa using hm0)
              simpa using this
            · cases hv
          · rename_i l1 h1 mv hl1 hh1 hm1
            split at hv
            · rename_i hc
              cases hv
              have:=ok_slc_sl (P:=P) (op:=op) (d:=d) (t:=t) (s:=s) (full:=true) ho hd hT hi0 (opA_cases ha) (opO_O hl) (opO_O hk) (opO_O hm) hb hz hl1 hh1 hc.1 hc.2.1 (by
                rw [if_pos rfl,hm1]
                refine ⟨?_,?_,hc.2.2.1⟩
                · simpa using hc.2.2.2
                · cases m with
                  | none=>cases hm1
                  | some q=>rfl)
              simpa using this
            · cases hv
          · cases hv
        · cases hv
      · rename_i k2 z' b0 n hb
        split at hv
        · rename_i hz
          subst hz
          split at hv
          · rename_i l1 h1 hl1 hh1 hm1
            split at hv
            · rename_i hc
              cases hv
              have hm0:m=none:=by cases m<;>simp_all
              subst hm0
              have hmx:mx=none:=by
                have:=opO_O hm
                cases mx with
                | none=>rfl
                | some q=>simp only [OpdO] at this
              subst hmx
              rw [arr_dem hb]
              exact ok_slc_arr ho hd hT hi0 (opA_cases ha) (opO_O hl) (opO_O hk) hb hl1 hh1 hc.1 hc.2
            · cases hv
          · cases hv
        · cases hv
      · cases hv
    · cases h
  · cases h
theorem s_fa {T:TypeId}{y:Operand}{k:Nat}(ho:op.op=.fieldAddr T y k)(hd:op.dst=some t)(h:(bnd (slot y) fun u=>(fieldOf P T k).map fun f=>.fa t u f.1)=some x):SOk P C d op x:=by
  intro s s' hs
  simp only [bnd_eq,zE] at h
  obtain ⟨u,hu,⟨off,ft,sz⟩,hf,rfl⟩:=h
  rw [slot_eq hu] at ho
  simp only [step] at hs
  split at hs
  · rename_i hv;cases hs;exact ok_fa_ptr ho hd hf hv
  · rename_i hv;cases hs;exact ok_fa_pin ho hd hf hv
  · cases hs
theorem s_fld {T:TypeId}{y:Operand}{k:Nat}(ho:op.op=.field T y k)(hd:op.dst=some t)(h:(bnd (opA y) fun a=>bnd (fieldOf P T k) fun f=>(szo P f.2.1).map (.fld t a f.1))=some x):SOk P C d op x:=by
  intro s s' hs
  simp only [bnd_eq,zE] at h
  obtain ⟨a,ha,⟨off,ft,sz⟩,hf,z,hz,rfl⟩:=h
  simp only [step] at hs
  split at hs
  · rename_i cs hv
    split at hs
    · simp only [zE] at hs
      obtain ⟨v,hv2,rfl⟩:=hs
      exact ok_fld ho hd hf hz (opA_cases ha) hv hv2
    · split at hs
      · rename_i hc;cases hs;exact ok_fld ho hd hf hz (opA_cases ha) hv (by simp only;rw [if_pos hc])
      · cases hs
  · cases hs
theorem s_ia {T:TypeId}{y z:Operand}(ho:op.op=.indexAddr T y z)(hd:op.dst=some t)(h:(match P.underlying T with
    | some (.slice e)=>bnd (P.info? e) fun f=>if 0 < f.size then bnd (opA y) fun a=>(opA z).map (.ia t f.size a) else none
    | some (.array n e)=>bnd (P.info? e) fun f=>if 0 < f.size then bnd (opA y) fun a=>(opA z).map (.iap t n f.size a) else none
    | _=>none)=some x):SOk P C d op x:=by
  intro s s' hs
  split at h
  · rename_i e hT
    simp only [bnd_eq] at h
    obtain ⟨i,hi,h⟩:=h
    split at h
    · simp only [bnd_eq,zE] at h
      obtain ⟨a,ha,b,hb,rfl⟩:=h
      simp only [step] at hs
      split at hs
      · rename_i z' es o k n hv hn
        split at hs
        · rename_i hc
          obtain ⟨rfl,h0,h1⟩:=hc
          cases hs
          exact ok_ia_sl ho hd hT hi (opA_cases ha) (opA_cases hb) hv hn h0 h1
        · cases hs
      · rename_i k2 z2 lo m k n hv hn
        split at hs
        · split at hs
          · rename_i hc
            obtain ⟨_,rfl,h0,h1,_⟩:=hc
            cases hs
            exact ok_ia_arr ho hd hT hi (opA_cases ha) (opA_cases hb) hv hn h0 h1
          · cases hs
        · split at hs
          · rename_i hc
            obtain ⟨_,rfl,h0,h1,_⟩:=hc
            cases hs
            exact ok_ia_arr ho hd hT hi (opA_cases ha) (opA_cases hb) hv hn h0 h1
          · cases hs
        · cases hs
      · cases hs
    · cases h
  · rename_i m e hT
    simp only [bnd_eq] at h
    obtain ⟨i,hi,h⟩:=h
    split at h
    · simp only [bnd_eq,zE] at h
      obtain ⟨a,ha,b,hb,rfl⟩:=h
      simp only [step] at hs
      split at hs
      · rename_i hv hn
        split at hs
        · rename_i hc;cases hs;exact ok_iap_ptr ho hd hT hi (opA_cases ha) (opA_cases hb) hv hn hc.1 hc.2
        · cases hs
      · rename_i hv hn
        split at hs
        · rename_i hc;cases hs;exact ok_iap_pin ho hd hT hi (opA_cases ha) (opA_cases hb) hv hn hc.1 hc.2
        · cases hs
      · cases hs
    · cases h
  · cases h
theorem s_ix {T:TypeId}{y z:Operand}(ho:op.op=.index T y z)(hd:op.dst=some t)(h:(match P.underlying T with
    | some .string=>bnd (opA y) fun a=>(opA z).map (.ixs t a)
    | some (.array n e)=>bnd (szo P e) fun s=>bnd (opA y) fun a=>(opA z).map (.ixa t n (s.getD 1) s.isSome a)
    | _=>none)=some x):SOk P C d op x:=by
  intro s s' hs
  split at h
  · rename_i hT
    simp only [bnd_eq,zE] at h
    obtain ⟨a,ha,b,hb,rfl⟩:=h
    simp only [step] at hs
    split at hs
    · rename_i hv hn
      split at hs
      · rename_i hc;cases hs;exact ok_ixs ho hd hT (opA_cases ha) (opA_cases hb) hv hn hc
      · cases hs
    · cases hs
  · rename_i m e hT
    simp only [bnd_eq,zE] at h
    obtain ⟨sz,hsz,a,ha,b,hb,rfl⟩:=h
    simp only [step] at hs
    split at hs
    · rename_i cs k n hv hn
      split at hs
      · rename_i hc
        cases sz with
        | none =>
          rw [if_neg (by simp)] at hs
          simp only [zE] at hs
          obtain ⟨v,hv2,rfl⟩:=hs
          exact ok_ixa ho hd hT hsz (opA_cases ha) (opA_cases hb) hv hn hc.1 hc.2 hv2
        | some q =>
          rw [if_pos (by simp)] at hs
          split at hs
          · rename_i hq;cases hs;exact ok_ixa ho hd hT hsz (opA_cases ha) (opA_cases hb) hv hn hc.1 hc.2 (by simp only [Option.getD_some] at hq ⊢;rw [if_pos hq])
          · cases hs
      · cases hs
    · cases hs
  · cases h
theorem str_of {u:Option TypeDesc}(h:(match u with | some .string=>true | _=>false)=true):u=some .string:=by
  split at h
  · rfl
  · cases h
theorem s_rng {T:TypeId}{y:Operand}(ho:op.op=.range T y)(hd:op.dst=some t)(h:(if P.underlying T matches some .string then (opA y).map (.rng t) else none)=some x):SOk P C d op x:=by
  intro s s' hs
  obtain ⟨hT,h⟩:=if_some h
  simp only [zE] at h
  obtain ⟨a,ha,rfl⟩:=h
  simp only [step] at hs
  split at hs
  · rename_i b hb
    simp only [zE] at hs
    obtain ⟨s1,h1,rfl⟩:=hs
    exact ok_rng ho hd (str_of hT) (opA_cases ha) hb h1
  · cases hs
theorem s_nxt {y:Operand}(ho:op.op=.next y true)(hd:op.dst=some t)(h:(slot y).map (.nxt t)=some x):SOk P C d op x:=by
  intro s s' hs
  simp only [zE] at h
  obtain ⟨u,hu,rfl⟩:=h
  rw [slot_eq hu] at ho
  simp only [step] at hs
  split at hs
  · rename_i k hv
    split at hs
    · rename_i b p hg
      have:=ok_nxt (P:=P) (op:=op) (d:=d) (t:=t) (s:=s) ho hd hv hg
      split at hs
      · rename_i hp;cases hs;rwa [if_pos hp] at this
      · rename_i hp;cases hs;rwa [if_neg hp] at this
    · cases hs
  · cases hs
theorem s_ext {y:Operand}{i:Nat}(ho:op.op=.extract y i)(hd:op.dst=some t)(h:(slot y).map (fun u=>O.ext t u i)=some x):SOk P C d op x:=by
  intro s s' hs
  simp only [zE] at h
  obtain ⟨u,hu,rfl⟩:=h
  rw [slot_eq hu] at ho
  simp only [step] at hs
  split at hs
  · rename_i vs hv
    simp only [zE] at hs
    obtain ⟨v,hv2,rfl⟩:=hs
    exact ok_ext' ho hd hv hv2
  · cases hs
theorem s_mkm {T:TypeId}(ho:op.op=.makeMap T none)(hd:op.dst=some t)(h:some (O.mkm t)=some x):SOk P C d op x:=by
  intro s s' hs
  cases h
  simp only [step,zE] at hs
  obtain ⟨s1,h1,rfl⟩:=hs
  exact ok_mkm ho hd h1
theorem s_mset {T:TypeId}{m k y:Operand}(ho:op.op=.mapUpdate T m k y∨op.op=.insert T m k y)(hd:op.dst=none)(h:(bnd (keyT P T) fun ks=>bnd (opA m) fun m=>bnd (opA k) fun k=>(opA y).map (.mset ks m k))=some x):SOk P C d op x:=by
  intro s s' hs
  simp only [bnd_eq,zE] at h
  obtain ⟨ks,hks,m',hm,k',hk,y',hy,rfl⟩:=h
  simp only [step] at hs
  split at hs
  · rename_i q hq
    split at hs
    · rename_i es hes
      split at hs
      · rename_i hc
        simp only [zE] at hs
        obtain ⟨e,he,rfl⟩:=hs
        exact ok_mset ho hd hks (opA_cases hm) (opA_cases hk) (opA_cases hy) hq hes hc.2.1 hc.2.2.1 hc.2.2.2 he
      · cases hs
    · cases hs
  · cases hs
theorem s_mget {T:TypeId}{m k:Operand}{ok:Bool}(ho:op.op=.lookup T m k ok)(hd:op.dst=some t)(h:(match P.underlying T with
    | some (.map _ e)=>bnd (keyT P T) fun ks=>bnd (P.info? e) fun i=>bnd i.zero fun z=>bnd (ofC z) fun z=>bnd (opA m) fun m=>(opA k).map (.mget t ok ks z m)
    | _=>none)=some x):SOk P C d op x:=by
  intro s s' hs
  split at h
  · rename_i kt e hT
    simp only [bnd_eq,zE] at h
    obtain ⟨ks,hks,i,hi,z,hz,zv,hzv,m',hm,k',hk,rfl⟩:=h
    simp only [step] at hs
    split at hs
    · rename_i q hq
      split at hs
      · rename_i es hes
        split at hs
        · rename_i v hik hmg
          cases hs
          exact ok_mget ho hd hks ⟨kt,hT⟩ hi hz hzv (opA_cases hm) (opA_cases hk) hq hes hik hmg
        · rename_i hik hmg
          cases hs
          exact ok_mget ho hd hks ⟨kt,hT⟩ hi hz hzv (opA_cases hm) (opA_cases hk) hq hes hik hmg
        · cases hs
      · cases hs
    · cases hs
  · cases h
end Go.Den
