import Derived.Test.YtblkhnacgnlbdaaGreatDoorES5
import Derived.LoopN
import Derived.Scope
set_option linter.all false
namespace Go.Den
variable {P:Program} {op:Oper} {d t:Nat} {C:CallF} {x:O} {s:St}
def Entered (P:Program)(f:Nat):Prop:=∃ fn c,P.funcs[f]?=some fn∧(fn.name == "runtime.NumGoroutine")=false∧fn.body=some c
structure Grew (w w':World):Prop where
  size:w.heap.size≤w'.heap.size
  heap:∀ b,b < w.heap.size→w'.heap[b]?=w.heap[b]?
  os:w'.os=w.os
  tape:w'.tape=w.tape
  output:w'.output=w.output
def NewRow (w w':World)(z n:Nat)(ys:List Value)(x:Value):Prop:=
  ∃ b c cur e rest,x=.slice (some ⟨b,0,none⟩) n c∧w.heap.size≤b∧w'.heap[b]?=some (.cells cur e (0,0))∧n≤c∧cur.size=c*z∧cur.toList=ys++rest
def CloneOK (P:Program)(k z:Nat):Prop:=
  Entered P k∧∀ (w:World) (p:Option Addr) (n c:Nat) (ys:List Value),n≤most→n≤c→(p=none→n=0)→ys.length=n*z→(∀ y ∈ ys,y.oneCell'=true)→(n≠0→∃ b o,p=some ⟨b,o,none⟩∧b < w.heap.size∧∀ (j:Nat) v,ys[j]?=some v→w.cell? ⟨b,o+j,none⟩=some v) →
    Calls P k #[.slice p n c] w fun
      | .returned x,w'=>Grew w w'∧(n=0∧(∃ p',x=.slice p' 0 0∧∀ ad,p'=some ad→ad.spot=none)∨n≠0∧NewRow w w' z n ys x)
      | _,_=>False
def GrowOK (P:Program)(k z:Nat):Prop:=
  Entered P k∧∀ (w:World) (n:Int),0≤n→n≤most→Calls P k #[.slice none 0 0,.int .i64 n] w fun
    | .returned x,w'=>Grew w w'∧(x=.slice none 0 0∨NewRow w w' z 0 [] x)
    | _,_=>False
structure Okk (P:Program)(cx:Cx):Prop extends Ok P cx where
  clone:∀ k z,cx.cl.lookup k=some z→CloneOK P k z
  grow:∀ k z,cx.gr.lookup k=some z→GrowOK P k z
theorem src_cells {w0:World}{g0:G}{a:Act}{w:World}{g:G}(hI:Inv w0 g0 d s a w g){y:Operand}{y':A}(hx:Opd y y'){z:Nat}{xs:List (List V)}(h:srcN d s z (y'.ev s.r)=some xs) :
    ∃ (p:Option Addr) (c:Nat) (ys:List Value),a.eval y=.slice p xs.length c∧xs.length≤c∧(p=none→xs.length=0)∧Rows' w g.K z ys xs∧(xs.length≠0→∃ b o,p=some ⟨b,o,none⟩∧b < w.heap.size∧∀ (j:Nat) v,ys[j]?=some v→w.cell? ⟨b,o+j,none⟩=some v):=by
  have fromBlock:∀ (b o len cap:Nat) (es:List (List V)),RPr w g.K b z o es→b < w.heap.size→a.eval y=.slice (some ⟨b,o,none⟩) len cap→len=es.length→len≤cap →
      ∃ (p:Option Addr) (c:Nat) (ys:List Value),a.eval y=.slice p es.length c∧es.length≤c∧(p=none→es.length=0)∧Rows' w g.K z ys es∧(es.length≠0→∃ b o,p=some ⟨b,o,none⟩∧b < w.heap.size∧∀ (j:Nat) v,ys[j]?=some v→w.cell? ⟨b,o+j,none⟩=some v):=by
    intro b o len cap es hr hb he hl hc
    obtain ⟨ys,h1,h2⟩:=Rows'.of_RPr hr
    subst hl
    exact ⟨_,cap,ys,he,hc,fun h=>(by cases h),h1,fun _=>⟨b,o,rfl,hb,h2⟩⟩
  have nothing:∀ (p:Option Addr) c,a.eval y=.slice p 0 c→xs=[]→∃ (p:Option Addr) (c:Nat) (ys:List Value),a.eval y=.slice p xs.length c∧xs.length≤c∧(p=none→xs.length=0)∧Rows' w g.K z ys xs∧(xs.length≠0→∃ b o,p=some ⟨b,o,none⟩∧b < w.heap.size∧∀ (j:Nat) v,ys[j]?=some v→w.cell? ⟨b,o+j,none⟩=some v):=by
    intro p c he hx
    subst hx
    exact ⟨p,c,[],he,Nat.zero_le _,fun _=>rfl,⟨by simp,by simp⟩,fun h=>absurd rfl h⟩
  unfold srcN at h
  split at h
  · cases h
  · rename_i hns
    unfold srcV at h
    split at h
    · rename_i z' es o hv
      split at h
      · rename_i hz
        cases h
        cases hes:xs with
        | nil =>
          subst hes
          obtain ⟨p,c,hp⟩:=hx.slice hI hv
          exact nothing p c hp rfl
        | cons e r =>
          rw [← hes]
          have hz':z'=z:=by rcases hz with h | h;exact h;rw [hes] at h;cases h
          subst hz'
          rcases uq_cases (y'.ev s.r) with hu | ⟨z2,es2,hu⟩
          · have hr:=hx.r hI hu
            rw [hv] at hr
            simp only [R] at hr
            obtain ⟨_,p,c,hp,⟨hc,hn,hs⟩,_⟩:=hr
            cases p with
            | none=>have:=(hn rfl).1;rw [hes] at this;cases this
            | some ad =>
              obtain ⟨k1,k2,k3⟩:=hs ad rfl
              obtain ⟨bb,oo,sp⟩:=ad
              simp only at k1
              subst k1
              exact fromBlock bb oo _ c xs k3 (k2 (by rw [hes];simp)).2 hp rfl hc
          · rcases hx with ⟨n,rfl,rfl⟩ | ⟨u,rfl,hu',_⟩
            · have hr:=hI.regs n
              simp only [A.ev] at hu hv
              rw [hu] at hv
              cases hv
              rw [hu] at hr
              simp only [RT] at hr
              rcases hr with ⟨he,hes2⟩ | ⟨b,c,cur,el,fz,he,hc,hk,hh,hsz,hth,hr⟩
              · rw [hes] at hes2;cases hes2
              · exact fromBlock b 0 _ c xs hr (heap_lt hh) he rfl hc
            · simp only [A.ev] at hu;rw [hu] at hu';simp [V.uq] at hu'
      · cases h
    · rename_i b hv;exact absurd hv (hns b)
    · rename_i k z2 lo n hv
      split at h
      · rename_i z' es fr hg
        split at h
        · rename_i hc
          cases h
          obtain ⟨e1,e2,hle⟩:=hc
          subst e1 e2
          obtain ⟨b,p,c,hA,he,hnc,hp⟩:=hx.arr hI hv
          have ho:=hI.objs k _ hg
          simp only [ObjR] at ho
          obtain ⟨b',h1,h2⟩:=ho
          rw [hA] at h1
          cases h1
          have hlen:((es.drop lo).take n).length=n:=by rw [List.length_take,List.length_drop];omega
          rcases Nat.eq_zero_or_pos n with h0 | h0
          · subst h0
            exact nothing p c he (by simp)
          · have hp':p=some ⟨b,lo*z2,none⟩:=by rcases hp with h | h;exact h.1;exact absurd h.1 (by omega)
            subst hp'
            rcases h2 with rfl | ⟨cur,el,fz,h3,h4,h5,h6⟩
            · simp at hle;omega
            · have hr:=RPr_sub h6 lo (lo+n)
              have e:(es.take (lo+n)).drop lo=(es.drop lo).take n:=by rw [List.drop_take];congr 1;omega
              rw [e,Nat.zero_add] at hr
              exact fromBlock b (lo*z2) n c _ hr (heap_lt h3) he hlen.symm hnc
        · cases h
      · cases h
    · cases h
theorem keep_grew {w w':World}{g:G}(h:Grew w w')(f:Nat→Kd)(S:Lc→Prop)(T:Key→Prop):Keep w g w' { g with K:=fun b=>if b < w.heap.size then g.K b else f b } S T where
  size:=h.size
  rows:=fun b hb=>rowSize_of (h.heap b hb)
  imm:=fun b hb hi=>⟨by simp only;rw [if_pos hb];exact hi,h.heap b hb⟩
  os:=h.os
  tape:=h.tape
  output:=h.output
  held:=fun b hb hi=>⟨by simp only;rw [if_pos hb];exact hi,h.heap b hb⟩
  priv:=fun l _ b hb hi=>⟨by simp only;rw [if_pos hb];exact hi,h.heap b hb⟩
  obj:=fun k _ b hb hi=>⟨by simp only;rw [if_pos hb];exact hi,h.heap b hb⟩
  A:=fun _ _ h=>h
theorem OpOk.enter {f:Nat}{args:Act→Array Value}{o:Oper}{s s':St}(he:Entered P f)(hrun:∀ w0 g0 a w g,Inv w0 g0 d s a w g→(execOp a.eval o).run P w=(callFunc f (args a)).run P w)
    (h:∀ w0 g0 a w g,Inv w0 g0 d s a w g→Calls P f (args a) w fun | .returned x,w'=>∃ g',Inv w0 g0 d s' (a.put o.dst x) w' g' | _,_=>False):OpOk P o d s s':=by
  intro w0 g0 a w g hI next Q hn
  obtain ⟨fn,c,hfn,hname,hb⟩:=he
  have h2:(execOp a.eval o).run P w=.ok (.enter f (args a)) w:=by
    rw [hrun w0 g0 a w g hI]
    have h1:fn.name≠"runtime.NumGoroutine":=by simpa using hname
    simp [callFunc,hfn,h1,hb]
  unfold Oper.wp
  rw [h2,Oper.upon_enter]
  refine (h w0 g0 a w g hI).mono ?_
  intro e w' he
  cases e with
  | returned x=>obtain ⟨g',I2⟩:=he;exact hn _ _ _ I2
  | panicked c=>exact he.elim
  | outgrown=>exact he.elim
theorem new_row {w0:World}{g0:G}{a:Act}{w w':World}{g:G}(hI:Inv w0 g0 d s a w g){z:Nat}{xs:List (List V)}{ys:List Value}{x:Value}(hw:Grew w w')(hr:Rows' w g.K z ys xs)(h:NewRow w w' z xs.length ys x):∃ g',Inv w0 g0 d (s.put t (.sl z xs .uniq)) (a.put (some t) x) w' g':=by
  obtain ⟨b,c,cur,e,rest,hx,hb,hh,hn,hs,hc⟩:=h
  have kp:=keep_grew (g:=g) hw (fun q=>if q=b then .priv (.reg t) else .imm) (fun _=>True) (fun _=>True)
  refine ⟨_,(hI.keepAll kp fun _=>rfl).put ?_⟩
  simp only [RT]
  refine .inr ⟨b,c,cur,e,(0,0),hx,hn,?_,hh,Nat.le_of_eq hs.symm,thaw_zero _,RPr_new (hr.ext kp.toExt) hh hc⟩
  simp only
  rw [if_neg (by omega),if_pos trivial]
theorem ok_clone {k z:Nat}(hk:CloneOK P k z){y:Operand}{ts:Array TypeId}{y':A}{xs:List (List V)}(ho:op.op=.call { callee:=.value (.func k),args:=#[y],argTypes:=ts })(hd:op.dst=some t)(hx:Opd y y')(h:srcN d s z (y'.ev s.r)=some xs)(hm:xs.length≤most):OpOk P op d s (s.put t (.sl z xs (tq xs))):=by
  refine OpOk.enter (args:=fun a=>#[a.eval y]) hk.1 (fun w0 g0 a w g hI=>?_) fun w0 g0 a w g hI=>?_
  · simp [execOp,ho,resolve,Act.eval,Deferred.ofValue,invoke]
  · obtain ⟨p,c,ys,h1,h2,h3,h4,h5⟩:=src_cells hI hx h
    rw [h1]
    refine (hk.2 w p xs.length c ys hm h2 h3 h4.1 h4.one h5).mono ?_
    intro e w' he
    cases e with
    | panicked c=>exact he.elim
    | outgrown=>exact he.elim
    | returned x =>
      obtain ⟨hw,he⟩:=he
      rw [hd]
      rcases he with ⟨h0,p',hx',hsp⟩ | ⟨h0,hn⟩
      · have hnil:xs=[]:=List.length_eq_zero_iff.mp h0
        subst hnil
        have kp:=keep_grew (g:=g) hw (fun _=>.imm) (fun _=>True) (fun _=>True)
        refine ⟨_,(hI.keepAll kp fun _=>rfl).put ?_⟩
        simp only [RT,R,tq,List.isEmpty_nil,if_true]
        exact ⟨by simp,p',0,hx',⟨Nat.le_refl _,fun _=>⟨rfl,rfl⟩,fun ad ha=>⟨hsp ad ha,fun h=>absurd rfl h,by simp only [RPr]⟩⟩,fun _=>rfl⟩
      · have e6:tq xs=.uniq:=by
          unfold tq
          rw [if_neg]
          cases xs with
          | nil=>exact absurd rfl h0
          | cons a r=>simp
        rw [e6]
        exact new_row hI hw h4 hn
theorem ok_grow {k z:Nat}(hk:GrowOK P k z){y v:Operand}{ts:Array TypeId}{y':A}{n:Int}(ho:op.op=.call { callee:=.value (.func k),args:=#[v,y],argTypes:=ts })(hd:op.dst=some t)(hv:v=.const (.slice none 0 0))(hx:Opd y y')(h:y'.ev s.r=.int .i64 n)(h0:0≤n)(hm:n≤16777216):OpOk P op d s (s.put t (.sl z [] .uniq)):=by
  refine OpOk.enter (args:=fun a=>#[.slice none 0 0,a.eval y]) hk.1 (fun w0 g0 a w g hI=>?_) fun w0 g0 a w g hI=>?_
  · simp [execOp,ho,resolve,Act.eval,Deferred.ofValue,invoke,hv]
  · rw [hx.int hI h]
    refine (hk.2 w n h0 hm).mono ?_
    intro e w' he
    cases e with
    | panicked c=>exact he.elim
    | outgrown=>exact he.elim
    | returned x =>
      obtain ⟨hw,he⟩:=he
      rw [hd]
      rcases he with hx' | hn
      · have kp:=keep_grew (g:=g) hw (fun _=>.imm) (fun _=>True) (fun _=>True)
        refine ⟨_,(hI.keepAll kp fun _=>rfl).put ?_⟩
        simp only [RT]
        exact .inl ⟨hx',rfl⟩
      · exact new_row hI hw (xs:=[]) ⟨by simp,by simp⟩ hn
end Go.Den
namespace Go.Den
variable {P:Program} {op:Oper} {d t:Nat} {C:CallF} {x:O} {s:St}
theorem arr1 {α:Type}{xs:Array α}{a:α}(h:xs.toList=[a]):xs = #[a]:=by apply Array.ext';simpa using h
theorem arr2 {α:Type}{xs:Array α}{a b:α}(h:xs.toList=[a,b]):xs = #[a,b]:=by apply Array.ext';simpa using h
theorem s_len {c:Call}(ho:op.op=.call c)(hc:c.callee=.builtin .len)(h:(match op.dst,c.args.toList,c.argTypes.toList with
    | some d,[x],[t]=>bnd (P.underlying t) fun u=>match u with
      | .string=>(opA x).map (.lens d)
      | .slice _=>(opA x).map (O.len d)
      | _=>none
    | _,_,_=>none)=some x):SOk P C d op x:=by
  intro s s' hs
  obtain ⟨cal,args,tys⟩:=c
  simp only at hc h
  subst hc
  split at h
  · rename_i t y T hd hargs htys
    rw [arr1 hargs,arr1 htys] at ho
    simp only [bnd_eq] at h
    obtain ⟨u,hu,h⟩:=h
    split at h
    · simp only [zE] at h
      obtain ⟨a,ha,rfl⟩:=h
      simp only [step] at hs
      split at hs
      · rename_i b hb;cases hs;exact ok_lens ho hd hu (opA_cases ha) hb
      · cases hs
    · simp only [zE] at h
      obtain ⟨a,ha,rfl⟩:=h
      simp only [step] at hs
      split at hs
      · rename_i hv;cases hs
        exact ok_len (x':=a) ho hd hu fun w0 g0 a w g hI=>(opA_cases ha |> fun (h:Opd _ _)=>h.slice hI hv)
      · rename_i hv;cases hs
        exact ok_len (x':=a) ho hd hu fun w0 g0 a w g hI=>by
          obtain ⟨b,p,c,_,he,_⟩:=Opd.arr (opA_cases ha) hI hv
          exact ⟨p,c,he⟩
      · cases hs
    · cases h
  · cases h
theorem s_app {c:Call}(ho:op.op=.call c)(hc:c.callee=.builtin .append)(h:(match op.dst,c.args.toList,c.argTypes.toList with
    | some d,[x,y],[t,u]=>match P.underlying t,P.underlying u with
      | some (.slice e),some (.slice _)=>bnd (P.info? e) fun i=>if 0 < i.size∧i.bytes≤1024∧(zcells P e).isSome=true then bnd (opT P t x) fun a=>(opT P u y).map (O.app d i.size a) else none
      | some (.slice e),some .string=>bnd (P.info? e) fun i=>if i.size=1∧i.bytes≤1024∧(zcells P e).isSome=true then bnd (opT P t x) fun a=>(opA y).map (.app d i.size a) else none
      | _,_=>none
    | _,_,_=>none)=some x):SOk P C d op x:=by
  intro s s' hs
  obtain ⟨cal,args,tys⟩:=c
  simp only at hc h
  subst hc
  split at h
  · rename_i t y z T U hd hargs htys
    rw [arr2 hargs,arr2 htys] at ho
    have fin:∀ (e:TypeId) (i:TypeInfo) (u:TypeDesc) (a b:A),P.underlying T=some (.slice e)→P.underlying U=some u→notInt u→P.info? e=some i→(zcells P e).isSome=true→Opd y a→Opd z b→∀ s s',step C d (.app t i.size a b) s=some s'→OpOk P op d s s':=by
      intro e i u a b hT hU hnu hi hz ha hb s s' hs
      cases hzz:zcells P e with
      | none=>rw [hzz] at hz;cases hz
      | some l =>
        simp only [step] at hs
        split at hs
        · rename_i xs hxs
          simp only [zE] at hs
          obtain ⟨v,hv,rfl⟩:=hs
          exact ok_app ho hd hT hU hnu hi hzz ha hb hxs hv
        · cases hs
    split at h
    · rename_i e e2 hT hU
      simp only [bnd_eq] at h
      obtain ⟨i,hi,h⟩:=h
      split at h
      · rename_i hcond
        simp only [bnd_eq,zE] at h
        obtain ⟨a,ha,b,hb,rfl⟩:=h
        exact fin e i _ a b hT hU (.inl ⟨_,rfl⟩) hi hcond.2.2 (opT_cases ha) (opT_cases hb) s s' hs
      · cases h
    · rename_i e hT hU
      simp only [bnd_eq] at h
      obtain ⟨i,hi,h⟩:=h
      split at h
      · rename_i hcond
        simp only [bnd_eq,zE] at h
        obtain ⟨a,ha,b,hb,rfl⟩:=h
        exact fin e i _ a b hT hU (.inr rfl) hi hcond.2.2 (opT_cases ha) (opA_cases hb) s s' hs
      · cases h
    · cases h
  · cases h
theorem s_cpy {c:Call}(ho:op.op=.call c)(hc:c.callee=.builtin .copy)(h:(match op.dst,c.args.toList,c.argTypes.toList with
    | some d,[x,y],[t,_]=>match P.underlying t with
      | some (.slice e)=>bnd (P.info? e) fun i=>if 0 < i.size then bnd (opA x) fun a=>(opA y).map (O.cpy d i.size a) else none
      | _=>none
    | _,_,_=>none)=some x):SOk P C d op x:=by
  intro s s' hs
  obtain ⟨cal,args,tys⟩:=c
  simp only at hc h
  subst hc
  split at h
  · rename_i t y z T U hd hargs htys
    rw [arr2 hargs,arr2 htys] at ho
    split at h
    · rename_i e hT
      simp only [bnd_eq] at h
      obtain ⟨i,hi,h⟩:=h
      split at h
      · simp only [bnd_eq,zE] at h
        obtain ⟨a,ha,b,hb,rfl⟩:=h
        simp only [step] at hs
        split at hs
        · rename_i k z2 lo n xs hv hxs
          split at hs
          · rename_i z' es hg
            split at hs
            · rename_i hcond
              obtain ⟨rfl,rfl,hle⟩:=hcond
              cases hs
              exact ok_cpy ho hd hT hi (opA_cases ha) (opA_cases hb) hv hxs hg hle
            · cases hs
          · cases hs
        · cases hs
      · cases h
    · cases h
  · cases h
theorem s_mnx {c:Call}{mx:Bool}(ho:op.op=.call c)(hc:c.callee=.builtin (if mx then .max else .min))(h:(match op.dst,c.args.toList with
    | some d,x::y=>bnd (opA x) fun a=>(opAL y).map (O.mnx d mx a)
    | _,_=>none)=some x):SOk P C d op x:=by
  intro s s' hs
  obtain ⟨cal,args,tys⟩:=c
  simp only at hc h
  subst hc
  split at h
  · rename_i t y l hd hargs
    have e:args = #[y]++l.toArray:=by apply Array.ext';simp [hargs]
    rw [e] at ho
    simp only [bnd_eq,zE] at h
    obtain ⟨a,ha,b,hb,rfl⟩:=h
    simp only [step] at hs
    split at hs
    · rename_i k n hv
      simp only [zE] at hs
      obtain ⟨r,hr,rfl⟩:=hs
      exact ok_mnx ho hd (opA_cases ha) (by simpa using opAL_L hb) hv hr
    · cases hs
  · cases h
theorem opA_nil {y:Operand}{z:Nat}(h:opA y=some (.c (.sl z [] .tight))):y=.const (.slice none 0 0):=by
  unfold opA at h
  split at h
  · cases h
  · cases h
  · rename_i v hn
    simp only [zE,A.c.injEq] at h
    obtain ⟨u,hu,rfl⟩:=h
    unfold ofV at hu
    split at hu
    · simp only [zE] at hu
      obtain ⟨l,_,h⟩:=hu
      cases h
    · unfold ofC at hu
      split at hu<;>first | rfl | cases hu
  · cases h
  · cases h
theorem opT_nil {T:TypeId}{y:Operand}{z:Nat}(h:opT P T y=some (.c (.sl z [] .tight))):y=.const (.slice none 0 0):=by
  unfold opT at h
  split at h
  · rfl
  · exact opA_nil h
theorem s_value {cx:Cx}(hk:Okk P cx)(hC:CallOK P C){hh:Hint}{draw:Bool}{c:Call}{f:Operand}(ho:op.op=.call c)(hc:c.callee=.value f)(h:(bnd (opA f) fun fa=>bnd (opTL P (match (generalizing:=false) f with | .func k=>((P.funcs[k]?).map (·.params.toList)).getD [] | _=>[]) c.args.toList) fun xs =>
    let plain (d:Nat):O:=if draw && !(hh.raw.contains d || hh.ob.contains d || hh.imp.contains d) then .callp d fa xs else .call (some d) (hh.raw.contains d) (hh.ob.contains d) fa xs
    match (generalizing:=false) f,op.dst,xs with
    | .func k,some d,[x]=>match cx.cl.lookup k with
      | some z=>some (.clone d z x)
      | none=>some (plain d)
    | .func k,some d,[x,y]=>if k=cx.ixb then some (.xib d x y) else if k=cx.xcs then some (.xcs d x y) else match cx.gr.lookup k,x with
      | some z,.c (.sl _ [] .tight)=>some (.grow d z y)
      | some _,_=>none
      | none,_=>some (plain d)
    | _,some d,_=>some (plain d)
    | _,none,_=>some (O.call none false false fa xs))=some x):SOk P C d op x:=by
  intro s s' hs
  obtain ⟨cal,args,tys⟩:=c
  simp only at hc h
  subst hc
  simp only [bnd_eq] at h
  obtain ⟨fa,hfa,xs,hxs,h⟩:=h
  have call:∀ (o:Option Nat) raw ob,op.dst=o→∀ s s',step C d (.call o raw ob fa xs) s=some s'→OpOk P op d s s':=by
    intro o raw ob hd s s' hs
    simp only [step] at hs
    split at hs
    · rename_i k first caps hv
      simp only [bnd_eq] at hs
      obtain ⟨q,hq,p,hp,ht⟩:=hs
      exact ok_call hC ho hd (opA_cases hfa) (opTL_L hxs) hv hq hp ht
    · cases hs
  have plain:∀ t,op.dst=some t→∀ s s',step C d (if (draw && !(hh.raw.contains t || hh.ob.contains t || hh.imp.contains t))=true then .callp t fa xs else .call (some t) (hh.raw.contains t) (hh.ob.contains t) fa xs) s=some s'→OpOk P op d s s':=by
    intro t hd s s' hs
    split at hs
    · simp only [step] at hs
      split at hs
      · rename_i k first caps hv
        simp only [bnd_eq] at hs
        obtain ⟨vs,hq,p,hp,hs⟩:=hs
        split at hs
        · cases hs
        · rename_i hw
          simp only [bnd_eq,zI] at hs
          obtain ⟨v,hv2,rfl⟩:=hs
          exact ok_callp hC ho hd (opA_cases hfa) (opTL_L hxs) hv hq hp (by simpa using hw) hv2
      · cases hs
    · exact call _ _ _ hd s s' hs
  have len1:∀ {ts:List TypeId} {ys:List Operand} {y:A},opTL P ts ys=some [y]→∃ o,ys=[o]∧Opd o y:=by
    intro ts ys y h
    have:=opTL_L h
    match ys,this with
    | [o],this=>simp only [OpdL] at this;exact ⟨o,rfl,this.1⟩
    | [],this=>simp only [OpdL] at this
    | _::_::_,this=>simp only [OpdL] at this;exact this.2.elim
  have len2:∀ {ts:List TypeId} {ys:List Operand} {y z:A},opTL P ts ys=some [y,z]→∃ o q,ys=[o,q]∧Opd o y∧Opd q z∧((∃ T,opT P T o=some y)∨opA o=some y):=by
    intro ts ys y z h
    have h2:=opTL_L h
    match ys,h2,h with
    | [o,q],h2,h =>
      simp only [OpdL] at h2
      refine ⟨o,q,rfl,h2.1,h2.2.1,?_⟩
      cases ts with
      | nil =>
        simp only [opTL,bnd_eq] at h
        obtain ⟨a,ha,l,hl,h⟩:=h
        cases h
        exact .inr ha
      | cons T ts =>
        simp only [opTL,bnd_eq] at h
        obtain ⟨a,ha,l,hl,h⟩:=h
        cases h
        exact .inl ⟨T,ha⟩
    | [],h2,_=>simp only [OpdL] at h2
    | [_],h2,_=>simp only [OpdL] at h2;exact h2.2.elim
    | _::_::_::_,h2,_=>simp only [OpdL] at h2;exact h2.2.2.elim
  split at h
  ·
    rename_i k t y hd
    obtain ⟨o,hys,hy⟩:=len1 hxs
    split at h
    · rename_i z hz
      cases h
      rw [arr1 hys] at ho
      simp only [step,bnd_eq] at hs
      obtain ⟨xs',hx1,hs⟩:=hs
      split at hs
      · rename_i hm;cases hs;exact ok_clone (hk.clone k z hz) ho hd hy hx1 hm
      · cases hs
    · cases h;exact plain t hd s s' hs
  · rename_i k t y z hd
    obtain ⟨o,q,hys,hy,hz,hnil⟩:=len2 hxs
    have ho2:=ho
    rw [arr2 hys] at ho2
    split at h
    · rename_i hkb
      cases h
      subst hkb
      simp only [step] at hs
      split at hs
      · rename_i b n hb hn;cases hs;exact ok_xib hk.toOk ho2 hd hy hz hb hn
      · cases hs
    · split at h
      · rename_i hkb
        cases h
        subst hkb
        simp only [step] at hs
        split at hs
        · rename_i b n hb hn;cases hs;exact ok_xcs hk.toOk ho2 hd hy hz hb hn
        · cases hs
      · split at h
        · rename_i z0 _ hg
          cases h
          simp only [step] at hs
          split at hs
          · rename_i n hn
            split at hs
            · rename_i hb
              cases hs
              refine ok_grow (hk.grow k _ hg) ho2 hd ?_ hz hn hb.1 hb.2
              rcases hnil with ⟨T,h⟩ | h
              · exact opT_nil h
              · exact opA_nil h
            · cases hs
          · cases hs
        · cases h
        · cases h;exact plain t hd s s' hs
  · rename_i t hd _ _
    cases h;exact plain t (by assumption) s s' hs
  · cases h;exact call none false false (by assumption) s s' hs
end Go.Den
namespace Go.Den
variable {P:Program} {d:Nat} {C:CallF} {cx:Cx}
theorem prepC_ok (hk:Okk P cx)(hC:CallOK P C){hh:Hint}{draw:Bool}{op:Oper}{c:Call}{x:O}(ho:op.op=.call c)(h:prepC cx hh draw op.dst c P=some x):SOk P C d op x:=by
  unfold prepC at h
  split at h
  · rename_i hc;exact s_len ho hc h
  · rename_i hc;exact s_app ho hc h
  · rename_i hc;exact s_cpy ho hc h
  · rename_i hc;exact s_mnx (mx:=true) ho hc h
  · rename_i hc;exact s_mnx (mx:=false) ho hc h
  · rename_i f hc;exact s_value hk hC ho hc h
  · cases h
theorem prep1_ok (hk:Okk P cx)(hC:CallOK P C){hh:Hint}{draw:Bool}{ops:Array Oper}{op:Oper}{x:O}(h:prep1 cx hh P draw ops op=some x):SOk P C d op x:=by
  unfold prep1 at h
  split at h
  · exact s_mv (by assumption) (by assumption) h
  · exact s_as (by assumption) (by assumption) h
  · exact s_cst (.inl (by assumption)) (by assumption) h
  · exact s_cst (.inr (by assumption)) (by assumption) h
  · exact s_pick (by assumption) (by assumption) h
  · exact s_new (by assumption) (by assumption) h
  · exact s_box (by assumption) (by assumption) h
  · exact s_build (by assumption) (by assumption) h
  · exact s_lit (by assumption) (by assumption) h
  · exact s_ld (by assumption) (by assumption) h
  · exact s_st (by assumption) (by assumption) h
  · exact s_chk (by assumption) (by assumption) h
  · exact s_bin hk.toOk (by assumption) (by assumption) h
  · exact s_not (by assumption) (by assumption) h
  · exact s_neg (by assumption) (by assumption) h
  · exact s_cvt (by assumption) (by assumption) h
  · exact s_mkf (by assumption) (by assumption) h
  · exact s_mks (by assumption) (by assumption) h
  · exact s_slc (by assumption) (by assumption) h
  · exact s_fa (by assumption) (by assumption) h
  · exact s_fld (by assumption) (by assumption) h
  · exact s_ia (by assumption) (by assumption) h
  · exact s_ix (by assumption) (by assumption) h
  · exact s_rng (by assumption) (by assumption) h
  · exact s_nxt (by assumption) (by assumption) h
  · exact s_ext (by assumption) (by assumption) h
  · exact s_mkm (by assumption) (by assumption) h
  · exact s_mset (.inl (by assumption)) (by assumption) h
  · exact s_mset (.inr (by assumption)) (by assumption) h
  · exact s_mget (by assumption) (by assumption) h
  · exact prepC_ok hk hC (by assumption) h
  · cases h
def ROk (P:Program)(ops:Array Oper)(op:Oper)(d:Nat)(s s':St):Prop:=
  ∀ w0 g0 a w g,Inv w0 g0 d s a w g →
    (Region.wanted op (yielded ops a.tmps)=true∧∀ (next:Act→World→Prop) (Q:Exit→Act→World→Prop),(∀ a' w' g',Inv w0 g0 d s' a' w' g'→next a' w')→op.wp P a w next Q) ∨
    (Region.wanted op (yielded ops a.tmps)=false∧Inv w0 g0 d s' (a.put op.dst undef) w g)
theorem prepO_ok (hk:Okk P cx)(hC:CallOK P C){hh:Hint}{draw:Bool}{ops:Array Oper}{op:Oper}{s s':St}(h:step C d (prepO cx hh P draw ops op) s=some s'):ROk P ops op d s s':=by
  unfold prepO at h
  split at h
  · simp only [step] at h;cases h
  · rename_i x hx
    have sx:SOk P C d op x:=prep1_ok hk hC hx
    have so:SOk P C d op (match op.dst with | some t=>if (hh.ob.contains t && !isCall op.op)=true then O.ob t x else x | none=>x):=by
      split
      · rename_i t hd
        split
        · intro s s' hs
          simp only [step] at hs
          split at hs
          · rename_i s1 h1
            simp only [zE] at hs
            obtain ⟨p,hp,rfl⟩:=hs
            exact ok_ob hd (sx s s1 h1) hp
          · cases hs
        · exact sx
      · exact sx
    intro w0 g0 a w g hI
    simp only at h
    split at h
    · rename_i hg
      exact .inl ⟨by simp [Region.wanted,hg],fun next Q hn=>so s s' h w0 g0 a w g hI next Q hn⟩
    · rename_i j want hg
      split at h
      · rename_i t u ht hd
        simp only [step] at h
        split at h
        · rename_i b hb
          have hr:=hI.regs t
          rw [hb] at hr
          simp only [RT,R] at hr
          have hy:yielded ops a.tmps j=some b:=by
            unfold yielded
            rw [ht]
            simp only [Option.bind_some]
            rw [Array.getD_eq_getD_getElem?] at hr
            cases hq:a.tmps[t]? with
            | none=>rw [hq] at hr;simp [undef] at hr
            | some v=>rw [hq] at hr;simp only [Option.getD_some] at hr;subst hr;rfl
          split at h
          · rename_i e
            exact .inl ⟨by simp [Region.wanted,hg,hy,e],fun next Q hn=>so s s' h w0 g0 a w g hI next Q hn⟩
          · rename_i e
            cases h
            refine .inr ⟨by simp [Region.wanted,hg,hy,e],?_⟩
            rw [hd]
            exact hI.put (by simp only [RT,R];exact ⟨#[],rfl,by simp only [RL]⟩)
        · rename_i hb
          have hr:=hI.regs t
          rw [hb] at hr
          simp only [RT,R,RL] at hr
          obtain ⟨xs,hx,hxs⟩:=hr
          have hy:yielded ops a.tmps j=none:=by
            unfold yielded
            rw [ht]
            simp only [Option.bind_some]
            rw [Array.getD_eq_getD_getElem?] at hx
            cases hq:a.tmps[t]? with
            | none=>rfl
            | some v=>rw [hq] at hx;simp only [Option.getD_some] at hx;subst hx;rfl
          cases h
          refine .inr ⟨by simp [Region.wanted,hg,hy],?_⟩
          rw [hd]
          exact hI.put (by simp only [RT,R];exact ⟨#[],rfl,by simp only [RL]⟩)
        · cases h
      · simp only [step] at h;cases h
theorem list_ok {ops:Array Oper}{Q:Exit→Act→World→Prop}{f:Oper→O}(hf:∀ op s s',step C d (f op) s=some s'→ROk P ops op d s s'){w0:World}{g0:G}:∀ {l:List Oper}{s s':St}{a:Act}{w:World}{g:G},runS C d (l.map f) s=some s'→Inv w0 g0 d s a w g→(∀ a' w' g',Inv w0 g0 d s' a' w' g'→Q .normal a' w')→wpList P ops Q l a w
  | [],s,s',a,w,g,h,hI,hq=>by
    simp only [List.map_nil,runS,zI] at h
    subst h
    exact hq a w g hI
  | op::r,s,s',a,w,g,h,hI,hq=>by
    simp only [List.map_cons,runS,bnd_eq] at h
    obtain ⟨s1,h1,h2⟩:=h
    unfold wpList
    rcases hf op s s1 h1 w0 g0 a w g hI with ⟨hw,hk⟩ | ⟨hw,I1⟩
    · rw [if_pos hw]
      exact .inl (hk _ _ fun a' w' g' I1=>list_ok hf h2 I1 hq)
    · rw [if_neg (by simp [hw])]
      exact list_ok hf h2 I1 hq
end Go.Den
namespace Go.Den
variable {P:Program} {d:Nat} {K:CallF} {cx:Cx}
theorem mask_length:∀ (r q:List V),(mask r q).length=q.length
  | [],q=>by simp [mask]
  | v::r,[]=>by cases v<;>simp [mask]
  | v::r,u::q=>by cases v<;>simp [mask,mask_length r q]
theorem mask_get:∀ (r q:List V)(t:Nat),rget (mask r q) t=.dead∨rget (mask r q) t=rget q t
  | [],q,t=>.inr (by simp [mask])
  | v::r,[],t=>.inr (by cases v<;>simp [mask])
  | v::r,u::q,0=>by cases v<;>simp [mask,rget]
  | v::r,u::q,t+1=>by
    have:=mask_get r q t
    cases v<;>simpa [mask,rget] using this
theorem rget_mem:∀ (q:List V)(t:Nat),rget q t=.dead∨rget q t ∈ q
  | [],t=>.inl (by cases t<;>rfl)
  | v::r,0=>.inr (by simp [rget])
  | v::r,t+1=>by
    rcases rget_mem r t with h | h
    · exact .inl h
    · exact .inr (by simp only [rget];exact List.mem_cons_of_mem _ h)
theorem alook_filter (p:Nat→Nat→Bool):∀ (l:Loc)(t u:Nat),alook (l.filter fun x=>p x.1 x.2.1) t u=if p t u then alook l t u else none
  | [],t,u=>by simp [alook]
  | (a,b,o)::r,t,u=>by
    rw [List.filter_cons]
    by_cases h:a=t∧b=u
    · obtain ⟨rfl,rfl⟩:=h
      by_cases hp:p a b=true
      · rw [if_pos hp];simp [alook,hp]
      · rw [if_neg hp,alook_filter p r a b];simp [hp]
    · split
      · simp only [alook];rw [if_neg h,if_neg h];exact alook_filter p r t u
      · rw [alook_filter p r t u];simp only [alook];rw [if_neg h]
theorem alook_mem:∀ {l:Loc}{t u:Nat}{o:Obj},alook l t u=some o→(t,u,o) ∈ l
  | (a,b,p)::r,t,u,o,h=>by
    simp only [alook] at h
    split at h
    · rename_i e;obtain ⟨rfl,rfl⟩:=e;cases h;simp
    · exact List.mem_cons_of_mem _ (alook_mem h)
def dropA (g:G)(p:Key→Bool):G:={ g with A:=fun k=>if p k then none else g.A k }
theorem clean_ok {w0:World}{g0:G}{s0 s1 s2:St}{a:Act}{w:World}{g:G}(hI:Inv w0 g0 d s1 a w g)(h:clean d s0 s1=some s2):∃ g',Inv w0 g0 d s2 a w g':=by
  unfold clean at h
  split at h
  · rename_i hc
    obtain ⟨h1,h2⟩:=hc
    cases h
    have hext:Ext w g w (dropA g (gone d s0.l)):=⟨Nat.le_refl _,fun _ _ h=>⟨h,rfl⟩,fun _ _=>Nat.le_refl _⟩
    have hA:∀ q,gone d s0.l q=false→∀ a',g.A q=some a'→(dropA g (gone d s0.l)).A q=some a':=fun q hq a' ha=>by
      simp only [dropA,hq];simpa using ha
    have hlow:∀ q:Key,q.1≠d→gone d s0.l q=false:=fun q hq=>by simp [gone,hq]
    have hget:∀ k:Key,k.1=d→St.get d { r:=mask s0.r s1.r,l:=s1.l.filter (fun x=>has s0.l x.1 x.2.1),f:=s1.f,w:=s1.w } k=if has s0.l k.2.1 k.2.2 then s1.get d k else none:=fun k hk=>by
      unfold St.get
      rw [if_pos hk,if_pos hk]
      exact alook_filter (has s0.l) s1.l _ _
    have hget2:∀ k:Key,k.1≠d→St.get d { r:=mask s0.r s1.r,l:=s1.l.filter (fun x=>has s0.l x.1 x.2.1),f:=s1.f,w:=s1.w } k=s1.get d k:=fun k hk=>by
      unfold St.get
      rw [if_neg hk,if_neg hk]
    refine ⟨dropA g (gone d s0.l),hI.defers,by rw [mask_length];exact hI.len,fun u=>?_,fun k o hk=>?_,fun k hk=>?_,hI.dom,hI.lev,hI.same,?_⟩
    · rcases mask_get s0.r s1.r u with e | e
      · rw [e];simp only [RT,R]
      · rcases rget_mem (mask s0.r s1.r) u with e2 | e2
        · rw [e2];simp only [RT,R]
        · have hr:=hI.regs u
          rw [e] at e2
          refine (RT_ext hext (fun b _ hb=>⟨hb,rfl⟩) _ _ (fun q hq=>hA q ?_) ?_)
          · rw [List.any_eq_false] at h1
            have:=h1 q (mem_keysL hq (by rw [e];exact e2))
            simpa using this
          · rw [e];exact hr
    · by_cases hkd:k.1=d
      · rw [hget k hkd] at hk
        split at hk
        · rename_i hh
          have ho:=hI.objs k o hk
          have hmem:(k.2.1,k.2.2,o) ∈ s1.l.filter fun x=>has s0.l x.1 x.2.1:=by
            rw [List.mem_filter]
            unfold St.get at hk
            rw [if_pos hkd] at hk
            exact ⟨alook_mem hk,hh⟩
          have h3:=List.all_eq_true.mp h2 _ hmem
          simp only [Bool.not_eq_true',List.any_eq_false] at h3
          exact ObjR_ext hext (hA k (by simp [gone,hh])) (fun b _ hb=>⟨hb,rfl⟩) (fun i j b _ hb=>⟨hb,rfl⟩) o (fun q hq=>hA q (by simpa using h3 q hq)) ho
        · cases hk
      · rw [hget2 k hkd] at hk
        have ho:=hI.objs k o hk
        have hd:k.1 < d:=hI.dom k o (get_f hk hkd)
        exact ObjR_ext hext (hA k (hlow k hkd)) (fun b _ hb=>⟨hb,rfl⟩) (fun i j b _ hb=>⟨hb,rfl⟩) o (fun q hq=>hA q (hlow q (by have:=hI.levs hk q hq;omega))) ho
    · simp only [dropA] at hk
      by_cases hg:gone d s0.l k=true
      · rw [if_pos hg] at hk;exact absurd rfl hk
      · rw [if_neg hg] at hk
        have:=hI.live k hk
        by_cases hkd:k.1=d
        · rw [hget k hkd,if_pos]
          · exact this
          · simpa [gone,hkd] using hg
        · rw [hget2 k hkd];exact this
    · refine ⟨hI.fr.os,hI.fr.tape,hI.fr.output,hI.fr.size,hI.fr.imm,hI.fr.held,fun k hk=>?_,hI.fr.rows⟩
      have:=hI.fr.A k hk
      simp only [dropA]
      rw [if_neg (by rw [hlow k (by omega)];simp)]
      exact this
  · cases h
def toX:Ex→Exit
  | .normal=>.normal
  | .exit id=>.exit id
  | .ret=>.ret
def WpOk (P:Program)(d:Nat)(c:Code)(s:St)(e:Ex)(s':St):Prop:=
  ∀ w0 g0 a w g,Inv w0 g0 d s a w g→∀ Q:Exit→Act→World→Prop,(∀ a' w' g',Inv w0 g0 d s' a' w' g'→Q (toX e) a' w')→c.wp P Q a w
def DrawOk (P:Program)(cx:Cx)(K:CallF):Prop:=
  ∀ (hh:Hint) (d n id:Nat) (ops:Array Oper) (s s':St) (e:Ex),E ⟨K,loopN n⟩ d (drawC (ops.toList.map fun o=>(prepO cx hh P true ops o,afters o))) s=some (e,s')→WpOk P d (.region id ops true) s e s'
theorem loop_ok {c:Code}{F:Run}(hF:∀ s e s',F s=some (e,s')→WpOk P d c s e s'){w0:World}{g0:G}{Q:Exit→Act→World→Prop}:∀ (n:Nat){s s':St}{e:Ex}{a:Act}{w:World}{g:G},loopN n d F s=some (e,s')→Inv w0 g0 d s a w g→(∀ a' w' g',Inv w0 g0 d s' a' w' g'→Q (toX e) a' w')→e≠.normal→Code.rounds P c Q n a w
  | 0,s,s',e,a,w,g,h,_,_,_=>by simp only [loopN] at h;cases h
  | n+1,s,s',e,a,w,g,h,hI,hq,hn=>by
    simp only [loopN] at h
    show c.wp P (Exit.then (Code.rounds P c Q n) Q) a w
    cases hf:F s with
    | none=>rw [hf] at h;cases h
    | some p =>
      obtain ⟨x,s1⟩:=p
      rw [hf] at h
      refine hF s x s1 hf w0 g0 a w g hI _ fun a' w' g' I1=>?_
      cases x with
      | normal =>
        simp only at h
        cases hc:clean d s s1 with
        | none=>rw [hc] at h;cases h
        | some s2 =>
          rw [hc] at h
          obtain ⟨g2,I2⟩:=clean_ok I1 hc
          exact loop_ok hF n h I2 hq hn
      | exit j =>
        simp only [zE,zP] at h
        obtain ⟨s2,hc,rfl,rfl⟩:=h
        obtain ⟨g2,I2⟩:=clean_ok I1 hc
        exact hq a' w' g2 I2
      | ret =>
        simp only [zI,zP] at h
        obtain ⟨rfl,rfl⟩:=h
        exact hq a' w' g' I1
theorem loop_exit {F:Run}:∀ (n:Nat){s s':St}{e:Ex},loopN n d F s=some (e,s')→e≠.normal
  | 0,s,s',e,h=>by simp only [loopN] at h;cases h
  | n+1,s,s',e,h=>by
    simp only [loopN] at h
    split at h
    · split at h
      · exact loop_exit n h
      · cases h
    · simp only [zE,zP] at h
      obtain ⟨_,_,rfl,_⟩:=h
      simp
    · rename_i hx _
      intro he
      subst he
      exact hx _ h
theorem kill_inv {w0:World}{g0:G}{a:Act}{w:World}{g:G}:∀ (ts:List Nat){s:St},Inv w0 g0 d s a w g→Inv w0 g0 d (killS ts s) a w g
  | [],_,hI=>hI
  | t::r,_,hI=>kill_inv r (hI.dead t)
theorem killAfter_ok {n:Nat}{ts:Option (List Nat)}{x:C}{c:Code}{s s':St}{e:Ex}(h:E ⟨K,loopN n⟩ d (killAfter ts x) s=some (e,s'))(hx:∀ s1 e,E ⟨K,loopN n⟩ d x s=some (e,s1)→WpOk P d c s e s1):WpOk P d c s e s':=by
  cases ts with
  | none=>exact hx s' e h
  | some ts =>
    simp only [killAfter,E] at h
    cases h1:E ⟨K,loopN n⟩ d x s with
    | none=>rw [h1] at h;cases h
    | some p =>
      obtain ⟨e1,s1⟩:=p
      rw [h1] at h
      have hw:=hx s1 e1 h1
      cases e1 with
      | normal =>
        simp only [bndE,runS,step,bnd_some,zI,zP] at h
        obtain ⟨rfl,rfl⟩:=h
        intro w0 g0 a w g hI Q hq
        exact hw w0 g0 a w g hI Q fun a' w' g' I'=>hq a' w' g' (kill_inv ts I')
      | exit j =>
        simp only [bndE,zI,zP] at h
        obtain ⟨rfl,rfl⟩:=h
        exact hw
      | ret =>
        simp only [bndE,zI,zP] at h
        obtain ⟨rfl,rfl⟩:=h
        exact hw
theorem killFirst_ok {n:Nat}{ts:Option (List Nat)}{x:C}{s s':St}{e:Ex}(h:E ⟨K,loopN n⟩ d (killFirst ts x) s=some (e,s')):∃ s1,(∀ {w0:World}{g0:G}{a:Act}{w:World}{g:G},Inv w0 g0 d s a w g→Inv w0 g0 d s1 a w g)∧E ⟨K,loopN n⟩ d x s1=some (e,s'):=by
  cases ts with
  | none=>exact ⟨s,fun h=>h,h⟩
  | some ts =>
    simp only [killFirst,E,runS,step,bnd_some,bndE] at h
    exact ⟨killS ts s,fun hI=>kill_inv ts hI,h⟩
theorem code_ok (hk:Okk P cx)(hC:CallOK P K)(hD:DrawOk P cx K){hh:Hint}{n:Nat}:∀ (c:Code)(s s':St)(e:Ex),E ⟨K,loopN n⟩ d (prepCode cx hh P c) s=some (e,s')→WpOk P d c s e s':=by
  intro c
  induction c with
  | skip =>
    intro s s' e h w0 g0 a w g hI Q hq
    simp only [prepCode,E,zI,zP] at h
    obtain ⟨rfl,rfl⟩:=h
    exact wp_skip (hq a w g hI)
  | label l =>
    intro s s' e h w0 g0 a w g hI Q hq
    simp only [prepCode,E,zI,zP] at h
    obtain ⟨rfl,rfl⟩:=h
    exact wp_label (hq a w g hI)
  | ret =>
    intro s s' e h w0 g0 a w g hI Q hq
    simp only [prepCode,E,zI,zP] at h
    obtain ⟨rfl,rfl⟩:=h
    exact wp_ret (hq a w g hI)
  | exit id =>
    intro s s' e h w0 g0 a w g hI Q hq
    simp only [prepCode,E,zI,zP] at h
    obtain ⟨rfl,rfl⟩:=h
    exact wp_exit (hq a w g hI)
  | region id ops draw =>
    intro s s' e h
    cases draw with
    | true =>
      simp only [prepCode] at h
      exact killAfter_ok h (fun s' e h=>hD hh d n id ops s s' e h)
    | false =>
      simp only [prepCode] at h
      refine killAfter_ok h (fun s' e h=>?_)
      intro w0 g0 a w g hI Q hq
      simp only [E,bnd_eq,zI,zP] at h
      obtain ⟨s1,h1,rfl,rfl⟩:=h
      exact wp_region_list (list_ok (fun op s s' h=>prepO_ok hk hC h) h1 hI hq)
  | seq x y ihx ihy =>
    intro s s' e h w0 g0 a w g hI Q hq
    simp only [prepCode,E] at h
    cases hx:E ⟨K,loopN n⟩ d (prepCode cx hh P x) s with
    | none=>rw [hx] at h;cases h
    | some p =>
      obtain ⟨e1,s1⟩:=p
      rw [hx] at h
      refine wp_seq (ihx s s1 e1 hx w0 g0 a w g hI _ fun a' w' g' I1=>?_)
      cases e1 with
      | normal=>exact ihy s1 s' e h w0 g0 a' w' g' I1 Q hq
      | exit j =>
        simp only [bndE,zI,zP] at h
        obtain ⟨rfl,rfl⟩:=h
        exact hq a' w' g' I1
      | ret =>
        simp only [bndE,zI,zP] at h
        obtain ⟨rfl,rfl⟩:=h
        exact hq a' w' g' I1
  | cond c x y ihx ihy =>
    intro s s' e h w0 g0 a w g hI Q hq
    simp only [prepCode] at h
    split at h
    · rename_i c' hc
      simp only [E] at h
      split at h
      · rename_i b hb
        refine wp_cond (Opd.bool (opA_cases hc) hI hb) ?_
        cases b with
        | true =>
          obtain ⟨s1,h1,h2⟩:=killFirst_ok h
          exact ihx s1 s' e h2 w0 g0 a w g (h1 hI) Q hq
        | false =>
          obtain ⟨s1,h1,h2⟩:=killFirst_ok h
          exact ihy s1 s' e h2 w0 g0 a w g (h1 hI) Q hq
      · cases h
    · simp only [E] at h;cases h
  | block id x ih =>
    intro s s' e h w0 g0 a w g hI Q hq
    simp only [prepCode,E] at h
    cases hx:E ⟨K,loopN n⟩ d (prepCode cx hh P x) s with
    | none=>rw [hx] at h;cases h
    | some p =>
      obtain ⟨e1,s1⟩:=p
      rw [hx] at h
      refine wp_block (ih s s1 e1 hx w0 g0 a w g hI _ fun a' w' g' I1=>?_)
      unfold leave at h
      split at h
      · rename_i j s2 heq
        simp only [zI,zP] at heq
        obtain ⟨rfl,rfl⟩:=heq
        simp only [toX,Exit.inBlock]
        split at h
        · rename_i hj
          rw [if_pos hj]
          simp only [zI,zP] at h
          obtain ⟨rfl,rfl⟩:=h
          exact hq a' w' g' I1
        · rename_i hj
          rw [if_neg hj]
          simp only [zI,zP] at h
          obtain ⟨rfl,rfl⟩:=h
          exact hq a' w' g' I1
      · rename_i hne
        simp only [zI,zP] at h
        obtain ⟨rfl,rfl⟩:=h
        cases e1 with
        | normal=>exact hq a' w' g' I1
        | ret=>exact hq a' w' g' I1
        | exit j=>exact absurd rfl (hne j s1)
  | loop x ih =>
    intro s s' e h w0 g0 a w g hI Q hq
    simp only [prepCode,E] at h
    exact wp_loop_rounds n (loop_ok (fun s e s' hf=>ih s s' e hf) n h hI hq (loop_exit n h))
  | scope x ih =>
    intro s s' e h w0 g0 a w g hI Q hq
    simp only [prepCode,E] at h
    refine wp_scope_straight (ih s s' e h w0 g0 a w g hI _ fun a' w' g' I1=>?_)
    cases e<;>exact hq a' w' g' I1
  | rangeFunc _ _ _ _=>intro s s' e h;simp only [prepCode,E] at h;cases h
  | goto _=>intro s s' e h;simp only [prepCode,E] at h;cases h
  | refuse _=>intro s s' e h;simp only [prepCode,E] at h;cases h
end Go.Den
namespace Go.Den
variable {P:Program} {d:Nat}
section
variable {w0:World} {g0:G} {a:Act} {w:World} {g:G} {s:St}
theorem freeze_ok (hI:Inv w0 g0 d s a w g){k:Key}{z lo n:Nat}{x:Value}(hr:R w g (.arr k z lo n) x){es:List (List V)}{fr:Bool}(hg:s.get d k=some (.row z es fr))(hle:lo+n≤es.length) :
    ∃ g',Inv w0 g0 d (s.set d k (.row z es true)) a w g'∧R w g' (.sl z ((es.drop lo).take n) .sh) x∧Keep w g w g' (fun _=>True) (fun _=>False):=by
  let a2:Act:={ tmps:=#[x],defers:=[] }
  simp only [R] at hr
  obtain ⟨b,p,c,hA,hp,hnc,hpp⟩:=hr
  have hob:=hI.objs k _ hg
  simp only [ObjR] at hob
  obtain ⟨b',e1,e2⟩:=hob
  rw [hA] at e1
  cases e1
  have hlen:((es.drop lo).take n).length=n:=by rw [List.length_take,List.length_drop];omega
  have fin:∀ g':G,(n≠0→g'.K b=.imm∧b < w.heap.size∧RPr w g'.K b z 0 es)→R w g' (.sl z ((es.drop lo).take n) .sh) x:=by
    intro g' hg'
    simp only [R]
    refine ⟨by simp,p,c,by rw [hp,hlen],⟨by omega,fun hpn=>?_,fun ad ha=>?_⟩,fun h=>by cases h⟩
    · rcases hpp with h | h
      · rw [hpn] at h;cases h.1
      · exact ⟨List.length_eq_zero_iff.mp (by omega),h.2.1 hpn⟩
    · rcases Nat.eq_zero_or_pos n with h0 | h0
      · have hnil:(es.drop lo).take n=[]:=List.length_eq_zero_iff.mp (by omega)
        rw [hnil]
        refine ⟨?_,fun h=>absurd rfl h,by simp only [RPr]⟩
        rcases hpp with h | h
        · rw [ha] at h;cases h.1;rfl
        · exact h.2.2 ad ha
      · have hpb:p=some ⟨b,lo*z,none⟩:=by rcases hpp with h | h;exact h.1;exact absurd h.1 (by omega)
        rw [hpb] at ha
        cases ha
        obtain ⟨k1,k2,k3⟩:=hg' (by omega)
        refine ⟨rfl,fun _=>⟨k1,k2⟩,?_⟩
        have:=RPr_sub k3 lo (lo+n)
        rw [Nat.zero_add,List.take_drop] at *
        exact this
  rcases e2 with rfl | ⟨cur,el,fz,e3,e4,e5,e6⟩
  · have hn0:n=0:=by simp at hle;omega
    refine ⟨g,hI.obj hg (Keep.refl _ _ _ _) (fun _=>rfl) ?_,fin g (fun h=>absurd hn0 h),Keep.refl _ _ _ _⟩
    simp only [ObjR]
    exact ⟨b,hA,.inl trivial⟩
  · cases fr with
    | true =>
      refine ⟨g,hI.obj hg (Keep.refl _ _ _ _) (fun _=>rfl) ?_,fin g (fun _=>⟨e4 rfl,heap_lt e3,e6⟩),Keep.refl _ _ _ _⟩
      simp only [ObjR]
      exact ⟨b,hA,.inr ⟨cur,el,fz,e3,fun _=>e4 rfl,fun h=>absurd h (by simp),e6⟩⟩
    | false =>
      have kp:=keep_kdO (w:=w) (e5 rfl).1 .imm
      have e6':=RPr_ext kp.toExt b rfl z es 0 e6
      refine ⟨setKd g b .imm,hI.obj hg (kp.weak (fun _ _=>trivial) (fun _ h=>h)) (fun _=>rfl) ?_,fin _ (fun _=>⟨by simp [setKd],heap_lt e3,e6'⟩),kp.weak (fun _ h=>h) (fun _ h=>h.elim)⟩
      simp only [ObjR]
      exact ⟨b,hA,.inr ⟨cur,el,fz,e3,fun _=>by simp [setKd],fun h=>absurd h (by simp),e6'⟩⟩
theorem takeRow (hI:Inv w0 g0 d s a w g){k:Key}{z lo n:Nat}{x:Value}(hr:R w g (.arr k z lo n) x){es:List (List V)}(h:resF d s k z lo n=some es)(j:Nat) :
    ∃ g',Inv w0 g0 d (s.set d k (.row z [] true)) a w g'∧RT w g' (.res j) (.sl z (es.take n) .uniq) x∧Keep w g w g' (fun _=>True) (fun _=>False):=by
  unfold resF at h
  split at h
  · rename_i z' es' hg
    split at h
    · rename_i hc
      obtain ⟨hk,rfl,rfl,hn0,hn⟩:=hc
      cases h
      simp only [R] at hr
      obtain ⟨b,p,c,hA,hx,hnc,hpp⟩:=hr
      have hob:=hI.objs k _ hg
      simp only [ObjR] at hob
      obtain ⟨b',e1,e2⟩:=hob
      rw [hA] at e1
      cases e1
      rcases e2 with rfl | ⟨cur,el,fz,e3,e4,e5,e6⟩
      · simp at hn;omega
      obtain ⟨hkb,hth⟩:=e5 trivial
      have kp:=keep_kdO (w:=w) hkb (.priv (.res j))
      refine ⟨setKd g b (.priv (.res j)),hI.obj hg (kp.weak (fun _ _=>trivial) (fun _ h=>h)) (fun _=>rfl) (by simp only [ObjR];exact ⟨b,hA,.inl trivial⟩),?_,kp.weak (fun _ h=>h) (fun _ h=>h.elim)⟩
      rcases hpp with ⟨hp,hroom⟩ | h0
      · simp only [RT]
        rw [rowSize_cells e3,Nat.zero_add] at hroom
        have hlen:(es.take n).length=n:=by rw [List.length_take];omega
        have e6':=RPr_ext kp.toExt b rfl z' es 0 e6
        have:=RPr_sub e6' 0 n
        simp only [Nat.zero_mul,Nat.add_zero,List.drop_zero] at this
        exact .inr ⟨b,c,cur,el,fz,by rw [hx,hp,hlen];simp,by rw [hlen];exact hnc,by simp [setKd],e3,hroom,hth,this⟩
      · omega
    · cases h
  · cases h
theorem resV_ok (hI:Inv w0 g0 d s a w g){own:Bool}{v v':V}{x:Value}{s':St}(hr:R w g v x)(h:resV d own s v=some (v',s'))(j:Nat) :
    ∃ g',Inv w0 g0 d s' a w g'∧RB w g' (.res j) v' x∧Keep w g w g' (fun _=>True) (fun _=>False)∧(v'.isBox=false→v'.uq=false→R w g' v' x)∧(own=false→v'.uq=false)∧∀ q ∈ v'.keys,q.1 < d:=by
  unfold resV at h
  split at h
  · rename_i k z2 lo n
    split at h
    · rename_i es hf
      simp only [zI,zP] at h
      obtain ⟨rfl,rfl⟩:=h
      cases own with
      | false=>cases hf
      | true =>
        obtain ⟨g',I',r',kp⟩:=takeRow hI hr hf j
        exact ⟨g',I',by simp only [RB];exact r',kp,fun _ h=>(by simp [V.uq] at h),fun h=>(by cases h),fun q hq=>by simp [V.keys] at hq⟩
    · split at h
      · rename_i z es fr hg
        split at h
        · rename_i hc
          obtain ⟨hk,rfl,hle⟩:=hc
          simp only [zI,zP] at h
          obtain ⟨rfl,rfl⟩:=h
          obtain ⟨g',I',r',kp⟩:=freeze_ok hI hr hg hle
          exact ⟨g',I',by simp only [RB,RT];exact r',kp,fun _ _=>r',fun _=>rfl,fun q hq=>by simp [V.keys] at hq⟩
        · cases h
      · cases h
  · rename_i k i off
    split at h
    · rename_i hk
      split at h
      · rename_i h0
        split at h
        · rename_i z cs hg
          split at h
          · rename_i hcs
            simp only [zI,zP] at h
            obtain ⟨rfl,rfl⟩:=h
            simp only [R] at hr
            obtain ⟨b,z',hA,hx⟩:=hr
            have hob:=hI.objs k _ hg
            simp only [ObjR] at hob
            obtain ⟨b',cur,e,fz,e1,e2,e3,e4,e5⟩:=hob
            rw [hA] at e1
            cases e1
            have kp:=keep_kdO (w:=w) e2 (.priv (.res j))
            obtain ⟨hz,hcell⟩:=e5 0 cs rfl
            have hobj:Inv w0 g0 d (s.set d k (.row z [] true)) a w (setKd g b (.priv (.res j))):=hI.obj hg (kp.weak (fun _ _=>trivial) (fun _ h=>h)) (fun _=>rfl) (by simp only [ObjR];exact ⟨b,hA,.inl trivial⟩)
            refine ⟨_,hobj,?_,kp.weak (fun _ h=>h) (fun _ h=>h.elim),fun h=>(by simp [V.isBox] at h),fun _=>rfl,fun q hq=>?_⟩
            · simp only [RB,Bx]
              refine ⟨b,cur,e,fz,?_,by simp [setKd],e3,e4,fun q v hv=>?_⟩
              · rw [hx,h0.1,h0.2];simp
              · obtain ⟨y,hy,hry⟩:=hcell q v hv
                refine ⟨y,by simpa using hy,kp.r ((RT_not (hasUq_get hcs.2 hv)).mp hry)⟩
            · simp only [V.keys,hcs.1] at hq
              simp at hq
          · cases h
        · cases h
      · cases h
    · rename_i hk
      simp only [zI,zP] at h
      obtain ⟨rfl,rfl⟩:=h
      refine ⟨g,hI,by simp only [RB,RT];exact hr,Keep.refl _ _ _ _,fun _ _=>hr,fun _=>rfl,fun q hq=>?_⟩
      simp only [V.keys,List.mem_singleton] at hq
      subst hq
      have hr':=hr
      simp only [R] at hr'
      obtain ⟨b,z,hA,_⟩:=hr'
      have:=hI.depth hA
      omega
  · rename_i z es o
    split at h
    · cases h
    · rename_i ho
      simp only [zI,zP] at h
      obtain ⟨rfl,rfl⟩:=h
      have r':=sh_not (R_uq hr) hr
      exact ⟨g,hI,by simp only [RB,RT];exact r',Keep.refl _ _ _ _,fun _ _=>r',fun _=>rfl,fun q hq=>by simp [V.keys] at hq⟩
  · rename_i h1 h2 h3
    split at h
    · rename_i hall
      simp only [zI,zP] at h
      obtain ⟨rfl,rfl⟩:=h
      refine ⟨g,hI,?_,Keep.refl _ _ _ _,fun _ _=>hr,fun _=>R_uq hr,fun q hq=>of_decide_eq_true (List.all_eq_true.mp hall q hq)⟩
      cases v with
      | box cs=>simp only [R] at hr
      | _=>simp only [RB];exact (RT_not (R_uq hr)).mpr hr
    · cases h
theorem resL_ok {own:Bool}:∀ {cs:List V}{ys:List Value}{s s':St}{g:G}{vs:List V}(j:Nat),Inv w0 g0 d s a w g→RL w g cs ys→resL d own cs s=some (vs,s') →
    ∃ g',Inv w0 g0 d s' a w g'∧ys.length=vs.length∧(∀ (i:Nat) v,vs[i]?=some v→∃ y,ys[i]?=some y∧RB w g' (.res (j+i)) v y∧(v.isBox=false→v.uq=false→R w g' v y)∧(own=false→v.uq=false)∧∀ q ∈ v.keys,q.1 < d)∧Keep w g w g' (fun _=>True) (fun _=>False)
  | [],ys,s,s',g,vs,j,hI,hr,h=>by
    simp only [resL,zI,zP] at h
    obtain ⟨rfl,rfl⟩:=h
    simp only [RL] at hr
    subst hr
    exact ⟨g,hI,rfl,by simp,Keep.refl _ _ _ _⟩
  | c::r,ys,s,s',g,vs,j,hI,hr,h=>by
    simp only [RL] at hr
    obtain ⟨y,zs,rfl,h1,h2⟩:=hr
    simp only [resL] at h
    split at h
    · rename_i v s1 hv
      obtain ⟨g1,I1,b1,k1,r1,u1,q1⟩:=resV_ok hI h1 hv j
      cases hq:resL d own r s1 with
      | none=>rw [hq] at h;cases h
      | some p =>
        rw [hq] at h
        simp only [Option.map_some,zI,zP] at h
        obtain ⟨rfl,rfl⟩:=h
        obtain ⟨g2,I2,l2,b2,k2⟩:=resL_ok (vs:=p.1) (s':=p.2) (j+1) I1 (k1.rl h2) hq
        refine ⟨g2,I2,by simp [l2],fun i u hu=>?_,k1.trans k2⟩
        cases i with
        | zero =>
          simp at hu
          subst hu
          exact ⟨y,rfl,k2.rb trivial b1,fun hb hu=>k2.r (r1 hb hu),u1,q1⟩
        | succ i =>
          simp at hu
          obtain ⟨y',e1,e2⟩:=b2 i u hu
          exact ⟨y',by simpa using e1,by rwa [show j+(i+1)=j+1+i by omega]⟩
    · cases h
theorem keysL_of {vs:List V}(h:∀ (i:Nat) v,vs[i]?=some v→∀ q ∈ v.keys,q.1 < d):∀ q ∈ keysL vs,q.1 < d:=by
  intro q hq
  obtain ⟨v,hv,hq⟩:=keysL_mem hq
  obtain ⟨i,hi⟩:=List.getElem?_of_mem hv
  exact h i v hi q hq
theorem resG_ok (hI:Inv w0 g0 d s a w g){one:Bool}{cs:List V}{xs:Array Value}(hr:RL w g cs xs.toList){v':V}{s':St}(h:resG d one cs s=some (v',s'))(j:Nat) :
    ∃ g',Inv w0 g0 d s' a w g'∧(if one then RTR w g' v' (.agg xs) else RB w g' (.res j) v' (.agg xs))∧Keep w g w g' (fun _=>True) (fun _=>False)∧∀ q ∈ v'.keys,q.1 < d:=by
  unfold resG at h
  split at h
  · rename_i p hp
    split at h
    · rename_i hb
      simp only [zI,zP] at h
      obtain ⟨rfl,rfl⟩:=h
      obtain ⟨g',I',l',b',k'⟩:=resL_ok (vs:=p.1) (s':=p.2) 0 hI hr hp
      have hkeys:∀ q ∈ (V.agg p.1).keys,q.1 < d:=by
        simp only [V.keys]
        exact keysL_of fun i v hv=>by obtain ⟨_,_,_,_,_,h⟩:=b' i v hv;exact h
      refine ⟨g',I',?_,k',hkeys⟩
      cases one with
      | true =>
        simp only [if_true,RTR]
        refine ⟨xs,rfl,by simpa using l',fun i v hv=>?_⟩
        obtain ⟨y,hy,hrb,_⟩:=b' i v hv
        exact ⟨y,by simpa using hy,by rwa [Nat.zero_add] at hrb⟩
      | false =>
        simp only [Bool.false_eq_true,if_false,RB,RT,R]
        refine ⟨xs,rfl,RL_of l' fun i v hv=>?_⟩
        obtain ⟨y,hy,_,hr,hu,_⟩:=b' i v hv
        refine ⟨y,hy,hr ?_ (hu rfl)⟩
        simp only [Bool.false_or,Bool.not_eq_true',List.any_eq_false] at hb
        simpa using hb v (List.mem_of_getElem? hv)
    · cases h
  · cases h
end
end Go.Den
