import Derived.Test.YtblkhnacgnlbdaaGreatDoorES1
import Derived.Laws.Small
import Derived.Laws.Pointers
import Derived.Laws.Cells
import Derived.Laws.Rows
import Derived.Laws.Tables
import Derived.Laws.BytesString
set_option linter.all false
namespace Go.Den
theorem zI {α:Type _}{a b:α}:(some a=some b)=(a=b):=Option.some.injEq a b
theorem zP {α β:Type _}{a c:α}{b d:β}:((a,b)=(c,d))=(a=c∧b=d):=Prod.mk.injEq a b c d
theorem zE {α β:Type _}{f:α→β}{o:Option α}{b:β}:o.map f=some b↔∃ a,o=some a∧f a=b:=Option.map_eq_some_iff
variable {P:Program}
theorem ofC_r (w:World)(g:G){v:Value}{u:V}(h:ofC v=some u):R w g u v∧u.uq=false:=by
  unfold ofC at h
  split at h<;>first | cases h | skip
  all_goals refine ⟨?_,rfl⟩
  all_goals simp only [R]
  exact ⟨by simp,none,0,rfl,⟨Nat.le_refl _,fun _=>⟨rfl,rfl⟩,fun _ h=>by cases h⟩,fun _=>rfl⟩
theorem ofCL_r (w:World)(g:G):∀ {l:List Value}{u:List V},ofCL l=some u→RL w g u l
  | [],u,h=>by simp only [ofCL] at h;cases h;simp only [RL]
  | v::r,u,h=>by
    simp only [ofCL] at h
    cases h1:ofC v with
    | none=>rw [h1] at h;cases h
    | some x =>
      rw [h1] at h
      simp only [bnd_some] at h
      cases h2:ofCL r with
      | none=>rw [h2] at h;cases h
      | some l =>
        rw [h2] at h
        cases h
        simp only [RL]
        exact ⟨v,r,rfl,(ofC_r w g h1).1,ofCL_r w g h2⟩
theorem ofV_r (w:World)(g:G){v:Value}{u:V}(h:ofV v=some u):R w g u v∧u.uq=false:=by
  unfold ofV at h
  split at h
  · rename_i cs
    cases h1:ofCL cs.toList with
    | none=>rw [h1] at h;cases h
    | some l =>
      rw [h1] at h
      cases h
      exact ⟨by simp only [R];exact ⟨cs,rfl,ofCL_r w g h1⟩,rfl⟩
  · exact ofC_r w g h
theorem opA_cases {x:Operand}{A:A}(h:opA x=some A):(∃ n,x=.tmp n∧A=.t n)∨∃ u,A=.c u∧u.uq=false∧∀ (w:World)(g:G)(a:Act),R w g u (a.eval x):=by
  unfold opA at h
  split at h
  · cases h;exact .inl ⟨_,rfl,rfl⟩
  · cases h;exact .inr ⟨_,rfl,rfl,fun w g a=>by simp only [R,Act.eval]⟩
  · rename_i v _
    cases h1:ofV v with
    | none=>rw [h1] at h;cases h
    | some u =>
      rw [h1] at h;cases h
      exact .inr ⟨u,rfl,(ofV_r default ⟨fun _=>.imm,fun _=>none,fun _=>none⟩ h1).2,fun w g a=>(ofV_r w g h1).1⟩
  · cases h
    refine .inr ⟨_,rfl,rfl,fun w g a=>?_⟩
    simp only [R,Act.eval]
    exact ⟨#[],#[],rfl,by simp only [RL],by simp only [RL]⟩
  · cases h
theorem opT_cases {t:TypeId}{x:Operand}{A:A}(h:opT P t x=some A):(∃ n,x=.tmp n∧A=.t n)∨∃ u,A=.c u∧u.uq=false∧∀ (w:World)(g:G)(a:Act),R w g u (a.eval x):=by
  unfold opT at h
  split at h
  · split at h
    · rename_i e _
      cases h1:P.info? e with
      | none=>rw [h1] at h;cases h
      | some i =>
        rw [h1] at h;cases h
        refine .inr ⟨_,rfl,rfl,fun w g a=>?_⟩
        simp only [R,Act.eval]
        exact ⟨by simp,none,0,rfl,⟨Nat.le_refl _,fun _=>⟨rfl,rfl⟩,fun _ h=>by cases h⟩,fun _=>rfl⟩
    · cases h
  · exact opA_cases h
def Opd (x:Operand)(A:A):Prop:=(∃ n,x=.tmp n∧A=.t n)∨∃ u,A=.c u∧u.uq=false∧∀ (w:World)(g:G)(a:Act),R w g u (a.eval x)
section
variable {w0:World} {g0:G} {d:Nat} {s:St} {a:Act} {w:World} {g:G}
theorem Opd.r {x:Operand}{A:A}(h:Opd x A)(hI:Inv w0 g0 d s a w g)(hu:(A.ev s.r).uq=false):R w g (A.ev s.r) (a.eval x):=by
  rcases h with ⟨n,rfl,rfl⟩ | ⟨u,rfl,_,hr⟩
  · exact (RT_not hu).mp (hI.regs n)
  · exact hr w g a
theorem Opd.rt {n:Nat}{x:Operand}(h:Opd x (.t n))(hI:Inv w0 g0 d s a w g):RT w g (.reg n) (rget s.r n) (a.eval x):=by
  rcases h with ⟨m,rfl,h⟩ | ⟨u,h,_⟩
  · cases h;exact hI.regs n
  · cases h
theorem Opd.int {x:Operand}{A:A}(h:Opd x A)(hI:Inv w0 g0 d s a w g){k:IntKind}{n:Int}(e:A.ev s.r=.int k n):a.eval x=.int k n:=by
  have:=h.r hI (by rw [e];rfl);rw [e] at this;simpa only [R] using this
theorem Opd.bool {x:Operand}{A:A}(h:Opd x A)(hI:Inv w0 g0 d s a w g){n:Bool}(e:A.ev s.r=.bool n):a.eval x=.bool n:=by
  have:=h.r hI (by rw [e];rfl);rw [e] at this;simpa only [R] using this
theorem Opd.str {x:Operand}{A:A}(h:Opd x A)(hI:Inv w0 g0 d s a w g){n:ByteArray}(e:A.ev s.r=.str n):a.eval x=.string n:=by
  have:=h.r hI (by rw [e];rfl);rw [e] at this;simpa only [R] using this
theorem Opd.agg {x:Operand}{A:A}(h:Opd x A)(hI:Inv w0 g0 d s a w g){n:List V}(e:A.ev s.r=.agg n):∃ xs:Array Value,a.eval x=.agg xs∧RL w g n xs.toList:=by
  have:=h.r hI (by rw [e];rfl);rw [e] at this;simpa only [R] using this
theorem Opd.ptr {x:Operand}{A:A}(h:Opd x A)(hI:Inv w0 g0 d s a w g){k:Key}{i off:Nat}(e:A.ev s.r=.ptr k i off):∃ b z,g.A k=some (b,z)∧a.eval x=.pointer (some ⟨b,i*z+off,none⟩):=by
  have:=h.r hI (by rw [e];rfl);rw [e] at this;simpa only [R] using this
theorem Opd.dem {x:Operand}{A:A}(h:Opd x A)(hI:Inv w0 g0 d s a w g) :
    ∃ g',Inv w0 g0 d (s.dem A) a w g'∧R w g' (A.ev s.r).sh (a.eval x)∧Keep w g w g' (fun m=>match A with | .t n=>m≠.reg n | _=>True) (fun _=>True)∧∀ q,g'.A q=g.A q:=by
  rcases h with ⟨n,rfl,rfl⟩ | ⟨u,rfl,hu,hr⟩
  · exact hI.dem n
  · exact ⟨g,hI,sh_not hu (hr w g a),⟨⟨Nat.le_refl _,fun _ _ h=>⟨h,rfl⟩,fun _ _=>Nat.le_refl _⟩,rfl,rfl,rfl,fun _ _ h=>⟨h,rfl⟩,fun _ _ _ _ h=>⟨h,rfl⟩,fun _ _ _ _ h=>⟨h,rfl⟩,fun _ _ h=>h⟩,fun _=>rfl⟩
end
def OpOk (P:Program)(op:Oper)(d:Nat)(s s':St):Prop:=
  ∀ w0 g0 a w g,Inv w0 g0 d s a w g→∀ (next:Act→World→Prop) (Q:Exit→Act→World→Prop),(∀ a' w' g',Inv w0 g0 d s' a' w' g'→next a' w')→op.wp P a w next Q
theorem OpOk.value {op:Oper}{d:Nat}{s s':St}
    (h:∀ w0 g0 a w g,Inv w0 g0 d s a w g→∃ x w' g',(execOp a.eval op).run P w=.ok (.value x) w'∧Inv w0 g0 d s' (a.put op.dst x) w' g'):OpOk P op d s s':=by
  intro w0 g0 a w g hI next Q hn
  obtain ⟨x,w',g',hr,hI'⟩:=h w0 g0 a w g hI
  unfold Oper.wp
  rw [hr]
  exact hn _ _ _ hI'
theorem OpOk.skip {op:Oper}{d:Nat}{s s':St}
    (h:∀ w0 g0 a w g,Inv w0 g0 d s a w g→∃ w' g',(execOp a.eval op).run P w=.ok .skip w'∧Inv w0 g0 d s' (a.put op.dst undef) w' g'):OpOk P op d s s':=by
  intro w0 g0 a w g hI next Q hn
  obtain ⟨w',g',hr,hI'⟩:=h w0 g0 a w g hI
  unfold Oper.wp
  rw [hr]
  exact hn _ _ _ hI'
theorem OpOk.plain {op:Oper}{d t:Nat}{s:St}{v:V}(hd:op.dst=some t)(hu:v.uq=false)
    (h:∀ w0 g0 a w g,Inv w0 g0 d s a w g→∃ x,(execOp a.eval op).run P w=.ok (.value x) w∧R w g v x):OpOk P op d s (s.put t v):=
  .value fun w0 g0 a w g hI=>let ⟨x,hx,hr⟩:=h w0 g0 a w g hI;⟨x,w,g,hx,by rw [hd];exact hI.put ((RT_not hu).mpr hr)⟩
variable {op:Oper} {d t:Nat} {s:St}
theorem ok_mv {u:Nat}(hd:op.dst=some t)(ho:op.op=.move (.tmp u)∨op.op=.assign (.tmp u)):OpOk P op d s ((s.dem (.t u)).put t (rget s.r u).sh):=
  .value fun w0 g0 a w g hI=>by
    obtain ⟨g',hI',hr,_⟩:=hI.dem u
    refine ⟨a.tmps.getD u undef,w,g',by rcases ho with ho | ho<;>simp [execOp,ho,Act.eval],?_⟩
    rw [hd]
    exact hI'.put ((RT_not (by unfold V.sh;split<;>first | rfl | (rcases uq_cases (rget s.r u) with h | ⟨_,_,h⟩<;>simp_all [V.uq]))).mpr hr)
theorem ok_mvp {u:Nat}(hd:op.dst=some t)(ho:op.op=.move (.tmp u))(hu:(rget s.r u).uq=false):OpOk P op d s (s.put t (rget s.r u)):=
  .plain hd hu fun w0 g0 a w g hI=>⟨a.tmps.getD u undef,by simp [execOp,ho,Act.eval],(RT_not hu).mp (hI.regs u)⟩
theorem Inv.move {w0:World}{g0:G}{a:Act}{w:World}{g:G}(hI:Inv w0 g0 d s a w g)(u t:Nat) :
    ∃ g',Inv w0 g0 d ((s.off (.t u)).put t (rget s.r u)) (a.put (some t) (a.tmps.getD u undef)) w g':=by
  have hr:=hI.regs u
  rcases uq_cases (rget s.r u) with hu | ⟨z,es,hv⟩
  · have:s.off (.t u)=s:=by
      simp only [St.off]
      split
      · rename_i he;rw [he] at hu;simp [V.uq] at hu
      · rfl
    rw [this]
    exact ⟨g,hI.put ((RT_not hu).mpr ((RT_not hu).mp hr))⟩
  · have:s.off (.t u)=s.put u .dead:=by simp only [St.off,hv]
    rw [this,hv]
    rw [hv] at hr
    simp only [RT] at hr
    rcases hr with ⟨hx,he⟩ | ⟨b,c,cur,e,fz,hx,hc,hk,hh,hz,ht,hr⟩
    · refine ⟨g,(hI.dead u).put ?_⟩
      simp only [RT]
      exact .inl ⟨hx,he⟩
    · have kp:=keep_kd (w:=w) hk (.priv (.reg t))
      refine ⟨setKd g b (.priv (.reg t)),(hI.keep kp (fun _=>rfl) (v:=.dead) (by simp only [RT,R])).put ?_⟩
      simp only [RT]
      exact .inr ⟨b,c,cur,e,fz,hx,hc,by simp [setKd],hh,hz,ht,RPr_kd hk _ hr⟩
theorem ok_mvs {u:Nat}(hd:op.dst=some t)(ho:op.op=.move (.tmp u)∨op.op=.assign (.tmp u)):OpOk P op d s ((s.off (.t u)).put t (rget s.r u)):=
  .value fun w0 g0 a w g hI=>by
    obtain ⟨g',hI'⟩:=hI.move u t
    exact ⟨a.tmps.getD u undef,w,g',by rcases ho with ho | ho<;>simp [execOp,ho,Act.eval],by rw [hd];exact hI'⟩
theorem ok_cst {x:Operand}{v:V}(hd:op.dst=some t)(ho:op.op=.move x∨op.op=.assign x)(hx:Opd x (.c v)):OpOk P op d s (s.put t v):=by
  have hx':v.uq=false∧∀ (w:World) (g:G) (a:Act),R w g v (a.eval x):=by
    rcases hx with ⟨n,_,h⟩ | ⟨u,h,hu,hr⟩
    · cases h
    · cases h;exact ⟨hu,hr⟩
  exact .plain hd hx'.1 fun w0 g0 a w g hI=>⟨a.eval x,by rcases ho with ho | ho<;>simp [execOp,ho],hx'.2 w g a⟩
theorem ok_pick {c x y:Operand}{c' x' y':A}{b r:Bool}(hd:op.dst=some t)(ho:op.op=.pick c x y)(hc:Opd c c')(hx:Opd x x')(hy:Opd y y')(h1:c'.ev s.r=.bool b)
    (h2:(bif b then x'.ev s.r else y'.ev s.r)=.bool r):OpOk P op d s (s.put t (.bool r)):=
  .plain hd rfl fun w0 g0 a w g hI=>by
    refine ⟨.bool r,?_,by simp only [R]⟩
    simp only [execOp,ho,hc.bool hI h1,asBool,Sem.run_bind,Sem.run_pure,Result.andThen_ok]
    cases b with
    | true=>rw [if_pos rfl,hx.bool hI h2]
    | false=>rw [if_neg (by simp),hy.bool hI h2]
theorem ok_not {x:Operand}{x':A}{b:Bool}(ht:∃ T,op.op=.unOp .not T x)(hd:op.dst=some t)(hx:Opd x x')(h1:x'.ev s.r=.bool b):OpOk P op d s (s.put t (.bool !b)):=
  .plain hd rfl fun w0 g0 a w g hI=>by
    obtain ⟨T,ho⟩:=ht
    exact ⟨.bool !b,by simp [execOp,ho,hx.bool hI h1,Op.unary],by simp only [R]⟩
theorem ok_neg {x:Operand}{x':A}{k:IntKind}{n:Int}(ht:∃ T,op.op=.unOp .neg T x)(hd:op.dst=some t)(hx:Opd x x')(h1:x'.ev s.r=.int k n):OpOk P op d s (s.put t (.int k (k.wrap (0 - n)))):=
  .plain hd rfl fun w0 g0 a w g hI=>by
    obtain ⟨T,ho⟩:=ht
    exact ⟨.int k (k.wrap (0 - n)),by simp [execOp,ho,hx.int hI h1,Op.unary,Op.intArith],by simp only [R]⟩
theorem ok_bin {bo:BinOp}{T T2:TypeId}{x y:Operand}{x' y':A}{r:Ar}{v:V}(ho:op.op=.binOp bo T x y T2)(hd:op.dst=some t)(hb:ar bo=some r)(hx:Opd x x')(hy:Opd y y')
    (h:binV r (x'.ev s.r) (y'.ev s.r)=some v):OpOk P op d s (s.put t v):=by
  have hu:v.uq=false:=by
    revert h
    generalize x'.ev s.r=X
    generalize y'.ev s.r=Y
    intro h
    unfold binV at h
    split at h<;>(try unfold arS at h)<;>(try unfold arI at h)<;>(try split at h)<;>(try split at h)<;>(try split at h)<;>first | (cases h;rfl) | (cases h;done) | skip
    all_goals first | (simp only [zI] at h;subst h;rfl) | cases h
  refine .plain hd hu fun w0 g0 a w g hI=>?_
  have key:∀ X Y:V,∀ p q:Value,X=x'.ev s.r→Y=y'.ev s.r→p=a.eval x→q=a.eval y→binV r X Y=some v→∃ z,((do eqGuard bo T x y p q;binOp bo T p q:Sem Value)).run P w=.ok z w∧R w g v z:=by
    intro X Y p q hX hY hp hq hv
    unfold binV at hv
    split at hv
    · rename_i k n k' m
      have e1:=hx.int hI hX.symm;have e2:=hy.int hI hY.symm
      rw [hp,hq,e1,e2]
      have:bo=.shl:=by cases bo<;>simp [ar] at hb<;>rfl
      subst this
      simp only [arS] at hv
      split at hv
      · cases hv
      · rename_i hneg
        cases hv
        refine ⟨_,?_,by simp only [R];rfl⟩
        simp [eqGuard,binOp,Op.shift,hneg]
    · rename_i k n k' m
      have e1:=hx.int hI hX.symm;have e2:=hy.int hI hY.symm
      rw [hp,hq,e1,e2]
      have:bo=.shr:=by cases bo<;>simp [ar] at hb<;>rfl
      subst this
      simp only [arS] at hv
      split at hv
      · cases hv
      · rename_i hneg
        cases hv
        refine ⟨_,?_,by simp only [R];rfl⟩
        simp [eqGuard,binOp,Op.shift,hneg]
    · rename_i k n k' m hns1 hns2
      have e1:=hx.int hI hX.symm;have e2:=hy.int hI hY.symm
      rw [hp,hq,e1,e2]
      split at hv
      · rename_i hk
        subst hk
        cases bo<;>simp only [ar,zI] at hb<;>subst hb<;>simp only [arI] at hv<;>first
          | (cases hv;refine ⟨_,?_,by simp only [R];rfl⟩;simp [eqGuard,binOp,Op.intArith,Op.intBits,Op.intCmp];done)
          | (by_cases h0:m=0;(rw [if_pos h0] at hv;cases hv);(rw [if_neg h0] at hv;cases hv;refine ⟨_,?_,by simp only [R];rfl⟩;simp [eqGuard,binOp,Op.intDiv,h0];done))
          | (exact absurd rfl (hns1 _ _ _ _ rfl rfl rfl))
          | (exact absurd rfl (hns2 _ _ _ _ rfl rfl rfl))
          | cases hv
      · cases hv
    · rename_i n m
      have e1:=hx.str hI hX.symm;have e2:=hy.str hI hY.symm
      rw [hp,hq,e1,e2]
      have:bo=.eql:=by cases bo<;>simp [ar] at hb<;>rfl
      subst this
      cases hv
      exact ⟨.bool (n.toList == m.toList),by simp only [eqGuard,binOp,Op.stringOp,Sem.run_bind,Sem.run_pure];rfl,by simp only [R]⟩
    · rename_i n m
      have e1:=hx.str hI hX.symm;have e2:=hy.str hI hY.symm
      rw [hp,hq,e1,e2]
      have:bo=.neq:=by cases bo<;>simp [ar] at hb<;>rfl
      subst this
      cases hv
      exact ⟨.bool (!(n.toList == m.toList)),by simp only [eqGuard,binOp,Op.stringOp,Sem.run_bind,Sem.run_pure];rfl,by simp only [R];rfl⟩
    · rename_i n m
      have e1:=hx.str hI hX.symm;have e2:=hy.str hI hY.symm
      rw [hp,hq,e1,e2]
      have:bo=.add:=by cases bo<;>simp [ar] at hb<;>rfl
      subst this
      split at hv
      · rename_i hl
        cases hv
        refine ⟨.string (n++m),?_,by simp only [R]⟩
        have:=run_string_add_sum (P:=P) w n m (by omega)
        simp [eqGuard,binOp,this]
      · cases hv
    · cases hv
  obtain ⟨z,hz,hr⟩:=key _ _ _ _ rfl rfl rfl rfl h
  refine ⟨z,?_,hr⟩
  simp only [execOp,ho,Sem.run_bind] at hz ⊢
  rw [hz]
  rfl
end Go.Den
namespace Go.Den
variable {P:Program}
theorem RL_get {w:World}{g:G}:∀ {l:List V}{xs:List Value}{i:Nat}{v:V},RL w g l xs→l[i]?=some v→∃ x,xs[i]?=some x∧R w g v x
  | [],_,i,v,_,h=>by simp at h
  | u::r,xs,i,v,k,h=>by
    simp only [RL] at k
    obtain ⟨x,ys,rfl,h1,h2⟩:=k
    cases i with
    | zero=>simp at h;subst h;exact ⟨x,by simp,h1⟩
    | succ i=>simp at h;obtain ⟨y,hy,hr⟩:=RL_get h2 h;exact ⟨y,by simpa using hy,hr⟩
theorem RL_length {w:World}{g:G}:∀ {l:List V}{xs:List Value},RL w g l xs→xs.length=l.length
  | [],_,k=>by simp only [RL] at k;subst k;rfl
  | u::r,xs,k=>by
    simp only [RL] at k
    obtain ⟨x,ys,rfl,_,h2⟩:=k
    simp [RL_length h2]
theorem RL_of {w:World}{g:G}:∀ {l:List V}{xs:List Value},xs.length=l.length→(∀ (i:Nat) v,l[i]?=some v→∃ x,xs[i]?=some x∧R w g v x)→RL w g l xs
  | [],xs,h,_=>by simp only [RL];exact List.length_eq_zero_iff.mp h
  | u::r,[],h,_=>by simp at h
  | u::r,x::ys,h,k=>by
    simp only [RL]
    obtain ⟨y,hy,hr⟩:=k 0 u (by simp)
    simp at hy;subst hy
    exact ⟨x,ys,rfl,hr,RL_of (by simpa using h) fun i v hv=>by simpa using k (i+1) v (by simpa using hv)⟩
theorem RL_drop {w:World}{g:G}:∀ {l:List V}{xs:List Value}(n:Nat),RL w g l xs→RL w g (l.drop n) (xs.drop n)
  | l,xs,0,k=>by simpa using k
  | [],xs,n+1,k=>by simp only [RL] at k;subst k;simp [RL]
  | u::r,xs,n+1,k=>by
    simp only [RL] at k
    obtain ⟨x,ys,rfl,_,h2⟩:=k
    simpa using RL_drop n h2
theorem RL_take {w:World}{g:G}:∀ {l:List V}{xs:List Value}(n:Nat),RL w g l xs→RL w g (l.take n) (xs.take n)
  | l,xs,0,_=>by simp [RL]
  | [],xs,n+1,k=>by simp only [RL] at k;subst k;simp [RL]
  | u::r,xs,n+1,k=>by
    simp only [RL] at k
    obtain ⟨x,ys,rfl,h1,h2⟩:=k
    simp only [List.take_succ_cons,RL]
    exact ⟨x,_,rfl,h1,RL_take n h2⟩
theorem RL_append {w:World}{g:G}:∀ {l m:List V}{xs ys:List Value},RL w g l xs→RL w g m ys→RL w g (l++m) (xs++ys)
  | [],_,xs,ys,k,h=>by simp only [RL] at k;subst k;simpa using h
  | u::r,m,xs,ys,k,h=>by
    simp only [RL] at k
    obtain ⟨x,zs,rfl,h1,h2⟩:=k
    simp only [List.cons_append,RL]
    exact ⟨x,_,rfl,h1,RL_append h2 h⟩
theorem RPc_drop {w:World}{K:Nat→Kd}{b:Nat}:∀ {l:List V}{o:Nat}(n:Nat),RPc w K b o l→RPc w K b (o+n) (l.drop n)
  | l,o,0,k=>by simpa using k
  | [],o,n+1,_=>by simp [RPc]
  | u::r,o,n+1,k=>by
    simp only [RPc] at k
    have:=RPc_drop n k.2
    simpa [Nat.add_assoc,Nat.add_comm 1 n] using this
theorem RPr_get {w:World}{K:Nat→Kd}{b z:Nat}:∀ {es:List (List V)}{o i:Nat}{e:List V},RPr w K b z o es→es[i]?=some e→e.length=z∧RPc w K b (o+i*z) e
  | [],_,_,_,_,h=>by simp at h
  | a::r,o,i,e,k,h=>by
    simp only [RPr] at k
    cases i with
    | zero=>simp at h;subst h;simpa using ⟨k.1,k.2.1⟩
    | succ i =>
      simp at h
      have:=RPr_get k.2.2 h
      refine ⟨this.1,?_⟩
      rw [show o+(i+1)*z=o+z+i*z by rw [Nat.add_mul,Nat.one_mul];omega]
      exact this.2
theorem RP_R {w:World}{g:G}{v:V}{x:Value}(h:RP w g.K v x):R w g v x:=by
  cases v with
  | sl z es o =>
    simp only [RP] at h
    obtain ⟨rfl,a,c,h⟩:=h
    simp only [R]
    exact ⟨by simp,a,c,h.1,⟨h.2.1,h.2.2.1,h.2.2.2⟩,fun h=>by cases h⟩
  | _=>first | (simp only [RP] at h;simp only [R];exact h) | (simp only [RP] at h)
theorem R_RP {w:World}{g:G}{v:V}{x:Value}(hp:v.pure=true)(h:R w g v x):RP w g.K v x:=by
  cases v with
  | sl z es o =>
    cases o<;>simp [V.pure] at hp
    simp only [R] at h
    obtain ⟨_,a,c,hx,hs,_⟩:=h
    simp only [RP]
    exact ⟨trivial,a,c,hx,hs.1,hs.2.1,hs.2.2⟩
  | bool b=>simpa only [R,RP] using h
  | int k n=>simpa only [R,RP] using h
  | str s=>simpa only [R,RP] using h
  | _=>simp [V.pure] at hp
theorem RPc_RL {w:World}{g:G}{b:Nat}:∀ {l:List V}{o:Nat},RPc w g.K b o l→∃ xs:List Value,(∀ (j:Nat) x,xs[j]?=some x→w.cell? ⟨b,o+j,none⟩=some x)∧RL w g l xs
  | [],_,_=>⟨[],by simp,by simp only [RL]⟩
  | v::r,o,k=>by
    simp only [RPc] at k
    obtain ⟨⟨x,hx,hr⟩,k2⟩:=k
    obtain ⟨ys,hy,hys⟩:=RPc_RL k2
    refine ⟨x::ys,fun j y hj=>?_,by simp only [RL];exact ⟨x,ys,rfl,RP_R hr,hys⟩⟩
    cases j with
    | zero=>simp at hj;subst hj;simpa using hx
    | succ j=>simp at hj;have:=hy j y hj;rwa [show o+(j+1)=o+1+j by omega]
theorem run_equal_iface_nil {w:World}{T:TypeId}{ms:Array (String × TypeId)}(hT:P.underlying T=some (.interface ms)):(Op.equal T .nilIface .nilIface).run P w=.ok true w:=by
  show (Op.equalIn (9999+1) T .nilIface .nilIface).run P w=_
  rw [Op.equalIn]
  simp only [Sem.run_bind,run_underlying hT,Result.andThen_ok,Sem.run_pure]
theorem run_equal_ptr_nil {w:World}{T e0:TypeId}(hT:P.underlying T=some (.pointer e0))(a:Option Addr):(Op.equal T (.pointer a) (.pointer none)).run P w=.ok a.isNone w:=by
  show (Op.equalIn (9999+1) T (.pointer a) (.pointer none)).run P w=_
  rw [Op.equalIn]
  cases a<;>simp only [Sem.run_bind,run_underlying hT,Result.andThen_ok,Sem.run_pure,Option.isNone]
theorem run_equal_bools {w:World}{T:TypeId}(hT:P.underlying T=some .bool)(a b:Bool):(Op.equal T (.bool a) (.bool b)).run P w=.ok (a == b) w:=by
  show (Op.equalIn (9999+1) T (.bool a) (.bool b)).run P w=_
  rw [Op.equalIn]
  simp only [Sem.run_bind,run_underlying hT,Result.andThen_ok,Sem.run_pure]
variable {op:Oper} {d t:Nat} {s:St}
theorem ok_cvt {S T:TypeId}{x:Operand}{x':A}{k k':IntKind}{n:Int}{us:TypeDesc}(ho:op.op=.convert S T x)(hd:op.dst=some t)(hs:P.underlying S=some us)(ht:P.underlying T=some (.int k))(hx:Opd x x')
    (h:x'.ev s.r=.int k' n):OpOk P op d s (s.put t (.int k (k.wrap n))):=
  .plain hd rfl fun w0 g0 a w g hI=>by
    refine ⟨.int k (k.wrap n),?_,by simp only [R]⟩
    simp only [execOp,ho,hx.int hI h,convert,Sem.run_bind,run_underlying hs,run_underlying ht,Result.andThen_ok,Conv.intToInt,Sem.run_pure]
theorem ok_beq {bo:BinOp}{T T2:TypeId}{x y:Operand}{x' y':A}{p q:Bool}{e:Bool}(ho:op.op=.binOp bo T x y T2)(hd:op.dst=some t)(hb:bo=if e then .eql else .neq)(hT:P.underlying T=some .bool)(hx:Opd x x')(hy:Opd y y')
    (h1:x'.ev s.r=.bool p) (h2:y'.ev s.r=.bool q):OpOk P op d s (s.put t (.bool (bif e then p == q else p != q))):=
  .plain hd rfl fun w0 g0 a w g hI=>by
    refine ⟨_,?_,by simp only [R];rfl⟩
    cases e<;>subst hb<;>simp [execOp,ho,hx.bool hI h1,hy.bool hI h2,eqGuard,binOp,run_equal_bools hT,bne]
theorem ok_isn_ptr {bo:BinOp}{T T2 e0:TypeId}{x y:Operand}{x':A}{k:Key}{i off:Nat}{e:Bool}(ho:op.op=.binOp bo T x y T2)(hd:op.dst=some t)(hb:bo=if e then .eql else .neq)(hT:P.underlying T=some (.pointer e0))(hx:Opd x x')
    (hy:Opd y (.c .nilp)) (h1:x'.ev s.r=.ptr k i off):OpOk P op d s (s.put t (.bool !e)):=
  .plain hd rfl fun w0 g0 a w g hI=>by
    refine ⟨.bool !e,?_,by simp only [R]⟩
    obtain ⟨b,z,_,he⟩:=hx.ptr hI h1
    have hn:a.eval y=.pointer none:=by have:=hy.r hI rfl;simpa only [A.ev,R] using this
    cases e<;>subst hb<;>simp [execOp,ho,he,hn,eqGuard,binOp,run_equal_ptr_nil hT]
theorem ok_isn_nil {bo:BinOp}{T T2 e0:TypeId}{x y:Operand}{x':A}{e:Bool}(ho:op.op=.binOp bo T x y T2)(hd:op.dst=some t)(hb:bo=if e then .eql else .neq)(hT:P.underlying T=some (.pointer e0))(hx:Opd x x')
    (hy:Opd y (.c .nilp)) (h1:x'.ev s.r=.nilp):OpOk P op d s (s.put t (.bool e)):=
  .plain hd rfl fun w0 g0 a w g hI=>by
    refine ⟨.bool e,?_,by simp only [R]⟩
    have he:a.eval x=.pointer none:=by have:=hx.r hI (by rw [h1];rfl);rw [h1] at this;simpa only [R] using this
    have hn:a.eval y=.pointer none:=by have:=hy.r hI rfl;simpa only [A.ev,R] using this
    cases e<;>subst hb<;>simp [execOp,ho,he,hn,eqGuard,binOp,run_equal_ptr_nil hT]
theorem ok_isi {bo:BinOp}{T T2:TypeId}{ms:Array (String × TypeId)}{x y:Operand}{x':A}{e:Bool}(ho:op.op=.binOp bo T x y T2)(hd:op.dst=some t)(hb:bo=if e then .eql else .neq)(hT:P.underlying T=some (.interface ms))(hx:Opd x x')
    (hy:∃ v,y=.const v) (hy2:Opd y (.c .nili)) (h1:x'.ev s.r=.nili):OpOk P op d s (s.put t (.bool e)):=
  .plain hd rfl fun w0 g0 a w g hI=>by
    refine ⟨.bool e,?_,by simp only [R]⟩
    have he:a.eval x=.nilIface:=by have:=hx.r hI (by rw [h1];rfl);rw [h1] at this;simpa only [R] using this
    have hn:a.eval y=.nilIface:=by have:=hy2.r hI rfl;simpa only [A.ev,R] using this
    obtain ⟨v,rfl⟩:=hy
    cases e<;>subst hb<;>simp [execOp,ho,he,hn,eqGuard,binOp,run_equal_iface_nil hT]
theorem ok_lens {T:TypeId}{x:Operand}{x':A}{b:ByteArray}(ho:op.op=.call { callee:=.builtin .len,args:=#[x],argTypes:=#[T] })(hd:op.dst=some t)(hT:P.underlying T=some .string)(hx:Opd x x')
    (h:x'.ev s.r=.str b):OpOk P op d s (s.put t (.int .i64 b.size)):=
  .plain hd rfl fun w0 g0 a w g hI=>by
    refine ⟨.int .i64 b.size,?_,by simp only [R]⟩
    simp [execOp,ho,resolve,invoke,builtin,Builtin.len_,hx.str hI h,run_underlying hT,goInt]
theorem ok_len {T e:TypeId}{x:Operand}{x':A}{n:Nat}(ho:op.op=.call { callee:=.builtin .len,args:=#[x],argTypes:=#[T] })(hd:op.dst=some t)(hT:P.underlying T=some (.slice e))
    (h:∀ w0 g0 a w g,Inv w0 g0 d s a w g→∃ b c,a.eval x=.slice b n c):OpOk P op d s (s.put t (.int .i64 n)):=
  .plain hd rfl fun w0 g0 a w g hI=>by
    refine ⟨.int .i64 n,?_,by simp only [R]⟩
    obtain ⟨b,c,hb⟩:=h w0 g0 a w g hI
    simp [execOp,ho,resolve,invoke,builtin,Builtin.len_,hb,run_underlying hT,goInt]
theorem Opd.slice {w0:World}{g0:G}{a:Act}{w:World}{g:G}{x:Operand}{x':A}{z:Nat}{es:List (List V)}{o:Own}(hx:Opd x x')(hI:Inv w0 g0 d s a w g)(h:x'.ev s.r=.sl z es o):∃ b c,a.eval x=.slice b es.length c:=by
  rcases uq_cases (x'.ev s.r) with hu | ⟨z',es',hv⟩
  · have:=hx.r hI hu
    rw [h] at this
    simp only [R] at this
    obtain ⟨_,b,c,hb,_⟩:=this
    exact ⟨b,c,hb⟩
  · rcases hx with ⟨n,rfl,rfl⟩ | ⟨u,rfl,hu,_⟩
    · have:=hI.regs n
      rw [h] at hv
      cases hv
      simp only [A.ev] at h
      rw [h] at this
      simp only [RT] at this
      rcases this with ⟨hx,he⟩ | ⟨b,c,cur,e,fz,hx,_⟩
      · exact ⟨none,0,by rw [he];exact hx⟩
      · exact ⟨_,c,hx⟩
    · simp only [A.ev] at hv;rw [hv] at hu;simp [V.uq] at hu
theorem Opd.arr {w0:World}{g0:G}{a:Act}{w:World}{g:G}{x:Operand}{x':A}{k:Key}{z lo n:Nat}(hx:Opd x x')(hI:Inv w0 g0 d s a w g)(h:x'.ev s.r=.arr k z lo n) :
    ∃ b p c,g.A k=some (b,z)∧a.eval x=.slice p n c∧n≤c∧(p=some ⟨b,lo*z,none⟩∧(lo+c)*z≤rowSize w b∨n=0∧(p=none→c=0)∧∀ ad,p=some ad→ad.spot=none):=by
  have:=hx.r hI (by rw [h];rfl);rw [h] at this;simpa only [R] using this
theorem ok_chk {u:Nat}{v:V}(ho:op.op=.nilCheck (.tmp u))(hd:op.dst=some t)(h:rget s.r u=v)(hv:(∃ k i off,v=.ptr k i off)∨(∃ es i off,v=.pin es i off)∨∃ f a b,v=.fn f a b):OpOk P op d s (s.put t v):=by
  refine .plain hd (by rcases hv with ⟨_,_,_,rfl⟩ | ⟨_,_,_,rfl⟩ | ⟨_,_,_,rfl⟩<;>rfl) fun w0 g0 a w g hI=>?_
  have hr:=hI.regs u
  rw [h] at hr
  refine ⟨a.tmps.getD u undef,?_,?_⟩
  · rcases hv with ⟨k,i,off,rfl⟩ | ⟨es,i,off,rfl⟩ | ⟨f,p,q,rfl⟩
    · simp only [RT,R] at hr
      obtain ⟨b,z,_,hx⟩:=hr
      simp [execOp,ho,Act.eval,hx]
    · simp only [RT,R] at hr
      obtain ⟨ad,e,hx,_⟩:=hr
      simp [execOp,ho,Act.eval,hx]
    · simp only [RT,R] at hr
      obtain ⟨xs,ys,hx,_⟩:=hr
      simp [execOp,ho,Act.eval,hx]
  · rcases hv with ⟨k,i,off,rfl⟩ | ⟨es,i,off,rfl⟩ | ⟨f,p,q,rfl⟩<;>exact hr
theorem add_off (b o n:Nat):(⟨b,o,none⟩:Addr).add n=⟨b,o+n,none⟩:=by
  unfold Addr.add
  split
  · subst_vars;rfl
  · rfl
theorem add_spot {ad:Addr}(h:ad.spot=none)(n:Nat):ad.add n=⟨ad.block,ad.off+n,none⟩:=by
  obtain ⟨b,o,p⟩:=ad
  simp only at h
  subst h
  exact add_off b o n
theorem fieldOf_some {T:TypeId}{k off ft sz:Nat}(h:fieldOf P T k=some (off,ft,sz)) :
    ∃ fs f i,P.underlying T=some (.struct fs)∧fs[k]?=some f∧P.info? f.type=some i∧i.size=sz∧sz≠0∧f.offset=off∧f.type=ft:=by
  unfold fieldOf at h
  split at h
  · rename_i fs hfs
    cases h1:fs[k]? with
    | none=>rw [h1] at h;cases h
    | some f =>
      rw [h1] at h
      simp only [bnd_some] at h
      cases h2:P.info? f.type with
      | none=>rw [h2] at h;cases h
      | some i =>
        rw [h2] at h
        simp only [bnd_some] at h
        split at h
        · cases h
        · rename_i h0
          cases h
          exact ⟨fs,f,i,hfs,h1,h2,rfl,h0,rfl,rfl⟩
  · cases h
theorem run_fieldAt {w:World}{T:TypeId}{k off ft sz b o:Nat}(h:fieldOf P T k=some (off,ft,sz))(ad:Addr)(hs:ad.spot=none)(hb:ad.block=b)(hoff:ad.off=o) :
    (Instr.fieldAt T (.pointer (some ad)) k).run P w=.ok (.pointer (some ⟨b,o+off,none⟩)) w:=by
  obtain ⟨fs,f,i,h1,h2,h3,h4,h5,h6,h7⟩:=fieldOf_some h
  subst hb hoff
  simp [Instr.fieldAt,run_underlying h1,h2,Instr.sureAddr,fieldPlace,sizeOf,typeInfo,h3,h4,h5,add_spot hs,h6]
theorem ok_fa_ptr {T:TypeId}{u k off ft sz:Nat}{key:Key}{i o:Nat}(ho:op.op=.fieldAddr T (.tmp u) k)(hd:op.dst=some t)(hf:fieldOf P T k=some (off,ft,sz))(h:rget s.r u=.ptr key i o):OpOk P op d s (s.put t (.ptr key i (o+off))):=
  .plain hd rfl fun w0 g0 a w g hI=>by
    have hr:=hI.regs u
    rw [h] at hr
    simp only [RT,R] at hr
    obtain ⟨b,z,hA,hx⟩:=hr
    refine ⟨_,by simp only [execOp,ho,Act.eval,hx,Sem.run_bind,run_fieldAt (w:=w) hf ⟨b,i*z+o,none⟩ rfl rfl rfl,Result.andThen_ok,Sem.run_pure];rfl,?_⟩
    simp only [R]
    exact ⟨b,z,hA,by rw [Nat.add_assoc]⟩
theorem ok_fa_pin {T:TypeId}{u k off ft sz:Nat}{es:List (List V)}{i o:Nat}(ho:op.op=.fieldAddr T (.tmp u) k)(hd:op.dst=some t)(hf:fieldOf P T k=some (off,ft,sz))(h:rget s.r u=.pin es i o):OpOk P op d s (s.put t (.pin es i (o+off))):=
  .plain hd rfl fun w0 g0 a w g hI=>by
    have hr:=hI.regs u
    rw [h] at hr
    simp only [RT,R] at hr
    obtain ⟨ad,e,hx,hs,he,hi,hz,hc⟩:=hr
    refine ⟨_,by simp only [execOp,ho,Act.eval,hx,Sem.run_bind,run_fieldAt (w:=w) hf ad hs rfl rfl,Result.andThen_ok,Sem.run_pure];rfl,?_⟩
    simp only [R]
    exact ⟨_,e,rfl,rfl,he,hi,hz,by rw [show e.drop (o+off)=(e.drop o).drop off by rw [List.drop_drop]];exact RPc_drop off hc⟩
theorem ok_mkf {f:Nat}{fs cs:Array Operand}{fs' cs':List A}(ho:op.op=.makeFunc (.func f) fs cs)(hd:op.dst=some t)
    (h1:∀ w0 g0 a w g,Inv w0 g0 d s a w g→RL w g (fs'.map (·.ev s.r)) (fs.map a.eval).toList) (h2:∀ w0 g0 a w g,Inv w0 g0 d s a w g→RL w g (cs'.map (·.ev s.r)) (cs.map a.eval).toList):OpOk P op d s (s.put t (.fn f (fs'.map (·.ev s.r)) (cs'.map (·.ev s.r)))):=
  .plain hd rfl fun w0 g0 a w g hI=>by
    refine ⟨.func (.func f) (fs.map a.eval) (cs.map a.eval),by simp [execOp,ho,Instr.makeFunc],?_⟩
    simp only [R]
    exact ⟨_,_,rfl,h1 w0 g0 a w g hI,h2 w0 g0 a w g hI⟩
theorem ok_ixs {T:TypeId}{x y:Operand}{x' y':A}{b:ByteArray}{k:IntKind}{n:Int}(ho:op.op=.index T x y)(hd:op.dst=some t)(hT:P.underlying T=some .string)(hx:Opd x x')(hy:Opd y y')
    (h1:x'.ev s.r=.str b) (h2:y'.ev s.r=.int k n) (h3:0≤n∧n < b.size):OpOk P op d s (s.put t (.int .u8 (b.get! n.toNat).toNat)):=
  .plain hd rfl fun w0 g0 a w g hI=>by
    refine ⟨.int .u8 (b.get! n.toNat).toNat,?_,by simp only [R]⟩
    have hlt:n.toNat < b.size:=by omega
    have e:b[n.toNat]?=some (b.get! n.toNat):=by
      rw [getElem?_pos b n.toNat hlt]
      congr 1
      show b[n.toNat]=b.data[n.toNat]!
      rw [getElem!_pos b.data n.toNat hlt]
      rfl
    simp [execOp,ho,hx.str hI h1,hy.int hI h2,Instr.index,asIntOf,run_underlying hT,h3.1,e]
end Go.Den
namespace Go.Den
variable {P:Program}
theorem R_uq {w:World}{g:G}{v:V}{x:Value}(h:R w g v x):v.uq=false:=by
  unfold V.uq
  split
  · simp only [R] at h;exact absurd rfl h.1
  · rfl
theorem get_set_same {d:Nat}{s:St}{k:Key}{o o':Obj}(h:s.get d k=some o):(s.set d k o').get d k=some o':=by
  unfold St.get St.set at *
  by_cases hk:k.1=d
  · rw [if_pos hk] at h ⊢
    rw [if_pos hk]
    simp only
    revert h
    generalize s.l=l
    intro h
    induction l with
    | nil=>simp [alook] at h
    | cons a r ih =>
      obtain ⟨t,u,p⟩:=a
      simp only [alook,aset] at h ⊢
      by_cases hm:t=k.2.1∧u=k.2.2
      · rw [if_pos hm];simp only [alook];rw [if_pos hm]
      · rw [if_neg hm] at h ⊢;simp only [alook];rw [if_neg hm];exact ih h
  · rw [if_neg hk] at h ⊢
    rw [if_neg hk]
    simp [upd]
theorem get_set_other {d:Nat}{s:St}{k q:Key}{o':Obj}(h:q≠k):(s.set d k o').get d q=s.get d q:=by
  unfold St.get St.set
  by_cases hk:k.1=d
  · rw [if_pos hk]
    by_cases hq:q.1=d
    · rw [if_pos hq,if_pos hq]
      have hne:¬ (k.2.1=q.2.1∧k.2.2=q.2.2):=by
        intro ⟨h1,h2⟩
        exact h (Prod.ext (hq.trans hk.symm) (Prod.ext h1.symm h2.symm))
      simp only
      generalize s.l=l
      induction l with
      | nil=>rfl
      | cons a r ih =>
        obtain ⟨t,u,p⟩:=a
        simp only [alook,aset]
        by_cases hm:t=k.2.1∧u=k.2.2
        · rw [if_pos hm]
          simp only [alook]
          rw [if_neg (by rintro ⟨h1,h2⟩;exact hne ⟨hm.1.symm.trans h1,hm.2.symm.trans h2⟩),if_neg (by rintro ⟨h1,h2⟩;exact hne ⟨hm.1.symm.trans h1,hm.2.symm.trans h2⟩)]
        · rw [if_neg hm]
          simp only [alook]
          rw [ih]
    · rw [if_neg hq,if_neg hq]
  · rw [if_neg hk]
    by_cases hq:q.1=d
    · rw [if_pos hq,if_pos hq]
    · rw [if_neg hq,if_neg hq]
      simp [upd,h]
theorem set_r (d:Nat)(s:St)(k:Key)(o:Obj):(s.set d k o).r=s.r:=by
  unfold St.set;split<;>rfl
theorem set_dom {d:Nat}{s:St}{k:Key}{o o':Obj}(h:s.get d k=some o)(hd:∀ q p,s.f q=some p→q.1 < d):∀ q p,(s.set d k o').f q=some p→q.1 < d:=by
  intro q p hq
  unfold St.set at hq
  split at hq
  · exact hd q p hq
  · rename_i hk
    simp only [upd] at hq
    split at hq
    · rename_i e
      subst e
      unfold St.get at h
      rw [if_neg hk] at h
      exact hd _ _ h
    · exact hd q p hq
theorem set_lev {d:Nat}{s:St}{k:Key}{o':Obj}(hd:∀ q p,s.f q=some p→∀ x ∈ p.keys,x.1≤q.1)(hl:k.1≠d→∀ q ∈ o'.keys,q.1≤k.1):∀ q p,(s.set d k o').f q=some p→∀ x ∈ p.keys,x.1≤q.1:=by
  intro q p hq
  unfold St.set at hq
  split at hq
  · exact hd q p hq
  · rename_i hk
    simp only [upd] at hq
    split at hq
    · rename_i e
      subst e
      cases hq
      exact hl hk
    · exact hd q p hq
theorem keysL_mem {l:List V}{q:Key}(h:q ∈ keysL l):∃ v ∈ l,q ∈ v.keys:=by
  induction l with
  | nil=>simp [keysL] at h
  | cons a r ih =>
    simp only [keysL,List.mem_append] at h
    rcases h with h | h
    · exact ⟨a,by simp,h⟩
    · obtain ⟨v,hv,hq⟩:=ih h;exact ⟨v,by simp [hv],hq⟩
theorem keysLL_mem {l:List (List V)}{q:Key}(h:q ∈ keysLL l):∃ e ∈ l,q ∈ keysL e:=by
  induction l with
  | nil=>simp [keysLL] at h
  | cons a r ih =>
    simp only [keysLL,List.mem_append] at h
    rcases h with h | h
    · exact ⟨a,by simp,h⟩
    · obtain ⟨v,hv,hq⟩:=ih h;exact ⟨v,by simp [hv],hq⟩
theorem keysLL_set {l:List (List V)}{i:Nat}{r:List V}{q:Key}(h:q ∈ keysLL (l.set i r)):q ∈ keysL r∨q ∈ keysLL l:=by
  obtain ⟨e,he,hq⟩:=keysLL_mem h
  rcases List.mem_or_eq_of_mem_set he with h | h
  · exact .inr (mem_keysLL hq h)
  · subst h;exact .inl hq
theorem get_f {d:Nat}{s:St}{k:Key}{o:Obj}(h:s.get d k=some o)(hk:k.1≠d):s.f k=some o:=by
  unfold St.get at h
  rwa [if_neg hk] at h
section
variable {w0:World} {g0:G} {d:Nat} {s:St} {a:Act} {w w':World} {g g':G}
theorem Inv.obj (hI:Inv w0 g0 d s a w g){k:Key}{o o':Obj}(h:s.get d k=some o)(kp:Keep w g w' g' (fun l=>∀ i j,l≠.cell k i j) (fun q=>q≠k))(hA:∀ q,g'.A q=g.A q)(r:ObjR w' g' k o')(hl:k.1≠d→∀ q ∈ o'.keys,q.1≤k.1:=by intro _;simp [Obj.keys]) :
    Inv w0 g0 d (s.set d k o') a w' g' where
  defers:=hI.defers
  len:=by rw [set_r];exact hI.len
  regs:=fun u=>by rw [set_r];exact kp.rt (by simp) (hI.regs u)
  objs:=fun q p hq=>by
    by_cases e:q=k
    · subst e
      rw [get_set_same h] at hq
      cases hq
      exact r
    · rw [get_set_other e] at hq
      exact kp.objr e (fun i j=>by intro _ _ h;cases h;exact e rfl) (hI.objs q p hq)
  live:=fun q hq=>by
    by_cases e:q=k
    · subst e;rw [get_set_same h];simp
    · rw [get_set_other e];exact hI.live q (by rw [← hA];exact hq)
  dom:=set_dom h hI.dom
  lev:=set_lev hI.lev hl
  same:=by unfold St.set;split;exact hI.same;simp
  fr:=hI.fr.keep kp fun q _=>hA q
theorem Inv.demCell (hI:Inv w0 g0 d s a w g)(k:Key)(i j:Nat):∃ g',Inv w0 g0 d (s.demCell d k i j) a w g'∧Keep w g w g' (fun l=>l≠.cell k i j) (fun _=>True)∧∀ q,g'.A q=g.A q:=by
  have refl:Keep w g w g (fun l=>l≠.cell k i j) (fun _=>True):=⟨⟨Nat.le_refl _,fun _ _ h=>⟨h,rfl⟩,fun _ _=>Nat.le_refl _⟩,rfl,rfl,rfl,fun _ _ h=>⟨h,rfl⟩,fun _ _ _ _ h=>⟨h,rfl⟩,fun _ _ _ _ h=>⟨h,rfl⟩,fun _ _ h=>h⟩
  unfold St.demCell
  split
  · rename_i z es hg
    split
    · rename_i e he
      split
      · rename_i z' es' hv
        have ho:=hI.objs k _ hg
        simp only [ObjR] at ho
        obtain ⟨b,cur,el,fz,h1,h2,h3,h4,h5⟩:=ho
        obtain ⟨hz,hc⟩:=h5 i e he
        obtain ⟨x,hx,hr⟩:=hc j _ hv
        simp only [RT] at hr
        obtain ⟨g',kp,hA,r⟩:=share hr
        have hne:g'.K b=.obj k∧w.heap[b]?=w.heap[b]?:=kp.obj k trivial b (heap_lt h3) h2
        have hlev:k.1≠d→∀ q ∈ (Obj.cells z (es.set i (e.set j (.sl z' es' .sh)))).keys,q.1≤k.1:=by
          intro hk q hq
          simp only [Obj.keys] at hq
          refine hI.lev k _ (get_f hg hk) q ?_
          simp only [Obj.keys]
          rcases keysLL_set hq with h | h
          · obtain ⟨v,hv',hq'⟩:=keysL_mem h
            rcases List.mem_or_eq_of_mem_set hv' with h | h
            · exact mem_keysLL (mem_keysL hq' h) (List.mem_of_getElem? he)
            · subst h;simp [V.keys] at hq'
          · exact h
        refine ⟨g',hI.obj hg ⟨kp.toExt,kp.os,kp.tape,kp.output,kp.held,fun l hl=>kp.priv l (hl i j),fun q hq=>kp.obj q trivial,kp.A⟩ hA ?_ hlev,kp,hA⟩
        simp only [ObjR]
        refine ⟨b,cur,el,fz,by rw [hA];exact h1,hne.1,h3,h4,fun i' r' hi'=>?_⟩
        have hlt:i < es.length:=by
          rcases Nat.lt_or_ge i es.length with h | h
          · exact h
          · rw [List.getElem?_eq_none h] at he;cases he
        rw [List.getElem?_set] at hi'
        by_cases hii:i=i'
        · subst hii
          rw [if_pos rfl,if_pos hlt] at hi'
          cases hi'
          refine ⟨by simpa using hz,fun j' v hv'=>?_⟩
          rw [List.getElem?_set] at hv'
          by_cases hjj:j=j'
          · subst hjj
            have hlt2:j < e.length:=by
              rcases Nat.lt_or_ge j e.length with h | h
              · exact h
              · rw [List.getElem?_eq_none h] at hv;cases hv
            rw [if_pos rfl,if_pos hlt2] at hv'
            cases hv'
            exact ⟨x,hx,by simp only [RT];exact r⟩
          · rw [if_neg hjj] at hv'
            obtain ⟨y,hy,hr'⟩:=hc j' v hv'
            exact ⟨y,hy,kp.rt (by simp only [ne_eq,Lc.cell.injEq,not_and];intro _ _ h;exact hjj h.symm) hr'⟩
        · rw [if_neg hii] at hi'
          obtain ⟨hz',hc'⟩:=h5 i' r' hi'
          refine ⟨hz',fun j' v hv'=>?_⟩
          obtain ⟨y,hy,hr'⟩:=hc' j' v hv'
          exact ⟨y,hy,kp.rt (by simp only [ne_eq,Lc.cell.injEq,not_and];intro _ h;exact absurd h.symm hii) hr'⟩
      · exact ⟨g,hI,refl,fun _=>rfl⟩
    · exact ⟨g,hI,refl,fun _=>rfl⟩
  · exact ⟨g,hI,refl,fun _=>rfl⟩
theorem Inv.demN (k:Key)(i:Nat):∀ (n j:Nat){s:St}{g:G},Inv w0 g0 d s a w g→∃ g',Inv w0 g0 d (St.demN d k i n j s) a w g'∧∀ q,g'.A q=g.A q
  | 0,_,s,g,hI=>⟨g,hI,fun _=>rfl⟩
  | n+1,j,s,g,hI=>by
    obtain ⟨g1,h1,_,hA1⟩:=hI.demCell k i j
    obtain ⟨g2,h2,hA2⟩:=Inv.demN k i n (j+1) h1
    exact ⟨g2,h2,fun q=>(hA2 q).trans (hA1 q)⟩
theorem Inv.demAt (hI:Inv w0 g0 d s a w g)(p:V)(n:Nat):∃ g',Inv w0 g0 d (s.demAt d p n) a w g'∧∀ q,g'.A q=g.A q:=by
  unfold St.demAt
  split
  · split
    · exact Inv.demN _ _ _ _ hI
    · exact ⟨g,hI,fun _=>rfl⟩
  · exact ⟨g,hI,fun _=>rfl⟩
theorem demCell_r (d:Nat)(s:St)(k:Key)(i j:Nat):(s.demCell d k i j).r=s.r:=by
  unfold St.demCell
  repeat' split
  all_goals first | rfl | exact set_r _ _ _ _
theorem demN_r (d:Nat)(k:Key)(i:Nat):∀ (n j:Nat)(s:St),(St.demN d k i n j s).r=s.r
  | 0,_,_=>rfl
  | n+1,j,s=>by simp only [St.demN];rw [demN_r,demCell_r]
theorem demAt_r (d:Nat)(s:St)(p:V)(n:Nat):(s.demAt d p n).r=s.r:=by
  unfold St.demAt
  repeat' split
  all_goals first | rfl | exact demN_r _ _ _ _ _ _
theorem Inv.at (hI:Inv w0 g0 d s a w g){p:V}{x:Value}{c:List V}(hp:R w g p x)(h:s.at d p=some c) :
    ∃ b o,x=.pointer (some ⟨b,o,none⟩)∧∀ (j:Nat) v,c[j]?=some v→v.uq=false→∃ y,w.cell? ⟨b,o+j,none⟩=some y∧R w g v y:=by
  unfold St.at at h
  split at h
  · rename_i k i off
    simp only [R] at hp
    obtain ⟨b,z,hA,hx⟩:=hp
    refine ⟨b,i*z+off,hx,?_⟩
    split at h
    · rename_i z' es hg
      cases he:es[i]? with
      | none=>rw [he] at h;cases h
      | some e =>
        rw [he] at h
        cases h
        have ho:=hI.objs k _ hg
        simp only [ObjR] at ho
        obtain ⟨b',cur,el,fz,h1,h2,h3,h4,h5⟩:=ho
        rw [hA] at h1
        cases h1
        intro j v hv hu
        rw [List.getElem?_drop] at hv
        obtain ⟨y,hy,hr⟩:=(h5 i e he).2 (off+j) v hv
        refine ⟨y,?_,(RT_not hu).mp hr⟩
        simp only [World.cell?,h3]
        simpa [Nat.add_assoc] using hy
    · rename_i z' es fr hg
      cases he:es[i]? with
      | none=>rw [he] at h;cases h
      | some e =>
        rw [he] at h
        cases h
        have ho:=hI.objs k _ hg
        simp only [ObjR] at ho
        obtain ⟨b',h1,h2⟩:=ho
        rw [hA] at h1
        cases h1
        rcases h2 with rfl | ⟨cur,el,fz,h3,h4,h5,h6⟩
        · simp at he
        · have hr:=RPr_get h6 he
          have hd:=RPc_drop off hr.2
          obtain ⟨xs,hxs,hrl⟩:=RPc_RL hd
          intro j v hv _
          obtain ⟨y,hy,hry⟩:=RL_get hrl hv
          exact ⟨y,by have:=hxs j y hy;rwa [Nat.zero_add] at this,hry⟩
    · cases h
  · rename_i es i off
    simp only [R] at hp
    obtain ⟨ad,e,hx,hs,he,hi,hz,hc⟩:=hp
    rw [he] at h
    cases h
    obtain ⟨bb,oo,sp⟩:=ad
    simp only at hs
    subst hs
    refine ⟨bb,oo,hx,fun j v hv _=>?_⟩
    obtain ⟨xs,hxs,hrl⟩:=RPc_RL hc
    obtain ⟨y,hy,hry⟩:=RL_get hrl hv
    exact ⟨y,hxs j y hy,hry⟩
  · cases h
end
theorem szo_some {T:TypeId}{z:Option Nat}(h:szo P T=some z):∃ u i,P.underlying T=some u∧P.info? T=some i∧((z=none∧isAggB u=false∧i.size=1)∨(z=some i.size∧isAggB u=true)):=by
  unfold szo at h
  cases h1:P.underlying T with
  | none=>rw [h1] at h;cases h
  | some u =>
    rw [h1] at h
    simp only [bnd_some] at h
    cases h2:P.info? T with
    | none=>rw [h2] at h;cases h
    | some i =>
      rw [h2] at h
      simp only [bnd_some] at h
      split at h
      · rename_i ha;cases h;exact ⟨u,i,rfl,rfl,.inr ⟨rfl,ha⟩⟩
      · rename_i ha
        split at h
        · rename_i hs;cases h;exact ⟨u,i,rfl,rfl,.inl ⟨rfl,by simpa using ha,hs⟩⟩
        · cases h
theorem run_isAgg {w:World}{T:TypeId}{u:TypeDesc}(h:P.underlying T=some u):(isAgg T).run P w=.ok (isAggB u) w:=by
  unfold isAgg isAggB
  simp only [Sem.run_bind,run_underlying h,Result.andThen_ok]
  split<;>split<;>simp_all
theorem run_loadVar {w:World}{T:TypeId}{z:Option Nat}(h:szo P T=some z){b o:Nat}{c:List V}{g:G}
    (hc:∀ (j:Nat) v,c[j]?=some v→∃ y,w.cell? ⟨b,o+j,none⟩=some y∧R w g v y) (hl:c.length=z.getD 1) :
    ∃ x,(loadVar T ⟨b,o,none⟩).run P w=.ok x w∧(z=none→∀ v,c[0]?=some v→R w g v x)∧(∀ n,z=some n→∃ xs:Array Value,x=.agg xs∧RL w g c xs.toList):=by
  obtain ⟨u,i,hu,hi,hz⟩:=szo_some h
  rcases hz with ⟨rfl,ha,hs⟩ | ⟨rfl,ha⟩
  · have hlt:0 < c.length:=by simp at hl;omega
    obtain ⟨y,hy,hr⟩:=hc 0 _ (List.getElem?_eq_getElem hlt)
    refine ⟨y,?_,fun _ v hv=>?_,fun n hn=>by cases hn⟩
    · simp only [loadVar,Sem.run_bind,run_isAgg hu,Result.andThen_ok,ha]
      rw [if_neg (by simp),run_load]
      rw [Nat.add_zero] at hy
      rw [hy]
    · rw [List.getElem?_eq_getElem hlt] at hv;cases hv;exact hr
  · have key:∃ xs:List Value,xs.length=c.length∧(∀ (j:Nat) v,xs[j]?=some v→w.cell? ⟨b,o+j,none⟩=some v)∧RL w g c xs:=by
      clear hl
      induction c generalizing o with
      | nil=>exact ⟨[],rfl,by simp,by simp only [RL]⟩
      | cons v r ih =>
        obtain ⟨y,hy,hr⟩:=hc 0 v (by simp)
        obtain ⟨xs,h1,h2,h3⟩:=ih (o:=o+1) fun j v hv=>by
          have:=hc (j+1) v (by simpa using hv)
          rwa [show o+(j+1)=o+1+j by omega] at this
        refine ⟨y::xs,by simp [h1],fun j v hv=>?_,by simp only [RL];exact ⟨y,xs,rfl,hr,h3⟩⟩
        cases j with
        | zero=>simp at hv;subst hv;simpa using hy
        | succ j=>simp at hv;have:=h2 j v hv;rwa [show o+(j+1)=o+1+j by omega]
    obtain ⟨xs,h1,h2,h3⟩:=key
    refine ⟨.agg xs.toArray,?_,fun hn=>(by cases hn),fun n _=>⟨xs.toArray,rfl,by simpa using h3⟩⟩
    have hload:=run_loadCells_list (P:=P) w ⟨b,o,none⟩ xs (fun j v hv=>by rw [add_off];exact h2 j v hv)
    have hsz:i.size=xs.length:=by rw [h1,hl];rfl
    simp only [loadVar,Sem.run_bind,run_isAgg hu,Result.andThen_ok,ha,if_true,sizeOf,run_typeInfo w hi,Sem.run_pure,hsz,hload]
theorem hasUq_get {l:List V}(h:hasUq l=false){j:Nat}{v:V}(hv:l[j]?=some v):v.uq=false:=by
  have hm:=List.mem_of_getElem? hv
  unfold hasUq at h
  rw [List.any_eq_false] at h
  simpa using h v hm
theorem RL_sh {w:World}{g:G}:∀ {l:List V}{xs:List Value},RL w g l xs→RL w g (l.map V.sh) xs
  | [],xs,k=>by simpa only [RL,List.map_nil] using k
  | v::r,xs,k=>by
    simp only [RL,List.map_cons] at k ⊢
    obtain ⟨x,ys,hx,h1,h2⟩:=k
    exact ⟨x,ys,hx,sh_not (R_uq h1) h1,RL_sh h2⟩
theorem sh_uq (v:V):v.sh.uq=false:=by
  unfold V.sh
  split
  · rfl
  · rename_i h
    unfold V.uq
    split
    · exact absurd rfl (h _ _ _)
    · rfl
theorem load_of {w0:World}{g0:G}{d:Nat}{s:St}{a:Act}{w:World}{g:G}(hI:Inv w0 g0 d s a w g){T:TypeId}{z:Option Nat}(hz:szo P T=some z){p:V}{x:Value}(hp:R w g p x){c:List V}(h:s.at d p=some c)
    {v:V} (hv:(match (generalizing:=false) z with | none=>(match (generalizing:=false) c with | u::_=>if u.uq then none else some u.sh | []=>none) | some n=>if n≤c.length∧hasUq (c.take n)=false then some (.agg ((c.take n).map V.sh)) else none)=some v) :
    ∃ y,(Instr.loadAt T x).run P w=.ok y w∧R w g v y∧v.uq=false:=by
  obtain ⟨b,o,rfl,hc⟩:=hI.at hp h
  cases z with
  | none =>
    cases c with
    | nil=>cases hv
    | cons u r =>
      simp only at hv
      split at hv
      · cases hv
      · rename_i hu
        cases hv
        have hu':u.uq=false:=by simpa using hu
        obtain ⟨y,hy,hr,_⟩:=run_loadVar (P:=P) (w:=w) (g:=g) hz (b:=b) (o:=o) (c:=[u]) (fun j v hv=>by
          cases j with
          | zero=>simp at hv;subst hv;exact hc 0 u (by simp) hu'
          | succ j=>simp at hv) rfl
        exact ⟨y,by simp [Instr.loadAt,Instr.sureAddr,hy],sh_not hu' (hr rfl u (by simp)),sh_uq u⟩
  | some n =>
    simp only at hv
    split at hv
    · rename_i hn
      cases hv
      obtain ⟨y,hy,_,hr⟩:=run_loadVar (P:=P) (w:=w) (g:=g) hz (b:=b) (o:=o) (c:=c.take n) (fun j v hv=>by
        have hu:=hasUq_get hn.2 hv
        have hv':c[j]?=some v:=by
          rw [List.getElem?_take] at hv
          split at hv
          · exact hv
          · cases hv
        exact hc j v hv' hu) (by simp [hn.1])
      obtain ⟨xs,rfl,hrl⟩:=hr n rfl
      exact ⟨.agg xs,by simp [Instr.loadAt,Instr.sureAddr,hy],by simp only [R];exact ⟨xs,rfl,RL_sh hrl⟩,rfl⟩
    · cases hv
variable {op:Oper} {d t:Nat} {s:St}
theorem at_uq {d:Nat}{s:St}{p:V}{c:List V}(h:s.at d p=some c):p.uq=false:=by
  unfold St.at at h
  split at h
  · rfl
  · rfl
  · cases h
theorem ok_ld {T:TypeId}{z:Option Nat}{x:Operand}{x':A}{q:V × St}(ho:op.op=.load T x)(hd:op.dst=some t)(hz:szo P T=some z)(hx:Opd x x')(h:ldV d s (x'.ev s.r) z=some q):OpOk P op d s (q.2.put t q.1):=by
  refine .value fun w0 g0 a w g hI=>?_
  obtain ⟨g1,hI1,hA1⟩:=hI.demAt (x'.ev s.r) (z.getD 1)
  unfold ldV at h
  cases hc:(s.demAt d (x'.ev s.r) (z.getD 1)).at d (x'.ev s.r) with
  | none=>rw [hc] at h;cases h
  | some c =>
    rw [hc] at h
    simp only [bnd_some] at h
    have hp:R w g1 (x'.ev s.r) (a.eval x):=by
      have:=hx.r hI1 (by rw [demAt_r];exact at_uq hc)
      rwa [demAt_r] at this
    have key:q.2=s.demAt d (x'.ev s.r) (z.getD 1)∧(match (generalizing:=false) z with | none=>(match (generalizing:=false) c with | u::_=>if u.uq then none else some u.sh | []=>none) | some n=>if n≤c.length∧hasUq (c.take n)=false then some (.agg ((c.take n).map V.sh)) else none)=some q.1:=by
      cases z with
      | none =>
        cases c with
        | nil=>cases h
        | cons u r =>
          simp only at h ⊢
          split at h
          · cases h
          · rename_i hu;cases h;exact ⟨rfl,by rw [if_neg hu]⟩
      | some n =>
        simp only at h ⊢
        split at h
        · rename_i hn;cases h;exact ⟨rfl,by rw [if_pos hn]⟩
        · cases h
    obtain ⟨y,hy,hr,hu⟩:=load_of (P:=P) hI1 hz hp hc key.2
    refine ⟨y,w,g1,by simp [execOp,ho,hy],?_⟩
    rw [hd,key.1]
    exact hI1.put ((RT_not hu).mpr hr)
theorem ok_ldp {T:TypeId}{z:Option Nat}{x:Operand}{x':A}{v:V}(ho:op.op=.load T x)(hd:op.dst=some t)(hz:szo P T=some z)(hx:Opd x x')(h:ldP d s (x'.ev s.r) z=some v):OpOk P op d s (s.put t v):=by
  unfold ldP at h
  cases hc:s.at d (x'.ev s.r) with
  | none=>rw [hc] at h;cases h
  | some c =>
    rw [hc] at h
    simp only [bnd_some] at h
    have still_uq:∀ u:V,u.still=true→u.uq=false:=by
      intro u hu
      unfold V.uq
      split
      · simp [V.still] at hu
      · rfl
    have key:(match (generalizing:=false) z with | none=>(match (generalizing:=false) c with | u::_=>if u.uq then none else some u.sh | []=>none) | some n=>if n≤c.length∧hasUq (c.take n)=false then some (.agg ((c.take n).map V.sh)) else none)=some v:=by
      cases z with
      | none =>
        cases c with
        | nil=>cases h
        | cons u r =>
          simp only at h ⊢
          split at h
          · rename_i hu;cases h;rw [if_neg (by simp [still_uq u hu])]
          · cases h
      | some n =>
        simp only at h ⊢
        split at h
        · rename_i hn
          cases h
          have hq:hasUq (c.take n)=false:=by
            unfold hasUq
            rw [List.any_eq_false]
            intro u hu
            rw [still_uq u (List.all_eq_true.mp hn.2 u hu)]
            simp
          rw [if_pos ⟨hn.1,hq⟩]
        · cases h
    have hvu:v.uq=false:=by
      cases z with
      | none =>
        cases c with
        | nil=>cases key
        | cons u r=>simp only at key;split at key<;>cases key;exact sh_uq u
      | some n=>simp only at key;split at key<;>cases key;rfl
    exact .plain hd hvu fun w0 g0 a w g hI=>by
      obtain ⟨y,hy,hr,_⟩:=load_of (P:=P) hI hz (hx.r hI (at_uq hc)) hc key
      exact ⟨y,by simp [execOp,ho,hy],hr⟩
end Go.Den
namespace Go.Den
variable {P:Program}
structure Ok (P:Program)(cx:Cx):Prop where
  mixed:P.follows .mixedOrders=true
  ib:∀ args w,(callFunc cx.ixb args).run P w=((Extern.BytealgIndexByte.indexByte args).run P w).andThen fun v w'=>.ok (.value v) w'
  cs:∀ args w,(callFunc cx.xcs args).run P w=((Extern.BytealgCount.count args).run P w).andThen fun v w'=>.ok (.value v) w'
  eq:∀ t ts,cx.eqT.lookup t=some ts→P.eqGuardType P.depth t=false∧∀ w g X Y (xs ys:Array Value) r,eqL ts X Y=some r→RL w g X xs.toList→RL w g Y ys.toList→(Op.equal t (.agg xs) (.agg ys)).run P w=.ok r w
variable {op:Oper} {d t:Nat} {s:St}
theorem run_part {w:World}{g:G}{T:TypeId}{z:Option Nat}(h:szo P T=some z){cs:List V}{xs:Array Value}(hr:RL w g cs xs.toList){o:Nat}{v:V}
    (hv:(match (generalizing:=false) z with | none=>cs[o]? | some n=>if o+n≤cs.length then some (.agg (grab cs o n)) else none)=some v):∃ y,(part T xs o).run P w=.ok y w∧R w g v y:=by
  obtain ⟨u,i,hu,hi,hz⟩:=szo_some h
  rcases hz with ⟨rfl,ha,_⟩ | ⟨rfl,ha⟩
  · simp only at hv
    obtain ⟨y,hy,hry⟩:=RL_get hr hv
    refine ⟨y,?_,hry⟩
    have hy':xs[o]?=some y:=by simpa using hy
    simp only [part,Sem.run_bind,run_isAgg hu,Result.andThen_ok,ha]
    rw [if_neg (by simp),hy']
    rfl
  · simp only at hv
    split at hv
    · rename_i hn
      cases hv
      refine ⟨.agg (xs.extract o (o+i.size)),by simp only [part,Sem.run_bind,run_isAgg hu,Result.andThen_ok,ha,if_true,sizeOf,run_typeInfo w hi,Sem.run_pure],?_⟩
      simp only [R]
      refine ⟨_,rfl,?_⟩
      have:(xs.extract o (o+i.size)).toList=(xs.toList.drop o).take i.size:=by
        rw [Array.toList_extract,List.extract_eq_take_drop]
        congr 1;omega
      rw [this]
      exact RL_take _ (RL_drop _ hr)
    · cases hv
theorem ok_fld {T ft:TypeId}{k o sz:Nat}{x:Operand}{x':A}{cs:List V}{z:Option Nat}{v:V}(ho:op.op=.field T x k)(hd:op.dst=some t)(hf:fieldOf P T k=some (o,ft,sz))(hz:szo P ft=some z)(hx:Opd x x')(h:x'.ev s.r=.agg cs)
    (hv:(match (generalizing:=false) z with | none=>cs[o]? | some n=>if o+n≤cs.length then some (.agg (grab cs o n)) else none)=some v):OpOk P op d s (s.put t v):=by
  obtain ⟨fs,f,i,h1,h2,h3,h4,h5,h6,h7⟩:=fieldOf_some hf
  refine .value fun w0 g0 a w g hI=>?_
  obtain ⟨xs,he,hr⟩:=hx.agg hI h
  obtain ⟨y,hy,hry⟩:=run_part (P:=P) hz hr hv
  refine ⟨y,w,g,?_,by rw [hd];exact hI.put ((RT_not (R_uq hry)).mpr hry)⟩
  simp [execOp,ho,he,Instr.field,run_underlying h1,h2,asAgg,h6,h7,hy]
theorem ok_ext' {u i:Nat}{vs:List V}{v:V}(ho:op.op=.extract (.tmp u) i)(hd:op.dst=some t)(h:rget s.r u=.tup vs)(hv:vs[i]?=some v):OpOk P op d s (s.put t v):=
  .value fun w0 g0 a w g hI=>by
    have hr:=hI.regs u
    rw [h] at hr
    simp only [RT,R] at hr
    obtain ⟨xs,hx,hr⟩:=hr
    obtain ⟨x,hx2,hr2⟩:=RL_get hr hv
    exact ⟨x,w,g,by simp only [execOp,ho,Act.eval,hx,Instr.extract];simp at hx2;simp [hx2],by rw [hd];exact hI.put ((RT_not (R_uq hr2)).mpr hr2)⟩
theorem run_indexAt_slice {w:World}{T e:TypeId}{i:TypeInfo}(hT:P.underlying T=some (.slice e))(hi:P.info? e=some i){b o len cap:Nat}{k:IntKind}{n:Int}(h0:0≤n)(h1:n < len) :
    (Instr.indexAt T (.slice (some ⟨b,o,none⟩) len cap) (.int k n)).run P w=.ok (.pointer (some ⟨b,o+n.toNat*i.size,none⟩)) w:=by
  simp [Instr.indexAt,asIntOf,run_underlying hT,h0,h1,sizeOf,typeInfo,hi,add_off]
theorem ok_ia_sl {T e:TypeId}{i:TypeInfo}{x y:Operand}{x' y':A}{es:List (List V)}{o:Own}{k:IntKind}{n:Int}(ho:op.op=.indexAddr T x y)(hd:op.dst=some t)(hT:P.underlying T=some (.slice e))(hi:P.info? e=some i)(hx:Opd x x')(hy:Opd y y')
    (h1:x'.ev s.r=.sl i.size es o) (h2:y'.ev s.r=.int k n) (h3:0≤n) (h4:n < es.length):OpOk P op d s ((s.dem x').put t (.pin es n.toNat 0)):=
  .value fun w0 g0 a w g hI=>by
    have hn:=hy.int hI h2
    obtain ⟨g1,hI1,hr,_,_⟩:=hx.dem hI
    rw [h1] at hr
    simp only [V.sh,R] at hr
    obtain ⟨_,p,c,hp,⟨hc,hnone,hs⟩,_⟩:=hr
    have hlt:n.toNat < es.length:=by omega
    cases p with
    | none=>have:=(hnone rfl).1;subst this;simp at hlt
    | some ad =>
      obtain ⟨s1,s2,s3⟩:=hs ad rfl
      obtain ⟨bb,oo,sp⟩:=ad
      simp only at s1
      subst s1
      refine ⟨_,w,g1,by simp only [execOp,ho,hp,hn,Sem.run_bind,run_indexAt_slice (w:=w) hT hi h3 h4,Result.andThen_ok,Sem.run_pure];rfl,?_⟩
      rw [hd]
      refine hI1.put ?_
      have hne:es≠[]:=by rintro rfl;simp at hlt
      have he:es[n.toNat]?=some es[n.toNat]:=List.getElem?_eq_getElem hlt
      simp only [RT,R]
      exact ⟨_,_,rfl,rfl,he,(s2 hne).1,(s2 hne).2,by simpa using (RPr_get s3 he).2⟩
theorem ok_ia_arr {T e:TypeId}{i:TypeInfo}{x y:Operand}{x' y':A}{key:Key}{lo m:Nat}{k:IntKind}{n:Int}(ho:op.op=.indexAddr T x y)(hd:op.dst=some t)(hT:P.underlying T=some (.slice e))(hi:P.info? e=some i)(hx:Opd x x')(hy:Opd y y')
    (h1:x'.ev s.r=.arr key i.size lo m) (h2:y'.ev s.r=.int k n) (h3:0≤n) (h4:n < m):OpOk P op d s (s.put t (.ptr key (lo+n.toNat) 0)):=
  .plain hd rfl fun w0 g0 a w g hI=>by
    have hn:=hy.int hI h2
    obtain ⟨b,p,c,hA,hp,hc,ha⟩:=hx.arr hI h1
    have ha':p=some ⟨b,lo*i.size,none⟩:=by rcases ha with ha | ha;exact ha.1;omega
    subst ha'
    refine ⟨_,by simp only [execOp,ho,hp,hn,Sem.run_bind,run_indexAt_slice (w:=w) hT hi h3 h4,Result.andThen_ok,Sem.run_pure];rfl,?_⟩
    simp only [R]
    exact ⟨b,i.size,hA,by rw [Nat.add_mul];rfl⟩
theorem run_indexAt_array {w:World}{T e:TypeId}{i:TypeInfo}{m:Nat}(hT:P.underlying T=some (.array m e))(hi:P.info? e=some i){ad:Addr}(hs:ad.spot=none){k:IntKind}{n:Int}(h0:0≤n)(h1:n < m) :
    (Instr.indexAt T (.pointer (some ad)) (.int k n)).run P w=.ok (.pointer (some ⟨ad.block,ad.off+n.toNat*i.size,none⟩)) w:=by
  simp [Instr.indexAt,asIntOf,run_underlying hT,Instr.sureAddr,h0,h1,sizeOf,typeInfo,hi,add_spot hs]
theorem ok_iap_ptr {T e:TypeId}{i:TypeInfo}{m:Nat}{x y:Operand}{x' y':A}{key:Key}{j off:Nat}{k:IntKind}{n:Int}(ho:op.op=.indexAddr T x y)(hd:op.dst=some t)(hT:P.underlying T=some (.array m e))(hi:P.info? e=some i)(hx:Opd x x')(hy:Opd y y')
    (h1:x'.ev s.r=.ptr key j off) (h2:y'.ev s.r=.int k n) (h3:0≤n) (h4:n < m):OpOk P op d s (s.put t (.ptr key j (off+n.toNat*i.size))):=
  .plain hd rfl fun w0 g0 a w g hI=>by
    have hn:=hy.int hI h2
    obtain ⟨b,z,hA,hp⟩:=hx.ptr hI h1
    refine ⟨_,by simp only [execOp,ho,hp,hn,Sem.run_bind,run_indexAt_array (w:=w) hT hi (ad:=⟨b,j*z+off,none⟩) rfl h3 h4,Result.andThen_ok,Sem.run_pure];rfl,?_⟩
    simp only [R]
    exact ⟨b,z,hA,by rw [Nat.add_assoc]⟩
theorem ok_iap_pin {T e:TypeId}{i:TypeInfo}{m:Nat}{x y:Operand}{x' y':A}{es:List (List V)}{j off:Nat}{k:IntKind}{n:Int}(ho:op.op=.indexAddr T x y)(hd:op.dst=some t)(hT:P.underlying T=some (.array m e))(hi:P.info? e=some i)(hx:Opd x x')(hy:Opd y y')
    (h1:x'.ev s.r=.pin es j off) (h2:y'.ev s.r=.int k n) (h3:0≤n) (h4:n < m):OpOk P op d s (s.put t (.pin es j (off+n.toNat*i.size))):=
  .plain hd rfl fun w0 g0 a w g hI=>by
    have hn:=hy.int hI h2
    have hr:=hx.r hI (by rw [h1];rfl)
    rw [h1] at hr
    simp only [R] at hr
    obtain ⟨ad,el,hp,hs,he,hk,hz,hc⟩:=hr
    refine ⟨_,by simp only [execOp,ho,hp,hn,Sem.run_bind,run_indexAt_array (w:=w) hT hi hs h3 h4,Result.andThen_ok,Sem.run_pure];rfl,?_⟩
    simp only [R]
    exact ⟨_,el,rfl,rfl,he,hk,hz,by rw [show el.drop (off+n.toNat*i.size)=(el.drop off).drop (n.toNat*i.size) by rw [List.drop_drop]];exact RPc_drop _ hc⟩
theorem ok_ixa {T e:TypeId}{m:Nat}{z:Option Nat}{x y:Operand}{x' y':A}{cs:List V}{k:IntKind}{n:Int}{v:V}(ho:op.op=.index T x y)(hd:op.dst=some t)(hT:P.underlying T=some (.array m e))(hz:szo P e=some z)(hx:Opd x x')(hy:Opd y y')
    (h1:x'.ev s.r=.agg cs) (h2:y'.ev s.r=.int k n) (h3:0≤n) (h4:n < m)
    (hv:(match (generalizing:=false) z with | none=>cs[n.toNat*z.getD 1]? | some q=>if n.toNat*z.getD 1+q≤cs.length then some (.agg (grab cs (n.toNat*z.getD 1) q)) else none)=some v):OpOk P op d s (s.put t v):=
  .value fun w0 g0 a w g hI=>by
    have hn:=hy.int hI h2
    obtain ⟨xs,he,hr⟩:=hx.agg hI h1
    obtain ⟨y,hy,hry⟩:=run_part (P:=P) hz hr hv
    obtain ⟨u,i,hu,hi,hzz⟩:=szo_some hz
    have hsz:i.size=z.getD 1:=by rcases hzz with ⟨rfl,_,h⟩ | ⟨rfl,_⟩<;>simp_all
    refine ⟨y,w,g,?_,by rw [hd];exact hI.put ((RT_not (R_uq hry)).mpr hry)⟩
    simp [execOp,ho,he,hn,Instr.index,asIntOf,run_underlying hT,h3,h4,sizeOf,typeInfo,hi,hsz,hy]
def OpdL:List Operand→List A→Prop
  | [],[]=>True
  | x::l,y::r=>Opd x y∧OpdL l r
  | _,_=>False
theorem ok_mnx {mx:Bool}{x:Operand}{l:Array Operand}{ts:Array TypeId}{x':A}{l':List A}{k:IntKind}{n r:Int}(ho:op.op=.call { callee:=.builtin (if mx then .max else .min),args:=#[x]++l,argTypes:=ts })(hd:op.dst=some t)(hx:Opd x x')
    (hl:OpdL l.toList l') (h1:x'.ev s.r=.int k n) (h2:mnxV mx k (l'.map (·.ev s.r)) n=some r):OpOk P op d s (s.put t (.int k r)):=
  .plain hd rfl fun w0 g0 a w g hI=>by
    refine ⟨.int k r,?_,by simp only [R]⟩
    have hn:=hx.int hI h1
    have key:∀ (l:List Operand) (l':List A) (n:Int),OpdL l l'→mnxV mx k (l'.map (·.ev s.r)) n=some r →
        ((l.map a.eval).foldlM (if mx then Builtin.max2 else Builtin.min2) (.int k n):Go.Sem Value).run P w=.ok (.int k r) w:=by
      intro l
      induction l with
      | nil =>
        intro l' n hl h
        cases l' with
        | nil=>simp only [List.map_nil,mnxV] at h;cases h;rfl
        | cons=>exact hl.elim
      | cons o l ih =>
        intro l' n hl h
        cases l' with
        | nil=>exact hl.elim
        | cons A l' =>
          obtain ⟨ho,hl⟩:=hl
          simp only [List.map_cons] at h
          cases hv:A.ev s.r with
          | int k' m =>
            rw [hv] at h
            simp only [mnxV] at h
            split at h
            · rename_i hk
              subst hk
              have hm:=ho.int hI hv
              simp only [List.map_cons,List.foldlM_cons,Sem.run_bind,hm]
              cases mx with
              | true=>simp only [if_true,Builtin.max2,Sem.run_pure,Result.andThen_ok];exact ih l' _ hl h
              | false=>simp only [Bool.false_eq_true,if_false,Builtin.min2,Sem.run_pure,Result.andThen_ok];exact ih l' _ hl h
            · cases h
          | _=>rw [hv] at h;simp [mnxV] at h
    have:=key l.toList l' n hl h2
    cases mx with
    | true=>simp only [if_true] at this ho;simp [execOp,ho,resolve,invoke,builtin,Builtin.max_,hn,this]
    | false=>simp only [Bool.false_eq_true,if_false] at this ho;simp [execOp,ho,resolve,invoke,builtin,Builtin.min_,hn,this]
theorem ok_xib {cx:Cx}(hk:Ok P cx){ts:Array TypeId}{x y:Operand}{x' y':A}{b:ByteArray}{c:Int}(ho:op.op=.call { callee:=.value (.func cx.ixb),args:=#[x,y],argTypes:=ts })(hd:op.dst=some t)(hx:Opd x x')(hy:Opd y y')
    (h1:x'.ev s.r=.str b) (h2:y'.ev s.r=.int .u8 c):OpOk P op d s (s.put t (.int .i64 (ixByte b (UInt8.ofNat c.toNat)))):=
  .plain hd rfl fun w0 g0 a w g hI=>by
    refine ⟨.int .i64 (ixByte b (UInt8.ofNat c.toNat)),?_,by simp only [R]⟩
    have:=run_indexByte_string (P:=P) b c w
    simp only [execOp,ho,resolve,Deferred.ofValue,Act.eval,invoke,Sem.run_bind,Sem.run_pure,Result.andThen_ok]
    simp [hx.str hI h1,hy.int hI h2,hk.ib,this]
    rfl
theorem ok_xcs {cx:Cx}(hk:Ok P cx){ts:Array TypeId}{x y:Operand}{x' y':A}{b:ByteArray}{c:Int}(ho:op.op=.call { callee:=.value (.func cx.xcs),args:=#[x,y],argTypes:=ts })(hd:op.dst=some t)(hx:Opd x x')(hy:Opd y y')
    (h1:x'.ev s.r=.str b) (h2:y'.ev s.r=.int .u8 c):OpOk P op d s (s.put t (.int .i64 (csByte b (UInt8.ofNat c.toNat)))):=
  .plain hd rfl fun w0 g0 a w g hI=>by
    refine ⟨.int .i64 (csByte b (UInt8.ofNat c.toNat)),?_,by simp only [R]⟩
    simp only [execOp,ho,resolve,Deferred.ofValue,Act.eval,invoke,Sem.run_bind,Sem.run_pure,Result.andThen_ok]
    have hc:(Extern.BytealgCount.count #[.string b,.int .u8 c]).run P w=.ok (.int .i64 (csByte b (UInt8.ofNat c.toNat))) w:=by
      change Sem.run P (do
        let b ← Extern.Bytes.bytesOf (.string b)
        let c ← Extern.Bytes.asByte (.int .u8 c)
        pure (goInt (b.foldl (fun n x=>if x == c then n+1 else n) (0:Nat)))) w=_
      simp only [Extern.Bytes.bytesOf,Extern.Bytes.asByte,Sem.run_bind,Sem.run_pure,Result.andThen]
      rfl
    simp [hx.str hI h1,hy.int hI h2,hk.cs,hc]
theorem ok_eqs {cx:Cx}(hk:Ok P cx){bo:BinOp}{T T2:TypeId}{ts:List Tg}{x y:Operand}{x' y':A}{X Y:List V}{r:Bool}{e:Bool}(ho:op.op=.binOp bo T x y T2)(hd:op.dst=some t)(hb:bo=if e then .eql else .neq)(hT:cx.eqT.lookup T=some ts)(hx:Opd x x')(hy:Opd y y')
    (h1:x'.ev s.r=.agg X) (h2:y'.ev s.r=.agg Y) (h3:eqL ts X Y=some r):OpOk P op d s (s.put t (.bool (bif e then r else !r))):=
  .plain hd rfl fun w0 g0 a w g hI=>by
    obtain ⟨xs,hX,hrx⟩:=hx.agg hI h1
    obtain ⟨ys,hY,hry⟩:=hy.agg hI h2
    have:=hk.eq T ts hT
    have hq:=this.2 w g X Y xs ys r h3 hrx hry
    refine ⟨_,?_,by simp only [R];rfl⟩
    cases e<;>subst hb<;>simp [execOp,ho,hX,hY,eqGuard,this.1,binOp,hq]
end Go.Den
namespace Go.Den
variable {P:Program}
theorem Keep.trans {w1 w2 w3:World}{g1 g2 g3:G}{S:Lc→Prop}{T:Key→Prop}(h:Keep w1 g1 w2 g2 S T)(k:Keep w2 g2 w3 g3 S T):Keep w1 g1 w3 g3 S T where
  size:=Nat.le_trans h.size k.size
  rows:=fun b hb=>Nat.le_trans (h.rows b hb) (k.rows b (Nat.lt_of_lt_of_le hb h.size))
  imm:=fun b hb hi=>let x:=h.imm b hb hi;let y:=k.imm b (Nat.lt_of_lt_of_le hb h.size) x.1;⟨y.1,y.2.trans x.2⟩
  os:=k.os.trans h.os
  tape:=k.tape.trans h.tape
  output:=k.output.trans h.output
  held:=fun b hb hi=>let x:=h.held b hb hi;let y:=k.held b (Nat.lt_of_lt_of_le hb h.size) x.1;⟨y.1,y.2.trans x.2⟩
  priv:=fun l hl b hb hi=>let x:=h.priv l hl b hb hi;let y:=k.priv l hl b (Nat.lt_of_lt_of_le hb h.size) x.1;⟨y.1,y.2.trans x.2⟩
  obj:=fun q hq b hb hi=>let x:=h.obj q hq b hb hi;let y:=k.obj q hq b (Nat.lt_of_lt_of_le hb h.size) x.1;⟨y.1,y.2.trans x.2⟩
  A:=fun q a ha=>k.A q a (h.A q a ha)
theorem Keep.weak {w1 w2:World}{g1 g2:G}{S S':Lc→Prop}{T T':Key→Prop}(h:Keep w1 g1 w2 g2 S T)(hS:∀ l,S' l→S l)(hT:∀ k,T' k→T k):Keep w1 g1 w2 g2 S' T':=
  ⟨h.toExt,h.os,h.tape,h.output,h.held,fun l hl=>h.priv l (hS l hl),fun q hq=>h.obj q (hT q hq),h.A⟩
theorem Keep.refl (w:World)(g:G)(S:Lc→Prop)(T:Key→Prop):Keep w g w g S T:=
  ⟨⟨Nat.le_refl _,fun _ _ h=>⟨h,rfl⟩,fun _ _=>Nat.le_refl _⟩,rfl,rfl,rfl,fun _ _ h=>⟨h,rfl⟩,fun _ _ _ _ h=>⟨h,rfl⟩,fun _ _ _ _ h=>⟨h,rfl⟩,fun _ _ h=>h⟩
theorem keep_alloc (w:World)(g:G)(o:Go.Obj)(kd:Kd)(S:Lc→Prop)(T:Key→Prop):Keep w g (w.alloc o) (setKd g w.heap.size kd) S T:=by
  have hk:∀ b,b < w.heap.size→(setKd g w.heap.size kd).K b=g.K b∧(w.alloc o).heap[b]?=w.heap[b]?:=fun b hb=>⟨by simp only [setKd];rw [if_neg (by omega)],heap_alloc_old w o b hb⟩
  exact ⟨⟨by simp,fun b hb h=>⟨by rw [(hk b hb).1];exact h,(hk b hb).2⟩,fun b hb=>rowSize_of (hk b hb).2⟩,rfl,rfl,rfl,fun b hb h=>⟨by rw [(hk b hb).1];exact h,(hk b hb).2⟩,
    fun _ _ b hb h=>⟨by rw [(hk b hb).1];exact h,(hk b hb).2⟩,fun _ _ b hb h=>⟨by rw [(hk b hb).1];exact h,(hk b hb).2⟩,fun _ _ h=>h⟩
def addA (g:G)(k:Key)(a:Nat × Nat):G:={ g with A:=fun x=>if x=k then some a else g.A x }
theorem keep_addA (w:World)(g:G)(k:Key)(a:Nat × Nat)(h:g.A k=none)(S:Lc→Prop)(T:Key→Prop):Keep w g w (addA g k a) S T:=
  ⟨⟨Nat.le_refl _,fun _ _ h=>⟨h,rfl⟩,fun _ _=>Nat.le_refl _⟩,rfl,rfl,rfl,fun _ _ h=>⟨h,rfl⟩,fun _ _ _ _ h=>⟨h,rfl⟩,fun _ _ _ _ h=>⟨h,rfl⟩,
    fun q b hq=>by simp only [addA];rw [if_neg (by rintro rfl;rw [h] at hq;cases hq)];exact hq⟩
theorem alook_ains (o:Obj):∀ (l:Loc)(t u a b:Nat),alook l t u=none→alook (ains l t u o) a b=if t=a∧u=b then some o else alook l a b
  | [],t,u,a,b,_=>by simp only [ains,alook]
  | (x,y,p)::r,t,u,a,b,h=>by
    simp only [alook] at h
    have hne:¬ (x=t∧y=u):=by intro hm;rw [if_pos hm] at h;cases h
    rw [if_neg hne] at h
    simp only [ains]
    split
    · simp only [alook]
    · simp only [alook]
      rw [alook_ains o r t u a b h]
      by_cases h1:x=a∧y=b
      · rw [if_pos h1,if_neg (by rintro ⟨h2,h3⟩;exact hne ⟨h1.1.trans h2.symm,h1.2.trans h3.symm⟩),if_pos h1]
      · rw [if_neg h1]
        by_cases h2:t=a∧u=b
        · rw [if_pos h2,if_pos h2]
        · rw [if_neg h2,if_neg h2,if_neg h1]
theorem add_some {s s1:St}{t u:Nat}{o:Obj}(h:s.add t u o=some s1):alook s.l t u=none∧s1={ s with l:=ains s.l t u o }:=by
  unfold St.add at h
  split at h
  · rename_i hn;cases h;exact ⟨hn,rfl⟩
  · cases h
theorem get_add {d:Nat}{s s1:St}{t u:Nat}{o:Obj}(h:s.add t u o=some s1)(k:Key):s1.get d k=if k=(d,t,u) then some o else s.get d k:=by
  obtain ⟨hn,rfl⟩:=add_some h
  unfold St.get
  by_cases hk:k.1=d
  · rw [if_pos hk,if_pos hk]
    simp only
    rw [alook_ains o s.l t u _ _ hn]
    by_cases e:t=k.2.1∧u=k.2.2
    · rw [if_pos e,if_pos (Prod.ext hk (Prod.ext e.1.symm e.2.symm))]
    · rw [if_neg e,if_neg (by rintro rfl;exact e ⟨rfl,rfl⟩)]
  · rw [if_neg hk,if_neg hk,if_neg (by rintro rfl;exact hk rfl)]
section
variable {w0:World} {g0:G} {d:Nat} {s s1:St} {a:Act} {w w':World} {g g':G}
theorem Inv.free (hI:Inv w0 g0 d s a w g){t u:Nat}{o:Obj}(h:s.add t u o=some s1):g.A (d,t,u)=none:=by
  have hn:=(add_some h).1
  cases hA:g.A (d,t,u) with
  | none=>rfl
  | some x =>
    have:=hI.live (d,t,u) (by rw [hA];simp)
    unfold St.get at this
    rw [if_pos rfl] at this
    exact absurd hn this
theorem Inv.new (hI:Inv w0 g0 d s a w g){t u:Nat}{o:Obj}(h:s.add t u o=some s1){x:Nat × Nat}(kp:Keep w g w' g' (fun _=>True) (fun _=>True))(hA:∀ q,g'.A q=if q=(d,t,u) then some x else g.A q)(r:ObjR w' g' (d,t,u) o) :
    Inv w0 g0 d s1 a w' g' where
  defers:=hI.defers
  len:=by obtain ⟨_,rfl⟩:=add_some h;exact hI.len
  regs:=fun n=>by obtain ⟨_,rfl⟩:=add_some h;exact kp.rt trivial (hI.regs n)
  objs:=fun k p hk=>by
    rw [get_add h] at hk
    split at hk
    · rename_i e;cases hk;rw [e];exact r
    · exact kp.objr trivial (fun _ _=>trivial) (hI.objs k p hk)
  live:=fun k hk=>by
    rw [get_add h]
    split
    · simp
    · rename_i e;exact hI.live k (by rw [hA,if_neg e] at hk;exact hk)
  dom:=by obtain ⟨_,rfl⟩:=add_some h;exact hI.dom
  lev:=by obtain ⟨_,rfl⟩:=add_some h;exact hI.lev
  same:=by obtain ⟨_,rfl⟩:=add_some h;exact hI.same
  fr:=hI.fr.keep kp fun k hk=>by rw [hA,if_neg];rintro rfl;simp at hk
end
theorem thaw_zero (cur:Array Value):Thaw cur (0,0):=fun o _ h=>by simp at h
theorem Inv.alloc {w0:World}{g0:G}{d:Nat}{s s1:St}{a:Act}{w:World}{g:G}(hI:Inv w0 g0 d s a w g){t:Nat}{cs:List V}(h:s.add t 0 (.cells cs.length [cs])=some s1){T:TypeId}{xs:Array Value}(hr:RL w g cs xs.toList) :
    ∃ g',Inv w0 g0 d (s1.put t (.ptr (d,t,0) 0 0)) (a.put (some t) (.pointer (some ⟨w.heap.size,0,none⟩))) (w.alloc (.cells xs T (0,0))) g':=by
  have k1:=keep_alloc w g (.cells xs T (0,0)) (.obj (d,t,0)) (fun _=>True) (fun _=>True)
  have k2:=k1.trans (keep_addA _ _ (d,t,0) (w.heap.size,cs.length) (show (setKd g w.heap.size (.obj (d,t,0))).A (d,t,0)=none from hI.free h) _ _)
  refine ⟨_,(hI.new h k2 (x:=(w.heap.size,cs.length)) (fun _=>rfl) ?_).put ?_⟩
  · simp only [ObjR]
    refine ⟨w.heap.size,xs,T,(0,0),by simp [addA],by simp [addA,setKd],heap_alloc_new _ _,thaw_zero _,fun i r hi=>?_⟩
    cases i with
    | succ i=>simp at hi
    | zero =>
      simp at hi
      subst hi
      refine ⟨rfl,fun j v hv=>?_⟩
      obtain ⟨y,hy,hry⟩:=RL_get hr hv
      refine ⟨y,by simpa using hy,(RT_not (R_uq hry)).mpr (k2.r hry)⟩
  · simp only [RT,R]
    exact ⟨w.heap.size,cs.length,by simp [addA],by simp⟩
theorem okZ_r {w:World}{g:G}:∀ {xs:List Value}{l:List V},okZ xs l=true→RL w g l xs
  | [],[],_=>by simp only [RL]
  | x::r,v::q,h=>by
    unfold okZ at h
    split at h
    · rename_i hx hv;cases hx
    · rename_i a r' b q' hx hv
      cases hx;cases hv
      simp only [Bool.and_eq_true,beq_iff_eq] at h
      simp only [RL,R]
      exact ⟨_,r,rfl,by rw [h.1],okZ_r h.2⟩
    · rename_i k a r' k' b q' hx hv
      cases hx;cases hv
      simp only [Bool.and_eq_true,beq_iff_eq] at h
      simp only [RL,R]
      exact ⟨_,r,rfl,by rw [h.1.1,h.1.2],okZ_r h.2⟩
    · rename_i s r' x q' hx hv
      cases hx;cases hv
      simp only [Bool.and_eq_true,beq_iff_eq] at h
      simp only [RL,R]
      refine ⟨_,r,rfl,?_,okZ_r h.2⟩
      obtain ⟨⟨d1⟩⟩:=s
      obtain ⟨⟨d2⟩⟩:=x
      have h1:d1=[]:=h.1.1
      have h2:d2=[]:=h.1.2
      rw [h1,h2]
    · rename_i r' z q' hx hv
      cases hx;cases hv
      simp only [RL,R]
      exact ⟨_,r,rfl,⟨by simp,none,0,rfl,⟨Nat.le_refl _,fun _=>⟨rfl,rfl⟩,fun _ h=>by cases h⟩,fun _=>rfl⟩,okZ_r h⟩
    · rename_i r' q' hx hv
      cases hx;cases hv
      simp only [RL,R]
      exact ⟨_,r,rfl,rfl,okZ_r h⟩
    · rename_i r' q' hx hv
      cases hx;cases hv
      simp only [RL,R]
      exact ⟨_,r,rfl,rfl,okZ_r h⟩
    · cases h
  | [],v::q,h=>by simp [okZ] at h
  | x::r,[],h=>by simp [okZ] at h
theorem zcells_some {T:TypeId}{l:List V}(h:zcells P T=some l):∃ i z,P.info? T=some i∧i.zero=some z∧okZ z.cells.toList l=true∧l.length=i.size∧0 < i.size∧i.bytes≤1024:=by
  unfold zcells at h
  cases h1:P.info? T with
  | none=>rw [h1] at h;cases h
  | some i =>
    rw [h1] at h
    simp only [bnd_some] at h
    cases h2:i.zero with
    | none=>rw [h2] at h;cases h
    | some z =>
      rw [h2] at h
      simp only [bnd_some] at h
      cases h3:zeroT P 6 T with
      | none=>rw [h3] at h;cases h
      | some l' =>
        rw [h3] at h
        simp only [bnd_some] at h
        split at h
        · rename_i hc;cases h;exact ⟨i,z,rfl,h2,hc.1,hc.2.1,hc.2.2.1,hc.2.2.2⟩
        · cases h
variable {op:Oper} {d t:Nat} {s:St}
theorem ok_new {T:TypeId}{l:List V}{s1:St}(ho:op.op=.alloc T)(hd:op.dst=some t)(hz:zcells P T=some l)(h:s.add t 0 (.cells l.length [l])=some s1):OpOk P op d s (s1.put t (.ptr (d,t,0) 0 0)):=
  .value fun w0 g0 a w g hI=>by
    obtain ⟨i,z,hi,hzz,hok,_⟩:=zcells_some hz
    obtain ⟨g',hI'⟩:=hI.alloc h (T:=T) (xs:=z.cells) (okZ_r hok)
    refine ⟨_,_,g',?_,by rw [hd];exact hI'⟩
    simp [execOp,ho,Instr.alloc,zeroValue,typeInfo,hi,hzz,newVar,newRow]
theorem one_cell {w:World}{g:G}{v:V}{x:Value}(h:v.one=true)(r:R w g v x):x.oneCell'=true∧x.cells = #[x]:=by
  cases v<;>simp [V.one] at h<;>simp only [R] at r
  case bool b=>subst r;exact ⟨rfl,rfl⟩
  case int k n=>subst r;exact ⟨rfl,rfl⟩
  case str s=>subst r;exact ⟨rfl,rfl⟩
  case nilp=>subst r;exact ⟨rfl,rfl⟩
  case nilf=>subst r;exact ⟨rfl,rfl⟩
  case nili=>subst r;exact ⟨rfl,rfl⟩
  case sl z es o=>obtain ⟨_,a,c,rfl,_⟩:=r;exact ⟨rfl,rfl⟩
  case ptr k i off=>obtain ⟨b,z,_,rfl⟩:=r;exact ⟨rfl,rfl⟩
  case pin es i off=>obtain ⟨ad,e,rfl,_⟩:=r;exact ⟨rfl,rfl⟩
  case arr k z lo n=>obtain ⟨b,a,c,_,rfl,_⟩:=r;exact ⟨rfl,rfl⟩
  case fn f a b=>obtain ⟨xs,ys,rfl,_⟩:=r;exact ⟨rfl,rfl⟩
  case map k=>obtain ⟨b,_,rfl⟩:=r;exact ⟨rfl,rfl⟩
theorem flat_cells {w:World}{g:G}{v:V}{x:Value}{cs:List V}(h:v.flat=some cs)(r:R w g v x):RL w g cs x.cells.toList∧(∀ u ∈ cs,u.one=true):=by
  unfold V.flat at h
  split at h
  · split at h
    · rename_i hall
      cases h
      simp only [R] at r
      obtain ⟨xs,rfl,hr⟩:=r
      exact ⟨hr,fun u hu=>List.all_eq_true.mp hall u hu⟩
    · cases h
  · split at h
    · rename_i ho
      cases h
      have:=one_cell ho r
      rw [this.2]
      refine ⟨by simp only [RL];exact ⟨x,[],rfl,r,rfl⟩,fun u hu=>?_⟩
      simp at hu;subst hu;exact ho
    · cases h
theorem ok_box {T:TypeId}{x:Operand}{x':A}{cs:List V}{s1:St}(ho:op.op=.box T x)(hd:op.dst=some t)(hx:Opd x x')(hf:(x'.ev s.r).sh.flat=some cs)(h:(s.dem x').add t 0 (.cells cs.length [cs])=some s1):OpOk P op d s (s1.put t (.ptr (d,t,0) 0 0)):=
  .value fun w0 g0 a w g hI=>by
    obtain ⟨g1,hI1,hr,_,_⟩:=hx.dem hI
    obtain ⟨g',hI'⟩:=hI1.alloc h (T:=T) (xs:=(a.eval x).cells) (flat_cells hf hr).1
    refine ⟨_,_,g',?_,by rw [hd];exact hI'⟩
    simp [execOp,ho,Instr.box,newVar,newRow]
def arrPut:Array Value→Nat→List Value→Array Value
  | cur,_,[]=>cur
  | cur,o,v::r=>arrPut (cur.setIfInBounds o v) (o+1) r
theorem arrPut_size:∀ (vs:List Value)(cur:Array Value)(o:Nat),(arrPut cur o vs).size=cur.size
  | [],_,_=>rfl
  | v::r,cur,o=>by simp only [arrPut];rw [arrPut_size r];simp
theorem arrPut_get:∀ (vs:List Value)(cur:Array Value)(o p:Nat),(arrPut cur o vs)[p]?=if o≤p∧p < o+vs.length∧p < cur.size then vs[p - o]? else cur[p]?
  | [],cur,o,p=>by simp only [arrPut,List.length_nil];rw [if_neg (by omega)]
  | v::r,cur,o,p=>by
    simp only [arrPut,List.length_cons]
    rw [arrPut_get r]
    simp only [Array.size_setIfInBounds]
    by_cases h1:o+1≤p∧p < o+1+r.length∧p < cur.size
    · rw [if_pos h1,if_pos (by omega)]
      rw [show p - o=(p - (o+1))+1 by omega]
      simp
    · rw [if_neg h1]
      rw [Array.getElem?_setIfInBounds]
      by_cases h2:o=p
      · subst h2
        rw [if_pos rfl]
        by_cases h3:o < cur.size
        · rw [if_pos h3,if_pos (by omega)];simp
        · rw [if_neg h3,if_neg (by omega),Array.getElem?_eq_none (by omega)]
      · rw [if_neg h2,if_neg (by omega)]
theorem splice_length:∀ (xs cs:List V)(o:Nat),(splice cs o xs).length=cs.length
  | [],_,_=>rfl
  | v::r,cs,o=>by simp only [splice];rw [splice_length r,rset_length]
theorem rset_get (v:V):∀ (cs:List V)(o p:Nat),(rset cs o v)[p]?=if o=p∧p < cs.length then some v else cs[p]?
  | [],o,p=>by simp [rset]
  | a::r,0,0=>by simp [rset]
  | a::r,0,p+1=>by simp [rset]
  | a::r,o+1,0=>by simp [rset]
  | a::r,o+1,p+1=>by simp [rset,rset_get v r o p]
theorem splice_get:∀ (xs cs:List V)(o p:Nat),(splice cs o xs)[p]?=if o≤p∧p < o+xs.length∧p < cs.length then xs[p - o]? else cs[p]?
  | [],cs,o,p=>by simp only [splice,List.length_nil];rw [if_neg (by omega)]
  | v::r,cs,o,p=>by
    simp only [splice,List.length_cons]
    rw [splice_get r,rset_length,rset_get]
    by_cases h1:o+1≤p∧p < o+1+r.length∧p < cs.length
    · rw [if_pos h1,if_pos (by omega),show p - o=(p - (o+1))+1 by omega];simp
    · rw [if_neg h1]
      by_cases h2:o=p
      · subst h2
        by_cases h3:o < cs.length
        · rw [if_pos ⟨rfl,h3⟩,if_pos (by omega)];simp
        · rw [if_neg (by omega),if_neg (by omega)]
      · rw [if_neg (by omega),if_neg (by omega)]
theorem setRow_cur {w:World}{b:Nat}{cur:Array Value}{e:TypeId}{fz:Nat × Nat}(h:w.heap[b]?=some (.cells cur e fz)):w.setRow b cur=w:=by
  obtain ⟨hp,tp,dr,os,ou⟩:=w
  simp only [World.setRow]
  congr 1
  apply Array.ext
  · simp
  · intro i h1 h2
    simp only [Array.getElem_modify]
    split
    · rename_i he
      subst he
      have:hp[b]?=some hp[b]:=Array.getElem?_eq_getElem h2
      rw [h] at this
      simp only [zI] at this
      rw [← this]
    · rfl
theorem run_stores (b o:Nat)(e:TypeId)(fz:Nat × Nat):∀ (vs:List Value)(i:Nat)(cur:Array Value)(w:World),w.heap[b]?=some (.cells cur e fz)→Thaw cur fz→o+i+vs.length≤cur.size→(∀ v ∈ vs,v.oneCell'=true) →
    (storeCells ⟨b,o,none⟩ vs i).run P w=.ok () (w.setRow b (arrPut cur (o+i) vs))
  | [],i,cur,w,h,_,_,_=>by simp only [storeCells,Sem.run_pure,arrPut];rw [setRow_cur h]
  | v::r,i,cur,w,h,ht,hl,h1=>by
    simp only [List.length_cons] at hl
    have hc:w.cell? ⟨b,o+i,none⟩=some cur[o+i]:=by
      rw [cell_of_row w b (o+i) cur e fz h]
      exact Array.getElem?_eq_getElem (by omega)
    have hf:w.frozen? ⟨b,o+i,none⟩=false:=by
      simp only [World.frozen?,h]
      have:=ht (o+i) (by omega)
      simpa using this
    simp only [storeCells,Sem.run_bind,add_off,run_store P w _ v .plain (h1 v (by simp)),hc,hf,Bool.false_eq_true,if_false,Result.andThen_ok]
    have hs:=setCell_eq_setRow w b (o+i) cur e fz v h
    rw [hs]
    have h':=setRow_heap w b cur (cur.setIfInBounds (o+i) v) e fz h
    have:=run_stores b o e fz r (i+1) (cur.setIfInBounds (o+i) v) (w.setRow b (cur.setIfInBounds (o+i) v)) h' (by intro p hp;exact ht p (by simpa using hp)) (by simp;omega) (fun u hu=>h1 u (by simp [hu]))
    rw [show o+(i+1)=o+i+1 by omega] at this
    rw [this,setRow_setRow]
    simp only [arrPut]
theorem rows_setRow {w:World}{b:Nat}{cs:Array Value}(hc:rowSize w b≤cs.size)(x:Nat):rowSize w x≤rowSize (w.setRow b cs) x:=by
  by_cases hx:x=b
  · subst hx
    cases hh:w.heap[x]? with
    | none=>unfold rowSize;rw [hh];exact Nat.zero_le _
    | some o =>
      cases o with
      | cells cur e fz =>
        have h2:=setRow_heap w x cur cs e fz hh
        unfold rowSize at hc ⊢
        rw [h2]
        rw [hh] at hc ⊢
        exact hc
      | _=>unfold rowSize;rw [hh];exact Nat.zero_le _
  · exact rowSize_of (setRow_other w b x cs hx)
theorem rowSize_cells {w:World}{b:Nat}{cur:Array Value}{e:TypeId}{fz:Nat × Nat}(h:w.heap[b]?=some (.cells cur e fz)):rowSize w b=cur.size:=by unfold rowSize;rw [h]
theorem keep_row {w:World}{g:G}{b:Nat}{k:Key}{cs:Array Value}(h:g.K b=.obj k)(hc:rowSize w b≤cs.size):Keep w g (w.setRow b cs) g (fun _=>True) (fun q=>q≠k):=by
  have hk:∀ x,x≠b→(w.setRow b cs).heap[x]?=w.heap[x]?:=fun x hx=>setRow_other w b x cs hx
  exact ⟨⟨by simp,fun x _ hi=>⟨hi,hk x (by rintro rfl;rw [h] at hi;cases hi)⟩,fun x _=>rows_setRow hc x⟩,rfl,rfl,rfl,fun x _ hi=>⟨hi,hk x (by rintro rfl;rw [h] at hi;cases hi)⟩,
    fun _ _ x _ hi=>⟨hi,hk x (by rintro rfl;rw [h] at hi;cases hi)⟩,fun q hq x _ hi=>⟨hi,hk x (by rintro rfl;rw [h] at hi;cases hi;exact hq rfl)⟩,fun _ _ h=>h⟩
end Go.Den
