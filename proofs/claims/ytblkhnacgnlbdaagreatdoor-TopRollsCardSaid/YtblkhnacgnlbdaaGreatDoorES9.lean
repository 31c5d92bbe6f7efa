import Derived.Test.YtblkhnacgnlbdaaGreatDoorES8
import Derived.Laws.Cover3
import Derived.Laws.StructEq
set_option linter.all false
namespace Go.Den
variable {P:Program}
theorem vstep {ops:Array Oper}{Q:Exit→Act→World→Prop}{op:Oper}{r:List Oper}{a:Act}{w:World}(hg:op.guard=none)(x:Value)(w':World)(hr:(execOp a.eval op).run P w=.ok (.value x) w')(h:wpList P ops Q r (a.put op.dst x) w'):wpList P ops Q (op::r) a w:=by
  unfold wpList
  rw [if_pos (by simp [Region.wanted,hg])]
  left
  unfold Oper.wp
  rw [hr]
  exact h
theorem size_put (a:Act)(d:Nat)(x:Value):(a.put (some d) x).tmps.size=a.tmps.size:=by simp [Act.put]
def tm (a:Act)(t:Nat):Value:=a.tmps.getD t undef
theorem tm_put (a:Act)(d:Nat)(x:Value)(t:Nat):tm (a.put (some d) x) t=if t=d∧d < a.tmps.size then x else tm a t:=tmps_put a d x t
theorem eval_tmp (a:Act)(t:Nat):a.eval (.tmp t)=tm a t:=rfl
theorem eval_const (a:Act)(v:Value):a.eval (.const v)=v:=rfl
structure Is (o:Oper)(d:Nat)(p:Op):Prop where
  dst:o.dst=some d
  op:o.op=p
  guard:o.guard=none
theorem cells_of_old {w w':World}{b:Nat}(h:w'.heap[b]?=w.heap[b]?)(o:Nat):w'.cell? ⟨b,o,none⟩=w.cell? ⟨b,o,none⟩:=by simp only [World.cell?,h]
theorem clone_ok {k z T e:Nat}{fn:Func}{zs:List V}{i0 i1 i2 i3:Nat}{o0 o1 o2 o3 o4 o5 o6 o7:Oper}(hf:P.funcs[k]?=some fn)(hnm:(fn.name == "runtime.NumGoroutine")=false)(hres:fn.results = #[.tmp 2])(hnt:fn.ntmps=8)
    (hb:fn.body=some (.seq (.region i0 #[o0] false) (.seq (.seq (.region i1 #[o1,o2] false) (.cond (.tmp 4) (.seq (.region i2 #[o3] false) .ret) .skip)) (.seq (.region i3 #[o4,o5,o6,o7] false) .ret))))
    (h0:Is o0 2 (.assign (.const (.slice none 0 0)))) (h1:Is o1 3 (.move (.tmp 0))) (h2:Is o2 4 (.binOp .eql T (.tmp 3) (.const (.slice none 0 0)) T)) (h3:Is o3 2 (.assign (.const (.slice none 0 0)))) (h4:Is o4 5 (.buildSlice T 0 #[])) (h5:Is o5 6 (.move (.tmp 0)))
    (h6:Is o6 7 (.call { callee:=.builtin .append,args:=#[.tmp 5,.tmp 6],argTypes:=#[T,T] })) (h7:Is o7 2 (.assign (.tmp 7))) (hT:P.underlying T=some (.slice e)) (hz:zcells P e=some zs) (hl:zs.length=z):CloneOK P k z:=by
  refine ⟨⟨fn,_,hf,hnm,hb⟩,fun w p n c ys hn hnc hp hlen hone hsrc=>calls_of_wp hf hb ?_⟩
  obtain ⟨i,zv,hi,hzz,hok,hlz,hpos,hby⟩:=zcells_some hz
  have hzs:zv.cells.size=i.size:=by
    have:=RL_length (okZ_r (w:=default) (g:=⟨fun _=>.imm,fun _=>none,fun _=>none⟩) hok)
    simp at this;omega
  have hzi:z=i.size:=by omega
  rw [hnt]
  have fin:∀ (a:Act) (w':World) (R:Ending→World→Prop) (x:Value),a.defers=[]→tm a 2=x→R (.returned x) w'→bodyPost P fn R .ret a w':=by
    intro a w' R x hd hx hR
    refine ⟨hd,x,?_,hR⟩
    have:=run_results (P:=P) (fn:=fn) (tmps:=a.tmps) (w:=w') (ys:=[x]) (by rw [hres];simpa [resRun,tm] using hx)
    simpa [oneOf] using this
  generalize ha0:({ tmps:=#[Value.slice p n c]++Array.replicate (8 - #[Value.slice p n c].size) undef,defers:=[] }:Act)=a0
  have hs0:a0.tmps.size=8:=by rw [← ha0];simp
  have hd0:a0.defers=[]:=by rw [← ha0]
  have ht0:tm a0 0=.slice p n c:=by rw [← ha0];simp [tm,Array.getD_eq_getD_getElem?]
  have hop:∀ (op:Oper) (a:Act),op.op=.buildSlice T 0 #[]→∀ w:World,(execOp a.eval op).run P w=.ok (.value (.slice (some ⟨w.heap.size,0,none⟩) 0 0)) (w.alloc (.cells #[] e (0,0))):=by
    intro op a ho w
    have hrun:=run_buildSlice (P:=P) (w:=w) (T:=T) (n:=0) (parts:=#[]) (ys:=#[]) hT hi hzz (by simp) (by simp [Instr.fill,madeCells])
    simp only [execOp,ho,Array.map_empty,Sem.run_bind,hrun,Result.andThen_ok,Sem.run_pure]
  refine wp_seq (wp_region_list (vstep h0.guard (.slice none 0 0) w (by simp [execOp,h0.op,eval_const]) ?_))
  rw [h0.dst]
  refine wp_seq (wp_seq (wp_region_list (vstep h1.guard (.slice p n c) w (by simp [execOp,h1.op,eval_tmp,tm_put,ht0]) (vstep h2.guard (.bool p.isNone) w (by
    simp [execOp,h1.dst,h2.op,eval_tmp,eval_const,tm_put,size_put,hs0,eqGuard,binOp,run_equal_slice_nil _ _ _ _ _ _ hT]) ?_))))
  rw [h1.dst,h2.dst]
  show Code.wp P _ _ _ _
  refine wp_cond (t:=p.isNone) (by simp [eval_tmp,tm_put,size_put,hs0]) ?_
  cases p with
  | none =>
    have hn0:=hp rfl
    subst hn0
    rw [if_pos (by rfl)]
    refine wp_seq (wp_region_list (vstep h3.guard (.slice none 0 0) w (by simp [execOp,h3.op,eval_const]) ?_))
    rw [h3.dst]
    refine wp_ret ?_
    simp only [Exit.then]
    refine fin _ _ _ (.slice none 0 0) ?_ ?_ ?_
    · simp [Act.put,hd0]
    · simp [tm_put,size_put,hs0]
    · exact ⟨⟨Nat.le_refl _,fun _ _=>rfl,rfl,rfl,rfl⟩,.inl ⟨trivial,none,rfl,fun ad h=>by cases h⟩⟩
  | some ad =>
    rw [if_neg (by simp)]
    refine wp_skip ?_
    refine wp_seq (wp_region_list ?_)
    have g1:Grew w (w.alloc (.cells #[] e (0,0))):=⟨by simp,fun b hb=>heap_alloc_old w _ b hb,rfl,rfl,rfl⟩
    refine vstep h4.guard _ _ (hop o4 _ h4.op w) (vstep h5.guard (.slice (some ad) n c) (w.alloc (.cells #[] e (0,0))) (by simp [execOp,h5.op,h4.dst,eval_tmp,tm_put,size_put,hs0,ht0]) ?_)
    rw [h4.dst,h5.dst]
    have hend:∀ (x:Value) (w':World),(Builtin.append_ #[T,T] o6.type #[.slice (some ⟨w.heap.size,0,none⟩) 0 0,.slice (some ad) n c]).run P (w.alloc (.cells #[] e (0,0)))=.ok x w' →
        (Grew w w'∧(n=0∧(∃ p',x=.slice p' 0 0∧∀ ad,p'=some ad→ad.spot=none)∨n≠0∧NewRow w w' z n ys x)) →
        ∃ x w',(execOp (((((a0.put (some 2) (.slice none 0 0)).put (some 3) (.slice (some ad) n c)).put (some 4) (.bool false)).put (some 5) (.slice (some ⟨w.heap.size,0,none⟩) 0 0)).put (some 6) (.slice (some ad) n c)).eval o6).run P (w.alloc (.cells #[] e (0,0)))=.ok (.value x) w' ∧
          (Grew w w'∧(n=0∧(∃ p',x=.slice p' 0 0∧∀ ad,p'=some ad→ad.spot=none)∨n≠0∧NewRow w w' z n ys x)):=by
      intro x w' hx hR
      refine ⟨x,w',?_,hR⟩
      simp only [execOp,h6.op,resolve,invoke,builtin,Sem.run_bind,Sem.run_pure,Result.andThen_ok,List.map_toArray,List.map_cons,List.map_nil,eval_tmp,tm_put,size_put,hs0]
      simp [hx]
    have hgo:∃ x w',(Builtin.append_ #[T,T] o6.type #[.slice (some ⟨w.heap.size,0,none⟩) 0 0,.slice (some ad) n c]).run P (w.alloc (.cells #[] e (0,0)))=.ok x w' ∧
        (Grew w w'∧(n=0∧(∃ p',x=.slice p' 0 0∧∀ ad,p'=some ad→ad.spot=none)∨n≠0∧NewRow w w' z n ys x)):=by
      have hlo:∀ w1,(Builtin.lenOf (.slice (some ad) n c)).run P w1=.ok n w1:=fun w1=>by simp [Builtin.lenOf]
      rcases Nat.eq_zero_or_pos n with h0 | h0
      · subst h0
        have hrun:=run_app_room (P:=P) (ty:=o6.type) (base:=some ⟨w.heap.size,0,none⟩) (sLen:=0) (sCap:=0) (x:=.slice (some ad) 0 c) (news:=[]) (w:=w.alloc (.cells #[] e (0,0))) (w':=w.alloc (.cells #[] e (0,0))) hT hT (.inl ⟨e,rfl⟩) hi (hlo _) (by simp [Builtin.firstCells,loadCells,loadCellsFrom]) (Nat.le_refl _) (fun _ _=>by simp [storeCells]) (fun h=>by cases h)
        exact ⟨_,_,hrun,g1,.inl ⟨rfl,some ⟨w.heap.size,0,none⟩,rfl,fun ad h=>by cases h;rfl⟩⟩
      · obtain ⟨b,o,hb1,hb2,hb3⟩:=hsrc (by omega)
        cases hb1
        have hold:(w.alloc (.cells #[] e (0,0))).drew.heap[b]?=w.heap[b]?:=heap_alloc_old w _ b hb2
        have hcs:=run_firstCells_some (P:=P) (w.alloc (.cells #[] e (0,0))).drew i.size n ⟨b,o,none⟩ n c ys (by rw [hlen,hzi]) (fun j v hv=>by rw [add_off,cells_of_old hold];exact hb3 j v hv)
        have hn':n≤16777216:=hn
        have hrun:=run_app_new (P:=P) (ty:=o6.type) (base:=some ⟨w.heap.size,0,none⟩) (sLen:=0) (sCap:=0) (x:=.slice (some ⟨b,o,none⟩) n c) (olds:=[]) (news:=ys) (w:=w.alloc (.cells #[] e (0,0))) hT hT (.inl ⟨e,rfl⟩) hi hzz (hlo _) hcs (by simp [Builtin.firstCells,loadCells,loadCellsFrom]) (by omega) (by omega) (by
          have:(0+n)*i.bytes≤16777216*1024:=Nat.mul_le_mul (by omega) hby
          omega)
        have hge:=grown_ge (w.alloc (.cells #[] e (0,0))) n 0 e
        simp only [Nat.zero_add] at hrun
        refine ⟨_,_,hrun,⟨by simp [World.drew];omega,fun q hq=>?_,rfl,rfl,rfl⟩,.inr ⟨by omega,?_⟩⟩
        · rw [heap_alloc_old _ _ _ (by simp [World.drew];omega)]
          exact heap_alloc_old w _ q hq
        · refine ⟨(w.alloc (.cells #[] e (0,0))).heap.size,_,_,e,(Builtin.zeroCells zv.cells (grownCap (w.alloc (.cells #[] e (0,0))) n 0 e - n)).toList,rfl,by simp,heap_alloc_new _ _,by omega,?_,by simp⟩
          rw [Array.size_append,Array.size_append,zeroCells_size,hzs]
          simp only [List.size_toArray,List.length_nil,Nat.zero_add,hlen,hzi]
          rw [← Nat.add_mul]
          congr 1;omega
    obtain ⟨x0,w0,hx0,hR0⟩:=hgo
    obtain ⟨x1,w1,hx1,hR1⟩:=hend x0 w0 hx0 hR0
    refine vstep h6.guard x1 w1 hx1 (vstep h7.guard x1 w1 (by simp [execOp,h7.op,h6.dst,eval_tmp,tm_put,size_put,hs0]) ?_)
    rw [h6.dst,h7.dst]
    refine wp_ret ?_
    refine fin _ _ _ x1 ?_ ?_ hR1
    · simp [Act.put,hd0]
    · simp [tm_put,size_put,hs0]
end Go.Den
namespace Go.Den
variable {P:Program}
theorem run_app_zeros {w:World}{t u ty e:TypeId}{i:TypeInfo}{zv:Value}{n:Int}(ht:P.underlying t=some (.slice e))(hu:P.underlying u=some (.int .i64))(hi:P.info? e=some i)(hzz:i.zero=some zv)(hs:0 < i.size)(hb1:i.bytes≤1024)(h0:0 < n)(hm:n≤16777216) :
    (Builtin.append_ #[t,u] ty #[.slice none 0 0,.int .i64 n]).run P w=.ok (.slice (some ⟨w.heap.size,0,none⟩) n.toNat (grownCap w n.toNat 0 e))
      (w.drew.alloc (.cells (Builtin.zeroCells zv.cells n.toNat++Builtin.zeroCells zv.cells (grownCap w n.toNat 0 e - n.toNat)) e)):=by
  have hw:IntKind.i64.wrap n=n:=by
    unfold IntKind.wrap
    simp [IntKind.signed,IntKind.bits]
    omega
  have hb:n.toNat*i.bytes≤140737488355328:=by
    have:n.toNat*i.bytes≤16777216*1024:=Nat.mul_le_mul (by omega) hb1
    omega
  have hfit:=growslice_fits (need:=n.toNat) (old:=0) (by omega) hb
  have h48':¬ (281474976710656 < Builtin.nextslicecap n.toNat 0*i.bytes):=by omega
  have h48:¬ (281474976710656 < n*(i.bytes:Int)):=by
    have:n*(i.bytes:Int)=((n.toNat*i.bytes:Nat):Int):=by
      rw [Int.natCast_mul,Int.toNat_of_nonneg (by omega)]
    rw [this]
    omega
  have hn:¬ (n≤0):=by omega
  have hn2:¬ (n.toNat*i.size=0):=by
    intro h
    rcases Nat.mul_eq_zero.mp h with h | h<;>omega
  have hn3:¬ (n < 0):=by omega
  simp [Builtin.append_,run_underlying ht,run_underlying hu,sizeOf,typeInfo,zeroValue,hi,hzz,asInt,asIntOf,hw,hn,hn2,hn3,h48,h48',Question.forced,newRow,grownCap,Builtin.firstCells]
  intro h;omega
theorem run_bin_i64 {w:World}{T:TypeId}(hT:P.underlying T=some (.int .i64)){op:BinOp}{a b:Int}{v:Value}(h:op=.lss∧v=.bool (decide (a < b))∨op=.gtr∧v=.bool (decide (a > b))∨op=.sub∧v=.int .i64 (IntKind.i64.wrap (a - b))) :
    (binOp op T (.int .i64 a) (.int .i64 b)).run P w=.ok v w:=by
  rcases h with ⟨rfl,rfl⟩ | ⟨rfl,rfl⟩ | ⟨rfl,rfl⟩<;>simp [binOp,Op.intCmp,Op.intArith]
theorem grow_ok {k z T I e:Nat}{fn:Func}{zs:List V}{i0 i1 i3 i4 i5 i6:Nat}{c2:Code}{p0 p1 p2 p3 p4 p5 p6 p7 p8 p9 p10 q0 q1 r0 r1 r2 r3 r4 r5 r6 r7 r8 r9 u0 u1:Oper}(hf:P.funcs[k]?=some fn)(hnm:(fn.name == "runtime.NumGoroutine")=false)(hres:fn.results = #[.tmp 4])(hnt:fn.ntmps=27)
    (hb:fn.body=some (.seq (.region i0 #[p0] false) (.seq (.seq (.region i1 #[p1,p2] false) (.cond (.tmp 6) c2 .skip)) (.seq (.seq (.region i3 #[p3,p4,p5,p6,p7,p8,p9,p10] false) (.seq (.region i4 #[q0,q1] false) (.cond (.tmp 16) (.region i5 #[r0,r1,r2,r3,r4,r5,r6,r7,r8,r9] false) .skip))) (.seq (.region i6 #[u0,u1] false) .ret)))))
    (h0:Is p0 4 (.assign (.const (.slice none 0 0)))) (h1:Is p1 5 (.move (.tmp 1))) (h2:Is p2 6 (.binOp .lss I (.tmp 5) (.const (.int .i64 0)) I))
    (h3:Is p3 8 (.move (.tmp 1))) (h4:Is p4 9 (.move (.tmp 0))) (h5:Is p5 10 (.call { callee:=.builtin .cap,args:=#[.tmp 9],argTypes:=#[T] })) (h6:Is p6 11 (.move (.tmp 0))) (h7:Is p7 12 (.call { callee:=.builtin .len,args:=#[.tmp 11],argTypes:=#[T] }))
    (h8:Is p8 13 (.binOp .sub I (.tmp 10) (.tmp 12) I)) (h9:Is p9 14 (.binOp .sub I (.tmp 8) (.tmp 13) I)) (h10:Is p10 1 (.assign (.tmp 14)))
    (k0:Is q0 15 (.move (.tmp 1))) (k1:Is q1 16 (.binOp .gtr I (.tmp 15) (.const (.int .i64 0)) I))
    (l0:Is r0 17 (.move (.tmp 0))) (l1:Is r1 18 (.move (.tmp 0))) (l2:Is r2 19 (.call { callee:=.builtin .cap,args:=#[.tmp 18],argTypes:=#[T] })) (l3:Is r3 20 (.slice T (.tmp 17) none (some (.tmp 19)) none)) (l4:Is r4 21 (.move (.tmp 1)))
    (l5:Is r5 22 (.call { callee:=.builtin .append,args:=#[.tmp 20,.tmp 21],argTypes:=#[T,I] })) (l6:Is r6 23 (.move (.tmp 0))) (l7:Is r7 24 (.call { callee:=.builtin .len,args:=#[.tmp 23],argTypes:=#[T] })) (l8:Is r8 25 (.slice T (.tmp 22) none (some (.tmp 24)) none)) (l9:Is r9 0 (.assign (.tmp 25)))
    (m0:Is u0 26 (.move (.tmp 0))) (m1:Is u1 4 (.assign (.tmp 26)))
    (hI:P.underlying I=some (.int .i64)) (hT:P.underlying T=some (.slice e)) (hz:zcells P e=some zs) (hl:zs.length=z):GrowOK P k z:=by
  refine ⟨⟨fn,_,hf,hnm,hb⟩,fun w n hn0 hn=>calls_of_wp hf hb ?_⟩
  obtain ⟨i,zv,hi,hzz,hok,hlz,hpos,hby⟩:=zcells_some hz
  have hzs:zv.cells.size=i.size:=by
    have:=RL_length (okZ_r (w:=default) (g:=⟨fun _=>.imm,fun _=>none,fun _=>none⟩) hok)
    simp at this;omega
  have hzi:z=i.size:=by omega
  have hn':n≤16777216:=hn
  have hw:IntKind.i64.wrap n=n:=by
    unfold IntKind.wrap
    simp [IntKind.signed,IntKind.bits]
    omega
  have hw0:IntKind.i64.wrap 0=0:=by decide
  rw [hnt]
  have fin:∀ (a:Act) (w':World) (R:Ending→World→Prop) (x:Value),a.defers=[]→tm a 4=x→R (.returned x) w'→bodyPost P fn R .ret a w':=by
    intro a w' R x hd hx hR
    refine ⟨hd,x,?_,hR⟩
    have:=run_results (P:=P) (fn:=fn) (tmps:=a.tmps) (w:=w') (ys:=[x]) (by rw [hres];simpa [resRun,tm] using hx)
    simpa [oneOf] using this
  generalize ha0:({ tmps:=#[Value.slice none 0 0,.int .i64 n]++Array.replicate (27 - #[Value.slice none 0 0,.int .i64 n].size) undef,defers:=[] }:Act)=a0
  have hs0:a0.tmps.size=27:=by rw [← ha0];simp
  have hd0:a0.defers=[]:=by rw [← ha0]
  have ht0:tm a0 0=.slice none 0 0:=by rw [← ha0];simp [tm,Array.getD_eq_getD_getElem?]
  have ht1:tm a0 1=.int .i64 n:=by rw [← ha0];simp [tm,Array.getD_eq_getD_getElem?]
  refine wp_seq (wp_region_list (vstep h0.guard (.slice none 0 0) w (by simp [execOp,h0.op,eval_const]) ?_))
  rw [h0.dst]
  refine wp_seq (wp_seq (wp_region_list (vstep h1.guard (.int .i64 n) w (by simp [execOp,h1.op,eval_tmp,tm_put,ht1]) (vstep h2.guard (.bool (decide (n < 0))) w (by
    simp [execOp,h1.dst,h2.op,eval_tmp,eval_const,tm_put,size_put,hs0,eqGuard,run_bin_i64 hI (op:=.lss) (.inl ⟨rfl,rfl⟩)]) ?_))))
  rw [h1.dst,h2.dst]
  refine wp_cond (t:=false) (by simp [eval_tmp,tm_put,size_put,hs0];omega) ?_
  rw [if_neg (by simp)]
  refine wp_skip ?_
  have hcap:∀ (op:Oper) (a:Act) (u:Nat) (x:Option Addr) (l c:Nat),op.op=.call { callee:=.builtin .cap,args:=#[.tmp u],argTypes:=#[T] }→tm a u=.slice x l c→∀ w,(execOp a.eval op).run P w=.ok (.value (.int .i64 c)) w:=by
    intro op a u x l c ho hu w
    simp [execOp,ho,resolve,invoke,builtin,eval_tmp,hu,Builtin.cap_,run_underlying hT,goInt]
  have hlen:∀ (op:Oper) (a:Act) (u:Nat) (x:Option Addr) (l c:Nat),op.op=.call { callee:=.builtin .len,args:=#[.tmp u],argTypes:=#[T] }→tm a u=.slice x l c→∀ w,(execOp a.eval op).run P w=.ok (.value (.int .i64 l)) w:=by
    intro op a u x l c ho hu w
    simp [execOp,ho,resolve,invoke,builtin,eval_tmp,hu,Builtin.len_,run_underlying hT,goInt]
  have hslc:∀ (op:Oper) (a:Act) (u v:Nat) (x:Option Addr) (l c:Nat),op.op=.slice T (.tmp u) none (some (.tmp v)) none→tm a u=.slice x l c→tm a v=.int .i64 0→∀ w,(execOp a.eval op).run P w=.ok (.value (.slice x 0 c)) w:=by
    intro op a u v x l c ho hu hv w
    have hb:(Instr.sliceBounds true l c none (some (.int .i64 0)) none).run P w=.ok (0,0,c) w:=by
      simp [Instr.sliceBounds,run_sliceBound w .i64 0 c _ (by omega) (by omega)]
    have hrun:=run_slice_of (P:=P) (w:=w) (a:=x) hT hi hb
    simp only [execOp,ho,eval_tmp,hu,hv,Option.map_none,Option.map_some,Sem.run_bind,hrun,Result.andThen_ok,Sem.run_pure]
    cases x with
    | none=>simp
    | some ad=>split<;>simp [Addr.add]
  have e3:∀ (x:Int),a0.eval (.tmp 0)=.slice none 0 0:=fun _=>ht0
  refine wp_seq (wp_seq (wp_region_list ?_))
  refine vstep h3.guard (.int .i64 n) w (by simp [execOp,h3.op,eval_tmp,tm_put,ht1]) ?_
  rw [h3.dst]
  refine vstep h4.guard (.slice none 0 0) w (by simp [execOp,h4.op,eval_tmp,tm_put,ht0]) ?_
  rw [h4.dst]
  refine vstep h5.guard (.int .i64 0) w (hcap _ _ 9 none 0 0 h5.op (by simp [tm_put,size_put,hs0]) w) ?_
  rw [h5.dst]
  refine vstep h6.guard (.slice none 0 0) w (by simp [execOp,h6.op,eval_tmp,tm_put,ht0]) ?_
  rw [h6.dst]
  refine vstep h7.guard (.int .i64 0) w (hlen _ _ 11 none 0 0 h7.op (by simp [tm_put,size_put,hs0]) w) ?_
  rw [h7.dst]
  refine vstep h8.guard (.int .i64 0) w (by simp [execOp,h8.op,eval_tmp,tm_put,size_put,hs0,eqGuard,run_bin_i64 hI (op:=.sub) (.inr (.inr ⟨rfl,rfl⟩)),hw0]) ?_
  rw [h8.dst]
  refine vstep h9.guard (.int .i64 n) w (by simp [execOp,h9.op,eval_tmp,tm_put,size_put,hs0,eqGuard,run_bin_i64 hI (op:=.sub) (.inr (.inr ⟨rfl,rfl⟩)),hw]) ?_
  rw [h9.dst]
  refine vstep h10.guard (.int .i64 n) w (by simp [execOp,h10.op,eval_tmp,tm_put,size_put,hs0]) ?_
  rw [h10.dst]
  generalize ha1:((((((((((((a0.put (some 4) (.slice none 0 0)).put (some 5) (.int .i64 n)).put (some 6) (.bool (decide (n < 0)))).put (some 8) (.int .i64 n)).put (some 9) (.slice none 0 0)).put (some 10) (.int .i64 0)).put (some 11) (.slice none 0 0)).put (some 12) (.int .i64 0)).put (some 13) (.int .i64 0)).put (some 14) (.int .i64 n)).put (some 1) (.int .i64 n)):Act)=a1
  have hs1:a1.tmps.size=27:=by rw [← ha1];simp only [size_put,hs0]
  have hd1:a1.defers=[]:=by rw [← ha1];simp [Act.put,hd0]
  have ht0:tm a1 0=.slice none 0 0:=by rw [← ha1];simp [tm_put,ht0]
  have ht1:tm a1 1=.int .i64 n:=by rw [← ha1];simp [tm_put,size_put,hs0]
  show Code.wp P _ _ _ _
  refine wp_seq (wp_region_list ?_)
  refine vstep k0.guard (.int .i64 n) w (by simp [execOp,k0.op,eval_tmp,ht1]) ?_
  rw [k0.dst]
  refine vstep k1.guard (.bool (decide (n > 0))) w (by simp [execOp,k1.op,eval_tmp,eval_const,tm_put,size_put,hs1,eqGuard,run_bin_i64 hI (op:=.gtr) (.inr (.inl ⟨rfl,rfl⟩))]) ?_
  rw [k1.dst]
  show Code.wp P _ _ _ _
  refine wp_cond (t:=decide (n > 0)) (by simp [eval_tmp,tm_put,size_put,hs1]) ?_
  have last:∀ (a:Act) (w':World) (x:Value),a.tmps.size=27→a.defers=[]→tm a 0=x→(Grew w w'∧(x=.slice none 0 0∨NewRow w w' z 0 [] x)) →
      (Code.seq (.region i6 #[u0,u1] false) .ret).wp P (bodyPost P fn fun
        | .returned x,w'=>Grew w w'∧(x=.slice none 0 0∨NewRow w w' z 0 [] x)
        | _,_=>False) a w':=by
    intro a w' x hs hd hx hR
    refine wp_seq (wp_region_list ?_)
    refine vstep m0.guard x w' (by simp [execOp,m0.op,eval_tmp,hx]) ?_
    rw [m0.dst]
    refine vstep m1.guard x w' (by simp [execOp,m1.op,eval_tmp,tm_put,size_put,hs]) ?_
    rw [m1.dst]
    refine wp_ret ?_
    refine fin _ _ _ x ?_ ?_ hR
    · simp [Act.put,hd]
    · simp [tm_put,size_put,hs]
  by_cases hp:0 < n
  · rw [if_pos (by simpa using hp)]
    have hrun:=run_app_zeros (P:=P) (w:=w) (t:=T) (u:=I) (ty:=r5.type) hT hI hi hzz hpos hby hp hn'
    refine wp_region_list ?_
    refine vstep l0.guard (.slice none 0 0) w (by simp [execOp,l0.op,eval_tmp,tm_put,ht0]) ?_
    rw [l0.dst]
    refine vstep l1.guard (.slice none 0 0) w (by simp [execOp,l1.op,eval_tmp,tm_put,ht0]) ?_
    rw [l1.dst]
    refine vstep l2.guard (.int .i64 0) w (hcap _ _ 18 none 0 0 l2.op (by simp [tm_put,size_put,hs1]) w) ?_
    rw [l2.dst]
    refine vstep l3.guard (.slice none 0 0) w (hslc _ _ 17 19 none 0 0 l3.op (by simp [tm_put,size_put,hs1]) (by simp [tm_put,size_put,hs1]) w) ?_
    rw [l3.dst]
    refine vstep l4.guard (.int .i64 n) w (by simp [execOp,l4.op,eval_tmp,tm_put,ht1]) ?_
    rw [l4.dst]
    refine vstep l5.guard _ _ (by
      simp only [execOp,l5.op,resolve,invoke,builtin,Sem.run_bind,Sem.run_pure,Result.andThen_ok,List.map_toArray,List.map_cons,List.map_nil,eval_tmp,tm_put,size_put,hs1]
      simp [hrun]
      exact ⟨rfl,rfl⟩) ?_
    rw [l5.dst]
    refine vstep l6.guard (.slice none 0 0) _ (by simp [execOp,l6.op,eval_tmp,tm_put,ht0];rfl) ?_
    rw [l6.dst]
    refine vstep l7.guard (.int .i64 0) _ (hlen _ _ 23 none 0 0 l7.op (by simp [tm_put,size_put,hs1]) _) ?_
    rw [l7.dst]
    refine vstep l8.guard _ _ (hslc _ _ 22 24 (some ⟨w.heap.size,0,none⟩) n.toNat (grownCap w n.toNat 0 e) l8.op (by simp [tm_put,size_put,hs1]) (by simp [tm_put,size_put,hs1]) _) ?_
    rw [l8.dst]
    refine vstep l9.guard (.slice (some ⟨w.heap.size,0,none⟩) 0 (grownCap w n.toNat 0 e)) _ (by simp [execOp,l9.op,eval_tmp,tm_put,size_put,hs1];rfl) ?_
    rw [l9.dst]
    refine last _ _ (.slice (some ⟨w.heap.size,0,none⟩) 0 (grownCap w n.toNat 0 e)) ?_ ?_ ?_ ⟨⟨by show w.heap.size≤(w.heap.push _).size;rw [Array.size_push];exact Nat.le_succ _,fun q hq=>heap_alloc_old w.drew _ q hq,rfl,rfl,rfl⟩,.inr ⟨w.heap.size,_,_,e,_,rfl,Nat.le_refl _,heap_alloc_new w.drew _,Nat.zero_le _,?_,by rw [List.nil_append]⟩⟩
    · simp only [size_put,hs1]
    · simp [Act.put,hd1]
    · simp [tm_put,size_put,hs1]
    · rw [Array.size_append,zeroCells_size,zeroCells_size,hzs,hzi,← Nat.add_mul]
      have:=grown_ge w n.toNat 0 e
      congr 1;omega
  · rw [if_neg (by simpa using hp)]
    refine wp_skip ?_
    refine last _ w (.slice none 0 0) ?_ ?_ ?_ ⟨⟨Nat.le_refl _,fun _ _=>rfl,rfl,rfl,rfl⟩,.inl rfl⟩
    · simp only [size_put,hs1]
    · simp [Act.put,hd1]
    · simp [tm_put,size_put,hs1,ht0]
end Go.Den
namespace Go.Den
variable {P:Program}
def eqFs (P:Program)(sh:TypeId→Option (Bool × List Tg)):List Field→Nat→Option (List Tg)
  | [],_=>some []
  | f::r,o=>if f.name≠"_"∧f.offset=o then
      match sh f.type with
      | some (b,t1)=>if szo P f.type=some (if b then some t1.length else none)∧0 < t1.length then (eqFs P sh r (o+t1.length)).map (t1++·) else none
      | none=>none
    else none
def eqSh (P:Program):Nat→TypeId→Option (Bool × List Tg)
  | 0,_=>none
  | n+1,t=>match P.underlying t with
    | some (.int k)=>some (false,[.int k])
    | some .bool=>some (false,[.bool])
    | some .string=>some (false,[.str])
    | some (.struct fs)=>if P.stoodInHeld t=false then (eqFs P (eqSh P n) fs.toList 0).map (true,·) else none
    | _=>none
theorem eqL_append:∀ {t1 t2:List Tg}{X Y:List V}{r:Bool},eqL (t1++t2) X Y=some r →
    ∃ r1 r2,eqL t1 (X.take t1.length) (Y.take t1.length)=some r1∧eqL t2 (X.drop t1.length) (Y.drop t1.length)=some r2∧r=(r1 && r2)∧t1.length≤X.length∧t1.length≤Y.length
  | [],t2,X,Y,r,h=>⟨true,r,by simp [eqL],by simpa using h,by simp,by simp,by simp⟩
  | q::t1,t2,X,Y,r,h=>by
    cases q with
    | int k =>
      cases X with
      | nil=>simp [eqL] at h
      | cons x X =>
        cases Y with
        | nil=>cases x<;>simp [eqL] at h
        | cons y Y =>
          cases x with
          | int k1 a =>
            cases y with
            | int k2 b =>
              simp only [List.cons_append,eqL] at h
              split at h
              · rename_i hk
                simp only [bnd_eq,zI] at h
                obtain ⟨r',h1,rfl⟩:=h
                obtain ⟨r1,r2,e1,e2,rfl,e3,e4⟩:=eqL_append h1
                exact ⟨(a == b) && r1,r2,by simp only [List.length_cons,List.take_succ_cons,eqL,if_pos hk,e1,bnd_some],by simpa using e2,by rw [Bool.and_assoc],by simp [e3],by simp [e4]⟩
              · cases h
            | _=>simp [eqL] at h
          | _=>simp [eqL] at h
    | bool =>
      cases X with
      | nil=>simp [eqL] at h
      | cons x X =>
        cases Y with
        | nil=>cases x<;>simp [eqL] at h
        | cons y Y =>
          cases x with
          | bool a =>
            cases y with
            | bool b =>
              simp only [List.cons_append,eqL,bnd_eq,zI] at h
              obtain ⟨r',h1,rfl⟩:=h
              obtain ⟨r1,r2,e1,e2,rfl,e3,e4⟩:=eqL_append h1
              exact ⟨(a == b) && r1,r2,by simp only [List.length_cons,List.take_succ_cons,eqL,e1,bnd_some],by simpa using e2,by rw [Bool.and_assoc],by simp [e3],by simp [e4]⟩
            | _=>simp [eqL] at h
          | _=>simp [eqL] at h
    | str =>
      cases X with
      | nil=>simp [eqL] at h
      | cons x X =>
        cases Y with
        | nil=>cases x<;>simp [eqL] at h
        | cons y Y =>
          cases x with
          | str a =>
            cases y with
            | str b =>
              simp only [List.cons_append,eqL,bnd_eq,zI] at h
              obtain ⟨r',h1,rfl⟩:=h
              obtain ⟨r1,r2,e1,e2,rfl,e3,e4⟩:=eqL_append h1
              exact ⟨(a == b) && r1,r2,by simp only [List.length_cons,List.take_succ_cons,eqL,e1,bnd_some],by simpa using e2,by rw [Bool.and_assoc],by simp [e3],by simp [e4]⟩
            | _=>simp [eqL] at h
          | _=>simp [eqL] at h
def EqAt (P:Program)(n:Nat):Prop:=∀ t b ts,eqSh P n t=some (b,ts)→∀ (d:Nat)(w:World)(g:G)(X Y:List V)(x y:Value)(r:Bool),eqL ts X Y=some r →
  (b=true→R w g (.agg X) x∧R w g (.agg Y) y)→(b=false→∃ u v,X=[u]∧Y=[v]∧R w g u x∧R w g v y)→(Op.equalIn (d+n) t x y).run P w=.ok r w
theorem eqFs_ok {n:Nat}(ih:EqAt P n){d:Nat}{w:World}{g:G}{X Y:List V}{xs ys:Array Value}(hx:RL w g X xs.toList)(hy:RL w g Y ys.toList):∀ {fs:List Field}{o:Nat}{ts:List Tg}{r:Bool},eqFs P (eqSh P n) fs o=some ts →
    eqL ts (X.drop o) (Y.drop o)=some r→(Op.eqFields (d+n) xs ys fs).run P w=.ok r w
  | [],o,ts,r,h,he=>by
    simp only [eqFs,zI] at h
    subst h
    have:r=true:=by
      cases hX:X.drop o with
      | nil =>
        cases hY:Y.drop o with
        | nil=>rw [hX,hY] at he;simp [eqL] at he;exact he
        | cons _ _=>rw [hX,hY] at he;simp [eqL] at he
      | cons _ _=>rw [hX] at he;simp [eqL] at he
    subst this
    simp [Op.eqFields]
  | f::fs,o,ts,r,h,he=>by
    simp only [eqFs] at h
    split at h
    · rename_i hc
      obtain ⟨hn,ho⟩:=hc
      subst ho
      cases hsh:eqSh P n f.type with
      | none=>rw [hsh] at h;cases h
      | some q =>
        obtain ⟨b,t1⟩:=q
        rw [hsh] at h
        simp only at h
        by_cases hz':szo P f.type=some (if b then some t1.length else none)∧0 < t1.length
        · rw [if_pos hz'] at h
          obtain ⟨hz,hpos⟩:=hz'
          simp only [zE] at h
          obtain ⟨t2,h2,rfl⟩:=h
          obtain ⟨r1,r2,e1,e2,rfl,e3,e4⟩:=eqL_append he
          simp only [List.length_drop] at e3 e4
          have rest:=eqFs_ok (d:=d) ih hx hy h2 (by simpa [List.drop_drop] using e2)
          have parts:∃ a c,(part f.type xs f.offset).run P w=.ok a w∧(part f.type ys f.offset).run P w=.ok c w∧(Op.equalIn (d+n) f.type a c).run P w=.ok r1 w:=by
            cases b with
            | true =>
              simp only [if_true] at hz
              obtain ⟨a,a1,a2⟩:=run_part hz hx (o:=f.offset) (v:=.agg (grab X f.offset t1.length)) (by
                simp only
                rw [if_pos (by omega)])
              obtain ⟨c,c1,c2⟩:=run_part hz hy (o:=f.offset) (v:=.agg (grab Y f.offset t1.length)) (by
                simp only
                rw [if_pos (by omega)])
              exact ⟨a,c,a1,c1,ih _ _ _ hsh d w g _ _ a c r1 e1 (fun _=>⟨a2,c2⟩) (fun h=>by cases h)⟩
            | false =>
              simp only [Bool.false_eq_true,if_false] at hz
              have hX:X[f.offset]?=some X[f.offset]:=List.getElem?_eq_getElem (by omega)
              have hY:Y[f.offset]?=some Y[f.offset]:=List.getElem?_eq_getElem (by omega)
              obtain ⟨a,a1,a2⟩:=run_part hz hx (o:=f.offset) (v:=X[f.offset]) (by simp only;exact hX)
              obtain ⟨c,c1,c2⟩:=run_part hz hy (o:=f.offset) (v:=Y[f.offset]) (by simp only;exact hY)
              have hone:t1.length=1:=by
                cases n with
                | zero=>simp [eqSh] at hsh
                | succ n =>
                  simp only [eqSh] at hsh
                  split at hsh
                  · cases hsh;rfl
                  · cases hsh;rfl
                  · cases hsh;rfl
                  · split at hsh
                    · simp only [zE,zP] at hsh
                      obtain ⟨_,_,h,_⟩:=hsh
                      cases h
                    · cases hsh
                  · cases hsh
              have one:∀ (L:List V) (k:Nat) (hk:k < L.length),(L.drop k).take 1=[L[k]]:=fun L k hk=>by
                rw [List.drop_eq_getElem_cons hk];rfl
              rw [hone,one X _ (by omega),one Y _ (by omega)] at e1
              exact ⟨a,c,a1,c1,ih _ _ _ hsh d w g _ _ a c r1 e1 (fun h=>by cases h) (fun _=>⟨_,_,rfl,rfl,a2,c2⟩)⟩
          obtain ⟨a,c,p1,p2,p3⟩:=parts
          simp only [Op.eqFields]
          rw [if_pos hn]
          simp only [Sem.run_bind,p1,p2,p3,Result.andThen_ok]
          cases r1 with
          | true=>simpa using rest
          | false=>simp
        · rw [if_neg hz'] at h;cases h
    · cases h
theorem eqAt_ok:∀ n,EqAt P n
  | 0=>fun t b ts h=>by simp [eqSh] at h
  | n+1=>by
    intro t b ts h d w g X Y x y r he h1 h2
    simp only [eqSh] at h
    rw [show d+(n+1)=(d+n)+1 from rfl]
    split at h
    · rename_i k hu
      cases h
      obtain ⟨u,v,rfl,rfl,hr1,hr2⟩:=h2 rfl
      cases u with
      | int k1 a =>
        cases v with
        | int k2 c =>
          simp only [eqL] at he
          split at he
          · rename_i hk
            obtain ⟨rfl,rfl⟩:=hk
            simp only [eqL,bnd_some,zI] at he
            simp only [R] at hr1 hr2
            subst hr1 hr2
            rw [run_equalIn_int w _ _ _ _ _ _ hu,← he];simp
          · cases he
        | _=>simp [eqL] at he
      | _=>simp [eqL] at he
    · rename_i hu
      cases h
      obtain ⟨u,v,rfl,rfl,hr1,hr2⟩:=h2 rfl
      cases u with
      | bool a =>
        cases v with
        | bool c =>
          simp only [eqL,bnd_some,zI] at he
          simp only [R] at hr1 hr2
          subst hr1 hr2
          rw [run_equalIn_bool' w _ _ _ _ hu,← he];simp
        | _=>simp [eqL] at he
      | _=>simp [eqL] at he
    · rename_i hu
      cases h
      obtain ⟨u,v,rfl,rfl,hr1,hr2⟩:=h2 rfl
      cases u with
      | str a =>
        cases v with
        | str c =>
          simp only [eqL,bnd_some,zI] at he
          simp only [R] at hr1 hr2
          subst hr1 hr2
          rw [run_equalIn_string w _ _ _ _ hu,← he,beq_toListBytes];simp
        | _=>simp [eqL] at he
      | _=>simp [eqL] at he
    · rename_i fs hu
      split at h
      · rename_i hs
        simp only [zE,zP] at h
        obtain ⟨ts',hf,rfl,rfl⟩:=h
        obtain ⟨hr1,hr2⟩:=h1 rfl
        simp only [R] at hr1 hr2
        obtain ⟨xs,rfl,hx⟩:=hr1
        obtain ⟨ys,rfl,hy⟩:=hr2
        have hfo:P.fieldsOf t=fs:=by unfold Program.fieldsOf;rw [hu]
        rw [run_equalIn_agg w _ _ _ _ (by rw [hfo];exact hu) hs,hfo]
        exact eqFs_ok (eqAt_ok n) hx hy hf (by simpa using he)
      · cases h
    · cases h
theorem eq_law {t:TypeId}{n:Nat}{ts:List Tg}(hn:n≤10000)(h:eqSh P n t=some (true,ts)):∀ (w:World)(g:G)(X Y:List V)(xs ys:Array Value)(r:Bool),eqL ts X Y=some r→RL w g X xs.toList→RL w g Y ys.toList→(Op.equal t (.agg xs) (.agg ys)).run P w=.ok r w:=by
  intro w g X Y xs ys r he hx hy
  have:=eqAt_ok n t true ts h (10000 - n) w g X Y (.agg xs) (.agg ys) r he (fun _=>⟨by simp only [R];exact ⟨xs,rfl,hx⟩,by simp only [R];exact ⟨ys,rfl,hy⟩⟩) (fun h=>by cases h)
  rw [show 10000 - n+n=10000 by omega] at this
  exact this
end Go.Den
