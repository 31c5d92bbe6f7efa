import Derived.Test.YtblkhnacgnlbdaaGreatDoorES9
import Derived.Test.YtblkhnacgnlbdaaGreatDoorEK0
import Derived.Laws.StandIn
set_option linter.all false
namespace Go.Den
open Go.Proofs
theorem cl_ok (k z T e:Nat)(fn:Func)(zs:List V)(hz:zcells Tryz.prog e=some zs)(hl:zs.length=z)(hT:Tryz.prog.underlying T=some (.slice e))(hf:Tryz.prog.funcs[k]?=some fn)(hnm:(fn.name == "runtime.NumGoroutine")=false)(hs:∃ i0 i1 i2 i3 o0 o1 o2 o3 o4 o5 o6 o7,fn.results = #[.tmp 2]∧fn.ntmps=8 ∧
    fn.body=some (.seq (.region i0 #[o0] false) (.seq (.seq (.region i1 #[o1,o2] false) (.cond (.tmp 4) (.seq (.region i2 #[o3] false) .ret) .skip)) (.seq (.region i3 #[o4,o5,o6,o7] false) .ret))) ∧
    Is o0 2 (.assign (.const (.slice none 0 0)))∧Is o1 3 (.move (.tmp 0))∧Is o2 4 (.binOp .eql T (.tmp 3) (.const (.slice none 0 0)) T)∧Is o3 2 (.assign (.const (.slice none 0 0)))∧Is o4 5 (.buildSlice T 0 #[])∧Is o5 6 (.move (.tmp 0)) ∧
    Is o6 7 (.call { callee:=.builtin .append,args:=#[.tmp 5,.tmp 6],argTypes:=#[T,T] })∧Is o7 2 (.assign (.tmp 7))):CloneOK Tryz.prog k z:=by
  obtain ⟨i0,i1,i2,i3,o0,o1,o2,o3,o4,o5,o6,o7,h1,h2,h3,h4,h5,h6,h7,h8,h9,h10,h11⟩:=hs
  exact clone_ok hf hnm h1 h2 h3 h4 h5 h6 h7 h8 h9 h10 h11 hT hz hl
theorem cl208:CloneOK Tryz.prog 208 1:=
  cl_ok 208 1 22 5 Tryz.f208 _ (by kernel_rfl:zcells Tryz.prog 5=some [.int .u8 0]) rfl (by kernel_rfl) (by kernel_rfl) (by kernel_rfl)
    ⟨_,_,_,_,_,_,_,_,_,_,_,_,rfl,rfl,rfl,⟨rfl,rfl,rfl⟩,⟨rfl,rfl,rfl⟩,⟨rfl,rfl,rfl⟩,⟨rfl,rfl,rfl⟩,⟨rfl,rfl,rfl⟩,⟨rfl,rfl,rfl⟩,⟨rfl,rfl,rfl⟩,⟨rfl,rfl,rfl⟩⟩
theorem gr224:GrowOK Tryz.prog 224 1:=
  grow_ok (T:=22) (I:=3) (e:=5) (fn:=Tryz.f224) (by kernel_rfl) (by kernel_rfl) rfl rfl rfl ⟨rfl,rfl,rfl⟩ ⟨rfl,rfl,rfl⟩ ⟨rfl,rfl,rfl⟩ ⟨rfl,rfl,rfl⟩ ⟨rfl,rfl,rfl⟩ ⟨rfl,rfl,rfl⟩ ⟨rfl,rfl,rfl⟩ ⟨rfl,rfl,rfl⟩ ⟨rfl,rfl,rfl⟩ ⟨rfl,rfl,rfl⟩ ⟨rfl,rfl,rfl⟩ ⟨rfl,rfl,rfl⟩ ⟨rfl,rfl,rfl⟩ ⟨rfl,rfl,rfl⟩ ⟨rfl,rfl,rfl⟩ ⟨rfl,rfl,rfl⟩ ⟨rfl,rfl,rfl⟩ ⟨rfl,rfl,rfl⟩ ⟨rfl,rfl,rfl⟩ ⟨rfl,rfl,rfl⟩ ⟨rfl,rfl,rfl⟩ ⟨rfl,rfl,rfl⟩ ⟨rfl,rfl,rfl⟩ ⟨rfl,rfl,rfl⟩ ⟨rfl,rfl,rfl⟩
    (by kernel_rfl) (by kernel_rfl) (by kernel_rfl:zcells Tryz.prog 5=some [.int .u8 0]) rfl
theorem mixed:Tryz.prog.follows .mixedOrders=true:=by kernel_rfl
theorem ib255:∀ args w,(callFunc 255 args).run Tryz.prog w=((Extern.BytealgIndexByte.indexByte args).run Tryz.prog w).andThen fun v w'=>.ok (.value v) w':=
  fun args w=>run_callFunc_standIn (fn:=Tryz.f255) (by kernel_rfl) (by kernel_rfl) (by kernel_rfl) (by kernel_rfl) (by kernel_rfl) args w
theorem cs254:∀ args w,(callFunc 254 args).run Tryz.prog w=((Extern.BytealgCount.count args).run Tryz.prog w).andThen fun v w'=>.ok (.value v) w':=
  fun args w=>run_callFunc_standIn (fn:=Tryz.f254) (by kernel_rfl) (by kernel_rfl) (by kernel_rfl) (by kernel_rfl) (by kernel_rfl) args w
theorem cl202:CloneOK Tryz.prog 202 3:=
  cl_ok 202 3 24 42 Tryz.f202 _ (by kernel_rfl:zcells Tryz.prog 42=some [.int .i64 0,.int .i64 0,.bool false]) rfl (by kernel_rfl) (by kernel_rfl) (by kernel_rfl)
    ⟨_,_,_,_,_,_,_,_,_,_,_,_,rfl,rfl,rfl,⟨rfl,rfl,rfl⟩,⟨rfl,rfl,rfl⟩,⟨rfl,rfl,rfl⟩,⟨rfl,rfl,rfl⟩,⟨rfl,rfl,rfl⟩,⟨rfl,rfl,rfl⟩,⟨rfl,rfl,rfl⟩,⟨rfl,rfl,rfl⟩⟩
theorem cl269:CloneOK Tryz.prog 269 3:=
  cl_ok 269 3 32 44 Tryz.f269 _ (by kernel_rfl:zcells Tryz.prog 44=some [.int .i64 0,.bool false,.str ⟨⟨[]⟩⟩]) rfl (by kernel_rfl) (by kernel_rfl) (by kernel_rfl)
    ⟨_,_,_,_,_,_,_,_,_,_,_,_,rfl,rfl,rfl,⟨rfl,rfl,rfl⟩,⟨rfl,rfl,rfl⟩,⟨rfl,rfl,rfl⟩,⟨rfl,rfl,rfl⟩,⟨rfl,rfl,rfl⟩,⟨rfl,rfl,rfl⟩,⟨rfl,rfl,rfl⟩,⟨rfl,rfl,rfl⟩⟩
theorem cl270:CloneOK Tryz.prog 270 2:=
  cl_ok 270 2 33 96 Tryz.f270 _ (by kernel_rfl:zcells Tryz.prog 96=some [.int .i64 0,.int .i64 0]) rfl (by kernel_rfl) (by kernel_rfl) (by kernel_rfl)
    ⟨_,_,_,_,_,_,_,_,_,_,_,_,rfl,rfl,rfl,⟨rfl,rfl,rfl⟩,⟨rfl,rfl,rfl⟩,⟨rfl,rfl,rfl⟩,⟨rfl,rfl,rfl⟩,⟨rfl,rfl,rfl⟩,⟨rfl,rfl,rfl⟩,⟨rfl,rfl,rfl⟩,⟨rfl,rfl,rfl⟩⟩
theorem cl271:CloneOK Tryz.prog 271 2:=
  cl_ok 271 2 34 47 Tryz.f271 _ (by kernel_rfl:zcells Tryz.prog 47=some [.int .i64 0,.int .i64 0]) rfl (by kernel_rfl) (by kernel_rfl) (by kernel_rfl)
    ⟨_,_,_,_,_,_,_,_,_,_,_,_,rfl,rfl,rfl,⟨rfl,rfl,rfl⟩,⟨rfl,rfl,rfl⟩,⟨rfl,rfl,rfl⟩,⟨rfl,rfl,rfl⟩,⟨rfl,rfl,rfl⟩,⟨rfl,rfl,rfl⟩,⟨rfl,rfl,rfl⟩,⟨rfl,rfl,rfl⟩⟩
theorem eq29:eqSh Tryz.prog 3 29=some (true,[.int .i64,.int .i64]):=by kernel_rfl
theorem eq47:eqSh Tryz.prog 3 47=some (true,[.int .i64,.int .i64]):=by kernel_rfl
theorem eq71:eqSh Tryz.prog 3 71=some (true,[.int .i64,.int .i64]):=by kernel_rfl
theorem eq91:eqSh Tryz.prog 3 91=some (true,[.int .i64,.bool,.str,.int .i64,.bool,.str,.bool,.int .i64,.int .i64,.int .i64,.int .i64,.int .i64,.int .i64,.int .i64,.int .i64,.int .i64,.int .i64]):=by kernel_rfl
theorem look_cons {β:Type}{a b:Nat}{x:β}{l:List (Nat × β)}{y:β}(h:((a,x)::l).lookup b=some y):b=a∧y=x∨l.lookup b=some y:=by
  simp only [List.lookup] at h
  split at h
  · rename_i e;simp at e;cases h;exact .inl ⟨e,rfl⟩
  · exact .inr h
theorem okk:Okk Tryz.prog cx where
  mixed:=mixed
  ib:=ib255
  cs:=cs254
  eq:=fun t ts h=>by
    rcases look_cons h with ⟨rfl,rfl⟩ | h
    · exact ⟨by kernel_rfl,eq_law (by omega) eq29⟩
    rcases look_cons h with ⟨rfl,rfl⟩ | h
    · exact ⟨by kernel_rfl,eq_law (by omega) eq47⟩
    rcases look_cons h with ⟨rfl,rfl⟩ | h
    · exact ⟨by kernel_rfl,eq_law (by omega) eq71⟩
    rcases look_cons h with ⟨rfl,rfl⟩ | h
    · exact ⟨by kernel_rfl,eq_law (by omega) eq91⟩
    · cases h
  clone:=fun t ts h=>by
    rcases look_cons h with ⟨rfl,rfl⟩ | h
    · exact cl208
    rcases look_cons h with ⟨rfl,rfl⟩ | h
    · exact cl202
    rcases look_cons h with ⟨rfl,rfl⟩ | h
    · exact cl269
    rcases look_cons h with ⟨rfl,rfl⟩ | h
    · exact cl270
    rcases look_cons h with ⟨rfl,rfl⟩ | h
    · exact cl271
    · cases h
  grow:=fun t ts h=>by
    rcases look_cons h with ⟨rfl,rfl⟩ | h
    · exact gr224
    · cases h
end Go.Den
