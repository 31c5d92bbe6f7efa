import Derived.Test.YtblkhnacgnlbdaaGreatDoorEG
import Derived.Test.YtblkhnacgnlbdaaGreatDoorET0
import Derived.Test.YtblkhnacgnlbdaaGreatDoorEM2
import Derived.Test.YtblkhnacgnlbdaaGreatDoorEM6
import Derived.Test.YtblkhnacgnlbdaaGreatDoorEM7
import Derived.Test.YtblkhnacgnlbdaaGreatDoorEM8
import Derived.Test.YtblkhnacgnlbdaaGreatDoorEM9
import Derived.Test.YtblkhnacgnlbdaaGreatDoorEMB
import Derived.Test.YtblkhnacgnlbdaaGreatDoorEMC
set_option linter.all false
namespace Go.Den
set_option maxHeartbeats 4000000
open Go.Proofs
set_option linter.unusedSimpArgs false
set_option maxHeartbeats 1000000
theorem v67 (z:Zn) (hf:z.foot.size≤1000000):∃ v,Val PT 67 [z.v] v∧∃ t,v=.bool t:=by
  refine sv c67 fun Q hF=>?_
  repeat' first | refine ga ?_ | (refine so ?_;first | (refine wp_call (v30 _ hf) rfl rfl rfl rfl ?_;rintro _ ⟨ft,t,rfl,q1,q2⟩<;>refine xq ?_) | (refine wp_call (v139 _ _ _ _ _) rfl rfl rfl rfl ?_;rintro _ ⟨t2,rfl⟩<;>refine xq ?_) | (refine rgc rfl (v139 _ _ _ _ _) rfl rfl rfl rfl rfl ?_;rintro _ ⟨t2,rfl⟩<;>refine xq ?_)) | refine gb ?_ | intro _ | refine gd ?_ ?_
  all_goals try show WpO _ _ _ _ _ _
  all_goals (subst hF;(repeat refine ge ?_);try dsimp only [RA])
  all_goals exact ⟨_,rfl⟩
def ZOk (z:Zn):Prop:=z.types.length≤1000∧z.trans.length≤100000∧z.leaps.length≤100000∧z.foot.size≤1000000∧∀ t ∈ z.types,t.2.2.size≤1000000
theorem v26 (z:Zn) (hz:ZOk z):∃ v,Val PT 26 [z.v] v∧∃ t,v=.bool t∧(t=true→(1≤z.types.length∧z.types.length≤64)∧z.trans.length≤2000∧z.leaps.length≤201∧∀ x ∈ z.trans,0≤x.2∧x.2 < z.types.length):=by
  obtain ⟨h1,h2,h3,h4,h5⟩:=hz
  refine sv c26 fun Q hF=>?_
  repeat' first | refine ga ?_ | (refine so ?_;first | (refine wp_call (v60 z h1 h5) rfl rfl rfl rfl ?_;rintro _ (⟨hh,rfl⟩ | ⟨p,at',o,w1,w2,hok,rfl⟩)<;>refine xq ?_) | (refine rgc rfl (v61 _ (by omega)) rfl rfl rfl rfl rfl ?_;rintro _ ⟨t,rfl,ht⟩<;>refine xq ?_) | (refine wp_call (v62 _ (by omega)) rfl rfl rfl rfl ?_;rintro _ ⟨n,t2,rfl⟩<;>refine xq ?_) | (refine wp_call (v63 _ (by omega)) rfl rfl rfl rfl ?_;rintro _ ⟨t3,rfl⟩<;>refine xq ?_) | (refine wp_callR (v65 z _ rfl (by omega)) rfl rfl rfl rfl ?_;rintro _ ⟨t4,rfl,ht4⟩<;>refine xq ?_) | (refine rgc rfl (v67 z h4) rfl rfl rfl rfl rfl ?_;rintro _ ⟨t5,rfl⟩<;>refine xq ?_)) | refine gb ?_ | intro _ | refine gd ?_ ?_
  all_goals (subst hF;(repeat refine ge ?_);try dsimp only [RA])
  · exact ⟨false,rfl,fun h=>by cases h⟩
  · exact ⟨false,rfl,fun h=>by cases h⟩
  · exact ⟨false,rfl,fun h=>by cases h⟩
  · rename_i hx _
    refine ⟨_,rfl,fun h=>?_⟩
    have h:=Bp.iff.mp h
    have hleap:=ht (by simpa using hx)
    unfold Hd.ok cntH at hok
    dsimp only at hok
    exact ⟨by omega,by omega,hleap,ht4 h.1.2⟩
theorem v79 (a:Int):∃ v,Val PT 79 [i64 a] v∧∃ n t,v=.tup [i64 n,.bool t]:=by
  refine sv c79 fun Q hF=>?_
  repeat' first | refine ga ?_ | (refine so ?_;first | (refine wp_call (v102 _ _) rfl rfl rfl rfl ?_;rintro _ ⟨q,r,t,rfl⟩<;>refine xq ?_) | (refine wp_call (v105 _) rfl rfl rfl rfl ?_;rintro _ ⟨y,m,e,t,rfl⟩<;>refine xq ?_)) | refine gb ?_ | intro _ | refine gd ?_ ?_
  all_goals (subst hF;(repeat refine ge ?_);try dsimp only [RA])
  exact ⟨_,_,rfl⟩
theorem v235 (a b c e f y:Int):∃ v,Val PT 235 [.agg [i64 a,i64 b,i64 c,i64 e,i64 f],i64 y] v∧∃ n t,v=.tup [i64 n,.bool t]:=by
  refine sv c235 fun Q hF=>?_
  repeat' first | refine ga ?_ | (refine so ?_;first | (refine wp_call (v54 _ _ _) rfl rfl rfl rfl ?_;rintro _ ⟨n,t,rfl⟩<;>refine xq ?_) | (refine wp_call (v159 _ _ _ _ _) rfl rfl rfl rfl ?_;rintro _ ⟨t2,rfl⟩<;>refine xq ?_) | (refine rgc rfl (v159 _ _ _ _ _) rfl rfl rfl rfl rfl ?_;rintro _ ⟨t2,rfl⟩<;>refine xq ?_) | (refine wp_call (v201 _) rfl rfl rfl rfl ?_;rintro _ ⟨t3,rfl⟩<;>refine xq ?_) | (refine rgc rfl (v201 _) rfl rfl rfl rfl rfl ?_;rintro _ ⟨t3,rfl⟩<;>refine xq ?_) | (refine wp_call (v121 _ _) rfl rfl rfl rfl ?_;rintro _ ⟨c2,t4,rfl⟩<;>refine xq ?_) | (refine wp_call (v279 _) rfl rfl rfl rfl ?_;rintro _ ⟨c3,rfl⟩<;>refine xq ?_) | (refine wp_callp (v279 _) rfl rfl rfl rfl ?_;rintro _ ⟨c3,rfl⟩<;>refine xq ?_)) | refine gb ?_ | intro _ | refine gd ?_ ?_
  all_goals try show WpO _ _ _ _ _ _
  all_goals (subst hF;(repeat refine ge ?_);try dsimp only [RA])
  all_goals exact ⟨_,_,rfl⟩
theorem v160 (a b c e f y:Int):∃ v,Val PT 160 [.agg [i64 a,i64 b,i64 c,i64 e,i64 f],i64 y] v∧∃ n t,v=.tup [i64 n,.bool t]:=by
  refine sv c160 fun Q hF=>?_
  repeat' first | refine ga ?_ | (refine so ?_;first | (refine wp_call (v235 _ _ _ _ _ _) rfl rfl rfl rfl ?_;rintro _ ⟨n,t,rfl⟩<;>refine xq ?_)) | refine gb ?_ | intro _ | refine gd ?_ ?_
  all_goals try show WpO _ _ _ _ _ _
  all_goals (subst hF;(repeat refine ge ?_);try dsimp only [RA])
  all_goals exact ⟨_,_,rfl⟩
theorem v80 (ft:Ft) (y:Int) (h1:ft.c.size≤1000000) (h2:ft.f.size≤1000000):∃ v,Val PT 80 [.agg ft.l,i64 y] v∧∃ n m t,v=.tup [i64 n,i64 m,.bool t]:=by
  refine sv c80 fun Q hF=>?_
  repeat' first | refine ga ?_ | (refine so ?_;first | (refine wp_call (v77 ft h1 h2) rfl rfl rfl rfl ?_;rintro _ ⟨t,rfl⟩<;>refine xq ?_) | (refine rgc rfl (v77 ft h1 h2) rfl rfl rfl rfl rfl ?_;rintro _ ⟨t,rfl⟩<;>refine xq ?_) | (refine wp_call (v160 _ _ _ _ _ _) rfl rfl rfl rfl ?_;rintro _ ⟨n,t2,rfl⟩<;>refine xq ?_)) | refine gb ?_ | intro _ | refine gd ?_ ?_
  all_goals try show WpO _ _ _ _ _ _
  all_goals (subst hF;(repeat refine ge ?_);try dsimp only [RA])
  all_goals exact ⟨_,_,_,rfl⟩
theorem v31 (ft:Ft) (p:Int) (h1:ft.c.size≤1000000) (h2:ft.f.size≤1000000):∃ v,Val PT 31 [.agg ft.l,i64 p] v∧∃ t,v=.agg (tyV t):=by
  refine sv c31 fun Q hF=>?_
  repeat' first | refine ga ?_ | (refine so ?_;first | (refine wp_call (v78 _ _) rfl rfl rfl rfl ?_;rintro _ ⟨c,t,rfl⟩<;>refine xq ?_) | (refine wp_call (v79 _) rfl rfl rfl rfl ?_;rintro _ ⟨n,t2,rfl⟩<;>refine xq ?_) | (refine wp_call (v80 ft _ h1 h2) rfl rfl rfl rfl ?_;rintro _ ⟨n2,m2,t3,rfl⟩<;>refine xq ?_)) | refine gb ?_ | intro _ | refine gd ?_ ?_
  all_goals (subst hF;(repeat refine ge ?_);try dsimp only [RA])
  · exact ⟨(ft.a,ft.b,ft.c),rfl⟩
  · exact ⟨(ft.d,ft.e,ft.f),rfl⟩
  · exact ⟨(ft.a,ft.b,ft.c),rfl⟩
theorem v9 (z:Zn) (at':Int) (hz:ZOk z) (h1:1≤z.types.length) (h2:∀ x ∈ z.trans,0≤x.2∧x.2 < z.types.length):∃ v,Val PT 9 [z.v,i64 at'] v∧∃ t,v=.agg (tyV t):=by
  obtain ⟨g1,g2,g3,g4,g5⟩:=hz
  have hidx:∀ k:Int,0≤k→k < z.trans.length→0≤(z.trans[k.toNat]?.getD default).2∧(z.trans[k.toNat]?.getD default).2 < z.types.length:=fun k h3 h4=>by
    have hl:k.toNat < z.trans.length:=by omega
    rw [List.getElem?_eq_getElem hl,Option.getD_some]
    exact h2 _ (List.getElem_mem _)
  refine sv c9 fun Q hF=>?_
  repeat' first | (refine so ?_;(refine wp_ldpMs rfl (by have hq:=hidx k (by omega) (by omega);omega) (fun _ _=>And.intro rfl ?_))) | (refine so ?_;(refine wp_iaS rfl rfl (by rw [List.length_map];exact hidx k (by omega) (by omega)) ?_)) | refine ga ?_ | (refine so ?_;first | (refine wp_call (v29 z at' (by omega)) rfl rfl rfl rfl ?_;rintro _ ⟨k,rfl,q1,q2⟩<;>refine xq ?_) | (refine wp_call (v30 _ g4) rfl rfl rfl rfl ?_;rintro _ ⟨ft,t,rfl,q3,q4⟩<;>refine xq ?_) | (refine wp_call (v32 z _ (by omega)) rfl rfl rfl rfl ?_;rintro _ ⟨k2,rfl⟩<;>refine xq ?_) | (refine wp_callp (v32 z _ (by omega)) rfl rfl rfl rfl ?_;rintro _ ⟨k2,rfl⟩<;>refine xq ?_) | (refine wp_call (v31 ft _ q3 q4) rfl rfl rfl rfl ?_;rintro _ ⟨t5,rfl⟩<;>refine xq ?_) | (refine wp_callp (v31 ft _ q3 q4) rfl rfl rfl rfl ?_;rintro _ ⟨t5,rfl⟩<;>refine xq ?_)) | refine gb ?_ | intro _ | refine gd ?_ ?_
  all_goals (subst hF;(repeat refine ge ?_);try dsimp only [RA])
  · exact ⟨t5,rfl⟩
  all_goals (
    rename_i x0 hx0
    exact ⟨x0,rfl⟩)
theorem tyV_inj {a b:Int × Bool × ByteArray} (h:tyV a=tyV b):a=b:=by
  obtain ⟨a1,a2,a3⟩:=a
  obtain ⟨b1,b2,b3⟩:=b
  simp [tyV,i64] at h
  obtain ⟨h1,h2,h3⟩:=h
  subst h1 h2 h3
  rfl
theorem v220 (z:Zn) (p:Lp) (hz:ZOk z) (h1:1≤z.types.length) (h2:∀ x ∈ z.trans,0≤x.2∧x.2 < z.types.length):∃ v,Val PT 220 [z.v,.agg p.l] v∧∃ a,v=i64 a∧∀ t,Val PT 9 [z.v,i64 (IntKind.i64.wrap (IntKind.i64.wrap (IntKind.i64.wrap (p.day+1)*86400) - 1))] (.agg (tyV t))→v=i64 (if p.roll=true then IntKind.i64.wrap (IntKind.i64.wrap (IntKind.i64.wrap (p.day+1)*86400) - t.1) else IntKind.i64.wrap (IntKind.i64.wrap (p.day+1)*86400)):=by
  obtain ⟨w,hw,t,rfl⟩:=v9 z (IntKind.i64.wrap (IntKind.i64.wrap (IntKind.i64.wrap (p.day+1)*86400) - 1)) hz h1 h2
  refine sv c220 fun Q hF=>?_
  repeat' first | refine ga ?_ | (refine so ?_;first | refine cr ((⟨_,hw,rfl⟩:∃ v,Val PT 9 [z.v,i64 (IntKind.i64.wrap (IntKind.i64.wrap (IntKind.i64.wrap (p.day+1)*86400) - 1))] v∧v=_)) rfl rfl rfl rfl rfl ?_) | refine gb ?_ | intro _ | refine gd ?_ ?_
  all_goals try show WpO _ _ _ _ _ _
  all_goals (subst hF;(repeat refine ge ?_);try dsimp only [RA])
  · exact ⟨_,rfl,fun t ht=>by rw [if_neg ‹_›];rfl⟩
  · rename_i hx
    refine ⟨_,rfl,fun t' ht=>?_⟩
    have:=Val.det hw ht
    injection this with this
    have:=tyV_inj this
    subst this
    rw [if_pos (by simpa using hx)]
    rfl
theorem v147 (z:Zn) (hz:ZOk z):∃ v,Val PT 147 [z.v] v∧∃ t,v=.bool t∧(t=true→z.leaps=[]∧(1≤z.types.length∧z.types.length≤64)∧z.trans.length≤2000∧∀ x ∈ z.trans,0≤x.2∧x.2 < z.types.length):=by
  refine sv c147 fun Q hF=>?_
  repeat' first | refine ga ?_ | (refine so ?_;first | (refine rgc rfl (v26 z hz) rfl rfl rfl rfl rfl ?_;rintro _ ⟨t,rfl,ht⟩<;>refine xq ?_)) | refine gb ?_ | intro _ | refine gd ?_ ?_
  all_goals try show WpO _ _ _ _ _ _
  all_goals (subst hF;(repeat refine ge ?_);try dsimp only [RA])
  refine ⟨_,rfl,fun h=>?_⟩
  cases he:((z.leaps.map prV).length == 0)
  · exact absurd h (by simp_all)
  · have hl:z.leaps=[]:=by
      rw [List.length_map] at he
      exact List.length_eq_zero_iff.mp (by simpa using he)
    have hh:=ht (by simp_all)
    exact ⟨hl,hh.1,hh.2.1,hh.2.2.2⟩
end Go.Den
