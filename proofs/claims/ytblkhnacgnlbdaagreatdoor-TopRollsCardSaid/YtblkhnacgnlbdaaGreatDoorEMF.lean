import Derived.Test.YtblkhnacgnlbdaaGreatDoorEG
import Derived.Test.YtblkhnacgnlbdaaGreatDoorET0
import Derived.Test.YtblkhnacgnlbdaaGreatDoorEM1
import Derived.Test.YtblkhnacgnlbdaaGreatDoorEM7
import Derived.Test.YtblkhnacgnlbdaaGreatDoorEM9
import Derived.Test.YtblkhnacgnlbdaaGreatDoorEMB
import Derived.Test.YtblkhnacgnlbdaaGreatDoorEMD
import Derived.Test.YtblkhnacgnlbdaaGreatDoorEME
set_option linter.all false
namespace Go.Den
set_option maxHeartbeats 4000000
open Go.Proofs
set_option linter.unusedSimpArgs false
set_option maxHeartbeats 1000000
theorem v261e (s t:ByteArray) (hs:s.size≤1000000) (ht:t.size≤1000000):∃ v,Val PT 261 [.str s,.str t] v∧v=.bool (decide (t.size≤s.size∧s.extract 0 t.size=t)):=by
  refine sv c261 fun Q hF=>?_
  repeat' first | refine ga ?_ | (refine gb ?_;intros) | (refine gd ?_ ?_<;>intros)
  all_goals (subst hF;(repeat refine ge ?_);try dsimp only [RA])
  rcases Nat.lt_or_ge s.size t.size with hh | hh
  · rw [show decide ((s.size:Int) ≥ t.size)=false from decide_eq_false (by omega),decide_eq_false (fun h=>by omega)];rfl
  · rw [show decide ((s.size:Int) ≥ t.size)=true from decide_eq_true (by omega)]
    have e:((s.size:Int) - t.size).toNat=s.size - t.size:=by omega
    try rw [e]
    simp only [cond_true,V.bool.injEq]
    rw [Bool.eq_iff_iff,decide_eq_true_iff]
    exact ⟨fun h=>⟨hh,by simpa using bs_eq.mp h⟩,fun h=>bs_eq.mpr (by simpa using h.2)⟩
theorem v192e (s t:ByteArray) (hs:s.size≤1000000) (ht:t.size≤1000000):∃ v,Val PT 192 [.str s,.str t] v∧v=.bool (decide (t.size≤s.size∧s.extract (s.size - t.size) s.size=t)):=by
  refine sv c192 fun Q hF=>?_
  repeat' first | refine ga ?_ | (refine gb ?_;intros) | (refine gd ?_ ?_<;>intros)
  all_goals (subst hF;(repeat refine ge ?_);try dsimp only [RA])
  rcases Nat.lt_or_ge s.size t.size with hh | hh
  · rw [show decide ((s.size:Int) ≥ t.size)=false from decide_eq_false (by omega),decide_eq_false (fun h=>by omega)];rfl
  · rw [show decide ((s.size:Int) ≥ t.size)=true from decide_eq_true (by omega)]
    have e:((s.size:Int) - t.size).toNat=s.size - t.size:=by omega
    try rw [e]
    simp only [cond_true,V.bool.injEq]
    rw [Bool.eq_iff_iff,decide_eq_true_iff]
    exact ⟨fun h=>⟨hh,by simpa using bs_eq.mp h⟩,fun h=>bs_eq.mpr (by simpa using h.2)⟩
theorem v132f (s t:ByteArray) (hs:s.size≤1000000) (ht:t.size≤1000000):∃ v,Val PT 132 [.str s,.str t] v∧v=if t.size≤s.size∧s.extract 0 t.size=t then .tup [.str (s.extract t.size s.size),.bool true] else .tup [.str s,.bool false]:=by
  have h:∃ v,Val PT 211 [.str s,.str t] v∧v=if t.size≤s.size∧s.extract 0 t.size=t then .tup [.str (s.extract t.size s.size),.bool true] else .tup [.str s,.bool false]:=by
    refine sv c211 fun Q hF=>?_
    repeat' first | refine ga ?_ | (refine so ?_;first | refine cr (v261e s t hs ht) rfl rfl rfl rfl rfl ?_) | (refine gb ?_;intros) | (refine gd ?_ ?_<;>intros)
    all_goals try show WpO _ _ _ _ _ _
    all_goals (subst hF;(repeat refine ge ?_);try dsimp only [RA])
    · rename_i hc
      rw [if_neg hc]
    · rename_i hc
      rw [if_pos (Classical.not_not.mp hc)]
      rfl
  split at h<;>rename_i hc
  · refine sv c132 fun Q hF=>?_
    repeat' first | refine ga ?_ | (refine so ?_;first | refine cr (h) rfl rfl rfl rfl rfl ?_) | (refine gb ?_;intros) | (refine gd ?_ ?_<;>intros)
    all_goals try show WpO _ _ _ _ _ _
    all_goals (subst hF;(repeat refine ge ?_);try dsimp only [RA])
    rw [if_pos hc]
    rfl
  · refine sv c132 fun Q hF=>?_
    repeat' first | refine ga ?_ | (refine so ?_;first | refine cr (h) rfl rfl rfl rfl rfl ?_) | (refine gb ?_;intros) | (refine gd ?_ ?_<;>intros)
    all_goals try show WpO _ _ _ _ _ _
    all_goals (subst hF;(repeat refine ge ?_);try dsimp only [RA])
    rw [if_neg hc]
    rfl
theorem v133f (s t:ByteArray) (hs:s.size≤1000000) (ht:t.size≤1000000):∃ v,Val PT 133 [.str s,.str t] v∧v=if t.size≤s.size∧s.extract (s.size - t.size) s.size=t then .tup [.str (s.extract 0 (s.size - t.size)),.bool true] else .tup [.str s,.bool false]:=by
  have h:∃ v,Val PT 212 [.str s,.str t] v∧v=if t.size≤s.size∧s.extract (s.size - t.size) s.size=t then .tup [.str (s.extract 0 (s.size - t.size)),.bool true] else .tup [.str s,.bool false]:=by
    refine sv c212 fun Q hF=>?_
    repeat' first | refine ga ?_ | (refine so ?_;first | refine cr (v192e s t hs ht) rfl rfl rfl rfl rfl ?_) | (refine gb ?_;intros) | (refine gd ?_ ?_<;>intros)
    all_goals try show WpO _ _ _ _ _ _
    all_goals (subst hF;(repeat refine ge ?_);try dsimp only [RA])
    · rename_i hc
      rw [if_neg hc]
    · rename_i hc
      rw [if_pos (Classical.not_not.mp hc),show ((s.size:Int) - t.size).toNat=s.size - t.size by omega]
  split at h<;>rename_i hc
  · refine sv c133 fun Q hF=>?_
    repeat' first | refine ga ?_ | (refine so ?_;first | refine cr (h) rfl rfl rfl rfl rfl ?_) | (refine gb ?_;intros) | (refine gd ?_ ?_<;>intros)
    all_goals try show WpO _ _ _ _ _ _
    all_goals (subst hF;(repeat refine ge ?_);try dsimp only [RA])
    rw [if_pos hc]
    rfl
  · refine sv c133 fun Q hF=>?_
    repeat' first | refine ga ?_ | (refine so ?_;first | refine cr (h) rfl rfl rfl rfl rfl ?_) | (refine gb ?_;intros) | (refine gd ?_ ?_<;>intros)
    all_goals try show WpO _ _ _ _ _ _
    all_goals (subst hF;(repeat refine ge ?_);try dsimp only [RA])
    rw [if_neg hc]
    rfl
theorem v134 (s:ByteArray) (c:UInt8):∃ v,Val PT 134 [.str s,.str (bs [c])] v∧v=.bool (decide (0≤ixByte s c)):=by
  refine sv c134 fun Q hF=>?_
  repeat' first | refine ga ?_ | (refine so ?_;first | refine cr (v191 s c) rfl rfl rfl rfl rfl ?_) | (refine gb ?_;intros) | (refine gd ?_ ?_<;>intros)
  all_goals (subst hF;(repeat refine ge ?_);try dsimp only [RA])
theorem v132g (s:ByteArray) (hs:s.size≤1000000):∃ (r:ByteArray) (f:Bool),Val PT 132 [.str s,.str (bs [10])] (.tup [.str r,.bool f])∧r.size≤s.size∧∀ r',tl s=10::r'→tl r=r'∧f=true:=by
  obtain ⟨v,h1,h2⟩:=v132f s (bs [10]) hs (by decide)
  have e1:(bs [10]).size=1:=rfl
  rw [e1] at h2
  split at h2<;>subst h2
  · refine ⟨_,_,h1,by rw [ext_size];omega,fun r' hr=>⟨?_,rfl⟩⟩
    rw [tl_ext,List.take_of_length_le (by rw [tl_len];exact Nat.le_refl _),hr]
    rfl
  · rename_i hc
    refine ⟨_,_,h1,Nat.le_refl _,fun r' hr=>?_⟩
    have hl:=congrArg List.length hr
    rw [tl_len,List.length_cons] at hl
    exact absurd ⟨by omega,tl_inj (by rw [tl_ext,hr];rfl)⟩ hc
theorem v133g (s:ByteArray) (hs:s.size≤1000000):∃ (r:ByteArray) (f:Bool),Val PT 133 [.str s,.str (bs [10])] (.tup [.str r,.bool f])∧r.size≤s.size∧∀ r',tl s=r'++[10]→tl r=r'∧f=true:=by
  obtain ⟨v,h1,h2⟩:=v133f s (bs [10]) hs (by decide)
  have e1:(bs [10]).size=1:=rfl
  rw [e1] at h2
  have key:∀ r',tl s=r'++[10]→s.size - 1=r'.length:=fun r' hr=>by
    have hl:=congrArg List.length hr
    rw [tl_len,List.length_append] at hl
    simp at hl
    omega
  split at h2<;>subst h2
  · refine ⟨_,_,h1,by rw [ext_size];omega,fun r' hr=>⟨?_,rfl⟩⟩
    rw [tl_ext,hr,key r' hr,List.drop_zero,List.take_append_of_le_length (Nat.le_refl _),List.take_of_length_le (Nat.le_refl _)]
  · rename_i hc
    refine ⟨_,_,h1,Nat.le_refl _,fun r' hr=>?_⟩
    have hl:=congrArg List.length hr
    rw [tl_len,List.length_append] at hl
    simp at hl
    refine absurd ⟨by omega,tl_inj ?_⟩ hc
    rw [tl_ext,key r' hr,List.take_of_length_le (by rw [tl_len];exact Nat.le_refl _),hr,List.drop_append_of_le_length (Nat.le_refl _),List.drop_eq_nil_of_le (Nat.le_refl _)]
    rfl
theorem ix_not {s:ByteArray} {c:UInt8} (h:¬ 0≤ixByte s c):c ∉ tl s:=by
  intro hm
  obtain ⟨a,r,e⟩:=List.append_of_mem hm
  rcases List.mem_iff_getElem.mp hm with ⟨i,hi,he⟩
  apply h
  unfold ixByte
  cases hf:(List.range s.size).find? fun i=>s[i]! == c with
  | some j=>exact Int.natCast_nonneg _
  | none =>
    rw [List.find?_eq_none] at hf
    have:=hf i (List.mem_range.mpr (by rw [← tl_len];exact hi))
    rw [get_tl s i (by rw [← tl_len];exact hi),he] at this
    simp at this
theorem v59 (b:List UInt8) (hb:b.length≤1000000):∃ v,Val PT 59 [.sl 1 (u8l b) .sh] v∧∃ s t,v=.tup [.str s,.bool t]∧ByteArray.size s≤b.length∧(t=true→10 ∉ tl s)∧∀ s',b=10::(tl s'++[10])→10 ∉ tl s'→s=s'∧t=true:=by
  obtain ⟨r1,f1,h1,h2,h3⟩:=v132g ⟨b.toArray⟩ (by rw [← tl_len,tl_mk];exact hb)
  have hb1:ByteArray.size ⟨b.toArray⟩=b.length:=by rw [← tl_len,tl_mk]
  rw [tl_mk] at h3
  obtain ⟨r2,f2,h4,h5,h6⟩:=v133g r1 (by omega)
  have h132:∃ v,Val PT 132 [.str ⟨b.toArray⟩,.str (bs [10])] v∧v=.tup [.str r1,.bool f1]:=⟨_,h1,rfl⟩
  have h133:∃ v,Val PT 133 [.str r1,.str (bs [10])] v∧v=.tup [.str r2,.bool f2]:=⟨_,h4,rfl⟩
  refine sv c59 fun Q hF=>?_
  repeat' first | refine ga ?_ | (refine so ?_;first | refine cr (h132) rfl rfl rfl rfl rfl ?_ | refine cr (h133) rfl rfl rfl rfl rfl ?_ | (refine rgc rfl (v134 _ 10) rfl rfl rfl rfl rfl ?_;rintro _ rfl<;>refine xq ?_)) | (refine gb ?_;intros) | (refine gd ?_ ?_<;>intros)
  all_goals try show WpO _ _ _ _ _ _
  all_goals (subst hF;(repeat refine ge ?_);try dsimp only [RA])
  refine ⟨_,_,rfl,by omega,?_,?_⟩
  · intro ht
    apply ix_not
    intro h0
    rw [decide_eq_true h0] at ht
    revert ht
    cases f1<;>cases f2<;>simp
  · intro s' e hs'
    obtain ⟨g1,rfl⟩:=h3 _ e
    obtain ⟨g2,rfl⟩:=h6 _ g1
    have:=tl_inj g2
    subst this
    refine ⟨rfl,?_⟩
    rw [ix_none hs']
    rfl
def typN (z:Zn) (at':List Int):List (Int × Int × Int):=List.zipWith (fun x k=>(x.1,(if x.2.1=true then 1 else 0),k)) z.types at'
def encB (z:Zn) (s:Nat) (p:ByteArray) (at':List Int):List UInt8:=(z.trans.map (·.1)).flatMap (be s)++((z.trans.map (·.2)).flatMap (be 1)++((typN z at').flatMap (fun p=>be 4 p.1++(be 1 p.2.1++be 1 p.2.2))++(tl p++z.leaps.flatMap (fun p=>be s p.1++be 4 p.2))))
def Fits (z:Zn) (s:Nat) (at':List Int):Prop:=(∀ x ∈ z.trans,numL s (be s x.1)=x.1∧(0≤x.2∧x.2 < 256))∧(∀ x ∈ z.types,-2147483648≤x.1∧x.1 < 2147483648)∧(∀ k ∈ at',0≤k∧k < 256)∧∀ x ∈ z.leaps,numL s (be s x.1)=x.1∧(-2147483648≤x.2∧x.2 < 2147483648)
theorem flen {α:Type} {f:α→List UInt8} {n:Nat} (hf:∀ x,(f x).length=n):∀ l:List α,(l.flatMap f).length=l.length*n
  | []=>by simp
  | x::l=>by rw [List.flatMap_cons,List.length_append,flen hf l,hf,List.length_cons,Nat.succ_mul];omega
theorem encB_len (z:Zn) (s:Int) (hs:s=4∨s=8) (p:ByteArray) (at':List Int) (ha:at'.length=z.types.length):((encB z s.toNat p at').length:Int)=(cntH z p).size s:=by
  have ht:(typN z at').length=z.types.length:=by unfold typN;rw [List.length_zipWith];omega
  have h4:∀ x:Int × Int × Int,(be 4 x.1++(be 1 x.2.1++be 1 x.2.2)).length=6:=fun x=>by simp [be_len]
  have hl:∀ x:Int × Int,(be s.toNat x.1++be 4 x.2).length=s.toNat+4:=fun x=>by simp [be_len]
  unfold encB cntH Hd.size
  simp only [List.length_append,flen (be_len s.toNat),flen (be_len 1),flen h4,flen hl,List.length_map,tl_len,ht]
  rcases hs with rfl | rfl
  · show ((_*4+(_*1+(_*6+(_+_*8))):Nat):Int)=_
    omega
  · show ((_*8+(_*1+(_*6+(_+_*12))):Nat):Int)=_
    omega
theorem dec58 (z:Zn) (s:Int) (hs:s=4∨s=8) (p:ByteArray) (at':List Int) (hp:pdR z p at') (hf:Fits z s.toNat at') (hok:(cntH z p).ok):∃ v,Val PT 58 [.agg (cntH z p).l,.sl 1 (u8l (encB z s.toNat p at')) .sh,i64 s] v∧v=.tup [Zn.v ⟨z.types,z.trans,z.leaps,bs [],z.ver⟩,.bool true]:=by
  obtain ⟨ha,hps,hpool⟩:=hp
  obtain ⟨f1,f2,f3,f4⟩:=hf
  have hsz:=encB_len z s hs p at' ha
  have hb:(encB z s.toNat p at').length≤1000000:=by
    have hk:=hok
    unfold Hd.ok at hk
    unfold Hd.size at hsz
    rcases hs with rfl | rfl<;>omega
  have htl:(typN z at').length=z.types.length:=by unfold typN;rw [List.length_zipWith];omega
  have hA:rdN s.toNat (cntH z p).time.toNat (encB z s.toNat p at')=(z.trans.map (·.1),((z.trans.map (·.2)).flatMap (be 1)++((typN z at').flatMap (fun p=>be 4 p.1++(be 1 p.2.1++be 1 p.2.2))++(tl p++z.leaps.flatMap (fun p=>be s.toNat p.1++be 4 p.2))))):=by
    have:=rdN_enc (z:=s.toNat) (xs:=z.trans.map (·.1)) ((z.trans.map (·.2)).flatMap (be 1)++((typN z at').flatMap (fun p=>be 4 p.1++(be 1 p.2.1++be 1 p.2.2))++(tl p++z.leaps.flatMap (fun p=>be s.toNat p.1++be 4 p.2)))) (by
      intro x hx
      obtain ⟨q,hq,rfl⟩:=List.mem_map.mp hx
      exact (f1 q hq).1)
    rw [List.length_map] at this
    exact this
  have hB:rdN 1 (cntH z p).time.toNat ((z.trans.map (·.2)).flatMap (be 1)++((typN z at').flatMap (fun p=>be 4 p.1++(be 1 p.2.1++be 1 p.2.2))++(tl p++z.leaps.flatMap (fun p=>be s.toNat p.1++be 4 p.2))))=(z.trans.map (·.2),((typN z at').flatMap (fun p=>be 4 p.1++(be 1 p.2.1++be 1 p.2.2))++(tl p++z.leaps.flatMap (fun p=>be s.toNat p.1++be 4 p.2)))):=by
    have:=rdN_enc (z:=1) (xs:=z.trans.map (·.2)) ((typN z at').flatMap (fun p=>be 4 p.1++(be 1 p.2.1++be 1 p.2.2))++(tl p++z.leaps.flatMap (fun p=>be s.toNat p.1++be 4 p.2))) (by
      intro x hx
      obtain ⟨q,hq,rfl⟩:=List.mem_map.mp hx
      exact num1 (f1 q hq).2)
    rw [List.length_map] at this
    exact this
  have hmem:∀ x ∈ typN z at',∃ t k,t ∈ z.types∧k ∈ at'∧x=(t.1,(if t.2.1=true then (1:Int) else 0),k):=by
    intro x hx
    unfold typN at hx
    obtain ⟨i,hi,rfl⟩:=List.getElem_of_mem hx
    rw [List.getElem_zipWith]
    exact ⟨_,_,List.getElem_mem _,List.getElem_mem _,rfl⟩
  have hC:rdT (cntH z p).type.toNat ((typN z at').flatMap (fun p=>be 4 p.1++(be 1 p.2.1++be 1 p.2.2))++(tl p++z.leaps.flatMap (fun p=>be s.toNat p.1++be 4 p.2)))=(typN z at',tl p++z.leaps.flatMap (fun p=>be s.toNat p.1++be 4 p.2)):=by
    have:=rdT_enc (xs:=typN z at') (tl p++z.leaps.flatMap (fun p=>be s.toNat p.1++be 4 p.2)) (by
      intro x hx
      obtain ⟨t,k,ht,hk,rfl⟩:=hmem x hx
      refine ⟨num4 (f2 t ht),num1 ?_,num1 (f3 k hk)⟩
      dsimp only
      split<;>omega)
    rw [htl] at this
    exact this
  have hch:(cntH z p).char.toNat=(tl p).length:=rfl
  obtain ⟨v,h1,h2⟩:=v58 (cntH z p) (encB z s.toNat p at') s _ _ _ _ _ _ p hs hb hok hsz hA hB hC (by rw [hch,List.take_append_of_le_length (Nat.le_refl _),List.take_of_length_le (Nat.le_refl _),mk_tl])
  refine ⟨v,h1,?_⟩
  have hP:(rdP s.toNat 4 (cntH z p).leap.toNat ((tl p++z.leaps.flatMap (fun p=>be s.toNat p.1++be 4 p.2)).drop (cntH z p).char.toNat)).1=z.leaps:=by
    rw [hch,List.drop_append_of_le_length (Nat.le_refl _),List.drop_eq_nil_of_le (Nat.le_refl _),List.nil_append]
    have:=rdP_enc (z:=s.toNat) (x:=4) (xs:=z.leaps) [] (fun q hq=>⟨(f4 q hq).1,num4 (f4 q hq).2⟩)
    rw [List.append_nil] at this
    show (rdP s.toNat 4 z.leaps.length _).1=_
    rw [this]
  have hG:G58 (cntH z p) (typN z at') p z.types:=by
    refine ⟨z.types.map (·.2.2),by rw [List.length_map,htl],?_,?_,rfl,rfl,?_⟩
    · intro i x n hx hn
      rw [List.getElem?_map] at hn
      obtain ⟨t,ht,rfl⟩:=Option.map_eq_some_iff.mp hn
      unfold typN at hx
      rw [List.getElem?_zipWith,ht] at hx
      cases hk:at'[i]? with
      | none=>rw [hk] at hx;simp at hx
      | some k =>
        rw [hk] at hx
        simp only [Option.some.injEq] at hx
        subst hx
        exact hpool i t k ht hk
    · intro x hx
      obtain ⟨t,k,_,_,rfl⟩:=hmem x hx
      dsimp only
      split<;>omega
    · apply List.ext_getElem?
      intro i
      unfold typN
      rw [List.getElem?_zipWith,List.getElem?_zipWith,List.getElem?_map]
      cases ht:z.types[i]? with
      | none=>simp
      | some t =>
        have hi:i < at'.length:=by
          have:=(List.getElem?_eq_some_iff.mp ht).1
          omega
        rw [List.getElem?_eq_getElem hi]
        obtain ⟨a,b,c⟩:=t
        cases b<;>rfl
  rcases h2 with ⟨_,h⟩ | ⟨T,rfl,_,_,h⟩
  · exact absurd hG (h _)
  · rw [h _ hG,hP]
    have hz:(z.trans.map (·.1)).zip (z.trans.map (·.2))=z.trans:=by
      rw [List.zip_map']
      simp
    rw [hz]
    rfl
theorem tk_app {a b:List UInt8} {z:Int} (h:z=a.length):tkR z (some (a++b))=some b∧tkV z (some (a++b))=a:=by
  obtain ⟨h1,h2⟩:=tk1 (r:=a++b) (z:=z) (by omega) (by rw [List.length_append];omega)
  have e:z.toNat=a.length:=by omega
  rw [h1,h2,e]
  exact ⟨by rw [List.drop_append_of_le_length (Nat.le_refl _),List.drop_eq_nil_of_le (Nat.le_refl _),List.nil_append],by rw [List.take_append_of_le_length (Nat.le_refl _),List.take_of_length_le (Nat.le_refl _)]⟩
theorem rdHd_enc {h:Hd} (r:List UInt8) (hok:h.ok):rdHd (h.bytes++r)=some h:=by
  have hk:=hok
  unfold Hd.ok at hk
  obtain ⟨hk1,hk2,hk3,hk4,hk5,hk6,hk7⟩:=hk
  have e0:h.bytes++r=[84,90,105,102]++([if h.ver > 1 then UInt8.ofNat (48+h.ver).toNat else 0]++(List.replicate 15 0++(be 4 h.ut++(be 4 h.std++(be 4 h.leap++(be 4 h.time++(be 4 h.type++(be 4 h.char++r)))))))):=by
    unfold Hd.bytes
    simp only [List.append_assoc]
  rw [e0]
  have hb:∀ (n:Int) (q:List UInt8),tkR 4 (some (be 4 n++q))=some q∧tkV 4 (some (be 4 n++q))=be 4 n:=fun n q=>tk_app (by rw [be_len];rfl)
  unfold rdHd nx
  dsimp only
  rw [(tk_app (z:=4) (a:=[84,90,105,102]) rfl).1,(tk_app (z:=4) (a:=[84,90,105,102]) rfl).2]
  rw [(tk_app (z:=1) (a:=[if h.ver > 1 then UInt8.ofNat (48+h.ver).toNat else 0]) rfl).1,(tk_app (z:=1) (a:=[if h.ver > 1 then UInt8.ofNat (48+h.ver).toNat else 0]) rfl).2]
  rw [(tk_app (z:=15) (a:=List.replicate 15 0) rfl).1,(tk_app (z:=15) (a:=List.replicate 15 0) rfl).2]
  simp only [(hb _ _).1,(hb _ _).2]
  have n4:∀ n:Int,-2147483648≤n∧n < 2147483648→numL (Int.toNat 4) (be 4 n)=n:=fun n hn=>num4 hn
  rw [n4 h.ut (by omega),n4 h.std (by omega),n4 h.leap (by omega),n4 h.time (by omega),n4 h.type (by omega),n4 h.char (by omega)]
  have hv:(if numL (Int.toNat 1) [if h.ver > 1 then UInt8.ofNat (48+h.ver).toNat else 0]=0 then (1:Int) else if 50≤numL (Int.toNat 1) [if h.ver > 1 then UInt8.ofNat (48+h.ver).toNat else 0]∧numL (Int.toNat 1) [if h.ver > 1 then UInt8.ofNat (48+h.ver).toNat else 0]≤52 then numL (Int.toNat 1) [if h.ver > 1 then UInt8.ofNat (48+h.ver).toNat else 0] - 48 else 0)=h.ver:=by
    have:h.ver=1∨h.ver=2∨h.ver=3∨h.ver=4:=by omega
    rcases this with e | e | e | e<;>rw [e]<;>decide
  rw [hv]
  refine if_pos ⟨?_,?_,?_,hok⟩<;>first | trivial | decide | rfl
theorem cutF_enc {h:Hd} (z:Int) (d r:List UInt8) (hok:h.ok) (hd:(d.length:Int)=h.size (if h.ver=1 then 4 else z)):cutF (h.bytes++(d++r)) z=some (h,d,r):=by
  unfold cutF
  rw [rdHd_enc _ hok]
  have hl:h.bytes.length=44:=by unfold Hd.bytes;simp [be_len]
  have e:(h.bytes++(d++r)).drop 44=d++r:=by
    rw [List.drop_append_of_le_length (by omega),List.drop_eq_nil_of_le (by omega),List.nil_append]
  dsimp only
  rw [e,← hd,if_pos (by rw [List.length_append];omega)]
  have e2:((d.length:Int)).toNat=d.length:=by omega
  rw [e2,List.take_append_of_le_length (Nat.le_refl _),List.take_of_length_le (Nat.le_refl _),List.drop_append_of_le_length (Nat.le_refl _),List.drop_eq_nil_of_le (Nat.le_refl _),List.nil_append]
def ZSm (z:Zn) (n:Nat):Prop:=z.types.length≤64∧z.trans.length≤2000∧z.leaps.length≤201∧z.foot.size≤n∧∀ t ∈ z.types,ByteArray.size t.2.2≤16
theorem cut_ok {b:List UInt8} {z:Int} (hz:z=4∨z=8) {h:Hd} {d r:List UInt8} (e:cutF b z=some (h,d,r)):h.ok∧(d.length:Int)=h.size (if h.ver=1 then 4 else z)∧r.length≤b.length:=by
  unfold cutF at e
  split at e
  · cases e
  · rename_i hh heq
    obtain ⟨_,hok⟩:=rdHd_len heq
    dsimp only at e
    have key:∀ z:Int,z=4∨z=8→0≤hh.size z:=by
      intro z hz
      have hk:=hok
      unfold Hd.ok at hk
      obtain ⟨hk1,hk2,hk3,hk4,hk5,hk6,hk7⟩:=hk
      unfold Hd.size
      rcases hz with rfl | rfl<;>omega
    have h0:0≤hh.size (if hh.ver=1 then 4 else z):=by
      split
      · exact key 4 (.inl rfl)
      · exact key z hz
    generalize hn:hh.size (if hh.ver=1 then 4 else z)=n at e h0
    by_cases hc:n≤((b.drop 44).length:Int)
    · rw [if_pos hc] at e
      cases e
      refine ⟨hok,?_,by simp only [List.length_drop];omega⟩
      rw [List.length_take,hn]
      omega
    · rw [if_neg hc] at e
      cases e
theorem v58t (h:Hd) (b:List UInt8) (z:Int) (hz:z=4∨z=8) (hb:b.length≤1000000) (hok:h.ok) (hbz:b.length=h.size z):∃ v,Val PT 58 [.agg h.l,.sl 1 (u8l b) .sh,i64 z] v∧∃ (y:Zn) (t:Bool),v=.tup [y.v,.bool t]∧ZSm y 0∧y.foot=bs []∧(t=true→y.ver=h.ver):=by
  obtain ⟨v,h1,h2⟩:=v58 h b z _ _ _ _ _ _ _ hz hb hok hbz rfl rfl rfl rfl
  have hk:=hok
  unfold Hd.ok at hk
  obtain ⟨hk1,hk2,hk3,hk4,hk5,hk6,hk7⟩:=hk
  rcases h2 with ⟨rfl,_⟩ | ⟨T,rfl,hT,hs,_⟩
  · exact ⟨_,h1,z0,false,rfl,⟨by decide,by decide,by decide,by decide,by simp [z0]⟩,rfl,fun h=>by cases h⟩
  · refine ⟨_,h1,_,true,rfl,⟨by dsimp only;omega,?_,?_,Nat.le_refl _,hs⟩,rfl,fun _=>rfl⟩
    · dsimp only
      rw [List.length_zip,(rdN_len _ _ _).1,(rdN_len _ _ _).1]
      omega
    · dsimp only
      rw [(rdP_len _ _ _ _).1]
      omega
def encZ (z:Zn) (p:ByteArray) (at':List Int):List UInt8:=
  if z.ver=1 then (cntH z p).bytes++encB z 4 p at'
  else (Hd.bytes ⟨z.ver,0,0,0,0,1,1⟩)++(List.replicate 7 0++((cntH z p).bytes++(encB z 8 p at'++(10::(tl z.foot++[10])))))
theorem v25 (b:List UInt8) (hb:b.length≤1000000):∃ v,Val PT 25 [.sl 1 (u8l b) .sh] v∧∃ (z:Zn) (t:Bool),v=.tup [z.v,.bool t]∧ZSm z b.length∧(t=true→10 ∉ tl z.foot∧(z.ver=1→z.foot=bs [])):=by
  obtain ⟨v1,c1,c2⟩:=v57 b 4 (.inl rfl) hb
  rcases c2 with ⟨h,hc,rfl⟩ | ⟨h,d,r,hc,rfl⟩
  · have h57:∃ v,Val PT 57 [.sl 1 (u8l b) .sh,i64 4] v∧v=.tup [.agg (Hd.l h),.sl 1 [] .sh,.sl 1 [] .sh,.bool false]:=⟨_,c1,rfl⟩
    refine sv c25 fun Q hF=>?_
    repeat' first | refine ga ?_ | (refine so ?_;first | refine cr (h57) rfl rfl rfl rfl rfl ?_) | (refine gb ?_;intros) | (refine gd ?_ ?_<;>intros)
    all_goals (subst hF;(repeat refine ge ?_);try dsimp only [RA])
    exact ⟨z0,false,rfl,⟨by decide,by decide,by decide,Nat.zero_le _,by simp [z0]⟩,fun h=>by cases h⟩
  · have h57:∃ v,Val PT 57 [.sl 1 (u8l b) .sh,i64 4] v∧v=.tup [.agg (Hd.l h),.sl 1 (u8l d) .sh,.sl 1 (u8l r) .sh,.bool true]:=⟨_,c1,rfl⟩
    obtain ⟨hok,hdl,hrl⟩:=cut_ok (.inl rfl) hc
    have hdl4:(d.length:Int)=h.size 4:=by rw [hdl];split<;>rfl
    have hk:=hok
    unfold Hd.ok at hk
    obtain ⟨hk1,hk2,hk3,hk4,hk5,hk6,hk7⟩:=hk
    have hsz:=hdl4
    unfold Hd.size at hsz
    obtain ⟨w,e1,y1,t1,rfl,hy1,hy1f,hy1v⟩:=v58t h d 4 (.inl rfl) (by omega) hok hdl4
    have h58:∃ v,Val PT 58 [.agg h.l,.sl 1 (u8l d) .sh,i64 4] v∧v=.tup [y1.v,.bool t1]:=⟨_,e1,rfl⟩
    have fl:∃ (z:Zn) (t:Bool),V.tup [.agg [.sl 3 [] .sh,.sl 2 [] .sh,.sl 2 [] .sh,.str (bs []),i64 0],.bool false]=.tup [z.v,.bool t]∧ZSm z b.length∧(t=true→10 ∉ tl z.foot∧(z.ver=1→z.foot=bs [])):=⟨z0,false,rfl,⟨by decide,by decide,by decide,Nat.zero_le _,by simp [z0]⟩,fun h=>by cases h⟩
    by_cases hv:h.ver=1
    · refine sv c25 fun Q hF=>?_
      repeat' first | refine ga ?_ | (refine so ?_;first | refine cr (h57) rfl rfl rfl rfl rfl ?_ | refine cr (h58) rfl rfl rfl rfl rfl ?_) | (refine gb ?_;intros) | (refine gd ?_ ?_<;>intros)
      all_goals try (exfalso;omega)
      all_goals (subst hF;(repeat refine ge ?_);try dsimp only [RA])
      refine ⟨y1,_,rfl,?_,fun ht=>?_⟩
      · obtain ⟨g1,g2,g3,g4,g5⟩:=hy1
        exact ⟨g1,g2,g3,by omega,g5⟩
      · rw [hy1f]
        exact ⟨by decide,fun _=>rfl⟩
    obtain ⟨v2,c3,c4⟩:=v57 r 8 (.inr rfl) (by omega)
    rcases c4 with ⟨h2,hc2,rfl⟩ | ⟨h2,d2,r2,hc2,rfl⟩
    · have h57b:∃ v,Val PT 57 [.sl 1 (u8l r) .sh,i64 8] v∧v=.tup [.agg (Hd.l h2),.sl 1 [] .sh,.sl 1 [] .sh,.bool false]:=⟨_,c3,rfl⟩
      refine sv c25 fun Q hF=>?_
      repeat' first | refine ga ?_ | (refine so ?_;first | refine cr (h57) rfl rfl rfl rfl rfl ?_ | refine cr (h57b) rfl rfl rfl rfl rfl ?_) | (refine gb ?_;intros) | (refine gd ?_ ?_<;>intros)
      all_goals try (exfalso;omega)
      all_goals (subst hF;(repeat refine ge ?_);try dsimp only [RA])
      exact fl
    · have h57b:∃ v,Val PT 57 [.sl 1 (u8l r) .sh,i64 8] v∧v=.tup [.agg (Hd.l h2),.sl 1 (u8l d2) .sh,.sl 1 (u8l r2) .sh,.bool true]:=⟨_,c3,rfl⟩
      by_cases hv2:h2.ver=h.ver
      · obtain ⟨hok2,hdl2,hrl2⟩:=cut_ok (.inr rfl) hc2
        have hdl8:(d2.length:Int)=h2.size 8:=by rw [hdl2,if_neg (by omega)]
        have hk':=hok2
        unfold Hd.ok at hk'
        obtain ⟨jk1,jk2,jk3,jk4,jk5,jk6,jk7⟩:=hk'
        have hsz2:=hdl8
        unfold Hd.size at hsz2
        obtain ⟨w2,e2,y2,t2,rfl,hy2,hy2f,hy2v⟩:=v58t h2 d2 8 (.inr rfl) (by omega) hok2 hdl8
        have h58b:∃ v,Val PT 58 [.agg h2.l,.sl 1 (u8l d2) .sh,i64 8] v∧v=.tup [y2.v,.bool t2]:=⟨_,e2,rfl⟩
        refine sv c25 fun Q hF=>?_
        repeat' first | refine ga ?_ | (refine so ?_;first | refine cr (h57) rfl rfl rfl rfl rfl ?_ | refine cr (h57b) rfl rfl rfl rfl rfl ?_ | refine cr (h58b) rfl rfl rfl rfl rfl ?_ | (refine wp_call (v59 r2 (by omega)) rfl rfl rfl rfl ?_;rintro _ ⟨s3,t3,rfl,q1,q2,q3⟩<;>refine xq ?_)) | (refine gb ?_;intros) | (refine gd ?_ ?_<;>intros)
        all_goals try (exfalso;omega)
        all_goals try (exfalso;rename_i hx;exact hx.elim (fun h=>h trivial) (fun h=>h hv2))
        all_goals try show WpO _ _ _ _ _ _
        all_goals (subst hF;(repeat refine ge ?_);try dsimp only [RA])
        refine ⟨⟨y2.types,y2.trans,y2.leaps,s3,y2.ver⟩,_,rfl,?_,fun ht=>?_⟩
        · obtain ⟨g1,g2,g3,g4,g5⟩:=hy2
          exact ⟨g1,g2,g3,by dsimp only;omega,g5⟩
        · cases t2<;>cases t3<;>try (cases ht)
          exact ⟨q2 rfl,fun hh=>absurd ((hy2v rfl).symm.trans hh) (by omega)⟩
      · refine sv c25 fun Q hF=>?_
        repeat' first | refine ga ?_ | (refine so ?_;first | refine cr (h57) rfl rfl rfl rfl rfl ?_ | refine cr (h57b) rfl rfl rfl rfl rfl ?_) | (refine gb ?_;intros) | (refine gd ?_ ?_<;>intros)
        all_goals try (exfalso;omega)
        all_goals try (exfalso;rename_i hx;exact hx (.inr hv2))
        all_goals (subst hF;(repeat refine ge ?_);try dsimp only [RA])
        exact fl
theorem h57c (b:List UInt8) (z:Int) (hz:z=4∨z=8) (hb:b.length≤1000000) {h:Hd} {d r:List UInt8} (e:cutF b z=some (h,d,r)):∃ v,Val PT 57 [.sl 1 (u8l b) .sh,i64 z] v∧v=.tup [.agg (Hd.l h),.sl 1 (u8l d) .sh,.sl 1 (u8l r) .sh,.bool true]:=by
  obtain ⟨v,h1,h2⟩:=v57 b z hz hb
  rcases h2 with ⟨_,h3,_⟩ | ⟨_,_,_,h3,h4⟩
  · rw [e] at h3
    cases h3
  · rw [e] at h3
    cases h3
    exact ⟨v,h1,h4⟩
theorem Hd.bytes_len (h:Hd):h.bytes.length=44:=by unfold Hd.bytes;simp [be_len]
theorem v25e (z:Zn) (p:ByteArray) (at':List Int) (hp:pdR z p at') (hf:Fits z (if z.ver=1 then 4 else 8) at') (hok:(cntH z p).ok) (hfoot:10 ∉ tl z.foot) (hf1:z.ver=1→z.foot=bs []) (hfl:z.foot.size≤100000):∃ v,Val PT 25 [.sl 1 (u8l (encZ z p at')) .sh] v∧v=.tup [z.v,.bool true]:=by
  have hk:=hok
  unfold Hd.ok at hk
  obtain ⟨hk1,hk2,hk3,hk4,hk5,hk6,hk7⟩:=hk
  have hL:∀ s,s=4∨s=8→(encB z (Int.toNat s) p at').length≤100000∧((encB z (Int.toNat s) p at').length:Int)=(cntH z p).size s:=fun s hs=>by
    have:=encB_len z s hs p at' hp.1
    refine ⟨?_,this⟩
    unfold Hd.size at this
    rcases hs with rfl | rfl<;>omega
  have hcv:(cntH z p).ver=z.ver:=rfl
  by_cases hv:z.ver=1
  · have e0:encZ z p at'=(cntH z p).bytes++(encB z 4 p at'++[]):=by
      unfold encZ
      rw [if_pos hv,List.append_nil]
    obtain ⟨l1,l2⟩:=hL 4 (.inl rfl)
    have l1':(encB z 4 p at').length≤100000:=l1
    have hlen:(encZ z p at').length≤1000000:=by
      rw [e0,List.length_append,List.append_nil,Hd.bytes_len]
      omega
    have hc:=cutF_enc (h:=cntH z p) 4 (encB z 4 p at') [] hok (by rw [hcv,if_pos hv];exact l2)
    rw [← e0] at hc
    have h57:=h57c _ 4 (.inl rfl) hlen hc
    rw [if_pos hv] at hf
    have h58:=dec58 z 4 (.inl rfl) p at' hp hf hok
    refine sv c25 fun Q hF=>?_
    repeat' first | refine ga ?_ | (refine so ?_;first | refine cr (h57) rfl rfl rfl rfl rfl ?_ | refine cr (h58) rfl rfl rfl rfl rfl ?_) | (refine gb ?_;intros) | (refine gd ?_ ?_<;>intros)
    all_goals try (exfalso;omega)
    all_goals (subst hF;(repeat refine ge ?_);try dsimp only [RA])
    show _=V.tup [.agg [.sl 3 (z.types.map tyV) .sh,.sl 2 (z.trans.map prV) .sh,.sl 2 (z.leaps.map prV) .sh,.str z.foot,i64 z.ver],.bool true]
    rw [hf1 hv]
    rfl
  · have e0:encZ z p at'=Hd.bytes ⟨z.ver,0,0,0,0,1,1⟩++(List.replicate 7 0++((cntH z p).bytes++(encB z 8 p at'++(10::(tl z.foot++[10]))))):=by
      unfold encZ
      rw [if_neg hv]
    obtain ⟨l1,l2⟩:=hL 8 (.inr rfl)
    have l1':(encB z 8 p at').length≤100000:=l1
    have l3:(10::(tl z.foot++[10])).length=z.foot.size+2:=by simp [tl_len]
    have l4:((cntH z p).bytes++(encB z 8 p at'++(10::(tl z.foot++[10])))).length≤900000:=by
      rw [List.length_append,List.length_append,l3,Hd.bytes_len]
      omega
    have hlen:(encZ z p at').length≤1000000:=by
      rw [e0,List.length_append,List.length_append,Hd.bytes_len,List.length_replicate]
      omega
    have hok0:(⟨z.ver,0,0,0,0,1,1⟩:Hd).ok:=by
      unfold Hd.ok
      dsimp only
      omega
    have hc:=cutF_enc (h:=⟨z.ver,0,0,0,0,1,1⟩) 4 (List.replicate 7 0) ((cntH z p).bytes++(encB z 8 p at'++(10::(tl z.foot++[10])))) hok0 (by dsimp only;rw [if_neg hv];rfl)
    rw [← e0] at hc
    have h57:=h57c _ 4 (.inl rfl) hlen hc
    have hc2:=cutF_enc (h:=cntH z p) 8 (encB z 8 p at') (10::(tl z.foot++[10])) hok (by rw [hcv,if_neg hv];exact l2)
    have h57b:=h57c _ 8 (.inr rfl) (by omega) hc2
    rw [if_neg hv] at hf
    have h58:=dec58 z 8 (.inr rfl) p at' hp hf hok
    have h59:∃ v,Val PT 59 [.sl 1 (u8l (10::(tl z.foot++[10]))) .sh] v∧v=.tup [.str z.foot,.bool true]:=by
      obtain ⟨v,h1,s,t,rfl,h2,h3,h4⟩:=v59 (10::(tl z.foot++[10])) (by omega)
      obtain ⟨rfl,rfl⟩:=h4 z.foot rfl hfoot
      exact ⟨_,h1,rfl⟩
    refine sv c25 fun Q hF=>?_
    repeat' first | refine ga ?_ | (refine so ?_;first | refine cr (h57) rfl rfl rfl rfl rfl ?_ | refine cr (h57b) rfl rfl rfl rfl rfl ?_ | refine cr (h58) rfl rfl rfl rfl rfl ?_ | refine cr (h59) rfl rfl rfl rfl rfl ?_) | (refine gb ?_;intros) | (refine gd ?_ ?_<;>intros)
    all_goals try (exfalso;rename_i hx;exact hv hx)
    all_goals try (exfalso;rename_i hx;exact hx.elim (fun h=>h trivial) (fun h=>h rfl))
    all_goals (subst hF;(repeat refine ge ?_);try dsimp only [RA])
    rfl
theorem v7g (b:List UInt8) (y:Zn) (t:Bool) (h25:∃ v,Val PT 25 [.sl 1 (u8l b) .sh] v∧v=.tup [y.v,.bool t]) (hy:ZOk y):∃ v,Val PT 7 [.sl 1 (u8l b) .sh] v∧((v=.tup [z0.v,i64 2]∧t=false)∨(v=.tup [z0.v,i64 9]∧Val PT 26 [y.v] (.bool false))∨(v=.tup [y.v,i64 0]∧t=true∧Val PT 26 [y.v] (.bool true))):=by
  obtain ⟨w,hw,r,rfl,hr⟩:=v26 y hy
  have h26:∃ v,Val PT 26 [y.v] v∧v=.bool r:=⟨_,hw,rfl⟩
  refine sv c7 fun Q hF=>?_
  repeat' first | refine ga ?_ | (refine so ?_;first | refine cr (h25) rfl rfl rfl rfl rfl ?_ | refine cr (h26) rfl rfl rfl rfl rfl ?_) | (refine gb ?_;intros) | (refine gd ?_ ?_<;>intros)
  all_goals try show WpO _ _ _ _ _ _
  all_goals (subst hF;(repeat refine ge ?_);try dsimp only [RA])
  · rename_i h
    exact .inl ⟨rfl,by simpa using h⟩
  · rename_i h
    have:r=false:=by simpa using h
    subst this
    exact .inr (.inl ⟨rfl,hw⟩)
  · rename_i h1 h
    have h1:t=true:=by simpa using h1
    have:r=true:=by simpa using h
    subst this
    exact .inr (.inr ⟨rfl,h1,hw⟩)
theorem ZSm.ok {z:Zn} {n:Nat} (h:ZSm z n) (hn:n≤1000000):ZOk z:=by
  obtain ⟨h1,h2,h3,h4,h5⟩:=h
  exact ⟨by omega,by omega,by omega,by omega,fun t ht=>Nat.le_trans (h5 t ht) (by decide)⟩
theorem v7 (b:List UInt8) (hb:b.length≤1000000):∃ v,Val PT 7 [.sl 1 (u8l b) .sh] v∧((∃ c,v=.tup [z0.v,i64 c]∧c≠0)∨∃ y,v=.tup [Zn.v y,i64 0]∧ZSm y b.length∧Val PT 26 [y.v] (.bool true)∧10 ∉ tl y.foot∧(y.ver=1→y.foot=bs [])):=by
  obtain ⟨v,h1,y,t,rfl,h2,h3⟩:=v25 b hb
  obtain ⟨w,h4,h5⟩:=v7g b y t ⟨_,h1,rfl⟩ (h2.ok hb)
  refine ⟨w,h4,?_⟩
  rcases h5 with ⟨rfl,_⟩ | ⟨rfl,_⟩ | ⟨rfl,h6,h7⟩
  · exact .inl ⟨2,rfl,by decide⟩
  · exact .inl ⟨9,rfl,by decide⟩
  · exact .inr ⟨y,rfl,h2,h7,h3 h6⟩
theorem v7e (z:Zn) (p:ByteArray) (at':List Int) (hp:pdR z p at') (hf:Fits z (if z.ver=1 then 4 else 8) at') (hok:(cntH z p).ok) (hfoot:10 ∉ tl z.foot) (hf1:z.ver=1→z.foot=bs []) (hfl:z.foot.size≤100000) (hz:ZOk z) (hr:Val PT 26 [z.v] (.bool true)):Val PT 7 [.sl 1 (u8l (encZ z p at')) .sh] (.tup [z.v,i64 0]):=by
  obtain ⟨w,h4,h5⟩:=v7g _ z true (v25e z p at' hp hf hok hfoot hf1 hfl) hz
  rcases h5 with ⟨_,h⟩ | ⟨_,h⟩ | ⟨rfl,_⟩
  · cases h
  · cases Val.det h hr
  · exact h4
end Go.Den
