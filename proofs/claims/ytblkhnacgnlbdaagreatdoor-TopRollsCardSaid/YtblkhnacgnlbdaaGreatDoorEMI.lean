import Derived.Test.YtblkhnacgnlbdaaGreatDoorEG
import Derived.Test.YtblkhnacgnlbdaaGreatDoorET0
import Derived.Test.YtblkhnacgnlbdaaGreatDoorEM2
import Derived.Test.YtblkhnacgnlbdaaGreatDoorEM5
import Derived.Test.YtblkhnacgnlbdaaGreatDoorEM7
import Derived.Test.YtblkhnacgnlbdaaGreatDoorEM9
import Derived.Test.YtblkhnacgnlbdaaGreatDoorEMA
import Derived.Test.YtblkhnacgnlbdaaGreatDoorEMD
import Derived.Test.YtblkhnacgnlbdaaGreatDoorEME
import Derived.Test.YtblkhnacgnlbdaaGreatDoorEMF
import Derived.Test.YtblkhnacgnlbdaaGreatDoorEMG
set_option linter.all false
namespace Go.Den
set_option maxHeartbeats 4000000
open Go.Proofs
set_option linter.unusedSimpArgs false
set_option maxHeartbeats 1000000
theorem v272L (b:List UInt8) (bad:Bool) (n z:Int) (o:Own) (ho:o=.uniq∨o=.tight∧b=[]) (hz:z=1∨z=4∨z=8) (hl:b.length≤1000000) (g:Frm):Acts PT 272 1 [.ptr (0,11,0) 0 0,i64 n,i64 z] g (0,11,0) (.cells 2 [[.sl 1 (u8l b) o,.bool bad]]) (fun v ob=>v=.tup []∧∃ o' bad' c,(o'=.uniq∨o'=.tight∧b++c=[])∧ob=.cells 2 [[.sl 1 (u8l (b++c)) o',.bool bad']]∧c.length≤8∧(bad'=false→bad=false∧c=be z.toNat n∧(z=1→0≤n∧n < 256)∧(z=4→-2147483648≤n∧n < 2147483648))):=by
  refine acts_of ?_
  rcases hz with rfl | rfl | rfl<;>rcases ho with rfl | ⟨rfl,rfl⟩<;>(
    refine sA c272 fun Q hF=>?_
    repeat' first | refine ga ?_ | (refine so ?_;first | (refine wp_call (v223 [] n _ (by decide) (by simp)) rfl rfl rfl rfl ?_;rintro _ ⟨t,rfl,ht⟩<;>refine xq ?_)) | (refine gb ?_;intros) | (refine gd ?_ ?_<;>intros)
    cases t<;>repeat' first | refine ga ?_ | (refine so ?_;first | (refine wp_appU rfl rfl (by rw [u8l_len,u8l_len];simp [be];omega) ?_) | (refine wp_appT rfl rfl rfl (by rw [u8l_len,u8l_len];simp [be]) ?_)) | (refine gb ?_;intros) | (refine gd ?_ ?_<;>intros)
    all_goals try show WpO _ _ _ _ _ _)
  all_goals (
    skip
    all_goals (subst hF;(repeat refine ge ?_);try dsimp only [RA]))
  all_goals (change ∃ o':Obj,_)
  all_goals first
    | exact ⟨_,rfl,(fun h=>by cases h),rfl,_,(bif bad then true else !false),[],.inl rfl,by rw [u8l_app];rfl,by simp,fun h=>by cases bad<;>cases h⟩
    | exact ⟨_,rfl,(fun h=>by cases h),rfl,_,(bif bad then true else !false),[],.inr ⟨rfl,rfl⟩,by rw [u8l_app];rfl,by simp,fun h=>by cases bad<;>cases h⟩
    | exact ⟨_,rfl,(fun h=>by cases h),rfl,_,(bif bad then true else !true),be _ n,.inl rfl,by rw [u8l_app];rfl,by rw [be_len];decide,fun h=>⟨by (cases bad<;>first | rfl | cases h),rfl,ht rfl⟩⟩
theorem fl_step {α:Type} {f:α→List UInt8} {l:List α} {k:Int} {q:α} {a b c:List UInt8} (h0:0≤k) (hx:l[k.toNat]?=some q) (hb:b=a++(l.take k.toNat).flatMap f) (hc:c=f q):b++c=a++(l.take (k+1).toNat).flatMap f:=by
  rw [take_step h0 hx,List.flatMap_append,hb,hc]
  simp
theorem al_step {α:Type} {P:α→Prop} {l:List α} {k:Int} {q:α} (h0:0≤k) (hx:l[k.toNat]?=some q) (hb:∀ r ∈ l.take k.toNat,P r) (hp:P q):∀ r ∈ l.take (k+1).toNat,P r:=by
  intro r hr
  rw [take_step h0 hx] at hr
  rcases List.mem_append.mp hr with h | h
  · exact hb r h
  · rw [List.mem_singleton.mp h];exact hp
def R4 (n:Int):Prop:=-2147483648≤n∧n < 2147483648
def E0 (z:Zn) (s:Int):List UInt8:=z.trans.flatMap fun q=>be s.toNat q.1
def E1 (z:Zn):List UInt8:=z.trans.flatMap fun q=>be 1 q.2
def fT (q:Int × Int × Int):List UInt8:=be 4 q.1++(be 1 q.2.1++be 1 q.2.2)
def fL (s:Int) (q:Int × Int):List UInt8:=be s.toNat q.1++be 4 q.2
theorem tq_ne {l:List (List V)} (h:0 < l.length):tq l=.uniq:=by
  cases l with
  | nil=>cases h
  | cons a r=>rfl
theorem wp_appTS {P:Nat→Option Fun} {n d:Nat} {y:Ys} {k:Ys→Prop} {t z':Nat} {a b:A} {es:List (List V)} {q:ByteArray} {o:Own} (hq:tq (str8 q)=o) (e1:ev y [] a=some (.sl z' es .tight)) (e2:ev y [] b=some (.str q)) (h0:(Nat.beq z' 1 || es.isEmpty)=true) (hc:es.length+q.size≤16777216) (h:offK y a fun y1=>demK n y1 b fun y2=>putK n y2 t (.sl 1 (es++str8 q) o) k):WpO P n d (.app t 1 a b) y k:=by
  subst hq
  have hl:(str8 q).length=q.size:=str8_len q
  refine ⟨⟨_,_,str8 q,_,e1,e2,?_,?_,h⟩⟩
  · simp only [srcV,if_true]
  · simp only [appV]
    refine if_pos ⟨?_,by rw [hl];exact hc⟩
    simp only [Bool.or_eq_true] at h0
    rcases h0 with h0 | h0
    · exact .inl (Nat.eq_of_beq_eq_true h0)
    · exact .inr h0
theorem v222a (z:Zn) (s:Int) (hs:s=4∨s=8) (p:ByteArray) (at':List Int) (o:Own) (hp:pdR z p at') (hok:(cntH z p).ok) (h60:Val PT 60 [z.v] (.tup [.agg (cntH z p).l,.bool true])) (h135:Val PT 135 [z.v] (.tup [.str p,.sl 1 (at'.map itE) o,.bool true])):∃ v,Val PT 222 [z.v,i64 s] v∧((∃ o,v=.tup [.sl 1 [] o,.bool false])∨∃ o,v=.tup [.sl 1 (u8l (encB z s.toNat p at')) o,.bool true]∧((∀ q ∈ z.trans,s=4→R4 q.1)∧∀ q ∈ z.trans,0≤q.2∧q.2 < 256)∧(∀ q ∈ z.types,R4 q.1)∧(∀ q ∈ at',0≤q∧q < 256)∧∀ q ∈ z.leaps,(s=4→R4 q.1)∧R4 q.2):=by
  obtain ⟨hp1,hp2,hp3⟩:=hp
  unfold Hd.ok cntH at hok
  obtain ⟨_,_,_,⟨_,hk1⟩,⟨_,hk2⟩,⟨_,hk3⟩,hk4,_⟩:=hok
  dsimp only at hk1 hk2 hk3 hk4
  have hs1:s=1∨s=4∨s=8:=by omega
  have l1:(z.trans.map prV).length=z.trans.length:=List.length_map _
  have l2:(z.types.map tyV).length=z.types.length:=List.length_map _
  have l3:(z.leaps.map prV).length=z.leaps.length:=List.length_map _
  refine sv c222 fun Q hF=>?_
  repeat' first | refine ga ?_ | (refine so ?_;first | refine cr ((⟨_,h60,rfl⟩:∃ v,Val PT 60 [z.v] v∧v=_)) rfl rfl rfl rfl rfl ?_ | refine cr ((⟨_,h135,rfl⟩:∃ v,Val PT 135 [z.v] v∧v=_)) rfl rfl rfl rfl rfl ?_) | (refine gb ?_;intros) | (refine gd ?_ ?_<;>intros)
  · exfalso
    rename_i hx
    rcases hs with rfl | rfl<;>exact absurd hx (by decide)
  show WpL _ _ _ _
  refine wp_loop (n:=109) (fun m y=>∃ (k N:Int) (b:List UInt8) (o:Own) (bad w:Bool),(z.trans.length - k≤m∧0≤k∧k≤z.trans.length∧N=z.trans.length∧b.length≤8*k∧(bad=false→b=[]++(z.trans.take k.toNat).flatMap (fun q=>be s.toNat q.1)∧∀ q ∈ z.trans.take k.toNat,s=4→R4 q.1))∧(o=.uniq∨o=.tight∧b=[])∧y=⟨[(1,[],i64 s),(2,[],.ptr (0,2,0) 0 0),(8,[],.str p),(9,[],.sl 1 (at'.map itE) .sh),(11,[],.ptr (0,11,0) 0 0),(42,[],.sl 2 (z.trans.map prV) .sh),(43,[],i64 N),(44,[],i64 k)],[(2,0,.cells 5 [z.l]),(6,0,.cells 7 [(cntH z p).l]),(11,0,.cells 2 [[.sl 1 (u8l b) o,.bool bad]])],fun _=>none,w⟩) (z.trans.length) ?_ ?_
  · exact ⟨0,_,[],_,_,_,⟨by omega,by omega,by omega,by rw [← l1],by simp,fun _=>⟨rfl,by simp⟩⟩,.inr ⟨rfl,rfl⟩,rfl⟩
  · rintro m _ ⟨k,N,b,o,bad,w,⟨h1,h2,h3,h4,h5,h6⟩,ho,rfl⟩
    show wpC PT 109 _ c222_l0 _ _
    unfold c222_l0
    repeat' first | refine ga ?_ | (refine so ?_;first | (refine wp_callL (v272L b bad _ s o ho hs1 (by omega)) rfl rfl rfl rfl rfl rfl ?_;rintro _ _ ⟨rfl,o',bad',c,ho',rfl,hc,hcb⟩<;>refine xq (fun _ _=>?_))) | (refine gb ?_;intros) | (refine gd ?_ ?_<;>intros)
    · rename_i q hq _ _
      refine ⟨m - 1,by omega,k+1,N,b++c,o',bad',_,⟨by omega,by omega,by omega,h4,by rw [List.length_append];omega,fun hb=>?_⟩,ho',rfl⟩
      obtain ⟨hb1,hb2,_,hb4⟩:=hcb hb
      obtain ⟨q1,q2⟩:=h6 hb1
      exact ⟨fl_step h2 hq q1 hb2,al_step h2 hq q2 hb4⟩
    have g0:bad=false→b=E0 z s∧∀ q ∈ z.trans,s=4→R4 q.1:=fun hb=>by
      have e:z.trans.take k.toNat=z.trans:=List.take_of_length_le (by omega)
      have:=h6 hb
      rw [e] at this
      exact this
    have b0:b.length≤16000:=by omega
    clear h6 h5 h4 h3 h2 h1
    show WpL _ _ _ _
    refine wp_loop (n:=109) (fun m y=>∃ (k N:Int) (b:List UInt8) (o:Own) (bad w:Bool),(z.trans.length - k≤m∧0≤k∧k≤z.trans.length∧N=z.trans.length∧b.length≤16000+8*k∧(bad=false→b=E0 z s++(z.trans.take k.toNat).flatMap (fun q=>be 1 q.2)∧(∀ q ∈ z.trans,s=4→R4 q.1)∧∀ q ∈ z.trans.take k.toNat,0≤q.2∧q.2 < 256))∧(o=.uniq∨o=.tight∧b=[])∧y=⟨[(1,[],i64 s),(2,[],.ptr (0,2,0) 0 0),(8,[],.str p),(9,[],.sl 1 (at'.map itE) .sh),(11,[],.ptr (0,11,0) 0 0),(54,[],.sl 2 (z.trans.map prV) .sh),(55,[],i64 N),(56,[],i64 k)],[(2,0,.cells 5 [z.l]),(6,0,.cells 7 [(cntH z p).l]),(11,0,.cells 2 [[.sl 1 (u8l b) o,.bool bad]])],fun _=>none,w⟩) (z.trans.length) ?_ ?_
    · exact ⟨0,_,b,o,bad,w,⟨by omega,by omega,by omega,by rw [← l1],by omega,fun h=>⟨by rw [(g0 h).1];simp,(g0 h).2,by simp⟩⟩,ho,rfl⟩
    clear g0 b0 ho
    rintro m _ ⟨k,N,b,o,bad,w,⟨h1,h2,h3,h4,h5,h6⟩,ho,rfl⟩
    show wpC PT 109 _ c222_l1 _ _
    unfold c222_l1
    repeat' first | refine ga ?_ | (refine so ?_;first | (refine wp_callL (v272L b bad _ 1 o ho (by decide) (by omega)) rfl rfl rfl rfl rfl rfl ?_;rintro _ _ ⟨rfl,o',bad',c,ho',rfl,hc,hcb⟩<;>refine xq (fun _ _=>?_))) | (refine gb ?_;intros) | (refine gd ?_ ?_<;>intros)
    · rename_i q hq _ _
      refine ⟨m - 1,by omega,k+1,N,b++c,o',bad',_,⟨by omega,by omega,by omega,h4,by rw [List.length_append];omega,fun hb=>?_⟩,ho',rfl⟩
      obtain ⟨hb1,hb2,hb3,_⟩:=hcb hb
      obtain ⟨q1,q3,q2⟩:=h6 hb1
      exact ⟨fl_step h2 hq q1 hb2,q3,al_step h2 hq q2 (hb3 rfl)⟩
    have g0:bad=false→b=E0 z s++E1 z∧(∀ q ∈ z.trans,s=4→R4 q.1)∧∀ q ∈ z.trans,0≤q.2∧q.2 < 256:=fun hb=>by
      have e:z.trans.take k.toNat=z.trans:=List.take_of_length_le (by omega)
      have:=h6 hb
      rw [e] at this
      exact this
    have b0:b.length≤32000:=by omega
    clear h6 h5 h4 h3 h2 h1
    show WpL _ _ _ _
    refine wp_loop (n:=109) (fun m y=>∃ (k N:Int) (b:List UInt8) (o:Own) (bad w:Bool),(z.types.length - k≤m∧0≤k∧k≤z.types.length∧N=z.types.length∧b.length≤32000+24*k∧(bad=false→b=(E0 z s++E1 z)++((typN z at').take k.toNat).flatMap fT∧((∀ q ∈ z.trans,s=4→R4 q.1)∧∀ q ∈ z.trans,0≤q.2∧q.2 < 256)∧(∀ q ∈ z.types.take k.toNat,R4 q.1)∧∀ q ∈ at'.take k.toNat,0≤q∧q < 256))∧(o=.uniq∨o=.tight∧b=[])∧y=⟨[(1,[],i64 s),(2,[],.ptr (0,2,0) 0 0),(8,[],.str p),(9,[],.sl 1 (at'.map itE) .sh),(11,[],.ptr (0,11,0) 0 0),(65,[],.sl 3 (z.types.map tyV) .sh),(66,[],i64 N),(67,[],i64 k)],[(2,0,.cells 5 [z.l]),(6,0,.cells 7 [(cntH z p).l]),(11,0,.cells 2 [[.sl 1 (u8l b) o,.bool bad]])],fun _=>none,w⟩) (z.types.length) ?_ ?_
    · exact ⟨0,_,b,o,bad,w,⟨by omega,by omega,by omega,by rw [← l2],by omega,fun h=>⟨by rw [(g0 h).1];simp,(g0 h).2,by simp,by simp⟩⟩,ho,rfl⟩
    clear g0 b0 ho
    rintro m _ ⟨k,N,b,o,bad,w,⟨h1,h2,h3,h4,h5,h6⟩,ho,rfl⟩
    show wpC PT 109 _ c222_l2 _ _
    unfold c222_l2
    repeat' first | refine ga ?_ | (refine so ?_;first | refine cr (v273 _) rfl rfl rfl rfl rfl ?_ | (refine wp_callL (v272L b bad _ 4 o ho (by decide) (by omega)) rfl rfl rfl rfl rfl rfl ?_;rintro _ _ ⟨rfl,o1,bad1,c1,ho1,rfl,hc1,hcb1⟩<;>refine xq (fun _ _=>?_)) | (refine wp_callL (v272L (b++c1) bad1 _ 1 o1 ho1 (by decide) (by rw [List.length_append];omega)) rfl rfl rfl rfl rfl rfl ?_;rintro _ _ ⟨rfl,o2,bad2,c2,ho2,rfl,hc2,hcb2⟩<;>refine xq (fun _ _=>?_)) | (refine wp_callL (v272L (b++c1++c2) bad2 _ 1 o2 ho2 (by decide) (by rw [List.length_append,List.length_append];omega)) rfl rfl rfl rfl rfl rfl ?_;rintro _ _ ⟨rfl,o',bad',c,ho',rfl,hc,hcb⟩<;>refine xq (fun _ _=>?_))) | (refine gb ?_;intros) | (refine gd ?_ ?_<;>intros)
    · rename_i q hq w1 i1 w2 i2 kk hkk w3 i3
      refine ⟨m - 1,by omega,k+1,N,b++c1++c2++c,o',bad',_,⟨by omega,by omega,by omega,h4,by simp only [List.length_append];omega,fun hb=>?_⟩,ho',rfl⟩
      obtain ⟨a1,a2,a3,_⟩:=hcb hb
      obtain ⟨d1,d2,d3,_⟩:=hcb2 a1
      obtain ⟨f1,f2,_,f4⟩:=hcb1 d1
      obtain ⟨q1,q2,q3,q4⟩:=h6 f1
      have ht:(typN z at')[k.toNat]?=some (q.1,(if q.2.1=true then 1 else 0),kk):=by unfold typN;rw [List.getElem?_zipWith,hq,hkk]
      refine ⟨?_,q2,al_step h2 hq q3 (f4 rfl),al_step h2 hkk q4 (a3 rfl)⟩
      rw [List.append_assoc,List.append_assoc]
      exact fl_step h2 ht q1 (by rw [f2,d2,a2];rfl)
    have g0:bad=false→b=(E0 z s++E1 z)++(typN z at').flatMap fT∧((∀ q ∈ z.trans,s=4→R4 q.1)∧∀ q ∈ z.trans,0≤q.2∧q.2 < 256)∧(∀ q ∈ z.types,R4 q.1)∧∀ q ∈ at',0≤q∧q < 256:=fun hb=>by
      have e1:z.types.take k.toNat=z.types:=List.take_of_length_le (by omega)
      have e2:at'.take k.toNat=at':=List.take_of_length_le (by omega)
      have e3:(typN z at').take k.toNat=typN z at':=List.take_of_length_le (by unfold typN;rw [List.length_zipWith];omega)
      have:=h6 hb
      rw [e1,e2,e3] at this
      exact this
    have b0:b.length≤34000:=by omega
    clear h6 h5 h4 h3 h2 h1
    have ep:str8 p=u8l (tl p):=rfl
    have lp:(tl p).length=p.size:=tl_len p
    have eu:u8l []=[]:=rfl
    rcases ho with rfl | ⟨rfl,rfl⟩
    · skip
      repeat' first | refine ga ?_ | (refine gb ?_;intros) | (refine gd ?_ ?_<;>intros)
      rw [ep]
      show WpL _ _ _ _
      refine wp_loop (n:=109) (fun m y=>∃ (k N:Int) (b:List UInt8) (es:List (List V)) (o:Own) (bad w:Bool),(z.leaps.length - k≤m∧0≤k∧k≤z.leaps.length∧N=z.leaps.length∧b.length≤35000+16*k∧es=u8l b∧(bad=false→b=((E0 z s++E1 z)++(typN z at').flatMap fT++tl p)++(z.leaps.take k.toNat).flatMap (fL s)∧(((∀ q ∈ z.trans,s=4→R4 q.1)∧∀ q ∈ z.trans,0≤q.2∧q.2 < 256)∧(∀ q ∈ z.types,R4 q.1)∧∀ q ∈ at',0≤q∧q < 256)∧∀ q ∈ z.leaps.take k.toNat,(s=4→R4 q.1)∧R4 q.2))∧(o=.uniq∨o=.tight∧b=[])∧y=⟨[(1,[],i64 s),(11,[],.ptr (0,11,0) 0 0),(91,[],.sl 2 (z.leaps.map prV) .sh),(92,[],i64 N),(93,[],i64 k)],[(2,0,.cells 5 [z.l]),(6,0,.cells 7 [(cntH z p).l]),(11,0,.cells 2 [[.sl 1 es o,.bool bad]])],fun _=>none,w⟩) (z.leaps.length) ?_ ?_
      · exact ⟨0,_,b++tl p,_,.uniq,bad,_,⟨by omega,by omega,by omega,by rw [← l3],by rw [List.length_append];omega,by rw [u8l_app],fun h=>⟨by rw [(g0 h).1];simp,(g0 h).2,by simp⟩⟩,.inl rfl,rfl⟩
      clear g0 b0
      rintro m _ ⟨k,N,b,es,o,bad,w,⟨h1,h2,h3,h4,h5,rfl,h6⟩,ho,rfl⟩
      show wpC PT 109 _ c222_l3 _ _
      unfold c222_l3
      repeat' first | refine ga ?_ | (refine so ?_;first | (refine wp_callL (v272L b bad _ s o ho hs1 (by omega)) rfl rfl rfl rfl rfl rfl ?_;rintro _ _ ⟨rfl,o1,bad1,c1,ho1,rfl,hc1,hcb1⟩<;>refine xq (fun _ _=>?_)) | (refine wp_callL (v272L (b++c1) bad1 _ 4 o1 ho1 (by decide) (by rw [List.length_append];omega)) rfl rfl rfl rfl rfl rfl ?_;rintro _ _ ⟨rfl,o',bad',c,ho',rfl,hc,hcb⟩<;>refine xq (fun _ _=>?_))) | (refine gb ?_;intros) | (refine gd ?_ ?_<;>intros)
      · rename_i q hq w1 i1 w2 i2
        refine ⟨m - 1,by omega,k+1,N,b++c1++c,_,o',bad',_,⟨by omega,by omega,by omega,h4,by simp only [List.length_append];omega,rfl,fun hb=>?_⟩,ho',rfl⟩
        obtain ⟨d1,d2,_,d4⟩:=hcb hb
        obtain ⟨f1,f2,_,f4⟩:=hcb1 d1
        obtain ⟨q1,q2,q3⟩:=h6 f1
        refine ⟨?_,q2,al_step h2 hq q3 ⟨f4,d4 rfl⟩⟩
        rw [List.append_assoc]
        exact fl_step h2 hq q1 (by rw [f2,d2];rfl)
      · skip
        all_goals (subst hF;(repeat refine ge ?_);try dsimp only [RA])
        exact .inl ⟨_,rfl⟩
      · rename_i hk hb
        have hbf:bad=false:=by cases bad<;>simp_all
        obtain ⟨q1,q2,q3⟩:=h6 hbf
        rw [List.take_of_length_le (by omega)] at q1 q3
        rcases ho with rfl | ⟨rfl,rfl⟩<;>repeat' first | refine ga ?_ | (refine gb ?_;intros) | (refine gd ?_ ?_<;>intros)
        all_goals try show WpO _ _ _ _ _ _
        all_goals (
          skip
          all_goals (subst hF;(repeat refine ge ?_);try dsimp only [RA]))
        all_goals (
          refine .inr ⟨.sh,?_,q2.1,q2.2.1,q2.2.2,q3⟩
          have eB:encB z s.toNat p at'=E0 z s++E1 z++(typN z at').flatMap fT++tl p++z.leaps.flatMap (fL s):=by
            unfold encB E0 E1 fT fL
            simp only [List.flatMap_map,List.append_assoc]
          rw [eB,← q1])
    · rw [eu]
      repeat' first | refine ga ?_ | (refine so ?_;first | (refine wp_appTS (tq_ne (by rw [str8_len];omega)) rfl rfl rfl (by show 0+_≤_;omega) ?_)) | (refine gb ?_;intros) | (refine gd ?_ ?_<;>intros)
      rw [ep]
      show WpL _ _ _ _
      refine wp_loop (n:=109) (fun m y=>∃ (k N:Int) (b:List UInt8) (es:List (List V)) (o:Own) (bad w:Bool),(z.leaps.length - k≤m∧0≤k∧k≤z.leaps.length∧N=z.leaps.length∧b.length≤35000+16*k∧es=u8l b∧(bad=false→b=((E0 z s++E1 z)++(typN z at').flatMap fT++tl p)++(z.leaps.take k.toNat).flatMap (fL s)∧(((∀ q ∈ z.trans,s=4→R4 q.1)∧∀ q ∈ z.trans,0≤q.2∧q.2 < 256)∧(∀ q ∈ z.types,R4 q.1)∧∀ q ∈ at',0≤q∧q < 256)∧∀ q ∈ z.leaps.take k.toNat,(s=4→R4 q.1)∧R4 q.2))∧(o=.uniq∨o=.tight∧b=[])∧y=⟨[(1,[],i64 s),(11,[],.ptr (0,11,0) 0 0),(91,[],.sl 2 (z.leaps.map prV) .sh),(92,[],i64 N),(93,[],i64 k)],[(2,0,.cells 5 [z.l]),(6,0,.cells 7 [(cntH z p).l]),(11,0,.cells 2 [[.sl 1 es o,.bool bad]])],fun _=>none,w⟩) (z.leaps.length) ?_ ?_
      · exact ⟨0,_,tl p,_,.uniq,bad,_,⟨by omega,by omega,by omega,by rw [← l3],by omega,rfl,fun h=>⟨by rw [← (g0 h).1];simp,(g0 h).2,by simp⟩⟩,.inl rfl,rfl⟩
      clear g0 b0
      rintro m _ ⟨k,N,b,es,o,bad,w,⟨h1,h2,h3,h4,h5,rfl,h6⟩,ho,rfl⟩
      show wpC PT 109 _ c222_l3 _ _
      unfold c222_l3
      repeat' first | refine ga ?_ | (refine so ?_;first | (refine wp_callL (v272L b bad _ s o ho hs1 (by omega)) rfl rfl rfl rfl rfl rfl ?_;rintro _ _ ⟨rfl,o1,bad1,c1,ho1,rfl,hc1,hcb1⟩<;>refine xq (fun _ _=>?_)) | (refine wp_callL (v272L (b++c1) bad1 _ 4 o1 ho1 (by decide) (by rw [List.length_append];omega)) rfl rfl rfl rfl rfl rfl ?_;rintro _ _ ⟨rfl,o',bad',c,ho',rfl,hc,hcb⟩<;>refine xq (fun _ _=>?_))) | (refine gb ?_;intros) | (refine gd ?_ ?_<;>intros)
      · rename_i q hq w1 i1 w2 i2
        refine ⟨m - 1,by omega,k+1,N,b++c1++c,_,o',bad',_,⟨by omega,by omega,by omega,h4,by simp only [List.length_append];omega,rfl,fun hb=>?_⟩,ho',rfl⟩
        obtain ⟨d1,d2,_,d4⟩:=hcb hb
        obtain ⟨f1,f2,_,f4⟩:=hcb1 d1
        obtain ⟨q1,q2,q3⟩:=h6 f1
        refine ⟨?_,q2,al_step h2 hq q3 ⟨f4,d4 rfl⟩⟩
        rw [List.append_assoc]
        exact fl_step h2 hq q1 (by rw [f2,d2];rfl)
      · skip
        all_goals (subst hF;(repeat refine ge ?_);try dsimp only [RA])
        exact .inl ⟨_,rfl⟩
      · rename_i hk hb
        have hbf:bad=false:=by cases bad<;>simp_all
        obtain ⟨q1,q2,q3⟩:=h6 hbf
        rw [List.take_of_length_le (by omega)] at q1 q3
        rcases ho with rfl | ⟨rfl,rfl⟩<;>repeat' first | refine ga ?_ | (refine gb ?_;intros) | (refine gd ?_ ?_<;>intros)
        all_goals try show WpO _ _ _ _ _ _
        all_goals (
          skip
          all_goals (subst hF;(repeat refine ge ?_);try dsimp only [RA]))
        all_goals (
          refine .inr ⟨.sh,?_,q2.1,q2.2.1,q2.2.2,q3⟩
          have eB:encB z s.toNat p at'=E0 z s++E1 z++(typN z at').flatMap fT++tl p++z.leaps.flatMap (fL s):=by
            unfold encB E0 E1 fT fL
            simp only [List.flatMap_map,List.append_assoc]
          rw [eB,← q1])
def FitX (z:Zn) (s:Int) (at':List Int):Prop:=((∀ q ∈ z.trans,s=4→R4 q.1)∧∀ q ∈ z.trans,0≤q.2∧q.2 < 256)∧(∀ q ∈ z.types,R4 q.1)∧(∀ q ∈ at',0≤q∧q < 256)∧∀ q ∈ z.leaps,(s=4→R4 q.1)∧R4 q.2
theorem v222 (z:Zn) (s:Int) (hs:s=4∨s=8) (p:ByteArray) (at':List Int) (o:Own) (hp:pdR z p at') (hok:(cntH z p).ok) (h60:Val PT 60 [z.v] (.tup [.agg (cntH z p).l,.bool true])) (h135:Val PT 135 [z.v] (.tup [.str p,.sl 1 (at'.map itE) o,.bool true])):∃ v,Val PT 222 [z.v,i64 s] v∧∃ (b:List UInt8) (o:Own) (t:Bool),v=.tup [.sl 1 (u8l b) o,.bool t]∧b.length≤50000∧(t=true→b=encB z s.toNat p at'∧FitX z s at'):=by
  obtain ⟨v,hv,h⟩:=v222a z s hs p at' o hp hok h60 h135
  refine ⟨v,hv,?_⟩
  rcases h with ⟨o,rfl⟩ | ⟨o,rfl,h1,h2,h3,h4⟩
  · exact ⟨[],o,false,rfl,by decide,fun h=>by cases h⟩
  · refine ⟨_,o,true,rfl,?_,fun _=>⟨rfl,h1,h2,h3,h4⟩⟩
    have:=encB_len z s hs p at' hp.1
    have hb:(cntH z p).size s≤50000:=by
      unfold Hd.ok cntH at hok
      dsimp only at hok
      unfold Hd.size cntH
      dsimp only
      rcases hs with rfl | rfl<;>omega
    omega
theorem v222n (z:Zn) (s:Int) (hh:Hd) (h60:Val PT 60 [z.v] (.tup [.agg hh.l,.bool false])):∃ v,Val PT 222 [z.v,i64 s] v∧∃ o,v=.tup [.sl 1 (u8l []) o,.bool false]:=by
  refine sv c222 fun Q hF=>?_
  repeat' first | refine ga ?_ | (refine so ?_;first | refine cr ((⟨_,h60,rfl⟩:∃ v,Val PT 60 [z.v] v∧v=_)) rfl rfl rfl rfl rfl ?_) | (refine gb ?_;intros) | (refine gd ?_ ?_<;>intros)
  all_goals try show WpO _ _ _ _ _ _
  all_goals (
    skip
    all_goals (subst hF;(repeat refine ge ?_);try dsimp only [RA]))
  all_goals exact ⟨_,rfl⟩
theorem rget_lt:∀ {r:List V} {m:Nat} {z:Nat} {es:List (List V)} {o:Own},rget r m=.sl z es o→m < r.length
  | [],_,_,_,_,h=>by cases h
  | _::_,0,_,_,_,_=>Nat.succ_pos _
  | _::r,m+1,_,_,_,h=>Nat.succ_lt_succ (rget_lt (r:=r) h)
theorem wp_callU {P:Nat→Option Fun} {n d:Nat} {y:Ys} {k:Ys→Prop} {t m z:Nat} {fv:V} {es:List (List V)} (e0:ev y [] (.t m)=some (.sl z es .uniq)) (h:putK n y m (.sl z es .sh) fun y1=>WpO P n d (.call (some t) false false (.c fv) [.t m]) y1 k):WpO P n d (.call (some t) false false (.c fv) [.t m]) y k:=by
  refine ⟨?_⟩
  intro s r
  obtain ⟨y1,r1,k1⟩:=putK_ok (C:=low (D P)) r h
  obtain ⟨s2,y2,h1,h2,h3⟩:=(show sem P n d _ _ _ from k1.out) _ r1
  refine ⟨s2,y2,?_,h2,h3⟩
  rw [← h1]
  have hv:rget s.r m=.sl z es .uniq:=r.ev0 e0
  have hm:=rget_lt hv
  have hp:rget (s.put m (.sl z es .sh)).r m=.sl z es .sh:=by
    show rget (rset s.r m _) m=_
    rw [rget_rset,if_pos ⟨rfl,hm⟩]
  have ha:argL d false [.t m] s=some ([.sl z es .sh],s.put m (.sl z es .sh)):=by
    simp only [argL,arg1,A.ev,hv,St.dem,V.sh,Option.map_some]
  have hb:argL d false [.t m] (s.put m (.sl z es .sh))=some ([.sl z es .sh],s.put m (.sl z es .sh)):=by
    simp only [argL,arg1,A.ev,hp,St.dem,V.sh,Option.map_some]
  simp only [step,A.ev,ha,hb]
theorem v154t (a b:List UInt8) (es:List (List V)) (he:es=[slE a,slE b]) (h1:a.length≤100000) (h2:b.length≤100000):∃ v,Val PT 154 [.sl 1 es .sh] v∧∃ o,v=.sl 1 (u8l (a++b)) o:=by
  obtain ⟨v,hv,o,rfl⟩:=v154 [a,b] es he (by simp) (by
    intro l hl
    rcases List.mem_cons.mp hl with rfl | hl
    · exact h1
    · rw [List.mem_singleton.mp hl];exact h2)
  exact ⟨_,hv,o,by simp⟩
theorem v152f (z:Zn) (s:Int) (hs:s=4∨s=8) (hz:ZOk z):∃ v,Val PT 152 [z.v,i64 s] v∧∃ (b:List UInt8) (o:Own) (t:Bool),v=.tup [.sl 1 (u8l b) o,.bool t]∧b.length≤50100∧(t=true→∃ p at',pdR z p at'∧(cntH z p).ok∧b=(cntH z p).bytes++encB z s.toNat p at'∧FitX z s at'):=by
  obtain ⟨v6,c6,h6⟩:=v60 z hz.1 hz.2.2.2.2
  rcases h6 with ⟨hh,rfl⟩ | ⟨p,at',o,h135,hp,hok,rfl⟩
  · obtain ⟨v1,c1,b1,o1,t1,rfl,hb1⟩:∃ v,Val PT 153 [.agg hh.l] v∧∃ (b:List UInt8) (o:Own) (t:Bool),v=.tup [.sl 1 (u8l b) o,.bool t]∧b.length≤44:=by
      by_cases hok:hh.ok
      · obtain ⟨v,c,rfl⟩:=v153 hh hok
        exact ⟨_,c,_,_,_,rfl,by rw [Hd.bytes_len];decide⟩
      · obtain ⟨v,c,o,rfl⟩:=v153n hh hok
        exact ⟨_,c,[],_,_,rfl,by decide⟩
    cases t1<;>refine sv c152 fun Q hF=>?_<;>repeat' first | refine ga ?_ | (refine so ?_;first | refine cr ((⟨_,c6,rfl⟩:∃ v,Val PT 60 [z.v] v∧v=_)) rfl rfl rfl rfl rfl ?_ | refine cr ((⟨_,c1,rfl⟩:∃ v,Val PT 153 [.agg hh.l] v∧v=_)) rfl rfl rfl rfl rfl ?_ | (refine wp_call (v222n z s hh c6) rfl rfl rfl rfl ?_;rintro _ ⟨o2,rfl⟩<;>refine xq ?_) | (refine wp_call (v154t b1 [] _ rfl (by omega) (by decide)) rfl rfl rfl rfl ?_;rintro _ ⟨(_ | _ | _),rfl⟩<;>refine xq ?_) | (refine wp_callU rfl ?_)) | (refine gb ?_;intros) | (refine gd ?_ ?_<;>intros)
    all_goals try show WpO _ _ _ _ _ _
    all_goals (
      skip
      all_goals (subst hF;(repeat refine ge ?_);try dsimp only [RA]))
    all_goals exact ⟨b1++[],_,false,rfl,by rw [List.length_append];show b1.length+0≤_;omega,fun h=>by cases h⟩
  · refine sv c152 fun Q hF=>?_
    repeat' first | refine ga ?_ | (refine so ?_;first | refine cr ((⟨_,c6,rfl⟩:∃ v,Val PT 60 [z.v] v∧v=_)) rfl rfl rfl rfl rfl ?_ | refine cr (v153 _ hok) rfl rfl rfl rfl rfl ?_ | (refine wp_call (v222 z s hs p at' o hp hok c6 h135) rfl rfl rfl rfl ?_;rintro _ ⟨b,o2,t,rfl,hb,ht⟩<;>refine xq ?_) | (refine wp_call (v154t (cntH z p).bytes b _ rfl (by rw [Hd.bytes_len];decide) (by omega)) rfl rfl rfl rfl ?_;rintro _ ⟨(_ | _ | _),rfl⟩<;>refine xq ?_) | (refine wp_callU rfl ?_)) | (refine gb ?_;intros) | (refine gd ?_ ?_<;>intros)
    all_goals try show WpO _ _ _ _ _ _
    all_goals (
      skip
      all_goals (subst hF;(repeat refine ge ?_);try dsimp only [RA]))
    all_goals exact ⟨_,_,t,by cases t<;>rfl,by rw [List.length_append,Hd.bytes_len];omega,fun h=>⟨p,at',hp,hok,by rw [← (ht h).1],(ht h).2⟩⟩
theorem rset_comm (X Y:V):∀ (r:List V) (m u:Nat),m≠u→rset (rset r m X) u Y=rset (rset r u Y) m X
  | [],_,_,_=>rfl
  | _::_,0,0,h=>absurd rfl h
  | _::_,0,_+1,_=>rfl
  | _::_,_+1,0,_=>rfl
  | a::r,m+1,u+1,h=>congrArg (a::·) (rset_comm X Y r m u (fun e=>h (e▸rfl)))
theorem parts_dem {z m z0:Nat} {es0:List (List V)}:∀ {ps:List (Nat × A)} {s:St} {cs:List (List V)},rget s.r m=.sl z0 es0 .uniq→(ps.any fun p=>match p.2 with | .t u=>Nat.beq u m | .c _=>false)=true→partsL z ps (s.put m (.sl z0 es0 .sh)) cs=partsL z ps s cs
  | [],_,_,_,h=>by cases h
  | (i,.c v)::r,s,cs,h0,h=>by
    simp only [List.any_cons,Bool.false_or] at h
    simp only [partsL,A.ev,St.dem,parts_dem h0 h]
  | (i,.t u)::r,s,cs,h0,h=>by
    have hm:=rget_lt h0
    by_cases hu:u=m
    · subst hu
      have hp:rget (s.put u (.sl z0 es0 .sh)).r u=.sl z0 es0 .sh:=by
        show rget (rset s.r u _) u=_
        rw [rget_rset,if_pos ⟨rfl,hm⟩]
      simp only [partsL,A.ev,h0,hp,St.dem,V.sh]
    · have hb:Nat.beq u m=false:=by rw [← Bool.not_eq_true];exact fun e=>hu (Nat.eq_of_beq_eq_true e)
      simp only [List.any_cons,hb,Bool.false_or] at h
      have hg:rget (s.put m (.sl z0 es0 .sh)).r u=rget s.r u:=by
        show rget (rset s.r m _) u=_
        rw [rget_rset,if_neg (fun e=>hu e.1)]
      simp only [partsL,A.ev,hg]
      have hd:(s.put m (.sl z0 es0 .sh)).dem (.t u)=(s.dem (.t u)).put m (.sl z0 es0 .sh):=by
        simp only [St.dem,hg]
        split
        · show (⟨rset (rset s.r m _) u _,s.l,s.f,s.w⟩:St)=⟨rset (rset s.r u _) m _,s.l,s.f,s.w⟩
          rw [rset_comm _ _ _ _ _ (fun e=>hu e.symm)]
        · rfl
      have h1:rget (s.dem (.t u)).r m=.sl z0 es0 .uniq:=by
        simp only [St.dem]
        split
        · show rget (rset s.r u _) m=_
          rw [rget_rset,if_neg (fun e=>hu e.1.symm)];exact h0
        · exact h0
      rw [hd]
      simp only [parts_dem h1 h]
theorem wp_litU {P:Nat→Option Fun} {n d:Nat} {y:Ys} {k:Ys→Prop} {t z w m z0:Nat} {zero:List V} {ps:List (Nat × A)} {es0:List (List V)} (e0:ev y [] (.t m)=some (.sl z0 es0 .uniq)) (hin:(ps.any fun p=>match p.2 with | .t u=>Nat.beq u m | .c _=>false)=true) (h:putK n y m (.sl z0 es0 .sh) fun y1=>WpO P n d (.lit t z w zero ps) y1 k):WpO P n d (.lit t z w zero ps) y k:=by
  refine ⟨?_⟩
  intro s r
  obtain ⟨y1,r1,k1⟩:=putK_ok (C:=low (D P)) r h
  obtain ⟨s2,y2,h1,h2,h3⟩:=(show sem P n d _ _ _ from k1.out) _ r1
  refine ⟨s2,y2,?_,h2,h3⟩
  rw [← h1]
  simp only [step,parts_dem (r.ev0 e0) hin]
theorem v154q (a b c d:List UInt8) (es:List (List V)) (he:es=[slE a,slE b,slE c,slE d]) (h1:a.length≤100000) (h2:b.length≤100000) (h3:c.length≤100000) (h4:d.length≤100000):∃ v,Val PT 154 [.sl 1 es .sh] v∧∃ o,v=.sl 1 (u8l (a++(b++(c++d)))) o:=by
  obtain ⟨v,hv,o,rfl⟩:=v154 [a,b,c,d] es he (by simp) (by
    intro l hl
    simp only [List.mem_cons,List.not_mem_nil,or_false] at hl
    rcases hl with rfl | rfl | rfl | rfl<;>assumption)
  exact ⟨_,hv,o,by simp⟩
theorem v70 (z:Zn) (hz:ZOk z) (hf:z.foot.size≤50000):∃ v,Val PT 70 [z.v] v∧((∃ o,v=.tup [.sl 1 [] o,.bool false])∨∃ p at' o,v=.tup [.sl 1 (u8l (encZ z p at')) o,.bool true]∧pdR z p at'∧(cntH z p).ok∧FitX z (if z.ver=1 then 4 else 8) at'∧Val PT 26 [z.v] (.bool true)):=by
  obtain ⟨_,c26,t26,rfl,_⟩:=v26 z hz
  by_cases hv:z.ver=1
  · obtain ⟨_,c152,b,o,t,rfl,hb,ht⟩:=v152f z 4 (.inl rfl) hz
    cases t<;>cases t26<;>refine sv c70 fun Q hF=>?_<;>repeat' first | refine ga ?_ | (refine so ?_;first | refine cr ((⟨_,c152,rfl⟩:∃ v,Val PT 152 [z.v,i64 4] v∧v=_)) rfl rfl rfl rfl rfl ?_ | (refine rgc rfl ((⟨_,c26,rfl⟩:∃ v,Val PT 26 [z.v] v∧v=_)) rfl rfl rfl rfl rfl ?_;rintro _ rfl<;>refine xq ?_)) | (refine gb ?_;intros) | (refine gd ?_ ?_<;>intros)
    all_goals try (exfalso;rename_i hx;exact hx hv)
    all_goals try show WpO _ _ _ _ _ _
    all_goals (
      skip
      all_goals (subst hF;(repeat refine ge ?_);try dsimp only [RA]))
    all_goals first
      | exact .inl ⟨_,rfl⟩
      | (obtain ⟨p,at',hp,hok,hbe,hfx⟩:=ht rfl
         exact .inr ⟨p,at',_,by rw [hbe];unfold encZ;rw [if_pos hv];rfl,hp,hok,by rw [if_pos hv];exact hfx,c26⟩)
  · obtain ⟨_,c152,b,o,t,rfl,hb,ht⟩:=v152f z 8 (.inr rfl) hz
    cases t
    · refine sv c70 fun Q hF=>?_
      repeat' first | refine ga ?_ | (refine so ?_;first | refine cr ((⟨_,c152,rfl⟩:∃ v,Val PT 152 [z.v,i64 8] v∧v=_)) rfl rfl rfl rfl rfl ?_ | (refine rgc rfl ((⟨_,c26,rfl⟩:∃ v,Val PT 26 [z.v] v∧v=_)) rfl rfl rfl rfl rfl ?_;rintro _ rfl<;>refine xq ?_)) | (refine gb ?_;intros) | (refine gd ?_ ?_<;>intros)
      all_goals try (exfalso;rename_i hx;exact hv hx)
      all_goals try show WpO _ _ _ _ _ _
      all_goals (subst hF;(repeat refine ge ?_);try dsimp only [RA])
      exact .inl ⟨_,rfl⟩
    cases t26
    · refine sv c70 fun Q hF=>?_
      repeat' first | refine ga ?_ | (refine so ?_;first | refine cr ((⟨_,c152,rfl⟩:∃ v,Val PT 152 [z.v,i64 8] v∧v=_)) rfl rfl rfl rfl rfl ?_ | (refine rgc rfl ((⟨_,c26,rfl⟩:∃ v,Val PT 26 [z.v] v∧v=_)) rfl rfl rfl rfl rfl ?_;rintro _ rfl<;>refine xq ?_)) | (refine gb ?_;intros) | (refine gd ?_ ?_<;>intros)
      all_goals try (exfalso;rename_i hx;exact hv hx)
      all_goals try show WpO _ _ _ _ _ _
      all_goals (subst hF;(repeat refine ge ?_);try dsimp only [RA])
      exact .inl ⟨_,rfl⟩
    obtain ⟨p,at',hp,hok,hbe,hfx⟩:=ht rfl
    have hok2:(Hd.mk z.ver 0 0 0 0 1 1).ok:=by
      unfold Hd.ok cntH at hok
      unfold Hd.ok
      dsimp only at hok ⊢
      omega
    obtain ⟨_,c125,e125⟩:=v125 (Hd.mk z.ver 0 0 0 0 1 1) 4 (.inl rfl)
    rw [if_pos hok2] at e125
    have e7:(Hd.mk z.ver 0 0 0 0 1 1).size 4=7:=rfl
    rw [e7] at e125
    subst e125
    have hb1:(bs [10]).size=1:=rfl
    have hb2:(bs [10]++z.foot).size=1+z.foot.size:=ByteArray.size_append
    have hb3:(bs [10]++z.foot++bs [10]).size=(bs [10]++z.foot).size+1:=ByteArray.size_append
    have efoot:str8 (bs [10]++z.foot++bs [10])=u8l (10::(tl z.foot++[10])):=by
      show u8l (tl (bs [10]++z.foot++bs [10]))=_
      rw [tl_app,tl_app]
      rfl
    have esl:slE (10::(tl z.foot++[10]))=[.sl 1 (str8 (bs [10]++z.foot++bs [10])) .sh]:=by unfold slE;rw [efoot]
    refine sv c70 fun Q hF=>?_
    repeat' first | refine ga ?_ | (refine so ?_;first | refine cr ((⟨_,c152,rfl⟩:∃ v,Val PT 152 [z.v,i64 8] v∧v=_)) rfl rfl rfl rfl rfl ?_ | (refine rgc rfl ((⟨_,c26,rfl⟩:∃ v,Val PT 26 [z.v] v∧v=_)) rfl rfl rfl rfl rfl ?_;rintro _ rfl<;>refine xq ?_) | refine cr (v153 (Hd.mk z.ver 0 0 0 0 1 1) hok2) rfl rfl rfl rfl rfl ?_ | (refine wp_litU (m:=41) rfl rfl ?_) | (refine wp_litU (m:=47) rfl rfl ?_) | (refine wp_call (v154q (Hd.bytes ⟨z.ver,0,0,0,0,1,1⟩) (List.replicate 7 0) b (10::(tl z.foot++[10])) _ (by rw [esl];rfl) (by rw [Hd.bytes_len];decide) (by decide) (by omega) (by rw [List.length_cons,List.length_append,tl_len];simp;omega)) rfl rfl rfl rfl ?_;rintro _ ⟨(_ | _ | _),rfl⟩<;>refine xq ?_) | (refine wp_callU rfl ?_) | (refine wp_callp ((⟨_,c125,rfl⟩:∃ v,Val PT 125 [.agg (Hd.mk z.ver 0 0 0 0 1 1).l,i64 4] v∧v=_)) rfl rfl rfl rfl ?_;rintro _ rfl<;>refine xq ?_)) | (refine gb ?_;intros) | (refine gd ?_ ?_<;>intros)
    all_goals try (exfalso;rename_i hx;exact hv hx)
    all_goals try show WpO _ _ _ _ _ _
    all_goals (subst hF;(repeat refine ge ?_);try dsimp only [RA])
    all_goals (
      have eZ:encZ z p at'=(Hd.mk z.ver 0 0 0 0 1 1).bytes++(List.replicate 7 0++(b++10::(tl z.foot++[10]))):=by
        unfold encZ
        rw [if_neg hv,hbe,List.append_assoc]
        rfl
      exact .inr ⟨p,at',_,by rw [eZ],hp,hok,by rw [if_neg hv];exact hfx,c26⟩)
end Go.Den
