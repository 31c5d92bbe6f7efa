import Derived.Test.YtblkhnacgnlbdaaGreatDoorEG
import Derived.Test.YtblkhnacgnlbdaaGreatDoorET0
import Derived.Test.YtblkhnacgnlbdaaGreatDoorEM9
import Derived.Test.YtblkhnacgnlbdaaGreatDoorEMD
import Derived.Test.YtblkhnacgnlbdaaGreatDoorEME
import Derived.Test.YtblkhnacgnlbdaaGreatDoorEMF
import Derived.Test.YtblkhnacgnlbdaaGreatDoorEMG
import Derived.Test.YtblkhnacgnlbdaaGreatDoorEMI
import Derived.Test.YtblkhnacgnlbdaaGreatDoorEMJ
import Derived.Test.YtblkhnacgnlbdaaGreatDoorEMK
set_option linter.all false
namespace Go.Den
set_option maxHeartbeats 4000000
open Go.Proofs
set_option linter.unusedSimpArgs false
set_option maxHeartbeats 1000000
theorem recs_get (z:Zn):∀ (l:List Lp) (s:Int) (k:Nat) (p:Lp),l[k]?=some p→(recs z s l)[k]?=some (IntKind.i64.wrap (IntKind.i64.wrap (instZ z p+sumR s (l.take k))+min p.step 0),IntKind.i64.wrap (sumR s (l.take k)+p.step))
  | [],_,_,_,h=>by cases h
  | a::r,s,0,p,h=>by
    cases h
    rfl
  | a::r,s,k+1,p,h=>by
    have:=recs_get z r (IntKind.i64.wrap (s+a.step)) k p h
    exact this
theorem at_eq (z:Zn) (p:Lp) (n:Int) (hd:730≤p.day∧p.day < 2932896) (hs:p.step=1∨p.step = -1):IntKind.i64.wrap (IntKind.i64.wrap (instZ z p+n)+min p.step 0) =
    (let a0:=IntKind.i64.wrap (IntKind.i64.wrap (86400*IntKind.i64.wrap (p.day+1))+n)
     let a1:=if p.roll=true then IntKind.i64.wrap (a0 - offZ z (IntKind.i64.wrap (IntKind.i64.wrap (86400*IntKind.i64.wrap (p.day+1)) - 1))) else a0
     if p.step < 0 then IntKind.i64.wrap (a1 - 1) else a1):=by
  have e1:IntKind.i64.wrap (p.day+1)=p.day+1:=by rw [wrap64];split<;>omega
  have e2:IntKind.i64.wrap (86400*(p.day+1))=86400*(p.day+1):=by rw [wrap64];split<;>omega
  have e3:IntKind.i64.wrap ((p.day+1)*86400)=86400*(p.day+1):=by rw [Int.mul_comm,e2]
  unfold instZ
  rw [e1,e2,e3]
  generalize 86400*(p.day+1)=D
  generalize offZ z (IntKind.i64.wrap (D - 1))=f
  have hm:∀ a b,IntKind.i64.wrap (IntKind.i64.wrap a - b)=IntKind.i64.wrap (a - b):=fun a b=>by rw [Int.sub_eq_add_neg,wrap_add,← Int.sub_eq_add_neg]
  rcases hs with hs | hs<;>cases p.roll<;>simp only [hs,Bool.false_eq_true,if_false,if_true]
  all_goals simp only [wrap_add,hm]
  all_goals (try simp only [show min (1:Int) 0=0 from by decide,show min (-1:Int) 0 = -1 from by decide,show ((1:Int) < 0)=False from by decide,show ((-1:Int) < 0)=True from by decide,if_false,if_true,wrap_add,hm,Int.add_zero])
  all_goals (congr 1<;>omega)
theorem v3a (b:List UInt8) (s:ByteArray) (h5:Val PT 5 [] (.bool true)) (h:¬(b.length≤3000∧s.size≤3000)):∃ v,Val PT 3 [.sl 1 (u8l b) .sh,.str s] v∧v=.bool true:=by
  have e1:(u8l b).length=b.length:=u8l_len b
  refine sv c3 fun Q hF=>?_
  repeat' first | refine ga ?_ | (refine so ?_;first | refine cr ((⟨_,h5,rfl⟩:∃ v,Val PT 5 [] v∧v=_)) rfl rfl rfl rfl rfl ?_) | (refine gb ?_;intros) | (refine gd ?_ ?_<;>intros)
  · skip
    all_goals (subst hF;(repeat refine ge ?_);try dsimp only [RA])
    rfl
  · exfalso
    rename_i hx
    omega
theorem v3b (b:List UInt8) (s:ByteArray) (h5:Val PT 5 [] (.bool true)) (h:b.length≤3000∧s.size≤3000) (t:Tb) (a c e:Int) (z:Zn) (q r:Int) (c6:Val PT 6 [.str s] (.tup [t.v,.agg [i64 a,i64 c]])) (c7:Val PT 7 [.sl 1 (u8l b) .sh] (.tup [z.v,i64 e])) (c8:Val PT 8 [i64 2,.str s,.sl 1 (u8l b) .sh] (.tup [.sl 1 [] .sh,.agg [i64 q,i64 r]])) (hr:r≠0):∃ v,Val PT 3 [.sl 1 (u8l b) .sh,.str s] v∧v=.bool true:=by
  have e1:(u8l b).length=b.length:=u8l_len b
  refine sv c3 fun Q hF=>?_
  repeat' first | refine ga ?_ | (refine so ?_;first | refine cr ((⟨_,h5,rfl⟩:∃ v,Val PT 5 [] v∧v=_)) rfl rfl rfl rfl rfl ?_ | refine cr ((⟨_,c6,rfl⟩:∃ v,Val PT 6 [.str s] v∧v=_)) rfl rfl rfl rfl rfl ?_ | refine cr ((⟨_,c7,rfl⟩:∃ v,Val PT 7 [.sl 1 (u8l b) .sh] v∧v=_)) rfl rfl rfl rfl rfl ?_ | refine cr ((⟨_,c8,rfl⟩:∃ v,Val PT 8 [i64 2,.str s,.sl 1 (u8l b) .sh] v∧v=_)) rfl rfl rfl rfl rfl ?_) | (refine gb ?_;intros) | (refine gd ?_ ?_<;>intros)
  all_goals try (exfalso;rename_i hx;omega)
  all_goals try show WpO _ _ _ _ _ _
  all_goals (subst hF;(repeat refine ge ?_);try dsimp only [RA])
  all_goals rfl
theorem v9o (z:Zn) (at':Int) (hz:ZOk z) (h1:1≤z.types.length) (h2:∀ x ∈ z.trans,0≤x.2∧x.2 < z.types.length):∃ v,Val PT 9 [z.v,i64 at'] v∧∃ t,v=.agg (tyV t)∧t.1=offZ z at':=by
  obtain ⟨v,hv,t,rfl⟩:=v9 z at' hz h1 h2
  exact ⟨_,hv,t,rfl,(offZ_eq hv).symm⟩
theorem v3c (b:List UInt8) (s:ByteArray) (h5:Val PT 5 [] (.bool true)) (h:b.length≤3000∧s.size≤3000) (t:Tb) (a:Int) (z:Zn) (d:List UInt8) (yy:Zn) (c6:Val PT 6 [.str s] (.tup [t.v,.agg [i64 a,i64 0]])) (c7:Val PT 7 [.sl 1 (u8l b) .sh] (.tup [z.v,i64 0])) (c8:Val PT 8 [i64 2,.str s,.sl 1 (u8l b) .sh] (.tup [.sl 1 (u8l d) .sh,.agg [i64 0,i64 0]])) (c7e:Val PT 7 [.sl 1 (u8l d) .sh] (.tup [yy.v,i64 0])) (hz:ZOk z) (h1:1≤z.types.length) (h2:∀ q ∈ z.trans,0≤q.2∧q.2 < z.types.length) (ht:t.leaps.length≤200∧∀ p ∈ t.leaps,730≤p.day∧p.day < 2932896∧(p.step=1∨p.step = -1)) (r:List (Int × Int)) (hy:yy.leaps=recs z 0 t.leaps++r):∃ v,Val PT 3 [.sl 1 (u8l b) .sh,.str s] v∧v=.bool true:=by
  have e1:(u8l b).length=b.length:=u8l_len b
  have e2:(t.leaps.map Lp.l).length=t.leaps.length:=List.length_map _
  have e3:(yy.leaps.map prV).length=yy.leaps.length:=List.length_map _
  have e4:yy.leaps.length=t.leaps.length+r.length:=by rw [hy,List.length_append,recs_len]
  refine sv c3 fun Q hF=>?_
  repeat' first | refine ga ?_ | (refine so ?_;first | refine cr ((⟨_,h5,rfl⟩:∃ v,Val PT 5 [] v∧v=_)) rfl rfl rfl rfl rfl ?_ | refine cr ((⟨_,c6,rfl⟩:∃ v,Val PT 6 [.str s] v∧v=_)) rfl rfl rfl rfl rfl ?_ | refine cr ((⟨_,c7,rfl⟩:∃ v,Val PT 7 [.sl 1 (u8l b) .sh] v∧v=_)) rfl rfl rfl rfl rfl ?_ | refine cr ((⟨_,c8,rfl⟩:∃ v,Val PT 8 [i64 2,.str s,.sl 1 (u8l b) .sh] v∧v=_)) rfl rfl rfl rfl rfl ?_ | refine cr ((⟨_,c7e,rfl⟩:∃ v,Val PT 7 [.sl 1 (u8l d) .sh] v∧v=_)) rfl rfl rfl rfl rfl ?_) | (refine gb ?_;intros) | (refine gd ?_ ?_<;>intros)
  · exfalso;rename_i hx;omega
  · exfalso;rename_i hx;omega
  show WpL _ _ _ _
  refine wp_loop (n:=127) (fun m y=>∃ (k:Int),(t.leaps.length - k≤m∧0≤k∧k≤t.leaps.length)∧y=⟨[(5,[],.bool true),(6,[],.ptr (0,6,0) 0 0),(8,[],.ptr (0,8,0) 0 0),(12,[],.ptr (0,12,0) 0 0),(14,[],i64 (sumR 0 (t.leaps.take k.toNat))),(15,[],i64 k)],[(6,0,.cells 3 [t.l]),(7,0,.cells 2 [[i64 a,i64 0]]),(8,0,.cells 5 [z.l]),(11,0,.cells 2 [[i64 0,i64 0]]),(12,0,.cells 5 [yy.l])],fun _=>none,false⟩) (t.leaps.length) ?_ ?_
  · exact ⟨0,⟨by omega,by omega,by omega⟩,rfl⟩
  · rintro m _ ⟨k,⟨h3,h4,h5'⟩,rfl⟩
    show wpC PT 127 _ c3_l0 _ _
    unfold c3_l0
    repeat' first | refine ga ?_ | (refine so ?_;first | (refine wp_call (v9o z _ hz h1 h2) rfl rfl rfl rfl ?_;rintro _ ⟨tt,rfl,htt⟩<;>refine xq ?_)) | (refine gb ?_;intros) | (refine gd ?_ ?_<;>intros)
    all_goals try (
      rename_i hk p hp hroll hstep q hq hne
      have hpm:=List.mem_of_getElem? hp
      obtain ⟨hd1,hd2,hst⟩:=ht.2 p hpm
      first
        | (refine ⟨m - 1,by omega,k+1,⟨by omega,by omega,by omega⟩,?_⟩
           rw [take_step h4 hp,sumR_app]
           rfl)
        | (exfalso
           have e:=recs_get z t.leaps 0 k.toNat p hp
           have e2:yy.leaps[k.toNat]?=(recs z 0 t.leaps)[k.toNat]?:=by
             rw [hy,List.getElem?_append_left (by rw [recs_len];omega)]
           rw [e2,e] at hq
           cases hq
           rw [at_eq z p _ ⟨hd1,hd2⟩ hst] at hne
           simp [hroll,hstep,htt] at hne)
        | (exfalso
           have e:=recs_get z t.leaps 0 k.toNat p hp
           have e2:yy.leaps[k.toNat]?=(recs z 0 t.leaps)[k.toNat]?:=by
             rw [hy,List.getElem?_append_left (by rw [recs_len];omega)]
           rw [e2,e] at hq
           cases hq
           rw [at_eq z p _ ⟨hd1,hd2⟩ hst] at hne
           simp [hroll,hstep] at hne))
    all_goals try show WpO _ _ _ _ _ _
    all_goals (subst hF;(repeat refine ge ?_);try dsimp only [RA])
    all_goals trace_state
    all_goals rfl
theorem recs_r (z:Zn):∀ (l:List Lp) (s:Int),∀ q ∈ recs z s l,R64 q.1
  | [],_,q,h=>by cases h
  | p::r,s,q,h=>by
    rcases List.mem_cons.mp h with rfl | h
    · exact wrap_r _
    · exact recs_r z r _ q h
theorem v3 (b:List UInt8) (s:ByteArray) (h5:Val PT 5 [] (.bool true)):Val PT 3 [.sl 1 (u8l b) .sh,.str s] (.bool true):=by
  have fin:(∃ v,Val PT 3 [.sl 1 (u8l b) .sh,.str s] v∧v=.bool true)→Val PT 3 [.sl 1 (u8l b) .sh,.str s] (.bool true):=by
    rintro ⟨_,h,rfl⟩
    exact h
  apply fin
  by_cases h:b.length≤3000∧s.size≤3000
  · obtain ⟨_,c6,t,a,c,rfl,htl⟩:=v6 s (by omega)
    obtain ⟨_,c7,h7⟩:=v7 b (by omega)
    by_cases hc:c=0
    · subst hc
      rcases h7 with ⟨e,rfl,he⟩ | ⟨z,rfl,hz,c26,hnl,hv1⟩
      · obtain ⟨_,c8,rfl⟩:=v8g s b t a e c6 c7 he
        exact v3b b s h5 h t a 0 e z0 0 e c6 c7 c8 he
      · have hzo:ZOk z:=hz.ok (by omega)
        obtain ⟨_,c28,h28⟩:=v28 z t hzo (by have:=hz.2.2.2.1;omega)
        rcases h28 with ⟨e,rfl,he⟩ | ⟨tr,p,at',rfl,htr,ht,h1,h3,h2,hyo,hp,hok,hfx,c26y⟩
        · obtain ⟨_,c8,rfl⟩:=v8h s b t a z [] 0 e c6 c7 c28
          exact v3b b s h5 h t a 0 0 z 0 e c6 c7 c8 he
        · obtain ⟨_,c8,rfl⟩:=v8h s b t a z _ 0 0 c6 c7 c28
          obtain ⟨⟨f1,f2⟩,f3,f4,f5⟩:=hfx
          have hlr:∀ q ∈ (yZ z t tr).leaps,R64 q.1:=by
            intro q hq
            rcases List.mem_append.mp hq with hq | hq
            · exact recs_r z _ _ q hq
            · split at hq
              · rw [List.mem_singleton.mp hq];exact wrap_r _
              · cases hq
          have hnum:∀ n:Int,R64 n→((if (yZ z t tr).ver=1 then (4:Int) else 8)=4→R4 n)→numL (if (yZ z t tr).ver=1 then 4 else 8) (be (if (yZ z t tr).ver=1 then 4 else 8) n)=n:=by
            intro n hn h4
            by_cases hv:(yZ z t tr).ver=1
            · simp only [hv,if_true] at h4 ⊢
              exact num4 (h4 trivial)
            · simp only [hv,if_false]
              exact num8 hn
          have hfits:Fits (yZ z t tr) (if (yZ z t tr).ver=1 then 4 else 8) at':=
            ⟨fun q hq=>⟨hnum q.1 (htr.2 q hq) (f1 q hq),f2 q hq⟩,f3,f4,fun q hq=>⟨hnum q.1 (hlr q hq) (f5 q hq).1,(f5 q hq).2⟩⟩
          have c7e:=v7e (yZ z t tr) p at' hp hfits hok hnl (fun hv=>hv1 (by
            by_cases hh:t.has=true
            · exact absurd hv (by show (if t.has=true then (4:Int) else z.ver)≠1;rw [if_pos hh];decide)
            · have:(if t.has=true then (4:Int) else z.ver)=1:=hv
              rw [if_neg hh] at this
              exact this)) (by have:=hz.2.2.2.1;show z.foot.size≤_;omega) hyo c26y
          exact v3c b s h5 h t a z _ (yZ z t tr) c6 c7 c8 c7e hzo h1.1 h2 ht _ rfl
    · obtain ⟨_,c8,rfl⟩:=v8f s b t a c c6 hc
      rcases h7 with ⟨e,rfl,he⟩ | ⟨z,rfl,hz,c26,hnl,hv1⟩
      · exact v3b b s h5 h t a c e z0 a c c6 c7 c8 hc
      · exact v3b b s h5 h t a c 0 z a c c6 c7 c8 hc
  · exact v3a b s h5 h
end Go.Den
