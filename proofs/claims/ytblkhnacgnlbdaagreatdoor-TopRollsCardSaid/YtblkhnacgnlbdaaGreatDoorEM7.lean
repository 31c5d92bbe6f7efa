import Derived.Test.YtblkhnacgnlbdaaGreatDoorEG
import Derived.Test.YtblkhnacgnlbdaaGreatDoorET0
import Derived.Test.YtblkhnacgnlbdaaGreatDoorEM2
import Derived.Test.YtblkhnacgnlbdaaGreatDoorEM5
set_option linter.all false
namespace Go.Den
set_option maxHeartbeats 4000000
open Go.Proofs
set_option linter.unusedSimpArgs false
set_option maxHeartbeats 1000000
structure Hd where
  ver:Int
  ut:Int
  std:Int
  leap:Int
  time:Int
  type:Int
  char:Int
def Hd.l (h:Hd):List V:=[i64 h.ver,i64 h.ut,i64 h.std,i64 h.leap,i64 h.time,i64 h.type,i64 h.char]
def Hd.ok (h:Hd):Prop:=(1≤h.ver∧h.ver≤4)∧(h.ut=0∨h.ut=h.type)∧(h.std=0∨h.std=h.type)∧(0≤h.leap∧h.leap≤201)∧(0≤h.time∧h.time≤2000)∧(1≤h.type∧h.type≤64)∧(1≤h.char∧h.char≤256)
instance (h:Hd):Decidable h.ok:=by unfold Hd.ok;infer_instance
def hd0:Hd:=⟨0,0,0,0,0,0,0⟩
def Hd.size (h:Hd) (z:Int):Int:=h.time*(z+1)+h.type*6+h.char+h.leap*(z+4)+h.std+h.ut
theorem v136h (h:Hd):∃ v,Val PT 136 [.agg h.l] v∧v=.bool (decide h.ok):=v136 _ _ _ _ _ _ _
theorem v125 (h:Hd) (z:Int) (hz:z=4∨z=8):∃ v,Val PT 125 [.agg h.l,i64 z] v∧v=i64 (if h.ok then h.size z else 0):=by
  refine sv c125 fun Q hF=>?_
  repeat' first | refine ga ?_ | (refine so ?_;first | refine cr (v136h h) rfl rfl rfl rfl rfl ?_) | refine gb ?_ | intro _ | refine gd ?_ ?_
  · skip
    all_goals (subst hF;(repeat refine ge ?_);try dsimp only [RA])
    rename_i h
    rw [if_neg h]
  · exfalso;rename_i h1 h2;exact h2 h1
  · exfalso;omega
  · skip
    all_goals (subst hF;(repeat refine ge ?_);try dsimp only [RA])
    rename_i h _
    have h:=Classical.not_not.mp h
    rw [if_pos h]
    unfold Hd.ok at h
    unfold Hd.size
    obtain ⟨_,_,_,hl1,ht1,hy1,hc1⟩:=h
    rcases hz with rfl | rfl<;>(simp (disch:=omega) only [wr];rfl)
def Hd.bytes (h:Hd):List UInt8:=[84,90,105,102]++[if h.ver > 1 then UInt8.ofNat (48+h.ver).toNat else 0]++List.replicate 15 0++be 4 h.ut++be 4 h.std++be 4 h.leap++be 4 h.time++be 4 h.type++be 4 h.char
def nx (z:Int) (r:Option (List UInt8)):Int:=numL z.toNat (tkV z r)
def rdHd (b:List UInt8):Option Hd:=
  let r0:=tkR 4 (some b)
  let r1:=tkR 1 r0
  let r2:=tkR 15 r1
  let r3:=tkR 4 r2
  let r4:=tkR 4 r3
  let r5:=tkR 4 r4
  let r6:=tkR 4 r5
  let r7:=tkR 4 r6
  let r8:=tkR 4 r7
  let a:=nx 1 r0
  let h:Hd:=⟨if a=0 then 1 else if 50≤a∧a≤52 then a - 48 else 0,nx 4 r2,nx 4 r3,nx 4 r4,nx 4 r5,nx 4 r6,nx 4 r7⟩
  if r8.isSome=true∧tkV 4 (some b)=[84,90,105,102]∧(tkV 15 r1).any (fun c=>(c.toNat:Int) != 0)=false∧h.ok then some h else none
theorem tkR_len (z:Int) (r:Option (List UInt8)) (hl:∀ l,r=some l→l.length≤1000000):∀ l,tkR z r=some l→l.length≤1000000:=by
  intro l h
  rcases r with _ | l0
  · cases h
  · have:=hl l0 rfl
    unfold tkR at h
    simp only at h
    split at h
    · cases h;simp;omega
    · cases h
theorem v124 (b:List UInt8) (hb:b.length≤1000000):∃ v,Val PT 124 [.sl 1 (u8l b) .sh] v∧v=match rdHd b with
    | some h=>.tup [.agg h.l,.bool true]
    | none=>.tup [.agg hd0.l,.bool false]:=by
  have l0:∀ l,some b=some l→l.length≤1000000:=by rintro _ ⟨⟩;exact hb
  have l1:=tkR_len 4 _ l0
  have l2:=tkR_len 1 _ l1
  have l3:=tkR_len 15 _ l2
  have l4:=tkR_len 4 _ l3
  have l5:=tkR_len 4 _ l4
  have l6:=tkR_len 4 _ l5
  have l7:=tkR_len 4 _ l6
  have l8:=tkR_len 4 _ l7
  refine sv c124 fun Q hF=>?_
  repeat' first | refine ga ?_ | (refine so ?_;first | (refine wp_callB (v126 b hb) rfl rfl rfl rfl ?_;rintro _ rfl) | (refine wp_callL (v129 _ _ (by decide) (some b) _ l0) rfl rfl rfl rfl rfl rfl ?_;rintro _ _ ⟨rfl,rfl⟩<;>refine xq (fun _ _=>?_)) | (refine wp_callL (v129 _ _ (by decide) _ _ (by assumption)) rfl rfl rfl rfl rfl rfl ?_;rintro _ _ ⟨rfl,rfl⟩<;>refine xq (fun _ _=>?_)) | (refine wp_callL (v127 _ _ (by decide) _ _ (by decide) (by assumption)) rfl rfl rfl rfl rfl rfl ?_;rintro _ _ ⟨rfl,rfl⟩<;>refine xq (fun _ _=>?_)) | refine cr (v204 _) rfl rfl rfl rfl rfl ?_ | (refine wp_lito rfl ?_)) | refine gb ?_ | intro _ | refine gd ?_ ?_
  (show WpL _ _ _ _;refine wp_unroll ?_;show WpB _ _ _ _ _ _;refine WpB.of c124_l0.eq_1 ?_)
  repeat' first | refine ga ?_ | (refine so ?_;first | (refine wp_callL (v127 _ _ (by decide) _ _ (by decide) (by assumption)) rfl rfl rfl rfl rfl rfl ?_;rintro _ _ ⟨rfl,rfl⟩<;>refine xq (fun _ _=>?_))) | refine gb ?_ | intro _ | refine gd ?_ ?_
  (show WpL _ _ _ _;refine wp_unroll ?_;show WpB _ _ _ _ _ _;refine WpB.of c124_l0.eq_1 ?_)
  repeat' first | refine ga ?_ | (refine so ?_;first | (refine wp_callL (v127 _ _ (by decide) _ _ (by decide) (by assumption)) rfl rfl rfl rfl rfl rfl ?_;rintro _ _ ⟨rfl,rfl⟩<;>refine xq (fun _ _=>?_))) | refine gb ?_ | intro _ | refine gd ?_ ?_
  (show WpL _ _ _ _;refine wp_unroll ?_;show WpB _ _ _ _ _ _;refine WpB.of c124_l0.eq_1 ?_)
  repeat' first | refine ga ?_ | (refine so ?_;first | (refine wp_callL (v127 _ _ (by decide) _ _ (by decide) (by assumption)) rfl rfl rfl rfl rfl rfl ?_;rintro _ _ ⟨rfl,rfl⟩<;>refine xq (fun _ _=>?_))) | refine gb ?_ | intro _ | refine gd ?_ ?_
  (show WpL _ _ _ _;refine wp_unroll ?_;show WpB _ _ _ _ _ _;refine WpB.of c124_l0.eq_1 ?_)
  repeat' first | refine ga ?_ | (refine so ?_;first | (refine wp_callL (v127 _ _ (by decide) _ _ (by decide) (by assumption)) rfl rfl rfl rfl rfl rfl ?_;rintro _ _ ⟨rfl,rfl⟩<;>refine xq (fun _ _=>?_))) | refine gb ?_ | intro _ | refine gd ?_ ?_
  (show WpL _ _ _ _;refine wp_unroll ?_;show WpB _ _ _ _ _ _;refine WpB.of c124_l0.eq_1 ?_)
  repeat' first | refine ga ?_ | (refine so ?_;first | (refine wp_callL (v127 _ _ (by decide) _ _ (by decide) (by assumption)) rfl rfl rfl rfl rfl rfl ?_;rintro _ _ ⟨rfl,rfl⟩<;>refine xq (fun _ _=>?_))) | refine gb ?_ | intro _ | refine gd ?_ ?_
  (show WpL _ _ _ _;refine wp_unroll ?_;show WpB _ _ _ _ _ _;refine WpB.of c124_l0.eq_1 ?_)
  repeat' first | refine ga ?_ | (refine so ?_;first | (refine wp_callL (v127 _ _ (by decide) _ _ (by decide) (by assumption)) rfl rfl rfl rfl rfl rfl ?_;rintro _ _ ⟨rfl,rfl⟩<;>refine xq (fun _ _=>?_))) | refine gb ?_ | intro _ | refine gd ?_ ?_
  (show WpL _ _ _ _;refine wp_unroll ?_;show WpB _ _ _ _ _ _;refine WpB.of c124_l0.eq_1 ?_)
  repeat' first | refine ga ?_ | (refine so ?_;first | (refine wp_callL (v127 _ _ (by decide) _ _ (by decide) (by assumption)) rfl rfl rfl rfl rfl rfl ?_;rintro _ _ ⟨rfl,rfl⟩<;>refine xq (fun _ _=>?_))) | refine gb ?_ | intro _ | refine gd ?_ ?_
  repeat' first | refine ga ?_ | (refine so ?_;first | (refine wp_callL (v206 _ _ (by decide) _) rfl rfl rfl rfl rfl rfl ?_;rintro _ _ ⟨rfl,rfl⟩<;>refine xq (fun _ _=>?_)) | (refine rgc rfl (v207 _ 205 (fun n=>n != 0) v205 (tkV_len 15 _ (by assumption))) rfl rfl rfl rfl rfl ?_;rintro _ rfl<;>refine xq ?_) | (refine rgc rfl (v136 _ _ _ _ _ _ _) rfl rfl rfl rfl rfl ?_;rintro _ rfl<;>refine xq ?_)) | refine gb ?_ | intro _ | refine gd ?_ ?_
  all_goals try show WpO _ _ _ _ _ _
  all_goals (subst hF;(repeat refine ge ?_);try dsimp only [RA])
  · rename_i h
    have e:rdHd b=none:=by
      unfold rdHd
      dsimp only
      rw [if_neg]
      rintro ⟨c1,c2,c3,c4⟩
      rcases h with ((h | h) | h) | h
      · exact h c1
      · exact h (by rw [c2];rfl)
      · rw [c3] at h;cases h
      · exact h c4
    rw [e]
    rfl
  · rename_i h
    simp only [not_or,Classical.not_not] at h
    obtain ⟨⟨⟨c1,c2⟩,c3⟩,c4⟩:=h
    have c5:tkV 4 (some b)=[84,90,105,102]:=by
      have:=congrArg tl c2
      rw [tl_mk] at this
      exact this
    rw [show rdHd b=some _ from if_pos ⟨c1,c5,by simpa using c3,c4⟩]
    rfl
theorem v124n (b:List UInt8) (hb:b.length≤1000000) (h:rdHd b=none):∃ v,Val PT 124 [.sl 1 (u8l b) .sh] v∧v=.tup [.agg hd0.l,.bool false]:=by
  obtain ⟨v,h1,h2⟩:=v124 b hb
  rw [h] at h2
  exact ⟨v,h1,h2⟩
theorem v124s (b:List UInt8) (hb:b.length≤1000000) (hh:Hd) (h:rdHd b=some hh):∃ v,Val PT 124 [.sl 1 (u8l b) .sh] v∧v=.tup [.agg hh.l,.bool true]:=by
  obtain ⟨v,h1,h2⟩:=v124 b hb
  rw [h] at h2
  exact ⟨v,h1,h2⟩
theorem tkR_tot {n:Nat} {B:Nat} (z:Int) (r:Option (List UInt8)) (hz:0≤z) (hr:∀ l,r=some l→l.length+n=B):∀ l,tkR z r=some l→l.length+(n+z.toNat)=B:=by
  intro l hl
  rcases r with _ | l0
  · cases hl
  · have:=hr l0 rfl
    unfold tkR at hl
    simp only at hl
    split at hl
    · cases hl;simp;omega
    · cases hl
theorem rdHd_len {b:List UInt8} {h:Hd} (e:rdHd b=some h):44≤b.length∧h.ok:=by
  simp only [rdHd,Option.ite_none_right_eq_some] at e
  obtain ⟨hc,e⟩:=e
  cases e
  refine ⟨?_,hc.2.2.2⟩
  have k0:∀ l,some b=some l→l.length+0=b.length:=by rintro _ ⟨⟩;rfl
  have k9:=tkR_tot 4 _ (by decide) (tkR_tot 4 _ (by decide) (tkR_tot 4 _ (by decide) (tkR_tot 4 _ (by decide) (tkR_tot 4 _ (by decide) (tkR_tot 4 _ (by decide) (tkR_tot 15 _ (by decide) (tkR_tot 1 _ (by decide) (tkR_tot 4 _ (by decide) k0))))))))
  obtain ⟨l,hl9⟩:=Option.isSome_iff_exists.mp hc.1
  have:=k9 l hl9
  simp at this
  omega
def cutF (b:List UInt8) (z:Int):Option (Hd × List UInt8 × List UInt8):=
  match rdHd b with
  | none=>none
  | some h =>
    let n:=h.size (if h.ver=1 then 4 else z)
    if n≤(b.drop 44).length then some (h,(b.drop 44).take n.toNat,(b.drop 44).drop n.toNat) else none
theorem v57 (b:List UInt8) (z:Int) (hz:z=4∨z=8) (hb:b.length≤1000000):∃ v,Val PT 57 [.sl 1 (u8l b) .sh,i64 z] v∧((∃ h:Hd,cutF b z=none∧v=.tup [.agg (Hd.l h),.sl 1 [] .sh,.sl 1 [] .sh,.bool false])∨∃ h d r,cutF b z=some (h,d,r)∧v=.tup [.agg (Hd.l h),.sl 1 (u8l d) .sh,.sl 1 (u8l r) .sh,.bool true]):=by
  rcases e:rdHd b with _ | hh
  · refine sv c57 fun Q hF=>?_
    repeat' first | refine ga ?_ | (refine so ?_;first | refine cr (v124n b hb e) rfl rfl rfl rfl rfl ?_) | refine gb ?_ | intro _ | refine gd ?_ ?_
    all_goals (subst hF;(repeat refine ge ?_);try dsimp only [RA])
    exact .inl ⟨hd0,by unfold cutF;rw [e],rfl⟩
  · obtain ⟨hlen,hok⟩:=rdHd_len e
    have hs:∀ z,z=4∨z=8→0≤hh.size z∧hh.size z≤100000:=by
      unfold Hd.ok at hok
      obtain ⟨_,_,_,hl1,ht1,hy1,hc1⟩:=hok
      intro z hz
      unfold Hd.size
      rcases hz with rfl | rfl<;>omega
    have h5:∀ z,z=4∨z=8→∃ v,Val PT 125 [.agg hh.l,i64 z] v∧v=i64 (hh.size z):=fun z hz=>by
      obtain ⟨v,h1,h2⟩:=v125 hh z hz
      rw [if_pos hok] at h2
      exact ⟨v,h1,h2⟩
    have hs4:=hs 4 (.inl rfl)
    have hsz:=hs z hz
    have e1:((u8l b).drop (Int.toNat 44)).length=b.length - 44:=by rw [List.length_drop,u8l_len];rfl
    have e2:(b.drop 44).length=b.length - 44:=by rw [List.length_drop]
    refine sv c57 fun Q hF=>?_
    repeat' first | refine ga ?_ | (refine so ?_;first | refine cr (v124s b hb hh e) rfl rfl rfl rfl rfl ?_ | refine cr (h5 4 (.inl rfl)) rfl rfl rfl rfl rfl ?_ | refine cr (h5 z hz) rfl rfl rfl rfl rfl ?_) | refine gb ?_ | intro _ | refine gd ?_ ?_
    all_goals (subst hF;(repeat refine ge ?_);try dsimp only [RA])
    · rename_i hv hn
      rw [e1] at hn
      refine .inl ⟨hh,?_,rfl⟩
      unfold cutF
      rw [e]
      simp only [hv,if_true]
      exact if_neg (by rw [e2];omega)
    · rename_i hv hn
      rw [e1] at hn
      refine .inr ⟨hh,(b.drop 44).take (hh.size 4).toNat,(b.drop 44).drop (hh.size 4).toNat,?_,?_⟩
      rotate_left
      · rw [u8l_drop,u8l_take,u8l_drop];rfl
      · unfold cutF
        rw [e]
        simp only [hv,if_true]
        exact if_pos (by rw [e2];omega)
    · rename_i hv hn
      rw [e1] at hn
      refine .inl ⟨hh,?_,rfl⟩
      unfold cutF
      rw [e]
      simp only [hv,if_false]
      exact if_neg (by rw [e2];omega)
    · rename_i hv hn
      rw [e1] at hn
      refine .inr ⟨hh,(b.drop 44).take (hh.size z).toNat,(b.drop 44).drop (hh.size z).toNat,?_,?_⟩
      rotate_left
      · rw [u8l_drop,u8l_take,u8l_drop];rfl
      · unfold cutF
        rw [e]
        simp only [hv,if_false]
        exact if_pos (by rw [e2];omega)
theorem v64 (k a:Int) (b:Bool) (s:ByteArray):∃ v,Val PT 64 [i64 k,.agg [i64 a,.bool b,.str s]] v∧v=.bool (decide (-89999≤a∧a≤93599)):=by
  refine sv c64 fun Q hF=>?_
  repeat' first | refine ga ?_ | refine gb ?_ | intro _ | refine gd ?_ ?_
  all_goals (subst hF;(repeat refine ge ?_);try dsimp only [RA])
  congr 1
  rw [Bool.eq_iff_iff]
  simp
theorem v63 (l:List (Int × Bool × ByteArray)) (hl:l.length≤1000000):∃ v,Val PT 63 [.sl 3 (l.map tyV) .sh,.fn 64 [] []] v∧∃ t,v=.bool t:=by
  refine sv c63 fun Q hF=>?_
  repeat' first | refine ga ?_ | refine gb ?_ | intro _ | refine gd ?_ ?_
  show WpL _ _ _ _
  refine wp_loop (n:=20) (fun m y=>∃ (k:Int),(l.length - k≤m∧0≤k∧k≤l.length)∧y=⟨[(1,[],.fn 64 [] []),(7,[],.sl 3 (l.map tyV) .sh),(8,[],i64 l.length),(9,[],i64 k)],[],fun _=>none,false⟩) (l.length) ?_ ?_
  · exact ⟨0,⟨by omega,by omega,by omega⟩,by rw [← List.length_map (f:=tyV)];rfl⟩
  · rintro m _ ⟨k,⟨h1,h2,h3⟩,rfl⟩
    show wpC PT 20 _ c63_l0 _ _
    unfold c63_l0
    repeat' first | refine ga ?_ | (refine so ?_;first | refine cr (v64 _ _ _ _) rfl rfl rfl rfl rfl ?_) | refine gb ?_ | intro _ | refine gd ?_ ?_
    all_goals try exact ⟨m - 1,by omega,k+1,⟨by omega,by omega,by omega⟩,rfl⟩
    all_goals (subst hF;(repeat refine ge ?_);try dsimp only [RA])
    all_goals exact ⟨_,rfl⟩
end Go.Den
