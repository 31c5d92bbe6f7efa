import Derived.Test.YtblkhnacgnlbdaaGreatDoorEG
import Derived.Test.YtblkhnacgnlbdaaGreatDoorET0
import Derived.Test.YtblkhnacgnlbdaaGreatDoorEM5
import Derived.Test.YtblkhnacgnlbdaaGreatDoorEM6
import Derived.Test.YtblkhnacgnlbdaaGreatDoorEM7
import Derived.Test.YtblkhnacgnlbdaaGreatDoorEM8
set_option linter.all false
namespace Go.Den
set_option maxHeartbeats 4000000
open Go.Proofs
set_option linter.unusedSimpArgs false
set_option maxHeartbeats 1000000
def hdE (x:ByteArray × Int):V × V:=(.str x.1,i64 x.2)
def itE (k:Int):List V:=[i64 k]
theorem ba_eq {s a:ByteArray} (h:(s == a)=true):s=a:=by
  have h1:(s.data == a.data)=true:=h
  have h2:=eq_of_beq h1
  cases s;cases a;simpa using h2
theorem mget_h (s:ByteArray):∀ (h:List (ByteArray × Int)),(∃ k,mget (.str s) (h.map hdE)=some (some (i64 k))∧(s,k) ∈ h)∨(mget (.str s) (h.map hdE)=some none∧∀ k,mset (.str s) (i64 k) (h.map hdE)=some ((h++[(s,k)]).map hdE))
  | []=>.inr ⟨rfl,fun _=>rfl⟩
  | (a,k)::r=>by
    have e:mget (.str s) (((a,k)::r).map hdE)=bif s == a then some (some (i64 k)) else mget (.str s) (r.map hdE):=rfl
    have e':∀ j,mset (.str s) (i64 j) (((a,k)::r).map hdE)=bif s == a then some ((.str s,i64 j)::r.map hdE) else bnd (mset (.str s) (i64 j) (r.map hdE)) fun l=>some ((.str a,i64 k)::l):=fun _=>rfl
    cases hb:s == a with
    | true =>
      have:s=a:=ba_eq hb
      subst this
      exact .inl ⟨k,by rw [e,hb];rfl,by simp⟩
    | false =>
      rcases mget_h s r with ⟨j,h1,h2⟩ | ⟨h1,h2⟩
      · exact .inl ⟨j,by rw [e,hb];exact h1,by simp [h2]⟩
      · exact .inr ⟨by rw [e,hb];exact h1,fun j=>by rw [e',hb,h2];rfl⟩
theorem wp_mget_h {P:Nat→Option Fun} {n d:Nat} {y:Ys} {k:Ys→Prop} {m a:A} {t t' u:Nat} {h:List (ByteArray × Int)} {s:ByteArray} (e1:ev y [] m=some (.map (d,t,u))) (e2:alook y.l t u=some (.map (h.map hdE))) (e3:ev y [] a=some (.str s)) (h1:∀ j,(s,j) ∈ h→putK n y t' (.tup [i64 j,.bool true]) k) (h2:(∀ j,mset (.str s) (i64 j) (h.map hdE)=some ((h++[(s,j)]).map hdE))→putK n y t' (.tup [i64 0,.bool false]) k):WpO P n d (.mget t' true .str (i64 0) m a) y k:=by
  rcases mget_h s h with ⟨j,q1,q2⟩ | ⟨q1,q2⟩
  · exact wp_mget e1 e2 e3 rfl q1 (fun v e=>by cases e;exact h1 j q2) (fun e=>by cases e)
  · exact wp_mget e1 e2 e3 rfl q1 (fun v e=>by cases e) (fun _=>h2 q2)
theorem v180v (s:ByteArray) (hs:s.size≤1000000):∃ v,Val PT 180 [.str s] v∧∃ b,v=.bool b∧Val PT 180 [.str s] (.bool b)∧(b=true→3≤s.size∧s.size≤16∧0 ∉ tl s):=by
  obtain ⟨v,h1,b,rfl,h2⟩:=v180 s hs
  exact ⟨_,h1,b,rfl,h1,h2⟩
def PoolG (p:ByteArray) (s:ByteArray) (k:Int):Prop:=0≤k∧AtR (tl p) k.toNat (tl s)∧Val PT 180 [.str s] (.bool true)
theorem PoolG.app {p s:ByteArray} {k:Int} (q:ByteArray) (h:PoolG p s k):PoolG (p++q) s k:=⟨h.1,by rw [tl_app];exact h.2.1.app,h.2.2⟩
theorem PoolG.new {p s:ByteArray} (h0:0 ∉ tl s) (hv:Val PT 180 [.str s] (.bool true)):PoolG (p++(s++bs [0])) s (p.size:Int):=by
  refine ⟨by omega,?_,hv⟩
  rw [tl_app,tl_app]
  exact AtR.new h0
theorem ext_at {α β:Type} {l:List α} {a:List β} {k:Nat} {x:α} {j:β} {P:α→β→Prop} (h4:a.length=k) (hx:l[k]?=some x) (hold:∀ (i:Nat) s j,l[i]?=some s→a[i]?=some j→P s j) (hnew:P x j):∀ (i:Nat) s j',l[i]?=some s→(a++[j])[i]?=some j'→P s j':=by
  intro i s j' hs hj
  rcases Nat.lt_or_ge i a.length with h | h
  · rw [List.getElem?_append_left h] at hj
    exact hold i s j' hs hj
  · rw [List.getElem?_append_right h] at hj
    have:i - a.length=0:=by
      rcases Nat.eq_zero_or_pos (i - a.length) with h | h
      · exact h
      · rw [List.getElem?_eq_none (by simp;omega)] at hj;cases hj
    rw [this] at hj
    cases hj
    have:i=k:=by omega
    subst this
    rw [hx] at hs
    cases hs
    exact hnew
theorem v213 (l:List ByteArray) (hl:l.length≤1000) (hs:∀ s ∈ l,s.size≤1000000):∃ v,Val PT 213 [.sl 1 (l.map stE) .sh] v∧((∃ o,v=.tup [.str (bs []),.sl 1 [] o,.bool false])∨∃ (p:ByteArray) (at':List Int) (o:Own),v=.tup [.str p,.sl 1 (at'.map itE) o,.bool true]∧at'.length=l.length∧p.size≤256∧∀ (i:Nat) s k,l[i]?=some s→at'[i]?=some k→PoolG p s k):=by
  have hb1:(bs [0]).size=1:=rfl
  have hb0:(bs []).size=0:=rfl
  refine sv c213 fun Q hF=>?_
  repeat' first | refine ga ?_ | (refine so ?_;first | (refine wp_mkm ?_)) | refine gb ?_ | intro _ | refine gd ?_ ?_
  show WpL _ _ _ _
  refine wp_loop (n:=47) (fun m y=>∃ (k:Int) (p:ByteArray) (at':List Int) (o:Own) (es:List (List V)) (h:List (ByteArray × Int)) (hm:List (V × V)),(l.length - k≤m∧0≤k∧k≤l.length∧at'.length=k.toNat∧p.size≤17*k∧es=at'.map itE∧hm=h.map hdE∧(∀ s j,(s,j) ∈ h→PoolG p s j)∧∀ (i:Nat) s j,l[i]?=some s→at'[i]?=some j→PoolG p s j)∧(o=.uniq∨o=.tight∧at'=[])∧y=⟨[(2,[],.str p),(3,[],.sl 1 es o),(5,[],.map (0,10,0)),(11,[],.sl 1 (l.map stE) .sh),(12,[],i64 l.length),(13,[],i64 k)],[(10,0,.map hm)],fun _=>none,false⟩) (l.length) ?_ ?_
  · exact ⟨0,bs [],[],_,_,[],_,⟨by omega,by omega,by omega,rfl,by omega,rfl,rfl,by simp,by simp⟩,.inr ⟨rfl,rfl⟩,by rw [← List.length_map (f:=stE)];rfl⟩
  · rintro m _ ⟨k,p,at',o,es,h,hm,⟨h1,h2,h3,h4,h5,rfl,rfl,h6,h7⟩,h8,rfl⟩
    show wpC PT 47 _ c213_l0 _ _
    unfold c213_l0
    have hg:∀ {k:Nat} {b:ByteArray},l[k]?=some b→ByteArray.size b≤1000000:=fun h=>hs _ (List.mem_of_getElem? h)
    rcases h8 with rfl | ⟨rfl,rfl⟩<;>repeat' first | refine ga ?_ | (refine so ?_;first | (refine wp_call (v180v _ (hg (by assumption))) rfl rfl rfl rfl ?_;rintro _ ⟨b,rfl,hv,hb⟩<;>refine xq ?_) | (refine wp_mget_h rfl rfl rfl (fun jj hjj=>?_) (fun hms=>?_)) | (refine wp_mset rfl rfl rfl rfl rfl rfl rfl (hms _) ?_) | (refine rcat rfl rfl (by (try rw [ByteArray.size_append]);have:=hg (by assumption);omega) ?_)) | refine gb ?_ | intro _ | refine gd ?_ ?_
    · skip
      all_goals (subst hF;(repeat refine ge ?_);try dsimp only [RA])
      exact .inl ⟨_,rfl⟩
    · rename_i xv hx hbv
      have hbt:=Classical.not_not.mp hbv
      have hsz:=hb hbt
      rw [hbt] at hv
      exact ⟨m - 1,by omega,k+1,p,_++[jj],.uniq,_,h,_,⟨by omega,by omega,by omega,ol,by omega,List.map_append.symm,rfl,h6,ext_at h4 hx h7 (h6 _ _ hjj)⟩,.inl rfl,rfl⟩
    · rename_i xv hx hbv
      have hbt:=Classical.not_not.mp hbv
      have hsz:=hb hbt
      rw [hbt] at hv
      refine ⟨m - 1,by omega,k+1,p++(xv++bs [0]),_++[(p.size:Int)],.uniq,_,h++[(xv,(p.size:Int))],_,⟨by omega,by omega,by omega,ol,by rw [ByteArray.size_append,ByteArray.size_append];omega,List.map_append.symm,rfl,?_,ext_at h4 hx (fun i s j q1 q2=>(h7 i s j q1 q2).app _) (PoolG.new hsz.2.2 hv)⟩,.inl rfl,rfl⟩
      intro s j hsj
      rcases List.mem_append.mp hsj with q | q
      · exact (h6 s j q).app _
      · cases List.mem_singleton.mp q
        exact PoolG.new hsz.2.2 hv
    · skip
      all_goals (subst hF;(repeat refine ge ?_);try dsimp only [RA])
      exact .inl ⟨_,rfl⟩
    · skip
      all_goals (subst hF;(repeat refine ge ?_);try dsimp only [RA])
      refine .inr ⟨p,_,_,rfl,by omega,by omega,h7⟩
    · skip
      all_goals (subst hF;(repeat refine ge ?_);try dsimp only [RA])
      exact .inl ⟨_,rfl⟩
    · rename_i xv hx hbv
      have hbt:=Classical.not_not.mp hbv
      have hsz:=hb hbt
      rw [hbt] at hv
      have h4':(0:Nat)=k.toNat:=h4
      exact ⟨m - 1,by omega,k+1,p,_++[jj],.uniq,_,h,_,⟨by omega,by omega,by omega,ol,by omega,List.map_append.symm,rfl,h6,ext_at h4 hx h7 (h6 _ _ hjj)⟩,.inl rfl,rfl⟩
    · rename_i xv hx hbv
      have hbt:=Classical.not_not.mp hbv
      have hsz:=hb hbt
      rw [hbt] at hv
      have h4':(0:Nat)=k.toNat:=h4
      refine ⟨m - 1,by omega,k+1,p++(xv++bs [0]),_++[(p.size:Int)],.uniq,_,h++[(xv,(p.size:Int))],_,⟨by omega,by omega,by omega,ol,by rw [ByteArray.size_append,ByteArray.size_append];omega,List.map_append.symm,rfl,?_,ext_at h4 hx (fun i s j q1 q2=>(h7 i s j q1 q2).app _) (PoolG.new hsz.2.2 hv)⟩,.inl rfl,rfl⟩
      intro s j hsj
      rcases List.mem_append.mp hsj with q | q
      · exact (h6 s j q).app _
      · cases List.mem_singleton.mp q
        exact PoolG.new hsz.2.2 hv
    · skip
      all_goals (subst hF;(repeat refine ge ?_);try dsimp only [RA])
      exact .inl ⟨_,rfl⟩
    · skip
      all_goals (subst hF;(repeat refine ge ?_);try dsimp only [RA])
      have h4':(0:Nat)=k.toNat:=h4
      exact .inr ⟨p,[],_,rfl,ol,by omega,h7⟩
def pdR (z:Zn) (p:ByteArray) (at':List Int):Prop:=at'.length=z.types.length∧p.size≤256∧∀ (i:Nat) t k,z.types[i]?=some t→at'[i]?=some k→PoolG p t.2.2 k
theorem take_step {α:Type} {l:List α} {k:Int} {x:α} (hk:0≤k) (h:l[k.toNat]?=some x):l.take (k+1).toNat=l.take k.toNat++[x]:=by
  have e:(k+1).toNat=k.toNat+1:=by omega
  obtain ⟨hl,rfl⟩:=List.getElem?_eq_some_iff.mp h
  rw [e,List.take_succ_eq_append_getElem hl]
theorem v135 (z:Zn) (hl:z.types.length≤1000) (hs:∀ t ∈ z.types,t.2.2.size≤1000000):∃ v,Val PT 135 [z.v] v∧((∃ o,v=.tup [.str (bs []),.sl 1 [] o,.bool false])∨∃ (p:ByteArray) (at':List Int) (o:Own),v=.tup [.str p,.sl 1 (at'.map itE) o,.bool true]∧pdR z p at'):=by
  have hsz:∀ (n:Nat),∀ s ∈ (z.types.take n).map (·.2.2),ByteArray.size s≤1000000:=by
    intro n s h
    obtain ⟨t,h1,rfl⟩:=List.mem_map.mp h
    exact hs t (List.mem_of_mem_take h1)
  have hle:∀ (n:Nat),((z.types.take n).map (·.2.2)).length≤1000:=fun n=>by rw [List.length_map,List.length_take];omega
  refine sv c135 fun Q hF=>?_
  repeat' first | refine ga ?_ | refine gb ?_ | intro _ | refine gd ?_ ?_
  show WpL _ _ _ _
  refine wp_loop (n:=26) (fun m y=>∃ (k:Int) (o:Own) (es:List (List V)),(z.types.length - k≤m∧0≤k∧k≤z.types.length∧es=((z.types.take k.toNat).map (·.2.2)).map stE)∧(o=.uniq∨o=.tight∧k=0)∧y=⟨[(5,[],.sl 1 es o),(9,[],.sl 3 (z.types.map tyV) .sh),(10,[],i64 z.types.length),(11,[],i64 k)],[(1,0,.cells 5 [z.l])],fun _=>none,false⟩) (z.types.length) ?_ ?_
  · exact ⟨0,_,_,⟨by omega,by omega,by omega,rfl⟩,.inr ⟨rfl,rfl⟩,by rw [← List.length_map (f:=tyV)];rfl⟩
  · rintro m _ ⟨k,o,es,⟨h1,h2,h3,rfl⟩,h8,rfl⟩
    show wpC PT 26 _ c135_l0 _ _
    unfold c135_l0
    have fin1:∀ (p:ByteArray) (at':List Int),¬k < z.types.length→at'.length=((z.types.take k.toNat).map (·.2.2)).length→p.size≤256→(∀ (i:Nat) s j,((z.types.take k.toNat).map (·.2.2))[i]?=some s→at'[i]?=some j→PoolG p s j)→pdR z p at':=by
      intro p at' hk q1 q2 q3
      rw [List.take_of_length_le (by omega)] at q1 q3
      refine ⟨by rw [q1,List.length_map],q2,fun i t j h5 h6=>q3 i t.2.2 j (by rw [List.getElem?_map,h5];rfl) h6⟩
    rcases h8 with rfl | ⟨rfl,rfl⟩<;>repeat' first | refine ga ?_ | (refine so ?_;first | (refine wp_call (v213 _ (hle _) (hsz _)) rfl rfl rfl rfl ?_;rintro _ (⟨o,rfl⟩ | ⟨p,at',o,rfl,q1,q2,q3⟩)<;>refine xq ?_)) | refine gb ?_ | intro _ | refine gd ?_ ?_
    · rename_i hx
      exact ⟨m - 1,by omega,k+1,.uniq,_,⟨by omega,by omega,by omega,by rw [take_step h2 hx,List.map_append,List.map_append];rfl⟩,.inl rfl,rfl⟩
    · skip
      all_goals (subst hF;(repeat refine ge ?_);try dsimp only [RA])
      exact .inl ⟨_,rfl⟩
    · skip
      all_goals (subst hF;(repeat refine ge ?_);try dsimp only [RA])
      exact .inr ⟨p,at',_,rfl,fin1 p at' (by assumption) q1 q2 q3⟩
    · rename_i hx
      exact ⟨m - 1,by omega,0+1,.uniq,_,⟨by omega,by omega,by omega,by rw [take_step h2 hx,List.map_append,List.map_append];rfl⟩,.inl rfl,rfl⟩
    · skip
      all_goals (subst hF;(repeat refine ge ?_);try dsimp only [RA])
      exact .inl ⟨_,rfl⟩
    · skip
      all_goals (subst hF;(repeat refine ge ?_);try dsimp only [RA])
      exact .inr ⟨p,at',_,rfl,fin1 p at' (by assumption) q1 q2 q3⟩
def cntH (z:Zn) (p:ByteArray):Hd:=⟨z.ver,0,0,z.leaps.length,z.trans.length,z.types.length,p.size⟩
theorem v60 (z:Zn) (hl:z.types.length≤1000) (hs:∀ t ∈ z.types,t.2.2.size≤1000000):∃ v,Val PT 60 [z.v] v∧((∃ h,v=.tup [.agg (Hd.l h),.bool false])∨∃ (p:ByteArray) (at':List Int) (o:Own),Val PT 135 [z.v] (.tup [.str p,.sl 1 (at'.map itE) o,.bool true])∧pdR z p at'∧(cntH z p).ok∧v=.tup [.agg (cntH z p).l,.bool true]):=by
  obtain ⟨w,hw,hw2⟩:=v135 z hl hs
  rcases hw2 with ⟨o,rfl⟩ | ⟨p,at',o,rfl,hp⟩
  · refine sv c60 fun Q hF=>?_
    repeat' first | refine ga ?_ | (refine so ?_;first | refine cr ((⟨_,hw,rfl⟩:∃ v,Val PT 135 [z.v] v∧v=_)) rfl rfl rfl rfl rfl ?_ | (refine rgc rfl (v136 _ _ _ _ _ _ _) rfl rfl rfl rfl rfl ?_;rintro _ rfl<;>refine xq ?_)) | refine gb ?_ | intro _ | refine gd ?_ ?_
    all_goals (subst hF;(repeat refine ge ?_);try dsimp only [RA])
    exact .inl ⟨hd0,rfl⟩
  · refine sv c60 fun Q hF=>?_
    repeat' first | refine ga ?_ | (refine so ?_;first | refine cr ((⟨_,hw,rfl⟩:∃ v,Val PT 135 [z.v] v∧v=_)) rfl rfl rfl rfl rfl ?_ | (refine rgc rfl (v136 _ _ _ _ _ _ _) rfl rfl rfl rfl rfl ?_;rintro _ rfl<;>refine xq ?_)) | refine gb ?_ | intro _ | refine gd ?_ ?_
    all_goals (subst hF;(repeat refine ge ?_);try dsimp only [RA])
    · exact .inl ⟨hd0,rfl⟩
    · rename_i h
      simp only [List.length_map] at h
      refine .inr ⟨p,at',o,hw,hp,?_,by simp only [List.length_map];rfl⟩
      unfold Hd.ok cntH
      dsimp only
      simp only [not_or,Classical.not_not] at h
      omega
end Go.Den
