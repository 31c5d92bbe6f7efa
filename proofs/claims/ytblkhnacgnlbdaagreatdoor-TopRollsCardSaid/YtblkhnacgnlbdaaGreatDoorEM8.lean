import Derived.Test.YtblkhnacgnlbdaaGreatDoorEG
import Derived.Test.YtblkhnacgnlbdaaGreatDoorET0
import Derived.Test.YtblkhnacgnlbdaaGreatDoorEM6
set_option linter.all false
namespace Go.Den
set_option maxHeartbeats 4000000
open Go.Proofs
set_option linter.unusedSimpArgs false
set_option maxHeartbeats 1000000
theorem v66 (z:Zn) (k a b:Int) (g:Frm) (hg:g (0,1,0)=some (.cells 5 [z.l])) (hk:0≤k∧k < z.trans.length) (hl:z.trans.length≤1000000):Reads PT 66 2 [i64 k,.agg [i64 a,i64 b],.ptr (0,1,0) 0 0] g (fun v=>∃ c,v=.bool c∧(c=true→0≤b∧b < z.types.length)):=by
  obtain ⟨g0,rfl⟩:∃ g0,g=upd g0 (0,1,0) (.cells 5 [z.l]):=⟨g,upd_same hg⟩
  refine reads_of ?_
  refine sA c66 fun Q hF=>?_
  repeat' first | refine ga ?_ | refine gb ?_ | intro _ | refine gd ?_ ?_
  all_goals (subst hF;(repeat refine ge ?_);try dsimp only [RA])
  refine ⟨rfl,rfl,_,rfl,fun h=>?_⟩
  have h:=Bp.iff.mp h
  rw [List.length_map] at h
  omega
theorem v65 (z:Zn) (g:Frm) (hg:g (0,1,0)=some (.cells 5 [z.l])) (hl:z.trans.length≤1000000):Reads PT 65 1 [.sl 2 (z.trans.map prV) .sh,.fn 66 [] [.ptr (0,1,0) 0 0]] g (fun v=>∃ c,v=.bool c∧(c=true→∀ x ∈ z.trans,0≤x.2∧x.2 < z.types.length)):=by
  refine reads_of ?_
  refine sA c65 fun Q hF=>?_
  repeat' first | refine ga ?_ | refine gb ?_ | intro _ | refine gd ?_ ?_
  show WpL _ _ _ _
  refine wp_loop (n:=20) (fun m y=>∃ (k:Int),(z.trans.length - k≤m∧0≤k∧k≤z.trans.length∧∀ (j:Nat) x,(j:Int) < k→z.trans[j]?=some x→0≤x.2∧x.2 < z.types.length)∧y=⟨[(1,[],.fn 66 [] [.ptr (0,1,0) 0 0]),(7,[],.sl 2 (z.trans.map prV) .sh),(8,[],i64 z.trans.length),(9,[],i64 k)],[],g,false⟩) (z.trans.length) ?_ ?_
  · exact ⟨0,⟨by omega,by omega,by omega,fun j x h=>by omega⟩,by rw [← List.length_map (f:=prV)];rfl⟩
  · rintro m _ ⟨k,⟨h1,h2,h3,h4⟩,rfl⟩
    show wpC PT 20 _ c65_l0 _ _
    unfold c65_l0
    repeat' first | refine ga ?_ | (refine so ?_;first | (refine wp_callR (v66 z k _ _ _ ((merge_out (by decide)).trans hg) (by omega) hl) rfl rfl rfl rfl ?_;rintro _ ⟨c,rfl,hc⟩<;>refine xq ?_)) | refine gb ?_ | intro _ | refine gd ?_ ?_
    all_goals try (
      rename_i xv hx hcv
      refine ⟨m - 1,by omega,k+1,⟨by omega,by omega,by omega,fun j x hj hjx=>?_⟩,rfl⟩
      rcases Int.lt_or_le j k with h | h
      · exact h4 j x h hjx
      · have:j=k.toNat:=by omega
        subst this
        rw [hx] at hjx
        cases hjx
        exact hc (Classical.not_not.mp hcv))
    all_goals (subst hF;(repeat refine ge ?_);try dsimp only [RA])
    · exact ⟨rfl,rfl,false,rfl,fun h=>by cases h⟩
    · refine ⟨rfl,rfl,true,rfl,fun _ x hx=>?_⟩
      obtain ⟨j,hj⟩:=List.mem_iff_getElem?.mp hx
      have hjl:j < z.trans.length:=by
        rcases Nat.lt_or_ge j z.trans.length with h | h
        · exact h
        · rw [List.getElem?_eq_none h] at hj;cases hj
      exact h4 j x (by omega) hj
theorem mid (i j:Int) (h:0≤i∧i≤j∧j≤1000000):IntKind.i64.wrap ((IntKind.u64.wrap (i+j)).fdiv (2 ^ min (1:Int).toNat IntKind.u64.bits))=(i+j) / 2:=by
  have e1:min (1:Int).toNat IntKind.u64.bits=1:=rfl
  have e2:IntKind.u64.wrap (i+j)=(i+j) % 18446744073709551616:=rfl
  rw [e1,e2,Int.fdiv_eq_ediv_of_nonneg _ (by decide),wrap64]
  simp only [Int.pow_one,show (2:Int) ^ 1=2 from rfl]
  split<;>omega
theorem v71 (n:Int) (f:Nat) (o1 o2:Obj) (hc:∀ i g,0≤i→i < n→g (0,2,0)=some o1→g (0,3,0)=some o2→Reads PT f 2 [i64 i,.ptr (0,2,0) 0 0,.ptr (0,3,0) 0 0] g (fun v=>∃ b,v=.bool b)) (hn:0≤n∧n≤1000000) (g:Frm) (h1:g (0,2,0)=some o1) (h2:g (0,3,0)=some o2):Reads PT 71 1 [i64 n,.fn f [] [.ptr (0,2,0) 0 0,.ptr (0,3,0) 0 0]] g (fun v=>∃ j,v=i64 j∧0≤j∧j≤n):=by
  refine reads_of ?_
  refine sA c71 fun Q hF=>?_
  repeat' first | refine ga ?_ | refine gb ?_ | intro _ | refine gd ?_ ?_
  show WpL _ _ _ _
  refine wp_loop (n:=26) (fun m y=>∃ (i j:Int),(j - i≤m∧0≤i∧i≤j∧j≤n)∧y=⟨[(1,[],.fn f [] [.ptr (0,2,0) 0 0,.ptr (0,3,0) 0 0]),(5,[],i64 i),(6,[],i64 j)],[],g,false⟩) (n.toNat) ?_ ?_
  · exact ⟨0,n,⟨by omega,by omega,by omega,by omega⟩,rfl⟩
  · rintro m _ ⟨i,j,⟨h3,h4,h5,h6⟩,rfl⟩
    show wpC PT 26 _ c71_l0 _ _
    unfold c71_l0
    have hm:=mid i j ⟨h4,h5,by omega⟩
    repeat' first | refine ga ?_ | (refine so ?_;first | (refine wp_callR (hc _ _ (by rw [hm];omega) (by rw [hm];omega) ((merge_out (by decide)).trans h1) ((merge_out (by decide)).trans h2)) rfl rfl rfl rfl ?_;rintro _ ⟨b,rfl⟩<;>refine xq ?_)) | refine gb ?_ | intro _ | refine gd ?_ ?_
    · exact ⟨m - 1,by omega,_,_,⟨by rw [hm];omega,by rw [hm];omega,by rw [hm];omega,h6⟩,rfl⟩
    · exact ⟨m - 1,by omega,_,_,⟨by rw [hm];omega,h4,by rw [hm];omega,by rw [hm];omega⟩,rfl⟩
    all_goals (subst hF;(repeat refine ge ?_);try dsimp only [RA])
    exact ⟨rfl,rfl,i,rfl,h4,by omega⟩
theorem v72 (z:Zn) (at' k:Int) (hk:0≤k∧k < z.trans.length) (g:Frm) (h1:g (0,2,0)=some (.cells 5 [z.l])) (h2:g (0,3,0)=some (.cells 1 [[i64 at']])):Reads PT 72 2 [i64 k,.ptr (0,2,0) 0 0,.ptr (0,3,0) 0 0] g (fun v=>∃ b,v=.bool b):=by
  obtain ⟨g0,rfl⟩:∃ g0,g=upd (upd g0 (0,2,0) (.cells 5 [z.l])) (0,3,0) (.cells 1 [[i64 at']]):=⟨g,by rw [← upd_same h1];exact upd_same h2⟩
  refine reads_of ?_
  refine sA c72 fun Q hF=>?_
  repeat' first | refine ga ?_ | refine gb ?_ | intro _ | refine gd ?_ ?_
  all_goals (subst hF;(repeat refine ge ?_);try dsimp only [RA])
  exact ⟨rfl,rfl,_,rfl⟩
theorem v29 (z:Zn) (at':Int) (hl:z.trans.length≤1000000):∃ v,Val PT 29 [z.v,i64 at'] v∧∃ k,v=i64 k∧-1≤k∧k < z.trans.length:=by
  refine sv c29 fun Q hF=>?_
  repeat' first | refine ga ?_ | (refine so ?_;first | (refine wp_callR (v71 _ 72 (.cells 5 [z.l]) (.cells 1 [[i64 at']]) (fun i g h1 h2 h3 h4=>v72 z at' i ⟨h1,by rw [List.length_map] at h2;exact h2⟩ g h3 h4) (by rw [List.length_map];omega) _ rfl rfl) rfl rfl rfl rfl ?_;rintro _ ⟨j,rfl,h1,h2⟩<;>refine xq ?_)) | refine gb ?_ | intro _ | refine gd ?_ ?_
  all_goals try show WpO _ _ _ _ _ _
  all_goals (subst hF;(repeat refine ge ?_);try dsimp only [RA])
  rw [List.length_map] at h2
  exact ⟨_,rfl,by omega,by omega⟩
theorem v161 (l:List (Int × Int)) (at' k:Int) (hk:0≤k∧k < l.length) (g:Frm) (h1:g (0,2,0)=some (.cells 1 [[.sl 2 (l.map prV) .sh]])) (h2:g (0,3,0)=some (.cells 1 [[i64 at']])):Reads PT 161 2 [i64 k,.ptr (0,2,0) 0 0,.ptr (0,3,0) 0 0] g (fun v=>∃ b,v=.bool b):=by
  obtain ⟨g0,rfl⟩:∃ g0,g=upd (upd g0 (0,2,0) (.cells 1 [[.sl 2 (l.map prV) .sh]])) (0,3,0) (.cells 1 [[i64 at']]):=⟨g,by rw [← upd_same h1];exact upd_same h2⟩
  refine reads_of ?_
  refine sA c161 fun Q hF=>?_
  repeat' first | refine ga ?_ | refine gb ?_ | intro _ | refine gd ?_ ?_
  all_goals (subst hF;(repeat refine ge ?_);try dsimp only [RA])
  exact ⟨rfl,rfl,_,rfl⟩
theorem v81 (l:List (Int × Int)) (at':Int) (hl:l.length≤1000000):∃ v,Val PT 81 [.sl 2 (l.map prV) .sh,i64 at'] v∧∃ k,v=i64 k:=by
  refine sv c81 fun Q hF=>?_
  repeat' first | refine ga ?_ | (refine so ?_;first | (refine wp_call (v138 l hl) rfl rfl rfl rfl ?_;rintro _ ⟨kk,rfl,hk⟩<;>refine xq ?_) | (refine wp_callR (v71 _ 161 (.cells 1 [[.sl 2 ((l.take kk).map prV) .sh]]) (.cells 1 [[i64 at']]) (fun i g h1 h2 h3 h4=>v161 (l.take kk) at' i ⟨h1,by rw [List.length_map] at h2;exact h2⟩ g h3 h4) (by rw [List.length_map,List.length_take];omega) _ rfl rfl) rfl rfl rfl rfl ?_;rintro _ ⟨j,rfl,h1,h2⟩<;>refine xq ?_)) | refine gb ?_ | intro _ | refine gd ?_ ?_
  all_goals try show WpO _ _ _ _ _ _
  all_goals (subst hF;(repeat refine ge ?_);try dsimp only [RA])
  all_goals exact ⟨_,rfl⟩
theorem v32 (z:Zn) (at':Int) (hl:z.leaps.length≤1000000):∃ v,Val PT 32 [z.v,i64 at'] v∧∃ k,v=i64 k:=by
  refine sv c32 fun Q hF=>?_
  repeat' first | refine ga ?_ | (refine so ?_;first | (refine wp_call (v81 z.leaps _ hl) rfl rfl rfl rfl ?_;rintro _ ⟨k,rfl⟩<;>refine xq ?_)) | refine gb ?_ | intro _ | refine gd ?_ ?_
  all_goals (subst hF;(repeat refine ge ?_);try dsimp only [RA])
  exact ⟨_,rfl⟩
theorem wp_mkm {P:Nat→Option Fun} {n d:Nat} {y:Ys} {k:Ys→Prop} {t:Nat} (h:addC y.l t 0 (.map []) fun l=>putK n ⟨y.e,l,y.f,y.w⟩ t (.map (d,t,0)) k):WpO P n d (.mkm t) y k:=by
  refine ⟨?_⟩
  intro s r
  obtain ⟨h1,h2⟩:=add_of r h
  obtain ⟨y1,r1,k1⟩:=putK_ok (C:=low (D P)) (r.setl _) h2
  exact ⟨_,y1,by simp only [step,h1,Option.map_some],r1,k1⟩
theorem wp_mset {P:Nat→Option Fun} {n d:Nat} {y:Ys} {k:Ys→Prop} {ks:Tg} {m a b:A} {t u:Nat} {es e':List (V × V)} {kv vv:V} (e1:ev y [] m=some (.map (d,t,u))) (e2:alook y.l t u=some (.map es)) (e3:ev y [] a=some kv) (e4:ev y [] b=some vv) (hk:V.isKey ks kv=true) (hv:vv.keys=[]) (hu:vv.uq=false) (hm:mset kv vv es=some e') (h:updC y.l t u (fun _ k2=>k2 (.map e')) fun l=>k ⟨y.e,l,y.f,y.w⟩):WpO P n d (.mset ks m a b) y k:=by
  obtain ⟨o,_,h1,rfl,h2⟩:=updC_ok (G:=fun _ x=>x=.map e') (fun e k h=>⟨_,rfl,h⟩) h
  refine ⟨?_⟩
  intro s r
  refine ⟨_,_,?_,r.setl _,h2⟩
  have hg:s.get d (d,t,u)=some (.map es):=by simp only [St.get,if_true,r.l,e2]
  simp only [step,r.ev0 e1,hg,r.ev0 e3,r.ev0 e4]
  rw [if_pos ⟨trivial,hk,hv,hu⟩,hm]
  simp only [Option.map_some,St.set,if_true,r.l]
theorem wp_mget {P:Nat→Option Fun} {n d:Nat} {y:Ys} {k:Ys→Prop} {ks:Tg} {m a:A} {t t' u:Nat} {es:List (V × V)} {kv zero:V} {r:Option V} (e1:ev y [] m=some (.map (d,t,u))) (e2:alook y.l t u=some (.map es)) (e3:ev y [] a=some kv) (hk:V.isKey ks kv=true) (hm:mget kv es=some r) (h1:∀ v,r=some v→putK n y t' (.tup [v,.bool true]) k) (h2:r=none→putK n y t' (.tup [zero,.bool false]) k):WpO P n d (.mget t' true ks zero m a) y k:=by
  refine ⟨?_⟩
  intro s rr
  have hg:s.get d (d,t,u)=some (.map es):=by simp only [St.get,if_true,rr.l,e2]
  cases r with
  | some v =>
    obtain ⟨y1,r1,k1⟩:=putK_ok (C:=low (D P)) rr (h1 v rfl)
    exact ⟨_,y1,by simp only [step,rr.ev0 e1,hg,rr.ev0 e3,hk,hm,if_true],r1,k1⟩
  | none =>
    obtain ⟨y1,r1,k1⟩:=putK_ok (C:=low (D P)) rr (h2 rfl)
    exact ⟨_,y1,by simp only [step,rr.ev0 e1,hg,rr.ev0 e3,hk,hm,if_true],r1,k1⟩
end Go.Den
