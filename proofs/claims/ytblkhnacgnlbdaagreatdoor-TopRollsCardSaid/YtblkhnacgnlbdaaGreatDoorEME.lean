import Derived.Test.YtblkhnacgnlbdaaGreatDoorEG
import Derived.Test.YtblkhnacgnlbdaaGreatDoorET0
import Derived.Test.YtblkhnacgnlbdaaGreatDoorEM5
import Derived.Test.YtblkhnacgnlbdaaGreatDoorEM6
import Derived.Test.YtblkhnacgnlbdaaGreatDoorEM7
import Derived.Test.YtblkhnacgnlbdaaGreatDoorEM9
import Derived.Test.YtblkhnacgnlbdaaGreatDoorEMA
import Derived.Test.YtblkhnacgnlbdaaGreatDoorEMB
set_option linter.all false
namespace Go.Den
set_option maxHeartbeats 4000000
open Go.Proofs
set_option linter.unusedSimpArgs false
set_option maxHeartbeats 1000000
def sufC:C→Nat→C
  | c,0=>c
  | .seq _ b,n+1=>sufC b n
  | c,_+1=>c
def z1 (v:Int):List V:=[.sl 3 [] .tight,.sl 2 [] .tight,.sl 2 [] .tight,.str (bs []),i64 v]
def z0:Zn:=⟨[],[],[],bs [],0⟩
def R58 (N:Nat) (ver:Int) (L P:List (Int × Int)) (G:List (Int × Bool × ByteArray)→Prop) (v:V):Prop:=
  (v=.tup [z0.v,.bool false]∧∀ T,¬ G T)∨∃ T,v=.tup [Zn.v ⟨T,L,P,bs [],ver⟩,.bool true]∧T.length=N∧(∀ t ∈ T,ByteArray.size t.2.2≤16)∧∀ T',G T'→T=T'
theorem tk1 {r:List UInt8} {z:Int} (h0:0≤z) (h:z≤r.length):tkR z (some r)=some (r.drop z.toNat)∧tkV z (some r)=r.take z.toNat:=⟨if_pos ⟨h0,h⟩,if_pos ⟨h0,h⟩⟩
theorem v129s (d:Nat) (q:Key) (hq:q.1≠d) (r:List UInt8) (n:Int) (hn:0≤n∧n≤r.length) (hl:r.length≤1000000) (g:Frm):Acts PT 129 d [.ptr q 0 0,i64 n] g q (rdr (some r)) (fun v ob=>v=.sl 1 (u8l (r.take n.toNat)) .sh∧ob=rdr (some (r.drop n.toNat))):=by
  obtain ⟨v,o',w,h1,h2,h3⟩:=v129 d q hq (some r) n (by rintro _ ⟨⟩;exact hl) g
  obtain ⟨q1,q2⟩:=tk1 hn.1 hn.2
  rw [q1,q2] at h3
  exact ⟨v,o',w,h1,h2,h3⟩
theorem v127s (d:Nat) (q:Key) (hq:q.1 < d) (r:List UInt8) (z:Int) (hz:z=1∨z=4∨z=8) (hn:z≤r.length) (hl:r.length≤1000000) (g:Frm):Acts PT 127 d [.ptr q 0 0,i64 z] g q (rdr (some r)) (fun v ob=>v=i64 (numL z.toNat (r.take z.toNat))∧ob=rdr (some (r.drop z.toNat))):=by
  obtain ⟨v,o',w,h1,h2,h3⟩:=v127 d q hq (some r) z hz (by rintro _ ⟨⟩;exact hl) g
  obtain ⟨q1,q2⟩:=tk1 (z:=z) (r:=r) (by omega) hn
  rw [q1,q2] at h3
  exact ⟨v,o',w,h1,h2,h3⟩
theorem e58c (h:Hd) (T:List (Int × Bool × ByteArray)) (L P:List (Int × Int)) (t' w:Bool) (N1 N2:Nat) (r:List UInt8) (o:Own) (at':List (List V)) (G:List (Int × Bool × ByteArray)→Prop) (hT:T.length=N1) (hL:L.length=N2) (hr:(r.length:Int)=h.std+h.ut) (h0:0≤h.std∧0≤h.ut) (hl:r.length≤1000000) (ho:o=.uniq∨o=.tight∧P=[]) (hs:∀ t ∈ T,ByteArray.size t.2.2≤16) (hG:∀ T',G T'→T=T'∧t'=true∧h.std=0∧h.ut=0) :
    wpC PT 143 0 (sufC c58.body 11) ⟨[(3,[],.ptr (0,3,0) 0 0),(6,[],.ptr (0,6,0) 0 0),(9,[],.ptr (0,34,0) 0 0),(10,[],.ptr (0,10,0) 0 0),(15,[],.bool t')],[(3,0,.cells 7 [h.l]),(6,0,.cells 5 [z1 0]),(10,0,.cells 5 [[.arr (0,74,0) 3 0 N1,.arr (0,39,0) 2 0 N2,.sl 2 (P.map prV) o,.str (bs []),i64 h.ver]]),(34,0,rdr (some r)),(39,0,.row 2 (L.map prV) false),(74,0,.row 3 (T.map tyV) false),(74,1,.row 1 at' false)],fun _=>none,w⟩ (Fin c58 (R58 N1 h.ver L P G)):=by
  generalize hF:Fin c58 _=Q
  unfold c58
  have hd1:(r.take h.std.toNat).length≤1000000:=by rw [List.length_take];omega
  have hd2:((r.drop h.std.toNat).take h.ut.toNat).length≤1000000:=by rw [List.length_take,List.length_drop];omega
  have hd3:(r.drop h.std.toNat).length=r.length - h.std.toNat:=List.length_drop
  rcases ho with rfl | ⟨rfl,rfl⟩<;>repeat' first | refine ga ?_ | (refine so ?_;first | (refine wp_callL (v129s _ _ (by decide) r _ (by omega) (by omega)) rfl rfl rfl rfl rfl rfl ?_;rintro _ _ ⟨rfl,rfl⟩<;>refine xq (fun _ _=>?_)) | (refine wp_callL (v129s _ _ (by decide) (r.drop h.std.toNat) _ (by omega) (by omega)) rfl rfl rfl rfl rfl rfl ?_;rintro _ _ ⟨rfl,rfl⟩<;>refine xq (fun _ _=>?_)) | (refine wp_call (v131 _ _ hd1 hd2) rfl rfl rfl rfl ?_;rintro _ ⟨t,rfl,ht⟩<;>refine xq ?_)) | (refine gb ?_;intros) | (refine gd ?_ ?_<;>intros)
  all_goals try show WpO _ _ _ _ _ _
  all_goals (subst hF;(repeat refine ge ?_);try dsimp only [RA])
  · exact .inl ⟨rfl,fun T' h'=>by obtain ⟨rfl,rfl,h1,h2⟩:=hG T' h';rw [h1,h2] at ht;simp_all⟩
  · refine r_cmA rfl rfl rfl rfl rfl ?_
    refine ⟨⟨rfl,ol⟩,⟨rfl,ol⟩,rfl,?_⟩
    refine r_t rfl rfl rfl ?_
    subst hT hL
    refine .inr ⟨T,?_,rfl,hs,fun T' h'=>(hG T' h').1⟩
    rw [List.drop_zero,List.drop_zero,List.take_of_length_le (by simp),List.take_of_length_le (by simp)]
    rfl
  · exact .inl ⟨rfl,fun T' h'=>by obtain ⟨rfl,rfl,h1,h2⟩:=hG T' h';rw [h1,h2] at ht;simp_all⟩
  · refine r_cmA rfl rfl rfl rfl rfl ?_
    refine ⟨⟨rfl,ol⟩,⟨rfl,ol⟩,rfl,?_⟩
    refine r_t rfl rfl rfl ?_
    subst hT hL
    refine .inr ⟨T,?_,rfl,hs,fun T' h'=>(hG T' h').1⟩
    rw [List.drop_zero,List.drop_zero,List.take_of_length_le (by simp),List.take_of_length_le (by simp)]
    rfl
theorem e58b (h:Hd) (z:Int) (hz:z=4∨z=8) (T:List (Int × Bool × ByteArray)) (L:List (Int × Int)) (t' w:Bool) (N1 N2:Nat) (r:List UInt8) (at':List (List V)) (G:List (Int × Bool × ByteArray)→Prop) (hT:T.length=N1) (hL:L.length=N2) (hr:(r.length:Int)=h.leap*(z+4)+h.std+h.ut) (h0:0≤h.std∧0≤h.ut∧0≤h.leap∧h.leap≤1000000) (hl:r.length≤1000000) (hs:∀ t ∈ T,ByteArray.size t.2.2≤16) (hG:∀ T',G T'→T=T'∧t'=true∧h.std=0∧h.ut=0) :
    wpC PT 143 0 (sufC c58.body 9) ⟨[(2,[],i64 z),(3,[],.ptr (0,3,0) 0 0),(6,[],.ptr (0,6,0) 0 0),(9,[],.ptr (0,34,0) 0 0),(10,[],.ptr (0,10,0) 0 0),(13,[],.arr (0,74,0) 3 0 N1),(15,[],.bool t')],[(3,0,.cells 7 [h.l]),(6,0,.cells 5 [z1 0]),(10,0,.cells 5 [[.sl 3 [] .tight,.arr (0,39,0) 2 0 N2,.sl 2 [] .tight,.str (bs []),i64 h.ver]]),(34,0,rdr (some r)),(39,0,.row 2 (L.map prV) false),(74,0,.row 3 (T.map tyV) false),(74,1,.row 1 at' false)],fun _=>none,w⟩ (Fin c58 (R58 N1 h.ver L (rdP z.toNat 4 h.leap.toNat r).1 G)):=by
  generalize hC:rdP z.toNat 4 h.leap.toNat r=C
  have hCl:C.2=r.drop (h.leap.toNat*(z.toNat+4)):=by rw [← hC];exact (rdP_len _ _ _ _).2
  have hC2:(C.2.length:Int)=h.std+h.ut:=by
    rw [hCl,List.length_drop]
    rcases hz with rfl | rfl
    · show ((r.length - h.leap.toNat*8:Nat):Int)=_
      omega
    · show ((r.length - h.leap.toNat*12:Nat):Int)=_
      omega
  have hE:=fun w (a:List (Int × Int)) (q:List UInt8) (o:Own) (q1:a=C.1) (q2:q=C.2) (q3:o=.uniq∨o=.tight∧a=[])=>(by subst q1 q2;exact e58c h T L C.1 t' w N1 N2 C.2 o at' G hT hL hC2 ⟨h0.1,h0.2.1⟩ (by rw [hCl,List.length_drop];omega) q3 hs hG:wpC PT 143 0 (sufC c58.body 11) ⟨[(3,[],.ptr (0,3,0) 0 0),(6,[],.ptr (0,6,0) 0 0),(9,[],.ptr (0,34,0) 0 0),(10,[],.ptr (0,10,0) 0 0),(15,[],.bool t')],[(3,0,.cells 7 [h.l]),(6,0,.cells 5 [z1 0]),(10,0,.cells 5 [[.arr (0,74,0) 3 0 N1,.arr (0,39,0) 2 0 N2,.sl 2 (a.map prV) o,.str (bs []),i64 h.ver]]),(34,0,rdr (some q)),(39,0,.row 2 (L.map prV) false),(74,0,.row 3 (T.map tyV) false),(74,1,.row 1 at' false)],fun _=>none,w⟩ (Fin c58 (R58 N1 h.ver L C.1 G)))
  generalize hF:Fin c58 _=Q at hE ⊢
  unfold c58
  repeat' first | refine ga ?_ | (refine gb ?_;intros) | (refine gd ?_ ?_<;>intros)
  show WpL _ _ _ _
  refine wp_loop (n:=143) (fun m y=>∃ (k:Int) (a:List (Int × Int)) (q:List UInt8) (w:Bool) (o:Own) (es:List (List V)),(h.leap - k≤m∧0≤k∧k≤h.leap∧a.length=k.toNat∧(q.length:Int)=r.length - k*(z+4)∧a++(rdP z.toNat 4 (h.leap - k).toNat q).1=C.1∧(rdP z.toNat 4 (h.leap - k).toNat q).2=C.2∧es=a.map prV∧(o=.uniq∨o=.tight∧a=[]))∧y=⟨[(2,[],i64 z),(3,[],.ptr (0,3,0) 0 0),(6,[],.ptr (0,6,0) 0 0),(9,[],.ptr (0,34,0) 0 0),(10,[],.ptr (0,10,0) 0 0),(15,[],.bool t'),(109,[],i64 h.leap),(110,[],i64 k)],[(3,0,.cells 7 [h.l]),(6,0,.cells 5 [z1 0]),(10,0,.cells 5 [[.arr (0,74,0) 3 0 N1,.arr (0,39,0) 2 0 N2,.sl 2 es o,.str (bs []),i64 h.ver]]),(34,0,rdr (some q)),(39,0,.row 2 (L.map prV) false),(74,0,.row 3 (T.map tyV) false),(74,1,.row 1 at' false)],fun _=>none,w⟩) (h.leap.toNat) ?_ ?_
  · exact ⟨0,[],r,_,.tight,[],⟨by omega,by omega,by omega,rfl,by omega,by rw [← hC,Int.sub_zero];rfl,by rw [← hC,Int.sub_zero],rfl,.inr ⟨rfl,rfl⟩⟩,rfl⟩
  · rintro m _ ⟨k,a,q,w,o,es,⟨h1,h2,h3,h4,h5,h6,h7,rfl,h8⟩,rfl⟩
    show wpC PT 143 _ c58_l3 _ _
    unfold c58_l3
    have hq:h.leap - k ≥ 1→(q.length:Int) ≥ z+4:=by rcases hz with rfl | rfl<;>omega
    have hq2:q.length≤1000000:=by rcases hz with rfl | rfl<;>omega
    have hq3:(q.drop z.toNat).length=q.length - z.toNat:=List.length_drop
    rcases Int.lt_or_le k h.leap with hk | hk
    · rcases h8 with rfl | ⟨rfl,rfl⟩<;>repeat' first | refine ga ?_ | (refine so ?_;first | (refine wp_callL (v127s _ _ (by decide) q z (by omega) (by omega) (by omega)) rfl rfl rfl rfl rfl rfl ?_;rintro _ _ ⟨rfl,rfl⟩<;>refine xq (fun _ _=>?_)) | (refine wp_callL (v127s _ _ (by decide) (q.drop z.toNat) 4 (by omega) (by omega) (by omega)) rfl rfl rfl rfl rfl rfl ?_;rintro _ _ ⟨rfl,rfl⟩<;>refine xq (fun _ _=>?_))) | (refine gb ?_;intros) | (refine gd ?_ ?_<;>intros)
      all_goals try omega
      all_goals (
        have e:(h.leap - k).toNat=(h.leap - (k+1)).toNat+1:=by omega
        rw [e] at h6 h7
        simp only [rdP] at h6 h7
        first
        | refine ⟨m - 1,by omega,k+1,a++[(numL z.toNat (q.take z.toNat),numL 4 ((q.drop z.toNat).take 4))],(q.drop z.toNat).drop 4,_,.uniq,_,⟨by omega,by omega,by omega,ol,?_,by rw [← h6,List.append_assoc];rfl,h7,by rw [List.map_append];rfl,.inl rfl⟩,rfl⟩
        | refine ⟨m - 1,by omega,k+1,[]++[(numL z.toNat (q.take z.toNat),numL 4 ((q.drop z.toNat).take 4))],(q.drop z.toNat).drop 4,_,.uniq,_,⟨by omega,by omega,by omega,(by simp only [List.length_nil] at h4;simp only [List.nil_append,List.length_cons,List.length_nil];omega),?_,by rw [← h6,List.append_assoc];rfl,h7,by rw [List.map_append];rfl,.inl rfl⟩,rfl⟩
        rw [List.length_drop,hq3]
        rcases hz with rfl | rfl<;>omega)
    · have e:(h.leap - k).toNat=0:=by omega
      rw [e] at h6 h7
      simp only [rdP,List.append_nil] at h6 h7
      rcases h8 with rfl | ⟨rfl,rfl⟩<;>repeat' first | (refine so ?_;(exact hE _ _ _ _ h6 h7 (by first | exact .inl rfl | exact .inr ⟨rfl,rfl⟩))) | refine ga ?_ | (refine gb ?_;intros) | (refine gd ?_ ?_<;>intros)
      all_goals omega
def nmE (x:Int × Int × Int) (s:ByteArray):Int × Bool × ByteArray:=(x.1,x.2.1 == 1,s)
def G58 (h:Hd) (C:List (Int × Int × Int)) (p:ByteArray) (T:List (Int × Bool × ByteArray)):Prop:=
  ∃ n0:List ByteArray,n0.length=C.length∧(∀ (i:Nat) x s,C[i]?=some x→n0[i]?=some s→PoolG p s x.2.2)∧(∀ x ∈ C,x.2.1 < 2)∧h.std=0∧h.ut=0∧T=List.zipWith nmE C n0
theorem set_tk {α:Type} {L:List α} {k:Int} {x v:α} (h0:0≤k) (h:L[k.toNat]?=some x):(L.set k.toNat v).take (k+1).toNat=L.take k.toNat++[v]∧(L.set k.toNat v).drop (k+1).toNat=L.drop (k+1).toNat∧L.drop k.toNat=x::L.drop (k+1).toNat:=by
  have e:(k+1).toNat=k.toNat+1:=by omega
  obtain ⟨hl,rfl⟩:=List.getElem?_eq_some_iff.mp h
  rw [e]
  refine ⟨?_,?_,List.drop_eq_getElem_cons hl⟩
  · rw [List.take_succ_eq_append_getElem (by simpa using hl),List.getElem_set_self,List.take_set_of_le (Nat.le_refl _)]
  · rw [List.drop_set_of_lt (by omega)]
theorem e58a (h:Hd) (z:Int) (hz:z=4∨z=8) (C:List (Int × Int × Int)) (p:ByteArray) (L:List (Int × Int)) (t w:Bool) (N1 N2:Nat) (r:List UInt8) (hC:C.length=N1) (hN:(N1:Int)=h.type) (hN64:N1≤64) (hps:p.size≤1000000) (ht:t=true ↔ ∀ x ∈ C,x.2.1 < 2) (hL:L.length=N2) (hr:(r.length:Int)=h.leap*(z+4)+h.std+h.ut) (h0:0≤h.std∧0≤h.ut∧0≤h.leap∧h.leap≤1000000) (hl:r.length≤1000000) :
    wpC PT 143 0 (sufC c58.body 8) ⟨[(16,[],.str p),(15,[],.bool t),(14,[],.arr (0,74,1) 1 0 N1),(13,[],.arr (0,74,0) 3 0 N1),(2,[],i64 z),(3,[],.ptr (0,3,0) 0 0),(6,[],.ptr (0,6,0) 0 0),(9,[],.ptr (0,34,0) 0 0),(10,[],.ptr (0,10,0) 0 0)],[(3,0,.cells 7 [h.l]),(6,0,.cells 5 [z1 0]),(10,0,.cells 5 [[.sl 3 [] .tight,.arr (0,39,0) 2 0 N2,.sl 2 [] .tight,.str (bs []),i64 h.ver]]),(34,0,rdr (some r)),(39,0,.row 2 (L.map prV) false),(74,0,.row 3 (C.map fun x=>tyV (nmE x (bs []))) false),(74,1,.row 1 (C.map fun x=>itE x.2.2) false)],fun _=>none,w⟩ (Fin c58 (R58 N1 h.ver L (rdP z.toNat 4 h.leap.toNat r).1 (G58 h C p))):=by
  generalize hP:(rdP z.toNat 4 h.leap.toNat r).1=P
  have hE:=fun (T:List (Int × Bool × ByteArray)) (t' w:Bool) (q1:T.length=N1) (q2:∀ t ∈ T,ByteArray.size t.2.2≤16) (q3:∀ T',G58 h C p T'→T=T'∧t'=true∧h.std=0∧h.ut=0)=>(by rw [← hP];exact e58b h z hz T L t' w N1 N2 r _ (G58 h C p) q1 hL hr h0 hl q2 q3:wpC PT 143 0 (sufC c58.body 9) ⟨[(2,[],i64 z),(3,[],.ptr (0,3,0) 0 0),(6,[],.ptr (0,6,0) 0 0),(9,[],.ptr (0,34,0) 0 0),(10,[],.ptr (0,10,0) 0 0),(13,[],.arr (0,74,0) 3 0 N1),(15,[],.bool t')],[(3,0,.cells 7 [h.l]),(6,0,.cells 5 [z1 0]),(10,0,.cells 5 [[.sl 3 [] .tight,.arr (0,39,0) 2 0 N2,.sl 2 [] .tight,.str (bs []),i64 h.ver]]),(34,0,rdr (some r)),(39,0,.row 2 (L.map prV) false),(74,0,.row 3 (T.map tyV) false),(74,1,.row 1 (C.map fun x=>itE x.2.2) false)],fun _=>none,w⟩ (Fin c58 (R58 N1 h.ver L P (G58 h C p))))
  generalize hF:Fin c58 _=Q at hE ⊢
  unfold c58
  repeat' first | refine ga ?_ | (refine gb ?_;intros) | (refine gd ?_ ?_<;>intros)
  show WpL _ _ _ _
  refine wp_loop (n:=143) (fun m y=>∃ (k:Int) (T:List (Int × Bool × ByteArray)) (es:List (List V)) (t' w:Bool) (ns:List ByteArray),(N1 - k≤m∧0≤k∧k≤N1∧es=T.map tyV∧T.length=N1∧ns.length=k.toNat∧(∀ s ∈ ns,ByteArray.size s≤16)∧T.take k.toNat=List.zipWith nmE (C.take k.toNat) ns∧T.drop k.toNat=(C.drop k.toNat).map (fun x=>nmE x (bs []))∧∀ n0:List ByteArray,n0.length=C.length→(∀ (i:Nat) x s,C[i]?=some x→n0[i]?=some s→PoolG p s x.2.2)→ns=n0.take k.toNat∧t'=t)∧y=⟨[(2,[],i64 z),(3,[],.ptr (0,3,0) 0 0),(6,[],.ptr (0,6,0) 0 0),(9,[],.ptr (0,34,0) 0 0),(10,[],.ptr (0,10,0) 0 0),(13,[],.arr (0,74,0) 3 0 N1),(14,[],.arr (0,74,1) 1 0 N1),(15,[],.bool t'),(16,[],.str p),(84,[],i64 N1),(85,[],i64 k)],[(3,0,.cells 7 [h.l]),(6,0,.cells 5 [z1 0]),(10,0,.cells 5 [[.sl 3 [] .tight,.arr (0,39,0) 2 0 N2,.sl 2 [] .tight,.str (bs []),i64 h.ver]]),(34,0,rdr (some r)),(39,0,.row 2 (L.map prV) false),(74,0,.row 3 es false),(74,1,.row 1 (C.map fun x=>itE x.2.2) false)],fun _=>none,w⟩) (N1) ?_ ?_
  · exact ⟨0,C.map (fun x=>nmE x (bs [])),_,t,_,[],⟨by omega,by omega,by omega,(List.map_map ..).symm,by rw [List.length_map,hC],rfl,by simp,by simp,by simp,fun n0 _ _=>⟨by simp,rfl⟩⟩,rfl⟩
  · rintro m _ ⟨k,T,es,t',w,ns,⟨h1,h2,h3,rfl,h4,h5,h6,h7,h8,h9⟩,rfl⟩
    show wpC PT 143 _ c58_l2 _ _
    unfold c58_l2
    rcases Int.lt_or_le k N1 with hk | hk
    · obtain ⟨x0,hx⟩:∃ x0,T[0+k.toNat]?=some x0:=⟨_,List.getElem?_eq_getElem (by omega)⟩
      repeat' first | (refine so ?_;(refine wp_stRX (fun q=>(q.1,q.2.1,s)) hx rfl rfl rfl rfl (fun _=>Nat.le_of_ble_eq_true rfl) (fun _=>rfl) ?_)) | refine ga ?_ | (refine so ?_;first | (refine wp_call (v130 p _ hps) rfl rfl rfl rfl ?_;rintro _ ⟨s,b',rfl,hs16,hG⟩<;>refine xq ?_)) | (refine gb ?_;intros) | (refine gd ?_ ?_<;>intros)
      all_goals try omega
      rename_i c hc
      have hz0:0+k.toNat=k.toNat:=Nat.zero_add _
      rw [hz0] at hx hc
      obtain ⟨s1,s2,s3⟩:=set_tk (v:=(x0.1,x0.2.1,s)) h2 hx
      obtain ⟨_,_,a3⟩:=set_tk (v:=c) h2 hc
      have hts:=take_step h2 hc
      rw [h8,a3,List.map_cons] at s3
      obtain ⟨s4,s5⟩:=List.cons.inj s3
      refine ⟨m - 1,by omega,k+1,T.set (0+k.toNat) (x0.1,x0.2.1,s),_,_,_,ns++[s],⟨by omega,by omega,by omega,rfl,by rw [List.length_set];exact h4,ol,?_,?_,?_,?_⟩,rfl⟩
      · intro q hq
        rcases List.mem_append.mp hq with q1 | q1
        · exact h6 q q1
        · rw [List.mem_singleton.mp q1];exact hs16
      · rw [hz0,s1,h7,hts,List.zipWith_append (by rw [List.length_take];omega),← s4]
        rfl
      · rw [hz0,s2,← s5]
      · intro n0 g1 g2
        obtain ⟨q1,q2⟩:=h9 n0 g1 g2
        obtain ⟨s0,hs0⟩:∃ s0,n0[k.toNat]?=some s0:=⟨_,List.getElem?_eq_getElem (by omega)⟩
        have hh:=hG s0 (g2 _ _ _ hc hs0)
        injection hh with hh
        simp only [List.cons.injEq,V.str.injEq,V.bool.injEq,and_true] at hh
        obtain ⟨rfl,rfl⟩:=hh
        refine ⟨by rw [take_step h2 hs0,q1],?_⟩
        subst q2
        cases t'<;>rfl
    · have hkN:k=N1:=by omega
      rw [hkN] at h5 h7 h8 h9
      have hT:T=List.zipWith nmE C ns:=by
        rw [List.take_of_length_le (by omega),List.take_of_length_le (by omega)] at h7
        exact h7
      repeat' first | (refine so ?_;(refine hE T t' _ h4 ?_ ?_)) | refine ga ?_ | (refine gb ?_;intros) | (refine gd ?_ ?_<;>intros)
      · omega
      · rw [hT]
        intro x hx
        obtain ⟨i,hi,rfl⟩:=List.getElem_of_mem hx
        rw [List.getElem_zipWith]
        exact h6 _ (List.getElem_mem _)
      · rintro T' ⟨n0,g1,g2,g3,g4,g5,rfl⟩
        obtain ⟨rfl,rfl⟩:=h9 n0 g1 g2
        rw [List.take_of_length_le (by omega)] at hT
        exact ⟨hT,ht.mpr g3,g4,g5⟩
theorem e58d (h:Hd) (z:Int) (hz:z=4∨z=8) (A1 B1:List Int) (B2:List UInt8) (C1:List (Int × Int × Int)) (C2 r:List UInt8) (w:Bool) (N:Nat) (p:ByteArray) (hp:p=⟨(C2.take h.char.toNat).toArray⟩) (hA1:A1.length=N) (hN:(N:Int)=h.time) (hB:rdN 1 h.time.toNat r=(B1,B2)) (hC:rdT h.type.toNat B2=(C1,C2)) (hr:(r.length:Int)=h.time+h.type*6+h.char+h.leap*(z+4)+h.std+h.ut) (h0:0≤h.std∧0≤h.ut∧0≤h.leap∧h.leap≤1000000∧0≤h.char∧1≤h.type∧h.type≤64) (hl:r.length≤1000000) :
    wpC PT 143 0 (sufC c58.body 5) ⟨[(2,[],i64 z),(3,[],.ptr (0,3,0) 0 0),(6,[],.ptr (0,6,0) 0 0),(9,[],.ptr (0,34,0) 0 0),(10,[],.ptr (0,10,0) 0 0)],[(3,0,.cells 7 [h.l]),(6,0,.cells 5 [z1 0]),(10,0,.cells 5 [[.sl 3 [] .tight,.arr (0,39,0) 2 0 N,.sl 2 [] .tight,.str (bs []),i64 h.ver]]),(34,0,rdr (some r)),(39,0,.row 2 ((A1.map fun x=>(x,0)).map prV) false)],fun _=>none,w⟩ (Fin c58 (R58 h.type.toNat h.ver (A1.zip B1) (rdP z.toNat 4 h.leap.toNat (C2.drop h.char.toNat)).1 (G58 h C1 p))):=by
  have hBl:=rdN_len 1 h.time.toNat r
  rw [hB] at hBl
  obtain ⟨hB1,hB2⟩:=hBl
  dsimp only at hB1 hB2
  have hCl:=rdT_len h.type.toNat B2
  rw [hC] at hCl
  obtain ⟨hC1,hC2⟩:=hCl
  dsimp only at hC1 hC2
  have hB3:(B2.length:Int)=h.type*6+h.char+h.leap*(z+4)+h.std+h.ut∧0≤h.leap*(z+4):=by rw [hB2,List.length_drop];rcases hz with rfl | rfl<;>omega
  have hC3:(C2.length:Int)=h.char+h.leap*(z+4)+h.std+h.ut:=by rw [hC2,List.length_drop];omega
  have hps:p.size≤1000000:=by
    rw [hp,← tl_len,tl_mk,List.length_take];omega
  have hT:=fun g=>v128 B2 h.type (by omega) (by omega) (by omega) g
  rw [← hC2,hC] at hT
  have hE:=fun (t w:Bool) (L:List (Int × Int)) (n1 n2:Nat) (p':ByteArray) (e1:n1=h.type.toNat) (e2:n2=h.type.toNat) (e3:p=p') (hL:L=A1.zip B1) (ht:t=true ↔ ∀ x ∈ C1,x.2.1 < 2)=>(by subst hL e1 e2 e3;exact e58a h z hz C1 p (A1.zip B1) t w h.type.toNat N (C2.drop h.char.toNat) hC1 (by omega) (by omega) hps ht (by rw [List.length_zip];omega) (by rw [List.length_drop];omega) ⟨by omega,by omega,by omega,by omega⟩ (by rw [List.length_drop];omega):wpC PT 143 0 (sufC c58.body 8) ⟨[(16,[],.str p'),(15,[],.bool t),(14,[],.arr (0,74,1) 1 0 n2),(13,[],.arr (0,74,0) 3 0 n1),(2,[],i64 z),(3,[],.ptr (0,3,0) 0 0),(6,[],.ptr (0,6,0) 0 0),(9,[],.ptr (0,34,0) 0 0),(10,[],.ptr (0,10,0) 0 0)],[(3,0,.cells 7 [h.l]),(6,0,.cells 5 [z1 0]),(10,0,.cells 5 [[.sl 3 [] .tight,.arr (0,39,0) 2 0 N,.sl 2 [] .tight,.str (bs []),i64 h.ver]]),(34,0,rdr (some (C2.drop h.char.toNat))),(39,0,.row 2 (L.map prV) false),(74,0,.row 3 (C1.map fun x=>tyV (nmE x (bs []))) false),(74,1,.row 1 (C1.map fun x=>itE x.2.2) false)],fun _=>none,w⟩ (Fin c58 (R58 h.type.toNat h.ver (A1.zip B1) (rdP z.toNat 4 h.leap.toNat (C2.drop h.char.toNat)).1 (G58 h C1 p))))
  generalize hF:Fin c58 _=Q at hE ⊢
  unfold c58
  repeat' first | refine ga ?_ | (refine gb ?_;intros) | (refine gd ?_ ?_<;>intros)
  show WpL _ _ _ _
  refine wp_loop (n:=143) (fun m y=>∃ (k:Int) (c:List Int) (r':List UInt8) (w:Bool) (L:List (Int × Int)) (es:List (List V)),(N - k≤m∧0≤k∧k≤N∧c.length=k.toNat∧(r'.length:Int)=r.length - k∧c++(rdN 1 (N - k).toNat r').1=B1∧(rdN 1 (N - k).toNat r').2=B2∧es=L.map prV∧L.length=N∧L.take k.toNat=(A1.take k.toNat).zip c∧L.drop k.toNat=(A1.drop k.toNat).map (fun x=>(x,0)))∧y=⟨[(2,[],i64 z),(3,[],.ptr (0,3,0) 0 0),(6,[],.ptr (0,6,0) 0 0),(9,[],.ptr (0,34,0) 0 0),(10,[],.ptr (0,10,0) 0 0),(58,[],i64 N),(59,[],i64 k)],[(3,0,.cells 7 [h.l]),(6,0,.cells 5 [z1 0]),(10,0,.cells 5 [[.sl 3 [] .tight,.arr (0,39,0) 2 0 N,.sl 2 [] .tight,.str (bs []),i64 h.ver]]),(34,0,rdr (some r')),(39,0,.row 2 es false)],fun _=>none,w⟩) (N) ?_ ?_
  · have hNt:(N - 0:Int).toNat=h.time.toNat:=by omega
    exact ⟨0,[],r,_,A1.map (fun x=>(x,0)),_,⟨by omega,by omega,by omega,rfl,by omega,by rw [hNt,hB];rfl,by rw [hNt,hB],rfl,by rw [List.length_map,hA1],by simp,by simp⟩,rfl⟩
  · rintro m _ ⟨k,c,r',w,L,es,⟨h1,h2,h3,h4,h6,h7,h8,rfl,h9,h11,h12⟩,rfl⟩
    show wpC PT 143 _ c58_l1 _ _
    unfold c58_l1
    have l0:∀ l,some r'=some l→l.length≤1000000:=by rintro _ ⟨⟩;omega
    rcases Int.lt_or_le k N with hk | hk
    · repeat' first | refine ga ?_ | (refine gb ?_;intros) | (refine gd ?_ ?_<;>intros)
      · show WpD _ _ _ _ _ _ _
        obtain ⟨v,o',w1,hD,hw,rfl,rfl⟩:=v127 1 (0,34,0) (by decide) (some r') 1 (.inl rfl) l0 (merge 0 [(3,0,.cells 7 [h.l]),(6,0,.cells 5 [z1 0]),(10,0,.cells 5 [[.sl 3 [] .tight,.arr (0,39,0) 2 0 N,.sl 2 [] .tight,.str (bs []),i64 h.ver]]),(34,0,rdr (some r')),(39,0,.row 2 (L.map prV) false)] (fun _=>none))
        obtain ⟨x0,hx⟩:∃ x0,L[0+k.toNat]?=some x0:=⟨_,List.getElem?_eq_getElem (by omega)⟩
        refine wp_drw2 ?_
        repeat' first | (refine so ?_;(refine wp_callX hD hw rfl rfl rfl rfl rfl rfl rfl ?_)) | (refine so ?_;(refine wp_stRX (fun p=>(p.1,numL (Int.toNat 1) (tkV 1 (some r')))) hx rfl rfl rfl rfl (fun _=>Nat.le_of_ble_eq_true rfl) (fun _=>rfl) ?_)) | refine ga ?_ | (refine gb ?_;intros) | (refine gd ?_ ?_<;>intros)
        show DrwE _ _ _ _ _ _ _
        refine ⟨rfl,?_,?_⟩
        · repeat' first | (refine so ?_;(refine wp_callX hD hw rfl rfl rfl rfl rfl rfl rfl ?_)) | (refine so ?_;(refine wp_stRX (fun p=>(p.1,numL (Int.toNat 1) (tkV 1 (some r')))) hx rfl rfl rfl rfl (fun _=>Nat.le_of_ble_eq_true rfl) (fun _=>rfl) ?_)) | refine ga ?_ | (refine gb ?_;intros) | (refine gd ?_ ?_<;>intros)
          exact ⟨rfl,rfl⟩
        · repeat' first | refine ga ?_ | (refine gb ?_;intros) | (refine gd ?_ ?_<;>intros)
          have hz0:0+k.toNat=k.toNat:=Nat.zero_add _
          obtain ⟨q1,q2⟩:=tk1 (z:=1) (r:=r') (by omega) (by omega)
          rw [q1,q2]
          have e:(N - k).toNat=(N - (k+1)).toNat+1:=by omega
          rw [e] at h7 h8
          simp only [rdN] at h7 h8
          rw [hz0] at hx
          obtain ⟨s1,s2,s3⟩:=set_tk (v:=(x0.1,numL 1 (r'.take 1))) h2 hx
          have hak:A1[k.toNat]?=some (A1[k.toNat]'(by omega)):=List.getElem?_eq_getElem (by omega)
          have hts:=take_step h2 hak
          obtain ⟨_,_,a3⟩:=set_tk (v:=(0:Int)) h2 hak
          rw [h12,a3,List.map_cons] at s3
          obtain ⟨s4,s5⟩:=List.cons.inj s3
          refine ⟨m - 1,by omega,k+1,c++[numL 1 (r'.take 1)],r'.drop 1,_,L.set (0+k.toNat) (x0.1,numL 1 (r'.take 1)),_,⟨by omega,by omega,by omega,ol,by rw [List.length_drop];omega,by rw [← h7,List.append_assoc];rfl,h8,rfl,by rw [List.length_set];exact h9,?_,?_⟩,rfl⟩
          · rw [hz0,s1,h11,hts,List.zip_append (by rw [List.length_take];omega),← s4];rfl
          · rw [hz0,s2,← s5]
      all_goals (exfalso;omega)
    · have hkN:(N - k:Int).toNat=0:=by omega
      rw [hkN] at h7 h8
      simp only [rdN,List.append_nil] at h7 h8
      subst h7 h8
      have hL:L=A1.zip c:=by
        rw [List.take_of_length_le (by omega),List.take_of_length_le (by omega)] at h11
        exact h11
      repeat' first | (refine so ?_;(refine hE _ _ _ _ _ _ ?_ ?_ hp hL ?_)) | refine ga ?_ | (refine so ?_;first | (refine wp_callLB hT rfl rfl rfl rfl rfl rfl ?_;rintro _ _ ⟨⟨t,rfl,ht⟩,rfl⟩<;>intro w5 hw5) | (refine wp_callL (v129s _ _ (by decide) C2 _ (by omega) (by omega)) rfl rfl rfl rfl rfl rfl ?_;rintro _ _ ⟨rfl,rfl⟩<;>refine xq (fun _ _=>?_))) | (refine gb ?_;intros) | (refine gd ?_ ?_<;>intros)
      · exfalso;omega
      · rw [List.length_map];exact hC1
      · rw [List.length_map];exact hC1
      · exact ht
theorem v58 (h:Hd) (b:List UInt8) (z:Int) (A1 B1:List Int) (A2 B2:List UInt8) (C1:List (Int × Int × Int)) (C2:List UInt8) (p:ByteArray) (hz:z=4∨z=8) (hb:b.length≤1000000) (hok:h.ok) (hbz:b.length=h.size z) (hA:rdN z.toNat h.time.toNat b=(A1,A2)) (hB:rdN 1 h.time.toNat A2=(B1,B2)) (hC:rdT h.type.toNat B2=(C1,C2)) (hp:p=⟨(C2.take h.char.toNat).toArray⟩):∃ v,Val PT 58 [.agg h.l,.sl 1 (u8l b) .sh,i64 z] v∧R58 h.type.toNat h.ver (A1.zip B1) (rdP z.toNat 4 h.leap.toNat (C2.drop h.char.toNat)).1 (G58 h C1 p) v:=by
  have h5:∀ z,z=4∨z=8→∃ v,Val PT 125 [.agg h.l,i64 z] v∧v=i64 (h.size z):=fun z hz=>by
    obtain ⟨v,h1,h2⟩:=v125 h z hz
    rw [if_pos hok] at h2
    exact ⟨v,h1,h2⟩
  have hk:=hok
  unfold Hd.ok at hk
  obtain ⟨hk1,hk2,hk3,hk4,hk5,hk6,hk7⟩:=hk
  have hsz:=hbz
  unfold Hd.size at hsz
  have hAl:=rdN_len z.toNat h.time.toNat b
  rw [hA] at hAl
  obtain ⟨hA1,hA2⟩:=hAl
  dsimp only at hA1 hA2
  have hA3:(A2.length:Int)=h.time+h.type*6+h.char+h.leap*(z+4)+h.std+h.ut:=by
    rw [hA2,List.length_drop]
    rcases hz with rfl | rfl
    · show ((b.length - h.time.toNat*4:Nat):Int)=_
      omega
    · show ((b.length - h.time.toNat*8:Nat):Int)=_
      omega
  have hE:=fun (w:Bool) (N:Nat) (es:List (List V)) (r:List UInt8) (e1:N=h.time.toNat) (e2:es=(A1.map fun x=>(x,0)).map prV) (e3:A2=r)=>(by subst e1 e2 e3;exact e58d h z hz A1 B1 B2 C1 C2 A2 w h.time.toNat p hp hA1 (by omega) hB hC hA3 ⟨by omega,by omega,by omega,by omega,by omega,by omega,by omega⟩ (by rw [hA2,List.length_drop];omega):wpC PT 143 0 (sufC c58.body 5) ⟨[(2,[],i64 z),(3,[],.ptr (0,3,0) 0 0),(6,[],.ptr (0,6,0) 0 0),(9,[],.ptr (0,34,0) 0 0),(10,[],.ptr (0,10,0) 0 0)],[(3,0,.cells 7 [h.l]),(6,0,.cells 5 [z1 0]),(10,0,.cells 5 [[.sl 3 [] .tight,.arr (0,39,0) 2 0 N,.sl 2 [] .tight,.str (bs []),i64 h.ver]]),(34,0,rdr (some r)),(39,0,.row 2 es false)],fun _=>none,w⟩ (Fin c58 (R58 h.type.toNat h.ver (A1.zip B1) (rdP z.toNat 4 h.leap.toNat (C2.drop h.char.toNat)).1 (G58 h C1 p))))
  refine sv c58 fun Q hF=>?_
  rw [hF] at hE
  repeat' first | refine ga ?_ | (refine so ?_;first | refine cr (h5 z hz) rfl rfl rfl rfl rfl ?_ | (refine wp_callB (v126 b hb) rfl rfl rfl rfl ?_;rintro _ rfl)) | (refine gb ?_;intros) | (refine gd ?_ ?_<;>intros)
  · exfalso
    rename_i hx
    rw [u8l_len] at hx
    rcases hz with rfl | rfl<;>omega
  show WpL _ _ _ _
  refine wp_loop (n:=143) (fun m y=>∃ (k:Int) (a:List Int) (r:List UInt8) (w:Bool) (L:List (Int × Int)) (es:List (List V)) (N:Nat),(h.time - k≤m∧0≤k∧k≤h.time∧a.length=k.toNat∧(r.length:Int)=b.length - k*z∧a++(rdN z.toNat (h.time - k).toNat r).1=A1∧(rdN z.toNat (h.time - k).toNat r).2=A2∧es=L.map prV∧L.length=h.time.toNat∧N=h.time.toNat∧L.take k.toNat=a.map (fun x=>(x,0))∧L.drop k.toNat=List.replicate (h.time - k).toNat (0,0))∧y=⟨[(2,[],i64 z),(3,[],.ptr (0,3,0) 0 0),(6,[],.ptr (0,6,0) 0 0),(9,[],.ptr (0,34,0) 0 0),(10,[],.ptr (0,10,0) 0 0),(43,[],i64 N),(44,[],i64 k)],[(3,0,.cells 7 [h.l]),(6,0,.cells 5 [z1 0]),(10,0,.cells 5 [[.sl 3 [] .tight,.arr (0,39,0) 2 0 N,.sl 2 [] .tight,.str (bs []),i64 h.ver]]),(34,0,rdr (some r)),(39,0,.row 2 es false)],fun _=>none,w⟩) (h.time.toNat) ?_ ?_
  · refine ⟨0,[],b,_,List.replicate h.time.toNat (0,0),_,_,⟨by omega,by omega,by omega,rfl,by omega,by rw [Int.sub_zero,hA];rfl,by rw [Int.sub_zero,hA],(List.map_replicate (f:=prV)).symm,by simp,by simp,rfl,by rw [Int.sub_zero];rfl⟩,rfl⟩
  · rintro m _ ⟨k,a,r,w,L,es,N,⟨h1,h2,h3,h4,h6,h7,h8,rfl,h9,h10,h11,h12⟩,rfl⟩
    show wpC PT 143 _ c58_l0 _ _
    unfold c58_l0
    have l0:∀ l,some r=some l→l.length≤1000000:=by rintro _ ⟨⟩;rcases hz with rfl | rfl<;>omega
    rcases Int.lt_or_le k h.time with hk | hk
    · repeat' first | refine ga ?_ | (refine gb ?_;intros) | (refine gd ?_ ?_<;>intros)
      · show WpD _ _ _ _ _ _ _
        obtain ⟨v,o',w1,hD,hw,rfl,rfl⟩:=v127 1 (0,34,0) (by decide) (some r) z (.inr hz) l0 (merge 0 [(3,0,.cells 7 [h.l]),(6,0,.cells 5 [z1 0]),(10,0,.cells 5 [[.sl 3 [] .tight,.arr (0,39,0) 2 0 N,.sl 2 [] .tight,.str (bs []),i64 h.ver]]),(34,0,rdr (some r)),(39,0,.row 2 (L.map prV) false)] (fun _=>none))
        obtain ⟨x0,hx⟩:∃ x0,L[0+k.toNat]?=some x0:=⟨_,List.getElem?_eq_getElem (by omega)⟩
        refine wp_drw2 ?_
        repeat' first | (refine so ?_;(refine wp_callX hD hw rfl rfl rfl rfl rfl rfl rfl ?_)) | (refine so ?_;(refine wp_stRX (fun p=>(numL z.toNat (tkV z (some r)),p.2)) hx rfl rfl rfl rfl (fun _=>Nat.le_of_ble_eq_true rfl) (fun _=>rfl) ?_)) | refine ga ?_ | (refine gb ?_;intros) | (refine gd ?_ ?_<;>intros)
        show DrwE _ _ _ _ _ _ _
        refine ⟨rfl,?_,?_⟩
        · repeat' first | (refine so ?_;(refine wp_callX hD hw rfl rfl rfl rfl rfl rfl rfl ?_)) | (refine so ?_;(refine wp_stRX (fun p=>(numL z.toNat (tkV z (some r)),p.2)) hx rfl rfl rfl rfl (fun _=>Nat.le_of_ble_eq_true rfl) (fun _=>rfl) ?_)) | refine ga ?_ | (refine gb ?_;intros) | (refine gd ?_ ?_<;>intros)
          exact ⟨rfl,rfl⟩
        · repeat' first | refine ga ?_ | (refine gb ?_;intros) | (refine gd ?_ ?_<;>intros)
          have hz0:0+k.toNat=k.toNat:=Nat.zero_add _
          have hzl:z≤r.length:=by rcases hz with rfl | rfl<;>omega
          obtain ⟨q1,q2⟩:=tk1 (z:=z) (r:=r) (by omega) hzl
          rw [q1,q2]
          have e:(h.time - k).toNat=(h.time - (k+1)).toNat+1:=by omega
          rw [e] at h7 h8 h12
          simp only [rdN] at h7 h8
          rw [hz0] at hx
          obtain ⟨s1,s2,s3⟩:=set_tk (v:=(numL z.toNat (r.take z.toNat),x0.2)) h2 hx
          rw [h12,List.replicate_succ] at s3
          obtain ⟨s4,s5⟩:=List.cons.inj s3
          refine ⟨m - 1,by omega,k+1,a++[numL z.toNat (r.take z.toNat)],r.drop z.toNat,_,L.set (0+k.toNat) (numL z.toNat (r.take z.toNat),x0.2),_,_,⟨by omega,by omega,by omega,ol,by rw [List.length_drop];rcases hz with rfl | rfl<;>omega,by rw [← h7,List.append_assoc];rfl,h8,rfl,by rw [List.length_set];exact h9,h10,?_,?_⟩,rfl⟩
          · rw [hz0,s1,h11,List.map_append,← s4];rfl
          · rw [hz0,s2,← s5]
      all_goals (exfalso;omega)
    · have hkN:(h.time - k:Int).toNat=0:=by omega
      rw [hkN] at h7 h8
      simp only [rdN,List.append_nil] at h7 h8
      have hL:L=A1.map (fun x=>(x,0)):=by
        rw [List.take_of_length_le (by omega)] at h11
        rw [h11,h7]
      repeat' first | (refine so ?_;(refine hE _ _ _ _ h10 (by rw [hL]) h8.symm)) | refine ga ?_ | (refine gb ?_;intros) | (refine gd ?_ ?_<;>intros)
      all_goals (exfalso;omega)
end Go.Den
