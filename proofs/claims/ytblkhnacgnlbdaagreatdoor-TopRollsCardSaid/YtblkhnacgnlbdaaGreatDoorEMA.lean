import Derived.Test.YtblkhnacgnlbdaaGreatDoorEG
import Derived.Test.YtblkhnacgnlbdaaGreatDoorET0
import Derived.Test.YtblkhnacgnlbdaaGreatDoorEM5
import Derived.Test.YtblkhnacgnlbdaaGreatDoorEM7
import Derived.Test.YtblkhnacgnlbdaaGreatDoorEM9
set_option linter.all false
namespace Go.Den
set_option maxHeartbeats 4000000
open Go.Proofs
set_option linter.unusedSimpArgs false
set_option maxHeartbeats 1000000
theorem v154 (L:List (List UInt8)) (es:List (List V)) (he:es=L.map slE) (hL:L.length≤10) (hl:∀ l ∈ L,l.length≤100000):∃ v,Val PT 154 [.sl 1 es .sh] v∧∃ o,v=.sl 1 (u8l L.flatten) o:=by
  subst he
  refine sv c154 fun Q hF=>?_
  repeat' first | refine ga ?_ | refine gb ?_ | intro _ | refine gd ?_ ?_
  show WpL _ _ _ _
  refine wp_loop (n:=36) (fun m y=>∃ (k a:Int),(L.length - k≤m∧0≤k∧k≤L.length∧0≤a∧a≤100000*k)∧y=⟨[(0,[],.sl 1 (L.map slE) .sh),(3,[],i64 a),(9,[],.sl 1 (L.map slE) .sh),(10,[],i64 L.length),(11,[],i64 k)],[],fun _=>none,false⟩) (L.length) ?_ ?_
  · exact ⟨0,0,⟨by omega,by omega,by omega,by omega,by omega⟩,by rw [← List.length_map (f:=slE)];rfl⟩
  · rintro m _ ⟨k,a,⟨h1,h2,h3,h4,h5⟩,rfl⟩
    have hg:∀ {k:Nat} {b:List UInt8},L[k]?=some b→b.length≤100000:=fun h=>hl _ (List.mem_of_getElem? h)
    show wpC PT 36 _ c154_l0 _ _
    unfold c154_l0
    repeat' first | (refine so ?_;(refine ra rfl rfl (by rw [u8l_len];have:=hg (by assumption);omega) ?_)) | refine ga ?_ | (refine so ?_;first | (refine wp_grow rfl (by omega) ?_)) | refine gb ?_ | intro _ | refine gd ?_ ?_
    · exfalso
      omega
    · rename_i xv hx hn
      have:=hg hx
      exact ⟨m - 1,by omega,k+1,_,⟨by omega,by omega,by omega,by rw [u8l_len];omega,by rw [u8l_len];omega⟩,rfl⟩
    show WpL _ _ _ _
    refine wp_loop (n:=36) (fun m y=>∃ (k:Int) (b:List UInt8) (es:List (List V)),(L.length - k≤m∧0≤k∧k≤L.length∧b.length≤100000*k∧es=u8l b∧b=(L.take k.toNat).flatten)∧y=⟨[(6,[],.sl 1 es .uniq),(25,[],.sl 1 (L.map slE) .sh),(26,[],i64 L.length),(27,[],i64 k)],[],fun _=>none,false⟩) (L.length) ?_ ?_
    · exact ⟨0,[],_,⟨by omega,by omega,by omega,by simp,rfl,by simp⟩,by rw [← List.length_map (f:=slE)];rfl⟩
    · rintro m _ ⟨k,b,es,⟨h1,h2,h3,h4,rfl,h5⟩,rfl⟩
      show wpC PT 36 _ c154_l1 _ _
      unfold c154_l1
      repeat' first | (refine so ?_;(refine wp_appU rfl rfl (by rw [u8l_len,u8l_len];have:=hg (by assumption);omega) ?_)) | refine ga ?_ | refine gb ?_ | intro _ | refine gd ?_ ?_
      · rename_i xv hx
        have:=hg hx
        exact ⟨m - 1,by omega,k+1,b++xv,_,⟨by omega,by omega,by omega,ol,(u8l_app _ _).symm,by rw [take_step h2 hx,List.flatten_append,← h5];simp⟩,rfl⟩
      all_goals (subst hF;(repeat refine ge ?_);try dsimp only [RA])
      refine ⟨_,by rw [h5,List.take_of_length_le (by omega)]⟩
theorem tk6 {r:List UInt8} (h:6≤r.length):tkR 1 (tkR 1 (tkR 4 (some r)))=some (((r.drop 4).drop 1).drop 1)∧tkV 4 (some r)=r.take 4∧tkV 1 (tkR 4 (some r))=(r.drop 4).take 1∧tkV 1 (tkR 1 (tkR 4 (some r)))=((r.drop 4).drop 1).take 1:=by
  have e4:tkR 4 (some r)=some (r.drop 4):=if_pos ⟨by decide,by omega⟩
  have e5:tkR 1 (some (r.drop 4))=some ((r.drop 4).drop 1):=if_pos ⟨by decide,by rw [List.length_drop];omega⟩
  have e6:tkR 1 (some ((r.drop 4).drop 1))=some (((r.drop 4).drop 1).drop 1):=if_pos ⟨by decide,by rw [List.length_drop,List.length_drop];omega⟩
  refine ⟨by rw [e4,e5,e6],if_pos ⟨by decide,by omega⟩,by rw [e4];exact if_pos ⟨by decide,by rw [List.length_drop];omega⟩,by rw [e4,e5];exact if_pos ⟨by decide,by rw [List.length_drop,List.length_drop];omega⟩⟩
theorem tst (t:Bool) (a:List (Int × Int × Int)) (x:Int × Int × Int) (h:t=true ↔ ∀ z ∈ a,z.2.1 < 2):(bif t then decide (x.2.1 < 2) else false)=true ↔ ∀ z ∈ a++[x],z.2.1 < 2:=by
  rw [Bp.iff (b:=bif t then decide (x.2.1 < 2) else false)]
  constructor
  · rintro ⟨h1,h2⟩ z hz
    rcases List.mem_append.mp hz with q | q
    · exact h.mp h1 z q
    · rw [List.mem_singleton.mp q];exact h2
  · intro hh
    exact ⟨h.mpr fun z hz=>hh z (List.mem_append_left _ hz),hh x (by simp)⟩
theorem v128 (b:List UInt8) (N:Int) (hN:1≤N∧N≤64) (hb:N*6≤b.length) (hl:b.length≤1000000) (g:Frm):Acts PT 128 1 [.ptr (0,34,0) 0 0,i64 N] g (0,34,0) (rdr (some b)) (fun v ob=>(∃ t,v=.tup [.sl 3 ((rdT N.toNat b).1.map fun x=>tyV (x.1,x.2.1 == 1,bs [])) .uniq,.sl 1 ((rdT N.toNat b).1.map fun x=>itE x.2.2) .uniq,.bool t]∧(t=true ↔ ∀ x ∈ (rdT N.toNat b).1,x.2.1 < 2))∧ob=rdr (some (b.drop (N.toNat*6)))):=by
  refine acts_of ?_
  refine sA c128 fun Q hF=>?_
  repeat' first | refine ga ?_ | refine gb ?_ | intro _ | refine gd ?_ ?_
  show WpL _ _ _ _
  refine wp_loop (n:=38) (fun m y=>∃ (k:Int) (a:List (Int × Int × Int)) (r:List UInt8) (o1 o2:Own) (e1 e2:List (List V)) (t w:Bool),(N - k≤m∧0≤k∧k≤N∧a.length=k.toNat∧(N - k)*6≤r.length∧r.length≤1000000∧e1=(a.map fun x=>tyV (x.1,x.2.1 == 1,bs []))∧e2=(a.map fun x=>itE x.2.2)∧a++(rdT (N - k).toNat r).1=(rdT N.toNat b).1∧(rdT (N - k).toNat r).2=(rdT N.toNat b).2∧(t=true ↔ ∀ x ∈ a,x.2.1 < 2)∧(w=false→rdr (some r)=rdr (some b)))∧(o1=.uniq∧o2=.uniq∨o1=.tight∧o2=.tight∧k=0)∧y=⟨[(0,[],.ptr (0,34,0) 0 0),(4,[],.sl 3 e1 o1),(5,[],.sl 1 e2 o2),(6,[],.bool t),(9,[],i64 N),(10,[],i64 k)],[],upd g (0,34,0) (rdr (some r)),w⟩) (N.toNat) ?_ ?_
  · exact ⟨0,[],b,_,_,_,_,true,_,⟨by omega,by omega,by omega,rfl,by omega,hl,rfl,rfl,by simp,by simp,by simp,fun _=>rfl⟩,.inr ⟨rfl,rfl,rfl⟩,rfl⟩
  · rintro m _ ⟨k,a,r,o1,o2,e1,e2,t,w,⟨h1,h2,h3,h4,h5,h6,rfl,rfl,h7,h8,h9,h10⟩,h11,rfl⟩
    show wpC PT 38 _ c128_l0 _ _
    unfold c128_l0
    have l0:∀ l,some r=some l→l.length≤1000000:=by rintro _ ⟨⟩;exact h6
    have l1:=tkR_len 4 _ l0
    have l2:=tkR_len 1 _ l1
    rcases h11 with ⟨rfl,rfl⟩ | ⟨rfl,rfl,hk0⟩<;>repeat' first | refine ga ?_ | (refine so ?_;first | (refine wp_callO (v127 _ _ (by decide) (some r) 4 (by decide) l0) rfl rfl rfl rfl rfl (by first | omega | assumption) rfl ?_;rintro _ _ ⟨rfl,rfl⟩<;>refine xq (fun _ _=>?_)) | (refine wp_callO (v127 _ _ (by decide) _ _ (by decide) (by assumption)) rfl rfl rfl rfl rfl (by first | omega | assumption) rfl ?_;rintro _ _ ⟨rfl,rfl⟩<;>refine xq (fun _ _=>?_))) | refine gb ?_ | intro _ | refine gd ?_ ?_
    all_goals try (
      rename_i w1 hw1 w2 hw2 w3 hw3
      obtain ⟨q1,q2,q3,q4⟩:=tk6 (r:=r) (by omega)
      rw [q1,q2,q3,q4]
      have e:(N - k).toNat=(N - (k+1)).toNat+1:=by omega
      rw [e] at h7 h8
      simp only [rdT] at h7 h8
      exact ⟨m - 1,by omega,k+1,a++[(numL 4 (r.take 4),numL 1 ((r.drop 4).take 1),numL 1 (((r.drop 4).drop 1).take 1))],((r.drop 4).drop 1).drop 1,.uniq,.uniq,_,_,_,_,⟨by omega,by omega,by omega,ol,by simp only [List.length_drop];omega,by simp only [List.length_drop];omega,by rw [List.map_append];rfl,by rw [List.map_append];rfl,by rw [← h7,List.append_assoc];rfl,h8,tst t a _ h9,fun hh=>by have a3:=hw3 hh;have a2:=hw2 a3.1;have a1:=hw1 a2.1;rw [← q1];exact a3.2.trans (a2.2.trans (a1.2.trans (h10 a1.1)))⟩,.inl ⟨rfl,rfl⟩,rfl⟩)
    · have e:(N - k).toNat=0:=by omega
      rw [e] at h7 h8
      simp only [rdT,List.append_nil] at h7 h8
      all_goals (subst hF;(repeat refine ge ?_);try dsimp only [RA])
      refine ⟨_,rfl,h10,⟨t,by rw [h7],by rw [← h7];exact h9⟩,?_⟩
      rw [h8,(rdT_len N.toNat b).2]
    · exfalso
      omega
end Go.Den
