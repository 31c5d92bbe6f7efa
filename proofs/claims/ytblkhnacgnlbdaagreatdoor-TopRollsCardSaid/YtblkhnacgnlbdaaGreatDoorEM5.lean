import Derived.Test.YtblkhnacgnlbdaaGreatDoorEG
import Derived.Test.YtblkhnacgnlbdaaGreatDoorET0
import Derived.Test.YtblkhnacgnlbdaaGreatDoorEM2
set_option linter.all false
namespace Go.Den
set_option maxHeartbeats 4000000
open Go.Proofs
set_option linter.unusedSimpArgs false
theorem may_of {n z:Int} (hz:z=1∨z=4∨z=8) (h:(if z=1 then n == IntKind.i64.wrap (IntKind.u8.wrap n) else if z=4 then n == IntKind.i64.wrap (IntKind.i32.wrap n) else z == 8)=true):(z=1→0≤n∧n < 256)∧(z=4→-2147483648≤n∧n < 2147483648):=by
  rcases hz with rfl | rfl | rfl
  · refine ⟨fun _=>?_,fun h=>absurd h (by decide)⟩
    rw [if_pos rfl] at h
    rw [beq_iff_eq,wrapU8,wrap64] at h
    split at h<;>omega
  · refine ⟨fun h=>absurd h (by decide),fun _=>?_⟩
    rw [if_neg (by decide),if_pos rfl] at h
    rw [beq_iff_eq,wrapI32,wrap64] at h
    split at h<;>split at h<;>omega
  · exact ⟨fun h=>absurd h (by decide),fun h=>absurd h (by decide)⟩
theorem may0 {z:Int} (hz:z=1∨z=4∨z=8):(if z=1 then (0:Int) == IntKind.i64.wrap (IntKind.u8.wrap 0) else if z=4 then (0:Int) == IntKind.i64.wrap (IntKind.i32.wrap 0) else z == 8)=true:=by
  rcases hz with rfl | rfl | rfl<;>rfl
theorem numS_step {f:Bool} {k:Nat} {a:Int} {l:List UInt8} {c:UInt8} (h:l[k]?=some c):numS f k a (l.drop k)=numS f (k+1) (if k=0∧f=true then IntKind.i8.wrap c.toNat else IntKind.i64.wrap (a*256+c.toNat)) (l.drop (k+1)):=by
  obtain ⟨hl,rfl⟩:=List.getElem?_eq_some_iff.mp h
  rw [List.drop_eq_getElem_cons hl]
  rfl
theorem w8 (a:Int):IntKind.i64.wrap (IntKind.i8.wrap a)=IntKind.i8.wrap a:=by
  have:=i8_r a
  exact wr (by omega)
theorem tkV_len (z:Int) (r:Option (List UInt8)) (hl:∀ l,r=some l→l.length≤1000000):(tkV z r).length≤1000000:=by
  rcases r with _ | l
  · exact Nat.zero_le _
  · have:=hl l rfl
    show (if 0≤z∧z≤l.length then l.take z.toNat else []).length≤1000000
    split
    · simp;omega
    · simp
theorem v126 (l:List UInt8) (hl:l.length≤1000000):∃ v,Val PT 126 [.sl 1 (u8l l) .sh] v∧v=.box [.sl 1 (u8l l) .sh,.bool false]:=by
  refine sv c126 fun Q hF=>?_
  repeat' first | refine ga ?_ | refine gb ?_ | intro _ | refine gd ?_ ?_ | (refine wp_clone rfl om ?_;rintro _ (⟨rfl,hne⟩ | ⟨rfl,hne⟩))
  all_goals (subst hF;(repeat refine ge ?_);try dsimp only [RA])
  all_goals rfl
theorem v205 (n:Int):∃ v,Val PT 205 [.int .u8 n] v∧v=.bool (n != 0):=by
  refine sv c205 fun Q hF=>?_
  repeat' first | refine ga ?_ | refine gb ?_ | intro _ | refine gd ?_ ?_
  all_goals (subst hF;(repeat refine ge ?_);try dsimp only [RA])
theorem v210 (n:Int):∃ v,Val PT 210 [.int .u8 n] v∧v=.bool (decide (n > 1)):=by
  refine sv c210 fun Q hF=>?_
  repeat' first | refine ga ?_ | refine gb ?_ | intro _ | refine gd ?_ ?_
  all_goals (subst hF;(repeat refine ge ?_);try dsimp only [RA])
theorem v129 (d:Nat) (q:Key) (hq:q.1≠d) (r:Option (List UInt8)) (n:Int) (hl:∀ l,r=some l→l.length≤1000000) (g:Frm):Acts PT 129 d [.ptr q 0 0,i64 n] g q (rdr r) (fun v ob=>v=.sl 1 (u8l (tkV n r)) .sh∧ob=rdr (tkR n r)):=by
  refine acts_of ?_
  rcases r with _ | l
  · rw [rdr_none]
    refine sA c129 fun Q hF=>?_
    repeat' first | refine ga ?_ | refine gb ?_ | intro _ | refine gd ?_ ?_ | (refine wp_clone rfl om ?_;rintro _ (⟨rfl,hne⟩ | ⟨rfl,hne⟩))
    all_goals (subst hF;(repeat refine ge ?_);try dsimp only [RA])
    all_goals exact ⟨_,rfl,(fun h=>by cases h),rfl,rfl⟩
  · have hl:=hl l rfl
    rw [rdr_some]
    refine sA c129 fun Q hF=>?_
    repeat' first | refine ga ?_ | refine gb ?_ | intro _ | refine gd ?_ ?_ | (refine wp_clone rfl om ?_;rintro _ (⟨rfl,hne⟩ | ⟨rfl,hne⟩))
    all_goals (subst hF;(repeat refine ge ?_);try dsimp only [RA])
    · rename_i h
      simp only [u8l_len,false_or] at h
      have hc:¬(0≤n∧n≤l.length):=by omega
      exact ⟨_,rfl,(fun h=>by cases h),by simp [tkV,hc,u8l],by rw [show tkR n (some l)=none from if_neg hc];rfl⟩
    all_goals (
      rename_i h
      simp only [u8l_len,false_or] at h
      have hc:0≤n∧n≤l.length:=by omega
      exact ⟨_,rfl,(fun h=>by cases h),by simp only [tkV,hc,and_self,if_true,u8l_take],by rw [show tkR n (some l)=some (l.drop n.toNat) from if_pos hc,rdr_some,u8l_drop]⟩)
theorem v206 (d:Nat) (q:Key) (hq:q.1≠d) (r:Option (List UInt8)) (g:Frm):Acts PT 206 d [.ptr q 0 0] g q (rdr r) (fun v ob=>v=.bool r.isSome∧ob=rdr r):=by
  refine acts_of ?_
  rcases r with _ | l
  · rw [rdr_none]
    refine sA c206 fun Q hF=>?_
    repeat' first | refine ga ?_ | refine gb ?_ | intro _ | refine gd ?_ ?_
    all_goals (subst hF;(repeat refine ge ?_);try dsimp only [RA])
    exact ⟨_,rfl,fun _=>rfl,rfl,rfl⟩
  · rw [rdr_some]
    refine sA c206 fun Q hF=>?_
    repeat' first | refine ga ?_ | refine gb ?_ | intro _ | refine gd ?_ ?_
    all_goals (subst hF;(repeat refine ge ?_);try dsimp only [RA])
    exact ⟨_,rfl,fun _=>rfl,rfl,rfl⟩
theorem v136 (a b c d e f h:Int):∃ v,Val PT 136 [.agg [i64 a,i64 b,i64 c,i64 d,i64 e,i64 f,i64 h]] v∧v=.bool (decide ((1≤a∧a≤4)∧(b=0∨b=f)∧(c=0∨c=f)∧(0≤d∧d≤201)∧(0≤e∧e≤2000)∧(1≤f∧f≤64)∧(1≤h∧h≤256))):=by
  refine sv c136 fun Q hF=>?_
  repeat' first | refine ga ?_ | (refine so ?_;first | refine cr (v214 _ _ _) rfl rfl rfl rfl rfl ?_ | (refine rgc rfl (v214 _ _ _) rfl rfl rfl rfl rfl ?_;rintro _ rfl<;>refine xq ?_)) | refine gb ?_ | intro _ | refine gd ?_ ?_
  all_goals (subst hF;(repeat refine ge ?_);try dsimp only [RA])
  congr 1
  rw [Bool.eq_iff_iff,Bp.iff (p:=_),decide_eq_true_eq]
  constructor<;>intro h<;>omega
theorem v223 (l:List UInt8) (n:Int) (z:Int) (hz:z=1∨z=4∨z=8) (hl:l.length≤1000000):∃ v,Val PT 223 [.sl 1 (u8l l) .sh,i64 n,i64 z] v∧∃ t,v=.tup [.sl 1 (u8l (if t then l++be z.toNat n else l)) .sh,.bool t]∧(t=true→(z=1→0≤n∧n < 256)∧(z=4→-2147483648≤n∧n < 2147483648)):=by
  refine sv c223 fun Q hF=>?_
  repeat' first | refine ga ?_ | (refine so ?_;first | refine cr (v209 _ _) rfl rfl rfl rfl rfl ?_) | refine gb ?_ | intro _ | refine gd ?_ ?_ | (refine wp_clone rfl om ?_;rintro _ (⟨rfl,hne⟩ | ⟨rfl,hne⟩))
  all_goals try (
    skip
    all_goals (subst hF;(repeat refine ge ?_);try dsimp only [RA])
    exact ⟨false,rfl,fun h=>by cases h⟩)
  all_goals (
    rename_i hm
    show WpL _ _ _ _
    refine wp_loop (n:=32) (fun m y=>∃ (k:Int) (b:List UInt8) (o:Own) (es:List (List V)),(k≤m∧0≤k∧k≤z∧b++be k.toNat n=l++be z.toNat n∧b.length≤1000000+z - k∧es=u8l b)∧(o=.uniq∨o=.tight∧b=[])∧y=⟨[(1,[],i64 n),(8,[],.sl 1 es o),(9,[],i64 k)],[],fun _=>none,false⟩) (8) ?_ ?_
    · refine ⟨z,l,_,_,⟨by omega,by omega,by omega,rfl,by omega,rfl⟩,?_,rfl⟩
      first
        | exact .inl rfl
        | (have:l=[]:=by (cases l with | nil=>rfl | cons a r=>cases hne)
           exact .inr ⟨rfl,this⟩)
    · rintro m _ ⟨k,b,o,es,⟨h1,h2,h3,h4,h5,rfl⟩,h6,rfl⟩
      show wpC PT 32 _ c223_l0 _ _
      unfold c223_l0
      have hst:0 < k→∀ (b':List UInt8),u8l b++[V.int .u8 (IntKind.u8.wrap (n.fdiv (2 ^ min (8*(k - 1)).toNat IntKind.i64.bits)))]::List.replicate 0 [V.int .u8 0]=u8l (b++[byteAt n (k - 1).toNat])∧(b++[byteAt n (k - 1).toNat])++be (k - 1).toNat n=l++be z.toNat n:=fun hk _=>by
        refine ⟨?_,?_⟩
        · rw [shr_byte n k (by omega),u8l_app];rfl
        · rw [← h4,List.append_assoc]
          congr 1
          have:k.toNat=(k - 1).toNat+1:=by omega
          rw [this];rfl
      rcases h6 with rfl | ⟨rfl,rfl⟩<;>repeat' first | refine ga ?_ | refine gb ?_ | intro _ | refine gd ?_ ?_ | (refine wp_clone rfl om ?_;rintro _ (⟨rfl,hne⟩ | ⟨rfl,hne⟩))
      all_goals try (
        rename_i hk
        obtain ⟨q1,q2⟩:=hst hk []
        refine ⟨m - 1,by omega,k - 1,_,.uniq,_,⟨by omega,by omega,by omega,q2,ol,rfl⟩,.inl rfl,?_⟩
        rw [← q1]
        rfl)
      all_goals (
        rename_i hk
        have hk0:k.toNat=0:=by omega
        rw [hk0] at h4
        simp only [be,List.append_nil] at h4)
      · skip
        all_goals (subst hF;(repeat refine ge ?_);try dsimp only [RA])
        refine ⟨true,by rw [h4];rfl,fun _=>may_of hz ?_⟩
        exact Classical.not_not.mp hm
      · exfalso
        have:=congrArg List.length h4
        rw [List.length_append,be_len] at this
        simp at this
        omega)
theorem v262 (l:List UInt8) (f:Nat) (F:Int→Bool) (hf:∀ n,∃ v,Val PT f [.int .u8 n] v∧v=.bool (F n)) (hl:l.length≤1000000):∃ v,Val PT 262 [.sl 1 (u8l l) .sh,.fn f [] []] v∧∃ k,v=i64 k∧(0≤k ↔ l.any (fun c=>F c.toNat)=true):=by
  refine sv c262 fun Q hF=>?_
  repeat' first | refine ga ?_ | refine gb ?_ | intro _ | refine gd ?_ ?_
  show WpL _ _ _ _
  refine wp_loop (n:=19) (fun m y=>∃ (k:Int),(l.length - k≤m∧0≤k∧k≤l.length∧l.any (fun c=>F c.toNat)=(l.drop k.toNat).any (fun c=>F c.toNat))∧y=⟨[(0,[],.sl 1 (u8l l) .sh),(1,[],.fn f [] []),(7,[],i64 l.length),(8,[],i64 k)],[],fun _=>none,false⟩) (l.length) ?_ ?_
  · exact ⟨0,⟨by omega,by omega,by omega,rfl⟩,by rw [← u8l_len];rfl⟩
  · rintro m _ ⟨k,⟨h1,h2,h3,h4⟩,rfl⟩
    show wpC PT 19 _ c262_l0 _ _
    unfold c262_l0
    repeat' first | refine ga ?_ | (refine so ?_;first | refine cr (hf _) rfl rfl rfl rfl rfl ?_) | refine gb ?_ | intro _ | refine gd ?_ ?_
    all_goals try (
      refine ⟨m - 1,by omega,k+1,⟨by omega,by omega,by omega,?_⟩,rfl⟩
      rw [h4]
      rename_i c hc hF2
      have hk:k.toNat < l.length:=by omega
      have e:(k+1).toNat=k.toNat+1:=by omega
      rw [List.drop_eq_getElem_cons hk,e,List.any_cons]
      have:l[k.toNat]=c:=by rw [List.getElem?_eq_getElem hk] at hc;exact Option.some.inj hc
      rw [this]
      simp only [Bool.not_eq_true] at hF2
      rw [hF2,Bool.false_or])
    all_goals (subst hF;(repeat refine ge ?_);try dsimp only [RA])
    · refine ⟨_,rfl,⟨fun _=>?_,fun _=>h2⟩⟩
      rename_i c hc hF2 _
      rw [List.any_eq_true]
      exact ⟨c,List.mem_of_getElem? hc,hF2⟩
    · refine ⟨_,rfl,⟨fun h=>absurd h (by decide),fun h=>?_⟩⟩
      rw [h4,List.drop_eq_nil_of_le (by omega)] at h
      cases h
theorem v207 (l:List UInt8) (f:Nat) (F:Int→Bool) (hf:∀ n,∃ v,Val PT f [.int .u8 n] v∧v=.bool (F n)) (hl:l.length≤1000000):∃ v,Val PT 207 [.sl 1 (u8l l) .sh,.fn f [] []] v∧v=.bool (l.any (fun c=>F c.toNat)):=by
  refine sv c207 fun Q hF=>?_
  repeat' first | refine ga ?_ | (refine so ?_;first | (refine wp_call (v262 l f F hf hl) rfl rfl rfl rfl ?_;rintro _ ⟨k,rfl,h⟩<;>refine xq ?_)) | refine gb ?_ | intro _ | refine gd ?_ ?_
  all_goals (subst hF;(repeat refine ge ?_);try dsimp only [RA])
  congr 1
  rw [Bool.eq_iff_iff,← h]
  simp
theorem v127 (d:Nat) (q:Key) (hq:q.1 < d) (r:Option (List UInt8)) (z:Int) (hz:z=1∨z=4∨z=8) (hl:∀ l,r=some l→l.length≤1000000) (g:Frm):Acts PT 127 d [.ptr q 0 0,i64 z] g q (rdr r) (fun v ob=>v=i64 (numL z.toNat (tkV z r))∧ob=rdr (tkR z r)):=by
  refine acts_of ?_
  refine sA c127 fun Q hF=>?_
  repeat' first | refine ga ?_ | (refine so ?_;first | refine cr (v209 _ _) rfl rfl rfl rfl rfl ?_ | (refine wp_callO (v129 _ _ (by omega) r _ hl) rfl rfl rfl rfl rfl (by first | omega | assumption) rfl ?_;rintro _ _ ⟨rfl,rfl⟩<;>refine xq (fun _ _=>?_))) | refine gb ?_ | intro _ | refine gd ?_ ?_
  · exfalso
    rename_i hm _ _
    exact hm (may0 hz)
  rename_i w hw
  have hL:=tkV_len z r hl
  have c4:(z.toNat == 4)=true ↔ z=4:=by rw [beq_iff_eq];omega
  show WpL _ _ _ _
  refine wp_loop (n:=35) (fun m y=>∃ (k a:Int),((tkV z r).length - k≤m∧0≤k∧k≤(tkV z r).length∧numL z.toNat (tkV z r)=numS (z.toNat == 4) k.toNat a ((tkV z r).drop k.toNat))∧y=⟨[(1,[],i64 z),(4,[],i64 a),(12,[],.sl 1 (u8l (tkV z r)) .sh),(13,[],i64 (tkV z r).length),(14,[],i64 k)],[],upd g q (rdr (tkR z r)),w⟩) ((tkV z r).length) ?_ ?_
  · exact ⟨0,0,⟨by omega,by omega,by omega,rfl⟩,by rw [← u8l_len];rfl⟩
  · rintro m _ ⟨k,a,⟨h1,h2,h3,h4⟩,rfl⟩
    show wpC PT 35 _ c127_l0 _ _
    unfold c127_l0
    repeat' first | refine ga ?_ | refine gb ?_ | intro _ | refine gd ?_ ?_
    · rename_i c hc hk
      refine ⟨m - 1,by omega,k+1,_,⟨by omega,by omega,by omega,?_⟩,rfl⟩
      rw [h4,numS_step hc,show (k+1).toNat=k.toNat+1 by omega,if_pos ⟨by omega,c4.mpr hk.2⟩,w8]
    · rename_i c hc hk
      refine ⟨m - 1,by omega,k+1,_,⟨by omega,by omega,by omega,?_⟩,rfl⟩
      rw [h4,numS_step hc,show (k+1).toNat=k.toNat+1 by omega,if_neg (fun h=>hk ⟨by omega,c4.mp h.2⟩)]
      congr 1
      rw [wr (a:=(c.toNat:Int)) (by have:=c.toNat_lt;omega)]
      exact (or_byte _ _ (by have:=c.toNat_lt;omega)).symm
    all_goals (subst hF;(repeat refine ge ?_);try dsimp only [RA])
    exact ⟨_,rfl,fun h=>(hw h).2,by rw [h4,List.drop_eq_nil_of_le (by omega)];rfl,rfl⟩
end Go.Den
