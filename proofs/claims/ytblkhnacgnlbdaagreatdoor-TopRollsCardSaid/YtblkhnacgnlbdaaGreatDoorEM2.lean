import Derived.Test.YtblkhnacgnlbdaaGreatDoorEG
import Derived.Test.YtblkhnacgnlbdaaGreatDoorET0
set_option linter.all false
namespace Go.Den
set_option maxHeartbeats 4000000
open Go.Proofs
theorem v78 (a b:Int):∃ v,Val PT 78 [i64 a,i64 b] v∧∃ c t,v=.tup [i64 c,.bool t]:=by
  refine sv c78 fun Q hF=>?_
  repeat' first | refine ga ?_ | refine gb ?_ | intro _ | refine gd ?_ ?_
  all_goals (subst hF;(repeat refine ge ?_);try dsimp only [RA])
  all_goals exact ⟨_,_,rfl⟩
theorem v101 (a b:Int):∃ v,Val PT 101 [i64 a,i64 b] v∧∃ c t,v=.tup [i64 c,.bool t]:=by
  refine sv c101 fun Q hF=>?_
  repeat' first | refine ga ?_ | refine gb ?_ | intro _ | refine gd ?_ ?_
  all_goals (subst hF;(repeat refine ge ?_);try dsimp only [RA])
  all_goals exact ⟨_,_,rfl⟩
theorem v102 (a b:Int):∃ v,Val PT 102 [i64 a,i64 b] v∧∃ q r t,v=.tup [i64 q,i64 r,.bool t]:=by
  refine sv c102 fun Q hF=>?_
  repeat' first | refine ga ?_ | refine gb ?_ | intro _ | refine gd ?_ ?_
  all_goals (subst hF;(repeat refine ge ?_);try dsimp only [RA])
  all_goals exact ⟨_,_,_,rfl⟩
theorem v288 (a:Int):∃ v,Val PT 288 [i64 a] v∧∃ c,v=.int .u64 c:=by
  refine sv c288 fun Q hF=>?_
  repeat' first | refine ga ?_ | refine gb ?_ | intro _ | refine gd ?_ ?_
  all_goals (subst hF;(repeat refine ge ?_);try dsimp only [RA])
  all_goals exact ⟨_,rfl⟩
theorem v187 (a b:Int):∃ v,Val PT 187 [.int .u64 a,.int .u64 b] v∧∃ c e,v=.tup [.int .u64 c,.int .u64 e]:=by
  refine sv c187 fun Q hF=>?_
  repeat' first | refine ga ?_ | refine gb ?_ | intro _ | refine gd ?_ ?_
  all_goals (subst hF;(repeat refine ge ?_);try dsimp only [RA])
  all_goals exact ⟨_,_,rfl⟩
theorem v257 (a b:Int):∃ v,Val PT 257 [i64 a,i64 b] v∧∃ c t,v=.tup [i64 c,.bool t]:=by
  refine sv c257 fun Q hF=>?_
  repeat' first | refine ga ?_ | (refine so ?_;first | (refine wp_call (v288 _) rfl rfl rfl rfl ?_;rintro _ ⟨c,rfl⟩<;>refine xq ?_) | (refine wp_call (v187 _ _) rfl rfl rfl rfl ?_;rintro _ ⟨c,e,rfl⟩<;>refine xq ?_)) | refine gb ?_ | intro _ | refine gd ?_ ?_
  all_goals (subst hF;(repeat refine ge ?_);try dsimp only [RA])
  all_goals exact ⟨_,_,rfl⟩
theorem v201 (a:Int):∃ v,Val PT 201 [i64 a] v∧∃ t,v=.bool t:=by
  refine sv c201 fun Q hF=>?_
  repeat' first | refine ga ?_ | refine gb ?_ | intro _ | refine gd ?_ ?_
  all_goals (subst hF;(repeat refine ge ?_);try dsimp only [RA])
  all_goals exact ⟨_,rfl⟩
theorem v214 (a b c:Int):∃ v,Val PT 214 [i64 a,i64 b,i64 c] v∧v=.bool (decide (b≤a∧a≤c)):=by
  refine sv c214 fun Q hF=>?_
  repeat' first | refine ga ?_ | refine gb ?_ | intro _ | refine gd ?_ ?_
  all_goals (subst hF;(repeat refine ge ?_);try dsimp only [RA])
  congr 1
  rw [Bool.eq_iff_iff]
  simp
theorem v204 (a:Int):∃ v,Val PT 204 [i64 a] v∧v=i64 (if a=0 then 1 else if 50≤a∧a≤52 then a - 48 else 0):=by
  refine sv c204 fun Q hF=>?_
  repeat' first | refine ga ?_ | refine gb ?_ | intro _ | refine gd ?_ ?_
  all_goals (subst hF;(repeat refine ge ?_);try dsimp only [RA])
  · rw [if_pos (by assumption)]
  · rw [if_neg (by assumption),if_pos (by omega)];rfl
  · rw [if_neg (by assumption),if_neg (by omega)]
theorem v209 (a b:Int):∃ v,Val PT 209 [i64 a,i64 b] v∧v=.bool (if b=1 then a == IntKind.i64.wrap (IntKind.u8.wrap a) else if b=4 then a == IntKind.i64.wrap (IntKind.i32.wrap a) else b == 8):=by
  refine sv c209 fun Q hF=>?_
  repeat' first | refine ga ?_ | refine gb ?_ | intro _ | refine gd ?_ ?_
  all_goals (subst hF;(repeat refine ge ?_);try dsimp only [RA])
  all_goals (first | (simp [*];done) | (rename_i h;simp [*];exact Classical.not_not.mp h))
theorem mon (n:Int) (h:0≤n∧n < 12):∃ c:Int,[i64 31,i64 28,i64 31,i64 30,i64 31,i64 30,i64 31,i64 31,i64 30,i64 31,i64 30,i64 31][n.toNat]?=some (i64 c)∧1≤c∧c≤31:=by
  obtain ⟨k,rfl⟩:∃ k:Nat,n=k:=⟨n.toNat,by omega⟩
  have hk:k < 12:=by omega
  revert k
  intro k h hk
  rcases k with _ | _ | _ | _ | _ | _ | _ | _ | _ | _ | _ | _ | k<;>first | exact ⟨_,rfl,by decide,by decide⟩ | omega
theorem v121 (a b:Int):∃ v,Val PT 121 [i64 a,i64 b] v∧∃ c t,v=.tup [i64 c,.bool t]:=by
  refine sv c121 fun Q hF=>?_
  repeat' first | refine ga ?_ | (refine so ?_;first | (refine rgc rfl (v201 _) rfl rfl rfl rfl rfl ?_;rintro _ ⟨t,rfl⟩<;>refine xq ?_) | (obtain ⟨c,h,_,_⟩:=mon (b - 1) (by omega);refine rx rfl rfl (by omega) h ?_)) | refine gb ?_ | intro _ | refine gd ?_ ?_
  all_goals (subst hF;(repeat refine ge ?_);try dsimp only [RA])
  all_goals exact ⟨_,_,rfl⟩
theorem v260 (a b c:Int):∃ v,Val PT 260 [i64 a,i64 b,i64 c] v∧∃ c t,v=.tup [i64 c,.bool t]:=by
  refine sv c260 fun Q hF=>?_
  repeat' first | refine ga ?_ | refine gb ?_ | intro _ | refine gd ?_ ?_
  all_goals (subst hF;(repeat refine ge ?_);try dsimp only [RA])
  all_goals exact ⟨_,_,rfl⟩
theorem v279 (a:Int):∃ v,Val PT 279 [i64 a] v∧∃ c,v=i64 c:=by
  refine sv c279 fun Q hF=>?_
  repeat' first | refine ga ?_ | (refine so ?_;first | (refine wp_call (v102 _ _) rfl rfl rfl rfl ?_;rintro _ ⟨q,r,t,rfl⟩<;>refine xq ?_)) | refine gb ?_ | intro _ | refine gd ?_ ?_
  all_goals (subst hF;(repeat refine ge ?_);try dsimp only [RA])
  all_goals exact ⟨_,rfl⟩
theorem v105 (a:Int):∃ v,Val PT 105 [i64 a] v∧∃ y m e t,v=.tup [i64 y,i64 m,i64 e,.bool t]:=by
  refine sv c105 fun Q hF=>?_
  repeat' first | refine ga ?_ | (refine so ?_;first | (refine wp_call (v102 _ _) rfl rfl rfl rfl ?_;rintro _ ⟨q,r,t,rfl⟩<;>refine xq ?_)) | refine gb ?_ | intro _ | refine gd ?_ ?_
  all_goals (subst hF;(repeat refine ge ?_);try dsimp only [RA])
  all_goals exact ⟨_,_,_,_,rfl⟩
theorem v54 (a b c:Int):∃ v,Val PT 54 [i64 a,i64 b,i64 c] v∧∃ n t,v=.tup [i64 n,.bool t]:=by
  refine sv c54 fun Q hF=>?_
  repeat' first | refine ga ?_ | (refine so ?_;first | (refine wp_call (v121 _ _) rfl rfl rfl rfl ?_;rintro _ ⟨c,t,rfl⟩<;>refine xq ?_) | (refine wp_call (v102 _ _) rfl rfl rfl rfl ?_;rintro _ ⟨q,r,t,rfl⟩<;>refine xq ?_)) | refine gb ?_ | intro _ | refine gd ?_ ?_
  all_goals (subst hF;(repeat refine ge ?_);try dsimp only [RA])
  all_goals exact ⟨_,_,rfl⟩
theorem v203 (a:Int):∃ v,Val PT 203 [i64 a] v∧∃ t,v=.bool t:=by
  refine sv c203 fun Q hF=>?_
  repeat' first | refine ga ?_ | (refine so ?_;first | (refine wp_call (v105 _) rfl rfl rfl rfl ?_;rintro _ ⟨y,m,e,t,rfl⟩<;>refine xq ?_) | (refine wp_call (v121 _ _) rfl rfl rfl rfl ?_;rintro _ ⟨c,t,rfl⟩<;>refine xq ?_)) | refine gb ?_ | intro _ | refine gd ?_ ?_
  all_goals (subst hF;(repeat refine ge ?_);try dsimp only [RA])
  all_goals exact ⟨_,rfl⟩
theorem v123 (k day step ahead:Int) (roll:Bool):∃ v,Val PT 123 [i64 k,.agg [i64 day,i64 step,.bool roll],i64 ahead] v∧∃ c,v=i64 c∧(c=0→k < 200∧730≤day∧day < 2932896∧(step=1∨step = -1)∧ahead < day):=by
  refine sv c123 fun Q hF=>?_
  repeat' first | refine ga ?_ | (refine so ?_;first | (refine wp_call (v203 _) rfl rfl rfl rfl ?_;rintro _ ⟨t,rfl⟩<;>refine xq ?_)) | refine gb ?_ | intro _ | refine gd ?_ ?_
  all_goals (subst hF;(repeat refine ge ?_);try dsimp only [RA])
  all_goals (refine ⟨_,rfl,?_⟩;first | (intro h;exact absurd h (by decide)) | (intro _;omega))
theorem v248 (c:Int):∃ v,Val PT 248 [.int .i32 c] v∧∃ t,v=.bool t∧(t=true→0 < c∧c < 128):=by
  refine sv c248 fun Q hF=>?_
  repeat' first | refine ga ?_ | refine gb ?_ | intro _ | refine gd ?_ ?_
  all_goals (subst hF;(repeat refine ge ?_);try dsimp only [RA])
  refine ⟨_,rfl,fun h=>?_⟩
  have h:=Bp.iff.mp h
  omega
theorem v273 (b:Bool):∃ v,Val PT 273 [.bool b] v∧v=i64 (if b then 1 else 0):=by
  refine sv c273 fun Q hF=>?_
  repeat' first | refine ga ?_ | refine gb ?_ | intro _ | refine gd ?_ ?_
  all_goals (subst hF;(repeat refine ge ?_);try dsimp only [RA])
  all_goals simp [*]
theorem v139 (a b c e f:Int):∃ v,Val PT 139 [.agg [i64 a,i64 b,i64 c,i64 e,i64 f]] v∧∃ t,v=.bool t:=by
  refine sv c139 fun Q hF=>?_
  repeat' first | refine ga ?_ | refine gb ?_ | intro _ | refine gd ?_ ?_
  all_goals (subst hF;(repeat refine ge ?_);try dsimp only [RA])
  all_goals exact ⟨_,rfl⟩
theorem v234 (a b c:Int):∃ v,Val PT 234 [i64 a,i64 b,i64 c] v∧v=.bool (decide (b≤a∧a≤c)):=by
  refine sv c234 fun Q hF=>?_
  repeat' first | refine ga ?_ | refine gb ?_ | intro _ | refine gd ?_ ?_
  all_goals (subst hF;(repeat refine ge ?_);try dsimp only [RA])
  congr 1
  rw [Bool.eq_iff_iff]
  simp
end Go.Den
