import Derived.Test.YtblkhnacgnlbdaaGreatDoorEG
import Derived.Test.YtblkhnacgnlbdaaGreatDoorET0
import Derived.Test.YtblkhnacgnlbdaaGreatDoorEM8
import Derived.Test.YtblkhnacgnlbdaaGreatDoorEM9
import Derived.Test.YtblkhnacgnlbdaaGreatDoorEMD
import Derived.Test.YtblkhnacgnlbdaaGreatDoorEME
import Derived.Test.YtblkhnacgnlbdaaGreatDoorEMF
import Derived.Test.YtblkhnacgnlbdaaGreatDoorEMG
import Derived.Test.YtblkhnacgnlbdaaGreatDoorEMH
import Derived.Test.YtblkhnacgnlbdaaGreatDoorEMI
set_option linter.all false
namespace Go.Den
set_option maxHeartbeats 4000000
open Go.Proofs
set_option linter.unusedSimpArgs false
set_option maxHeartbeats 1000000
theorem v27 (s:ByteArray) (t:Tb) (a b:Int) (c6:Val PT 6 [.str s] (.tup [t.v,.agg [i64 a,i64 b]])):∃ v,Val PT 27 [i64 2,.str s] v∧v=.tup [t.v,.agg [i64 a,i64 b]]:=by
  refine sv c27 fun Q hF=>?_
  repeat' first | refine ga ?_ | (refine so ?_;first | (refine wp_mkm ?_) | (refine wp_mset rfl rfl rfl rfl rfl rfl rfl (by rfl) ?_) | (refine wp_mget (r:=some (.fn 6 [] [])) rfl rfl rfl rfl (by rfl) (fun v hv=>?_) (fun h=>by cases h);cases hv) | refine cr ((⟨_,c6,rfl⟩:∃ v,Val PT 6 [.str s] v∧v=_)) rfl rfl rfl rfl rfl ?_) | (refine gb ?_;intros) | (refine gd ?_ ?_<;>intros)
  all_goals (subst hF;(repeat refine ge ?_);try dsimp only [RA])
  all_goals rfl
noncomputable def yZ (z:Zn) (t:Tb) (tr:List (Int × Int)):Zn:=⟨z.types,tr,recs z 0 t.leaps++if t.has then [(IntKind.i64.wrap (t.exp+sumR 0 t.leaps),sumR 0 t.leaps)] else [],z.foot,if t.has then 4 else z.ver⟩
theorem yZ_len (z:Zn) (t:Tb) (tr:List (Int × Int)) (ht:t.leaps.length≤200):t.leaps.length≤(yZ z t tr).leaps.length∧(yZ z t tr).leaps.length≤201:=by
  unfold yZ
  dsimp only
  rw [List.length_append,recs_len]
  split<;>simp<;>omega
theorem v28 (z:Zn) (t:Tb) (hz:ZOk z) (hf:z.foot.size≤50000):∃ v,Val PT 28 [z.v,t.v] v∧((∃ c,v=.tup [.sl 1 [] .sh,.agg [i64 0,i64 c]]∧c≠0)∨∃ tr p at',v=.tup [.sl 1 (u8l (encZ (yZ z t tr) p at')) .sh,.agg [i64 0,i64 0]]∧(tr.length=z.trans.length∧∀ q ∈ tr,R64 q.1)∧(t.leaps.length≤200∧∀ p ∈ t.leaps,730≤p.day∧p.day < 2932896∧(p.step=1∨p.step = -1))∧(1≤z.types.length∧z.types.length≤64)∧z.trans.length≤2000∧(∀ q ∈ z.trans,0≤q.2∧q.2 < z.types.length)∧ZOk (yZ z t tr)∧pdR (yZ z t tr) p at'∧(cntH (yZ z t tr) p).ok∧FitX (yZ z t tr) (if (yZ z t tr).ver=1 then 4 else 8) at'∧Val PT 26 [(yZ z t tr).v] (.bool true)):=by
  obtain ⟨_,c69,h69⟩:=v69 z t hz
  rcases h69 with ⟨c,rfl,hc⟩ | ⟨tr,htr,rfl,ht,h1,h3,h2⟩
  · refine sv c28 fun Q hF=>?_
    repeat' first | refine ga ?_ | (refine so ?_;first | refine cr ((⟨_,c69,rfl⟩:∃ v,Val PT 69 [z.v,t.v] v∧v=_)) rfl rfl rfl rfl rfl ?_) | (refine gb ?_;intros) | (refine gd ?_ ?_<;>intros)
    all_goals try (exfalso;omega)
    all_goals try show WpO _ _ _ _ _ _
    all_goals (subst hF;(repeat refine ge ?_);try dsimp only [RA])
    exact .inl ⟨_,rfl,hc⟩
  · have hy:ZOk (yZ z t tr):=⟨hz.1,by show tr.length≤_;rw [htr.1];exact hz.2.1,by have:=(yZ_len z t tr ht.1).2;omega,hz.2.2.2.1,hz.2.2.2.2⟩
    change Val PT 69 [z.v,t.v] (.tup [(yZ z t tr).v,i64 0]) at c69
    obtain ⟨_,c70,h70⟩:=v70 (yZ z t tr) hy hf
    rcases h70 with ⟨o,rfl⟩ | ⟨p,at',o,rfl,hp,hok,hfx,c26⟩
    · cases o<;>refine sv c28 fun Q hF=>?_<;>repeat' first | refine ga ?_ | (refine so ?_;first | refine cr ((⟨_,c69,rfl⟩:∃ v,Val PT 69 [z.v,t.v] v∧v=_)) rfl rfl rfl rfl rfl ?_ | refine cr ((⟨_,c70,rfl⟩:∃ v,Val PT 70 [(yZ z t tr).v] v∧v=_)) rfl rfl rfl rfl rfl ?_) | (refine gb ?_;intros) | (refine gd ?_ ?_<;>intros)
      all_goals try show WpO _ _ _ _ _ _
      all_goals (
        skip
        all_goals (subst hF;(repeat refine ge ?_);try dsimp only [RA]))
      all_goals exact .inl ⟨8,rfl,by decide⟩
    · cases o<;>refine sv c28 fun Q hF=>?_<;>repeat' first | refine ga ?_ | (refine so ?_;first | refine cr ((⟨_,c69,rfl⟩:∃ v,Val PT 69 [z.v,t.v] v∧v=_)) rfl rfl rfl rfl rfl ?_ | refine cr ((⟨_,c70,rfl⟩:∃ v,Val PT 70 [(yZ z t tr).v] v∧v=_)) rfl rfl rfl rfl rfl ?_) | (refine gb ?_;intros) | (refine gd ?_ ?_<;>intros)
      all_goals try show WpO _ _ _ _ _ _
      all_goals (
        skip
        all_goals (subst hF;(repeat refine ge ?_);try dsimp only [RA]))
      all_goals exact .inr ⟨tr,p,at',rfl,htr,ht,h1,h3,h2,hy,hp,hok,hfx,c26⟩
theorem v8f (s:ByteArray) (b:List UInt8) (t:Tb) (a c:Int) (c6:Val PT 6 [.str s] (.tup [t.v,.agg [i64 a,i64 c]])) (hc:c≠0):∃ v,Val PT 8 [i64 2,.str s,.sl 1 (u8l b) .sh] v∧v=.tup [.sl 1 [] .sh,.agg [i64 a,i64 c]]:=by
  refine sv c8 fun Q hF=>?_
  repeat' first | refine ga ?_ | (refine so ?_;first | refine cr (v27 s t a c c6) rfl rfl rfl rfl rfl ?_) | (refine gb ?_;intros) | (refine gd ?_ ?_<;>intros)
  all_goals try (exfalso;omega)
  all_goals try show WpO _ _ _ _ _ _
  all_goals (subst hF;(repeat refine ge ?_);try dsimp only [RA])
  rfl
theorem v8g (s:ByteArray) (b:List UInt8) (t:Tb) (a e:Int) (c6:Val PT 6 [.str s] (.tup [t.v,.agg [i64 a,i64 0]])) (c7:Val PT 7 [.sl 1 (u8l b) .sh] (.tup [z0.v,i64 e])) (he:e≠0):∃ v,Val PT 8 [i64 2,.str s,.sl 1 (u8l b) .sh] v∧v=.tup [.sl 1 [] .sh,.agg [i64 0,i64 e]]:=by
  refine sv c8 fun Q hF=>?_
  repeat' first | refine ga ?_ | (refine so ?_;first | refine cr (v27 s t a 0 c6) rfl rfl rfl rfl rfl ?_ | refine cr ((⟨_,c7,rfl⟩:∃ v,Val PT 7 [.sl 1 (u8l b) .sh] v∧v=_)) rfl rfl rfl rfl rfl ?_) | (refine gb ?_;intros) | (refine gd ?_ ?_<;>intros)
  all_goals try (exfalso;omega)
  all_goals try show WpO _ _ _ _ _ _
  all_goals (subst hF;(repeat refine ge ?_);try dsimp only [RA])
  rfl
theorem v8h (s:ByteArray) (b:List UInt8) (t:Tb) (a:Int) (z:Zn) (es:List (List V)) (q r:Int) (c6:Val PT 6 [.str s] (.tup [t.v,.agg [i64 a,i64 0]])) (c7:Val PT 7 [.sl 1 (u8l b) .sh] (.tup [z.v,i64 0])) (c28:Val PT 28 [z.v,t.v] (.tup [.sl 1 es .sh,.agg [i64 q,i64 r]])):∃ v,Val PT 8 [i64 2,.str s,.sl 1 (u8l b) .sh] v∧v=.tup [.sl 1 es .sh,.agg [i64 q,i64 r]]:=by
  refine sv c8 fun Q hF=>?_
  repeat' first | refine ga ?_ | (refine so ?_;first | refine cr (v27 s t a 0 c6) rfl rfl rfl rfl rfl ?_ | refine cr ((⟨_,c7,rfl⟩:∃ v,Val PT 7 [.sl 1 (u8l b) .sh] v∧v=_)) rfl rfl rfl rfl rfl ?_ | refine cr ((⟨_,c28,rfl⟩:∃ v,Val PT 28 [z.v,t.v] v∧v=_)) rfl rfl rfl rfl rfl ?_) | (refine gb ?_;intros) | (refine gd ?_ ?_<;>intros)
  all_goals try (exfalso;omega)
  all_goals try show WpO _ _ _ _ _ _
  all_goals (subst hF;(repeat refine ge ?_);try dsimp only [RA])
  rfl
end Go.Den
