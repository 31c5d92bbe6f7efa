import Derived.Test.YtblkhnacgnlbdaaGreatDoorEG
import Derived.Test.YtblkhnacgnlbdaaGreatDoorET0
import Derived.Test.YtblkhnacgnlbdaaGreatDoorEM1
import Derived.Test.YtblkhnacgnlbdaaGreatDoorEM2
import Derived.Test.YtblkhnacgnlbdaaGreatDoorEM6
set_option linter.all false
namespace Go.Den
set_option maxHeartbeats 4000000
open Go.Proofs
set_option linter.unusedSimpArgs false
set_option maxHeartbeats 1000000
def Dg (l:List UInt8):Prop:=∀ c ∈ l,48≤c.toNat∧c.toNat≤57
theorem v229 (s:ByteArray) (hs:s.size≤1000000):∃ v,Val PT 229 [.str s] v∧∃ k,v=i64 k∧0≤k∧k≤s.size∧Dg ((tl s).take k.toNat):=by
  refine sv c229 fun Q hF=>?_
  repeat' first | refine ga ?_ | refine gb ?_ | intro _ | refine gd ?_ ?_
  show WpL _ _ _ _
  refine wp_loop (n:=20) (fun m y=>∃ (p:Nat),(s.size - p≤m∧p≤s.size∧Dg ((tl s).take p))∧y=⟨[(0,[],.str s),(6,[],.ptr (0,6,0) 0 0)],[(6,0,.iter s p)],fun _=>none,false⟩) (s.size) ?_ ?_
  · exact ⟨0,⟨by omega,by omega,by simp [Dg]⟩,rfl⟩
  · rintro m _ ⟨p,⟨h1,h2,h3⟩,rfl⟩
    have hw:=dec_w s p
    show wpC PT 20 _ c229_l0 _ _
    unfold c229_l0
    repeat' first | refine ga ?_ | refine gb ?_ | intro _ | refine gd ?_ ?_
    · skip
      all_goals (subst hF;(repeat refine ge ?_);try dsimp only [RA])
      exact ⟨_,rfl,by omega,by omega,by simpa using h3⟩
    · rename_i hp hd
      have ha:=dec_ascii s p (by omega)
      rw [ha] at hd
      have hget:=get_b s p hp
      have hw1:=hw hp
      refine ⟨m - 1,by omega,_,⟨?_,hw1.2,?_⟩,rfl⟩
      · omega
      · rw [ha]
        have hlt:p < (tl s).length:=by rw [tl_len];exact hp
        rw [List.take_succ_eq_append_getElem hlt]
        intro c hc
        rcases List.mem_append.mp hc with h | h
        · exact h3 c h
        · rw [List.mem_singleton.mp h,← hget]
          simp only at hd
          omega
    · skip
      all_goals (subst hF;(repeat refine ge ?_);try dsimp only [RA])
      refine ⟨_,rfl,by omega,by omega,?_⟩
      rw [List.take_of_length_le (by rw [tl_len];omega)] at h3
      rw [List.take_of_length_le (by rw [tl_len];omega)]
      exact h3
theorem v276 (s:ByteArray) (hs:1≤s.size∧s.size≤3) (hd:Dg (tl s)):∃ v,Val PT 276 [.str s] v∧∃ n,v=.tup [i64 n,.nili]∧0≤n∧n≤1000:=by
  have hg:∀ i,i < s.size→48≤(s.get! i).toNat∧(s.get! i).toNat≤57:=fun i hi=>by
    rw [get_b s i hi];exact hd _ (List.getElem_mem _)
  have h0:=hg 0 (by omega)
  have h0':48≤((s.get! (Int.toNat 0)).toNat:Int)∧((s.get! (Int.toNat 0)).toNat:Int)≤57:=by
    have:Int.toNat 0=0:=rfl
    rw [this];omega
  refine sv c276 fun Q hF=>?_
  repeat' first | refine ga ?_ | refine gb ?_ | intro _ | refine gd ?_ ?_
  · exfalso;omega
  · exfalso;omega
  · skip
    show WpL _ _ _ _
    refine wp_loop (n:=77) (fun m y=>∃ (k a:Int) (o:Own),(s.size - k≤m∧0≤k∧k≤s.size∧0≤a∧(k=0→a=0)∧(k=1→a≤9)∧(k=2→a≤99)∧(k=3→a≤999))∧y=⟨[(5,[],.str s),(6,[],i64 a),(47,[],.sl 1 (str8 s) o),(48,[],i64 s.size),(49,[],i64 k)],[],fun _=>none,false⟩) (s.size) ?_ ?_
    · exact ⟨0,0,_,⟨by omega,by omega,by omega,by omega,by omega,by omega,by omega,by omega⟩,by rw [← str8_len];rfl⟩
    · rintro m _ ⟨k,a,o,⟨h1,h2,h3,h4,h5,h6,h7,h8⟩,rfl⟩
      have hgk:k < s.size→IntKind.i64.wrap (IntKind.u8.wrap (((s.get! k.toNat).toNat:Int) - 48))=((s.get! k.toNat).toNat:Int) - 48∧IntKind.u8.wrap (((s.get! k.toNat).toNat:Int) - 48)=((s.get! k.toNat).toNat:Int) - 48∧48≤((s.get! k.toNat).toNat:Int)∧((s.get! k.toNat).toNat:Int)≤57:=fun hk=>by
        have:=hg k.toNat (by omega)
        have e:IntKind.u8.wrap (((s.get! k.toNat).toNat:Int) - 48)=((s.get! k.toNat).toNat:Int) - 48:=by rw [wrapU8];omega
        exact ⟨by rw [e,wr (by omega)],e,by omega,by omega⟩
      show wpC PT 77 _ c276_l0 _ _
      unfold c276_l0
      cases o<;>repeat' first | refine ga ?_ | refine gb ?_ | intro _ | refine gd ?_ ?_
      all_goals try (exfalso;omega)
      all_goals try exact ⟨m - 1,by omega,k+1,_,_,⟨by omega,by omega,by omega,by omega,by omega,by omega,by omega,by omega⟩,rfl⟩
      all_goals (subst hF;(repeat refine ge ?_);try dsimp only [RA])
      all_goals exact ⟨_,rfl,by omega,by omega⟩
  · exfalso
    rename_i hx
    simp only [false_and,true_and,false_or] at hx
    omega
theorem v230 (s:ByteArray) (hs:1≤s.size∧s.size≤3) (hd:Dg (tl s)):∃ v,Val PT 230 [.str s] v∧∃ n,v=.tup [i64 n,.nili]∧0≤n∧n≤1000:=by
  refine sv c230 fun Q hF=>?_
  repeat' first | refine ga ?_ | (refine so ?_;first | (refine wp_call (v276 s hs hd) rfl rfl rfl rfl ?_;rintro _ ⟨n,rfl,h1,h2⟩<;>refine xq ?_)) | refine gb ?_ | intro _ | refine gd ?_ ?_
  all_goals (subst hF;(repeat refine ge ?_);try dsimp only [RA])
  exact ⟨_,rfl,h1,h2⟩
theorem dg_tk {s:ByteArray} {k j:Int} (h:Dg ((tl s).take k.toNat)) (hj:0≤j∧j≤k):Dg (tl (s.extract 0 j.toNat)):=by
  rw [tl_ext,List.drop_zero]
  intro c hc
  have:(tl s).take j.toNat=((tl s).take k.toNat).take j.toNat:=by rw [List.take_take];congr 1;omega
  rw [this] at hc
  exact h c (List.mem_of_mem_take hc)
theorem v299 (s:ByteArray) (n:Int) (hn:1≤n∧n≤3) (hs:s.size≤1000000):∃ v,Val PT 299 [.str s,i64 n] v∧∃ a r t,v=.tup [i64 a,.str r,.bool t]∧0≤a∧a≤1000∧r.size≤s.size:=by
  refine sv c299 fun Q hF=>?_
  repeat' first | refine ga ?_ | (refine so ?_;first | (refine wp_call (v229 s hs) rfl rfl rfl rfl ?_;rintro _ ⟨k,rfl,h1,h2,h3⟩<;>refine xq ?_) | (refine wp_call (v230 (s.extract 0 k.toNat) (by rw [ext_size];omega) (dg_tk h3 ⟨h1,Int.le_refl _⟩)) rfl rfl rfl rfl ?_;rintro _ ⟨a,rfl,h4,h5⟩<;>refine xq ?_)) | refine gb ?_ | intro _ | refine gd ?_ ?_
  all_goals (subst hF;(repeat refine ge ?_);try dsimp only [RA])
  · exact ⟨_,_,_,rfl,by omega,by omega,by omega⟩
  · exact ⟨_,_,_,rfl,h4,h5,by rw [ext_size];omega⟩
theorem dg13 {s:ByteArray} {k:Int} (h:Dg ((tl (s.extract 1 s.size)).take k.toNat)) (hk:2≤k):Dg (tl (s.extract 1 3)):=by
  rw [tl_ext,List.take_of_length_le (l:=tl s) (by rw [tl_len];omega)] at h
  rw [tl_ext,List.drop_take]
  intro c hc
  have:((tl s).drop 1).take (3 - 1)=(((tl s).drop 1).take k.toNat).take 2:=by rw [List.take_take];congr 1;omega
  rw [this] at hc
  exact h c (List.mem_of_mem_take hc)
theorem v231 (s:ByteArray) (hs:s.size≤1000000):∃ v,Val PT 231 [.str s] v∧∃ a r t,v=.tup [i64 a,.str r,.bool t]∧0≤a∧a≤1000∧r.size≤s.size:=by
  refine sv c231 fun Q hF=>?_
  repeat' first | refine ga ?_ | (refine so ?_;first | (refine rgc rfl (v229 (s.extract 1 s.size) (by rw [ext_size];omega)) rfl rfl rfl rfl rfl ?_;rintro _ ⟨k,rfl,h1,h2,h3⟩<;>refine xq ?_) | (refine wp_call (v230 (s.extract 1 3) (by rw [ext_size];omega) (dg13 h3 (by omega))) rfl rfl rfl rfl ?_;rintro _ ⟨n,rfl,h4,h5⟩<;>refine xq ?_)) | refine gb ?_ | intro _ | refine gd ?_ ?_
  all_goals (subst hF;(repeat refine ge ?_);try dsimp only [RA])
  · exact ⟨_,_,_,rfl,by omega,by omega,by omega⟩
  · refine ⟨_,_,_,rfl,h4,h5,?_⟩
    rw [ext_size];omega
theorem v232 (s:ByteArray) (b:Bool) (hs:s.size≤1000000):∃ v,Val PT 232 [.str s,.bool b] v∧∃ a r t,v=.tup [i64 a,.str r,.bool t]∧0≤a∧a≤1000∧r.size≤s.size:=by
  refine sv c232 fun Q hF=>?_
  repeat' first | refine ga ?_ | (refine so ?_;first | (refine wp_call (v231 s hs) rfl rfl rfl rfl ?_;rintro _ ⟨a,r,t,rfl,h1,h2,h3⟩<;>refine xq ?_)) | refine gb ?_ | intro _ | refine gd ?_ ?_
  all_goals (subst hF;(repeat refine ge ?_);try dsimp only [RA])
  · exact ⟨_,_,_,rfl,by omega,by omega,by omega⟩
  · exact ⟨_,_,_,rfl,h1,h2,h3⟩
theorem v275 (s t:ByteArray) (hs:s.size≤1000000) (ht:t.size≤1000000):∃ v,Val PT 275 [.str s,.str t] v∧∃ r,v=.str r∧r.size≤s.size:=by
  refine sv c275 fun Q hF=>?_
  repeat' first | refine ga ?_ | (refine so ?_;first | (refine wp_call (v261 s t hs ht) rfl rfl rfl rfl ?_;rintro _ (⟨rfl,h1,h2⟩ | rfl)<;>refine xq ?_)) | refine gb ?_ | intro _ | refine gd ?_ ?_
  all_goals try show WpO _ _ _ _ _ _
  all_goals (subst hF;(repeat refine ge ?_);try dsimp only [RA])
  · exact ⟨_,rfl,by rw [ext_size];omega⟩
  · exact ⟨_,rfl,Nat.le_refl _⟩
theorem v228 (s t:ByteArray) (hs:s.size≤1000000) (ht:t.size≤1000000):∃ v,Val PT 228 [.str s,.str t] v∧∃ r,v=.str r∧r.size≤s.size:=by
  refine sv c228 fun Q hF=>?_
  repeat' first | refine ga ?_ | (refine so ?_;first | (refine wp_call (v275 s t hs ht) rfl rfl rfl rfl ?_;rintro _ ⟨r,rfl,h⟩<;>refine xq ?_)) | refine gb ?_ | intro _ | refine gd ?_ ?_
  all_goals (subst hF;(repeat refine ge ?_);try dsimp only [RA])
  exact ⟨_,rfl,h⟩
theorem v156 (s:ByteArray) (hs:s.size≤1000000):∃ v,Val PT 156 [.str s] v∧∃ a r t,v=.tup [i64 a,.str r,.bool t]∧r.size≤s.size:=by
  refine sv c156 fun Q hF=>?_
  repeat' first | refine ga ?_ | (refine so ?_;first | (refine wp_call (v228 _ _ (by omega) (by decide)) rfl rfl rfl rfl ?_;rintro _ ⟨r,rfl,hr⟩<;>refine xq ?_) | (refine wp_call (v229 _ (by omega)) rfl rfl rfl rfl ?_;rintro _ ⟨k,rfl,h1,h2,h3⟩<;>refine xq ?_) | (refine wp_call (v230 (r.extract 0 (min k 3).toNat) (by rw [ext_size];omega) (dg_tk h3 (by omega))) rfl rfl rfl rfl ?_;rintro _ ⟨n,rfl,h4,h5⟩<;>refine xq ?_) | (refine wp_call (v231 _ (by rw [ext_size];omega)) rfl rfl rfl rfl ?_;rintro _ ⟨a2,r2,t2,rfl,h6,h7,h8⟩<;>refine xq ?_) | (refine wp_call (v232 _ _ (by rw [ext_size] at h8;omega)) rfl rfl rfl rfl ?_;rintro _ ⟨a3,r3,t3,rfl,h9,h10,h11⟩<;>refine xq ?_)) | refine gb ?_ | intro _ | refine gd ?_ ?_
  all_goals try show WpO _ _ _ _ _ _
  all_goals (subst hF;(repeat refine ge ?_);try dsimp only [RA])
  all_goals first
    | exact ⟨_,_,_,rfl,Nat.le_refl _⟩
    | (refine ⟨_,_,_,rfl,?_⟩;simp only [ext_size] at *;omega)
theorem v211 (s t:ByteArray) (hs:s.size≤1000000) (ht:t.size≤1000000):∃ v,Val PT 211 [.str s,.str t] v∧∃ r b,v=.tup [.str r,.bool b]∧r.size≤s.size:=by
  refine sv c211 fun Q hF=>?_
  repeat' first | refine ga ?_ | (refine so ?_;first | (refine wp_call (v261 s t hs ht) rfl rfl rfl rfl ?_;rintro _ (⟨rfl,h1,h2⟩ | rfl)<;>refine xq ?_)) | refine gb ?_ | intro _ | refine gd ?_ ?_
  all_goals (subst hF;(repeat refine ge ?_);try dsimp only [RA])
  · exact ⟨_,_,rfl,by rw [ext_size];omega⟩
  · exact ⟨_,_,rfl,Nat.le_refl _⟩
theorem v132 (s t:ByteArray) (hs:s.size≤1000000) (ht:t.size≤1000000):∃ v,Val PT 132 [.str s,.str t] v∧∃ r b,v=.tup [.str r,.bool b]∧r.size≤s.size:=by
  refine sv c132 fun Q hF=>?_
  repeat' first | refine ga ?_ | (refine so ?_;first | (refine wp_call (v211 s t hs ht) rfl rfl rfl rfl ?_;rintro _ ⟨r,b,rfl,h⟩<;>refine xq ?_)) | refine gb ?_ | intro _ | refine gd ?_ ?_
  all_goals (subst hF;(repeat refine ge ?_);try dsimp only [RA])
  exact ⟨_,_,rfl,h⟩
theorem v159 (a b c e f:Int):∃ v,Val PT 159 [.agg [i64 a,i64 b,i64 c,i64 e,i64 f]] v∧∃ t,v=.bool t:=by
  refine sv c159 fun Q hF=>?_
  repeat' first | refine ga ?_ | (refine so ?_;first | refine cr (v234 _ _ _) rfl rfl rfl rfl rfl ?_ | (refine rgc rfl (v234 _ _ _) rfl rfl rfl rfl rfl ?_;rintro _ rfl<;>refine xq ?_)) | refine gb ?_ | intro _ | refine gd ?_ ?_
  all_goals try show WpO _ _ _ _ _ _
  all_goals (subst hF;(repeat refine ge ?_);try dsimp only [RA])
  all_goals exact ⟨_,rfl⟩
theorem v298 (s:ByteArray) (hs:s.size≤1000000):∃ v,Val PT 298 [.str s] v∧∃ a b c e f r t,v=.tup [.agg [i64 a,i64 b,i64 c,i64 e,i64 f],.str r,.bool t]∧r.size≤s.size:=by
  refine sv c298 fun Q hF=>?_
  repeat' first | refine ga ?_ | (refine so ?_;first | (refine wp_call (v299 _ _ (by decide) (by omega)) rfl rfl rfl rfl ?_;rintro _ ⟨a,r,t,rfl,h1,h2,h3⟩<;>refine xq ?_) | (refine wp_call (v132 _ _ (by omega) (by decide)) rfl rfl rfl rfl ?_;rintro _ ⟨r,b,rfl,h⟩<;>refine xq ?_)) | refine gb ?_ | intro _ | refine gd ?_ ?_
  all_goals try show WpO _ _ _ _ _ _
  all_goals (subst hF;(repeat refine ge ?_);try dsimp only [RA])
  exact ⟨_,_,_,_,_,_,_,rfl,by omega⟩
theorem v278 (s:ByteArray) (hs:s.size≤1000000):∃ v,Val PT 278 [.str s] v∧∃ a b c e f r t,v=.tup [.agg [i64 a,i64 b,i64 c,i64 e,i64 f],.str r,.bool t]∧r.size≤s.size:=by
  refine sv c278 fun Q hF=>?_
  repeat' first | refine ga ?_ | (refine so ?_;first | (refine wp_call (v298 _ (by omega)) rfl rfl rfl rfl ?_;rintro _ ⟨a,b,c,e,f,r,t,rfl,h⟩<;>refine xq ?_) | (refine wp_call (v299 _ _ (by decide) (by omega)) rfl rfl rfl rfl ?_;rintro _ ⟨a,r,t,rfl,h1,h2,h3⟩<;>refine xq ?_) | (refine wp_call (v132 _ _ (by omega) (by decide)) rfl rfl rfl rfl ?_;rintro _ ⟨r,b,rfl,h⟩<;>refine xq ?_)) | refine gb ?_ | intro _ | refine gd ?_ ?_
  all_goals try show WpO _ _ _ _ _ _
  all_goals (subst hF;(repeat refine ge ?_);try dsimp only [RA])
  all_goals exact ⟨_,_,_,_,_,_,_,rfl,by omega⟩
theorem v233 (s:ByteArray) (hs:s.size≤1000000):∃ v,Val PT 233 [.str s] v∧∃ a b c e f r t,v=.tup [.agg [i64 a,i64 b,i64 c,i64 e,i64 f],.str r,.bool t]∧r.size≤s.size:=by
  refine sv c233 fun Q hF=>?_
  repeat' first | refine ga ?_ | (refine so ?_;first | (refine wp_call (v278 _ (by omega)) rfl rfl rfl rfl ?_;rintro _ ⟨a,b,c,e,f,r,t,rfl,h⟩<;>refine xq ?_) | (refine wp_call (v156 _ (by omega)) rfl rfl rfl rfl ?_;rintro _ ⟨a,r,t,rfl,h1⟩<;>refine xq ?_) | (refine wp_call (v132 _ _ (by omega) (by decide)) rfl rfl rfl rfl ?_;rintro _ ⟨r,b,rfl,h⟩<;>refine xq ?_) | (refine wp_call (v159 _ _ _ _ _) rfl rfl rfl rfl ?_;rintro _ ⟨t,rfl⟩<;>refine xq ?_) | (refine rgc rfl (v159 _ _ _ _ _) rfl rfl rfl rfl rfl ?_;rintro _ ⟨t,rfl⟩<;>refine xq ?_)) | refine gb ?_ | intro _ | refine gd ?_ ?_
  all_goals try show WpO _ _ _ _ _ _
  all_goals (subst hF;(repeat refine ge ?_);try dsimp only [RA])
  all_goals exact ⟨_,_,_,_,_,_,_,rfl,by omega⟩
theorem v158 (a:Int) (b:Bool) (s:ByteArray) (d:Bool) (hs:s.size≤1000000):∃ v,Val PT 158 [.agg [i64 a,.bool b,.str s],.bool d] v∧∃ t,v=.bool t:=by
  refine sv c158 fun Q hF=>?_
  repeat' first | refine ga ?_ | (refine so ?_;first | (refine wp_call (v180 s hs) rfl rfl rfl rfl ?_;rintro _ ⟨b2,rfl,h⟩<;>refine xq ?_)) | refine gb ?_ | intro _ | refine gd ?_ ?_
  all_goals try show WpO _ _ _ _ _ _
  all_goals (subst hF;(repeat refine ge ?_);try dsimp only [RA])
  all_goals exact ⟨_,rfl⟩
structure Ft where
  a:Int
  b:Bool
  c:ByteArray
  d:Int
  e:Bool
  f:ByteArray
  g:Bool
  r1:Int
  r2:Int
  r3:Int
  r4:Int
  r5:Int
  q1:Int
  q2:Int
  q3:Int
  q4:Int
  q5:Int
def Ft.l (x:Ft):List V:=[i64 x.a,.bool x.b,.str x.c,i64 x.d,.bool x.e,.str x.f,.bool x.g,i64 x.r1,i64 x.r2,i64 x.r3,i64 x.r4,i64 x.r5,i64 x.q1,i64 x.q2,i64 x.q3,i64 x.q4,i64 x.q5]
theorem v77 (x:Ft) (h1:x.c.size≤1000000) (h2:x.f.size≤1000000):∃ v,Val PT 77 [.agg x.l] v∧∃ t,v=.bool t:=by
  refine sv c77 fun Q hF=>?_
  repeat' first | refine ga ?_ | (refine so ?_;first | (refine wp_call (v158 _ _ _ _ h1) rfl rfl rfl rfl ?_;rintro _ ⟨t,rfl⟩<;>refine xq ?_) | (refine wp_call (v158 _ _ _ _ h2) rfl rfl rfl rfl ?_;rintro _ ⟨t,rfl⟩<;>refine xq ?_) | (refine rgc rfl (v158 _ _ _ _ h2) rfl rfl rfl rfl rfl ?_;rintro _ ⟨t,rfl⟩<;>refine xq ?_) | (refine rgc rfl (v159 _ _ _ _ _) rfl rfl rfl rfl rfl ?_;rintro _ ⟨t,rfl⟩<;>refine xq ?_)) | refine gb ?_ | intro _ | refine gd ?_ ?_
  all_goals try show WpO _ _ _ _ _ _
  all_goals (subst hF;(repeat refine ge ?_);try dsimp only [RA])
  all_goals exact ⟨_,rfl⟩
theorem v21t (s:ByteArray) (c:UInt8) (hs:s.size≤1000000):∃ v,Val PT 21 [.str s,.str (bs [c])] v∧∃ a b t,v=.tup [.str a,.str b,.bool t]∧a.size≤s.size∧b.size≤s.size:=by
  obtain ⟨v,h1,h2⟩:=v21 s c hs
  refine ⟨v,h1,?_⟩
  split at h2
  · exact ⟨_,_,_,h2,by rw [ext_size];omega,by rw [ext_size];omega⟩
  · exact ⟨_,_,_,h2,Nat.le_refl _,by have:(bs []).size=0:=rfl;omega⟩
theorem v155 (s:ByteArray) (hs:s.size≤1000000) (ft:Ft) (d:Nat) (hd:d=2) (g:Frm):Acts PT 155 d [.ptr (0,9,0) 0 0] g (0,9,0) (.cells 18 [.str s::ft.l]) (fun v ob=>∃ (n:ByteArray) (t:Bool) (s':ByteArray),v=.tup [.str n,.bool t]∧n.size≤s.size∧s'.size≤s.size∧ob=.cells 18 [.str s'::ft.l]):=by
  subst hd
  refine acts_of ?_
  refine sA c155 fun Q hF=>?_
  repeat' first | refine ga ?_ | (refine so ?_;first | (refine wp_call (v132 _ _ (by omega) (by decide)) rfl rfl rfl rfl ?_;rintro _ ⟨r,b,rfl,h⟩<;>refine xq ?_) | (refine wp_call (v225 _ 226 v226 (by omega)) rfl rfl rfl rfl ?_;rintro _ ⟨k,rfl,h1,h2,h3⟩<;>refine xq ?_) | (refine wp_call (v21t _ _ (by omega)) rfl rfl rfl rfl ?_;rintro _ ⟨a2,b2,t2,rfl,h4,h5⟩<;>refine xq ?_) | (refine rgc rfl (v180 _ (by omega)) rfl rfl rfl rfl rfl ?_;rintro _ ⟨b3,rfl,h6⟩<;>refine xq ?_) | (refine wp_call (v180 _ (by rw [ext_size];omega)) rfl rfl rfl rfl ?_;rintro _ ⟨b3,rfl,h6⟩<;>refine xq ?_)) | refine gb ?_ | intro _ | refine gd ?_ ?_
  all_goals try show WpO _ _ _ _ _ _
  all_goals (subst hF;(repeat refine ge ?_);try dsimp only [RA])
  all_goals refine ⟨_,rfl,by simp,_,_,_,rfl,?_,?_,rfl⟩
  all_goals first | omega | (rw [ext_size];omega)
theorem v73 (s:ByteArray) (hs:s.size≤1000000) (ft:Ft) (h1:ft.c.size≤1000000) (h2:ft.f.size≤1000000) (g:Frm):Acts PT 73 1 [.ptr (0,9,0) 0 0] g (0,9,0) (.cells 18 [.str s::ft.l]) (fun v ob=>(∃ b,v=.bool b)∧∃ (s':ByteArray) (ft':Ft),s'.size≤1000000∧ft'.c.size≤1000000∧ft'.f.size≤1000000∧ob=.cells 18 [.str s'::ft'.l]):=by
  refine acts_of ?_
  refine sA c73 fun Q hF=>?_
  repeat' first | refine ga ?_ | (refine so ?_;first | (refine wp_callO (v155 s hs ft 2 rfl) rfl rfl rfl rfl rfl (by first | omega | assumption) rfl ?_;rintro _ _ ⟨n,t,s',rfl,q1,q2,rfl⟩<;>refine xq (fun _ _=>?_)) | (refine wp_call (v156 _ (by omega)) rfl rfl rfl rfl ?_;rintro _ ⟨a,r,t2,rfl,q3⟩<;>refine xq ?_)) | refine gb ?_ | intro _ | refine gd ?_ ?_
  all_goals (subst hF;(repeat refine ge ?_);try dsimp only [RA])
  exact ⟨_,rfl,by simp,⟨_,rfl⟩,r,{ ft with a:=IntKind.i64.wrap (0 - a),b:=false,c:=n },by omega,by show n.size≤_;omega,h2,rfl⟩
theorem v74 (s:ByteArray) (hs:s.size≤1000000) (ft:Ft) (h1:ft.c.size≤1000000) (h2:ft.f.size≤1000000) (g:Frm):Acts PT 74 1 [.ptr (0,9,0) 0 0] g (0,9,0) (.cells 18 [.str s::ft.l]) (fun v ob=>(∃ b,v=.bool b)∧∃ (s':ByteArray) (ft':Ft),s'.size≤1000000∧ft'.c.size≤1000000∧ft'.f.size≤1000000∧ob=.cells 18 [.str s'::ft'.l]):=by
  refine acts_of ?_
  refine sA c74 fun Q hF=>?_
  repeat' first | refine ga ?_ | (refine so ?_;first | (refine wp_callO (v155 s hs ft 2 rfl) rfl rfl rfl rfl rfl (by first | omega | assumption) rfl ?_;rintro _ _ ⟨n,t,s',rfl,q1,q2,rfl⟩<;>refine xq (fun _ _=>?_)) | (refine wp_call (v156 _ (by omega)) rfl rfl rfl rfl ?_;rintro _ ⟨a,r,t2,rfl,q3⟩<;>refine xq ?_)) | refine gb ?_ | intro _ | refine gd ?_ ?_
  all_goals (
    show WpD _ _ _ _ _ _ _
    refine wp_drw2 ?_
    repeat' first | refine ga ?_ | refine gb ?_ | intro _ | refine gd ?_ ?_
    show DrwE _ _ _ _ _ _ _
    refine ⟨rfl,?_,?_⟩
    · repeat' first | refine ga ?_ | refine gb ?_ | intro _ | refine gd ?_ ?_
      exact ⟨rfl,rfl⟩
    repeat' first | refine ga ?_ | refine gb ?_ | intro _ | refine gd ?_ ?_
    all_goals (subst hF;(repeat refine ge ?_);try dsimp only [RA]))
  · exact ⟨_,rfl,by simp,⟨_,rfl⟩,r,{ ft with g:=true,d:=IntKind.i64.wrap (0 - a),e:=true,f:=n },by omega,h1,by show n.size≤_;omega,rfl⟩
  · exact ⟨_,rfl,by simp,⟨_,rfl⟩,s',{ ft with g:=true,d:=IntKind.i64.wrap (ft.a+3600),e:=true,f:=n },by omega,h1,by show n.size≤_;omega,rfl⟩
theorem v157 (s:ByteArray) (hs:s.size≤1000000) (ft:Ft) (h1:ft.c.size≤1000000) (h2:ft.f.size≤1000000) (o:Nat) (ho:o=8∨o=13) (g:Frm):Acts PT 157 2 [.ptr (0,9,0) 0 0,.ptr (0,9,0) 0 o] g (0,9,0) (.cells 18 [.str s::ft.l]) (fun v ob=>(∃ b,v=.bool b)∧∃ (s':ByteArray) (ft':Ft),s'.size≤1000000∧ft'.c.size≤1000000∧ft'.f.size≤1000000∧ob=.cells 18 [.str s'::ft'.l]):=by
  refine acts_of ?_
  rcases ho with rfl | rfl
  · refine sA c157 fun Q hF=>?_
    repeat' first | refine ga ?_ | (refine so ?_;first | (refine wp_call (v132 _ _ (by omega) (by decide)) rfl rfl rfl rfl ?_;rintro _ ⟨r,b,rfl,h⟩<;>refine xq ?_) | (refine wp_call (v233 _ (by omega)) rfl rfl rfl rfl ?_;rintro _ ⟨a,b2,c,e,f,r2,t,rfl,h3⟩<;>refine xq ?_)) | refine gb ?_ | intro _ | refine gd ?_ ?_
    all_goals (subst hF;(repeat refine ge ?_);try dsimp only [RA])
    exact ⟨_,rfl,by simp,⟨_,rfl⟩,r2,{ ft with r1:=a,r2:=b2,r3:=c,r4:=e,r5:=f },by omega,h1,h2,rfl⟩
  · refine sA c157 fun Q hF=>?_
    repeat' first | refine ga ?_ | (refine so ?_;first | (refine wp_call (v132 _ _ (by omega) (by decide)) rfl rfl rfl rfl ?_;rintro _ ⟨r,b,rfl,h⟩<;>refine xq ?_) | (refine wp_call (v233 _ (by omega)) rfl rfl rfl rfl ?_;rintro _ ⟨a,b2,c,e,f,r2,t,rfl,h3⟩<;>refine xq ?_)) | refine gb ?_ | intro _ | refine gd ?_ ?_
    all_goals (subst hF;(repeat refine ge ?_);try dsimp only [RA])
    exact ⟨_,rfl,by simp,⟨_,rfl⟩,r2,{ ft with q1:=a,q2:=b2,q3:=c,q4:=e,q5:=f },by omega,h1,h2,rfl⟩
theorem v75 (s:ByteArray) (hs:s.size≤1000000) (ft:Ft) (h1:ft.c.size≤1000000) (h2:ft.f.size≤1000000) (g:Frm):Acts PT 75 1 [.ptr (0,9,0) 0 0] g (0,9,0) (.cells 18 [.str s::ft.l]) (fun v ob=>(∃ b,v=.bool b)∧∃ (s':ByteArray) (ft':Ft),s'.size≤1000000∧ft'.c.size≤1000000∧ft'.f.size≤1000000∧ob=.cells 18 [.str s'::ft'.l]):=by
  refine acts_of ?_
  refine sA c75 fun Q hF=>?_
  repeat' first | refine ga ?_ | (refine so ?_;first | (refine wp_callO (v157 s hs ft h1 h2 8 (.inl rfl)) rfl rfl rfl rfl rfl (by first | omega | assumption) rfl ?_;rintro _ _ ⟨⟨b,rfl⟩,s',ft',q1,q2,q3,rfl⟩<;>refine xq (fun _ _=>?_))) | refine gb ?_ | intro _ | refine gd ?_ ?_
  all_goals (subst hF;(repeat refine ge ?_);try dsimp only [RA])
  exact ⟨_,rfl,fun hh=>by rename_i w hw;exact (hw hh).2,⟨_,rfl⟩,s',ft',q1,q2,q3,rfl⟩
theorem v76 (s:ByteArray) (hs:s.size≤1000000) (ft:Ft) (h1:ft.c.size≤1000000) (h2:ft.f.size≤1000000) (g:Frm):Acts PT 76 1 [.ptr (0,9,0) 0 0] g (0,9,0) (.cells 18 [.str s::ft.l]) (fun v ob=>(∃ b,v=.bool b)∧∃ (s':ByteArray) (ft':Ft),s'.size≤1000000∧ft'.c.size≤1000000∧ft'.f.size≤1000000∧ob=.cells 18 [.str s'::ft'.l]):=by
  refine acts_of ?_
  refine sA c76 fun Q hF=>?_
  repeat' first | refine ga ?_ | (refine so ?_;first | (refine wp_callO (v157 s hs ft h1 h2 13 (.inr rfl)) rfl rfl rfl rfl rfl (by first | omega | assumption) rfl ?_;rintro _ _ ⟨⟨b,rfl⟩,s',ft',q1,q2,q3,rfl⟩<;>refine xq (fun _ _=>?_))) | refine gb ?_ | intro _ | refine gd ?_ ?_
  all_goals (subst hF;(repeat refine ge ?_);try dsimp only [RA])
  exact ⟨_,rfl,fun hh=>by rename_i w hw;exact (hw hh).2,⟨_,rfl⟩,s',ft',q1,q2,q3,rfl⟩
def ft0:Ft:=⟨0,false,bs [],0,false,bs [],false,0,0,0,0,0,0,0,0,0,0⟩
theorem v30 (s:ByteArray) (hs:s.size≤1000000):∃ v,Val PT 30 [.str s] v∧∃ (ft:Ft) (t:Bool),v=.tup [.agg ft.l,.bool t]∧ft.c.size≤1000000∧ft.f.size≤1000000:=by
  have z1:ft0.c.size≤1000000:=by decide
  have z2:ft0.f.size≤1000000:=by decide
  refine sv c30 fun Q hF=>?_
  repeat' first | refine ga ?_ | (refine so ?_;first | (refine wp_lito rfl ?_)) | refine gb ?_ | intro _ | refine gd ?_ ?_
  (show WpL _ _ _ _;refine wp_unroll ?_;show WpB _ _ _ _ _ _;refine WpB.of c30_l0.eq_1 ?_)
  repeat' first | refine ga ?_ | (refine so ?_;first | (refine wp_callL (v73 s hs ft0 z1 z2) rfl rfl rfl rfl rfl rfl ?_;rintro _ _ ⟨⟨b1,rfl⟩,s1,ft1,q11,q12,q13,rfl⟩<;>refine xq (fun _ _=>?_)) | (refine rgc rfl (v77 ft1 q12 q13) rfl rfl rfl rfl rfl ?_;rintro _ ⟨tt,rfl⟩<;>refine xq ?_)) | refine gb ?_ | intro _ | refine gd ?_ ?_
  all_goals try (
    skip
    all_goals (subst hF;(repeat refine ge ?_);try dsimp only [RA])
    first
      | exact ⟨ft0,_,rfl,z1,z2⟩
      | exact ⟨ft1,_,rfl,q12,q13⟩
    done)
  (show WpL _ _ _ _;refine wp_unroll ?_;show WpB _ _ _ _ _ _;refine WpB.of c30_l0.eq_1 ?_)
  repeat' first | refine ga ?_ | (refine so ?_;first | (refine wp_callL (v74 s1 q11 ft1 q12 q13) rfl rfl rfl rfl rfl rfl ?_;rintro _ _ ⟨⟨b2,rfl⟩,s2,ft2,q21,q22,q23,rfl⟩<;>refine xq (fun _ _=>?_)) | (refine rgc rfl (v77 ft1 q12 q13) rfl rfl rfl rfl rfl ?_;rintro _ ⟨tt,rfl⟩<;>refine xq ?_) | (refine rgc rfl (v77 ft2 q22 q23) rfl rfl rfl rfl rfl ?_;rintro _ ⟨tt,rfl⟩<;>refine xq ?_)) | refine gb ?_ | intro _ | refine gd ?_ ?_
  all_goals try (
    skip
    all_goals (subst hF;(repeat refine ge ?_);try dsimp only [RA])
    first
      | exact ⟨ft0,_,rfl,z1,z2⟩
      | exact ⟨ft1,_,rfl,q12,q13⟩
      | exact ⟨ft2,_,rfl,q22,q23⟩
    done)
  (show WpL _ _ _ _;refine wp_unroll ?_;show WpB _ _ _ _ _ _;refine WpB.of c30_l0.eq_1 ?_)
  repeat' first | refine ga ?_ | (refine so ?_;first | (refine wp_callL (v75 s2 q21 ft2 q22 q23) rfl rfl rfl rfl rfl rfl ?_;rintro _ _ ⟨⟨b3,rfl⟩,s3,ft3,q31,q32,q33,rfl⟩<;>refine xq (fun _ _=>?_)) | (refine rgc rfl (v77 ft1 q12 q13) rfl rfl rfl rfl rfl ?_;rintro _ ⟨tt,rfl⟩<;>refine xq ?_) | (refine rgc rfl (v77 ft2 q22 q23) rfl rfl rfl rfl rfl ?_;rintro _ ⟨tt,rfl⟩<;>refine xq ?_) | (refine rgc rfl (v77 ft3 q32 q33) rfl rfl rfl rfl rfl ?_;rintro _ ⟨tt,rfl⟩<;>refine xq ?_)) | refine gb ?_ | intro _ | refine gd ?_ ?_
  all_goals try (
    skip
    all_goals (subst hF;(repeat refine ge ?_);try dsimp only [RA])
    first
      | exact ⟨ft0,_,rfl,z1,z2⟩
      | exact ⟨ft1,_,rfl,q12,q13⟩
      | exact ⟨ft2,_,rfl,q22,q23⟩
      | exact ⟨ft3,_,rfl,q32,q33⟩
    done)
  (show WpL _ _ _ _;refine wp_unroll ?_;show WpB _ _ _ _ _ _;refine WpB.of c30_l0.eq_1 ?_)
  repeat' first | refine ga ?_ | (refine so ?_;first | (refine wp_callL (v76 s3 q31 ft3 q32 q33) rfl rfl rfl rfl rfl rfl ?_;rintro _ _ ⟨⟨b4,rfl⟩,s4,ft4,q41,q42,q43,rfl⟩<;>refine xq (fun _ _=>?_)) | (refine rgc rfl (v77 ft1 q12 q13) rfl rfl rfl rfl rfl ?_;rintro _ ⟨tt,rfl⟩<;>refine xq ?_) | (refine rgc rfl (v77 ft2 q22 q23) rfl rfl rfl rfl rfl ?_;rintro _ ⟨tt,rfl⟩<;>refine xq ?_) | (refine rgc rfl (v77 ft3 q32 q33) rfl rfl rfl rfl rfl ?_;rintro _ ⟨tt,rfl⟩<;>refine xq ?_) | (refine rgc rfl (v77 ft4 q42 q43) rfl rfl rfl rfl rfl ?_;rintro _ ⟨tt,rfl⟩<;>refine xq ?_)) | refine gb ?_ | intro _ | refine gd ?_ ?_
  all_goals try (
    skip
    all_goals (subst hF;(repeat refine ge ?_);try dsimp only [RA])
    first
      | exact ⟨ft0,_,rfl,z1,z2⟩
      | exact ⟨ft1,_,rfl,q12,q13⟩
      | exact ⟨ft2,_,rfl,q22,q23⟩
      | exact ⟨ft3,_,rfl,q32,q33⟩
      | exact ⟨ft4,_,rfl,q42,q43⟩
    done)
  (show WpL _ _ _ _;refine wp_unroll ?_;show WpB _ _ _ _ _ _;refine WpB.of c30_l0.eq_1 ?_)
  repeat' first | refine ga ?_ | (refine so ?_;first | (refine rgc rfl (v77 ft4 q42 q43) rfl rfl rfl rfl rfl ?_;rintro _ ⟨tt,rfl⟩<;>refine xq ?_)) | refine gb ?_ | intro _ | refine gd ?_ ?_
  all_goals try (
    skip
    all_goals (subst hF;(repeat refine ge ?_);try dsimp only [RA])
    first
      | exact ⟨ft0,_,rfl,z1,z2⟩
      | exact ⟨ft1,_,rfl,q12,q13⟩
      | exact ⟨ft2,_,rfl,q22,q23⟩
      | exact ⟨ft3,_,rfl,q32,q33⟩
      | exact ⟨ft4,_,rfl,q42,q43⟩
    done)
end Go.Den
