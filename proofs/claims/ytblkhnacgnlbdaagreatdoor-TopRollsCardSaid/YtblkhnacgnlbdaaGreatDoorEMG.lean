import Derived.Test.YtblkhnacgnlbdaaGreatDoorEG
import Derived.Test.YtblkhnacgnlbdaaGreatDoorET0
import Derived.Test.YtblkhnacgnlbdaaGreatDoorEM2
import Derived.Test.YtblkhnacgnlbdaaGreatDoorEM6
import Derived.Test.YtblkhnacgnlbdaaGreatDoorEM7
import Derived.Test.YtblkhnacgnlbdaaGreatDoorEM9
import Derived.Test.YtblkhnacgnlbdaaGreatDoorEMB
import Derived.Test.YtblkhnacgnlbdaaGreatDoorEMD
set_option linter.all false
namespace Go.Den
set_option maxHeartbeats 4000000
open Go.Proofs
set_option linter.unusedSimpArgs false
set_option maxHeartbeats 1000000
open Classical in
noncomputable def offZ (z:Zn) (a:Int):Int:=if h:∃ t,Val PT 9 [z.v,i64 a] (.agg (tyV t)) then h.choose.1 else 0
theorem offZ_eq {z:Zn} {a:Int} {t:Int × Bool × ByteArray} (h:Val PT 9 [z.v,i64 a] (.agg (tyV t))):offZ z a=t.1:=by
  have hh:∃ t,Val PT 9 [z.v,i64 a] (.agg (tyV t)):=⟨t,h⟩
  unfold offZ
  rw [dif_pos hh]
  have:=Val.det hh.choose_spec h
  injection this with this
  rw [tyV_inj this]
noncomputable def instZ (z:Zn) (p:Lp):Int:=if p.roll=true then IntKind.i64.wrap (IntKind.i64.wrap (IntKind.i64.wrap (p.day+1)*86400) - offZ z (IntKind.i64.wrap (IntKind.i64.wrap (IntKind.i64.wrap (p.day+1)*86400) - 1))) else IntKind.i64.wrap (IntKind.i64.wrap (p.day+1)*86400)
theorem v220z (z:Zn) (p:Lp) (hz:ZOk z) (h1:1≤z.types.length) (h2:∀ x ∈ z.trans,0≤x.2∧x.2 < z.types.length):∃ v,Val PT 220 [z.v,.agg p.l] v∧v=i64 (instZ z p):=by
  obtain ⟨v,hv,a,rfl,ha⟩:=v220 z p hz h1 h2
  obtain ⟨w,hw,t,rfl⟩:=v9 z (IntKind.i64.wrap (IntKind.i64.wrap (IntKind.i64.wrap (p.day+1)*86400) - 1)) hz h1 h2
  refine ⟨_,hv,?_⟩
  rw [ha t hw]
  unfold instZ
  rw [offZ_eq hw]
def sumR:Int→List Lp→Int
  | s,[]=>s
  | s,p::r=>sumR (IntKind.i64.wrap (s+p.step)) r
noncomputable def recs (z:Zn):Int→List Lp→List (Int × Int)
  | _,[]=>[]
  | s,p::r=>(IntKind.i64.wrap (IntKind.i64.wrap (instZ z p+s)+min p.step 0),IntKind.i64.wrap (s+p.step))::recs z (IntKind.i64.wrap (s+p.step)) r
theorem sumR_app (s:Int) (l:List Lp) (p:Lp):sumR s (l++[p])=IntKind.i64.wrap (sumR s l+p.step):=by
  induction l generalizing s with
  | nil=>rfl
  | cons a r ih=>exact ih _
theorem recs_app (z:Zn) (s:Int) (l:List Lp) (p:Lp):recs z s (l++[p])=recs z s l++[(IntKind.i64.wrap (IntKind.i64.wrap (instZ z p+sumR s l)+min p.step 0),IntKind.i64.wrap (sumR s l+p.step))]:=by
  induction l generalizing s with
  | nil=>rfl
  | cons a r ih=>exact congrArg (_::·) (ih _)
theorem recs_len (z:Zn) (s:Int) (l:List Lp):(recs z s l).length=l.length:=by
  induction l generalizing s with
  | nil=>rfl
  | cons a r ih=>exact congrArg (· + 1) (ih _)
theorem v137e (l:List (Int × Int)) (es:List (List V)) (he:es=l.map prV) (hl:l.length≤1000000):∃ v,Val PT 137 [.sl 2 es .sh] v∧∃ n c,v=.tup [i64 n,i64 c]∧(c=0→l.length≤201):=by
  subst he
  exact v137 l hl
theorem v148 (z:Zn) (t:Tb) (hz:ZOk z) (h1:1≤z.types.length) (h2:∀ x ∈ z.trans,0≤x.2∧x.2 < z.types.length) (ht:t.leaps.length≤200):∃ v,Val PT 148 [z.v,t.v] v∧((∃ o c,v=.tup [.sl 2 [] o,i64 c]∧c≠0)∨∃ o,v=.tup [.sl 2 ((recs z 0 t.leaps++if t.has then [(IntKind.i64.wrap (t.exp+sumR 0 t.leaps),sumR 0 t.leaps)] else []).map prV) o,i64 0]):=by
  have e1:(t.leaps.map Lp.l).length=t.leaps.length:=List.length_map _
  refine sv c148 fun Q hF=>?_
  repeat' first | refine ga ?_ | refine gb ?_ | intro _ | refine gd ?_ ?_
  show WpL _ _ _ _
  refine wp_loop (n:=60) (fun m y=>∃ (k:Int) (s:Int) (l:List (Int × Int)) (o:Own) (es:List (List V)) (N:Int),(t.leaps.length - k≤m∧0≤k∧k≤t.leaps.length∧s=sumR 0 (t.leaps.take k.toNat)∧l=recs z 0 (t.leaps.take k.toNat)∧es=l.map prV∧N=t.leaps.length)∧(o=.uniq∨o=.tight∧l=[])∧y=⟨[(2,[],.ptr (0,2,0) 0 0),(3,[],.ptr (0,3,0) 0 0),(6,[],.sl 2 es o),(7,[],i64 s),(14,[],.sl 3 (t.leaps.map Lp.l) .sh),(15,[],i64 N),(16,[],i64 k)],[(2,0,.cells 5 [z.l]),(3,0,.cells 3 [t.l])],fun _=>none,false⟩) (t.leaps.length) ?_ ?_
  · exact ⟨0,0,[],.tight,[],_,⟨by omega,by omega,by omega,rfl,rfl,rfl,by rw [← e1]⟩,.inr ⟨rfl,rfl⟩,rfl⟩
  · rintro m _ ⟨k,s,l,o,es,N,⟨h3,h4,h5,h6,h7,rfl,h9⟩,h10,rfl⟩
    show wpC PT 60 _ c148_l0 _ _
    unfold c148_l0
    have h8:l.length≤200:=by rw [h7,recs_len,List.length_take];omega
    rcases h10 with rfl | ⟨rfl,rfl⟩
    · skip
      repeat' first | refine ga ?_ | (refine so ?_;first | (refine wp_callp (v220z z _ hz h1 h2) rfl rfl rfl rfl ?_;rintro _ rfl<;>refine xq ?_) | (refine wp_call (v137e (l++[(IntKind.i64.wrap (t.exp+s),s)]) _ (by rw [List.map_append];rfl) (by simp<;>omega)) rfl rfl rfl rfl ?_;rintro _ ⟨n,c,rfl,hc⟩<;>refine xq ?_) | (refine wp_call (v137e l _ rfl (by omega)) rfl rfl rfl rfl ?_;rintro _ ⟨n,c,rfl,hc⟩<;>refine xq ?_)) | refine gb ?_ | intro _ | refine gd ?_ ?_
      · rename_i p hp
        refine ⟨m - 1,by omega,k+1,IntKind.i64.wrap (s+p.step),l++[(IntKind.i64.wrap (IntKind.i64.wrap (instZ z p+s)+min p.step 0),IntKind.i64.wrap (s+p.step))],.uniq,_,_,⟨by omega,by omega,by omega,by rw [take_step h4 hp,sumR_app,← h6],by rw [take_step h4 hp,recs_app,← h6,← h7],rfl,h9⟩,.inl rfl,?_⟩
        first | (rw [List.map_append];rfl) | rfl
      all_goals (
        have hk:t.leaps.take k.toNat=t.leaps:=List.take_of_length_le (by omega)
        rw [hk] at h6 h7)
      all_goals try show WpO _ _ _ _ _ _
      all_goals (subst hF;(repeat refine ge ?_);try dsimp only [RA])
      all_goals try (exact .inl ⟨_,_,rfl,by rename_i hc;simpa using hc⟩)
      · refine .inr ⟨.sh,?_⟩
        rw [← h6,← h7,if_pos (by assumption),List.map_append]
        rfl
      · refine .inr ⟨.sh,?_⟩
        rw [← h7,if_neg (by assumption),List.append_nil]
    · skip
      repeat' first | refine ga ?_ | (refine so ?_;first | (refine wp_callp (v220z z _ hz h1 h2) rfl rfl rfl rfl ?_;rintro _ rfl<;>refine xq ?_) | (refine wp_call (v137e (([]:List (Int × Int))++[(IntKind.i64.wrap (t.exp+s),s)]) _ (by rw [List.map_append];rfl) (by simp<;>omega)) rfl rfl rfl rfl ?_;rintro _ ⟨n,c,rfl,hc⟩<;>refine xq ?_) | (refine wp_call (v137e ([]:List (Int × Int)) _ rfl (by omega)) rfl rfl rfl rfl ?_;rintro _ ⟨n,c,rfl,hc⟩<;>refine xq ?_)) | refine gb ?_ | intro _ | refine gd ?_ ?_
      · rename_i p hp
        refine ⟨m - 1,by omega,k+1,IntKind.i64.wrap (s+p.step),([]:List (Int × Int))++[(IntKind.i64.wrap (IntKind.i64.wrap (instZ z p+s)+min p.step 0),IntKind.i64.wrap (s+p.step))],.uniq,_,_,⟨by omega,by omega,by omega,by rw [take_step h4 hp,sumR_app,← h6],by rw [take_step h4 hp,recs_app,← h6,← h7],rfl,h9⟩,.inl rfl,?_⟩
        first | (rw [List.map_append];rfl) | rfl
      all_goals (
        have hk:t.leaps.take k.toNat=t.leaps:=List.take_of_length_le (by omega)
        rw [hk] at h6 h7)
      all_goals try show WpO _ _ _ _ _ _
      all_goals (subst hF;(repeat refine ge ?_);try dsimp only [RA])
      all_goals try (exact .inl ⟨_,_,rfl,by rename_i hc;simpa using hc⟩)
      · refine .inr ⟨.sh,?_⟩
        rw [← h6,← h7,if_pos (by assumption),List.map_append]
        rfl
      · refine .inr ⟨.sh,?_⟩
        rw [← h7,if_neg (by assumption),List.append_nil]
theorem may4 {n:Int} (h:-2147483648≤n∧n < 2147483648):(if (4:Int)=1 then n == IntKind.i64.wrap (IntKind.u8.wrap n) else if (4:Int)=4 then n == IntKind.i64.wrap (IntKind.i32.wrap n) else (4:Int) == 8)=true:=by
  rw [if_neg (by decide),if_pos rfl,beq_iff_eq,wrapI32,wrap64]
  split<;>split<;>omega
theorem v223x (l:List UInt8) (n:Int) (hn:-2147483648≤n∧n < 2147483648) (hl:l.length≤1000000):∃ v,Val PT 223 [.sl 1 (u8l l) .sh,i64 n,i64 4] v∧v=.tup [.sl 1 (u8l (l++be 4 n)) .sh,.bool true]:=by
  refine sv c223 fun Q hF=>?_
  repeat' first | refine ga ?_ | (refine so ?_;first | refine cr (v209 _ _) rfl rfl rfl rfl rfl ?_) | refine gb ?_ | intro _ | refine gd ?_ ?_ | (refine wp_clone rfl om ?_;rintro _ (⟨rfl,hne⟩ | ⟨rfl,hne⟩))
  all_goals try (
    skip
    exfalso
    rename_i hx
    exact hx (may4 hn))
  all_goals (
    rename_i hm
    show WpL _ _ _ _
    refine wp_loop (n:=32) (fun m y=>∃ (k:Int) (b:List UInt8) (o:Own) (es:List (List V)),(k≤m∧0≤k∧k≤4∧b++be k.toNat n=l++be 4 n∧b.length≤1000000+4 - k∧es=u8l b)∧(o=.uniq∨o=.tight∧b=[])∧y=⟨[(1,[],i64 n),(8,[],.sl 1 es o),(9,[],i64 k)],[],fun _=>none,false⟩) (8) ?_ ?_
    · refine ⟨4,l,_,_,⟨by omega,by omega,by omega,rfl,by omega,rfl⟩,?_,rfl⟩
      first
        | exact .inl rfl
        | (have:l=[]:=by (cases l with | nil=>rfl | cons a r=>cases hne)
           exact .inr ⟨rfl,this⟩)
    · rintro m _ ⟨k,b,o,es,⟨h1,h2,h3,h4,h5,rfl⟩,h6,rfl⟩
      show wpC PT 32 _ c223_l0 _ _
      unfold c223_l0
      have hst:0 < k→∀ (b':List UInt8),u8l b++[V.int .u8 (IntKind.u8.wrap (n.fdiv (2 ^ min (8*(k - 1)).toNat IntKind.i64.bits)))]::List.replicate 0 [V.int .u8 0]=u8l (b++[byteAt n (k - 1).toNat])∧(b++[byteAt n (k - 1).toNat])++be (k - 1).toNat n=l++be 4 n:=fun hk _=>by
        refine ⟨?_,?_⟩
        · rw [shr_byte n k (by omega),u8l_app];rfl
        · rw [← h4,List.append_assoc]
          congr 1
          have:k.toNat=(k - 1).toNat+1:=by omega
          rw [this];rfl
      rcases h6 with rfl | ⟨rfl,rfl⟩<;>repeat' first | refine ga ?_ | refine gb ?_ | intro _ | refine gd ?_ ?_ | (refine wp_clone rfl om ?_;rintro _ (⟨rfl,hne⟩ | ⟨rfl,hne⟩))
      all_goals try (
        rename_i hk
        obtain ⟨q1,q2⟩:=hst hk []
        refine ⟨m - 1,by omega,k - 1,_,.uniq,_,⟨by omega,by omega,by omega,q2,ol,rfl⟩,.inl rfl,?_⟩
        rw [← q1]
        rfl)
      all_goals (
        rename_i hk
        have hk0:k.toNat=0:=by omega
        rw [hk0] at h4
        simp only [be,List.append_nil] at h4)
      · skip
        all_goals (subst hF;(repeat refine ge ?_);try dsimp only [RA])
        rw [h4]
        rfl
      · exfalso
        have:=congrArg List.length h4
        simp at this)
theorem v153n (h:Hd) (hn:¬h.ok):∃ v,Val PT 153 [.agg h.l] v∧∃ o,v=.tup [.sl 1 [] o,.bool false]:=by
  refine sv c153 fun Q hF=>?_
  repeat' first | refine ga ?_ | (refine so ?_;first | refine cr (v136h h) rfl rfl rfl rfl rfl ?_) | refine gb ?_ | intro _ | refine gd ?_ ?_
  all_goals try (exfalso;rename_i hx;exact hx hn)
  all_goals try show WpO _ _ _ _ _ _
  all_goals (subst hF;(repeat refine ge ?_);try dsimp only [RA])
  exact ⟨_,rfl⟩
theorem wp_cpyE {P:Nat→Option Fun} {n d:Nat} {y:Ys} {k:Ys→Prop} {t t' u' m:Nat} {a b:A} {es es':List (List V)} {x:ByteArray} {c:Int} (e1:ev y [] a=some (.arr (d,t',u') 1 0 m)) (e2:ev y [] b=some (.str x)) (el:alook y.l t' u'=some (.row 1 es false)) (hm:m≤es.length) (he:(str8 x).take m++es.drop (min (str8 x).length m)=es') (hc:((min (str8 x).length m:Nat):Int)=c) (h:updC y.l t' u' (fun _ k2=>k2 (.row 1 es' false)) fun l=>putK n ⟨y.e,l,y.f,y.w⟩ t (.int .i64 c) k):WpO P n d (.cpy t 1 a b) y k:=by
  subst he
  subst hc
  exact wp_cpy e1 e2 el hm h
theorem pA (L:List UInt8) (n:Int) (hn:-2147483648≤n∧n < 2147483648) (hL:L.length=20):∃ v,Val PT 223 ([]++(.sl 1 ((u8l L).take 20) .sh::[i64 n,i64 4].map V.sh)++[]) v∧v=.tup [.sl 1 (u8l (L++be 4 n)) .sh,.bool true]:=by
  have:(u8l L).take 20=u8l L:=List.take_of_length_le (by rw [u8l_len];omega)
  rw [this]
  exact v223x L n hn (by omega)
theorem hdl (L:List UInt8) (k:Nat) (x:UInt8) (h:L.length=20):(L.set k x).length=20:=by rw [List.length_set];exact h
theorem v153a (h:Hd) (hok:h.ok) (hv:1 < h.ver):∃ v,Val PT 153 [.agg h.l] v∧v=.tup [.sl 1 (u8l h.bytes) .sh,.bool true]:=by
  have hk:=hok
  unfold Hd.ok at hk
  obtain ⟨hk1,hk2,hk3,hk4,hk5,hk6,hk7⟩:=hk
  refine sv c153 fun Q hF=>?_
  repeat' first | refine ga ?_ | (refine so ?_;first | refine cr (v136h h) rfl rfl rfl rfl rfl ?_ | (refine wp_cpyE (es':=u8l ([84,90,105,102]++List.replicate 16 0)) (c:=4) rfl rfl rfl (by decide) (by rfl) rfl ?_) | (refine wp_iaA rfl rfl rfl (by decide) ?_)) | refine gb ?_ | intro _ | refine gd ?_ ?_
  all_goals try (exfalso;rename_i hx;exact hx hok)
  all_goals try (exfalso;rename_i hx;exact hx hv)
  generalize hL:List.set ([84,90,105,102]++List.replicate 16 (0:UInt8)) _ _=L
  have hLl:L.length=20:=by rw [← hL];exact hdl _ _ _ rfl
  (show WpL _ _ _ _;refine wp_unroll ?_;show WpB _ _ _ _ _ _;refine WpB.of c153_l0.eq_1 ?_)
  repeat' first | refine ga ?_ | (refine so ?_;first | (refine wp_callA (pA L _ (by omega) hLl) rfl rfl rfl (by rw [u8l_len,hLl];decide) rfl rfl rfl ?_;rintro _ rfl<;>refine Go.Den.x ?_)) | refine gb ?_ | intro _ | refine gd ?_ ?_
  (show WpL _ _ _ _;refine wp_unroll ?_;show WpB _ _ _ _ _ _;refine WpB.of c153_l0.eq_1 ?_)
  repeat' first | refine ga ?_ | (refine so ?_;first | refine cr (v223x _ _ (by omega) (by simp only [List.length_append,be_len,hLl];decide)) rfl rfl rfl rfl rfl ?_) | refine gb ?_ | intro _ | refine gd ?_ ?_
  (show WpL _ _ _ _;refine wp_unroll ?_;show WpB _ _ _ _ _ _;refine WpB.of c153_l0.eq_1 ?_)
  repeat' first | refine ga ?_ | (refine so ?_;first | refine cr (v223x _ _ (by omega) (by simp only [List.length_append,be_len,hLl];decide)) rfl rfl rfl rfl rfl ?_) | refine gb ?_ | intro _ | refine gd ?_ ?_
  (show WpL _ _ _ _;refine wp_unroll ?_;show WpB _ _ _ _ _ _;refine WpB.of c153_l0.eq_1 ?_)
  repeat' first | refine ga ?_ | (refine so ?_;first | refine cr (v223x _ _ (by omega) (by simp only [List.length_append,be_len,hLl];decide)) rfl rfl rfl rfl rfl ?_) | refine gb ?_ | intro _ | refine gd ?_ ?_
  (show WpL _ _ _ _;refine wp_unroll ?_;show WpB _ _ _ _ _ _;refine WpB.of c153_l0.eq_1 ?_)
  repeat' first | refine ga ?_ | (refine so ?_;first | refine cr (v223x _ _ (by omega) (by simp only [List.length_append,be_len,hLl];decide)) rfl rfl rfl rfl rfl ?_) | refine gb ?_ | intro _ | refine gd ?_ ?_
  (show WpL _ _ _ _;refine wp_unroll ?_;show WpB _ _ _ _ _ _;refine WpB.of c153_l0.eq_1 ?_)
  repeat' first | refine ga ?_ | (refine so ?_;first | refine cr (v223x _ _ (by omega) (by simp only [List.length_append,be_len,hLl];decide)) rfl rfl rfl rfl rfl ?_) | refine gb ?_ | intro _ | refine gd ?_ ?_
  (show WpL _ _ _ _;refine wp_unroll ?_;show WpB _ _ _ _ _ _;refine WpB.of c153_l0.eq_1 ?_)
  repeat' first | refine ga ?_ | (refine so ?_;first | refine cr (v223x _ _ (by omega) (by simp only [List.length_append,be_len,hLl];decide)) rfl rfl rfl rfl rfl ?_) | refine gb ?_ | intro _ | refine gd ?_ ?_
  all_goals (subst hF;(repeat refine ge ?_);try dsimp only [RA])
  have w:∀ a,IntKind.u8.wrap a=a % 256:=fun _=>rfl
  have e:L=[84,90,105,102]++[if h.ver > 1 then UInt8.ofNat (48+h.ver).toNat else 0]++List.replicate 15 0:=by
    rw [← hL,if_pos hv]
    have:IntKind.u8.wrap (48+IntKind.u8.wrap h.ver)=48+h.ver:=by rw [w,w];omega
    rw [this]
    rfl
  rw [e]
  rfl
theorem v153b (h:Hd) (hok:h.ok) (hv:¬1 < h.ver):∃ v,Val PT 153 [.agg h.l] v∧v=.tup [.sl 1 (u8l h.bytes) .sh,.bool true]:=by
  have hk:=hok
  unfold Hd.ok at hk
  obtain ⟨hk1,hk2,hk3,hk4,hk5,hk6,hk7⟩:=hk
  refine sv c153 fun Q hF=>?_
  repeat' first | refine ga ?_ | (refine so ?_;first | refine cr (v136h h) rfl rfl rfl rfl rfl ?_ | (refine wp_cpyE (es':=u8l ([84,90,105,102]++List.replicate 16 0)) (c:=4) rfl rfl rfl (by decide) (by rfl) rfl ?_) | (refine wp_iaA rfl rfl rfl (by decide) ?_)) | refine gb ?_ | intro _ | refine gd ?_ ?_
  all_goals try (exfalso;rename_i hx;exact hx hok)
  all_goals try (exfalso;rename_i hx;exact hv hx)
  generalize hL:[84,90,105,102]++List.replicate 16 (0:UInt8)=L
  have hLl:L.length=20:=by rw [← hL];rfl
  (show WpL _ _ _ _;refine wp_unroll ?_;show WpB _ _ _ _ _ _;refine WpB.of c153_l0.eq_1 ?_)
  repeat' first | refine ga ?_ | (refine so ?_;first | (refine wp_callA (pA L _ (by omega) hLl) rfl rfl rfl (by rw [u8l_len,hLl];decide) rfl rfl rfl ?_;rintro _ rfl<;>refine Go.Den.x ?_)) | refine gb ?_ | intro _ | refine gd ?_ ?_
  (show WpL _ _ _ _;refine wp_unroll ?_;show WpB _ _ _ _ _ _;refine WpB.of c153_l0.eq_1 ?_)
  repeat' first | refine ga ?_ | (refine so ?_;first | refine cr (v223x _ _ (by omega) (by simp only [List.length_append,be_len,hLl];decide)) rfl rfl rfl rfl rfl ?_) | refine gb ?_ | intro _ | refine gd ?_ ?_
  (show WpL _ _ _ _;refine wp_unroll ?_;show WpB _ _ _ _ _ _;refine WpB.of c153_l0.eq_1 ?_)
  repeat' first | refine ga ?_ | (refine so ?_;first | refine cr (v223x _ _ (by omega) (by simp only [List.length_append,be_len,hLl];decide)) rfl rfl rfl rfl rfl ?_) | refine gb ?_ | intro _ | refine gd ?_ ?_
  (show WpL _ _ _ _;refine wp_unroll ?_;show WpB _ _ _ _ _ _;refine WpB.of c153_l0.eq_1 ?_)
  repeat' first | refine ga ?_ | (refine so ?_;first | refine cr (v223x _ _ (by omega) (by simp only [List.length_append,be_len,hLl];decide)) rfl rfl rfl rfl rfl ?_) | refine gb ?_ | intro _ | refine gd ?_ ?_
  (show WpL _ _ _ _;refine wp_unroll ?_;show WpB _ _ _ _ _ _;refine WpB.of c153_l0.eq_1 ?_)
  repeat' first | refine ga ?_ | (refine so ?_;first | refine cr (v223x _ _ (by omega) (by simp only [List.length_append,be_len,hLl];decide)) rfl rfl rfl rfl rfl ?_) | refine gb ?_ | intro _ | refine gd ?_ ?_
  (show WpL _ _ _ _;refine wp_unroll ?_;show WpB _ _ _ _ _ _;refine WpB.of c153_l0.eq_1 ?_)
  repeat' first | refine ga ?_ | (refine so ?_;first | refine cr (v223x _ _ (by omega) (by simp only [List.length_append,be_len,hLl];decide)) rfl rfl rfl rfl rfl ?_) | refine gb ?_ | intro _ | refine gd ?_ ?_
  (show WpL _ _ _ _;refine wp_unroll ?_;show WpB _ _ _ _ _ _;refine WpB.of c153_l0.eq_1 ?_)
  repeat' first | refine ga ?_ | (refine so ?_;first | refine cr (v223x _ _ (by omega) (by simp only [List.length_append,be_len,hLl];decide)) rfl rfl rfl rfl rfl ?_) | refine gb ?_ | intro _ | refine gd ?_ ?_
  all_goals (subst hF;(repeat refine ge ?_);try dsimp only [RA])
  have e:L=[84,90,105,102]++[if h.ver > 1 then UInt8.ofNat (48+h.ver).toNat else 0]++List.replicate 15 0:=by
    rw [← hL,if_neg hv]
    rfl
  rw [e]
  rfl
theorem v153 (h:Hd) (hok:h.ok):∃ v,Val PT 153 [.agg h.l] v∧v=.tup [.sl 1 (u8l h.bytes) .sh,.bool true]:=by
  by_cases hv:1 < h.ver
  · exact v153a h hok hv
  · exact v153b h hok hv
end Go.Den
