import Derived.Test.YtblkhnacgnlbdaaGreatDoorES7
import Derived.Orders
set_option linter.all false
namespace Go.Den
variable {C:CallF} {d:Nat} {W:Nat→Prop} {s s' s1:St} {o:O} {t:Nat}
def Still (d:Nat)(s s':St):Prop:=∀ p sz v,ldP d s p sz=some v→ldP d s' p sz=some v
def AtRow (c c':List V):Prop:=c'.length=c.length∧∀ (j:Nat) v,c[j]?=some v→v.still=true→c'[j]?=some v
theorem AtRow.refl (c:List V):AtRow c c:=⟨rfl,fun _ _ h _=>h⟩
theorem still_of (h:∀ p c,s.at d p=some c→∃ c',s'.at d p=some c'∧AtRow c c'):Still d s s':=by
  intro p sz v hv
  unfold ldP at hv ⊢
  cases hc:s.at d p with
  | none=>rw [hc] at hv;cases hv
  | some c =>
    obtain ⟨c',h1,h2,h3⟩:=h p c hc
    rw [hc] at hv
    rw [h1]
    simp only [bnd_some] at hv ⊢
    cases sz with
    | none =>
      cases c with
      | nil=>cases hv
      | cons u r =>
        simp only at hv
        split at hv
        · rename_i hu
          cases c' with
          | nil=>simp at h2
          | cons u' r' =>
            have:=h3 0 u rfl hu
            simp at this
            subst this
            simp only [hu,if_true]
            exact hv
        · cases hv
    | some n =>
      simp only at hv ⊢
      split at hv
      · rename_i hn
        have e:c'.take n=c.take n:=by
          apply List.ext_getElem?
          intro j
          rw [List.getElem?_take,List.getElem?_take]
          split
          · rename_i hj
            have hlt:j < c.length:=by omega
            have hs:(c[j]).still=true:=List.all_eq_true.mp hn.2 _ (by
              have:c[j]=(c.take n)[j]'(by simp;omega):=by simp
              rw [this]
              exact List.getElem_mem _)
            rw [h3 j c[j] (List.getElem?_eq_getElem hlt) hs,List.getElem?_eq_getElem hlt]
          · rfl
        rw [e,if_pos ⟨by omega,hn.2⟩]
        exact hv
      · cases hv
theorem SameM.still (h:SameM s s'):Still d s s':=fun p sz v hv=>by rw [h.ldP];exact hv
def AddE (t:Nat)(e:Option Obj)(s s1:St):Prop:=
  match e with
  | none=>SameM s s1
  | some ob=>alook s.l t 0=none∧s1.l=ains s.l t 0 ob∧s1.f=s.f∧s1.w=s.w
theorem AddE.still {e:Option Obj}(h:AddE t e s s1):Still d s s1:=by
  cases e with
  | none=>exact SameM.still h
  | some ob =>
    simp only [AddE] at h
    obtain ⟨h1,h2,h3,_⟩:=h
    have hg:∀ k q,s.get d k=some q→s1.get d k=some q:=by
      intro k q hk
      unfold St.get at hk ⊢
      split
      · rename_i hd
        rw [if_pos hd] at hk
        rw [h2,alook_ains ob s.l t 0 _ _ h1,if_neg (by rintro ⟨rfl,e⟩;rw [← e,h1] at hk;cases hk)]
        exact hk
      · rename_i hd
        rw [if_neg hd] at hk
        rw [h3]
        exact hk
    refine still_of fun p c hc=>⟨c,?_,.refl c⟩
    unfold St.at at hc ⊢
    split at hc
    · rename_i k i off
      split at hc
      · rename_i z es hk;rw [hg _ _ hk];exact hc
      · rename_i z es fr hk;rw [hg _ _ hk];exact hc
      · cases hc
    · exact hc
    · cases hc
theorem take_still {k:Key}{z i off:Nat}{es:List (List V)}{e:List V}{v:V}(hg:s.get d k=some (.cells z es))(he:es[i]?=some e)(hv:e[off]?=some v)(hu:v.uq=true) :
    Still d s (s.set d k (.cells z (es.set i (e.set off .dead))))∧Still d (s.set d k (.cells z (es.set i (e.set off .dead)))) s:=by
  have hns:v.still=false:=by
    cases v with
    | sl z es o=>cases o<;>simp_all [V.uq,V.still]
    | _=>simp [V.uq] at hu
  have hlt:i < es.length:=by
    rcases Nat.lt_or_ge i es.length with h | h
    · exact h
    · rw [List.getElem?_eq_none h] at he;cases he
  have rel:∀ o',AtRow (e.drop o') ((e.set off .dead).drop o')∧AtRow ((e.set off .dead).drop o') (e.drop o'):=by
    intro o'
    refine ⟨⟨by simp,fun j u hj hs=>?_⟩,⟨by simp,fun j u hj hs=>?_⟩⟩
    · rw [List.getElem?_drop] at hj ⊢
      rw [List.getElem?_set]
      split
      · rename_i h
        rw [← h,hv] at hj
        cases hj
        rw [hns] at hs
        cases hs
      · exact hj
    · rw [List.getElem?_drop] at hj ⊢
      rw [List.getElem?_set] at hj
      split at hj
      · split at hj
        · cases hj;simp [V.still] at hs
        · cases hj
      · exact hj
  have hat:∀ p,(∃ c c',s.at d p=some c∧(s.set d k (.cells z (es.set i (e.set off .dead)))).at d p=some c'∧AtRow c c'∧AtRow c' c)∨(s.at d p=none∧(s.set d k (.cells z (es.set i (e.set off .dead)))).at d p=none):=by
    intro p
    cases p with
    | ptr k' i' o' =>
      by_cases hk:k'=k
      · subst hk
        simp only [St.at]
        rw [get_set_same hg,hg]
        simp only
        rw [List.getElem?_set]
        by_cases hi:i=i'
        · subst hi
          rw [if_pos rfl,if_pos hlt,he]
          exact .inl ⟨_,_,rfl,rfl,(rel o').1,(rel o').2⟩
        · rw [if_neg hi]
          cases es[i']? with
          | none=>exact .inr ⟨rfl,rfl⟩
          | some q=>exact .inl ⟨_,_,rfl,rfl,.refl _,.refl _⟩
      · have e:(s.set d k (.cells z (es.set i (e.set off .dead)))).at d (.ptr k' i' o')=s.at d (.ptr k' i' o'):=by
          simp only [St.at,get_set_other hk]
        rw [e]
        cases s.at d (.ptr k' i' o') with
        | none=>exact .inr ⟨rfl,rfl⟩
        | some c=>exact .inl ⟨c,c,rfl,rfl,.refl _,.refl _⟩
    | pin es' i' o' =>
      simp only [St.at]
      cases es'[i']? with
      | none=>exact .inr ⟨rfl,rfl⟩
      | some q=>exact .inl ⟨_,_,rfl,rfl,.refl _,.refl _⟩
    | _=>exact .inr ⟨rfl,rfl⟩
  refine ⟨still_of fun p c hc=>?_,still_of fun p c hc=>?_⟩
  · rcases hat p with ⟨c1,c2,h1,h2,h3,h4⟩ | ⟨h1,h2⟩
    · rw [h1] at hc;cases hc;exact ⟨c2,h2,h3⟩
    · rw [h1] at hc;cases hc
  · rcases hat p with ⟨c1,c2,h1,h2,h3,h4⟩ | ⟨h1,h2⟩
    · rw [h2] at hc;cases hc;exact ⟨c1,h1,h4⟩
    · rw [h2] at hc;cases hc
def FootL (C:CallF)(d:Nat)(o:O):Prop:=FootR C d (Still d) Calm o
theorem f_ldpL (sz:Option Nat)(a:A):FootL C d (.ldp t sz a):=by
  intro W hr s s' s1 ha hm h
  simp only [step,bnd_eq] at h ⊢
  rw [ha.ev a (fun t ht=>hr t (by simp [O.rd,ht]))]
  obtain ⟨v,hv,h⟩:=h
  cases h
  exact ⟨_,⟨v,hm _ _ _ hv,rfl⟩,ha.put _ _,.put1 (by simp [O.wr]) _,.put1 (by simp [O.wr]) _,.put _ _,.put _ _⟩
def Takes (C:CallF)(d:Nat)(o:O):Prop:=∀ s s1,step C d o s=some s1→Still d s s1∧Still d s1 s
theorem Still.trans {s2:St}(h:Still d s s1)(k:Still d s1 s2):Still d s s2:=fun p sz v hv=>k p sz v (h p sz v hv)
theorem Takes.g (h:Takes C d o)(t:Nat)(want:Bool)(u:Nat):Takes C d (.g t want u o):=by
  intro s s1 hs
  simp only [step] at hs
  split at hs
  · split at hs
    · exact h s s1 hs
    · cases hs
      exact ⟨(SameM.put u (.tup [])).still,(SameM.put u (.tup [])).symm.still⟩
  · cases hs
    exact ⟨(SameM.put u (.tup [])).still,(SameM.put u (.tup [])).symm.still⟩
  · cases hs
theorem t_lds (a:A):Takes C d (.lds t a):=by
  intro s s1 h
  simp only [step] at h
  split at h
  · split at h
    · rename_i z es hg
      split at h
      · rename_i e he
        split at h
        · rename_i v hv
          split at h
          · rename_i hu
            cases h
            have:=take_still hg he hv hu
            exact ⟨this.1.trans (SameM.put t v).still,(SameM.put t v).symm.still.trans this.2⟩
          · cases h
            exact ⟨(SameM.put t v).still,(SameM.put t v).symm.still⟩
        · cases h
      · cases h
    · cases h
  · cases h
def FootN (C:CallF)(d t:Nat)(o:O):Prop:=FootR C d (fun s s'=>alook s.l t 0=none→alook s'.l t 0=none) (fun s s' s1 s1'=>∃ e,AddE t e s s1∧AddE t e s' s1') o
theorem f_newN (zero:List V):FootN C d t (.new t zero):=by
  intro W hr s s' s1 ha hm h
  simp only [step,zE] at h ⊢
  obtain ⟨s2,h2,rfl⟩:=h
  obtain ⟨h3,rfl⟩:=add_some h2
  have h4:=hm h3
  refine ⟨_,⟨{ s' with l:=ains s'.l t 0 (.cells zero.length [zero]) },by unfold St.add;rw [h4],rfl⟩,?_,?_,?_,some (.cells zero.length [zero]),⟨h3,rfl,rfl,rfl⟩,⟨h4,rfl,rfl,rfl⟩⟩
  · exact (ha.of_r (s1:={ s with l:=ains s.l t 0 (.cells zero.length [zero]) }) (s1':={ s' with l:=ains s'.l t 0 (.cells zero.length [zero]) }) rfl rfl).put _ _
  · exact (Un.of_r (wr:=(O.new t zero).wr) (s:=s) (s1:={ s with l:=ains s.l t 0 (.cells zero.length [zero]) }) rfl).trans (.put1 (t:=t) (by simp [O.wr]) _)
  · exact (Un.of_r (wr:=(O.new t zero).wr) (s:=s') (s1:={ s' with l:=ains s'.l t 0 (.cells zero.length [zero]) }) rfl).trans (.put1 (t:=t) (by simp [O.wr]) _)
theorem recv1_n {v:V}{p:V × St}(hm:alook s.l t 0=none→alook s'.l t 0=none)(h:recv1 d t 0 true v s=some p) :
    ∃ p' e,recv1 d t 0 true v s'=some (p.1,p')∧AddE t e s p.2∧AddE t e s' p'∧p.2.r=s.r∧p'.r=s'.r:=by
  have add:∀ {ob:Obj} {s2:St},s.add t 0 ob=some s2→∃ s2',s'.add t 0 ob=some s2'∧AddE t (some ob) s s2∧AddE t (some ob) s' s2'∧s2.r=s.r∧s2'.r=s'.r:=by
    intro ob s2 h2
    obtain ⟨h3,rfl⟩:=add_some h2
    have h4:=hm h3
    exact ⟨{ s' with l:=ains s'.l t 0 ob },by unfold St.add;rw [h4],⟨h3,rfl,rfl,rfl⟩,⟨h4,rfl,rfl,rfl⟩,rfl,rfl⟩
  unfold recv1 at h ⊢
  split at h
  · split at h
    · rename_i hc
      rw [if_pos hc]
      simp only [zE] at h ⊢
      obtain ⟨s2,h2,rfl⟩:=h
      obtain ⟨s2',q1,q2,q3,q4,q5⟩:=add h2
      exact ⟨s2',_,⟨s2',q1,rfl⟩,q2,q3,q4,q5⟩
    · rename_i hc
      rw [if_neg hc]
      cases h
      exact ⟨s',none,rfl,.refl,.refl,rfl,rfl⟩
  · simp only [zE] at h ⊢
    obtain ⟨s2,h2,rfl⟩:=h
    obtain ⟨s2',q1,q2,q3,q4,q5⟩:=add h2
    exact ⟨s2',_,⟨s2',q1,rfl⟩,q2,q3,q4,q5⟩
  · cases h
    exact ⟨s',none,rfl,.refl,.refl,rfl,rfl⟩
theorem AddE.same {e:Option Obj}{s2 s3:St}(h:AddE t e s s1)(h1:SameM s2 s)(h2:SameM s1 s3):AddE t e s2 s3:=by
  cases e with
  | none=>simp only [AddE] at h ⊢;exact (h1.trans h).trans h2
  | some ob =>
    simp only [AddE] at h ⊢
    obtain ⟨a,b,c,e⟩:=h
    exact ⟨by rw [← h1.l];exact a,by rw [h2.l,b,h1.l],by rw [h2.f,c,h1.f],by rw [h2.w,e,h1.w]⟩
theorem f_obN {o:O}(ho:FootG C d false o):FootN C d t (.ob t o):=by
  intro W hr s s' s1 ha hm h
  simp only [step] at h ⊢
  split at h
  · rename_i s2 h2
    obtain ⟨s2',b1,b2,b3,b4,b5,b6⟩:=ho W (fun u hu=>hr u (by simp [O.rd,hu])) s s' s2 ha (fun h=>by cases h) h2
    rw [b1]
    simp only [zE] at h ⊢
    obtain ⟨p,hp,rfl⟩:=h
    have ht:=b2.on t (hr t (by simp [O.rd]))
    rw [ht]
    obtain ⟨p',e,c1,c2,c3,c4,c5⟩:=recv1_n (s:=s2) (s':=s2') (by rw [b5.l,b6.l];exact hm) hp
    refine ⟨_,⟨(p.1,p'),c1,rfl⟩,(b2.of_r c4 c5).put _ _,?_,?_,e,c2.same b5 (.put _ _),c3.same b6 (.put _ _)⟩
    · exact ((b3.mono (by intro u hu;simp [O.wr,hu])).trans (.of_r c4)).trans (.put1 (by simp [O.wr]) _)
    · exact ((b4.mono (by intro u hu;simp [O.wr,hu])).trans (.of_r c5)).trans (.put1 (by simp [O.wr]) _)
  · cases h
theorem f_obM {o:O}(ho:FootM C d o):FootM C d (.ob t o):=by
  intro W hr s s' s1 ha hm h
  simp only [step] at h ⊢
  split at h
  · rename_i s2 h2
    obtain ⟨s2',b1,b2,b3,b4,b5⟩:=ho W (fun u hu=>hr u (by simp [O.rd,hu])) s s' s2 ha hm h2
    rw [b1]
    simp only [zE] at h ⊢
    obtain ⟨p,hp,rfl⟩:=h
    have ht:=b2.on t (hr t (by simp [O.rd]))
    rw [ht]
    obtain ⟨p',c1,c2,c4,c5⟩:=recv1_ag b5 hp
    refine ⟨_,⟨(p.1,p'),c1,rfl⟩,(b2.of_r c4 c5).put _ _,?_,?_,c2.put2 _ _⟩
    · exact ((b3.mono (by intro u hu;simp [O.wr,hu])).trans (.of_r c4)).trans (.put1 (by simp [O.wr]) _)
    · exact ((b4.mono (by intro u hu;simp [O.wr,hu])).trans (.of_r c5)).trans (.put1 (by simp [O.wr]) _)
  · cases h
theorem FootN.g (h:FootN C d t o)(c:Nat)(want:Bool)(u:Nat):FootN C d t (.g c want u o):=FootR.g h (fun _ _ _ _=>⟨none,.put _ _,.put _ _⟩) c want u
theorem ains_comm {a c:Nat}(p q:Obj)(hne:a≠c):∀ (l:Loc),ains (ains l a 0 p) c 0 q=ains (ains l c 0 q) a 0 p
  | []=>by
    simp only [ains]
    rcases Nat.lt_or_gt_of_ne hne with h | h
    · rw [if_neg (by omega),if_pos (by omega)]
    · rw [if_pos (by omega),if_neg (by omega)]
  | (t,u,o)::r=>by
    by_cases ha:a < t∨(a=t∧0 < u)
    · by_cases hc:c < t∨(c=t∧0 < u)
      · simp only [ains]
        rw [if_pos ha,if_pos hc]
        simp only [ains]
        rcases Nat.lt_or_gt_of_ne hne with h | h
        · rw [if_neg (by omega),if_pos hc,if_pos (by omega)]
        · rw [if_pos (by omega),if_neg (by omega),if_pos ha]
      · simp only [ains]
        rw [if_pos ha,if_neg hc]
        simp only [ains]
        rw [if_neg (by omega),if_neg hc,if_pos ha]
    · by_cases hc:c < t∨(c=t∧0 < u)
      · simp only [ains]
        rw [if_neg ha,if_pos hc]
        simp only [ains]
        rw [if_pos hc,if_neg (by omega),if_neg ha]
      · simp only [ains]
        rw [if_neg ha,if_neg hc]
        simp only [ains]
        rw [if_neg ha,if_neg hc,ains_comm p q hne r]
theorem AddE.comm {tx ty:Nat}{ex ey:Option Obj}{s2 sy sx:St}(hne:tx≠ty)(h1:AddE tx ex s s1)(h2:AddE ty ey s1 s2)(h3:AddE ty ey s sy)(h4:AddE tx ex sy sx):SameM s2 sx:=by
  cases ex with
  | none =>
    simp only [AddE] at h1 h4
    cases ey with
    | none =>
      simp only [AddE] at h2 h3
      exact ((h1.trans h2).symm.trans h3).trans h4
    | some b =>
      simp only [AddE] at h2 h3
      obtain ⟨_,a2,a3,a4⟩:=h2
      obtain ⟨_,b2,b3,b4⟩:=h3
      exact ⟨by rw [h4.l,b2,a2,h1.l],by rw [h4.f,b3,a3,h1.f],by rw [h4.w,b4,a4,h1.w]⟩
  | some b =>
    simp only [AddE] at h1 h4
    obtain ⟨_,a2,a3,a4⟩:=h1
    obtain ⟨_,b2,b3,b4⟩:=h4
    cases ey with
    | none =>
      simp only [AddE] at h2 h3
      exact ⟨by rw [b2,h3.l,h2.l,a2],by rw [b3,h3.f,h2.f,a3],by rw [b4,h3.w,h2.w,a4]⟩
    | some e =>
      simp only [AddE] at h2 h3
      obtain ⟨_,c2,c3,c4⟩:=h2
      obtain ⟨_,e2,e3,e4⟩:=h3
      exact ⟨by rw [b2,e2,c2,a2,ains_comm _ _ hne],by rw [b3,e3,c3,a3],by rw [b4,e4,c4,a4]⟩
end Go.Den
namespace Go.Den
variable {C:CallF} {d:Nat}
theorem FootG.up {o:O}{m:Bool}(h:FootG C d false o):FootG C d m o:=fun W hr s s' s1 ha _ hs=>h W hr s s' s1 ha (fun h=>by cases h) hs
theorem base0:∀ {o:O},o.base=true→o.kind=0→FootG C d false o:=by
  intro o hb hk
  cases o with
  | mvp t u=>exact f_mvp u
  | mvs t u=>exact f_mvs u
  | cst t v=>exact f_cst v
  | pick t c a b=>exact f_pick c a b
  | build t z ps=>exact f_build z ps
  | lit t z n zero ps=>exact f_lit z n zero ps
  | chk t u=>exact f_chk u
  | bin t op a b=>exact f_bin op a b
  | lens t a=>exact f_lens a
  | not t a=>exact f_not a
  | neg t a=>exact f_neg a
  | cvt t k a=>exact f_cvt k a
  | s2b t a=>exact f_s2b a
  | mks t z n c=>exact f_mks z n c
  | slc t z str x lo hi mx=>exact f_slc z str x lo hi mx
  | fa t u o=>exact f_fa u o
  | ext t u i=>exact f_ext u i
  | mnx t mx a l=>exact f_mnx mx a l
  | ldp=>simp [O.kind] at hk
  | ia=>simp [O.kind] at hk
  | len=>simp [O.kind] at hk
  | app=>simp [O.kind] at hk
  | callp=>simp [O.kind] at hk
  | clone=>simp [O.kind] at hk
  | lds=>simp [O.kind] at hk
  | new=>simp [O.kind] at hk
  | st=>simp [O.kind] at hk
  | call=>simp [O.kind] at hk
  | lito=>simp [O.kind] at hk
  | ob t o=>simp only [O.kind] at hk;split at hk<;>cases hk
  | _=>simp [O.base] at hb
theorem base1:∀ {o:O},o.base=true→o.kind=1→FootG C d true o:=by
  intro o hb hk
  cases o with
  | ldp t sz a=>exact f_ldp sz a
  | ia t z x i=>exact f_ia z x i
  | len t a=>exact (f_len a).up
  | app t z a b=>exact f_app z a b
  | callp t f xs=>exact f_callp f xs
  | clone t z a=>exact f_clone z a
  | ob t o=>simp only [O.kind] at hk;split at hk<;>cases hk
  | _=>first | (simp [O.base] at hb;done) | (simp [O.kind] at hk;done)
theorem baseM:∀ {o:O},o.base=true→FootM C d o:=by
  intro o hb
  by_cases h0:o.kind=0
  · exact (base0 hb h0).m
  by_cases h1:o.kind=1
  · exact (base1 hb h1).m
  cases o with
  | lds t a=>exact f_lds a
  | new t z=>exact f_new z
  | st sz a b=>exact f_st sz a b
  | lito t z n zero ps=>exact f_lito z n zero ps
  | call t raw ob f xs=>exact f_call t raw ob f xs
  | ob t o =>
    cases o with
    | mks a b c e=>exact f_obM (f_mks b c e).m
    | _=>simp [O.base] at hb
  | _=>first | (simp [O.base] at hb;done) | (exact absurd rfl h0) | (exact absurd rfl h1)
theorem baseL:∀ {o:O},o.base=true→o.loads=true→FootL C d o:=by
  intro o hb hl
  cases o with
  | ldp t sz a=>exact f_ldpL sz a
  | ob t o=>simp [O.loads] at hl
  | _=>first | (simp [O.base] at hb;done) | (simp [O.loads] at hl;done)
theorem baseT:∀ {o:O},o.base=true→o.kind=2→Takes C d o:=by
  intro o hb hk
  cases o with
  | lds t a=>exact t_lds a
  | ob t o=>simp only [O.kind] at hk;split at hk<;>cases hk
  | _=>first | (simp [O.base] at hb;done) | (simp [O.kind] at hk;done)
theorem baseN:∀ {o:O},o.base=true→o.kind=3→∃ t,t ∈ o.wr∧FootN C d t o:=by
  intro o hb hk
  cases o with
  | new t z=>exact ⟨t,by simp [O.wr],f_newN z⟩
  | ob t o =>
    cases o with
    | mks a b c e=>exact ⟨t,by simp [O.wr],f_obN (f_mks b c e)⟩
    | _=>simp [O.base] at hb
  | _=>first | (simp [O.base] at hb;done) | (simp [O.kind] at hk;done)
theorem may_cases {o:O}(h:o.may=true):o.base=true∨∃ t w u q,o=.g t w u q∧q.base=true:=by
  cases o with
  | g t w u q=>exact .inr ⟨t,w,u,q,rfl,by simpa [O.may] using h⟩
  | _=>exact .inl (by simpa [O.may] using h)
theorem may0S {o:O}(hb:o.may=true)(hk:o.kind=0):FootG C d false o:=by
  rcases may_cases hb with h | ⟨t,w,u,q,rfl,h⟩
  · exact base0 h hk
  · exact (base0 h (by simpa [O.kind] using hk)).g t w u
theorem may1 {o:O}(hb:o.may=true)(hk:o.kind=1):FootG C d true o:=by
  rcases may_cases hb with h | ⟨t,w,u,q,rfl,h⟩
  · exact base1 h hk
  · exact (base1 h (by simpa [O.kind] using hk)).g t w u
theorem mayM {o:O}(hb:o.may=true):FootM C d o:=by
  rcases may_cases hb with h | ⟨t,w,u,q,rfl,h⟩
  · exact baseM h
  · exact (baseM h).g t w u
theorem mayL {o:O}(hb:o.may=true)(hk:o.loads=true):FootL C d o:=by
  rcases may_cases hb with h | ⟨t,w,u,q,rfl,h⟩
  · exact baseL h hk
  · exact FootR.g (baseL h (by simpa [O.loads] using hk)) (fun _ _ _ _=>⟨.put _ _,.put _ _⟩) t w u
theorem mayT {o:O}(hb:o.may=true)(hk:o.kind=2):Takes C d o:=by
  rcases may_cases hb with h | ⟨t,w,u,q,rfl,h⟩
  · exact baseT h hk
  · exact (baseT h (by simpa [O.kind] using hk)).g t w u
theorem mayN {o:O}(hb:o.may=true)(hk:o.kind=3):∃ t,t ∈ o.wr∧FootN C d t o:=by
  rcases may_cases hb with h | ⟨t,w,u,q,rfl,h⟩
  · exact baseN h hk
  · obtain ⟨n,h1,h2⟩:=baseN (C:=C) (d:=d) h (by simpa [O.kind] using hk)
    exact ⟨n,by simp [O.wr,h1],h2.g t w u⟩
theorem apart_spec {a b:List Nat}(h:apart a b=true):∀ t ∈ a,t ∉ b:=by
  intro t ht hb
  have:=List.all_eq_true.mp h t ht
  simp at this
  exact this hb
theorem rget_ext:∀ {r q:List V},r.length=q.length→(∀ t,rget r t=rget q t)→r=q
  | [],[],_,_=>rfl
  | [],_::_,h,_=>by simp at h
  | _::_,[],h,_=>by simp at h
  | a::r,b::q,h,k=>by
    have h0:=k 0
    simp only [rget] at h0
    have e:r=q:=rget_ext (by simpa using h) (fun t=>by simpa only [rget] using k (t+1))
    rw [h0,e]
theorem st_ext {s s':St}(h:SameM s s')(hr:s.r=s'.r):s=s':=by
  cases s;cases s'
  obtain ⟨h1,h2,h3⟩:=h
  simp only at h1 h2 h3 hr
  subst h1 h2 h3 hr
  rfl
theorem swap_r {x y:O}{s s1 s2 sy sx:St}(hwr:∀ t ∈ x.wr,t ∉ y.wr)(u1:Un x.wr s s1)(u2:Un y.wr s1 s2)(uy:Un y.wr s sy)(ux:Un x.wr sy sx)
    (a1:Ag (fun t=>t ∉ x.wr) s2 sy) (a2:Ag (fun t=>t ∉ y.wr) s1 sx):s2.r=sx.r:=by
  apply rget_ext
  · rw [u2.len,u1.len,ux.len,uy.len]
  · intro t
    by_cases hx:t ∈ x.wr
    · have hy:=hwr t hx
      rw [u2.off t hy,a2.on t hy]
    · rw [ux.off t hx,a1.on t hx]
theorem un_ag {wr:List Nat}{s s1:St}(u:Un wr s s1):Ag (fun t=>t ∉ wr) s s1:=⟨u.len,u.off⟩
theorem un_ag' {wr:List Nat}{s s1:St}(u:Un wr s s1):Ag (fun t=>t ∉ wr) s1 s:=⟨u.len.symm,fun t ht=>(u.off t ht).symm⟩
theorem swap_of {Hx Hy:St→St→Prop}{Kx Ky:St→St→St→St→Prop}{x y:O}(fx:FootR C d Hx Kx x)(fy:FootR C d Hy Ky y){s s1 s2:St}
    (hyr:∀ t ∈ y.rd,t ∉ x.wr) (hwr:∀ t ∈ x.wr,t ∉ y.wr) (hxr:∀ t ∈ x.rd,t ∉ y.wr) (h1:step C d x s=some s1) (h2:step C d y s1=some s2)
    (hH:Hy s1 s) (hX:∀ sy,step C d y s=some sy→Ky s1 s s2 sy→Hx s sy) (hM:∀ sy sx,step C d y s=some sy→step C d x sy=some sx→Ky s1 s s2 sy→Kx s sy s1 sx→SameM s2 sx) (u1:Un x.wr s s1) :
    ∃ sy,step C d y s=some sy∧step C d x sy=some s2:=by
  obtain ⟨sy,b1,b2,b3,b4,b5⟩:=fy _ hyr s1 s s2 (un_ag' u1) hH h2
  obtain ⟨sx,c1,c2,c3,c4,c5⟩:=fx _ hxr s sy s1 (un_ag b4) (hX sy b1 b5) h1
  refine ⟨sy,b1,?_⟩
  rw [c1,st_ext (hM sy sx b1 c1 b5 c5) (swap_r hwr u1 b3 b4 c4 b2 c2)]
theorem swap_ok {x y:O}(hx:x.may=true)(hy:y.may=true)(h:swapB x y=true){s s1 s2:St}(h1:step C d x s=some s1)(h2:step C d y s1=some s2):∃ sy,step C d y s=some sy∧step C d x sy=some s2:=by
  simp only [swapB,Bool.and_eq_true,Bool.or_eq_true,beq_iff_eq] at h
  obtain ⟨⟨⟨hw1,hw2⟩,hw3⟩,hk⟩:=h
  have hyr:∀ t ∈ y.rd,t ∉ x.wr:=fun t ht hh=>apart_spec hw1 t hh ht
  have hwr:=apart_spec hw2
  have hxr:=apart_spec hw3
  have ux:Un x.wr s s1:=by
    obtain ⟨s1',e1,_,e2,_⟩:=mayM (C:=C) (d:=d) hx (fun _=>True) (fun _ _=>trivial) s s s1 .refl .refl h1
    exact e2
  rcases hk with (((((hk | hk) | hk) | hk) | hk) | hk) | hk
  · have f0:=may0S (C:=C) (d:=d) hx hk
    obtain ⟨s1',e1,_,_,_,e2⟩:=f0 (fun _=>True) (fun _ _=>trivial) s s s1 .refl (fun h=>by cases h) h1
    exact swap_of f0 (mayM hy) hyr hwr hxr h1 h2 e2.1.symm (fun _ _ _ h=>by cases h) (fun sy sx _ _ k1 k2=>k1.trans k2.2) ux
  · have f0:=may0S (C:=C) (d:=d) hy hk
    exact swap_of (mayM hx) f0 hyr hwr hxr h1 h2 (fun h=>by cases h) (fun sy _ k=>k.2) (fun sy sx _ _ k1 k2=>k1.1.symm.trans k2) ux
  · have f1:=may1 (C:=C) (d:=d) hx hk.1
    obtain ⟨s1',e1,_,_,_,e2⟩:=f1 (fun _=>True) (fun _ _=>trivial) s s s1 .refl (fun _=>.refl) h1
    exact swap_of f1 (may1 hy hk.2) hyr hwr hxr h1 h2 (fun _=>e2.1.symm) (fun sy _ k _=>k.2) (fun sy sx _ _ k1 k2=>((k1.1.symm.trans e2.1.symm).trans k1.2).trans k2.2) ux
  · obtain ⟨tx,htx,fx⟩:=mayN (C:=C) (d:=d) hx hk.1
    obtain ⟨ty,hty,fy⟩:=mayN (C:=C) (d:=d) hy hk.2
    have hne:tx≠ty:=by rintro rfl;exact hwr _ htx hty
    obtain ⟨s1',e1,_,_,_,ex,e2,_⟩:=fx (fun _=>True) (fun _ _=>trivial) s s s1 .refl (fun h=>h) h1
    have keep:∀ {a b:Nat} {e:Option Obj} {s s1:St},a≠b→AddE a e s s1→alook s1.l b 0=alook s.l b 0:=by
      intro a b e s s1 hab he
      cases e with
      | none=>simp only [AddE] at he;rw [he.l]
      | some ob =>
        simp only [AddE] at he
        obtain ⟨k1,k2,_,_⟩:=he
        rw [k2,alook_ains ob s.l a 0 _ _ k1,if_neg (fun h=>hab h.1)]
    refine swap_of fx fy hyr hwr hxr h1 h2 (fun h=>by rw [← keep hne e2];exact h) (fun sy _ ⟨ey,_,k2⟩ h=>by rw [keep (Ne.symm hne) k2];exact h) (fun sy sx _ _ ⟨ey,k1,k2⟩ ⟨ex',k3,k4⟩=>AddE.comm hne k3 k1 k2 k4) ux
  · obtain ⟨⟨hkx,hky⟩,hl⟩:=hk
    have f1:=may1 (C:=C) (d:=d) hx hkx
    obtain ⟨s1',e1,_,_,_,e2⟩:=f1 (fun _=>True) (fun _ _=>trivial) s s s1 .refl (fun _=>.refl) h1
    obtain ⟨ty,hty,fy⟩:=mayN (C:=C) (d:=d) hy hky
    refine swap_of (mayL hx hl) (mayM hy) hyr hwr hxr h1 h2 e2.1.symm (fun sy hs _=>?_) (fun sy sx _ _ k1 k2=>k1.trans k2.2) ux
    obtain ⟨_,_,_,_,_,ey,e3,_⟩:=fy (fun _=>True) (fun _ _=>trivial) s s sy .refl (fun h=>h) hs
    exact e3.still
  · obtain ⟨⟨hkx,hky⟩,hl⟩:=hk
    have f1:=may1 (C:=C) (d:=d) hx hkx
    obtain ⟨s1',e1,_,_,_,e2⟩:=f1 (fun _=>True) (fun _ _=>trivial) s s s1 .refl (fun _=>.refl) h1
    exact swap_of (mayL hx hl) (mayM hy) hyr hwr hxr h1 h2 e2.1.symm (fun sy hs _=>(mayT hy hky s sy hs).1) (fun sy sx _ _ k1 k2=>k1.trans k2.2) ux
  · obtain ⟨⟨hkx,hky⟩,hl⟩:=hk
    exact swap_of (mayM hx) (mayL hy hl) hyr hwr hxr h1 h2 (mayT hx hkx s s1 h1).2 (fun sy _ k=>k.2) (fun sy sx _ _ k1 k2=>k1.1.symm.trans k2) ux
end Go.Den
namespace Go.Den
variable {C:CallF} {d:Nat} {P:Program}
theorem befs_old:∀ (ds acc:List (List Nat))(k:Nat),k < acc.length→(befs acc ds).getD k []=acc.getD k []
  | [],acc,k,_=>by simp [befs]
  | x::r,acc,k,h=>by
    simp only [befs]
    rw [befs_old r _ k (by simp;omega)]
    simp only [List.getD_eq_getElem?_getD]
    rw [List.getElem?_append_left h]
theorem befs_mem:∀ (ds acc:List (List Nat))(i x:Nat),acc.length≤i→x ∈ (befs acc ds).getD i [] →
    ∃ D,ds[i - acc.length]?=some D∧(x ∈ D∨∃ y ∈ D,x ∈ (befs acc ds).getD y [])
  | [],acc,i,x,hi,h=>by
    simp only [befs,List.getD_eq_getElem?_getD] at h
    rw [List.getElem?_eq_none hi] at h
    simp at h
  | D::r,acc,i,x,hi,h=>by
    rcases Nat.lt_or_ge acc.length i with hlt | hge
    · have h':=h
      simp only [befs] at h'
      obtain ⟨D',h1,h2⟩:=befs_mem r _ i x (by simp;omega) h'
      refine ⟨D',?_,by simpa only [befs] using h2⟩
      simp only [List.length_append,List.length_cons,List.length_nil] at h1
      rw [show i - acc.length=(i - (acc.length+(0+1)))+1 by omega,List.getElem?_cons_succ]
      exact h1
    · have hi':i=acc.length:=by omega
      subst hi'
      refine ⟨D,by simp,?_⟩
      simp only [befs] at h
      rw [befs_old r _ _ (by simp)] at h
      simp only [List.getD_eq_getElem?_getD] at h
      rw [List.getElem?_append_right (Nat.le_refl _)] at h
      simp only [Nat.sub_self,List.getElem?_cons_zero,Option.getD_some,List.mem_append,List.mem_flatMap] at h
      rcases h with h | ⟨y,hy,hx⟩
      · exact .inl h
      · refine .inr ⟨y,hy,?_⟩
        have hlt:y < acc.length:=by
          rcases Nat.lt_or_ge y acc.length with h | h
          · exact h
          · rw [List.getElem?_eq_none h] at hx;simp at hx
        rw [befs_old (D::r) acc y hlt]
        simpa [List.getD_eq_getElem?_getD] using hx
def Rel (l:Ops)(b:List (List Nat))(ex:Nat × Nat)(j i:Nat):Prop:=(b.getD i []).contains j=true∨swapB (opAt l j) (opAt l i)=true∨(j=ex.1∧i=ex.2)
theorem okQ_rel {l:Ops}{b:List (List Nat)}{ex:Nat × Nat}:∀ {q pre:List Nat},okQ l b ex pre q=true→(∀ j ∈ pre,∀ i ∈ q,Rel l b ex j i)∧q.Pairwise (Rel l b ex)
  | [],pre,_=>⟨by simp,.nil⟩
  | i::r,pre,h=>by
    simp only [okQ,Bool.and_eq_true] at h
    obtain ⟨h1,h2⟩:=h
    obtain ⟨h3,h4⟩:=okQ_rel h2
    refine ⟨fun j hj k hk=>?_,List.pairwise_cons.mpr ⟨fun k hk=>h3 i (by simp) k hk,h4⟩⟩
    rcases List.mem_cons.mp hk with rfl | hk
    · have:=List.all_eq_true.mp h1 j hj
      simp only [Bool.or_eq_true,Bool.and_eq_true,beq_iff_eq] at this
      rcases this with (h | h) | h
      · exact .inl h
      · exact .inr (.inl h)
      · exact .inr (.inr h)
    · exact h3 j (by simp [hj]) k hk
theorem nodupB_ok:∀ {q:List Nat},nodupB q=true→q.Nodup
  | [],_=>List.nodup_nil
  | a::r,h=>by
    simp only [nodupB,Bool.and_eq_true,Bool.not_eq_true'] at h
    refine List.nodup_cons.mpr ⟨fun hh=>?_,nodupB_ok h.2⟩
    have:=List.contains_iff_mem.mpr hh
    rw [h.1] at this
    cases this
theorem front {l:Ops}(hm:∀ j,(opAt l j).may=true∨opAt l j=.bad){i:Nat}:∀ {q1 q2:List Nat}{s s':St},(∀ j ∈ q1,swapB (opAt l j) (opAt l i)=true)→runS C d ((q1++i::q2).map (opAt l)) s=some s' →
    ∃ s1,step C d (opAt l i) s=some s1∧runS C d ((q1++q2).map (opAt l)) s1=some s'
  | [],q2,s,s',_,h=>by
    simp only [List.nil_append,List.map_cons,runS,bnd_eq] at h ⊢
    exact h
  | j::q1,q2,s,s',hs,h=>by
    simp only [List.cons_append,List.map_cons,runS,bnd_eq] at h ⊢
    obtain ⟨s1,h1,h2⟩:=h
    obtain ⟨s2,h3,h4⟩:=front hm (fun k hk=>hs k (by simp [hk])) h2
    have hj:(opAt l j).may=true:=by
      rcases hm j with h | h
      · exact h
      · rw [h] at h1;simp only [step] at h1;cases h1
    have hi:(opAt l i).may=true:=by
      rcases hm i with h | h
      · exact h
      · rw [h] at h3;simp only [step] at h3;cases h3
    obtain ⟨sy,h5,h6⟩:=swap_ok hj hi (hs j (by simp)) h1 h3
    exact ⟨sy,h5,s2,h6,h4⟩
theorem pairwise_before {R:Nat→Nat→Prop}{q1 q2:List Nat}{i:Nat}(h:(q1++i::q2).Pairwise R):∀ j ∈ q1,R j i:=fun j hj=>(List.pairwise_append.mp h).2.2 j hj i (by simp)
theorem pairwise_less {R:Nat→Nat→Prop}{q1 q2:List Nat}{i:Nat}(h:(q1++i::q2).Pairwise R):(q1++q2).Pairwise R:=by
  refine h.sublist ?_
  exact List.Sublist.append (List.Sublist.refl q1) (List.sublist_cons_self i q2)
theorem least:∀ {q:List Nat},q≠[]→∃ m ∈ q,∀ x ∈ q,m≤x
  | [],h=>absurd rfl h
  | [a],_=>⟨a,by simp,by simp⟩
  | a::b::r,_=>by
    obtain ⟨m,h1,h2⟩:=least (q:=b::r) (by simp)
    rcases Nat.lt_or_ge m a with h | h
    · exact ⟨m,List.mem_cons_of_mem _ h1,fun x hx=>by
        rcases List.mem_cons.mp hx with rfl | hx
        · omega
        · exact h2 x hx⟩
    · exact ⟨a,by simp,fun x hx=>by
        rcases List.mem_cons.mp hx with rfl | hx
        · omega
        · have:=h2 x hx;omega⟩
structure Left (n:Nat)(b:List (List Nat))(listed:Array Bool)(q:List Nat):Prop where
  size:listed.size=n
  nodup:q.Nodup
  lt:∀ i ∈ q,i < n
  mem:∀ i,i < n→(listed.getD i false=true ↔ i ∉ q)
  closed:∀ j,j < n→j ∉ q→∀ x ∈ b.getD j [],x ∉ q
section
variable {ops:Array Oper} {f:Oper→O} {l:Ops} {b:List (List Nat)} {listed:Array Bool} {q:List Nat}
structure Reg (ops:Array Oper)(f:Oper→O)(l:Ops)(b:List (List Nat)):Prop where
  el:l=ops.toList.map fun o=>(f o,afters o)
  eb:b=befs [] (l.map (·.2))
  deps:okDeps l=true
  may:l.all (fun x=>x.1.may)=true
theorem Reg.len (h:Reg ops f l b):l.length=ops.size:=by rw [h.el];simp
theorem Reg.op (h:Reg ops f l b){i:Nat}{o:Oper}(ho:ops[i]?=some o):opAt l i=f o∧(l.getD i (.bad,[])).2=afters o:=by
  have:l[i]?=some (f o,afters o):=by
    rw [h.el,List.getElem?_map]
    have:ops.toList[i]?=some o:=by simpa using ho
    rw [this];rfl
  simp only [opAt,List.getD_eq_getElem?_getD,this,Option.getD_some,and_self]
theorem Reg.hm (h:Reg ops f l b)(j:Nat):(opAt l j).may=true∨opAt l j=.bad:=by
  simp only [opAt,List.getD_eq_getElem?_getD]
  cases hj:l[j]? with
  | none=>exact .inr rfl
  | some p=>exact .inl (List.all_eq_true.mp h.may p (List.mem_of_getElem? hj))
theorem Reg.less (h:Reg ops f l b){i:Nat}{o:Oper}(ho:ops[i]?=some o):∀ x ∈ afters o,x < i:=by
  intro x hx
  have hi:i < l.length:=by rw [h.len];exact (Array.getElem?_eq_some_iff.mp ho).1
  have:=List.all_eq_true.mp h.deps i (by simpa using hi)
  rw [(h.op ho).2] at this
  have:=List.all_eq_true.mp this x hx
  simpa using this
theorem mem_afters {o:Oper}{x:Nat}:x ∈ afters o ↔ ∃ e ∈ o.after.toList,Region.binds .any e=true∧e.on=x:=by
  simp only [afters,List.mem_filterMap]
  constructor
  · rintro ⟨e,he,h⟩
    split at h
    · rename_i hb;cases h;exact ⟨e,he,hb,rfl⟩
    · cases h
  · rintro ⟨e,he,hb,rfl⟩
    exact ⟨e,he,by rw [if_pos hb]⟩
theorem mem_ready {i:Nat}:i ∈ Region.ready .any ops listed ↔ i < ops.size∧listed.getD i true=false∧∃ o,ops[i]?=some o∧∀ x ∈ afters o,listed.getD x false=true:=by
  unfold Region.ready
  simp only [List.mem_filter,List.mem_range,Bool.and_eq_true,Bool.not_eq_true']
  constructor
  · rintro ⟨h1,h2,h3⟩
    refine ⟨h1,h2,?_⟩
    cases ho:ops[i]? with
    | none=>rw [ho] at h3;simp at h3
    | some o =>
      rw [ho] at h3
      refine ⟨o,rfl,fun x hx=>?_⟩
      obtain ⟨e,he,hb,rfl⟩:=mem_afters.mp hx
      simp only [Option.map_some,Option.getD_some,Array.all_eq_true_iff_forall_mem] at h3
      have:=h3 e (by simpa using he)
      simpa [hb] using this
  · rintro ⟨h1,h2,o,ho,h3⟩
    refine ⟨h1,h2,?_⟩
    rw [ho]
    simp only [Option.map_some,Option.getD_some,Array.all_eq_true_iff_forall_mem]
    intro e he
    by_cases hb:Region.binds .any e=true
    · simp [hb,h3 e.on (mem_afters.mpr ⟨e,by simpa using he,hb,rfl⟩)]
    · simp [hb]
theorem Left.getD (h:Left ops.size b listed q){i:Nat}(hi:i < ops.size)(x y:Bool):listed.getD i x=listed.getD i y:=by
  rw [Array.getD_eq_getD_getElem?,Array.getD_eq_getD_getElem?,Array.getElem?_eq_getElem (by rw [h.size];exact hi)]
  rfl
theorem Left.ready (hr:Reg ops f l b)(h:Left ops.size b listed q){i:Nat}(hi:i ∈ Region.ready .any ops listed):i ∈ q∧(∃ o,ops[i]?=some o)∧∀ x ∈ b.getD i [],x ∉ q:=by
  obtain ⟨h1,h2,o,ho,h3⟩:=mem_ready.mp hi
  have hq:i ∈ q:=by
    by_cases hh:i ∈ q
    · exact hh
    · have:=(h.mem i h1).mpr hh
      rw [h.getD h1 false true,h2] at this
      cases this
  have hdep:∀ x ∈ afters o,x ∉ q∧x < ops.size:=fun x hx =>
    have hlt:=hr.less ho x hx
    ⟨(h.mem x (by omega)).mp (h3 x hx),by omega⟩
  refine ⟨hq,⟨o,ho⟩,fun x hx=>?_⟩
  rw [hr.eb] at hx
  obtain ⟨D,hD,hx⟩:=befs_mem _ [] i x (Nat.zero_le _) hx
  have hDe:D=afters o:=by
    have:(l.map (·.2))[i]?=some (afters o):=by
      rw [hr.el,List.map_map,List.getElem?_map]
      have:ops.toList[i]?=some o:=by simpa using ho
      rw [this];rfl
    simp only [List.length_nil,Nat.sub_zero] at hD
    rw [this] at hD
    cases hD
    rfl
  subst hDe
  rcases hx with hx | ⟨y,hy,hx⟩
  · exact (hdep x hx).1
  · exact h.closed y (hdep y hy).2 (hdep y hy).1 x (by rw [hr.eb];exact hx)
theorem Left.some_ready (hr:Reg ops f l b)(h:Left ops.size b listed q)(hq:q≠[]):Region.ready .any ops listed≠[]:=by
  obtain ⟨m,h1,h2⟩:=least hq
  have hm:=h.lt m h1
  have ho:ops[m]?=some ops[m]:=Array.getElem?_eq_getElem hm
  have:m ∈ Region.ready .any ops listed:=by
    refine mem_ready.mpr ⟨hm,?_,_,ho,fun x hx=>?_⟩
    · cases hl:listed.getD m true with
      | false=>rfl
      | true =>
        rw [h.getD hm true false] at hl
        exact absurd h1 ((h.mem m hm).mp hl)
    · have hlt:=hr.less ho x hx
      exact (h.mem x (by omega)).mpr fun hh=>by have:=h2 x hh;omega
  intro hn
  rw [hn] at this
  simp at this
theorem Left.next (h:Left ops.size b listed q){i:Nat}(hb:∀ x ∈ b.getD i [],x ∉ q){q1 q2:List Nat}(hq:q=q1++i::q2):Left ops.size b (listed.setIfInBounds i true) (q1++q2):=by
  subst hq
  have hi:i < ops.size:=h.lt i (by simp)
  have hno:i ∉ q1++q2:=by
    have:=h.nodup
    rw [List.nodup_append] at this
    obtain ⟨n1,n2,n3⟩:=this
    rw [List.nodup_cons] at n2
    intro hh
    rcases List.mem_append.mp hh with hh | hh
    · exact n3 i hh i (by simp) rfl
    · exact n2.1 hh
  have hsub:∀ x,x ∈ q1++q2→x ∈ q1++i::q2:=fun x hx=>by
    rcases List.mem_append.mp hx with hx | hx
    · exact List.mem_append_left _ hx
    · exact List.mem_append_right _ (List.mem_cons_of_mem _ hx)
  have hmem:∀ x,x ∉ q1++q2→x=i∨x ∉ q1++i::q2:=fun x hx=>by
    by_cases e:x=i
    · exact .inl e
    · refine .inr fun hh=>hx ?_
      rcases List.mem_append.mp hh with hh | hh
      · exact List.mem_append_left _ hh
      · rcases List.mem_cons.mp hh with rfl | hh
        · exact absurd rfl e
        · exact List.mem_append_right _ hh
  refine ⟨by rw [Array.size_setIfInBounds];exact h.size,h.nodup.sublist (List.Sublist.append (List.Sublist.refl q1) (List.sublist_cons_self i q2)),fun j hj=>h.lt j (hsub j hj),fun j hj=>?_,fun j hj hjq x hx hh=>?_⟩
  · rw [Array.getD_eq_getD_getElem?,Array.getElem?_setIfInBounds]
    by_cases e:i=j
    · subst e
      rw [if_pos rfl,if_pos (by rw [h.size];exact hi)]
      simp only [Option.getD_some,true_iff]
      exact hno
    · rw [if_neg e,← Array.getD_eq_getD_getElem?,h.mem j hj]
      constructor
      · exact fun hh hx=>hh (hsub j hx)
      · intro hh
        rcases hmem j hh with rfl | hh
        · exact absurd rfl e
        · exact hh
  · rcases hmem j hjq with rfl | hjq
    · exact hb x hx (hsub x hh)
    · exact h.closed j hj hjq x hx (hsub x hh)
end
end Go.Den
namespace Go.Den
variable {C:CallF} {d:Nat} {P:Program} {ops:Array Oper} {f:Oper→O} {l:Ops} {b:List (List Nat)} {Q:Exit→Act→World→Prop} {w0:World} {g0:G}
theorem split_mem {q:List Nat}{i:Nat}(h:i ∈ q):∃ q1 q2,q=q1++i::q2:=List.append_of_mem h
theorem op_ok (hr:Reg ops f l b)(hf:∀ op s s',step C d (f op) s=some s'→ROk P ops op d s s'){i:Nat}{o:Oper}(ho:ops[i]?=some o){s s1:St}(hs:step C d (opAt l i) s=some s1){a:Act}{w:World}{g:G}(hI:Inv w0 g0 d s a w g){K:Act→World→Prop}
    (hK:∀ a' w' g',Inv w0 g0 d s1 a' w' g'→K a' w'):wpOp P ops Q i K a w:=by
  unfold wpOp
  rw [ho]
  simp only
  rw [(hr.op ho).1] at hs
  rcases hf o s s1 hs w0 g0 a w g hI with ⟨hw,hk⟩ | ⟨hw,I1⟩
  · rw [if_pos hw]
    exact .inl (hk K Q fun a' w' g' I'=>hK a' w' g' I')
  · rw [if_neg (by simp [hw])]
    exact hK _ _ _ I1
theorem any_one (hr:Reg ops f l b)(hf:∀ op s s',step C d (f op) s=some s'→ROk P ops op d s s'):∀ (fuel:Nat){q:List Nat}{listed:Array Bool}{s s':St}{a:Act}{w:World}{g:G},q.length≤fuel→Left ops.size b listed q →
    runS C d (q.map (opAt l)) s=some s'→q.Pairwise (fun j i=>(b.getD i []).contains j=true∨swapB (opAt l j) (opAt l i)=true)→Inv w0 g0 d s a w g→(∀ a' w' g',Inv w0 g0 d s' a' w' g'→Q .normal a' w')→wpAny P .any ops Q fuel listed a w
  | 0,q,listed,s,s',a,w,g,hl,hL,h,hp,hI,hq=>by
    have e:q=[]:=List.length_eq_zero_iff.mp (by omega)
    subst e
    simp only [List.map_nil,runS,zI] at h
    subst h
    refine ⟨?_,hq a w g hI⟩
    cases hh:Region.ready .any ops listed with
    | nil=>rfl
    | cons i r=>exact absurd (hL.ready hr (by rw [hh];simp:i ∈ _)).1 (by simp)
  | fuel+1,q,listed,s,s',a,w,g,hl,hL,h,hp,hI,hq=>by
    refine ⟨fun hn=>?_,fun i hi=>?_⟩
    · by_cases e:q=[]
      · subst e
        simp only [List.map_nil,runS,zI] at h
        subst h
        exact hq a w g hI
      · exact absurd hn (hL.some_ready hr e)
    · obtain ⟨hiq,⟨o,ho⟩,hbx⟩:=hL.ready hr hi
      obtain ⟨q1,q2,rfl⟩:=split_mem hiq
      have hb:∀ j ∈ q1,swapB (opAt l j) (opAt l i)=true:=fun j hj=>by
        rcases pairwise_before hp j hj with h | h
        · exact absurd (by simp [hj]:j ∈ q1++i::q2) (hbx j (List.contains_iff_mem.mp h))
        · exact h
      obtain ⟨s1,h1,h2⟩:=front hr.hm hb h
      exact op_ok hr hf ho h1 hI fun a' w' g' I'=>any_one hr hf fuel (by simp at hl ⊢;omega) (hL.next hbx rfl) h2 (pairwise_less hp) I' hq
theorem rel_drop {ex:Nat × Nat}{q:List Nat}(h:q.Pairwise (Rel l b ex))(hx:ex.1 ∉ q∨ex.2 ∉ q):q.Pairwise (fun j i=>(b.getD i []).contains j=true∨swapB (opAt l j) (opAt l i)=true):=by
  refine List.Pairwise.imp_of_mem ?_ h
  intro j i hj hi hr
  rcases hr with hr | hr | hr
  · exact .inl hr
  · exact .inr hr
  · rcases hx with hx | hx
    · exact absurd (hr.1▸hj) hx
    · exact absurd (hr.2▸hi) hx
theorem nodup_split {q1 q2:List Nat}{i:Nat}(h:(q1++i::q2).Nodup):i ∉ q1++q2:=by
  rw [List.nodup_append] at h
  obtain ⟨_,n2,n3⟩:=h
  rw [List.nodup_cons] at n2
  intro hh
  rcases List.mem_append.mp hh with hh | hh
  · exact n3 i hh i (by simp) rfl
  · exact n2.1 hh
theorem mem_split {q1 q2:List Nat}{i x:Nat}:x ∈ q1++i::q2 ↔ x=i∨x ∈ q1++q2:=by
  simp only [List.mem_append,List.mem_cons]
  constructor
  · rintro (h | h | h)
    · exact .inr (.inl h)
    · exact .inl h
    · exact .inr (.inr h)
  · rintro (h | h | h)
    · exact .inr (.inl h)
    · exact .inl h
    · exact .inr (.inr h)
theorem any_two (hr:Reg ops f l b)(hf:∀ op s s',step C d (f op) s=some s'→ROk P ops op d s s'){ex:Nat × Nat}:∀ (fuel:Nat){q q':List Nat}{listed:Array Bool}{s s':St}{a:Act}{w:World}{g:G},q.length≤fuel→q'.length≤fuel→Left ops.size b listed q →
    q'.Nodup→(∀ x,x ∈ q' ↔ x ∈ q)→runS C d (q.map (opAt l)) s=some s'→runS C d (q'.map (opAt l)) s=some s'→q.Pairwise (Rel l b ex)→q'.Pairwise (Rel l b (ex.2,ex.1))→Inv w0 g0 d s a w g→(∀ a' w' g',Inv w0 g0 d s' a' w' g'→Q .normal a' w')→wpAny P .any ops Q fuel listed a w
  | 0,q,q',listed,s,s',a,w,g,hl,hl',hL,hn,hm,h,h',hp,hp',hI,hq=>by
    have e:q=[]:=List.length_eq_zero_iff.mp (by omega)
    subst e
    exact any_one hr hf 0 (by simp) hL h .nil hI hq
  | fuel+1,q,q',listed,s,s',a,w,g,hl,hl',hL,hn,hm,h,h',hp,hp',hI,hq=>by
    refine ⟨fun hnr=>?_,fun i hi=>?_⟩
    · by_cases e:q=[]
      · subst e
        simp only [List.map_nil,runS,zI] at h
        subst h
        exact hq a w g hI
      · exact absurd hnr (hL.some_ready hr e)
    · obtain ⟨hiq,⟨o,ho⟩,hbx⟩:=hL.ready hr hi
      obtain ⟨p1,p2,hp12⟩:=split_mem ((hm i).mpr hiq)
      obtain ⟨q1,q2,hq12⟩:=split_mem hiq
      have hni:i ∉ q1++q2:=nodup_split (hq12▸hL.nodup)
      have hni':i ∉ p1++p2:=nodup_split (hp12▸hn)
      have hmem:∀ x,x ∈ p1++p2 ↔ x ∈ q1++q2:=fun x=>by
        have:=hm x
        rw [hp12,hq12,mem_split,mem_split] at this
        constructor
        · intro hx
          rcases this.mp (.inr hx) with rfl | h
          · exact absurd hx hni'
          · exact h
        · intro hx
          rcases this.mpr (.inr hx) with rfl | h
          · exact absurd hx hni
          · exact h
      have hb:i≠ex.2→∀ j ∈ q1,swapB (opAt l j) (opAt l i)=true:=fun hne j hj=>by
        rcases pairwise_before (hq12▸hp) j hj with h | h | h
        · exact absurd (by rw [hq12];simp [hj]:j ∈ q) (hbx j (List.contains_iff_mem.mp h))
        · exact h
        · exact absurd h.2 hne
      have hb':i≠ex.1→∀ j ∈ p1,swapB (opAt l j) (opAt l i)=true:=fun hne j hj=>by
        rcases pairwise_before (hp12▸hp') j hj with h | h | h
        · exact absurd ((hm j).mp (by rw [hp12];simp [hj])) (hbx j (List.contains_iff_mem.mp h))
        · exact h
        · exact absurd h.2 hne
      have hlq:(q1++q2).length≤fuel:=by rw [hq12] at hl;simp at hl ⊢;omega
      have hlp:(p1++p2).length≤fuel:=by rw [hp12] at hl';simp at hl' ⊢;omega
      have hL1:Left ops.size b (listed.setIfInBounds i true) (q1++q2):=hL.next hbx hq12
      by_cases e2:i=ex.2
      · by_cases e1:i=ex.1
        ·
          have hall:∀ j ∈ q1,swapB (opAt l j) (opAt l i)=true:=fun j hj=>by
            rcases pairwise_before (hq12▸hp) j hj with h | h | h
            · exact absurd (by rw [hq12];simp [hj]:j ∈ q) (hbx j (List.contains_iff_mem.mp h))
            · exact h
            · exact absurd (h.1.trans e1.symm▸hj) (fun hh=>hni (List.mem_append_left _ hh))
          obtain ⟨s1,h1,h2⟩:=front hr.hm hall (hq12▸h)
          exact op_ok hr hf ho h1 hI fun a' w' g' I'=>any_one hr hf fuel hlq hL1 h2 (rel_drop (pairwise_less (hq12▸hp)) (.inr (e2▸hni))) I' hq
        · obtain ⟨s1,h1,h2⟩:=front hr.hm (hb' e1) (hp12▸h')
          have hL2:Left ops.size b (listed.setIfInBounds i true) (p1++p2):=by
            refine ⟨hL1.size,(hp12▸hn).sublist (List.Sublist.append (List.Sublist.refl p1) (List.sublist_cons_self i p2)),fun j hj=>hL1.lt j ((hmem j).mp hj),fun j hj=>?_,fun j hj hjq x hx hh=>?_⟩
            · rw [hL1.mem j hj]
              exact not_congr (hmem j).symm
            · exact hL1.closed j hj (fun h=>hjq ((hmem j).mpr h)) x hx ((hmem x).mp hh)
          exact op_ok hr hf ho h1 hI fun a' w' g' I'=>any_one hr hf fuel hlp hL2 h2 (rel_drop (pairwise_less (hp12▸hp')) (.inl (e2▸hni'))) I' hq
      · obtain ⟨s1,h1,h2⟩:=front hr.hm (hb e2) (hq12▸h)
        by_cases e1:i=ex.1
        · exact op_ok hr hf ho h1 hI fun a' w' g' I'=>any_one hr hf fuel hlq hL1 h2 (rel_drop (pairwise_less (hq12▸hp)) (.inl (e1▸hni))) I' hq
        · obtain ⟨s2,h3,h4⟩:=front hr.hm (hb' e1) (hp12▸h')
          rw [h1] at h3
          cases h3
          exact op_ok hr hf ho h1 hI fun a' w' g' I'=>any_two hr hf fuel hlq hlp hL1 ((hp12▸hn).sublist (List.Sublist.append (List.Sublist.refl p1) (List.sublist_cons_self i p2))) hmem h2 h4 (pairwise_less (hq12▸hp)) (pairwise_less (hp12▸hp')) I' hq
theorem range_ops (hr:Reg ops f l b):(List.range ops.size).map (opAt l)=l.map (·.1):=by
  apply List.ext_getElem?
  intro i
  rw [List.getElem?_map,List.getElem?_map,← hr.len]
  rcases Nat.lt_or_ge i l.length with h | h
  · rw [List.getElem?_range h,List.getElem?_eq_getElem h]
    simp only [Option.map_some,opAt,List.getD_eq_getElem?_getD,List.getElem?_eq_getElem h,Option.getD_some]
  · rw [List.getElem?_eq_none (by simpa using h),List.getElem?_eq_none h];rfl
theorem left0:Left ops.size b (Array.replicate ops.size false) (List.range ops.size) where
  size:=by simp
  nodup:=List.nodup_range
  lt:=fun i hi=>by simpa using hi
  mem:=fun i hi=>by
    rw [Array.getD_eq_getD_getElem?,Array.getElem?_eq_getElem (by simpa using hi)]
    simp [hi]
  closed:=fun j hj hh=>absurd (by simpa using hj) hh
theorem Inv.world {s:St}{a:Act}{w w':World}{g:G}(h:Inv w0 g0 d s a w g)(k:Keep w g w' g (fun _=>True) (fun _=>True)):Inv w0 g0 d s a w' g where
  defers:=h.defers
  len:=h.len
  regs:=fun u=>k.rt trivial (h.regs u)
  objs:=fun q o hq=>k.objr trivial (fun _ _=>trivial) (h.objs q o hq)
  live:=h.live
  dom:=h.dom
  lev:=h.lev
  same:=h.same
  fr:=h.fr.keep k (fun _ _=>rfl)
theorem draw_ok {cx:Cx}(hk:Okk P cx){C:CallF}(hC:CallOK P C):DrawOk P cx C:=by
  intro hh d n id ops s s' e h w0 g0 a w g hI Q hq
  have hf:∀ op s s',step C d (prepO cx hh P true ops op) s=some s'→ROk P ops op d s s':=fun op s s' h=>prepO_ok hk hC h
  have hI':Inv w0 g0 d s a { w with drawn:=w.drawn+1 } g:=hI.world (show Keep w g { w with drawn:=w.drawn+1 } g (fun _=>True) (fun _=>True) from ⟨⟨Nat.le_refl _,fun _ _ h=>⟨h,rfl⟩,fun _ _=>Nat.le_refl _⟩,rfl,rfl,rfl,fun _ _ h=>⟨h,rfl⟩,fun _ _ _ _ h=>⟨h,rfl⟩,fun _ _ _ _ h=>⟨h,rfl⟩,fun _ _ h=>h⟩)
  refine wp_region_any hk.mixed ?_
  unfold drawC at h
  simp only at h
  split at h
  · rename_i hc
    simp only [Bool.and_eq_true] at hc
    have hr:Reg ops (prepO cx hh P true ops) (ops.toList.map fun o=>(prepO cx hh P true ops o,afters o)) (befs [] ((ops.toList.map fun o=>(prepO cx hh P true ops o,afters o)).map (·.2))):=⟨rfl,rfl,hc.1,hc.2⟩
    have hlen:=hr.len
    split at h
    · rename_i hq1
      simp only [E,bnd_eq,zI,zP] at h
      obtain ⟨s1,h1,rfl,rfl⟩:=h
      rw [← range_ops hr] at h1
      have hrel:=(okQ_rel hq1).2
      rw [hlen] at hrel
      exact any_one hr hf ops.size (by simp) left0 h1 (rel_drop hrel (.inl (by simp))) hI' hq
    · split at h
      · rename_i hq2
        simp only [Bool.and_eq_true] at hq2
        obtain ⟨⟨hA,hB⟩,⟨hC1,hC2⟩,hC3⟩:=hq2
        simp only [E,bnd_eq] at h
        obtain ⟨s1,h1,h2⟩:=h
        split at h2
        · rename_i h3
          simp only [zI,zP] at h2
          obtain ⟨rfl,rfl⟩:=h2
          rw [← range_ops hr] at h1
          have hrel:=(okQ_rel hA).2
          have hrel':=(okQ_rel hB).2
          rw [hlen] at hrel
          have hnd:=nodupB_ok hC1
          have hmem:∀ x,x ∈ otherQ (ops.toList.map fun o=>(prepO cx hh P true ops o,afters o)).length (befs [] ((ops.toList.map fun o=>(prepO cx hh P true ops o,afters o)).map (·.2))) (clash (ops.toList.map fun o=>(prepO cx hh P true ops o,afters o)) (befs [] ((ops.toList.map fun o=>(prepO cx hh P true ops o,afters o)).map (·.2)))).2 ↔ x ∈ List.range ops.size:=by
            intro x
            constructor
            · intro hx
              have h2:=of_decide_eq_true (List.all_eq_true.mp hC2 x hx)
              rw [List.mem_range,← hlen]
              exact h2
            · intro hx
              rw [← hlen] at hx
              exact List.contains_iff_mem.mp (List.all_eq_true.mp hC3 x hx)
          have hlq:(otherQ (ops.toList.map fun o=>(prepO cx hh P true ops o,afters o)).length (befs [] ((ops.toList.map fun o=>(prepO cx hh P true ops o,afters o)).map (·.2))) (clash (ops.toList.map fun o=>(prepO cx hh P true ops o,afters o)) (befs [] ((ops.toList.map fun o=>(prepO cx hh P true ops o,afters o)).map (·.2)))).2).length≤ops.size:=by
            have:=hnd.length_le_of_subset (l₂:=List.range ops.size) (fun x hx=>(hmem x).mp hx)
            simpa using this
          exact any_two hr hf ops.size (by simp) hlq left0 hnd hmem h1 h3 hrel hrel' hI' hq
        · cases h2
      · simp only [E] at h;cases h
  · simp only [E] at h;cases h
theorem den_ok {cx:Cx}(hk:Okk P cx){PT:Nat→Option Fun}
    (hP:∀ f F,PT f=some F→∃ fn h,P.funcs[f]?=some fn∧(fn.name == "runtime.NumGoroutine")=false∧prepF cx h P fn=some F) (n:Nat):CallOK P (DN PT n):=
  dn_ok hk (fun _ h=>draw_ok hk h) hP n
end Go.Den
