import Derived.Test.YtblkhnacgnlbdaaGreatDoorEY1
set_option linter.all false
namespace Go.Den
variable {P:Nat→Option Fun} {n d:Nat} {y:Ys} {s:St} {G:Gs}
theorem yget_delAll (ts:List Nat):∀ (e:List En) (m:Nat),yget (delAll ts e) m=if m ∈ ts then none else yget e m
  | [],m=>by simp [delAll,yget]
  | (t,x)::r,m=>by
    simp only [delAll]
    cases h:ts.any (Nat.beq t) with
    | true =>
      have hm:t ∈ ts:=by
        rw [List.any_eq_true] at h
        obtain ⟨u,hu,hb⟩:=h
        rw [Nat.eq_of_beq_eq_true hb];exact hu
      simp only [cond_true,yget_delAll ts r m,yget]
      split
      · rfl
      · rename_i hn
        cases hb:Nat.beq t m with
        | true=>rw [Nat.eq_of_beq_eq_true hb] at hm;exact absurd hm hn
        | false=>rfl
    | false =>
      have hm:t ∉ ts:=by
        intro hh
        rw [List.any_eq_false] at h
        exact h t hh (Nat.beq_refl t)
      simp only [cond_false,yget,yget_delAll ts r m]
      cases hb:Nat.beq t m with
      | true=>have e:=Nat.eq_of_beq_eq_true hb;rw [← e];simp [hm]
      | false=>rfl
theorem okAll_spec:∀ {e:List En},okAll e=true→∀ t gs v,yget e t=some (gs,v)→gs=[]
  | [],_,t,gs,v,h=>by simp [yget] at h
  | (a,x,u)::r,h,t,gs,v,hg=>by
    simp only [okAll,Bool.and_eq_true] at h
    simp only [yget] at hg
    cases hb:Nat.beq a t with
    | true =>
      rw [hb] at hg
      simp only [cond_true,Option.some.injEq,Prod.mk.injEq] at hg
      obtain ⟨rfl,_⟩:=hg
      simpa using h.1
    | false =>
      rw [hb] at hg
      exact okAll_spec h.2 t gs v hg
theorem killS_get:∀ (ts:List Nat) (s:St) (m:Nat),rget (killS ts s).r m=if m ∈ ts then .dead else rget s.r m
  | [],s,m=>by simp [killS]
  | t::r,s,m=>by
    simp only [killS]
    rw [killS_get r]
    by_cases hr:m ∈ r
    · simp [hr]
    · rw [if_neg hr]
      simp only [St.put,rget_rset]
      by_cases hm:m=t
      · subst hm
        have hin:m ∈ m::r:=by simp
        rw [if_pos hin]
        by_cases hl:m < s.r.length
        · simp [hl]
        · simp only [hl,and_false,if_false];exact rget_ge _ _ (by omega)
      · rw [if_neg (fun h=>hm h.1),if_neg (by simp [hm,hr])]
theorem killS_len:∀ (ts:List Nat) (s:St),(killS ts s).r.length=s.r.length∧(killS ts s).l=s.l∧(killS ts s).f=s.f∧(killS ts s).w=s.w
  | [],s=>⟨rfl,rfl,rfl,rfl⟩
  | t::r,s=>by
    simp only [killS]
    obtain ⟨h1,h2,h3,h4⟩:=killS_len r (s.put t .dead)
    exact ⟨h1.trans (by simp only [St.put,rset_length]),h2,h3,h4⟩
theorem Yr.kill (h:Yr n y s) {ts:List Nat} (hk:okAll (delAll ts y.e)=true):Yr n { y with e:=delAll ts y.e } (killS ts s):=by
  obtain ⟨h1,h2,h3,h4⟩:=killS_len ts s
  refine ⟨h1.trans h.len,h2.trans h.l,h3.trans h.f,h4.trans h.w,fun m=>?_,fun m z hz=>?_,fun m g gs v hv=>?_⟩
  · unfold SlotR
    simp only
    rw [yget_delAll,killS_get]
    by_cases hm:m ∈ ts
    · rw [if_pos hm,if_pos hm]
    · rw [if_neg hm,if_neg hm]
      have:=h.slot m
      unfold SlotR at this
      cases hq:yget y.e m with
      | none=>rw [hq] at this;exact this
      | some p =>
        obtain ⟨gs,v⟩:=p
        have hgs:gs=[]:=okAll_spec hk m gs v (by rw [yget_delAll,if_neg hm];exact hq)
        subst hgs
        rw [hq] at this
        exact this
  · simp only [yget_delAll] at hz
    split at hz
    · cases hz
    · exact h.lt m z hz
  · have:=okAll_spec hk m _ v hv
    cases this
theorem stV_mem {p:V} {cs:List V} {s0 s1:St} (h:stV d s0 p cs=some s1) (s:St) (hl:s.l=s0.l) (hf:s.f=s0.f) (hw:s.w=s0.w):stV d s p cs=some { r:=s.r,l:=s1.l,f:=s1.f,w:=s1.w }:=by
  have hg:∀ k,s.get d k=s0.get d k:=fun k=>by simp only [St.get,hl,hf]
  have hs:∀ k o,s.set d k o={ r:=s.r,l:=(s0.set d k o).l,f:=(s0.set d k o).f,w:=(s0.set d k o).w }:=fun k o=>by
    unfold St.set
    split<;>simp [hl,hf,hw]
  unfold stV at h ⊢
  split at h
  · simp only [hg,hs]
    split at h
    · split at h
      · split at h
        · rename_i hc;cases h;rw [if_pos hc]
        · cases h
      · cases h
    · split at h
      · split at h
        · rename_i hc;cases h;rw [if_pos hc]
        · cases h
      · cases h
    · cases h
  · cases h
theorem recvP_of {t:Nat} {v v':V} (h:recvP v=some v') (s:St):recv d t false v s=some (v',s):=by
  have hL:∀ (cs:List V) (j:Nat),cs.any V.isBox=false→recvL d t false j cs s=some (cs.map V.sh,s):=by
    intro cs
    induction cs with
    | nil=>intro j _;rfl
    | cons c r ih =>
      intro j hb
      simp only [List.any_cons,Bool.or_eq_false_iff] at hb
      have h1:recv1 d t j false c s=some (c.sh,s):=by
        cases c<;>first | rfl | (simp [V.isBox] at hb)
      simp only [recvL,h1,ih _ hb.2,Option.map_some,List.map_cons]
  unfold recvP at h
  split at h
  · split at h
    · cases h
    · rename_i hb;cases h;simp only [recv,hL _ _ (by simpa using hb),Option.map_some]
  · split at h
    · cases h
    · rename_i hb;cases h;simp only [recv,hL _ _ (by simpa using hb),Option.map_some]
  · cases h
  · cases h;rfl
  · rename_i h1 h2 h3 h4
    cases h
    cases v with
    | agg cs=>exact absurd rfl (h1 cs)
    | tup cs=>exact absurd rfl (h2 cs)
    | box cs=>exact absurd rfl (h3 cs)
    | sl z es o=>cases o<;>first | rfl | exact absurd rfl (h4 z es)
    | _=>rfl
theorem yB_ok (h:Yr n y s):∀ {ps:List (Nat × Nat × A)} {cs cs':List V},yB y ps cs=some cs'→partsB ps s cs=some (s,cs')
  | [],cs,cs',e=>by simp only [yB,Option.some.injEq] at e;rw [← e];rfl
  | (off,m,a)::r,cs,cs',e=>by
    simp only [yB] at e
    split at e
    · rename_i x hx
      have e1:=h.ev0 hx
      cases hu:x.uq with
      | true=>rw [hu] at e;cases e
      | false =>
        rw [hu] at e
        simp only [cond_false] at e
        split at e
        · rename_i xs hxs
          cases hb:(Nat.beq xs.length m && Nat.ble (off+m) cs.length) with
          | false=>rw [hb] at e;cases e
          | true =>
            rw [hb] at e
            simp only [cond_true] at e
            simp only [Bool.and_eq_true] at hb
            have hd:s.dem a=s:=dem_no (by rw [e1];exact hu)
            simp only [partsB,e1,hxs,bnd_some,hd]
            rw [if_pos ⟨Nat.eq_of_beq_eq_true hb.1,Nat.le_of_ble_eq_true hb.2⟩]
            exact yB_ok h e
        · cases e
    · cases e
theorem yL_ok (h:Yr n y s) {z:Nat}:∀ {ps:List (Nat × A)} {cs cs':List (List V)},yL y z ps cs=some cs'→partsL z ps s cs=some (s,cs')
  | [],cs,cs',e=>by simp only [yL,Option.some.injEq] at e;rw [← e];rfl
  | (i,a)::r,cs,cs',e=>by
    simp only [yL] at e
    split at e
    · rename_i x hx
      have e1:=h.ev0 hx
      cases hu:x.uq with
      | true=>rw [hu] at e;cases e
      | false =>
        rw [hu] at e
        simp only [cond_false] at e
        split at e
        · rename_i xs hxs
          cases hb:(Nat.beq xs.length z && Nat.blt i cs.length) with
          | false=>rw [hb] at e;cases e
          | true =>
            rw [hb] at e
            simp only [cond_true] at e
            simp only [Bool.and_eq_true] at hb
            have hd:s.dem a=s:=dem_no (by rw [e1];exact hu)
            simp only [partsL,e1,hxs,bnd_some,hd]
            rw [if_pos ⟨Nat.eq_of_beq_eq_true hb.1,by have:=hb.2;simp [Nat.blt] at this;omega⟩]
            exact yL_ok h e
        · cases e
    · cases e
theorem pvr_ok {o:O} {v:V} (h:Yr n y s) (hw:WG y G) (hg:HdS s G) (hp:pvr P d o y G v):step (low (D P)) d o s=some (s.put (dstC o) v):=by
  unfold pvr at hp
  split at hp
  · rename_i t fv xs
    obtain ⟨f,a,b,vs,r,e1,e2,e3,e4,e5,e6⟩:=hp
    simp only [step,h.ev hw hg e1,argP_plain h hw hg e2 e3,bnd_some,low_val e4 e5,e6,dstC]
    rfl
  · rename_i t raw fv xs
    obtain ⟨f,a,b,vs,r,e1,e2,e3,e4,e5,e6⟩:=hp
    simp only [step,h.ev hw hg e1,argL_plain h hw hg e2 e3,bnd_some,low_val e4 e5,dstC,took,after,Bool.false_eq_true,if_false,recvP_of e6,Option.map_some]
  · have:=pv_ok (C:=low (D P)) h hw hg hp
    rw [this]
    congr 1
    rename_i h1 h2
    cases o with
    | callp t f xs=>exact absurd rfl (h1 _ _ _)
    | call t raw ob f xs=>simp only [pv] at hp;cases hp
    | _=>rfl
end Go.Den
namespace Go.Den
variable {P:Nat→Option Fun} {n d:Nat} {y:Ys} {s:St} {G:Gs}
theorem wpO_ok {o:O} {k:Ys→Prop} (h:Yr n y s) (hp:wpO P n d o y k):∃ s1 y1,step (low (D P)) d o s=some s1∧Yr n y1 s1∧k y1:=by
  have pure:(∃ v,pv d o y []=some v∧dstK o fun t=>putK n y t v k)→∃ s1 y1,step (low (D P)) d o s=some s1∧Yr n y1 s1∧k y1:=by
    rintro ⟨v,h1,h2⟩
    rw [dstK_eq] at h2
    obtain ⟨y1,r1,k1⟩:=putK_ok (C:=low (D P)) h h2
    exact ⟨_,y1,pv_ok (C:=low (D P)) (G:=[]) h trivial trivial h1,r1,k1⟩
  have semP:sem P n d o y k→∃ s1 y1,step (low (D P)) d o s=some s1∧Yr n y1 s1∧k y1:=by
    exact fun hp=>hp s h
  unfold wpO at hp
  split at hp
  · rename_i t u
    split at hp
    · rename_i z es he
      have e:=h.ev0 he
      simp only [A.ev] at e
      obtain ⟨y1,r1,k1⟩:=putK_ok (C:=low (D P)) h hp
      obtain ⟨y2,r2,k2⟩:=putK_ok (C:=low (D P)) r1 k1
      exact ⟨_,y2,by simp only [step,St.dem,e,V.sh],r2,k2⟩
    · rename_i v hn he
      have e:=h.ev0 he
      simp only [A.ev] at e
      have hu:v.uq=false:=by
        cases v with
        | sl z es o=>cases o<;>first | rfl | exact (hn z es rfl).elim
        | _=>rfl
      have hd:s.dem (.t u)=s:=dem_no (by simp only [A.ev,e];exact hu)
      rw [shC_eq] at hp
      obtain ⟨y1,r1,k1⟩:=putK_ok (C:=low (D P)) h hp
      exact ⟨_,y1,by simp only [step,hd,e],r1,k1⟩
    · exact hp.elim
  · rename_i t u
    split at hp
    · rename_i z es he
      have e:=h.ev0 he
      simp only [A.ev] at e
      obtain ⟨y1,r1,k1⟩:=delK_ok h hp
      obtain ⟨y2,r2,k2⟩:=putK_ok (C:=low (D P)) r1 k1
      exact ⟨_,y2,by simp only [step,St.off,e],r2,k2⟩
    · rename_i v hn he
      have e:=h.ev0 he
      simp only [A.ev] at e
      have hu:v.uq=false:=by
        cases v with
        | sl z es o=>cases o<;>first | rfl | exact (hn z es rfl).elim
        | _=>rfl
      have hd:s.off (.t u)=s:=off_no (by simp only [A.ev,e];exact hu)
      obtain ⟨y1,r1,k1⟩:=putK_ok (C:=low (D P)) h hp
      exact ⟨_,y1,by simp only [step,hd,e],r1,k1⟩
    · exact hp.elim
  · rename_i ts
    simp only at hp
    rw [delAllC_eq] at hp
    split at hp
    · rename_i hc
      exact ⟨_,_,by simp only [step],h.kill hc,hp⟩
    · exact hp.elim
  · rename_i t want u o
    split at hp
    · rename_i gs b he
      obtain ⟨v,h1,h2,h3⟩:=hp
      have hslot:=h.slot t
      unfold SlotR at hslot
      rw [he] at hslot
      have hWG:WG y ((t,want)::gs):=⟨⟨b,he⟩,pv_ok.wg_of h he⟩
      by_cases hh:rget s.r t=.bool want
      · have hGH:=GH_of h hWG hh
        have hv:=h1 ⟨by
          have:=hGH.1
          rw [he] at this
          exact this,hGH.2⟩
        have hs:=pvr_ok h hWG hh hv
        rw [h2] at hs
        obtain ⟨y1,r1,k1⟩:=putG_ok (C:=low (D P)) (x:=v) h h3 hWG (fun _=>rfl) (fun g r e hne=>by cases e;exact absurd hh hne)
        exact ⟨_,y1,by simp only [step,hh,if_true];exact hs,r1,k1⟩
      · have hs:step (low (D P)) d (.g t want u o) s=some (s.put u (.tup [])):=by
          cases gs with
          | nil =>
            simp only at hslot
            simp only [step,hslot]
            rw [if_neg (by rintro rfl;exact hh hslot)]
          | cons g r =>
            simp only at hslot
            by_cases hg:rget s.r g.1=.bool g.2
            · have hb:=hslot.1 hg
              simp only [step,hb]
              rw [if_neg (by rintro rfl;exact hh hb)]
            · simp only [step,hslot.2 hg]
        obtain ⟨y1,r1,k1⟩:=putG_ok (C:=low (D P)) (x:=.tup []) h h3 hWG (fun hg=>absurd hg hh) (fun g r e hne=>rfl)
        exact ⟨_,y1,hs,r1,k1⟩
    · rename_i he
      have e:=h.plain he
      obtain ⟨y1,r1,k1⟩:=putK_ok (C:=low (D P)) h hp
      exact ⟨_,y1,by simp only [step,e],r1,k1⟩
    · exact hp.elim
  · rename_i t z a b
    obtain ⟨va,vb,xs,v,e1,e2,e3,e4,e5⟩:=hp
    obtain ⟨y1,r1,k1⟩:=offK_ok h e5
    obtain ⟨y2,r2,k2⟩:=demK_ok (C:=low (D P)) r1 k1
    obtain ⟨y3,r3,k3⟩:=putK_ok (C:=low (D P)) r2 k2
    exact ⟨_,y3,by simp only [step,h.ev0 e1,h.ev0 e2,h.srcV,e3,e4,Option.map_some],r3,k3⟩
  · exact semP hp
  · rename_i t z str x lo hi mx
    obtain ⟨v,e1,e2⟩:=hp
    obtain ⟨y1,r1,k1⟩:=demK_ok (C:=low (D P)) h e2
    obtain ⟨y2,r2,k2⟩:=putK_ok (C:=low (D P)) r1 k1
    refine ⟨_,y2,?_,r2,k2⟩
    obtain ⟨u,hx,hk⟩:=ev1_some e1
    split at hk
    · rename_i l' h' m' hl hh hm
      simp only [step,h.ev0 hx,h.evO (G:=[]) trivial trivial hl,h.evO (G:=[]) trivial trivial hh,h.evO (G:=[]) trivial trivial hm,hk,Option.map_some]
    · cases hk
  · rename_i t z x i
    obtain ⟨v,e1,e2⟩:=hp
    obtain ⟨y1,r1,k1⟩:=demK_ok (C:=low (D P)) h e2
    obtain ⟨y2,r2,k2⟩:=putK_ok (C:=low (D P)) r1 k1
    refine ⟨_,y2,?_,r2,k2⟩
    obtain ⟨u,j,hx,hi,hk⟩:=ev2_some e1
    simp only [step,h.ev0 hx,h.ev0 hi]
    split at hk
    · simp only
      split at hk
      · rename_i hc;cases hk;rw [if_pos hc]
      · cases hk
    · rename_i ky z2 lo m k0 nn
      have hd:s.dem x=s:=dem_no (by rw [h.ev0 hx];rfl)
      simp only [hd] at r1 r2 ⊢
      simp only [h.get]
      split at hk
      · rename_i hg
        split at hk
        · rename_i hc;cases hk;rw [hg];simp only;rw [if_pos hc]
        · cases hk
      · rename_i hg
        split at hk
        · rename_i hc;cases hk;rw [hg];simp only;rw [if_pos hc]
        · cases hk
      · cases hk
    · cases hk
  · exact semP hp
  · exact semP hp
  · exact semP hp
  · exact semP hp
  · exact semP hp
  · exact semP hp
  · exact semP hp
  · exact semP hp
  · exact semP hp
  · exact semP hp
  · exact semP hp
  · exact semP hp
  · exact semP hp
  · exact semP hp
  · exact semP hp
  · exact semP hp
  · exact semP hp
  · exact semP hp
  · exact semP hp
  · exact semP hp
  · exact pure hp
structure WpO (P:Nat→Option Fun) (n d:Nat) (o:O) (y:Ys) (k:Ys→Prop):Prop where
  out:wpO P n d o y k
structure WpK (y:Ys) (c:A) (X Z:Prop):Prop where
  out:∃ t,ev y [] c=some (.bool t)∧(t=true→X)∧(t=false→Z)
def wpR (P:Nat→Option Fun) (n d:Nat):List O→Ys→(Ys→Prop)→Prop
  | [],y,k=>k y
  | o::r,y,k=>WpO P n d o y fun y1=>wpR P n d r y1 k
theorem wpO_mono {o:O} {k k':Ys→Prop} (hk:∀ y,k y→k' y) (hp:wpO P n d o y k):wpO P n d o y k':=by
  have pG:∀ {n:Nat} {y:Ys} {t:Nat} {gs:Gs} {v:V} {k k':Ys→Prop},(∀ y,k y→k' y)→putG n y t gs v k→putG n y t gs v k':=by
    intro n y t gs v k k' hk hp
    unfold putG at *
    simp only at *
    split at hp
    · rw [delC_eq] at *;exact hk _ hp
    · exact hp.elim
  have pD:∀ {y:Ys} {t:Nat} {k k':Ys→Prop},(∀ y,k y→k' y)→delK y t k→delK y t k':=by
    intro y t k k' hk hp
    unfold delK at *
    simp only at *
    split at hp
    · rw [delC_eq] at *;exact hk _ hp
    · exact hp.elim
  have pM:∀ {n:Nat} {y:Ys} {a:A} {k k':Ys→Prop},(∀ y,k y→k' y)→demK n y a k→demK n y a k':=by
    intro n y a k k' hk hp
    cases a with
    | c v=>exact hk _ hp
    | t u =>
      simp only [demK] at *
      split at hp
      · exact pG hk hp
      · exact hk _ hp
      · exact hp.elim
  have pF:∀ {y:Ys} {a:A} {k k':Ys→Prop},(∀ y,k y→k' y)→offK y a k→offK y a k':=by
    intro y a k k' hk hp
    cases a with
    | c v=>exact hk _ hp
    | t u =>
      simp only [offK] at *
      split at hp
      · exact pD hk hp
      · exact hk _ hp
      · exact hp.elim
  have pure:(∃ v,pv d o y []=some v∧dstK o fun t=>putK n y t v k)→∃ v,pv d o y []=some v∧dstK o fun t=>putK n y t v k':=fun ⟨v,h1,h2⟩=>⟨v,h1,by rw [dstK_eq] at *;exact pG hk h2⟩
  unfold wpO at *
  split at hp
  · split at hp
    · exact pG (fun _ h=>pG hk h) hp
    · rw [shC_eq] at *;exact pG hk hp
    · exact hp.elim
  · split at hp
    · exact pD (fun _ h=>pG hk h) hp
    · exact pG hk hp
    · exact hp.elim
  · simp only at *
    rw [delAllC_eq] at *
    split at hp
    · exact hk _ hp
    · exact hp.elim
  · split at hp
    · obtain ⟨v,h1,h2,h3⟩:=hp;exact ⟨v,h1,h2,pG hk h3⟩
    · exact pG hk hp
    · exact hp.elim
  · obtain ⟨va,vb,xs,v,e1,e2,e3,e4,e5⟩:=hp
    exact ⟨va,vb,xs,v,e1,e2,e3,e4,pF (fun _ h=>pM (fun _ h=>pG hk h) h) e5⟩
  · exact fun s r=>by obtain ⟨s1,y1,a,b,c⟩:=hp s r;exact ⟨s1,y1,a,b,hk _ c⟩
  · obtain ⟨v,e1,e2⟩:=hp;exact ⟨v,e1,pM (fun _ h=>pG hk h) e2⟩
  · obtain ⟨v,e1,e2⟩:=hp;exact ⟨v,e1,pM (fun _ h=>pG hk h) e2⟩
  · exact fun s r=>by obtain ⟨s1,y1,a,b,c⟩:=hp s r;exact ⟨s1,y1,a,b,hk _ c⟩
  · exact fun s r=>by obtain ⟨s1,y1,a,b,c⟩:=hp s r;exact ⟨s1,y1,a,b,hk _ c⟩
  · exact fun s r=>by obtain ⟨s1,y1,a,b,c⟩:=hp s r;exact ⟨s1,y1,a,b,hk _ c⟩
  · exact fun s r=>by obtain ⟨s1,y1,a,b,c⟩:=hp s r;exact ⟨s1,y1,a,b,hk _ c⟩
  · exact fun s r=>by obtain ⟨s1,y1,a,b,c⟩:=hp s r;exact ⟨s1,y1,a,b,hk _ c⟩
  · exact fun s r=>by obtain ⟨s1,y1,a,b,c⟩:=hp s r;exact ⟨s1,y1,a,b,hk _ c⟩
  · exact fun s r=>by obtain ⟨s1,y1,a,b,c⟩:=hp s r;exact ⟨s1,y1,a,b,hk _ c⟩
  · exact fun s r=>by obtain ⟨s1,y1,a,b,c⟩:=hp s r;exact ⟨s1,y1,a,b,hk _ c⟩
  · exact fun s r=>by obtain ⟨s1,y1,a,b,c⟩:=hp s r;exact ⟨s1,y1,a,b,hk _ c⟩
  · exact fun s r=>by obtain ⟨s1,y1,a,b,c⟩:=hp s r;exact ⟨s1,y1,a,b,hk _ c⟩
  · exact fun s r=>by obtain ⟨s1,y1,a,b,c⟩:=hp s r;exact ⟨s1,y1,a,b,hk _ c⟩
  · exact fun s r=>by obtain ⟨s1,y1,a,b,c⟩:=hp s r;exact ⟨s1,y1,a,b,hk _ c⟩
  · exact fun s r=>by obtain ⟨s1,y1,a,b,c⟩:=hp s r;exact ⟨s1,y1,a,b,hk _ c⟩
  · exact fun s r=>by obtain ⟨s1,y1,a,b,c⟩:=hp s r;exact ⟨s1,y1,a,b,hk _ c⟩
  · exact fun s r=>by obtain ⟨s1,y1,a,b,c⟩:=hp s r;exact ⟨s1,y1,a,b,hk _ c⟩
  · exact fun s r=>by obtain ⟨s1,y1,a,b,c⟩:=hp s r;exact ⟨s1,y1,a,b,hk _ c⟩
  · exact fun s r=>by obtain ⟨s1,y1,a,b,c⟩:=hp s r;exact ⟨s1,y1,a,b,hk _ c⟩
  · exact fun s r=>by obtain ⟨s1,y1,a,b,c⟩:=hp s r;exact ⟨s1,y1,a,b,hk _ c⟩
  · exact fun s r=>by obtain ⟨s1,y1,a,b,c⟩:=hp s r;exact ⟨s1,y1,a,b,hk _ c⟩
  · exact fun s r=>by obtain ⟨s1,y1,a,b,c⟩:=hp s r;exact ⟨s1,y1,a,b,hk _ c⟩
  · exact pure hp
theorem wpR_ok:∀ {ops:List O} {y:Ys} {s:St} {k:Ys→Prop},Yr n y s→wpR P n d ops y k→∃ s1 y1,runS (low (D P)) d ops s=some s1∧Yr n y1 s1∧k y1
  | [],y,s,k,h,hp=>⟨s,y,rfl,h,hp⟩
  | o::r,y,s,k,h,hp=>by
    obtain ⟨s1,y1,h1,r1,k1⟩:=wpO_ok h hp.out
    obtain ⟨s2,y2,h2,r2,k2⟩:=wpR_ok r1 k1
    exact ⟨s2,y2,by simp only [runS,h1,bnd_some,h2],r2,k2⟩
def ymask (y0:Ys):List En→List En
  | []=>[]
  | (t,gs,v)::r=>match yget y0.e t with
    | some (_,.dead)=>ymask y0 r
    | some _=>(t,gs,v)::ymask y0 r
    | none=>ymask y0 r
def ykeys:List En→List Key
  | []=>[]
  | (_,_,v)::r=>v.keys++ykeys r
def ycleanB (d:Nat) (y0 y1:Ys):Bool:=okAll y0.e && okAll (ymask y0 y1.e) && !((ykeys (ymask y0 y1.e)).any (gone d y0.l)) && ((y1.l.filter fun x=>has y0.l x.1 x.2.1).all fun x=>!(x.2.2.keys.any (gone d y0.l)))
def yclean (y0 y1:Ys):Ys:={ e:=ymask y0 y1.e,l:=y1.l.filter (fun x=>has y0.l x.1 x.2.1),f:=y1.f,w:=y1.w }
theorem yget_ymask (y0:Ys):∀ (e:List En) (t:Nat),yget (ymask y0 e) t=match yget y0.e t with
    | none=>none
    | some (_,.dead)=>none
    | some _=>yget e t
  | [],t=>by
    simp only [ymask,yget]
    split<;>rfl
  | (a,gs,v)::r,t=>by
    have ih:=yget_ymask y0 r t
    simp only [ymask]
    cases hb:Nat.beq a t with
    | true =>
      have e:=Nat.eq_of_beq_eq_true hb
      subst e
      split
      · rename_i h0;rw [ih,h0]
      · rename_i p h0 h1
        simp only [yget,Nat.beq_refl,cond_true]
        rw [h1]
        cases p with
        | mk pa pb=>cases pb<;>first | rfl | exact (h0 _ rfl).elim
      · rename_i h0;rw [ih,h0]
    | false =>
      have hy:∀ (l:List En),yget ((a,gs,v)::l) t=yget l t:=fun l=>by simp only [yget,hb,cond_false]
      split
      · rw [ih]
        split<;>simp only [hy]
      · rw [hy,ih]
        split<;>simp only [hy]
      · rw [ih]
        split<;>simp only [hy]
theorem rget_mask:∀ (r q:List V) (t:Nat),r.length=q.length→(rget r t=.dead→rget (mask r q) t=.dead)∧(rget r t≠.dead→rget (mask r q) t=rget q t)
  | [],[],t,_=>⟨fun _=>rfl,fun _=>rfl⟩
  | [],_::_,_,h=>by simp at h
  | _::_,[],_,h=>by simp at h
  | a::r,b::q,0,_=>by
    refine ⟨fun e=>?_,fun e=>?_⟩
    · simp only [rget] at e;subst e;rfl
    · simp only [rget] at e
      cases a<;>first | rfl | exact absurd rfl e
  | a::r,b::q,t+1,h=>by
    have ih:=rget_mask r q t (by simpa using h)
    have:rget (mask (a::r) (b::q)) (t+1)=rget (mask r q) t:=by cases a<;>rfl
    rw [this];exact ih
theorem mask_len:∀ (r q:List V),r.length=q.length→(mask r q).length=q.length
  | [],[],_=>rfl
  | [],_::_,h=>by simp at h
  | _::_,[],h=>by simp at h
  | a::r,b::q,h=>by
    have ih:=mask_len r q (by simpa using h)
    cases a<;>simp [mask,ih]
theorem ykeys_mem {k:Key}:∀ {e:List En} {t:Nat} {gs:Gs} {v:V},yget e t=some (gs,v)→k ∈ v.keys→k ∈ ykeys e
  | [],t,gs,v,h,_=>by simp [yget] at h
  | (a,x,u)::r,t,gs,v,h,hk=>by
    simp only [yget] at h
    simp only [ykeys,List.mem_append]
    cases hb:Nat.beq a t with
    | true =>
      rw [hb] at h
      simp only [cond_true,Option.some.injEq,Prod.mk.injEq] at h
      obtain ⟨rfl,rfl⟩:=h
      exact .inl hk
    | false =>
      rw [hb] at h
      exact .inr (ykeys_mem h hk)
theorem keysL_get {k:Key}:∀ {l:List V},k ∈ keysL l→∃ t,t < l.length∧k ∈ (rget l t).keys
  | [],h=>by simp [keysL] at h
  | v::r,h=>by
    simp only [keysL,List.mem_append] at h
    rcases h with h | h
    · exact ⟨0,by simp,h⟩
    · obtain ⟨t,h1,h2⟩:=keysL_get h
      exact ⟨t+1,by simp;omega,h2⟩
theorem clean_rel {y1:Ys} {s1:St} (h:Yr n y s) (h1:Yr n y1 s1) (hc:ycleanB d y y1=true):∃ s2,clean d s s1=some s2∧Yr n (yclean y y1) s2:=by
  simp only [ycleanB,Bool.and_eq_true,Bool.not_eq_true'] at hc
  obtain ⟨⟨⟨c0,c1⟩,c2⟩,c3⟩:=hc
  have hlen:s.r.length=s1.r.length:=by rw [h.len,h1.len]
  have slot:∀ t,SlotR (yclean y y1) { r:=mask s.r s1.r,l:=s1.l.filter (fun x=>has s.l x.1 x.2.1),f:=s1.f,w:=s1.w } t:=by
    intro t
    unfold SlotR
    simp only [yclean,yget_ymask]
    have hm:=rget_mask s.r s1.r t hlen
    have hs:=h.slot t
    unfold SlotR at hs
    cases hq:yget y.e t with
    | none=>rw [hq] at hs;simp only at hs ⊢;exact hm.1 hs
    | some p =>
      obtain ⟨gs,v⟩:=p
      have hgs:gs=[]:=okAll_spec c0 t gs v hq
      subst hgs
      rw [hq] at hs
      simp only at hs
      by_cases hv:v=.dead
      · subst hv
        simp only
        exact hm.1 hs
      · have e1:(match (some (([]:Gs),v):Option (Gs × V)) with
            | none=>none
            | some (_,.dead)=>none
            | some _=>yget y1.e t)=yget y1.e t:=by cases v<;>first | rfl | exact absurd rfl hv
        rw [e1,hm.2 (by rw [hs];exact hv)]
        have hs1:=h1.slot t
        unfold SlotR at hs1
        cases hq1:yget y1.e t with
        | none=>rw [hq1] at hs1;exact hs1
        | some p1 =>
          obtain ⟨gs1,v1⟩:=p1
          have:gs1=[]:=okAll_spec c1 t gs1 v1 (by rw [yget_ymask,hq,e1];exact hq1)
          subst this
          rw [hq1] at hs1
          exact hs1
  refine ⟨{ r:=mask s.r s1.r,l:=s1.l.filter (fun x=>has s.l x.1 x.2.1),f:=s1.f,w:=s1.w },?_,⟨?_,?_,h1.f,h1.w,slot,?_,?_⟩⟩
  · unfold clean
    rw [if_pos]
    refine ⟨?_,by rw [h1.l,h.l];exact c3⟩
    rw [List.any_eq_false]
    intro k hk
    obtain ⟨t,_,hkt⟩:=keysL_get hk
    have hs:=slot t
    unfold SlotR at hs
    simp only at hs
    rw [List.any_eq_false] at c2
    have:k ∈ ykeys (ymask y y1.e):=by
      cases hq:yget (yclean y y1).e t with
      | none=>rw [hq] at hs;simp only at hs;rw [hs] at hkt;simp [V.keys] at hkt
      | some p =>
        obtain ⟨gs,v⟩:=p
        have hgs:gs=[]:=okAll_spec c1 t gs v hq
        subst hgs
        rw [hq] at hs
        simp only at hs
        rw [hs] at hkt
        exact ykeys_mem hq hkt
    rw [h.l]
    exact c2 k this
  · rw [mask_len _ _ hlen];exact h1.len
  · simp only [yclean,h1.l,h.l]
  · intro t x hx
    simp only [yclean,yget_ymask] at hx
    cases hq:yget y.e t with
    | none=>rw [hq] at hx;cases hx
    | some p=>exact h.lt t p hq
  · intro t g gs v hv
    have:=okAll_spec c1 t _ v hv
    cases this
def yins (x:En):List En→List En
  | []=>[x]
  | z::r=>match Nat.ble x.1 z.1 with
    | true=>x::z::r
    | false=>z::yins x r
def ysortL:List En→List En
  | []=>[]
  | x::r=>yins x (ysortL r)
def ysort (y:Ys):Ys:=⟨ysortL y.e,y.l,y.f,y.w⟩
theorem yget_cons (x:En) (r:List En) (m:Nat):yget (x::r) m=if x.1=m then some x.2 else yget r m:=by
  obtain ⟨t,u⟩:=x
  simp only [yget]
  cases hb:Nat.beq t m with
  | true=>have e:=Nat.eq_of_beq_eq_true hb;subst e;simp
  | false =>
    have:t≠m:=by rintro rfl;rw [Nat.beq_refl] at hb;cases hb
    rw [if_neg this];rfl
theorem yget_yins (x:En):∀ (l:List En) (m:Nat),yget (yins x l) m=if x.1=m then some x.2 else yget l m
  | [],m=>by simp only [yins,yget_cons]
  | z::r,m=>by
    simp only [yins]
    split
    · simp only [yget_cons]
    · rename_i hb
      simp only [yget_cons,yget_yins x r]
      have:x.1≠z.1:=by intro e;rw [e,show Nat.ble z.1 z.1=true from Nat.ble_eq_true_of_le (Nat.le_refl _)] at hb;cases hb
      by_cases h1:z.1=m
      · rw [if_pos h1,if_neg (fun e=>this (e.trans h1.symm)),if_pos h1]
      · rw [if_neg h1,if_neg h1]
theorem yget_sort:∀ (l:List En) (m:Nat),yget (ysortL l) m=yget l m
  | [],_=>rfl
  | x::r,m=>by simp only [ysortL,yget_yins,yget_cons,yget_sort r]
theorem Yr.sort (h:Yr n y s):Yr n (ysort y) s:=by
  refine ⟨h.len,h.l,h.f,h.w,fun t=>?_,fun t x hx=>?_,fun t g gs v hv=>?_⟩
  · have:=h.slot t
    unfold SlotR at this ⊢
    simp only [ysort,yget_sort]
    exact this
  · simp only [ysort,yget_sort] at hx
    exact h.lt t x hx
  · simp only [ysort,yget_sort] at hv ⊢
    exact h.wf t g gs v hv
def ymaskC (y0:Ys):List En→(List En→Prop)→Prop
  | [],k=>k []
  | (t,gs,v)::r,k=>match yget y0.e t with
    | some (_,.dead)=>ymaskC y0 r k
    | some _=>ymaskC y0 r fun r'=>k ((t,gs,v)::r')
    | none=>ymaskC y0 r k
theorem ymaskC_eq (y0:Ys):∀ (e:List En) (k:List En→Prop),ymaskC y0 e k=k (ymask y0 e)
  | [],_=>rfl
  | (t,gs,v)::r,k=>by
    simp only [ymaskC,ymask]
    split<;>exact ymaskC_eq y0 r _
def filtC (l0:Loc):Loc→(Loc→Prop)→Prop
  | [],k=>k []
  | (t,u,o)::r,k=>match has l0 t u with
    | true=>filtC l0 r fun r'=>k ((t,u,o)::r')
    | false=>filtC l0 r k
theorem filtC_eq (l0:Loc):∀ (l:Loc) (k:Loc→Prop),filtC l0 l k=k (l.filter fun x=>has l0 x.1 x.2.1)
  | [],_=>rfl
  | (t,u,o)::r,k=>by
    simp only [filtC]
    split
    · rename_i hc;rw [List.filter_cons_of_pos (by exact hc),filtC_eq l0 r]
    · rename_i hc;rw [List.filter_cons_of_neg (by simp only [hc];decide),filtC_eq l0 r]
def ycleanC (y0 y1:Ys) (k:Ys→Prop):Prop:=
  match y1 with
  | ⟨e,l,f,w⟩=>ymaskC y0 e fun e'=>filtC y0.l l fun l'=>k ⟨e',l',f,w⟩
theorem ycleanC_eq (y0 y1:Ys) (k:Ys→Prop):ycleanC y0 y1 k=k (yclean y0 y1):=by
  simp only [ycleanC,ymaskC_eq,filtC_eq,yclean]
structure WpL (d:Nat) (F:Ys→(Ex→Ys→Prop)→Prop) (y:Ys) (Q:Ex→Ys→Prop):Prop where
  out:∀ R:Ys→Prop,(∀ y,F y (fun e y1=>match e with
      | .normal=>ycleanB d y y1=true∧R (ysort (yclean y y1))
      | .exit j=>ycleanB d y y1=true∧ycleanC y y1 (Q (.exit j))
      | .ret=>Q .ret y1)→R y)→R (ysort y)
structure WpD (P:Nat→Option Fun) (n d:Nat) (a b:List O) (y:Ys) (k:Ys→Prop):Prop where
  out:∀ s,Yr n y s→∃ s1 y1,runS (low (D P)) d a s=some s1∧runS (low (D P)) d b s=some s1∧Yr n y1 s1∧k y1
def wpC (P:Nat→Option Fun) (n d:Nat):C→Ys→(Ex→Ys→Prop)→Prop
  | .skip,y,Q=>Q .normal y
  | .ret,y,Q=>Q .ret y
  | .exit id,y,Q=>Q (.exit id) y
  | .reg ops,y,Q=>wpR P n d ops y (Q .normal)
  | .drw a b,y,Q=>WpD P n d a b y (Q .normal)
  | .seq a b,y,Q=>wpC P n d a y fun e y1=>match e with
    | .normal=>wpC P n d b y1 Q
    | e=>Q e y1
  | .cond c a b,y,Q=>WpK y c (wpC P n d a y Q) (wpC P n d b y Q)
  | .block id a,y,Q=>wpC P n d a y fun e y1=>match e with
    | .exit j=>(j=id→Q .normal y1)∧(j≠id→Q (.exit j) y1)
    | e=>Q e y1
  | .scope a,y,Q=>wpC P n d a y Q
  | .loop a,y,Q=>WpL d (fun y Q=>wpC P n d a y Q) y Q
  | .bad,_,_=>False
theorem wpR_mono:∀ {ops:List O} {y:Ys} {k k':Ys→Prop},(∀ y,k y→k' y)→wpR P n d ops y k→wpR P n d ops y k'
  | [],y,k,k',hk,h=>hk y h
  | o::r,y,k,k',hk,h=>⟨wpO_mono (fun y1 h1=>wpR_mono hk h1) h.out⟩
theorem wpC_mono:∀ {c:C} {y:Ys} {Q Q':Ex→Ys→Prop},(∀ e y,Q e y→Q' e y)→wpC P n d c y Q→wpC P n d c y Q':=by
  intro c
  induction c with
  | skip=>intro y Q Q' hq h;exact hq _ _ h
  | ret=>intro y Q Q' hq h;exact hq _ _ h
  | exit id=>intro y Q Q' hq h;exact hq _ _ h
  | reg ops=>intro y Q Q' hq h;exact wpR_mono (fun y h=>hq _ _ h) h
  | drw a b=>intro y Q Q' hq h;exact ⟨fun s r=>by obtain ⟨s1,y1,a,b,c,e⟩:=h.out s r;exact ⟨s1,y1,a,b,c,hq _ _ e⟩⟩
  | seq a b iha ihb =>
    intro y Q Q' hq h
    refine iha (fun e y1 h1=>?_) h
    cases e with
    | normal=>exact ihb hq h1
    | exit j=>exact hq _ _ h1
    | ret=>exact hq _ _ h1
  | cond c a b iha ihb =>
    intro y Q Q' hq h
    obtain ⟨t,h1,h2,h3⟩:=h.out
    exact ⟨t,h1,fun e=>iha hq (h2 e),fun e=>ihb hq (h3 e)⟩
  | block id a iha =>
    intro y Q Q' hq h
    refine iha (fun e y1 h1=>?_) h
    cases e with
    | normal=>exact hq _ _ h1
    | exit j=>exact ⟨fun e=>hq _ _ (h1.1 e),fun e=>hq _ _ (h1.2 e)⟩
    | ret=>exact hq _ _ h1
  | scope a iha=>intro y Q Q' hq h;exact iha hq h
  | loop a iha =>
    intro y Q Q' hq h
    refine ⟨fun R hR=>?_⟩
    refine h.out R fun y h1=>hR y (iha (fun e y1 h2=>?_) h1)
    cases e with
    | normal=>exact h2
    | exit j=>exact ⟨h2.1,by have h3:=h2.2;rw [ycleanC_eq] at h3 ⊢;exact hq _ _ h3⟩
    | ret=>exact hq _ _ h2
  | bad=>intro y Q Q' hq h;exact h.elim
theorem wp_loop {a:C} {y:Ys} {Q:Ex→Ys→Prop} (I:Nat→Ys→Prop) (m:Nat) (hI:I m (ysort y)) (hs:∀ m y,I m y→wpC P n d a y (fun e y1=>match e with
      | .normal=>ycleanB d y y1=true∧∃ m',m' < m∧I m' (ysort (yclean y y1))
      | .exit j=>ycleanB d y y1=true∧ycleanC y y1 (Q (.exit j))
      | .ret=>Q .ret y1)):WpL d (fun y Q=>wpC P n d a y Q) y Q:=by
  refine ⟨fun R hR=>?_⟩
  have key:∀ m y,I m y→R y:=by
    intro m
    induction m using Nat.strongRecOn with
    | ind m ih =>
      intro y hI
      refine hR y (wpC_mono (fun e y1 h=>?_) (hs m y hI))
      cases e with
      | normal =>
        obtain ⟨h1,m',h2,h3⟩:=h
        exact ⟨h1,ih m' h2 _ h3⟩
      | exit j=>exact h
      | ret=>exact h
  exact key m _ hI
def yinsC (x:En):List En→(List En→Prop)→Prop
  | [],k=>k [x]
  | z::r,k=>match Nat.ble x.1 z.1 with
    | true=>k (x::z::r)
    | false=>yinsC x r fun r'=>k (z::r')
theorem yinsC_eq (x:En):∀ (l:List En) (k:List En→Prop),yinsC x l k=k (yins x l)
  | [],_=>rfl
  | z::r,k=>by
    simp only [yinsC,yins]
    split
    · rfl
    · exact yinsC_eq x r _
def ysortC:List En→(List En→Prop)→Prop
  | [],k=>k []
  | x::r,k=>ysortC r fun r'=>yinsC x r' k
theorem ysortC_eq:∀ (l:List En) (k:List En→Prop),ysortC l k=k (ysortL l)
  | [],_=>rfl
  | x::r,k=>by simp only [ysortC,ysortC_eq r,yinsC_eq,ysortL]
structure WpB (P:Nat→Option Fun) (n d:Nat) (a:C) (y:Ys) (Q:Ex→Ys→Prop):Prop where
  out:wpC P n d a y Q
theorem wp_unroll {a:C} {e:List En} {l:Loc} {f:Frm} {w:Bool} {Q:Ex→Ys→Prop} (h:ysortC e fun e'=>WpB P n d a ⟨e',l,f,w⟩ (fun ex y1=>match ex with
      | .normal=>ycleanB d ⟨e',l,f,w⟩ y1=true∧ycleanC ⟨e',l,f,w⟩ y1 fun y2=>WpL d (fun y Q=>wpC P n d a y Q) y2 Q
      | .exit j=>ycleanB d ⟨e',l,f,w⟩ y1=true∧ycleanC ⟨e',l,f,w⟩ y1 (Q (.exit j))
      | .ret=>Q .ret y1)):WpL d (fun y Q=>wpC P n d a y Q) ⟨e,l,f,w⟩ Q:=by
  rw [ysortC_eq] at h
  refine ⟨fun R hR=>hR _ (wpC_mono (fun ex y1 h1=>?_) h.out)⟩
  cases ex with
  | normal=>exact ⟨h1.1,by have h2:=h1.2;rw [ycleanC_eq] at h2;exact h2.out R hR⟩
  | exit j=>exact h1
  | ret=>exact h1
theorem wpC_ok:∀ {c:C} {y:Ys} {s:St} {Q:Ex→Ys→Prop},Yr n y s→wpC P n d c y Q→∃ e s1 y1,E (SI P) d c s=some (e,s1)∧Yr n y1 s1∧Q e y1:=by
  intro c
  induction c with
  | skip=>intro y s Q h hp;exact ⟨_,s,y,rfl,h,hp⟩
  | ret=>intro y s Q h hp;exact ⟨_,s,y,rfl,h,hp⟩
  | exit id=>intro y s Q h hp;exact ⟨_,s,y,rfl,h,hp⟩
  | reg ops =>
    intro y s Q h hp
    obtain ⟨s1,y1,h1,r1,k1⟩:=wpR_ok h hp
    exact ⟨.normal,s1,y1,by simp only [E,SI,h1,bnd_some],r1,k1⟩
  | drw a b =>
    intro y s Q h hp
    obtain ⟨s1,y1,ha,hb,r1,h2⟩:=hp.out s h
    refine ⟨.normal,s1,y1,?_,r1,h2⟩
    show bnd (runS (low (D P)) d a s) _=_
    rw [ha]
    simp only [bnd_some]
    exact if_pos hb
  | seq a b iha ihb =>
    intro y s Q h hp
    obtain ⟨e,s1,y1,h1,r1,k1⟩:=iha h hp
    cases e with
    | normal =>
      obtain ⟨e2,s2,y2,h2,r2,k2⟩:=ihb r1 k1
      exact ⟨e2,s2,y2,by simp only [E,h1,bndE_normal,h2],r2,k2⟩
    | exit j=>exact ⟨_,s1,y1,by simp only [E,h1,bndE_exit],r1,k1⟩
    | ret=>exact ⟨_,s1,y1,by simp only [E,h1,bndE_ret],r1,k1⟩
  | cond c a b iha ihb =>
    intro y s Q h hp
    obtain ⟨t,h1,h2,h3⟩:=hp.out
    have e:=h.ev0 h1
    cases t with
    | true =>
      obtain ⟨e2,s2,y2,h4,r2,k2⟩:=iha h (h2 rfl)
      exact ⟨e2,s2,y2,by simp only [E,e,cond_true,h4],r2,k2⟩
    | false =>
      obtain ⟨e2,s2,y2,h4,r2,k2⟩:=ihb h (h3 rfl)
      exact ⟨e2,s2,y2,by simp only [E,e,cond_false,h4],r2,k2⟩
  | block id a iha =>
    intro y s Q h hp
    obtain ⟨e,s1,y1,h1,r1,k1⟩:=iha h hp
    cases e with
    | normal=>exact ⟨_,s1,y1,by simp only [E,h1,leave],r1,k1⟩
    | ret=>exact ⟨_,s1,y1,by simp only [E,h1,leave],r1,k1⟩
    | exit j =>
      by_cases hj:j=id
      · exact ⟨_,s1,y1,by simp only [E,h1,leave];rw [if_pos hj],r1,k1.1 hj⟩
      · exact ⟨_,s1,y1,by simp only [E,h1,leave];rw [if_neg hj],r1,k1.2 hj⟩
  | scope a iha =>
    intro y s Q h hp
    obtain ⟨e,s1,y1,h1,r1,k1⟩:=iha h hp
    exact ⟨e,s1,y1,by simp only [E,h1],r1,k1⟩
  | loop a iha =>
    intro y s Q h hp
    have:=hp.out (fun y=>∀ s,Yr n y s→∃ e s1 y1,E (SI P) d (.loop a) s=some (e,s1)∧Yr n y1 s1∧Q e y1) (fun y hb s h=>by
      obtain ⟨e,s1,y1,h1,r1,k1⟩:=iha h hb
      have hL:E (SI P) d (.loop a) s=L d (E (SI P) d a) s:=rfl
      rw [hL,L_eq,h1]
      cases e with
      | normal =>
        obtain ⟨hc,hr⟩:=k1
        obtain ⟨s2,h2,r2⟩:=clean_rel h r1 hc
        simp only [h2,bnd_some]
        exact hr s2 r2.sort
      | exit j =>
        obtain ⟨hc,hr⟩:=k1
        rw [ycleanC_eq] at hr
        obtain ⟨s2,h2,r2⟩:=clean_rel h r1 hc
        exact ⟨_,s2,_,by simp only [h2,bnd_some],r2,hr⟩
      | ret=>exact ⟨_,s1,y1,rfl,r1,k1⟩)
    exact this s h.sort
  | bad=>intro y s Q h hp;exact hp.elim
end Go.Den
namespace Go.Den
variable {P:Nat→Option Fun} {n d:Nat} {y:Ys} {s:St}
def yinit:Nat→List V→List En
  | _,[]=>[]
  | t,v::r=>(t,[],v)::yinit (t+1) r
def yval (y:Ys) (t:Nat):V:=
  match yget y.e t with
  | some (_,v)=>v
  | none=>.dead
def ytab (y:Ys):Nat→Nat→List V
  | 0,_=>[]
  | m+1,t=>yval y t::ytab y m (t+1)
def yst (n:Nat) (y:Ys):St:=⟨ytab y n 0,y.l,y.f,y.w⟩
theorem ytab_len (y:Ys):∀ (m t:Nat),(ytab y m t).length=m
  | 0,_=>rfl
  | m+1,t=>by simp [ytab,ytab_len y m]
theorem ytab_get (y:Ys):∀ (m t k:Nat),k < m→rget (ytab y m t) k=yval y (t+k)
  | 0,_,_,h=>by omega
  | m+1,t,0,_=>rfl
  | m+1,t,k+1,h=>by
    simp only [ytab,rget]
    rw [ytab_get y m (t+1) k (by omega),show t+1+k=t+(k+1) by omega]
theorem r_ext:∀ {r q:List V},r.length=q.length→(∀ t,t < r.length→rget r t=rget q t)→r=q
  | [],[],_,_=>rfl
  | [],_::_,h,_=>by simp at h
  | _::_,[],h,_=>by simp at h
  | a::r,b::q,h,k=>by
    have h0:=k 0 (by simp)
    simp only [rget] at h0
    have e:r=q:=r_ext (by simpa using h) (fun t ht=>by simpa only [rget] using k (t+1) (by simp;omega))
    rw [h0,e]
theorem Yr.st (h:Yr n y s) (ho:okAll y.e=true):s=yst n y:=by
  have hr:s.r=ytab y n 0:=r_ext (by rw [h.len,ytab_len]) (fun t ht=>by
    rw [ytab_get y n 0 t (by rw [← h.len];exact ht),Nat.zero_add]
    have:=h.slot t
    unfold SlotR at this
    unfold yval
    cases hq:yget y.e t with
    | none=>rw [hq] at this;exact this
    | some p =>
      obtain ⟨gs,v⟩:=p
      have hgs:gs=[]:=okAll_spec ho t gs v hq
      subst hgs
      rw [hq] at this
      exact this)
  obtain ⟨r,l,f,w⟩:=s
  simp only at hr
  have h1:=h.l;have h2:=h.f;have h3:=h.w
  simp only at h1 h2 h3
  subst hr h1 h2 h3
  rfl
theorem yget_init:∀ (args:List V) (t m:Nat),yget (yinit t args) m=if t≤m∧m < t+args.length then some ([],rget args (m - t)) else none
  | [],t,m=>by
    simp only [yinit,yget,List.length_nil]
    rw [if_neg (by omega)]
  | v::r,t,m=>by
    simp only [yinit,yget,yget_init r (t+1) m,List.length_cons]
    cases hb:Nat.beq t m with
    | true =>
      have e:=Nat.eq_of_beq_eq_true hb
      subst e
      have h1:t≤t∧t < t+(r.length+1):=⟨Nat.le_refl _,by omega⟩
      rw [if_pos h1]
      simp [rget]
    | false =>
      have hne:t≠m:=by rintro rfl;rw [Nat.beq_refl] at hb;cases hb
      simp only [cond_false]
      by_cases h:t+1≤m∧m < t+1+r.length
      · rw [if_pos h,if_pos (by omega)]
        obtain ⟨k,rfl⟩:∃ k,m=t+1+k:=⟨m - (t+1),by omega⟩
        rw [show t+1+k - (t+1)=k by omega,show t+1+k - t=k+1 by omega]
        rfl
      · rw [if_neg h,if_neg (by omega)]
theorem rget_app':∀ (l r:List V) (t:Nat),rget (l++r) t=if t < l.length then rget l t else rget r (t - l.length)
  | [],r,t=>by simp
  | v::l,r,0=>by simp [rget]
  | v::l,r,t+1=>by
    simp only [List.cons_append,rget,rget_app' l r t,List.length_cons]
    by_cases h:t < l.length
    · rw [if_pos h,if_pos (by omega)]
    · rw [if_neg h,if_neg (by omega),show t+1 - (l.length+1)=t - l.length by omega]
theorem rget_rep:∀ (m t:Nat),rget (List.replicate m .dead) t=.dead
  | 0,t=>by cases t<;>rfl
  | m+1,0=>rfl
  | m+1,t+1=>by simp only [List.replicate_succ,rget];exact rget_rep m t
theorem rel_init {args:List V} (hl:args.length≤n) (fs:Frm):Yr n ⟨yinit 0 args,[],fs,false⟩ ⟨args++List.replicate (n - args.length) .dead,[],fs,false⟩:=by
  refine ⟨by simp;omega,rfl,rfl,rfl,fun t=>?_,fun t x hx=>?_,fun t g gs v hv=>?_⟩
  · unfold SlotR
    simp only [yget_init,Nat.zero_le,true_and,Nat.zero_add,Nat.sub_zero]
    rw [rget_app']
    by_cases h:t < args.length
    · rw [if_pos h,if_pos h]
    · rw [if_neg h,if_neg h];exact rget_rep _ _
  · simp only [yget_init] at hx
    split at hx
    · omega
    · cases hx
  · simp only [yget_init] at hv
    split at hv
    · cases hv
    · cases hv
structure FinS (F:Fun) (Φ:V→Prop) (y:Ys):Prop where
  out:okAll y.e=true∧∃ v fs w,fin 0 F.res (yst F.nt y)=some (v,fs,w)∧Φ v
def Fin (F:Fun) (Φ:V→Prop):Ex→Ys→Prop
  | .exit _,_=>False
  | _,y=>FinS F Φ y
theorem val_y {f:Nat} {F:Fun} (hP:P f=some F) {args:List V} {Φ:V→Prop} (hl:args.length≤F.nt) (h:wpC P F.nt 0 F.body ⟨yinit 0 args,[],fun _=>none,false⟩ (Fin F Φ)):∃ v,Val P f args v∧Φ v:=by
  obtain ⟨e,s1,y1,h1,r1,k1⟩:=wpC_ok (rel_init hl _) h
  have key:∀ (_:e=.normal∨e=.ret),(okAll y1.e=true∧∃ v fs w,fin 0 F.res (yst F.nt y1)=some (v,fs,w)∧Φ v)→∃ v,Val P f args v∧Φ v:=by
    rintro he ⟨ho,v,fs,w,hf,hΦ⟩
    refine ⟨v,⟨fs,w,D_of P hP ?_⟩,hΦ⟩
    unfold runF
    rw [if_pos hl,h1]
    simp only [bnd_some]
    rw [r1.st ho]
    rcases he with rfl | rfl<;>exact hf
  cases e with
  | normal=>exact key (.inl rfl) k1.out
  | ret=>exact key (.inr rfl) k1.out
  | exit j=>exact k1.elim
structure FinA (F:Fun) (d:Nat) (Ψ:V→Frm→Bool→Prop) (y:Ys):Prop where
  out:okAll y.e=true∧∃ v fs w,fin d F.res (yst F.nt y)=some (v,fs,w)∧Ψ v fs w
def FinB (F:Fun) (d:Nat) (Ψ:V→Frm→Bool→Prop):Ex→Ys→Prop
  | .exit _,_=>False
  | _,y=>FinA F d Ψ y
theorem run_y {f:Nat} {F:Fun} (hP:P f=some F) {args:List V} {g:Frm} {Ψ:V→Frm→Bool→Prop} (hl:args.length≤F.nt) (h:wpC P F.nt d F.body ⟨yinit 0 args,[],g,false⟩ (FinB F d Ψ)):∃ v fs w,D P f d args g=some (v,fs,w)∧Ψ v fs w:=by
  obtain ⟨e,s1,y1,h1,r1,k1⟩:=wpC_ok (rel_init hl _) h
  have key:∀ (_:e=.normal∨e=.ret),(okAll y1.e=true∧∃ v fs w,fin d F.res (yst F.nt y1)=some (v,fs,w)∧Ψ v fs w)→∃ v fs w,D P f d args g=some (v,fs,w)∧Ψ v fs w:=by
    rintro he ⟨ho,v,fs,w,hf,hΦ⟩
    refine ⟨v,fs,w,D_of P hP ?_,hΦ⟩
    unfold runF
    rw [if_pos hl,h1]
    simp only [bnd_some]
    rw [r1.st ho]
    rcases he with rfl | rfl<;>exact hf
  cases e with
  | normal=>exact key (.inl rfl) k1.out
  | ret=>exact key (.inr rfl) k1.out
  | exit j=>exact k1.elim
end Go.Den
namespace Go.Den
variable {P:Nat→Option Fun} {n d:Nat} {y:Ys}
theorem wp_call {t f:Nat} {raw:Bool} {fv:A} {xs:List A} {a b vs:List V} {Φ:V→Prop} {k:Ys→Prop} (hL:∃ v,Val P f (a++vs.map V.sh++b) v∧Φ v) (e1:ev y [] fv=some (.fn f a b)) (e2:evL y [] xs=some vs) (e3:vs.all plainV=true)
    (e4:(keysL (a++vs.map V.sh++b)).isEmpty=true) (hk:∀ v,Φ v→∃ v',recvP v=some v'∧putK n y t v' k):WpO P n d (.call (some t) raw false fv xs) y k:=by
  obtain ⟨v,hv,hΦ⟩:=hL
  obtain ⟨v',h1,h2⟩:=hk v hΦ
  refine ⟨?_⟩
  intro s h
  obtain ⟨y1,r1,k1⟩:=putK_ok (C:=low (D P)) h h2
  refine ⟨_,y1,?_,r1,k1⟩
  simp only [step,h.ev0 e1,argL_plain (G:=[]) h trivial trivial e2 e3,bnd_some,low_val e4 hv,took,after,Bool.false_eq_true,if_false,recvP_of h1,Option.map_some]
end Go.Den
