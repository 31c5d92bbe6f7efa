import Derived.Test.YtblkhnacgnlbdaaGreatDoorEU
import Derived.Test.YtblkhnacgnlbdaaGreatDoorES1
set_option linter.all false
namespace Go.Den
abbrev Gs:=List (Nat × Bool)
abbrev En:=Nat × Gs × V
structure Ys where
  e:List En
  l:Loc
  f:Frm
  w:Bool
def yget:List En→Nat→Option (Gs × V)
  | [],_=>none
  | (t,x)::r,n=>bif Nat.beq t n then some x else yget r n
def ydel:List En→Nat→List En
  | [],_=>[]
  | (t,x)::r,n=>bif Nat.beq t n then ydel r n else (t,x)::ydel r n
def noMent:List En→Nat→Bool
  | [],_=>true
  | (_,gs,_)::r,n=>(!gs.any fun g=>Nat.beq g.1 n) && noMent r n
def Ys.put (y:Ys) (t:Nat) (gs:Gs) (v:V):Ys:={ y with e:=(t,gs,v)::ydel y.e t }
def Ys.del (y:Ys) (t:Nat):Ys:={ y with e:=ydel y.e t }
def Ys.mem (y:Ys):St:=⟨[],y.l,y.f,y.w⟩
def sfx (gs:Gs):Gs→Bool
  | []=>gs.isEmpty
  | g::r=>eqG gs (g::r) || sfx gs r
where eqG:Gs→Gs→Bool
  | [],[]=>true
  | (a,b)::r,(c,d)::q=>Nat.beq a c && (b == d) && eqG r q
  | _,_=>false
def ev (y:Ys) (G:Gs):A→Option V
  | .c v=>some v
  | .t n=>match yget y.e n with
    | none=>some .dead
    | some (gs,v)=>bif sfx gs G then some v else none
def GH (y:Ys):Gs→Prop
  | []=>True
  | (t,w)::r=>(match yget y.e t with
    | some (_,.bool b)=>b=w
    | _=>False)∧GH y r
def SlotR (y:Ys) (s:St) (t:Nat):Prop:=
  match yget y.e t with
  | none=>rget s.r t=.dead
  | some ([],v)=>rget s.r t=v
  | some (g::_,v)=>(rget s.r g.1=.bool g.2→rget s.r t=v)∧(rget s.r g.1≠.bool g.2→rget s.r t=.tup [])
structure Yr (n:Nat) (y:Ys) (s:St):Prop where
  len:s.r.length=n
  l:s.l=y.l
  f:s.f=y.f
  w:s.w=y.w
  slot:∀ t,SlotR y s t
  lt:∀ t x,yget y.e t=some x→t < n
  wf:∀ t g gs v,yget y.e t=some (g::gs,v)→∃ b,yget y.e g.1=some (gs,.bool b)
theorem yget_ydel (e:List En) (n m:Nat):yget (ydel e n) m=if m=n then none else yget e m:=by
  induction e with
  | nil=>simp [ydel,yget]
  | cons x r ih =>
    obtain ⟨t,x⟩:=x
    simp only [ydel]
    cases h:Nat.beq t n with
    | true =>
      have ht:t=n:=Nat.eq_of_beq_eq_true h
      simp only [cond_true,ih,yget]
      split
      · rfl
      · rename_i hm
        have:Nat.beq t m=false:=by
          cases hb:Nat.beq t m with
          | false=>rfl
          | true=>exact absurd ((Nat.eq_of_beq_eq_true hb).symm.trans ht) hm
        rw [this];rfl
    | false =>
      simp only [cond_false,yget,ih]
      cases hb:Nat.beq t m with
      | true =>
        have:t=m:=Nat.eq_of_beq_eq_true hb
        rw [← this]
        have hne:t≠n:=by rintro rfl;rw [Nat.beq_refl] at h;cases h
        simp [hne]
      | false=>rfl
theorem yget_put (y:Ys) (t m:Nat) (gs:Gs) (v:V):yget (y.put t gs v).e m=if m=t then some (gs,v) else yget y.e m:=by
  simp only [Ys.put,yget,yget_ydel]
  cases h:Nat.beq t m with
  | true =>
    have e:=(Nat.eq_of_beq_eq_true h).symm
    simp [e]
  | false =>
    have hne:m≠t:=by rintro rfl;rw [Nat.beq_refl] at h;cases h
    rw [if_neg hne,if_neg hne];rfl
theorem noMent_spec:∀ {e:List En} {n:Nat},noMent e n=true→∀ t gs v,yget e t=some (gs,v)→∀ g ∈ gs,g.1≠n
  | [],n,_,t,gs,v,hg=>by simp [yget] at hg
  | (a,x,u)::r,n,h,t,gs,v,hg=>by
    simp only [noMent,Bool.and_eq_true] at h
    simp only [yget] at hg
    cases hb:Nat.beq a t with
    | true =>
      rw [hb] at hg
      simp only [cond_true,Option.some.injEq,Prod.mk.injEq] at hg
      obtain ⟨rfl,rfl⟩:=hg
      intro g hgm e
      have:=h.1
      simp only [Bool.not_eq_true',List.any_eq_false] at this
      exact this g hgm (by rw [e];exact Nat.beq_refl n)
    | false =>
      rw [hb] at hg
      exact noMent_spec h.2 t gs v hg
variable {n:Nat} {y:Ys} {s:St}
theorem Yr.plain (h:Yr n y s) {t:Nat} {v:V} (e:yget y.e t=some ([],v)):rget s.r t=v:=by
  have:=h.slot t
  unfold SlotR at this
  rw [e] at this
  exact this
theorem Yr.dead (h:Yr n y s) {t:Nat} (e:yget y.e t=none):rget s.r t=.dead:=by
  have:=h.slot t
  unfold SlotR at this
  rw [e] at this
  exact this
def HdS (s:St):Gs→Prop
  | []=>True
  | g::_=>rget s.r g.1=.bool g.2
def WG (y:Ys):Gs→Prop
  | []=>True
  | g::r=>(∃ b,yget y.e g.1=some (r,.bool b))∧WG y r
theorem Yr.tail (h:Yr n y s) {g:Nat × Bool} {r:Gs} (hw:WG y (g::r)) (hg:rget s.r g.1=.bool g.2):HdS s r:=by
  cases r with
  | nil=>trivial
  | cons g' r' =>
    obtain ⟨⟨b,hb⟩,_⟩:=hw
    have:=h.slot g.1
    unfold SlotR at this
    rw [hb] at this
    by_cases hh:rget s.r g'.1=.bool g'.2
    · exact hh
    · have:=this.2 hh
      rw [hg] at this;cases this
theorem eqG_eq:∀ {a b:Gs},sfx.eqG a b=true→a=b
  | [],[],_=>rfl
  | [],_::_,h=>by simp [sfx.eqG] at h
  | _::_,[],h=>by simp [sfx.eqG] at h
  | (a,b)::r,(c,d)::q,h=>by
    simp only [sfx.eqG,Bool.and_eq_true,beq_iff_eq] at h
    rw [Nat.eq_of_beq_eq_true h.1.1,h.1.2,eqG_eq h.2]
theorem Yr.sfx (h:Yr n y s):∀ {G gs:Gs},WG y G→HdS s G→sfx gs G=true→HdS s gs
  | [],gs,_,_,hs=>by
    simp only [Den.sfx,List.isEmpty_iff] at hs
    subst hs;trivial
  | g::r,gs,hw,hg,hs=>by
    simp only [Den.sfx,Bool.or_eq_true] at hs
    rcases hs with hs | hs
    · rw [eqG_eq hs];exact hg
    · exact Yr.sfx h hw.2 (h.tail hw hg) hs
theorem Yr.ev (h:Yr n y s) {G:Gs} (hw:WG y G) (hg:HdS s G) {a:A} {v:V} (e:ev y G a=some v):a.ev s.r=v:=by
  cases a with
  | c u=>simp only [Den.ev,Option.some.injEq] at e;exact e
  | t m =>
    simp only [Den.ev] at e
    split at e
    · rename_i hn
      cases e
      exact h.dead hn
    · rename_i gs u hn
      cases hs:Den.sfx gs G with
      | false=>rw [hs] at e;cases e
      | true =>
        rw [hs] at e
        cases e
        have hh:=h.sfx hw hg hs
        have:=h.slot m
        unfold SlotR at this
        rw [hn] at this
        cases gs with
        | nil=>exact this
        | cons g r=>exact this.1 hh
theorem Yr.ev0 (h:Yr n y s) {a:A} {v:V} (e:Den.ev y [] a=some v):a.ev s.r=v:=h.ev (G:=[]) trivial trivial e
theorem Yr.put (h:Yr n y s) {t:Nat} (ht:t < n) (hm:noMent y.e t=true) {gs:Gs} {v x:V} (hw:WG y gs) (hgt:∀ g ∈ gs,g.1≠t)
    (hv:HdS s gs→x=v) (hn:∀ g r,gs=g::r→rget s.r g.1≠.bool g.2→x=.tup []):Yr n (y.put t gs v) (s.put t x):=by
  have hlen:(s.put t x).r.length=n:=by simp only [St.put,rset_length];exact h.len
  have hsame:∀ m,m≠t→rget (s.put t x).r m=rget s.r m:=fun m hm=>by
    simp only [St.put,rget_rset];rw [if_neg (fun hh=>hm hh.1)]
  have hself:rget (s.put t x).r t=x:=by
    simp only [St.put,rget_rset];rw [if_pos ⟨trivial,by rw [h.len];exact ht⟩]
  refine ⟨hlen,h.l,h.f,h.w,fun m=>?_,fun m z hz=>?_,fun m g r u hu=>?_⟩
  · unfold SlotR
    rw [yget_put]
    by_cases hmt:m=t
    · subst hmt
      rw [if_pos rfl,hself]
      cases gs with
      | nil=>exact hv trivial
      | cons g r =>
        simp only
        rw [hsame g.1 (hgt g (by simp))]
        exact ⟨hv,hn g r rfl⟩
    · rw [if_neg hmt,hsame m hmt]
      have:=h.slot m
      unfold SlotR at this
      cases hq:yget y.e m with
      | none=>rw [hq] at this;exact this
      | some p =>
        obtain ⟨gs',u⟩:=p
        rw [hq] at this
        cases gs' with
        | nil=>exact this
        | cons g r =>
          simp only at this ⊢
          rw [hsame g.1 (noMent_spec hm m _ u hq g (by simp))]
          exact this
  · rw [yget_put] at hz
    split at hz
    · rename_i e;rw [e];exact ht
    · exact h.lt m z hz
  · rw [yget_put] at hu
    split at hu
    · simp only [Option.some.injEq,Prod.mk.injEq] at hu
      obtain ⟨rfl,rfl⟩:=hu
      obtain ⟨⟨b,hb⟩,_⟩:=hw
      exact ⟨b,by rw [yget_put,if_neg (hgt g (by simp))];exact hb⟩
    · obtain ⟨b,hb⟩:=h.wf m g r u hu
      exact ⟨b,by rw [yget_put,if_neg (noMent_spec hm m _ u hu g (by simp))];exact hb⟩
theorem Yr.del (h:Yr n y s) {t:Nat} (hm:noMent y.e t=true):Yr n (y.del t) (s.put t .dead):=by
  have hlen:(s.put t .dead).r.length=n:=by simp only [St.put,rset_length];exact h.len
  have hsame:∀ m,m≠t→rget (s.put t .dead).r m=rget s.r m:=fun m hm=>by
    simp only [St.put,rget_rset];rw [if_neg (fun hh=>hm hh.1)]
  have hself:rget (s.put t .dead).r t=.dead:=by
    simp only [St.put,rget_rset]
    split
    · rfl
    · rename_i hh
      exact rget_ge _ _ (by simp only [true_and] at hh;omega)
  refine ⟨hlen,h.l,h.f,h.w,fun m=>?_,fun m z hz=>?_,fun m g r u hu=>?_⟩
  · unfold SlotR
    simp only [Ys.del,yget_ydel]
    by_cases hmt:m=t
    · subst hmt
      rw [if_pos rfl];exact hself
    · rw [if_neg hmt,hsame m hmt]
      have:=h.slot m
      unfold SlotR at this
      cases hq:yget y.e m with
      | none=>rw [hq] at this;exact this
      | some p =>
        obtain ⟨gs',u⟩:=p
        rw [hq] at this
        cases gs' with
        | nil=>exact this
        | cons g r =>
          simp only at this ⊢
          rw [hsame g.1 (noMent_spec hm m _ u hq g (by simp))]
          exact this
  · simp only [Ys.del,yget_ydel] at hz
    split at hz
    · cases hz
    · exact h.lt m z hz
  · simp only [Ys.del,yget_ydel] at hu
    split at hu
    · cases hu
    · obtain ⟨b,hb⟩:=h.wf m g r u hu
      exact ⟨b,by simp only [Ys.del,yget_ydel];rw [if_neg (noMent_spec hm m _ u hu g (by simp))];exact hb⟩
end Go.Den
namespace Go.Den
variable {n:Nat} {y:Ys} {s:St} {G:Gs}
def ev1 (y:Ys) (G:Gs) (a:A) (k:V→Option V):Option V:=
  match ev y G a with
  | some x=>k x
  | none=>none
def ev2 (y:Ys) (G:Gs) (a b:A) (k:V→V→Option V):Option V:=ev1 y G a fun x=>ev1 y G b fun z=>k x z
def evL (y:Ys) (G:Gs):List A→Option (List V)
  | []=>some []
  | a::r=>match ev y G a,evL y G r with
    | some x,some l=>some (x::l)
    | _,_=>none
def evO (y:Ys) (G:Gs):Option A→Option (Option V)
  | none=>some none
  | some a=>match ev y G a with
    | some x=>some (some x)
    | none=>none
def pickG (y:Ys) (G:Gs) (w:Bool):A→Gs
  | .t c=>match yget y.e c with
    | some (gs,_)=>(c,w)::gs
    | none=>G
  | .c _=>G
def noUq (v:V) (r:V):Option V:=bif v.uq then none else some r
def pv (d:Nat) (o:O) (y:Ys) (G:Gs):Option V:=
  match o with
  | .mv _ u=>ev1 y G (.t u) fun v=>noUq v v.sh
  | .mvp _ u=>ev1 y G (.t u) fun v=>noUq v v
  | .mvs _ u=>ev1 y G (.t u) fun v=>noUq v v
  | .cst _ v=>some v
  | .pick _ c a b=>match ev y G c with
    | some (.bool x)=>match ev y (pickG y G true c) a,ev y (pickG y G false c) b with
      | some (.bool p),some (.bool q)=>some (.bool (bif x then p else q))
      | _,_=>none
    | _=>none
  | .bin _ op a b=>ev2 y G a b (binV op)
  | .eqs _ ts eq a b=>ev2 y G a b fun x z=>match x,z with
    | .agg x,.agg z=>(eqL ts x z).map fun r=>.bool (bif eq then r else !r)
    | _,_=>none
  | .beq _ eq a b=>ev2 y G a b fun x z=>match x,z with
    | .bool x,.bool z=>some (.bool (bif eq then x == z else x != z))
    | _,_=>none
  | .isn _ eq iface a=>ev1 y G a fun x=>match iface,x with
    | false,.ptr _ _ _=>some (.bool !eq)
    | false,.nilp=>some (.bool eq)
    | true,.nili=>some (.bool eq)
    | _,_=>none
  | .not _ a=>ev1 y G a fun x=>match x with
    | .bool b=>some (.bool !b)
    | _=>none
  | .neg _ a=>ev1 y G a fun x=>match x with
    | .int k n=>some (.int k (k.wrap (0 - n)))
    | _=>none
  | .cvt _ k a=>ev1 y G a fun x=>match x with
    | .int _ n=>some (.int k (k.wrap n))
    | _=>none
  | .s2b _ a=>ev1 y G a fun x=>match x with
    | .str b=>if b.size≤most then some (.sl 1 (str8 b) .uniq) else none
    | _=>none
  | .b2s _ a=>ev1 y G a fun x=>match srcB d y.mem x with
    | some es=>(vbytes es).map fun l=>.str ⟨l.toArray⟩
    | none=>none
  | .mks _ zero a b=>ev2 y G a b fun x z=>match x,z with
    | .int .i64 n,.int .i64 c=>if 0≤n∧n≤c∧c≤16777216∧zero.all V.pure=true then some (.sl zero.length (List.replicate n.toNat zero) .uniq) else none
    | _,_=>none
  | .slc _ z str x lo hi mx=>ev1 y G x fun v=>match evO y G lo,evO y G hi,evO y G mx with
    | some l,some h,some m=>bif v.uq then none else slcV z str v l h m
    | _,_,_=>none
  | .fa _ u o=>ev1 y G (.t u) fun x=>match x with
    | .ptr k i off=>some (.ptr k i (off+o))
    | .pin es i off=>some (.pin es i (off+o))
    | _=>none
  | .fld _ a o sz=>ev1 y G a fun x=>match x with
    | .agg cs=>match sz with
      | none=>cs[o]?
      | some n=>if o+n≤cs.length then some (.agg (grab cs o n)) else none
    | _=>none
  | .ia _ z x i=>ev2 y G x i fun v j=>match v,j with
    | .sl z' es o,.int _ n=>bif (V.sl z' es o).uq then none else if z'=z∧0≤n∧n < es.length then some (.pin es n.toNat 0) else none
    | .arr k z2 lo m,.int _ n=>match y.mem.get d k with
      | some (.row z' es _)=>if z'=z∧z2=z∧0≤n∧n < m∧lo+m≤es.length then some (.ptr k (lo+n.toNat) 0) else none
      | some (.cells z' es)=>if z'=z∧z2=z∧0≤n∧n < m∧lo+m≤es.length then some (.ptr k (lo+n.toNat) 0) else none
      | _=>none
    | _,_=>none
  | .iap _ m z x i=>ev2 y G x i fun v j=>match v,j with
    | .ptr k j off,.int _ n=>if 0≤n∧n < m then some (.ptr k j (off+n.toNat*z)) else none
    | .pin es j off,.int _ n=>if 0≤n∧n < m then some (.pin es j (off+n.toNat*z)) else none
    | _,_=>none
  | .ixs _ x i=>ev2 y G x i fun v j=>match v,j with
    | .str b,.int _ n=>if 0≤n∧n < b.size then some (.int .u8 (b.get! n.toNat).toNat) else none
    | _,_=>none
  | .ixa _ m z agg x i=>ev2 y G x i fun v j=>match v,j with
    | .agg cs,.int _ n=>if 0≤n∧n < m then (if agg then (if n.toNat*z+z≤cs.length then some (.agg (grab cs (n.toNat*z) z)) else none) else cs[n.toNat*z]?) else none
    | _,_=>none
  | .ext _ u i=>ev1 y G (.t u) fun x=>match x with
    | .tup vs=>vs[i]?
    | _=>none
  | .lens _ a=>ev1 y G a fun x=>match x with
    | .str b=>some (.int .i64 b.size)
    | _=>none
  | .len _ a=>ev1 y G a fun x=>match x with
    | .sl _ es _=>some (.int .i64 es.length)
    | .arr _ _ _ n=>some (.int .i64 n)
    | _=>none
  | .mnx _ mx a l=>ev1 y G a fun x=>match evL y G l with
    | some l=>match x with
      | .int k x=>(mnxV mx k l x).map fun n=>.int k n
      | _=>none
    | none=>none
  | .ld _ sz a=>ev1 y G a fun p=>ldP d y.mem p sz
  | .ldp _ sz a=>ev1 y G a fun p=>ldP d y.mem p sz
  | .chk _ u=>ev1 y G (.t u) fun x=>match x with
    | .ptr k i off=>some (.ptr k i off)
    | .pin es i off=>some (.pin es i off)
    | .fn f a b=>some (.fn f a b)
    | _=>none
  | .xcs _ a b=>ev2 y G a b fun x z=>match x,z with
    | .str x,.int .u8 c=>some (.int .i64 (csByte x (UInt8.ofNat c.toNat)))
    | _,_=>none
  | .xib _ a b=>ev2 y G a b fun x z=>match x,z with
    | .str x,.int .u8 c=>some (.int .i64 (ixByte x (UInt8.ofNat c.toNat)))
    | _,_=>none
  | .clone _ z a=>ev1 y G a fun x=>match srcN d y.mem z x with
    | some xs=>if xs.length≤most then some (.sl z xs (tq xs)) else none
    | none=>none
  | _=>none
def dst:O→Nat
  | .mv t _ | .mvp t _ | .mvs t _ | .cst t _ | .pick t _ _ _ | .bin t _ _ _ | .eqs t _ _ _ _ | .beq t _ _ _ | .isn t _ _ _ | .not t _ | .neg t _ | .cvt t _ _ | .s2b t _ | .b2s t _ | .mks t _ _ _ | .slc t _ _ _ _ _ _ | .fa t _ _ | .fld t _ _ _
  | .ia t _ _ _ | .iap t _ _ _ _ | .ixs t _ _ | .ixa t _ _ _ _ _ | .ext t _ _ | .lens t _ | .len t _ | .mnx t _ _ _ | .ld t _ _ | .ldp t _ _ | .chk t _ | .xcs t _ _ | .xib t _ _ | .clone t _ _=>t
  | _=>0
theorem ev1_some {a:A} {k:V→Option V} {v:V} (h:ev1 y G a k=some v):∃ x,ev y G a=some x∧k x=some v:=by
  unfold ev1 at h
  split at h
  · rename_i x hx;exact ⟨x,hx,h⟩
  · cases h
theorem ev2_some {a b:A} {k:V→V→Option V} {v:V} (h:ev2 y G a b k=some v):∃ x z,ev y G a=some x∧ev y G b=some z∧k x z=some v:=by
  obtain ⟨x,hx,h⟩:=ev1_some h
  obtain ⟨z,hz,h⟩:=ev1_some h
  exact ⟨x,z,hx,hz,h⟩
theorem noUq_some {v r x:V} (h:noUq v r=some x):v.uq=false∧r=x:=by
  unfold noUq at h
  cases hu:v.uq with
  | true=>rw [hu] at h;cases h
  | false=>rw [hu] at h;cases h;exact ⟨rfl,rfl⟩
theorem Yr.evL (h:Yr n y s) (hw:WG y G) (hg:HdS s G):∀ {l:List A} {vs:List V},evL y G l=some vs→l.map (·.ev s.r)=vs
  | [],vs,e=>by simp only [Den.evL,Option.some.injEq] at e;rw [← e];rfl
  | a::r,vs,e=>by
    simp only [Den.evL] at e
    split at e
    · rename_i x l hx hl
      cases e
      rw [List.map_cons,h.ev hw hg hx,Yr.evL h hw hg hl]
    · cases e
theorem Yr.evO (h:Yr n y s) (hw:WG y G) (hg:HdS s G) {a:Option A} {v:Option V} (e:evO y G a=some v):a.map (·.ev s.r)=v:=by
  cases a with
  | none=>simp only [Den.evO,Option.some.injEq] at e;rw [← e];rfl
  | some a =>
    simp only [Den.evO] at e
    split at e
    · rename_i x hx;cases e;rw [Option.map_some,h.ev hw hg hx]
    · cases e
theorem dem_no {a:A} (h:(a.ev s.r).uq=false):s.dem a=s:=by
  cases a with
  | c v=>rfl
  | t m =>
    simp only [St.dem]
    simp only [A.ev] at h
    split
    · rename_i z es he;rw [he] at h;simp [V.uq] at h
    · rfl
theorem off_no {a:A} (h:(a.ev s.r).uq=false):s.off a=s:=by
  cases a with
  | c v=>rfl
  | t m =>
    simp only [St.off]
    simp only [A.ev] at h
    split
    · rename_i z es he;rw [he] at h;simp [V.uq] at h
    · rfl
theorem Yr.get (h:Yr n y s) {d:Nat} (k:Key):s.get d k=y.mem.get d k:=by simp only [St.get,Ys.mem,h.l,h.f]
theorem Yr.at (h:Yr n y s) {d:Nat} (p:V):s.at d p=y.mem.at d p:=by
  unfold St.at
  split<;>simp only [h.get]
theorem Yr.ldP (h:Yr n y s) {d:Nat} (p:V) (sz:Option Nat):ldP d s p sz=ldP d y.mem p sz:=by
  unfold Den.ldP
  rw [h.at]
theorem Yr.srcV (h:Yr n y s) {d z:Nat} (p:V):srcV d s z p=srcV d y.mem z p:=by
  unfold Den.srcV
  split<;>simp only [h.get]
theorem Yr.srcN (h:Yr n y s) {d z:Nat} (p:V):srcN d s z p=srcN d y.mem z p:=by
  unfold Den.srcN
  split
  · rfl
  · exact h.srcV _
theorem Yr.srcB (h:Yr n y s) {d:Nat} (p:V):srcB d s p=srcB d y.mem p:=by
  unfold Den.srcB
  split
  · rfl
  · exact h.srcV _
theorem still_uq {v:V} (h:v.still=true):v.uq=false:=by
  cases v with
  | sl z es o=>cases o<;>simp_all [V.still,V.uq]
  | _=>rfl
theorem ldV_of {d:Nat} {p:V} {sz:Option Nat} {v:V} (h:ldP d s p sz=some v):ldV d s p sz=some (v,s):=by
  unfold Den.ldP at h
  cases hc:s.at d p with
  | none=>rw [hc] at h;cases h
  | some c =>
    rw [hc] at h
    simp only [bnd_some] at h
    have hlen:sz.getD 1≤c.length:=by
      cases sz with
      | none =>
        cases c with
        | nil=>cases h
        | cons u r=>simp
      | some m =>
        simp only at h
        split at h
        · rename_i hm;exact hm.1
        · cases h
    have hst:∀ x ∈ c.take (sz.getD 1),x.still=true:=by
      cases sz with
      | none =>
        cases c with
        | nil=>cases h
        | cons u r =>
          simp only at h
          split at h
          · rename_i hu;intro x hx;simp at hx;rw [hx];exact hu
          · cases h
      | some m =>
        simp only at h
        split at h
        · rename_i hm;exact List.all_eq_true.mp hm.2
        · cases h
    have hdem:s.demAt d p (sz.getD 1)=s:=by
      unfold St.demAt
      split
      · rename_i k i off
        have:s.uqAt d k i off (sz.getD 1)=false:=by
          unfold St.uqAt
          split
          · rename_i z es hg
            simp only [St.at,hg] at hc
            cases he:es[i]? with
            | none=>rw [he] at hc;cases hc
            | some e =>
              rw [he] at hc
              simp only [Option.map_some,Option.some.injEq] at hc
              simp only [Option.getD_some,grab,hc,hasUq,List.any_eq_false]
              intro x hx
              rw [still_uq (hst x hx)];simp
          · rfl
        rw [this];rfl
      · rfl
    unfold ldV
    rw [hdem,hc]
    simp only [bnd_some]
    cases sz with
    | none =>
      cases c with
      | nil=>cases h
      | cons u r =>
        simp only at h ⊢
        split at h
        · rename_i hu
          cases h
          rw [still_uq hu];rfl
        · cases h
    | some m =>
      simp only at h ⊢
      split at h
      · rename_i hm
        cases h
        rw [if_pos]
        refine ⟨hm.1,?_⟩
        simp only [hasUq,List.any_eq_false]
        intro x hx
        rw [still_uq (List.all_eq_true.mp hm.2 x hx)];simp
      · cases h
theorem pv_ok {C:CallF} {d:Nat} {o:O} {v:V} (h:Yr n y s) (hw:WG y G) (hg:HdS s G) (hp:pv d o y G=some v):step C d o s=some (s.put (dst o) v):=by
  cases o with
  | mv t u =>
    obtain ⟨x,hx,hk⟩:=ev1_some hp
    have e:=h.ev hw hg hx
    obtain ⟨hu,rfl⟩:=noUq_some hk
    have hd:s.dem (.t u)=s:=dem_no (by rw [e];exact hu)
    simp only [A.ev] at e
    simp only [step,hd,e,dst]
  | mvp t u =>
    obtain ⟨x,hx,hk⟩:=ev1_some hp
    have e:=h.ev hw hg hx
    obtain ⟨hu,rfl⟩:=noUq_some hk
    simp only [A.ev] at e
    simp only [step,e,hu,dst]
    rfl
  | mvs t u =>
    obtain ⟨x,hx,hk⟩:=ev1_some hp
    have e:=h.ev hw hg hx
    obtain ⟨hu,rfl⟩:=noUq_some hk
    have hd:s.off (.t u)=s:=off_no (by rw [e];exact hu)
    simp only [A.ev] at e
    simp only [step,hd,e,dst]
  | cst t x=>simp only [pv,Option.some.injEq] at hp;subst hp;simp only [step,dst]
  | pick t c a b =>
    simp only [pv] at hp
    split at hp
    · rename_i x hx
      split at hp
      · rename_i p q ha hb
        cases hp
        have ec:=h.ev hw hg hx
        have side:∀ (w:Bool) (z:A) (u:V),x=w→ev y (pickG y G w c) z=some u→z.ev s.r=u:=by
          intro w z u hxw hz
          cases c with
          | c k=>exact h.ev hw hg hz
          | t m =>
            simp only [pickG] at hz
            simp only [A.ev] at ec
            split at hz
            · rename_i gs u' hq
              have hq2:∃ b,yget y.e m=some (gs,.bool b):=by
                simp only [ev,hq] at hx
                cases hs:sfx gs G with
                | false=>rw [hs] at hx;cases hx
                | true=>rw [hs] at hx;cases hx;exact ⟨x,hq⟩
              obtain ⟨b',hb'⟩:=hq2
              refine h.ev (G:=(m,w)::gs) ⟨⟨b',hb'⟩,?_⟩ (by rw [← hxw];exact ec) hz
              exact wg_of h hb'
            · rename_i hq;rw [h.dead hq] at ec;cases ec
        simp only [step,ec,dst]
        cases x with
        | true=>simp only [cond_true];rw [side true a _ rfl ha]
        | false=>simp only [cond_false];rw [side false b _ rfl hb]
      · cases hp
    · cases hp
  | bin t op a b =>
    obtain ⟨x,z,hx,hz,hk⟩:=ev2_some hp
    simp only [step,h.ev hw hg hx,h.ev hw hg hz,hk,Option.map_some,dst]
  | eqs t ts eq a b =>
    obtain ⟨x,z,hx,hz,hk⟩:=ev2_some hp
    simp only [step,h.ev hw hg hx,h.ev hw hg hz,dst]
    cases x<;>cases z<;>first | (cases hk;done) | skip
    simp only [Option.map_eq_some_iff] at hk
    obtain ⟨r,hr,rfl⟩:=hk
    simp only [hr,Option.map_some]
  | beq t eq a b =>
    obtain ⟨x,z,hx,hz,hk⟩:=ev2_some hp
    simp only [step,h.ev hw hg hx,h.ev hw hg hz,dst]
    cases x<;>cases z<;>first | (cases hk;done) | (cases hk;rfl)
  | isn t eq iface a =>
    obtain ⟨x,hx,hk⟩:=ev1_some hp
    simp only [step,h.ev hw hg hx,dst]
    cases iface<;>cases x<;>first | (cases hk;done) | (cases hk;rfl)
  | not t a =>
    obtain ⟨x,hx,hk⟩:=ev1_some hp
    simp only [step,h.ev hw hg hx,dst]
    cases x<;>first | (cases hk;done) | (cases hk;rfl)
  | neg t a =>
    obtain ⟨x,hx,hk⟩:=ev1_some hp
    simp only [step,h.ev hw hg hx,dst]
    cases x<;>first | (cases hk;done) | (cases hk;rfl)
  | cvt t k a =>
    obtain ⟨x,hx,hk⟩:=ev1_some hp
    simp only [step,h.ev hw hg hx,dst]
    cases x<;>first | (cases hk;done) | (cases hk;rfl)
  | s2b t a =>
    obtain ⟨x,hx,hk⟩:=ev1_some hp
    simp only [step,h.ev hw hg hx,dst]
    cases x with
    | str b =>
      simp only at hk ⊢
      split at hk
      · rename_i hb;cases hk;rw [if_pos hb]
      · cases hk
    | _=>cases hk
  | b2s t a =>
    obtain ⟨x,hx,hk⟩:=ev1_some hp
    simp only [step,h.ev hw hg hx,dst,h.srcB]
    split at hk
    · rename_i es he
      rw [he]
      simp only [Option.map_eq_some_iff] at hk ⊢
      obtain ⟨l,hl,rfl⟩:=hk
      exact ⟨l,hl,rfl⟩
    · cases hk
  | mks t zero a b =>
    obtain ⟨x,z,hx,hz,hk⟩:=ev2_some hp
    simp only [step,h.ev hw hg hx,h.ev hw hg hz,dst]
    split at hk
    · simp only
      split at hk
      · rename_i hc;cases hk;rw [if_pos hc]
      · cases hk
    · cases hk
  | slc t z str x lo hi mx =>
    obtain ⟨v',hx,hk⟩:=ev1_some hp
    split at hk
    · rename_i l hh m e1 e2 e3
      cases hu:v'.uq with
      | true=>rw [hu] at hk;cases hk
      | false =>
        rw [hu] at hk
        simp only [cond_false] at hk
        have e:=h.ev hw hg hx
        have hd:s.dem x=s:=dem_no (by rw [e];exact hu)
        simp only [step,hd,e,h.evO hw hg e1,h.evO hw hg e2,h.evO hw hg e3,hk,Option.map_some,dst]
    · cases hk
  | fa t u o =>
    obtain ⟨x,hx,hk⟩:=ev1_some hp
    have e:=h.ev hw hg hx
    simp only [A.ev] at e
    simp only [step,e,dst]
    cases x<;>first | (cases hk;done) | (cases hk;rfl)
  | fld t a o sz =>
    obtain ⟨x,hx,hk⟩:=ev1_some hp
    simp only [step,h.ev hw hg hx,dst]
    cases x with
    | agg cs =>
      cases sz with
      | none=>simp only at hk ⊢;rw [hk];rfl
      | some m =>
        simp only at hk ⊢
        split at hk
        · rename_i hc;cases hk;rw [if_pos hc]
        · cases hk
    | _=>cases hk
  | ia t z x i =>
    obtain ⟨u,j,hx,hi,hk⟩:=ev2_some hp
    have e1:=h.ev hw hg hx
    have e2:=h.ev hw hg hi
    simp only [step,e1,e2,dst]
    split at hk
    · rename_i z' es o k m
      cases hu:(V.sl z' es o).uq with
      | true=>rw [hu] at hk;cases hk
      | false =>
        rw [hu] at hk
        simp only [cond_false] at hk
        have hd:s.dem x=s:=dem_no (by rw [e1];exact hu)
        simp only [hd]
        split at hk
        · rename_i hc;cases hk;rw [if_pos hc]
        · cases hk
    · simp only [h.get]
      split at hk
      · rename_i hg2
        rw [hg2]
        simp only
        split at hk
        · rename_i hc;cases hk;rw [if_pos hc]
        · cases hk
      · rename_i hg2
        rw [hg2]
        simp only
        split at hk
        · rename_i hc;cases hk;rw [if_pos hc]
        · cases hk
      · cases hk
    · cases hk
  | iap t m z x i =>
    obtain ⟨u,j,hx,hi,hk⟩:=ev2_some hp
    simp only [step,h.ev hw hg hx,h.ev hw hg hi,dst]
    split at hk
    · simp only
      split at hk
      · rename_i hc;cases hk;rw [if_pos hc]
      · cases hk
    · simp only
      split at hk
      · rename_i hc;cases hk;rw [if_pos hc]
      · cases hk
    · cases hk
  | ixs t x i =>
    obtain ⟨u,j,hx,hi,hk⟩:=ev2_some hp
    simp only [step,h.ev hw hg hx,h.ev hw hg hi,dst]
    split at hk
    · simp only
      split at hk
      · rename_i hc;cases hk;rw [if_pos hc]
      · cases hk
    · cases hk
  | ixa t m z agg x i =>
    obtain ⟨u,j,hx,hi,hk⟩:=ev2_some hp
    simp only [step,h.ev hw hg hx,h.ev hw hg hi,dst]
    split at hk
    · simp only
      split at hk
      · rename_i hc
        rw [if_pos hc]
        cases agg with
        | true =>
          simp only [if_true] at hk ⊢
          split at hk
          · rename_i hc2;cases hk;rw [if_pos hc2]
          · cases hk
        | false =>
          simp only [Bool.false_eq_true,if_false] at hk ⊢
          rw [hk];rfl
      · cases hk
    · cases hk
  | ext t u i =>
    obtain ⟨x,hx,hk⟩:=ev1_some hp
    have e:=h.ev hw hg hx
    simp only [A.ev] at e
    simp only [step,e,dst]
    cases x<;>first | (cases hk;done) | (simp only at hk ⊢;rw [hk];rfl)
  | lens t a =>
    obtain ⟨x,hx,hk⟩:=ev1_some hp
    simp only [step,h.ev hw hg hx,dst]
    cases x<;>first | (cases hk;done) | (cases hk;rfl)
  | len t a =>
    obtain ⟨x,hx,hk⟩:=ev1_some hp
    simp only [step,h.ev hw hg hx,dst]
    cases x<;>first | (cases hk;done) | (cases hk;rfl)
  | mnx t mx a l =>
    obtain ⟨x,hx,hk⟩:=ev1_some hp
    split at hk
    · rename_i vs hl
      simp only [step,h.ev hw hg hx,h.evL hw hg hl,dst]
      cases x with
      | int k m =>
        simp only [Option.map_eq_some_iff] at hk ⊢
        obtain ⟨q,hq,rfl⟩:=hk
        exact ⟨q,hq,rfl⟩
      | _=>cases hk
    · cases hk
  | ld t sz a =>
    obtain ⟨p,hx,hk⟩:=ev1_some hp
    have e:=ldV_of ((h.ldP p sz).trans hk)
    simp only [step,h.ev hw hg hx,e,bnd_some,dst]
  | ldp t sz a =>
    obtain ⟨p,hx,hk⟩:=ev1_some hp
    have e:=(h.ldP p sz).trans hk
    simp only [step,h.ev hw hg hx,e,bnd_some,dst]
  | chk t u =>
    obtain ⟨x,hx,hk⟩:=ev1_some hp
    have e:=h.ev hw hg hx
    simp only [A.ev] at e
    simp only [step,e,dst]
    cases x<;>first | (cases hk;done) | (cases hk;rfl)
  | xcs t a b =>
    obtain ⟨x,z,hx,hz,hk⟩:=ev2_some hp
    simp only [step,h.ev hw hg hx,h.ev hw hg hz,dst]
    split at hk
    · cases hk;rfl
    · cases hk
  | xib t a b =>
    obtain ⟨x,z,hx,hz,hk⟩:=ev2_some hp
    simp only [step,h.ev hw hg hx,h.ev hw hg hz,dst]
    split at hk
    · cases hk;rfl
    · cases hk
  | clone t z a =>
    obtain ⟨x,hx,hk⟩:=ev1_some hp
    simp only [step,h.ev hw hg hx,dst,h.srcN]
    split at hk
    · rename_i xs he
      rw [he]
      simp only [bnd_some]
      split at hk
      · rename_i hc;cases hk;rw [if_pos hc]
      · cases hk
    · cases hk
  | _=>simp only [pv] at hp;cases hp
where wg_of {n:Nat} {y:Ys} {s:St} (h:Yr n y s):∀ {m:Nat} {gs:Gs} {u:V},yget y.e m=some (gs,u)→WG y gs
  | m,[],u,_=>trivial
  | m,g::r,u,e=>by
    obtain ⟨b,hb⟩:=h.wf m g r u e
    exact ⟨⟨b,hb⟩,wg_of h hb⟩
end Go.Den
namespace Go.Den
variable {P:Nat→Option Fun} {n d:Nat} {y:Ys} {s:St} {G:Gs}
def delC:List En→Nat→(List En→Prop)→Prop
  | [],_,k=>k []
  | (t,x)::r,n,k=>match Nat.beq t n with
    | true=>delC r n k
    | false=>delC r n fun r'=>k ((t,x)::r')
theorem delC_eq:∀ (e:List En) (n:Nat) (k:List En→Prop),delC e n k=k (ydel e n)
  | [],_,_=>rfl
  | (t,x)::r,n,k=>by
    simp only [delC,ydel]
    cases Nat.beq t n with
    | true=>exact delC_eq r n k
    | false=>exact delC_eq r n _
def putG (n:Nat) (y:Ys) (t:Nat) (gs:Gs) (v:V) (k:Ys→Prop):Prop:=
  match y with
  | ⟨e,l,f,w⟩=>match noMent e t && Nat.blt t n && !(gs.any fun g=>Nat.beq g.1 t) with
    | true=>delC e t fun e'=>k ⟨(t,gs,v)::e',l,f,w⟩
    | false=>False
def putK (n:Nat) (y:Ys) (t:Nat) (v:V) (k:Ys→Prop):Prop:=putG n y t [] v k
def delK (y:Ys) (t:Nat) (k:Ys→Prop):Prop:=
  match y with
  | ⟨e,l,f,w⟩=>match noMent e t with
    | true=>delC e t fun e'=>k ⟨e',l,f,w⟩
    | false=>False
def delAll (ts:List Nat):List En→List En
  | []=>[]
  | (t,x)::r=>bif ts.any (Nat.beq t) then delAll ts r else (t,x)::delAll ts r
def delAllC (ts:List Nat):List En→(List En→Prop)→Prop
  | [],k=>k []
  | (t,x)::r,k=>match ts.any (Nat.beq t) with
    | true=>delAllC ts r k
    | false=>delAllC ts r fun r'=>k ((t,x)::r')
theorem delAllC_eq (ts:List Nat):∀ (e:List En) (k:List En→Prop),delAllC ts e k=k (delAll ts e)
  | [],_=>rfl
  | (t,x)::r,k=>by
    simp only [delAllC,delAll]
    cases ts.any (Nat.beq t) with
    | true=>exact delAllC_eq ts r k
    | false=>exact delAllC_eq ts r _
def shC (v:V) (k:V→Prop):Prop:=
  match v with
  | .sl z es _=>k (.sl z es .sh)
  | v=>k v
theorem shC_eq (v:V) (k:V→Prop):shC v k=k v.sh:=by cases v<;>rfl
def okAll:List En→Bool
  | []=>true
  | (_,gs,_)::r=>gs.isEmpty && okAll r
def demK (n:Nat) (y:Ys) (a:A) (k:Ys→Prop):Prop:=
  match a with
  | .c _=>k y
  | .t u=>match ev y [] (.t u) with
    | some (.sl z es .uniq)=>putK n y u (.sl z es .sh) k
    | some _=>k y
    | none=>False
def offK (y:Ys) (a:A) (k:Ys→Prop):Prop:=
  match a with
  | .c _=>k y
  | .t u=>match ev y [] (.t u) with
    | some (.sl _ _ .uniq)=>delK y u k
    | some _=>k y
    | none=>False
def yB (y:Ys):List (Nat × Nat × A)→List V→Option (List V)
  | [],cs=>some cs
  | (off,n,a)::r,cs=>match ev y [] a with
    | some x=>bif x.uq then none else match x.sh.flat with
      | some xs=>bif Nat.beq xs.length n && Nat.ble (off+n) cs.length then yB y r (splice cs off xs) else none
      | none=>none
    | none=>none
def yL (y:Ys) (z:Nat):List (Nat × A)→List (List V)→Option (List (List V))
  | [],es=>some es
  | (i,a)::r,es=>match ev y [] a with
    | some x=>bif x.uq then none else match x.sh.flat with
      | some xs=>bif Nat.beq xs.length z && Nat.blt i es.length then yL y z r (es.set i xs) else none
      | none=>none
    | none=>none
def plainV:V→Bool
  | .arr _ _ _ _=>false
  | v=>!v.uq
def pvr (P:Nat→Option Fun) (d:Nat) (o:O) (y:Ys) (G:Gs) (v:V):Prop:=
  match o with
  | .callp _ fv xs=>∃ f a b vs r,ev y G fv=some (.fn f a b)∧evL y G xs=some vs∧vs.all plainV=true∧(keysL (a++vs++b)).isEmpty=true∧Val P f (a++vs++b) r∧recvP r=some v
  | .call (some _) _ false fv xs=>∃ f a b vs r,ev y G fv=some (.fn f a b)∧evL y G xs=some vs∧vs.all plainV=true∧(keysL (a++vs.map V.sh++b)).isEmpty=true∧Val P f (a++vs.map V.sh++b) r∧recvP r=some v
  | o=>pv d o y G=some v
def dstC:O→Nat
  | .callp t _ _=>t
  | .call (some t) _ _ _ _=>t
  | o=>dst o
def dstK (o:O) (k:Nat→Prop):Prop:=
  match o with
  | .mv t _ | .mvp t _ | .mvs t _ | .cst t _ | .pick t _ _ _ | .bin t _ _ _ | .eqs t _ _ _ _ | .beq t _ _ _ | .isn t _ _ _ | .not t _ | .neg t _ | .cvt t _ _ | .s2b t _ | .b2s t _ | .mks t _ _ _ | .slc t _ _ _ _ _ _ | .fa t _ _ | .fld t _ _ _
  | .ia t _ _ _ | .iap t _ _ _ _ | .ixs t _ _ | .ixa t _ _ _ _ _ | .ext t _ _ | .lens t _ | .len t _ | .mnx t _ _ _ | .ld t _ _ | .ldp t _ _ | .chk t _ | .xcs t _ _ | .xib t _ _ | .clone t _ _=>k t
  | _=>k 0
theorem dstK_eq (o:O) (k:Nat→Prop):dstK o k=k (dst o):=by cases o<;>rfl
def yslc (y:Ys) (z:Nat) (str:Bool) (x:A) (lo hi mx:Option A):Option V:=ev1 y [] x fun v=>match evO y [] lo,evO y [] hi,evO y [] mx with
  | some l,some h,some m=>slcV z str v l h m
  | _,_,_=>none
def yia (d:Nat) (y:Ys) (z:Nat) (x i:A):Option V:=ev2 y [] x i fun v j=>match v,j with
  | .sl z' es _,.int _ n=>if z'=z∧0≤n∧n < es.length then some (.pin es n.toNat 0) else none
  | .arr k z2 lo m,.int _ n=>match y.mem.get d k with
    | some (.row z' es _)=>if z'=z∧z2=z∧0≤n∧n < m∧lo+m≤es.length then some (.ptr k (lo+n.toNat) 0) else none
    | some (.cells z' es)=>if z'=z∧z2=z∧0≤n∧n < m∧lo+m≤es.length then some (.ptr k (lo+n.toNat) 0) else none
    | _=>none
  | _,_=>none
def sem (P:Nat→Option Fun) (n d:Nat) (o:O) (y:Ys) (k:Ys→Prop):Prop:=
  ∀ s,Yr n y s→∃ s1 y1,step (low (D P)) d o s=some s1∧Yr n y1 s1∧k y1
def wpO (P:Nat→Option Fun) (n d:Nat) (o:O) (y:Ys) (k:Ys→Prop):Prop:=
  match o with
  | .mv t u=>match ev y [] (.t u) with
    | some (.sl z es .uniq)=>putK n y u (.sl z es .sh) fun y1=>putK n y1 t (.sl z es .sh) k
    | some v=>shC v fun v'=>putK n y t v' k
    | none=>False
  | .mvs t u=>match ev y [] (.t u) with
    | some (.sl z es .uniq)=>delK y u fun y1=>putK n y1 t (.sl z es .uniq) k
    | some v=>putK n y t v k
    | none=>False
  | .kill ts=>match y with
    | ⟨e,l,f,w⟩=>delAllC ts e fun e'=>match okAll e' with
      | true=>k ⟨e',l,f,w⟩
      | false=>False
  | .g t want u o=>match yget y.e t with
    | some (gs,.bool b)=>∃ v,(b=want∧GH y gs→pvr P d o y ((t,want)::gs) v)∧(dstC o=u∧putG n y u ((t,want)::gs) v k)
    | some ([],.tup [])=>putK n y u (.tup []) k
    | _=>False
  | .app t z a b=>∃ va vb xs v,ev y [] a=some va∧ev y [] b=some vb∧srcV d y.mem z vb=some xs∧appV z va xs=some v∧offK y a fun y1=>demK n y1 b fun y2=>putK n y2 t v k
  | .lit t z m zero ps=>sem P n d (.lit t z m zero ps) y k
  | .slc t z str x lo hi mx=>∃ v,yslc y z str x lo hi mx=some v∧demK n y x fun y1=>putK n y1 t v k
  | .ia t z x i=>∃ v,yia d y z x i=some v∧demK n y x fun y1=>putK n y1 t v k
  | .build _ _ _ | .ld _ _ _ | .ldo _ _ _ | .lds _ _ | .new _ _ | .box _ _ | .st _ _ _ | .lito _ _ _ _ _ | .rng _ _ | .nxt _ _ | .cpy _ _ _ _ | .grow _ _ _ | .mkf _ _ _ _ | .mkm _ | .mset _ _ _ _ | .mget _ _ _ _ _ _ | .ob _ _ | .call _ _ _ _ _ | .callp _ _ _ | .bad=>sem P n d o y k
  | o=>∃ v,pv d o y []=some v∧dstK o fun t=>putK n y t v k
theorem putG_ok {C:CallF} {t:Nat} {gs:Gs} {v x:V} {k:Ys→Prop} (h:Yr n y s) (hp:putG n y t gs v k) (hw:WG y gs) (hv:HdS s gs→x=v) (hn:∀ g r,gs=g::r→rget s.r g.1≠.bool g.2→x=.tup []):∃ y1,Yr n y1 (s.put t x)∧k y1:=by
  unfold putG at hp
  simp only at hp
  split at hp
  · rename_i hc
    rw [delC_eq] at hp
    simp only [Bool.and_eq_true] at hc
    refine ⟨_,h.put ?_ hc.1.1 hw (fun g hg e=>?_) hv hn,hp⟩
    · have:=hc.1.2
      simp [Nat.blt] at this
      omega
    · have:=hc.2
      simp only [Bool.not_eq_true',List.any_eq_false] at this
      exact this g hg (by rw [e];exact Nat.beq_refl t)
  · exact hp.elim
theorem putK_ok {C:CallF} {t:Nat} {v:V} {k:Ys→Prop} (h:Yr n y s) (hp:putK n y t v k):∃ y1,Yr n y1 (s.put t v)∧k y1:=
  putG_ok (C:=C) h hp trivial (fun _=>rfl) (fun _ _ h=>by cases h)
theorem delK_ok {t:Nat} {k:Ys→Prop} (h:Yr n y s) (hp:delK y t k):∃ y1,Yr n y1 (s.put t .dead)∧k y1:=by
  unfold delK at hp
  simp only at hp
  split at hp
  · rename_i hc;rw [delC_eq] at hp;exact ⟨_,h.del hc,hp⟩
  · exact hp.elim
theorem demK_ok {C:CallF} {a:A} {k:Ys→Prop} (h:Yr n y s) (hp:demK n y a k):∃ y1,Yr n y1 (s.dem a)∧k y1:=by
  cases a with
  | c v=>exact ⟨y,h,hp⟩
  | t u =>
    simp only [demK] at hp
    split at hp
    · rename_i z es he
      have e:=h.ev0 he
      simp only [A.ev] at e
      simp only [St.dem,e]
      exact putK_ok (C:=C) h hp
    · rename_i v hn he
      have e:=h.ev0 he
      simp only [A.ev] at e
      refine ⟨y,?_,hp⟩
      have:s.dem (.t u)=s:=dem_no (by
        simp only [A.ev,e]
        cases v with
        | sl z es o=>cases o<;>first | rfl | exact (hn z es rfl).elim
        | _=>rfl)
      rw [this];exact h
    · exact hp.elim
theorem offK_ok {a:A} {k:Ys→Prop} (h:Yr n y s) (hp:offK y a k):∃ y1,Yr n y1 (s.off a)∧k y1:=by
  cases a with
  | c v=>exact ⟨y,h,hp⟩
  | t u =>
    simp only [offK] at hp
    split at hp
    · rename_i z es he
      have e:=h.ev0 he
      simp only [A.ev] at e
      simp only [St.off,e]
      exact delK_ok h hp
    · rename_i v hn he
      have e:=h.ev0 he
      simp only [A.ev] at e
      refine ⟨y,?_,hp⟩
      have:s.off (.t u)=s:=off_no (by
        simp only [A.ev,e]
        cases v with
        | sl z es o=>cases o<;>first | rfl | exact (hn z es rfl).elim
        | _=>rfl)
      rw [this];exact h
    · exact hp.elim
theorem GH_of (h:Yr n y s):∀ {G:Gs},WG y G→HdS s G→GH y G
  | [],_,_=>trivial
  | (t,w)::r,hw,hg=>by
    have ht:=h.tail hw hg
    refine ⟨?_,GH_of h hw.2 ht⟩
    obtain ⟨⟨b,hb⟩,_⟩:=hw
    simp only at hb
    rw [hb]
    have:=h.slot t
    unfold SlotR at this
    rw [hb] at this
    simp only [HdS] at hg
    cases r with
    | nil=>simp only at this ⊢;rw [hg] at this;cases this;rfl
    | cons g' r' =>
      have:=this.1 ht
      rw [hg] at this;cases this;rfl
theorem argL_plain (h:Yr n y s) (hw:WG y G) (hg:HdS s G) {raw:Bool}:∀ {xs:List A} {vs:List V},evL y G xs=some vs→vs.all plainV=true→argL d raw xs s=some (vs.map V.sh,s)
  | [],vs,e,_=>by simp only [Den.evL,Option.some.injEq] at e;rw [← e];rfl
  | a::r,vs,e,hp=>by
    simp only [Den.evL] at e
    split at e
    · rename_i x l hx hl
      cases e
      simp only [List.all_cons,Bool.and_eq_true] at hp
      have e1:=h.ev hw hg hx
      have hu:x.uq=false:=by
        have:=hp.1
        cases x<;>simp_all [plainV,V.uq]
      have h1:arg1 d raw a s=some (x.sh,s):=by
        unfold arg1
        rw [e1]
        have hd:s.dem a=s:=dem_no (by rw [e1];exact hu)
        cases x<;>first | (simp [plainV] at hp;done) | (simp only [hd])
      simp only [argL,h1,argL_plain h hw hg hl hp.2,Option.map_some,List.map_cons]
    · cases e
theorem argP_plain (h:Yr n y s) (hw:WG y G) (hg:HdS s G):∀ {xs:List A} {vs:List V},evL y G xs=some vs→vs.all plainV=true→argP xs s.r=some vs
  | [],vs,e,_=>by simp only [Den.evL,Option.some.injEq] at e;rw [← e];rfl
  | a::r,vs,e,hp=>by
    simp only [Den.evL] at e
    split at e
    · rename_i x l hx hl
      cases e
      simp only [List.all_cons,Bool.and_eq_true] at hp
      have e1:=h.ev hw hg hx
      have hc:x.calm=true:=by
        have:=hp.1
        cases x with
        | sl z es o=>cases o<;>simp_all [plainV,V.uq,V.calm]
        | _=>simp_all [plainV,V.calm]
      simp only [argP,e1,hc,if_true,argP_plain h hw hg hl hp.2,bnd_some]
    · cases e
theorem low_val {f d:Nat} {args:List V} {fs:Frm} {v:V} (hk:(keysL args).isEmpty=true) (h:Val P f args v):low (D P) f d args fs=some (v,fs,false):=by
  obtain ⟨fs',w,h⟩:=h
  unfold low
  rw [if_pos hk,h]
  rfl
end Go.Den
