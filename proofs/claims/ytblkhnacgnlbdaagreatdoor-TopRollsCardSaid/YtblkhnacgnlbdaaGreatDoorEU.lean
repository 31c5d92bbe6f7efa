import Derived.Test.YtblkhnacgnlbdaaGreatDoorEA
set_option linter.all false
namespace Go.Den
noncomputable def rgetF (r:List V):Nat→V:=List.rec (motive:=fun _=>Nat→V) (fun _=>.dead) (fun v _ ih n=>Nat.rec (motive:=fun _=>V) v (fun m _=>ih m) n) r
noncomputable def rsetF (r:List V):Nat→V→List V:=List.rec (motive:=fun _=>Nat→V→List V) (fun _ _=>[]) (fun a l ih n v=>Nat.rec (motive:=fun _=>List V) (v::l) (fun m _=>a::ih m v) n) r
theorem rgetF_eq:rgetF=rget:=by
  funext r n
  induction r generalizing n with
  | nil=>cases n<;>rfl
  | cons v r ih =>
    cases n with
    | zero=>rfl
    | succ n=>exact ih n
theorem rsetF_eq:rsetF=rset:=by
  funext r n v
  induction r generalizing n with
  | nil=>cases n<;>rfl
  | cons a r ih =>
    cases n with
    | zero=>rfl
    | succ n=>exact congrArg (a::·) (ih n)
noncomputable def A.evF (r:List V):A→V
  | .t n=>rgetF r n
  | .c v=>v
noncomputable def St.putF (s:St) (d:Nat) (v:V):St:={ s with r:=rsetF s.r d v }
noncomputable def St.demF (s:St):A→St
  | .t n=>match rgetF s.r n with
    | .sl z es .uniq=>s.putF n (.sl z es .sh)
    | _=>s
  | .c _=>s
noncomputable def St.offF (s:St):A→St
  | .t n=>match rgetF s.r n with
    | .sl _ _ .uniq=>s.putF n .dead
    | _=>s
  | .c _=>s
theorem evF_eq:A.evF=A.ev:=by
  funext r a
  cases a with
  | t n=>simp only [A.evF,A.ev,rgetF_eq]
  | c v=>rfl
theorem putF_eq:St.putF=St.put:=by
  funext s d v
  simp only [St.putF,St.put,rsetF_eq]
theorem demF_eq:St.demF=St.dem:=by
  funext s a
  cases a with
  | t n=>simp only [St.demF,St.dem,rgetF_eq,putF_eq];rfl
  | c v=>rfl
theorem offF_eq:St.offF=St.off:=by
  funext s a
  cases a with
  | t n=>simp only [St.offF,St.off,rgetF_eq,putF_eq];rfl
  | c v=>rfl
noncomputable def partsBF:List (Nat × Nat × A)→St→List V→Option (St × List V)
  | [],s,cs=>some (s,cs)
  | (off,n,a)::r,s,cs=>bnd (a.evF s.r).sh.flat fun xs =>
    if xs.length=n∧off+n≤cs.length then partsBF r (s.demF a) (splice cs off xs) else none
noncomputable def partsLF (z:Nat):List (Nat × A)→St→List (List V)→Option (St × List (List V))
  | [],s,es=>some (s,es)
  | (i,a)::r,s,es=>bnd (a.evF s.r).sh.flat fun xs =>
    if xs.length=z∧i < es.length then partsLF z r (s.demF a) (es.set i xs) else none
noncomputable def arg1F (d:Nat) (raw:Bool) (a:A) (s:St):Option (V × St):=
  match a.evF s.r with
  | .arr k z2 lo n=>if raw then some (.arr k z2 lo n,s) else
    match s.get d k with
    | some (.row z es _)=>if z2=z∧lo+n≤es.length then some (.sl z ((es.drop lo).take n) .sh,s.set d k (.row z es true)) else none
    | _=>none
  | v=>some (v.sh,s.demF a)
noncomputable def argLF (d:Nat) (raw:Bool):List A→St→Option (List V × St)
  | [],s=>some ([],s)
  | a::r,s=>match arg1F d raw a s with
    | some (v,s1)=>(argLF d raw r s1).map fun p=>(v::p.1,p.2)
    | none=>none
noncomputable def argPF:List A→List V→Option (List V)
  | [],_=>some []
  | a::q,r=>if (a.evF r).calm then bnd (argPF q r) fun l=>some (a.evF r::l) else none
noncomputable def tookF (d:Nat) (t:Option Nat) (ob:Bool) (v:V) (s:St):Option St:=
  match t with
  | none=>some s
  | some t=>(recv d t ob v s).map fun p=>p.2.putF t p.1
theorem partsBF_eq:partsBF=partsB:=by
  funext ps
  induction ps with
  | nil=>rfl
  | cons p r ih=>funext s cs;obtain ⟨off,n,a⟩:=p;simp only [partsBF,partsB,ih,evF_eq,demF_eq]
theorem partsLF_eq:partsLF=partsL:=by
  funext z ps
  induction ps with
  | nil=>rfl
  | cons p r ih=>funext s cs;obtain ⟨n,a⟩:=p;simp only [partsLF,partsL,ih,evF_eq,demF_eq]
theorem arg1F_eq:arg1F=arg1:=by
  funext d raw a s
  simp only [arg1F,arg1,evF_eq,demF_eq];rfl
theorem argLF_eq:argLF=argL:=by
  funext d raw xs
  induction xs with
  | nil=>rfl
  | cons a r ih=>funext s;simp only [argLF,argL,ih,arg1F_eq];rfl
theorem argPF_eq:argPF=argP:=by
  funext xs
  induction xs with
  | nil=>rfl
  | cons a r ih=>funext s;simp only [argPF,argP,ih,evF_eq]
theorem tookF_eq:tookF=took:=by
  funext d t ob v s
  simp only [tookF,took,putF_eq];rfl
noncomputable def maskF (r:List V):List V→List V:=List.rec (motive:=fun _=>List V→List V) (fun q=>q) (fun v _ ih q=>match q with
    | []=>[]
    | u::q=>(match v with
      | .dead=>.dead
      | _=>u)::ih q) r
theorem maskF_eq:maskF=mask:=by
  funext r q
  induction r generalizing q with
  | nil=>simp only [maskF,mask]
  | cons v r ih =>
    cases q with
    | nil=>cases v<;>rfl
    | cons u q =>
      have:=ih q
      cases v<;>exact congrArg _ this
noncomputable def cleanF (d:Nat) (s0 s1:St):Option St:=
  if (keysL (maskF s0.r s1.r)).any (gone d s0.l)=false∧(s1.l.filter fun x=>has s0.l x.1 x.2.1).all (fun x=>!(x.2.2.keys.any (gone d s0.l)))=true
  then some { r:=maskF s0.r s1.r,l:=s1.l.filter (fun x=>has s0.l x.1 x.2.1),f:=s1.f,w:=s1.w } else none
theorem cleanF_eq:cleanF=clean:=by
  funext d s0 s1
  simp only [cleanF,clean,maskF_eq]
noncomputable def loopNF:Nat→Nat→Run→St→Option (Ex × St)
  | 0,_,_,_=>none
  | n+1,d,F,s=>match F s with
    | some (.normal,s1)=>match cleanF d s s1 with
      | some s2=>loopNF n d F s2
      | none=>none
    | some (.exit j,s1)=>(cleanF d s s1).map (.exit j,·)
    | x=>x
theorem loopNF_eq:loopNF=loopN:=by
  funext n
  induction n with
  | zero=>rfl
  | succ n ih =>
    funext d F s
    simp only [loopNF,loopN,ih,cleanF_eq]
    rfl
noncomputable def x_mv (t:Nat) (u:Nat) (s:St):Option St:=
  some ((s.demF (.t u)).putF t (rgetF s.r u).sh)
noncomputable def x_mvs (t:Nat) (u:Nat) (s:St):Option St:=
  some ((s.offF (.t u)).putF t (rgetF s.r u))
noncomputable def x_mvp (t:Nat) (u:Nat) (s:St):Option St:=
  if (rgetF s.r u).uq then none else some (s.putF t (rgetF s.r u))
noncomputable def x_cst (t:Nat) (v:V) (s:St):Option St:=
  some (s.putF t v)
noncomputable def x_pick (t:Nat) (c:A) (a:A) (b:A) (s:St):Option St:=
  match c.evF s.r with
    | .bool x=>match (bif x then a.evF s.r else b.evF s.r) with
      | .bool y=>some (s.putF t (.bool y))
      | _=>none
    | _=>none
noncomputable def x_new (d:Nat) (t:Nat) (zero:List V) (s:St):Option St:=
  (s.add t 0 (.cells zero.length [zero])).map (·.putF t (.ptr (d,t,0) 0 0))
noncomputable def x_box (d:Nat) (t:Nat) (a:A) (s:St):Option St:=
  bnd (a.evF s.r).sh.flat fun cs=>((s.demF a).add t 0 (.cells cs.length [cs])).map (·.putF t (.ptr (d,t,0) 0 0))
noncomputable def x_build (t:Nat) (zero:List V) (ps:List (Nat × Nat × A)) (s:St):Option St:=
  (partsBF ps s zero).map fun p=>p.1.putF t (.agg p.2)
noncomputable def x_lit (t:Nat) (z:Nat) (n:Nat) (zero:List V) (ps:List (Nat × A)) (s:St):Option St:=
  if zero.length=z then match partsLF z ps s (List.replicate n zero) with
      | some (s1,es)=>if es.all (·.all V.pure) then some (s1.putF t (.sl z es .uniq)) else none
      | none=>none
    else none
noncomputable def x_lito (d:Nat) (t:Nat) (z:Nat) (n:Nat) (zero:List V) (ps:List (Nat × A)) (s:St):Option St:=
  if zero.length=z then match partsLF z ps s (List.replicate n zero) with
      | some (s1,es)=>(s1.add t 0 (.cells z es)).map (·.putF t (.arr (d,t,0) z 0 n))
      | none=>none
    else none
noncomputable def x_ld (d:Nat) (t:Nat) (sz:Option Nat) (a:A) (s:St):Option St:=
  bnd (ldV d s (a.evF s.r) sz) fun p=>some (p.2.putF t p.1)
noncomputable def x_ldp (d:Nat) (t:Nat) (sz:Option Nat) (a:A) (s:St):Option St:=
  bnd (ldP d s (a.evF s.r) sz) fun v=>some (s.putF t v)
noncomputable def x_lds (d:Nat) (t:Nat) (a:A) (s:St):Option St:=
  match a.evF s.r with
    | .ptr k i off=>match s.get d k with
      | some (.cells z es)=>match es[i]? with
        | some e=>match e[off]? with
          | some v=>if v.uq then some ((s.set d k (.cells z (es.set i (e.set off .dead)))).putF t v) else some (s.putF t v)
          | none=>none
        | none=>none
      | _=>none
    | _=>none
noncomputable def x_ldo (d:Nat) (t:Nat) (n:Nat) (a:A) (s:St):Option St:=
  match a.evF s.r with
    | .ptr k i off=>if k.1=d then bnd (nameN d t k i off n 0 s) fun s1=>bnd (s1.at d (.ptr k i off)) fun c=>if n≤c.length∧hasUq (c.take n)=false then some (s1.putF t (.agg ((c.take n).map V.sh))) else none
      else none
    | _=>none
noncomputable def x_st (d:Nat) (sz:Option Nat) (a:A) (b:A) (s:St):Option St:=
  match sz with
    | none=>if (b.evF s.r).one then stV d (s.offF b) (a.evF s.r) [b.evF s.r] else none
    | some n=>match b.evF s.r with
      | .agg cs=>if cs.length=n∧cs.all V.one=true then stV d s (a.evF s.r) cs else none
      | _=>none
noncomputable def x_chk (t:Nat) (u:Nat) (s:St):Option St:=
  match rgetF s.r u with
    | .ptr k i off=>some (s.putF t (.ptr k i off))
    | .pin es i off=>some (s.putF t (.pin es i off))
    | .fn f a b=>some (s.putF t (.fn f a b))
    | _=>none
noncomputable def x_bin (t:Nat) (op:Ar) (a:A) (b:A) (s:St):Option St:=
  (binV op (a.evF s.r) (b.evF s.r)).map (s.putF t)
noncomputable def x_eqs (t:Nat) (ts:List Tg) (eq:Bool) (a:A) (b:A) (s:St):Option St:=
  match a.evF s.r,b.evF s.r with
    | .agg x,.agg y=>(eqL ts x y).map fun r=>s.putF t (.bool (bif eq then r else !r))
    | _,_=>none
noncomputable def x_beq (t:Nat) (eq:Bool) (a:A) (b:A) (s:St):Option St:=
  match a.evF s.r,b.evF s.r with
    | .bool x,.bool y=>some (s.putF t (.bool (bif eq then x == y else x != y)))
    | _,_=>none
noncomputable def x_isn (t:Nat) (eq:Bool) (iface:Bool) (a:A) (s:St):Option St:=
  match iface,a.evF s.r with
    | false,.ptr _ _ _=>some (s.putF t (.bool !eq))
    | false,.nilp=>some (s.putF t (.bool eq))
    | true,.nili=>some (s.putF t (.bool eq))
    | _,_=>none
noncomputable def x_not (t:Nat) (a:A) (s:St):Option St:=
  match a.evF s.r with
    | .bool b=>some (s.putF t (.bool !b))
    | _=>none
noncomputable def x_neg (t:Nat) (a:A) (s:St):Option St:=
  match a.evF s.r with
    | .int k n=>some (s.putF t (.int k (k.wrap (0 - n))))
    | _=>none
noncomputable def x_cvt (t:Nat) (k:IntKind) (a:A) (s:St):Option St:=
  match a.evF s.r with
    | .int _ n=>some (s.putF t (.int k (k.wrap n)))
    | _=>none
noncomputable def x_s2b (t:Nat) (a:A) (s:St):Option St:=
  match a.evF s.r with
    | .str b=>if b.size≤most then some (s.putF t (.sl 1 (str8 b) .uniq)) else none
    | _=>none
noncomputable def x_b2s (d:Nat) (t:Nat) (a:A) (s:St):Option St:=
  match srcB d s (a.evF s.r) with
    | some es=>(vbytes es).map fun l=>s.putF t (.str ⟨l.toArray⟩)
    | none=>none
noncomputable def x_mkf (t:Nat) (f:Nat) (first:List A) (caps:List A) (s:St):Option St:=
  if (first.all fun y=>!(y.evF s.r).uq) && (caps.all fun y=>!(y.evF s.r).uq) then some (s.putF t (.fn f (first.map (·.evF s.r)) (caps.map (·.evF s.r)))) else none
noncomputable def x_mks (t:Nat) (zero:List V) (n:A) (c:A) (s:St):Option St:=
  match n.evF s.r,c.evF s.r with
    | .int .i64 n,.int .i64 c=>if 0≤n∧n≤c∧c≤16777216∧zero.all V.pure=true then some (s.putF t (.sl zero.length (List.replicate n.toNat zero) .uniq)) else none
    | _,_=>none
noncomputable def x_slc (t:Nat) (z:Nat) (str:Bool) (x:A) (lo:Option A) (hi:Option A) (mx:Option A) (s:St):Option St:=
  (slcV z str (x.evF s.r) (lo.map (·.evF s.r)) (hi.map (·.evF s.r)) (mx.map (·.evF s.r))).map ((s.demF x).putF t)
noncomputable def x_fa (t:Nat) (u:Nat) (o:Nat) (s:St):Option St:=
  match rgetF s.r u with
    | .ptr k i off=>some (s.putF t (.ptr k i (off+o)))
    | .pin es i off=>some (s.putF t (.pin es i (off+o)))
    | _=>none
noncomputable def x_fld (t:Nat) (u:A) (o:Nat) (sz:Option Nat) (s:St):Option St:=
  match u.evF s.r with
    | .agg cs=>match sz with
      | none=>(cs[o]?).map (s.putF t)
      | some n=>if o+n≤cs.length then some (s.putF t (.agg (grab cs o n))) else none
    | _=>none
noncomputable def x_ia (d:Nat) (t:Nat) (z:Nat) (x:A) (i:A) (s:St):Option St:=
  match x.evF s.r,i.evF s.r with
    | .sl z' es _,.int _ n=>if z'=z∧0≤n∧n < es.length then some ((s.demF x).putF t (.pin es n.toNat 0)) else none
    | .arr k z2 lo m,.int _ n=>match s.get d k with
      | some (.row z' es _)=>if z'=z∧z2=z∧0≤n∧n < m∧lo+m≤es.length then some (s.putF t (.ptr k (lo+n.toNat) 0)) else none
      | some (.cells z' es)=>if z'=z∧z2=z∧0≤n∧n < m∧lo+m≤es.length then some (s.putF t (.ptr k (lo+n.toNat) 0)) else none
      | _=>none
    | _,_=>none
noncomputable def x_iap (t:Nat) (m:Nat) (z:Nat) (x:A) (i:A) (s:St):Option St:=
  match x.evF s.r,i.evF s.r with
    | .ptr k j off,.int _ n=>if 0≤n∧n < m then some (s.putF t (.ptr k j (off+n.toNat*z))) else none
    | .pin es j off,.int _ n=>if 0≤n∧n < m then some (s.putF t (.pin es j (off+n.toNat*z))) else none
    | _,_=>none
noncomputable def x_ixs (t:Nat) (x:A) (i:A) (s:St):Option St:=
  match x.evF s.r,i.evF s.r with
    | .str b,.int _ n=>if 0≤n∧n < b.size then some (s.putF t (.int .u8 (b.get! n.toNat).toNat)) else none
    | _,_=>none
noncomputable def x_ixa (t:Nat) (m:Nat) (z:Nat) (agg:Bool) (x:A) (i:A) (s:St):Option St:=
  match x.evF s.r,i.evF s.r with
    | .agg cs,.int _ n=>if 0≤n∧n < m then (if agg then (if n.toNat*z+z≤cs.length then some (s.putF t (.agg (grab cs (n.toNat*z) z))) else none) else (cs[n.toNat*z]?).map (s.putF t)) else none
    | _,_=>none
noncomputable def x_rng (d:Nat) (t:Nat) (x:A) (s:St):Option St:=
  match x.evF s.r with
    | .str b=>(s.add t 0 (.iter b 0)).map (·.putF t (.ptr (d,t,0) 0 0))
    | _=>none
noncomputable def x_nxt (d:Nat) (t:Nat) (u:Nat) (s:St):Option St:=
  match rgetF s.r u with
    | .ptr k 0 0=>match s.get d k with
      | some (.iter b p)=>if p < b.size then some ((s.set d k (.iter b (p+(Utf8.decode b p).2))).putF t (.tup [.bool true,.int .i64 p,.int .i32 (Utf8.decode b p).1])) else some (s.putF t (.tup [.bool false]))
      | _=>none
    | _=>none
noncomputable def x_ext (t:Nat) (u:Nat) (i:Nat) (s:St):Option St:=
  match rgetF s.r u with
    | .tup vs=>(vs[i]?).map (s.putF t)
    | _=>none
noncomputable def x_lens (t:Nat) (a:A) (s:St):Option St:=
  match a.evF s.r with
    | .str b=>some (s.putF t (.int .i64 b.size))
    | _=>none
noncomputable def x_len (t:Nat) (a:A) (s:St):Option St:=
  match a.evF s.r with
    | .sl _ es _=>some (s.putF t (.int .i64 es.length))
    | .arr _ _ _ n=>some (s.putF t (.int .i64 n))
    | _=>none
noncomputable def x_app (d:Nat) (t:Nat) (z:Nat) (a:A) (b:A) (s:St):Option St:=
  match srcV d s z (b.evF s.r) with
    | some xs=>(appV z (a.evF s.r) xs).map ((s.offF a).demF b |>.putF t)
    | none=>none
noncomputable def x_cpy (d:Nat) (t:Nat) (z:Nat) (a:A) (b:A) (s:St):Option St:=
  match a.evF s.r,srcV d s z (b.evF s.r) with
    | .arr k z2 lo n,some xs=>match s.get d k with
      | some (.row z' es false)=>if z'=z∧z2=z∧lo+n≤es.length then some ((s.set d k (.row z (es.take lo++xs.take n++es.drop (lo+min xs.length n)) false)).putF t (.int .i64 (min xs.length n:Nat))) else none
      | _=>none
    | _,_=>none
noncomputable def x_mnx (t:Nat) (mx:Bool) (a:A) (l:List A) (s:St):Option St:=
  match a.evF s.r with
    | .int k x=>(mnxV mx k (l.map (·.evF s.r)) x).map fun n=>s.putF t (.int k n)
    | _=>none
noncomputable def x_call (call:CallF) (d:Nat) (t:Option Nat) (raw:Bool) (ob:Bool) (fv:A) (xs:List A) (s:St):Option St:=
  match fv.evF s.r with
    | .fn f first caps=>bnd (argLF d raw xs s) fun q=>bnd (call f (d+1) (first++q.1++caps) (merge d q.2.l q.2.f)) fun p =>
        tookF d t ob p.1 (after d q.2 p.2.1 p.2.2)
    | _=>none
noncomputable def x_callp (call:CallF) (d:Nat) (t:Nat) (fv:A) (xs:List A) (s:St):Option St:=
  match fv.evF s.r with
    | .fn f first caps=>bnd (argPF xs s.r) fun vs=>bnd (call f (d+1) (first++vs++caps) (merge d s.l s.f)) fun p =>
        if p.2.2 then none else bnd (recvP p.1) fun v=>some (s.putF t v)
    | _=>none
noncomputable def x_clone (d:Nat) (t:Nat) (z:Nat) (a:A) (s:St):Option St:=
  bnd (srcN d s z (a.evF s.r)) fun xs=>if xs.length≤most then some (s.putF t (.sl z xs (tq xs))) else none
noncomputable def x_grow (t:Nat) (z:Nat) (n:A) (s:St):Option St:=
  match n.evF s.r with
    | .int .i64 n=>if 0≤n∧n≤16777216 then some (s.putF t (.sl z [] .uniq)) else none
    | _=>none
noncomputable def x_xcs (t:Nat) (a:A) (b:A) (s:St):Option St:=
  match a.evF s.r,b.evF s.r with
    | .str x,.int .u8 c=>some (s.putF t (.int .i64 (csByte x (UInt8.ofNat c.toNat))))
    | _,_=>none
noncomputable def x_xib (t:Nat) (a:A) (b:A) (s:St):Option St:=
  match a.evF s.r,b.evF s.r with
    | .str x,.int .u8 c=>some (s.putF t (.int .i64 (ixByte x (UInt8.ofNat c.toNat))))
    | _,_=>none
noncomputable def x_mkm (d:Nat) (t:Nat) (s:St):Option St:=
  (s.add t 0 (.map [])).map (·.putF t (.map (d,t,0)))
noncomputable def x_mset (d:Nat) (ks:Tg) (m:A) (k:A) (v:A) (s:St):Option St:=
  match m.evF s.r with
    | .map x=>match s.get d x with
      | some (.map es)=>if x.1=d∧V.isKey ks (k.evF s.r)=true∧(v.evF s.r).keys=[]∧(v.evF s.r).uq=false then (mset (k.evF s.r) (v.evF s.r) es).map fun e=>s.set d x (.map e) else none
      | _=>none
    | _=>none
noncomputable def x_mget (d:Nat) (t:Nat) (ok:Bool) (ks:Tg) (zero:V) (m:A) (k:A) (s:St):Option St:=
  match m.evF s.r with
    | .map x=>match s.get d x with
      | some (.map es)=>match V.isKey ks (k.evF s.r),mget (k.evF s.r) es with
        | true,some (some v)=>some (s.putF t (if ok then .tup [v,.bool true] else v))
        | true,some none=>some (s.putF t (if ok then .tup [zero,.bool false] else zero))
        | _,_=>none
      | _=>none
    | _=>none
noncomputable def x_ob (d t:Nat) (r:Option St):Option St:=
  match r with
    | some s1=>(recv1 d t 0 true (rgetF s1.r t) s1).map fun p=>p.2.putF t p.1
    | none=>none
noncomputable def x_kill (ts:List Nat) (s:St):Option St:=
  some (killS ts s)
noncomputable def x_g (t:Nat) (want:Bool) (u:Nat) (s:St) (r:Option St):Option St:=
  match rgetF s.r t with
    | .bool b=>if b=want then r else some (s.putF u (.tup []))
    | .tup []=>some (s.putF u (.tup []))
    | _=>none
def x_bad:Option St:=none
noncomputable def stepF (call:CallF) (d:Nat):O→St→Option St
  | .mv t u,s=>x_mv t u s
  | .mvs t u,s=>x_mvs t u s
  | .mvp t u,s=>x_mvp t u s
  | .cst t v,s=>x_cst t v s
  | .pick t c a b,s=>x_pick t c a b s
  | .new t zero,s=>x_new d t zero s
  | .box t a,s=>x_box d t a s
  | .build t zero ps,s=>x_build t zero ps s
  | .lit t z n zero ps,s=>x_lit t z n zero ps s
  | .lito t z n zero ps,s=>x_lito d t z n zero ps s
  | .ld t sz a,s=>x_ld d t sz a s
  | .ldp t sz a,s=>x_ldp d t sz a s
  | .lds t a,s=>x_lds d t a s
  | .ldo t n a,s=>x_ldo d t n a s
  | .st sz a b,s=>x_st d sz a b s
  | .chk t u,s=>x_chk t u s
  | .bin t op a b,s=>x_bin t op a b s
  | .eqs t ts eq a b,s=>x_eqs t ts eq a b s
  | .beq t eq a b,s=>x_beq t eq a b s
  | .isn t eq iface a,s=>x_isn t eq iface a s
  | .not t a,s=>x_not t a s
  | .neg t a,s=>x_neg t a s
  | .cvt t k a,s=>x_cvt t k a s
  | .s2b t a,s=>x_s2b t a s
  | .b2s t a,s=>x_b2s d t a s
  | .mkf t f first caps,s=>x_mkf t f first caps s
  | .mks t zero n c,s=>x_mks t zero n c s
  | .slc t z str x lo hi mx,s=>x_slc t z str x lo hi mx s
  | .fa t u o,s=>x_fa t u o s
  | .fld t u o sz,s=>x_fld t u o sz s
  | .ia t z x i,s=>x_ia d t z x i s
  | .iap t m z x i,s=>x_iap t m z x i s
  | .ixs t x i,s=>x_ixs t x i s
  | .ixa t m z agg x i,s=>x_ixa t m z agg x i s
  | .rng t x,s=>x_rng d t x s
  | .nxt t u,s=>x_nxt d t u s
  | .ext t u i,s=>x_ext t u i s
  | .lens t a,s=>x_lens t a s
  | .len t a,s=>x_len t a s
  | .app t z a b,s=>x_app d t z a b s
  | .cpy t z a b,s=>x_cpy d t z a b s
  | .mnx t mx a l,s=>x_mnx t mx a l s
  | .call t raw ob fv xs,s=>x_call call d t raw ob fv xs s
  | .callp t fv xs,s=>x_callp call d t fv xs s
  | .clone t z a,s=>x_clone d t z a s
  | .grow t z n,s=>x_grow t z n s
  | .xcs t a b,s=>x_xcs t a b s
  | .xib t a b,s=>x_xib t a b s
  | .mkm t,s=>x_mkm d t s
  | .mset ks m k v,s=>x_mset d ks m k v s
  | .mget t ok ks zero m k,s=>x_mget d t ok ks zero m k s
  | .ob t o,s=>x_ob d t (stepF call d o s)
  | .kill ts,s=>x_kill ts s
  | .g t want u o,s=>x_g t want u s (stepF call d o s)
  | .bad,_=>x_bad
theorem stepF_eq (call:CallF) (d:Nat):∀ (o:O) (s:St),stepF call d o s=step call d o s:=by
  intro o
  induction o with
  | ob t o ih=>intro s;simp only [stepF,step,x_ob,ih,rgetF_eq,rsetF_eq,evF_eq,putF_eq,demF_eq,offF_eq,partsBF_eq,partsLF_eq,argLF_eq,argPF_eq,tookF_eq];rfl
  | g t want u o ih=>intro s;simp only [stepF,step,x_g,ih,rgetF_eq,rsetF_eq,evF_eq,putF_eq,demF_eq,offF_eq,partsBF_eq,partsLF_eq,argLF_eq,argPF_eq,tookF_eq];rfl
  | bad=>intro s;rfl
  | _=>intro s;simp only [stepF,step,x_mv,x_mvs,x_mvp,x_cst,x_pick,x_new,x_box,x_build,x_lit,x_lito,x_ld,x_ldp,x_lds,x_ldo,x_st,x_chk,x_bin,x_eqs,x_beq,x_isn,x_not,x_neg,x_cvt,x_s2b,x_b2s,x_mkf,x_mks,x_slc,x_fa,x_fld,x_ia,x_iap,x_ixs,x_ixa,x_rng,x_nxt,x_ext,x_lens,x_len,x_app,x_cpy,x_mnx,x_call,x_callp,x_clone,x_grow,x_xcs,x_xib,x_mkm,x_mset,x_mget,x_kill,rgetF_eq,rsetF_eq,evF_eq,putF_eq,demF_eq,offF_eq,partsBF_eq,partsLF_eq,argLF_eq,argPF_eq,tookF_eq]<;>rfl
end Go.Den
namespace Go.Den
mutual
def V.eqb:V→V→Bool
  | .dead,.dead=>true
  | .bool a,.bool b=>a == b
  | .int k n,.int k' m=>decide (k=k') && decide (n=m)
  | .str a,.str b=>decide (a.data.toList=b.data.toList)
  | .nilp,.nilp=>true
  | .nilf,.nilf=>true
  | .nili,.nili=>true
  | .agg a,.agg b=>eqbL a b
  | .tup a,.tup b=>eqbL a b
  | .sl z es o,.sl z' es' o'=>decide (z=z') && eqbLL es es' && decide (o=o')
  | .ptr k i j,.ptr k' i' j'=>decide (k=k') && decide (i=i') && decide (j=j')
  | .pin es i j,.pin es' i' j'=>eqbLL es es' && decide (i=i') && decide (j=j')
  | .arr k z l n,.arr k' z' l' n'=>decide (k=k') && decide (z=z') && decide (l=l') && decide (n=n')
  | .fn f a b,.fn f' a' b'=>decide (f=f') && eqbL a a' && eqbL b b'
  | .map k,.map k'=>decide (k=k')
  | .box a,.box b=>eqbL a b
  | _,_=>false
def eqbL:List V→List V→Bool
  | [],[]=>true
  | a::r,b::q=>a.eqb b && eqbL r q
  | _,_=>false
def eqbLL:List (List V)→List (List V)→Bool
  | [],[]=>true
  | a::r,b::q=>eqbL a b && eqbLL r q
  | _,_=>false
end
theorem str_eq {a b:ByteArray} (h:a.data.toList=b.data.toList):a=b:=by
  obtain ⟨⟨a⟩⟩:=a;obtain ⟨⟨b⟩⟩:=b;simp only at h;rw [h]
mutual
theorem V.eqb_eq:∀ (a b:V),a.eqb b=true→a=b
  | .dead,b,h=>by cases b<;>first | rfl | (simp [V.eqb] at h)
  | .bool x,b,h=>by cases b<;>simp [V.eqb] at h;rw [h]
  | .int k n,b,h=>by cases b<;>simp [V.eqb] at h;rw [h.1,h.2]
  | .str s,b,h=>by
    cases b with
    | str t=>simp only [V.eqb,decide_eq_true_eq] at h;rw [str_eq h]
    | _=>simp [V.eqb] at h
  | .nilp,b,h=>by cases b<;>first | rfl | (simp [V.eqb] at h)
  | .nilf,b,h=>by cases b<;>first | rfl | (simp [V.eqb] at h)
  | .nili,b,h=>by cases b<;>first | rfl | (simp [V.eqb] at h)
  | .agg x,b,h=>by cases b<;>simp [V.eqb] at h;rw [eqbL_eq x _ h]
  | .tup x,b,h=>by cases b<;>simp [V.eqb] at h;rw [eqbL_eq x _ h]
  | .sl z es o,b,h=>by cases b<;>simp [V.eqb] at h;rw [h.1.1,eqbLL_eq es _ h.1.2,h.2]
  | .ptr k i j,b,h=>by cases b<;>simp [V.eqb] at h;rw [h.1.1,h.1.2,h.2]
  | .pin es i j,b,h=>by cases b<;>simp [V.eqb] at h;rw [eqbLL_eq es _ h.1.1,h.1.2,h.2]
  | .arr k z l n,b,h=>by cases b<;>simp [V.eqb] at h;rw [h.1.1.1,h.1.1.2,h.1.2,h.2]
  | .fn f x y,b,h=>by cases b<;>simp [V.eqb] at h;rw [h.1.1,eqbL_eq x _ h.1.2,eqbL_eq y _ h.2]
  | .map k,b,h=>by cases b<;>simp [V.eqb] at h;rw [h]
  | .box x,b,h=>by cases b<;>simp [V.eqb] at h;rw [eqbL_eq x _ h]
theorem eqbL_eq:∀ (a b:List V),eqbL a b=true→a=b
  | [],b,h=>by cases b<;>first | rfl | (simp [eqbL] at h)
  | x::r,b,h=>by
    cases b with
    | nil=>simp [eqbL] at h
    | cons y q=>simp [eqbL] at h;rw [V.eqb_eq x y h.1,eqbL_eq r q h.2]
theorem eqbLL_eq:∀ (a b:List (List V)),eqbLL a b=true→a=b
  | [],b,h=>by cases b<;>first | rfl | (simp [eqbLL] at h)
  | x::r,b,h=>by
    cases b with
    | nil=>simp [eqbLL] at h
    | cons y q=>simp [eqbLL] at h;rw [eqbL_eq x y h.1,eqbLL_eq r q h.2]
end
def eqbP:List (V × V)→List (V × V)→Bool
  | [],[]=>true
  | a::r,b::q=>a.1.eqb b.1 && a.2.eqb b.2 && eqbP r q
  | _,_=>false
theorem eqbP_eq:∀ (a b:List (V × V)),eqbP a b=true→a=b
  | [],b,h=>by cases b<;>first | rfl | (simp [eqbP] at h)
  | x::r,b,h=>by
    cases b with
    | nil=>simp [eqbP] at h
    | cons y q=>simp [eqbP] at h;rw [Prod.ext (V.eqb_eq _ _ h.1.1) (V.eqb_eq _ _ h.1.2),eqbP_eq r q h.2]
def Obj.eqb:Obj→Obj→Bool
  | .cells z es,.cells z' es'=>decide (z=z') && eqbLL es es'
  | .row z es f,.row z' es' f'=>decide (z=z') && eqbLL es es' && (f == f')
  | .iter s p,.iter s' p'=>decide (s.data.toList=s'.data.toList) && decide (p=p')
  | .map a,.map b=>eqbP a b
  | _,_=>false
theorem Obj.eqb_eq:∀ (a b:Obj),a.eqb b=true→a=b
  | .cells z es,b,h=>by cases b<;>simp [Obj.eqb] at h;rw [h.1,eqbLL_eq _ _ h.2]
  | .row z es f,b,h=>by cases b<;>simp [Obj.eqb] at h;rw [h.1.1,eqbLL_eq _ _ h.1.2,h.2]
  | .iter s p,b,h=>by
    cases b with
    | iter t q=>simp only [Obj.eqb,Bool.and_eq_true,decide_eq_true_eq] at h;rw [str_eq h.1,h.2]
    | _=>simp [Obj.eqb] at h
  | .map x,b,h=>by cases b<;>simp [Obj.eqb] at h;rw [eqbP_eq _ _ h]
def eqbO:Option Obj→Option Obj→Bool
  | none,none=>true
  | some a,some b=>a.eqb b
  | _,_=>false
theorem eqbO_eq (a b:Option Obj) (h:eqbO a b=true):a=b:=by
  cases a<;>cases b<;>first | rfl | (simp [eqbO] at h;done) | skip
  simp only [eqbO] at h
  rw [Obj.eqb_eq _ _ h]
def eqbLoc:Loc→Loc→Bool
  | [],[]=>true
  | a::r,b::q=>decide (a.1=b.1) && decide (a.2.1=b.2.1) && a.2.2.eqb b.2.2 && eqbLoc r q
  | _,_=>false
theorem eqbLoc_eq:∀ (a b:Loc),eqbLoc a b=true→a=b
  | [],b,h=>by cases b<;>first | rfl | (simp [eqbLoc] at h)
  | (t,u,o)::r,b,h=>by
    cases b with
    | nil=>simp [eqbLoc] at h
    | cons y q =>
      obtain ⟨t',u',o'⟩:=y
      simp [eqbLoc] at h
      rw [h.1.1.1,h.1.1.2,Obj.eqb_eq _ _ h.1.2,eqbLoc_eq r q h.2]
def Dom (ks:List Key) (f:Frm):Prop:=∀ k,k ∉ ks→f k=none
def St.eqb (ks:List Key) (a b:St):Bool:=eqbL a.r b.r && eqbLoc a.l b.l && (a.w == b.w) && ks.all fun k=>eqbO (a.f k) (b.f k)
theorem St.eqb_eq {ks:List Key} {a b:St} (ha:Dom ks a.f) (hb:Dom ks b.f) (h:a.eqb ks b=true):a=b:=by
  simp only [St.eqb,Bool.and_eq_true,beq_iff_eq,List.all_eq_true] at h
  obtain ⟨⟨⟨h1,h2⟩,h3⟩,h4⟩:=h
  obtain ⟨r,l,f,w⟩:=a
  obtain ⟨r',l',f',w'⟩:=b
  simp only at *
  have hf:f=f':=by
    funext k
    by_cases hk:k ∈ ks
    · exact eqbO_eq _ _ (h4 k hk)
    · rw [ha k hk,hb k hk]
  rw [eqbL_eq _ _ h1,eqbLoc_eq _ _ h2,h3,hf]
def Tame (C:CallF):Prop:=∀ f d args fs v fs' w,C f d args fs=some (v,fs',w)→∀ k,fs k=none→fs' k=none
def Sub (s s1:St):Prop:=∀ k,s.f k=none→s1.f k=none
theorem Sub.refl (s:St):Sub s s:=fun _ h=>h
theorem Sub.of_f {s s1:St} (h:s1.f=s.f):Sub s s1:=fun k hk=>by rw [h];exact hk
theorem Sub.trans {s s1 s2:St} (h:Sub s s1) (k:Sub s1 s2):Sub s s2:=fun x hx=>k x (h x hx)
theorem Sub.set {d:Nat} {s:St} {k:Key} {o o':Obj} (h:s.get d k=some o):Sub s (s.set d k o'):=by
  intro x hx
  unfold St.set
  unfold St.get at h
  split
  · exact hx
  · rename_i hk
    rw [if_neg hk] at h
    simp only [upd]
    rw [if_neg]
    · exact hx
    · rintro rfl;rw [hx] at h;cases h
theorem dem_f (s:St) (a:A):(s.dem a).f=s.f:=by
  cases a with
  | t n=>simp only [St.dem];split<;>rfl
  | c v=>rfl
theorem off_f (s:St) (a:A):(s.off a).f=s.f:=by
  cases a with
  | t n=>simp only [St.off];split<;>rfl
  | c v=>rfl
theorem add_f {s s1:St} {t u:Nat} {o:Obj} (h:s.add t u o=some s1):s1.f=s.f:=by
  unfold St.add at h
  split at h
  · cases h;rfl
  · cases h
theorem demCell_sub (d:Nat) (s:St) (k:Key) (i j:Nat):Sub s (s.demCell d k i j):=by
  unfold St.demCell
  split
  · rename_i z es hg
    split
    · split
      · exact Sub.set hg
      · exact .refl _
    · exact .refl _
  · exact .refl _
theorem demN_sub (d:Nat) (k:Key) (i:Nat):∀ (n j:Nat) (s:St),Sub s (St.demN d k i n j s)
  | 0,_,s=>.refl _
  | n+1,j,s=>(demCell_sub d s k i j).trans (demN_sub d k i n (j+1) _)
theorem demAt_sub (d:Nat) (s:St) (p:V) (n:Nat):Sub s (s.demAt d p n):=by
  unfold St.demAt
  split
  · split
    · exact demN_sub _ _ _ _ _ _
    · exact .refl _
  · exact .refl _
theorem bnd_eq' {α β:Type} {x:Option α} {k:α→Option β} {b:β}:bnd x k=some b ↔ ∃ a,x=some a∧k a=some b:=by
  cases x with
  | none=>simp [bnd]
  | some a=>simp [bnd]
theorem ldV_sub {d:Nat} {s:St} {p:V} {sz:Option Nat} {q:V × St} (h:ldV d s p sz=some q):Sub s q.2:=by
  unfold ldV at h
  rw [bnd_eq'] at h
  obtain ⟨c,_,h⟩:=h
  split at h
  · split at h
    · split at h
      · cases h
      · cases h;exact demAt_sub _ _ _ _
    · cases h
  · split at h
    · cases h;exact demAt_sub _ _ _ _
    · cases h
theorem stV_sub {d:Nat} {s s1:St} {p:V} {cs:List V} (h:stV d s p cs=some s1):Sub s s1:=by
  unfold stV at h
  split at h
  · split at h
    · rename_i hg
      split at h
      · split at h
        · cases h;exact Sub.set hg
        · cases h
      · cases h
    · rename_i hg
      split at h
      · split at h
        · cases h;exact Sub.set hg
        · cases h
      · cases h
    · cases h
  · cases h
theorem partsB_f:∀ {ps:List (Nat × Nat × A)} {s:St} {cs:List V} {p:St × List V},partsB ps s cs=some p→p.1.f=s.f
  | [],s,cs,p,h=>by simp only [partsB,Option.some.injEq] at h;rw [← h]
  | (off,n,a)::r,s,cs,p,h=>by
    simp only [partsB,bnd_eq'] at h
    obtain ⟨xs,_,h⟩:=h
    split at h
    · rw [partsB_f h,dem_f]
    · cases h
theorem partsL_f {z:Nat}:∀ {ps:List (Nat × A)} {s:St} {cs:List (List V)} {p:St × List (List V)},partsL z ps s cs=some p→p.1.f=s.f
  | [],s,cs,p,h=>by simp only [partsL,Option.some.injEq] at h;rw [← h]
  | (n,a)::r,s,cs,p,h=>by
    simp only [partsL,bnd_eq'] at h
    obtain ⟨xs,_,h⟩:=h
    split at h
    · rw [partsL_f h,dem_f]
    · cases h
theorem arg1_sub {d:Nat} {raw:Bool} {a:A} {s:St} {q:V × St} (h:arg1 d raw a s=some q):Sub s q.2:=by
  unfold arg1 at h
  split at h
  · split at h
    · cases h;exact .refl _
    · split at h
      · rename_i hg
        split at h
        · cases h;exact Sub.set hg
        · cases h
      · cases h
  · cases h;exact .of_f (dem_f _ _)
theorem argL_sub {d:Nat} {raw:Bool}:∀ {xs:List A} {s:St} {q:List V × St},argL d raw xs s=some q→Sub s q.2
  | [],s,q,h=>by simp only [argL,Option.some.injEq] at h;rw [← h];exact .refl _
  | a::r,s,q,h=>by
    simp only [argL] at h
    split at h
    · rename_i v s1 h1
      simp only [Option.map_eq_some_iff] at h
      obtain ⟨p,hp,rfl⟩:=h
      exact Sub.trans (s1:=s1) (arg1_sub h1) (argL_sub (q:=p) hp)
    · cases h
theorem recv1_f {d t j:Nat} {ob:Bool} {v:V} {s:St} {q:V × St} (h:recv1 d t j ob v s=some q):q.2.f=s.f:=by
  unfold recv1 at h
  split at h
  · split at h
    · simp only [Option.map_eq_some_iff] at h
      obtain ⟨s1,h1,rfl⟩:=h
      exact add_f h1
    · cases h;rfl
  · simp only [Option.map_eq_some_iff] at h
    obtain ⟨s1,h1,rfl⟩:=h
    exact add_f h1
  · cases h;rfl
theorem recvL_f {d t:Nat} {ob:Bool}:∀ {cs:List V} {j:Nat} {s:St} {q:List V × St},recvL d t ob j cs s=some q→q.2.f=s.f
  | [],j,s,q,h=>by simp only [recvL,Option.some.injEq] at h;rw [← h]
  | v::r,j,s,q,h=>by
    simp only [recvL] at h
    split at h
    · rename_i v' s1 h1
      simp only [Option.map_eq_some_iff] at h
      obtain ⟨p,hp,rfl⟩:=h
      exact (recvL_f (q:=p) hp).trans (recv1_f h1)
    · cases h
theorem recv_f {d t:Nat} {ob:Bool} {v:V} {s:St} {q:V × St} (h:recv d t ob v s=some q):q.2.f=s.f:=by
  unfold recv at h
  split at h
  · split at h
    · exact recv1_f h
    · cases h;rfl
  · simp only [Option.map_eq_some_iff] at h
    obtain ⟨p,hp,rfl⟩:=h
    exact recvL_f (q:=p) hp
  · simp only [Option.map_eq_some_iff] at h
    obtain ⟨p,hp,rfl⟩:=h
    exact recvL_f (q:=p) hp
  · exact recv1_f h
theorem took_f {d:Nat} {t:Option Nat} {ob:Bool} {v:V} {s s1:St} (h:took d t ob v s=some s1):s1.f=s.f:=by
  unfold took at h
  split at h
  · cases h;rfl
  · simp only [Option.map_eq_some_iff] at h
    obtain ⟨p,hp,rfl⟩:=h
    exact recv_f hp
theorem after_sub {d:Nat} {s:St} {g:Frm} {w:Bool} (h:∀ k,merge d s.l s.f k=none→g k=none):Sub s (after d s g w):=by
  intro k hk
  unfold after
  split
  · simp only [unmerge]
    split
    · exact hk
    · rename_i hd
      refine h k ?_
      simp only [merge]
      rw [if_neg hd]
      exact hk
  · exact hk
theorem nameCell_sub {d t j:Nat} {s s1:St} {k:Key} {i c:Nat} (h:s.nameCell d t j k i c=some s1):Sub s s1:=by
  unfold St.nameCell at h
  split at h
  · rename_i hg
    split at h
    · split at h
      · split at h
        · rename_i hu
          simp only [Option.map_eq_some_iff] at h
          obtain ⟨p,hp,rfl⟩:=h
          have h1:Sub s p.2:=(Sub.set hg).trans (.of_f (recv1_f hp))
          intro x hx
          unfold St.set
          split
          · exact h1 x hx
          · rename_i hk
            simp only [upd]
            rw [if_neg]
            · exact h1 x hx
            · rintro rfl
              unfold St.get at hg
              rw [if_neg hk,hx] at hg
              cases hg
        · cases h;exact .refl _
      · cases h
    · cases h
  · cases h
theorem nameN_sub {d t:Nat} {k:Key} {i off:Nat}:∀ (n j:Nat) {s s1:St},nameN d t k i off n j s=some s1→Sub s s1
  | 0,j,s,s1,h=>by simp only [nameN,Option.some.injEq] at h;rw [h];exact .refl _
  | n+1,j,s,s1,h=>by
    simp only [nameN,bnd_eq'] at h
    obtain ⟨s2,h1,h2⟩:=h
    exact (nameCell_sub h1).trans (nameN_sub n (j+1) h2)
theorem step_sub {C:CallF} (hC:Tame C) {d:Nat}:∀ (o:O) {s s1:St},step C d o s=some s1→Sub s s1:=by
  intro o
  induction o with
  | ob t o ih =>
    intro s s1 h
    simp only [step] at h
    split at h
    · rename_i s2 h2
      simp only [Option.map_eq_some_iff] at h
      obtain ⟨p,hp,rfl⟩:=h
      exact (ih h2).trans (.of_f (recv1_f hp))
    · cases h
  | g t want u o ih =>
    intro s s1 h
    simp only [step] at h
    split at h
    · split at h
      · exact ih h
      · cases h;exact .refl _
    · cases h;exact .refl _
    · cases h
  | call t raw ob fv xs =>
    intro s s1 h
    simp only [step] at h
    split at h
    · simp only [bnd_eq'] at h
      obtain ⟨q,h1,p,h2,h3⟩:=h
      exact ((argL_sub h1).trans (after_sub fun k hk=>hC _ _ _ _ p.1 p.2.1 p.2.2 h2 k hk)).trans (.of_f (took_f h3))
    · cases h
  | callp t fv xs =>
    intro s s1 h
    simp only [step] at h
    split at h
    · simp only [bnd_eq'] at h
      obtain ⟨q,h1,p,h2,h3⟩:=h
      split at h3
      · cases h3
      · simp only [bnd_eq'] at h3
        obtain ⟨v,_,h3⟩:=h3
        cases h3;exact .refl _
    · cases h
  | ld t sz a =>
    intro s s1 h
    simp only [step,bnd_eq'] at h
    obtain ⟨q,h1,h2⟩:=h
    cases h2
    exact Sub.trans (ldV_sub h1) (.of_f rfl)
  | ldp t sz a =>
    intro s s1 h
    simp only [step,bnd_eq'] at h
    obtain ⟨q,h1,h2⟩:=h
    cases h2;exact .of_f rfl
  | lds t a =>
    intro s s1 h
    simp only [step] at h
    split at h
    · split at h
      · rename_i hg
        split at h
        · split at h
          · split at h
            · cases h;exact Sub.set hg
            · cases h;exact .of_f rfl
          · cases h
        · cases h
      · cases h
    · cases h
  | ldo t n a =>
    intro s s1 h
    simp only [step] at h
    split at h
    · split at h
      · simp only [bnd_eq'] at h
        obtain ⟨s2,h2,c,_,h3⟩:=h
        split at h3
        · cases h3;exact (nameN_sub _ _ h2).trans (.of_f rfl)
        · cases h3
      · cases h
    · cases h
  | st sz a b =>
    intro s s1 h
    simp only [step] at h
    split at h
    · split at h
      · exact Sub.trans (.of_f (off_f _ _)) (stV_sub h)
      · cases h
    · split at h
      · split at h
        · exact stV_sub h
        · cases h
      · cases h
  | nxt t u =>
    intro s s1 h
    simp only [step] at h
    split at h
    · split at h
      · rename_i hg
        split at h
        · cases h;exact Sub.set hg
        · cases h;exact .of_f rfl
      · cases h
    · cases h
  | cpy t z a b =>
    intro s s1 h
    simp only [step] at h
    split at h
    · split at h
      · rename_i hg
        split at h
        · cases h;exact Sub.set hg
        · cases h
      · cases h
    · cases h
  | mset ks m k v =>
    intro s s1 h
    simp only [step] at h
    split at h
    · split at h
      · rename_i hg
        split at h
        · simp only [Option.map_eq_some_iff] at h
          obtain ⟨e,_,rfl⟩:=h
          exact Sub.set hg
        · cases h
      · cases h
    · cases h
  | build t zero ps =>
    intro s s1 h
    simp only [step,Option.map_eq_some_iff] at h
    obtain ⟨p,hp,rfl⟩:=h
    exact .of_f (partsB_f hp)
  | lit t z n zero ps =>
    intro s s1 h
    simp only [step] at h
    split at h
    · split at h
      · rename_i hp
        split at h
        · cases h;exact .of_f (partsL_f hp)
        · cases h
      · cases h
    · cases h
  | lito t z n zero ps =>
    intro s s1 h
    simp only [step] at h
    split at h
    · split at h
      · rename_i hp
        simp only [Option.map_eq_some_iff] at h
        obtain ⟨s2,h2,rfl⟩:=h
        exact .of_f ((add_f h2).trans (partsL_f hp))
      · cases h
    · cases h
  | box t a =>
    intro s s1 h
    simp only [step,bnd_eq',Option.map_eq_some_iff] at h
    obtain ⟨cs,_,s2,h2,rfl⟩:=h
    exact .of_f ((add_f h2).trans (dem_f _ _))
  | new t zero =>
    intro s s1 h
    simp only [step,Option.map_eq_some_iff] at h
    obtain ⟨s2,h2,rfl⟩:=h
    exact Sub.trans (s1:=s2) (.of_f (add_f h2)) (.of_f rfl)
  | mkm t =>
    intro s s1 h
    simp only [step,Option.map_eq_some_iff] at h
    obtain ⟨s2,h2,rfl⟩:=h
    exact Sub.trans (s1:=s2) (.of_f (add_f h2)) (.of_f rfl)
  | rng t x =>
    intro s s1 h
    simp only [step] at h
    split at h
    · simp only [Option.map_eq_some_iff] at h
      obtain ⟨s2,h2,rfl⟩:=h
      exact Sub.trans (s1:=s2) (.of_f (add_f h2)) (.of_f rfl)
    · cases h
  | kill ts =>
    intro s s1 h
    simp only [step,Option.some.injEq] at h
    subst h
    have:∀ (ts:List Nat) (s:St),(killS ts s).f=s.f:=by
      intro ts
      induction ts with
      | nil=>intro s;rfl
      | cons t r ih=>intro s;simp only [killS];rw [ih];rfl
    exact .of_f (this ts s)
  | clone t z a =>
    intro s s1 h
    simp only [step,bnd_eq'] at h
    obtain ⟨xs,_,h⟩:=h
    split at h
    · cases h;exact .of_f rfl
    · cases h
  | _ =>
    intro s s1 h
    simp only [step] at h
    repeat' split at h
    all_goals first
      | (cases h;done)
      | (cases h;exact .refl _)
      | (cases h;exact .of_f (dem_f _ _))
      | (cases h;exact .of_f (off_f _ _))
      | (simp only [Option.map_eq_some_iff] at h;obtain ⟨v,hv,rfl⟩:=h;exact .of_f rfl)
      | (simp only [Option.map_eq_some_iff] at h;obtain ⟨v,hv,rfl⟩:=h;exact .of_f (dem_f _ _))
      | (simp only [Option.map_eq_some_iff] at h;obtain ⟨v,hv,rfl⟩:=h;exact .of_f ((dem_f _ _).trans (off_f _ _)))
      | (simp only [Option.map_eq_some_iff] at h;obtain ⟨v,hv,rfl⟩:=h;simp only [Option.map_eq_some_iff] at hv;obtain ⟨q,_,rfl⟩:=hv;exact .of_f rfl)
theorem runS_sub {C:CallF} (hC:Tame C) {d:Nat}:∀ (l:List O) {s s1:St},runS C d l s=some s1→Sub s s1
  | [],s,s1,h=>by simp only [runS,Option.some.injEq] at h;rw [h];exact .refl _
  | o::r,s,s1,h=>by
    simp only [runS,bnd_eq'] at h
    obtain ⟨s2,h1,h2⟩:=h
    exact (step_sub hC o h1).trans (runS_sub hC r h2)
theorem dropK {k:Key} {s s1:St} {d:Nat} {s0:St} (h:clean d s0 s=some s1):s1.f k=s.f k:=by
  unfold clean at h
  split at h
  · cases h;rfl
  · cases h
theorem loopN_sub {d:Nat} {F:Run} (hF:∀ s e s1,F s=some (e,s1)→Sub s s1):∀ (n:Nat) {s s1:St} {e:Ex},loopN n d F s=some (e,s1)→Sub s s1
  | 0,s,s1,e,h=>by simp only [loopN] at h;cases h
  | n+1,s,s1,e,h=>by
    simp only [loopN] at h
    split at h
    · rename_i s2 h2
      split at h
      · rename_i s3 h3
        exact ((hF _ _ _ h2).trans (fun k hk=>by rw [dropK h3];exact hk)).trans (loopN_sub hF n h)
      · cases h
    · rename_i j s2 h2
      simp only [Option.map_eq_some_iff,Prod.mk.injEq] at h
      obtain ⟨s3,h3,rfl,rfl⟩:=h
      exact (hF _ _ _ h2).trans (fun k hk=>by rw [dropK h3];exact hk)
    · exact hF _ _ _ h
theorem E_sub {K:CallF} (hC:Tame K) {d n:Nat}:∀ (c:C) {s s1:St} {e:Ex},E ⟨K,loopN n⟩ d c s=some (e,s1)→Sub s s1:=by
  intro c
  induction c with
  | skip=>intro s s1 e h;simp only [E,Option.some.injEq,Prod.mk.injEq] at h;rw [h.2];exact .refl _
  | ret=>intro s s1 e h;simp only [E,Option.some.injEq,Prod.mk.injEq] at h;rw [h.2];exact .refl _
  | exit id=>intro s s1 e h;simp only [E,Option.some.injEq,Prod.mk.injEq] at h;rw [h.2];exact .refl _
  | bad=>intro s s1 e h;simp only [E] at h;cases h
  | reg ops =>
    intro s s1 e h
    simp only [E,bnd_eq',Option.some.injEq,Prod.mk.injEq] at h
    obtain ⟨s2,h1,_,rfl⟩:=h
    exact runS_sub hC ops h1
  | drw a b =>
    intro s s1 e h
    simp only [E,bnd_eq'] at h
    obtain ⟨s2,h1,h2⟩:=h
    split at h2
    · cases h2;exact runS_sub hC a h1
    · cases h2
  | seq a b iha ihb =>
    intro s s1 e h
    simp only [E] at h
    cases hx:E ⟨K,loopN n⟩ d a s with
    | none=>rw [hx] at h;cases h
    | some p =>
      obtain ⟨e1,s2⟩:=p
      rw [hx] at h
      cases e1 with
      | normal=>exact (iha hx).trans (ihb h)
      | exit j=>simp only [bndE,Option.some.injEq,Prod.mk.injEq] at h;rw [← h.2];exact iha hx
      | ret=>simp only [bndE,Option.some.injEq,Prod.mk.injEq] at h;rw [← h.2];exact iha hx
  | cond c a b iha ihb =>
    intro s s1 e h
    simp only [E] at h
    split at h
    · rename_i t _
      cases t
      · exact ihb h
      · exact iha h
    · cases h
  | block id a ih =>
    intro s s1 e h
    simp only [E] at h
    cases hx:E ⟨K,loopN n⟩ d a s with
    | none=>rw [hx] at h;cases h
    | some p =>
      obtain ⟨e1,s2⟩:=p
      rw [hx] at h
      have h2:=ih hx
      cases e1 with
      | normal=>simp only [leave,Option.some.injEq,Prod.mk.injEq] at h;rw [← h.2];exact h2
      | ret=>simp only [leave,Option.some.injEq,Prod.mk.injEq] at h;rw [← h.2];exact h2
      | exit j=>simp only [leave] at h;split at h<;>(simp only [Option.some.injEq,Prod.mk.injEq] at h;rw [← h.2];exact h2)
  | loop a ih =>
    intro s s1 e h
    simp only [E] at h
    exact loopN_sub (fun s e s1 h=>ih h) n h
  | scope a ih=>intro s s1 e h;simp only [E] at h;exact ih h
theorem resF_set {d:Nat} {s:St} {k:Key} {z lo n:Nat} {es:List (List V)} (h:resF d s k z lo n=some es) (o:Obj):Sub s (s.set d k o):=by
  unfold resF at h
  split at h
  · rename_i hg;exact Sub.set hg
  · cases h
theorem resV_sub {d:Nat} {own:Bool} {s:St} {v:V} {p:V × St} (h:resV d own s v=some p):Sub s p.2:=by
  unfold resV at h
  split at h
  · split at h
    · rename_i hf
      cases h
      cases own with
      | true=>exact resF_set hf _
      | false=>cases hf
    · split at h
      · rename_i hg
        split at h
        · cases h;exact Sub.set hg
        · cases h
      · cases h
  · split at h
    · split at h
      · split at h
        · rename_i hg
          split at h
          · cases h;exact Sub.set hg
          · cases h
        · cases h
      · cases h
    · cases h;exact .refl _
  · split at h
    · cases h
    · cases h;exact .refl _
  · split at h
    · cases h;exact .refl _
    · cases h
theorem resL_sub {d:Nat} {own:Bool}:∀ {cs:List V} {s:St} {p:List V × St},resL d own cs s=some p→Sub s p.2
  | [],s,p,h=>by simp only [resL,Option.some.injEq] at h;rw [← h];exact .refl _
  | v::r,s,p,h=>by
    simp only [resL] at h
    split at h
    · rename_i v' s1 h1
      simp only [Option.map_eq_some_iff] at h
      obtain ⟨q,hq,rfl⟩:=h
      exact Sub.trans (s1:=s1) (resV_sub h1) (resL_sub (p:=q) hq)
    · cases h
theorem resG_sub {d:Nat} {one:Bool} {cs:List V} {s:St} {p:V × St} (h:resG d one cs s=some p):Sub s p.2:=by
  unfold resG at h
  split at h
  · rename_i q hq
    split at h
    · cases h;exact resL_sub hq
    · cases h
  · cases h
theorem resW_sub {d:Nat} {one:Bool} {s:St} {v:V} {p:V × St} (h:resW d one s v=some p):Sub s p.2:=by
  unfold resW at h
  split at h
  · exact resG_sub h
  · exact resV_sub h
theorem res1_sub {d:Nat} {one:Bool} {s:St} {x:Rs} {p:V × St} (h:res1 d one s x=some p):Sub s p.2:=by
  unfold res1 at h
  split at h
  · split at h
    · cases h;exact .of_f rfl
    · exact resV_sub h
    · exact resW_sub h
  · split at h
    · split at h
      · rename_i hg
        split at h
        · split at h
          · split at h
            · cases h;exact Sub.set hg
            · exact resW_sub h
          · cases h
        · cases h
      · cases h
    · cases h
  · split at h
    · split at h
      · exact Sub.trans (demAt_sub _ _ _ _) (resG_sub h)
      · cases h
    · cases h
theorem resA_sub {d:Nat}:∀ {rs:List Rs} {s:St} {p:List V × St},resA d rs s=some p→Sub s p.2
  | [],s,p,h=>by simp only [resA,Option.some.injEq] at h;rw [← h];exact .refl _
  | v::r,s,p,h=>by
    simp only [resA] at h
    split at h
    · rename_i v' s1 h1
      simp only [Option.map_eq_some_iff] at h
      obtain ⟨q,hq,rfl⟩:=h
      exact Sub.trans (s1:=s1) (res1_sub h1) (resA_sub (p:=q) hq)
    · cases h
theorem fin_sub {d:Nat} {rs:List Rs} {s:St} {p:V × Frm × Bool} (h:fin d rs s=some p):∀ k,s.f k=none→p.2.1 k=none:=by
  unfold fin at h
  split at h
  · simp only [Option.map_eq_some_iff] at h
    obtain ⟨q,hq,rfl⟩:=h
    exact res1_sub hq
  · simp only [Option.map_eq_some_iff] at h
    obtain ⟨q,hq,rfl⟩:=h
    exact resA_sub hq
theorem low_tame {C:CallF} (h:Tame C):Tame (low C):=by
  intro f d args fs v fs' w e k hk
  unfold low at e
  split at e
  · simp only [Option.map_eq_some_iff,Prod.mk.injEq] at e
    obtain ⟨p,_,_,rfl,_⟩:=e
    exact hk
  · exact h _ _ _ _ _ _ _ e k hk
theorem DN_tame (P:Nat→Option Fun):∀ n,Tame (DN P n)
  | 0=>fun f d args fs v fs' w h=>by simp only [DN] at h;cases h
  | n+1=>fun f d args fs v fs' w h k hk=>by
    simp only [DN] at h
    split at h
    · unfold runF at h
      split at h
      · simp only [bnd_eq'] at h
        obtain ⟨⟨e,s1⟩,h1,h2⟩:=h
        have h3:=E_sub (low_tame (DN_tame P n)) _ h1
        cases e with
        | normal=>exact fin_sub h2 k (h3 k hk)
        | ret=>exact fin_sub h2 k (h3 k hk)
        | exit j=>cases h2
      · cases h
    · cases h
abbrev CallK:=Nat→Nat→List V→Frm→List Key→Option (V × Frm × Bool)
abbrev Orc:=List (Nat × List V × V)
def look:Orc→Nat→List V→Option V
  | [],_,_=>none
  | (g,ys,v)::r,f,xs=>if (Nat.beq f g && eqbL xs ys)=true then some v else look r f xs
def lowK (T:Orc) (K:CallK) (ks:List Key):CallF:=fun f d args fs=>if (keysL args).isEmpty then (match look T f args with
    | some v=>some (v,fs,false)
    | none=>(K f 0 args (fun _=>none) []).map fun p=>(p.1,fs,false)) else K f d args fs ks
def lkeys (d:Nat):Loc→List Key
  | []=>[]
  | (t,u,_)::r=>(d,t,u)::lkeys d r
noncomputable def runK (T:Orc) (K:CallK) (d:Nat) (ks:List Key):List O→St→Option St
  | [],s=>some s
  | o::r,s=>bnd (stepF (lowK T K (lkeys d s.l++ks)) d o s) (runK T K d ks r)
noncomputable def EK (T:Orc) (K:CallK) (n d:Nat) (ks:List Key):C→Run
  | .skip,s=>some (.normal,s)
  | .reg ops,s=>bnd (runK T K d ks ops s) fun s1=>some (.normal,s1)
  | .drw a b,s=>bnd (runK T K d ks a s) fun s1=>bnd (runK T K d ks b s) fun s2=>if s1.eqb ks s2 then some (.normal,s1) else none
  | .seq a b,s=>bndE (EK T K n d ks a s) (EK T K n d ks b)
  | .cond c a b,s=>match c.evF s.r with
    | .bool t=>bif t then EK T K n d ks a s else EK T K n d ks b s
    | _=>none
  | .block id a,s=>leave id (EK T K n d ks a s)
  | .loop a,s=>loopNF n d (EK T K n d ks a) s
  | .exit id,s=>some (.exit id,s)
  | .scope a,s=>EK T K n d ks a s
  | .ret,s=>some (.ret,s)
  | .bad,_=>none
noncomputable def DK (P:Nat→Option Fun) (T:Orc):Nat→CallK
  | 0=>fun _ _ _ _ _=>none
  | n+1=>fun f d args fs ks=>match P f with
    | some F=>if args.length≤F.nt then
        bnd (EK T (DK P T n) n d ks F.body ⟨args++List.replicate (F.nt - args.length) .dead,[],fs,false⟩) fun p=>match p.1 with
        | .normal=>fin d F.res p.2
        | .ret=>fin d F.res p.2
        | _=>none
      else none
    | none=>none
theorem alook_lkeys {d t u:Nat}:∀ {l:Loc},(d,t,u) ∉ lkeys d l→alook l t u=none
  | [],_=>rfl
  | (a,b,o)::r,h=>by
    simp only [lkeys,List.mem_cons,not_or] at h
    simp only [alook]
    rw [if_neg]
    · exact alook_lkeys h.2
    · rintro ⟨rfl,rfl⟩;exact h.1 rfl
theorem alook_aset_none {t u a b:Nat} {o:Obj}:∀ {l:Loc},alook l a b=none→alook (aset l t u o) a b=none
  | [],_=>rfl
  | (x,y,p)::r,h=>by
    simp only [alook] at h
    split at h
    · cases h
    · rename_i hne
      simp only [aset]
      split
      · rename_i he
        simp only [alook]
        rw [if_neg hne]
        exact h
      · simp only [alook]
        rw [if_neg hne]
        exact alook_aset_none h
theorem arg1_l {d:Nat} {raw:Bool} {a:A} {s:St} {q:V × St} (h:arg1 d raw a s=some q) {t u:Nat} (hn:alook s.l t u=none):alook q.2.l t u=none:=by
  unfold arg1 at h
  split at h
  · split at h
    · cases h;exact hn
    · split at h
      · split at h
        · cases h
          simp only [St.set]
          split
          · exact alook_aset_none hn
          · exact hn
        · cases h
      · cases h
  · cases h
    cases a with
    | c v=>exact hn
    | t n=>simp only [St.dem];split<;>exact hn
theorem argL_l {d:Nat} {raw:Bool}:∀ {xs:List A} {s:St} {q:List V × St},argL d raw xs s=some q→∀ {t u:Nat},alook s.l t u=none→alook q.2.l t u=none
  | [],s,q,h,_,_,hn=>by simp only [argL,Option.some.injEq] at h;rw [← h];exact hn
  | a::r,s,q,h,_,_,hn=>by
    simp only [argL] at h
    split at h
    · rename_i v s1 h1
      simp only [Option.map_eq_some_iff] at h
      obtain ⟨p,hp,rfl⟩:=h
      exact argL_l (q:=p) hp (arg1_l h1 hn)
    · cases h
theorem Dom.merge {d:Nat} {ks:List Key} {l:Loc} {f:Frm} (h:Dom ks f) {l':Loc} {f':Frm} (hl:∀ t u,alook l t u=none→alook l' t u=none) (hf:∀ k,f k=none→f' k=none):Dom (lkeys d l++ks) (Den.merge d l' f'):=by
  intro k hk
  simp only [List.mem_append,not_or] at hk
  simp only [Den.merge]
  split
  · rename_i e
    refine hl _ _ (alook_lkeys (d:=d) ?_)
    rw [show (d,k.2.1,k.2.2)=k by rw [← e]]
    exact hk.1
  · exact hf k (h k hk.2)
def LeD (ks:List Key) (c c':CallF):Prop:=∀ f d args fs,Dom ks fs→LeO (c f d args fs) (c' f d args fs)
theorem step_leD {c c':CallF} {d:Nat} {ks:List Key}:∀ (o:O) {s:St},LeD (lkeys d s.l++ks) c c'→Dom ks s.f→LeO (step c d o s) (step c' d o s):=by
  intro o
  induction o with
  | call t raw ob fv xs =>
    intro s h hd r e
    simp only [step] at e ⊢
    split at e
    · simp only [bnd_eq'] at e ⊢
      obtain ⟨q,h1,p,h2,h3⟩:=e
      exact ⟨q,h1,p,h _ _ _ _ (hd.merge (fun t u hn=>argL_l h1 hn) (argL_sub h1)) p h2,h3⟩
    · cases e
  | callp t fv xs =>
    intro s h hd r e
    simp only [step] at e ⊢
    split at e
    · simp only [bnd_eq'] at e ⊢
      obtain ⟨q,h1,p,h2,h3⟩:=e
      exact ⟨q,h1,p,h _ _ _ _ (hd.merge (fun t u hn=>hn) (fun k hk=>hk)) p h2,h3⟩
    · cases e
  | ob t o ih =>
    intro s h hd r e
    simp only [step] at e ⊢
    cases hx:step c d o s with
    | none=>rw [hx] at e;cases e
    | some s1=>rw [hx] at e;rw [ih h hd s1 hx];exact e
  | g t want u o ih =>
    intro s h hd
    simp only [step]
    split
    · split
      · exact ih h hd
      · exact LeO.refl _
    · exact LeO.refl _
    · exact LeO.refl _
  | _=>intro s h hd;exact LeO.refl _
def OkT (T:Orc) (K:CallF):Prop:=∀ f args v,look T f args=some v→∃ fs' w,K f 0 args (fun _=>none)=some (v,fs',w)
def LeK (K:CallK) (K':CallF):Prop:=∀ f d args fs ks,Dom ks fs→LeO (K f d args fs ks) (K' f d args fs)
theorem runK_le {T:Orc} {K:CallK} {K':CallF} {d:Nat} {ks:List Key} (hT:Tame K') (hO:OkT T K') (ih:LeK K K'):∀ (l:List O) {s:St},Dom ks s.f→LeO (runK T K d ks l s) (runS (low K') d l s)
  | [],s,_=>LeO.refl _
  | o::r,s,hd=>by
    intro q e
    simp only [runK,runS,bnd_eq',stepF_eq] at e ⊢
    obtain ⟨s1,h1,h2⟩:=e
    have h3:=step_leD (c':=low K') o (fun f d args fs hdom q e=>by
      unfold lowK at e
      unfold low
      split at e
      · rename_i hk
        rw [if_pos hk]
        split at e
        · rename_i v hv
          obtain ⟨fs',w,hw⟩:=hO _ _ _ hv
          rw [hw]
          exact e
        · simp only [Option.map_eq_some_iff] at e ⊢
          obtain ⟨p,hp,rfl⟩:=e
          exact ⟨p,ih _ _ _ _ _ (fun _ _=>rfl) p hp,rfl⟩
      · rename_i hk
        rw [if_neg hk]
        exact ih _ _ _ _ _ hdom q e) hd s1 h1
    exact ⟨s1,h3,runK_le hT hO ih r (fun k hk=>step_sub (low_tame hT) o h3 k (hd k hk)) q h2⟩
theorem EK_le {T:Orc} {K:CallK} {K':CallF} {n d:Nat} {ks:List Key} (hT:Tame K') (hO:OkT T K') (ih:LeK K K'):∀ (c:C) {s:St},Dom ks s.f→LeO (EK T K n d ks c s) (E ⟨low K',loopN n⟩ d c s):=by
  have hL:=low_tame hT
  intro c
  induction c with
  | reg ops =>
    intro s hd q e
    simp only [EK,E,bnd_eq'] at e ⊢
    obtain ⟨s1,h1,h2⟩:=e
    exact ⟨s1,runK_le hT hO ih ops hd s1 h1,h2⟩
  | drw a b =>
    intro s hd q e
    simp only [EK,E,bnd_eq'] at e ⊢
    obtain ⟨s1,h1,s2,h2,h3⟩:=e
    split at h3
    · rename_i hb
      have k1:=runK_le hT hO ih a hd s1 h1
      have k2:=runK_le hT hO ih b hd s2 h2
      have:=St.eqb_eq (fun k hk=>runS_sub hL a k1 k (hd k hk)) (fun k hk=>runS_sub hL b k2 k (hd k hk)) hb
      subst this
      exact ⟨s1,k1,by rw [if_pos k2];exact h3⟩
    · cases h3
  | seq a b iha ihb =>
    intro s hd q e
    simp only [EK,E] at e ⊢
    cases hx:EK T K n d ks a s with
    | none=>rw [hx] at e;cases e
    | some p =>
      obtain ⟨e1,s2⟩:=p
      have hy:=iha hd _ hx
      rw [hx] at e
      rw [hy]
      cases e1 with
      | normal=>exact ihb (fun k hk=>E_sub hL a hy k (hd k hk)) q e
      | exit j=>exact e
      | ret=>exact e
  | cond c a b iha ihb =>
    intro s hd
    simp only [EK,E,evF_eq]
    cases c.ev s.r with
    | bool t =>
      cases t
      · exact ihb hd
      · exact iha hd
    | _=>exact LeO.refl _
  | block id a iha =>
    intro s hd q e
    simp only [EK,E] at e ⊢
    cases hx:EK T K n d ks a s with
    | none=>rw [hx] at e;cases e
    | some p=>rw [iha hd _ hx];rw [hx] at e;exact e
  | loop a iha =>
    intro s hd
    simp only [EK,E,loopNF_eq]
    have key:∀ (k:Nat) {s:St},Dom ks s.f→LeO (loopN k d (EK T K n d ks a) s) (loopN k d (E ⟨low K',loopN n⟩ d a) s):=by
      intro k
      induction k with
      | zero=>intro s hd;exact LeO.none _
      | succ k ihk =>
        intro s hd r e
        simp only [loopN] at e ⊢
        cases hx:EK T K n d ks a s with
        | none=>rw [hx] at e;cases e
        | some p =>
          obtain ⟨x,s1⟩:=p
          have hy:=iha hd _ hx
          rw [hx] at e
          rw [hy]
          cases x with
          | normal =>
            simp only at e ⊢
            cases hc:clean d s s1 with
            | none=>rw [hc] at e;cases e
            | some s2 =>
              rw [hc] at e
              exact ihk (fun k hk=>by rw [dropK hc];exact E_sub hL a hy k (hd k hk)) r e
          | exit j=>exact e
          | ret=>exact e
    exact key n hd
  | scope a ih=>intro s hd;simp only [EK,E];exact ih hd
  | _=>intro s hd;exact LeO.refl _
theorem D_tame (P:Nat→Option Fun):Tame (D P):=fun f d args fs v fs' w h k hk=>by
  obtain ⟨n,hn⟩:=of_lim (x:=fun n=>DN P n f d args fs) h
  exact DN_tame P n f d args fs v fs' w hn k hk
theorem DK_le (P:Nat→Option Fun) {T:Orc} (hO:OkT T (D P)):∀ (n:Nat),LeK (DK P T n) (D P)
  | 0,_,_,_,_,_,_=>LeO.none _
  | n+1,f,d,args,fs,ks,hd=>by
    intro r e
    simp only [DK] at e
    cases hP:P f with
    | none=>rw [hP] at e;cases e
    | some F =>
      rw [hP] at e
      simp only at e
      refine D_of P hP ?_
      unfold runF
      split at e
      · rename_i hl
        rw [if_pos hl]
        simp only [bnd_eq'] at e ⊢
        obtain ⟨p,h1,h2⟩:=e
        refine ⟨p,?_,h2⟩
        have h3:=EK_le (n:=n) (D_tame P) hO (DK_le P hO n) _ hd p h1
        exact E_le (S:=⟨low (D P),loopN n⟩) (S':=SI P) ⟨fun _ _ _ _=>LeO.refl _,fun d F F' s hF=>(loopN_le n n d F F' s (Nat.le_refl _) hF).trans (loopN_L n d F' s)⟩ d _ _ p h3
      · cases e
def Val (P:Nat→Option Fun) (f:Nat) (args:List V) (v:V):Prop:=∃ fs' w,D P f 0 args (fun _=>none)=some (v,fs',w)
theorem val_of {P:Nat→Option Fun} {T:Orc} (hO:OkT T (D P)) (n:Nat) {f:Nat} {args:List V} {v:V} (h:(DK P T n f 0 args (fun _=>none) []).map (·.1)=some v):Val P f args v:=by
  simp only [Option.map_eq_some_iff] at h
  obtain ⟨⟨u,fs',w⟩,h1,rfl⟩:=h
  exact ⟨fs',w,DK_le P hO n f 0 args _ [] (fun _ _=>rfl) _ h1⟩
theorem okT_nil {K:CallF}:OkT [] K:=fun _ _ _ h=>by cases h
theorem okT_cons {P:Nat→Option Fun} {T:Orc} {g:Nat} {ys:List V} {u:V} (h:Val P g ys u) (hO:OkT T (D P)):OkT ((g,ys,u)::T) (D P):=by
  intro f args v hv
  simp only [look] at hv
  split at hv
  · rename_i hc
    simp only [Bool.and_eq_true] at hc
    obtain ⟨h1,h2⟩:=hc
    have e1:f=g:=Nat.eq_of_beq_eq_true h1
    have e2:=eqbL_eq _ _ h2
    subst e1 e2
    cases hv
    exact h
  · exact hO f args v hv
end Go.Den
