import Derived.Test.YtblkhnacgnlbdaaGreatDoorProg
set_option linter.all false
namespace Go.Den
inductive Own where
  | sh | tight | uniq
  deriving DecidableEq
abbrev Key:=Nat × Nat × Nat
inductive V where
  | dead
  | bool (b:Bool)
  | int (k:IntKind) (n:Int)
  | str (s:ByteArray)
  | nilp
  | nilf
  | nili
  | agg (cs:List V)
  | tup (cs:List V)
  | sl (z:Nat) (es:List (List V)) (o:Own)
  | ptr (k:Key) (i off:Nat)
  | pin (es:List (List V)) (i off:Nat)
  | arr (k:Key) (z lo n:Nat)
  | fn (f:Nat) (first caps:List V)
  | map (k:Key)
  | box (c:List V)
  deriving Inhabited
inductive Obj where
  | cells (z:Nat) (es:List (List V))
  | row (z:Nat) (es:List (List V)) (frozen:Bool)
  | iter (s:ByteArray) (pos:Nat)
  | map (es:List (V × V))
inductive A where
  | t (n:Nat)
  | c (v:V)
inductive Ar where
  | add | sub | mul | quo | rem | and | or | xor | andNot | shl | shr | eql | neq | lss | leq | gtr | geq
inductive Tg where
  | int (k:IntKind)
  | bool
  | str
inductive O where
  | mv (d s:Nat)
  | mvs (d s:Nat)
  | mvp (d s:Nat)
  | cst (d:Nat) (v:V)
  | pick (d:Nat) (c a b:A)
  | new (d:Nat) (zero:List V)
  | box (d:Nat) (v:A)
  | build (d:Nat) (zero:List V) (ps:List (Nat × Nat × A))
  | lit (d sz n:Nat) (zero:List V) (ps:List (Nat × A))
  | lito (d sz n:Nat) (zero:List V) (ps:List (Nat × A))
  | ld (d:Nat) (sz:Option Nat) (a:A)
  | lds (d:Nat) (a:A)
  | ldo (d n:Nat) (a:A)
  | ldp (d:Nat) (sz:Option Nat) (a:A)
  | st (sz:Option Nat) (a v:A)
  | chk (d s:Nat)
  | bin (d:Nat) (op:Ar) (a b:A)
  | eqs (d:Nat) (ts:List Tg) (eq:Bool) (a b:A)
  | beq (d:Nat) (eq:Bool) (a b:A)
  | isn (d:Nat) (eq iface:Bool) (a:A)
  | not (d:Nat) (a:A)
  | neg (d:Nat) (a:A)
  | cvt (d:Nat) (k:IntKind) (a:A)
  | s2b (d:Nat) (a:A)
  | b2s (d:Nat) (a:A)
  | mkf (d f:Nat) (first caps:List A)
  | mks (d:Nat) (zero:List V) (len cap:A)
  | slc (d z:Nat) (str:Bool) (x:A) (lo hi mx:Option A)
  | fa (d s off:Nat)
  | fld (d:Nat) (s:A) (off:Nat) (sz:Option Nat)
  | ia (d sz:Nat) (x i:A)
  | iap (d n sz:Nat) (x i:A)
  | ixs (d:Nat) (x i:A)
  | ixa (d n sz:Nat) (agg:Bool) (x i:A)
  | rng (d:Nat) (x:A)
  | nxt (d s:Nat)
  | ext (d s i:Nat)
  | len (d:Nat) (a:A)
  | lens (d:Nat) (a:A)
  | app (d z:Nat) (a b:A)
  | cpy (d z:Nat) (a b:A)
  | mnx (d:Nat) (mx:Bool) (a:A) (l:List A)
  | call (d:Option Nat) (raw ob:Bool) (f:A) (args:List A)
  | callp (d:Nat) (f:A) (args:List A)
  | clone (d z:Nat) (a:A)
  | grow (d z:Nat) (n:A)
  | xcs (d:Nat) (a b:A)
  | xib (d:Nat) (a b:A)
  | mkm (d:Nat)
  | mset (ks:Tg) (m k v:A)
  | mget (d:Nat) (ok:Bool) (ks:Tg) (zero:V) (m k:A)
  | ob (d:Nat) (o:O)
  | kill (ts:List Nat)
  | g (t:Nat) (want:Bool) (d:Nat) (o:O)
  | bad
inductive C where
  | skip
  | reg (ops:List O)
  | drw (a b:List O)
  | seq (a b:C)
  | cond (c:A) (a b:C)
  | block (id:Nat) (a:C)
  | loop (a:C)
  | exit (id:Nat)
  | scope (a:C)
  | ret
  | bad
inductive Rs where
  | t (n:Nat)
  | cell (a:Nat) (sz:Option Nat)
structure Fun where
  nt:Nat
  res:List Rs
  body:C
abbrev Frm:=Key→Option Obj
abbrev Loc:=List (Nat × Nat × Obj)
structure St where
  r:List V
  l:Loc
  f:Frm
  w:Bool
inductive Ex where
  | normal | exit (id:Nat) | ret
def rget:List V→Nat→V
  | [],_=>.dead
  | v::_,0=>v
  | _::r,n+1=>rget r n
def rset:List V→Nat→V→List V
  | [],_,_=>[]
  | _::r,0,v=>v::r
  | a::r,n+1,v=>a::rset r n v
def A.ev (r:List V):A→V
  | .t n=>rget r n
  | .c v=>v
mutual
def V.keys:V→List Key
  | .agg cs=>keysL cs
  | .tup cs=>keysL cs
  | .ptr k _ _=>[k]
  | .arr k _ _ _=>[k]
  | .map k=>[k]
  | .fn _ a b=>keysL a++keysL b
  | .box cs=>keysL cs
  | _=>[]
def keysL:List V→List Key
  | []=>[]
  | v::r=>v.keys++keysL r
end
def keysLL:List (List V)→List Key
  | []=>[]
  | v::r=>keysL v++keysLL r
def Obj.keys:Obj→List Key
  | .cells _ es=>keysLL es
  | _=>[]
def V.pure:V→Bool
  | .bool _ | .int _ _ | .str _ | .sl _ _ .sh=>true
  | _=>false
def V.one:V→Bool
  | .dead | .agg _ | .tup _ | .box _=>false
  | _=>true
def V.flat:V→Option (List V)
  | .agg cs=>if cs.all V.one then some cs else none
  | v=>if v.one then some [v] else none
def V.sh:V→V
  | .sl z es _=>.sl z es .sh
  | v=>v
def V.uq:V→Bool
  | .sl _ _ .uniq=>true
  | _=>false
def alook:Loc→Nat→Nat→Option Obj
  | [],_,_=>none
  | (t,u,o)::r,a,b=>if t=a∧u=b then some o else alook r a b
def aset:Loc→Nat→Nat→Obj→Loc
  | [],_,_,_=>[]
  | (t,u,o)::r,a,b,p=>if t=a∧u=b then (t,u,p)::r else (t,u,o)::aset r a b p
def ains:Loc→Nat→Nat→Obj→Loc
  | [],a,b,p=>[(a,b,p)]
  | (t,u,o)::r,a,b,p=>if a < t∨(a=t∧b < u) then (a,b,p)::(t,u,o)::r else (t,u,o)::ains r a b p
def upd (f:Frm) (k:Key) (o:Obj):Frm:=fun x=>if x=k then some o else f x
def merge (d:Nat) (l:Loc) (f:Frm):Frm:=fun k=>if k.1=d then alook l k.2.1 k.2.2 else f k
def unmerge (d:Nat) (g f:Frm):Frm:=fun k=>if k.1=d then f k else g k
def relook (d:Nat) (g:Frm):Loc→Loc
  | []=>[]
  | (t,u,o)::r=>(t,u,(g (d,t,u)).getD o)::relook d g r
def St.put (s:St) (d:Nat) (v:V):St:={ s with r:=rset s.r d v }
def St.get (d:Nat) (s:St) (k:Key):Option Obj:=if k.1=d then alook s.l k.2.1 k.2.2 else s.f k
def St.set (d:Nat) (s:St) (k:Key) (o:Obj):St:=
  if k.1=d then { s with l:=aset s.l k.2.1 k.2.2 o } else { s with f:=upd s.f k o,w:=true }
def St.add (s:St) (t u:Nat) (o:Obj):Option St:=
  match alook s.l t u with
  | none=>some { s with l:=ains s.l t u o }
  | some _=>none
def St.dem (s:St):A→St
  | .t n=>match rget s.r n with
    | .sl z es .uniq=>s.put n (.sl z es .sh)
    | _=>s
  | .c _=>s
def St.off (s:St):A→St
  | .t n=>match rget s.r n with
    | .sl _ _ .uniq=>s.put n .dead
    | _=>s
  | .c _=>s
def splice:List V→Nat→List V→List V
  | cs,_,[]=>cs
  | cs,off,v::r=>splice (rset cs off v) (off+1) r
def grab (cs:List V) (off n:Nat):List V:=(cs.drop off).take n
def St.at (d:Nat) (s:St):V→Option (List V)
  | .ptr k i off=>match s.get d k with
    | some (.cells _ es)=>(es[i]?).map (·.drop off)
    | some (.row _ es _)=>(es[i]?).map (·.drop off)
    | _=>none
  | .pin es i off=>(es[i]?).map (·.drop off)
  | _=>none
def hasUq (cs:List V):Bool:=cs.any (·.uq)
def St.demCell (d:Nat) (s:St) (k:Key) (i j:Nat):St:=
  match s.get d k with
  | some (.cells z es)=>match es[i]? with
    | some e=>match e[j]? with
      | some (.sl z' es' .uniq)=>s.set d k (.cells z (es.set i (e.set j (.sl z' es' .sh))))
      | _=>s
    | none=>s
  | _=>s
def St.demN (d:Nat) (k:Key) (i:Nat):Nat→Nat→St→St
  | 0,_,s=>s
  | n+1,j,s=>St.demN d k i n (j+1) (s.demCell d k i j)
def St.uqAt (d:Nat) (s:St) (k:Key) (i off n:Nat):Bool:=
  match s.get d k with
  | some (.cells _ es)=>hasUq (grab ((es[i]?).getD []) off n)
  | _=>false
def St.demAt (d:Nat) (s:St) (p:V) (n:Nat):St:=
  match p with
  | .ptr k i off=>if s.uqAt d k i off n then St.demN d k i n off s else s
  | _=>s
def i64 (n:Int):V:=.int .i64 n
def str8 (s:ByteArray):List (List V):=s.data.toList.map fun b=>[.int .u8 b.toNat]
def vbytes:List (List V)→Option (List UInt8)
  | []=>some []
  | [.int .u8 n]::r=>(vbytes r).map (UInt8.ofNat n.toNat::·)
  | _=>none
def arI (k:IntKind) (a b:Int):Ar→Option V
  | .add=>some (.int k (k.wrap (a+b)))
  | .sub=>some (.int k (k.wrap (a - b)))
  | .mul=>some (.int k (k.wrap (a*b)))
  | .quo=>if b=0 then none else some (.int k (k.wrap (a.tdiv b)))
  | .rem=>if b=0 then none else some (.int k (a.tmod b))
  | .and=>some (.int k (k.wrap (BitVec.ofInt k.bits a &&& BitVec.ofInt k.bits b).toNat))
  | .or=>some (.int k (k.wrap (BitVec.ofInt k.bits a ||| BitVec.ofInt k.bits b).toNat))
  | .xor=>some (.int k (k.wrap (BitVec.ofInt k.bits a ^^^ BitVec.ofInt k.bits b).toNat))
  | .andNot=>some (.int k (k.wrap (BitVec.ofInt k.bits a &&& ~~~ BitVec.ofInt k.bits b).toNat))
  | .eql=>some (.bool (a == b))
  | .neq=>some (.bool (a != b))
  | .lss=>some (.bool (decide (a < b)))
  | .leq=>some (.bool (decide (a≤b)))
  | .gtr=>some (.bool (decide (a > b)))
  | .geq=>some (.bool (decide (a ≥ b)))
  | .shl=>none
  | .shr=>none
def arS (k:IntKind) (a b:Int):Ar→Option V
  | .shl=>if b < 0 then none else some (.int k (k.wrap (a*2 ^ min b.toNat k.bits)))
  | .shr=>if b < 0 then none else some (.int k (a.fdiv (2 ^ min b.toNat k.bits)))
  | _=>none
def binV:Ar→V→V→Option V
  | .shl,.int k a,.int _ b=>arS k a b .shl
  | .shr,.int k a,.int _ b=>arS k a b .shr
  | op,.int k a,.int k' b=>if k=k' then arI k a b op else none
  | .eql,.str a,.str b=>some (.bool (a.toList == b.toList))
  | .neq,.str a,.str b=>some (.bool (a.toList != b.toList))
  | .add,.str a,.str b=>if a.size+b.size≤4611686018427387904 then some (.str (a++b)) else none
  | _,_,_=>none
def keyEq:V→V→Option Bool
  | .int k a,.int k' b=>if k=k' then some (a == b) else none
  | .str a,.str b=>some (a == b)
  | _,_=>none
def bnd {α β:Type} (x:Option α) (k:α→Option β):Option β:=
  match x with
  | some a=>k a
  | none=>none
theorem bnd_some {α β:Type} (a:α) (k:α→Option β):bnd (some a) k=k a:=rfl
@[congr] theorem bnd_congr {α β:Type} {x y:Option α} (k:α→Option β) (h:x=y):bnd x k=bnd y k:=by rw [h]
def bndE (x:Option (Ex × St)) (k:St→Option (Ex × St)):Option (Ex × St):=
  match x with
  | some (.normal,s)=>k s
  | some (e,s)=>some (e,s)
  | none=>none
theorem bndE_normal (s:St) (k:St→Option (Ex × St)):bndE (some (.normal,s)) k=k s:=rfl
theorem bndE_ret (s:St) (k:St→Option (Ex × St)):bndE (some (.ret,s)) k=some (.ret,s):=rfl
theorem bndE_exit (s:St) (j:Nat) (k:St→Option (Ex × St)):bndE (some (.exit j,s)) k=some (.exit j,s):=rfl
@[congr] theorem bndE_congr {x y:Option (Ex × St)} (k:St→Option (Ex × St)) (h:x=y):bndE x k=bndE y k:=by rw [h]
def eqL:List Tg→List V→List V→Option Bool
  | [],[],[]=>some true
  | .int q::ts,.int k a::r,.int k' b::l=>if k=q∧k'=q then bnd (eqL ts r l) fun t=>some ((a == b) && t) else none
  | .bool::ts,.bool a::r,.bool b::l=>bnd (eqL ts r l) fun t=>some ((a == b) && t)
  | .str::ts,.str a::r,.str b::l=>bnd (eqL ts r l) fun t=>some ((a == b) && t)
  | _,_,_=>none
end Go.Den
namespace Go.Den
abbrev CallF:=Nat→Nat→List V→Frm→Option (V × Frm × Bool)
abbrev Run:=St→Option (Ex × St)
structure Sm where
  call:CallF
  loop:Nat→Run→St→Option (Ex × St)
def most:Nat:=16777216
def V.still:V→Bool
  | .dead | .sl _ _ .uniq=>false
  | _=>true
def V.calm:V→Bool
  | .arr _ _ _ _ | .sl _ _ .uniq=>false
  | _=>true
def V.isBox:V→Bool
  | .box _=>true
  | _=>false
def ldV (d:Nat) (s:St) (p:V) (sz:Option Nat):Option (V × St):=
  bnd ((s.demAt d p (sz.getD 1)).at d p) fun c=>match sz with
    | none=>match c with
      | v::_=>if v.uq then none else some (v.sh,s.demAt d p (sz.getD 1))
      | []=>none
    | some n=>if n≤c.length∧hasUq (c.take n)=false then some (.agg ((c.take n).map V.sh),s.demAt d p (sz.getD 1)) else none
def ldP (d:Nat) (s:St) (p:V) (sz:Option Nat):Option V:=
  bnd (s.at d p) fun c=>match sz with
    | none=>match c with
      | v::_=>if v.still then some v.sh else none
      | []=>none
    | some n=>if n≤c.length∧(c.take n).all V.still=true then some (.agg ((c.take n).map V.sh)) else none
def stV (d:Nat) (s:St) (p:V) (cs:List V):Option St:=
  match p with
  | .ptr k i off=>match s.get d k with
    | some (.cells z es)=>match es[i]? with
      | some e=>if off+cs.length≤e.length∧(keysL cs).all (fun x=>decide (x.1≤k.1))=true then some (s.set d k (.cells z (es.set i (splice e off cs)))) else none
      | none=>none
    | some (.row z es false)=>match es[i]? with
      | some e=>if off+cs.length≤e.length∧cs.all V.pure=true then some (s.set d k (.row z (es.set i (splice e off cs)) false)) else none
      | none=>none
    | _=>none
  | _=>none
def partsB:List (Nat × Nat × A)→St→List V→Option (St × List V)
  | [],s,cs=>some (s,cs)
  | (off,n,a)::r,s,cs=>bnd (a.ev s.r).sh.flat fun xs =>
    if xs.length=n∧off+n≤cs.length then partsB r (s.dem a) (splice cs off xs) else none
def partsL (z:Nat):List (Nat × A)→St→List (List V)→Option (St × List (List V))
  | [],s,es=>some (s,es)
  | (i,a)::r,s,es=>bnd (a.ev s.r).sh.flat fun xs =>
    if xs.length=z∧i < es.length then partsL z r (s.dem a) (es.set i xs) else none
def srcV (d:Nat) (s:St) (z:Nat):V→Option (List (List V))
  | .sl z' es _=>if z'=z∨es.isEmpty=true then some es else none
  | .str b=>if z=1 then some (str8 b) else none
  | .arr k z2 lo n=>match s.get d k with
    | some (.row z' es _)=>if z'=z∧z2=z∧lo+n≤es.length then some ((es.drop lo).take n) else none
    | _=>none
  | _=>none
def srcN (d:Nat) (s:St) (z:Nat) (v:V):Option (List (List V)):=
  match v with
  | .str _=>none
  | v=>srcV d s z v
def srcB (d:Nat) (s:St) (v:V):Option (List (List V)):=
  match v with
  | .str _=>none
  | v=>srcV d s 1 v
def tq (es:List (List V)):Own:=if es.isEmpty then .tight else .uniq
def appV (z:Nat) (b:V) (xs:List (List V)):Option V:=
  match b with
  | .sl z' es .uniq=>if z'=z∧es.length+xs.length≤most then some (.sl z (es++xs) .uniq) else none
  | .sl z' es .tight=>if (z'=z∨es.isEmpty=true)∧es.length+xs.length≤most then some (.sl z (es++xs) (tq xs)) else none
  | _=>none
def bndV:Option V→Nat→Option Nat
  | none,n=>some n
  | some (.int .i64 i),_=>if 0≤i then some i.toNat else none
  | _,_=>none
def slcV (z:Nat) (str:Bool) (x:V) (lo hi mx:Option V):Option V:=
  match str,x with
  | true,.str b=>match bndV lo 0,bndV hi b.size,mx with
    | some l,some h,none=>if l≤h∧h≤b.size then some (.str (b.extract l h)) else none
    | _,_,_=>none
  | false,.sl z' es _=>if z'=z∨es.isEmpty=true then match bndV lo 0,bndV hi es.length,mx with
      | some l,some h,none=>if l≤h∧h≤es.length then some (.sl z ((es.take h).drop l) .sh) else none
      | some l,some h,some m=>if l≤h∧h≤es.length∧bndV (some m) 0=some h∧hi.isSome=true then some (.sl z ((es.take h).drop l) .tight) else none
      | _,_,_=>none
    else none
  | false,.arr k z' a n=>if z'=z then match bndV lo 0,bndV hi n,mx with
      | some l,some h,none=>if l≤h∧h≤n then some (.arr k z (a+l) (h - l)) else none
      | _,_,_=>none
    else none
  | _,_=>none
def V.isKey:Tg→V→Bool
  | .str,.str _=>true
  | .int q,.int k _=>decide (k=q)
  | _,_=>false
def mset (k v:V):List (V × V)→Option (List (V × V))
  | []=>some [(k,v)]
  | (a,b)::r=>bnd (keyEq k a) fun t=>bif t then some ((k,v)::r) else bnd (mset k v r) fun l=>some ((a,b)::l)
def mget (k:V):List (V × V)→Option (Option V)
  | []=>some none
  | (a,b)::r=>bnd (keyEq k a) fun t=>bif t then some (some b) else mget k r
def recv1 (d t j:Nat) (ob:Bool) (v:V) (s:St):Option (V × St):=
  match v with
  | .sl z es o=>if ob && (o == .uniq || es.isEmpty) then (s.add t j (.row z es false)).map (.arr (d,t,j) z 0 es.length,·) else some (.sl z es .sh,s)
  | .box cs=>(s.add t j (.cells cs.length [cs])).map (.ptr (d,t,j) 0 0,·)
  | v=>some (v,s)
def recvL (d t:Nat) (ob:Bool):Nat→List V→St→Option (List V × St)
  | _,[],s=>some ([],s)
  | j,v::r,s=>match recv1 d t j ob v s with
    | some (v',s1)=>(recvL d t ob (j+1) r s1).map fun p=>(v'::p.1,p.2)
    | none=>none
def recv (d t:Nat) (ob:Bool) (v:V) (s:St):Option (V × St):=
  match v with
  | .sl z es .uniq=>if ob then recv1 d t 0 true (.sl z es .uniq) s else some (.sl z es .uniq,s)
  | .agg cs=>(recvL d t ob 0 cs s).map fun p=>(.agg p.1,p.2)
  | .tup cs=>(recvL d t ob 0 cs s).map fun p=>(.tup p.1,p.2)
  | v=>recv1 d t 0 ob v s
def arg1 (d:Nat) (raw:Bool) (a:A) (s:St):Option (V × St):=
  match a.ev s.r with
  | .arr k z2 lo n=>if raw then some (.arr k z2 lo n,s) else
    match s.get d k with
    | some (.row z es _)=>if z2=z∧lo+n≤es.length then some (.sl z ((es.drop lo).take n) .sh,s.set d k (.row z es true)) else none
    | _=>none
  | v=>some (v.sh,s.dem a)
def argL (d:Nat) (raw:Bool):List A→St→Option (List V × St)
  | [],s=>some ([],s)
  | a::r,s=>match arg1 d raw a s with
    | some (v,s1)=>(argL d raw r s1).map fun p=>(v::p.1,p.2)
    | none=>none
def argP:List A→List V→Option (List V)
  | [],_=>some []
  | a::q,r=>if (a.ev r).calm then bnd (argP q r) fun l=>some (a.ev r::l) else none
def recvP (v:V):Option V:=
  match v with
  | .agg cs=>if cs.any V.isBox then none else some (.agg (cs.map V.sh))
  | .tup cs=>if cs.any V.isBox then none else some (.tup (cs.map V.sh))
  | .box _=>none
  | .sl z es .uniq=>some (.sl z es .uniq)
  | v=>some v.sh
def after (d:Nat) (s:St) (g:Frm) (w:Bool):St:=
  if w then { r:=s.r,l:=relook d g s.l,f:=unmerge d g s.f,w:=true } else s
def took (d:Nat) (t:Option Nat) (ob:Bool) (v:V) (s:St):Option St:=
  match t with
  | none=>some s
  | some t=>(recv d t ob v s).map fun p=>p.2.put t p.1
def mnxV (mx:Bool) (k:IntKind):List V→Int→Option Int
  | [],x=>some x
  | .int k' y::r,x=>if k=k' then mnxV mx k r (if mx then (if x < y then y else x) else (if y < x then y else x)) else none
  | _,_=>none
def ixByte (s:ByteArray) (c:UInt8):Int:=
  match (List.range s.size).find? fun i=>s[i]! == c with
  | some i=>(i:Nat)
  | none=>-1
def csByte (s:ByteArray) (c:UInt8):Int:=s.foldl (fun (n:Int) x=>if x == c then n+1 else n) 0
def St.nameCell (d t j:Nat) (s:St) (k:Key) (i c:Nat):Option St:=
  match s.get d k with
  | some (.cells z es)=>match es[i]? with
    | some e=>match e[c]? with
      | some v=>if v.uq then (recv1 d t j true v (s.set d k (.cells z (es.set i (e.set c .dead))))).map fun p=>p.2.set d k (.cells z (es.set i (e.set c p.1))) else some s
      | none=>none
    | none=>none
  | _=>none
def nameN (d t:Nat) (k:Key) (i off:Nat):Nat→Nat→St→Option St
  | 0,_,s=>some s
  | n+1,j,s=>bnd (s.nameCell d t j k i (off+j)) (nameN d t k i off n (j+1))
def killS:List Nat→St→St
  | [],s=>s
  | t::r,s=>killS r (s.put t .dead)
def step (call:CallF) (d:Nat):O→St→Option St
  | .mv t u,s=>some ((s.dem (.t u)).put t (rget s.r u).sh)
  | .mvs t u,s=>some ((s.off (.t u)).put t (rget s.r u))
  | .mvp t u,s=>if (rget s.r u).uq then none else some (s.put t (rget s.r u))
  | .cst t v,s=>some (s.put t v)
  | .pick t c a b,s=>match c.ev s.r with
    | .bool x=>match (bif x then a.ev s.r else b.ev s.r) with
      | .bool y=>some (s.put t (.bool y))
      | _=>none
    | _=>none
  | .new t zero,s=>(s.add t 0 (.cells zero.length [zero])).map (·.put t (.ptr (d,t,0) 0 0))
  | .box t a,s=>bnd (a.ev s.r).sh.flat fun cs=>((s.dem a).add t 0 (.cells cs.length [cs])).map (·.put t (.ptr (d,t,0) 0 0))
  | .build t zero ps,s=>(partsB ps s zero).map fun p=>p.1.put t (.agg p.2)
  | .lit t z n zero ps,s=>if zero.length=z then match partsL z ps s (List.replicate n zero) with
      | some (s1,es)=>if es.all (·.all V.pure) then some (s1.put t (.sl z es .uniq)) else none
      | none=>none
    else none
  | .lito t z n zero ps,s=>if zero.length=z then match partsL z ps s (List.replicate n zero) with
      | some (s1,es)=>(s1.add t 0 (.cells z es)).map (·.put t (.arr (d,t,0) z 0 n))
      | none=>none
    else none
  | .ld t sz a,s=>bnd (ldV d s (a.ev s.r) sz) fun p=>some (p.2.put t p.1)
  | .ldp t sz a,s=>bnd (ldP d s (a.ev s.r) sz) fun v=>some (s.put t v)
  | .lds t a,s=>match a.ev s.r with
    | .ptr k i off=>match s.get d k with
      | some (.cells z es)=>match es[i]? with
        | some e=>match e[off]? with
          | some v=>if v.uq then some ((s.set d k (.cells z (es.set i (e.set off .dead)))).put t v) else some (s.put t v)
          | none=>none
        | none=>none
      | _=>none
    | _=>none
  | .ldo t n a,s=>match a.ev s.r with
    | .ptr k i off=>if k.1=d then bnd (nameN d t k i off n 0 s) fun s1=>bnd (s1.at d (.ptr k i off)) fun c=>if n≤c.length∧hasUq (c.take n)=false then some (s1.put t (.agg ((c.take n).map V.sh))) else none
      else none
    | _=>none
  | .st sz a b,s=>match sz with
    | none=>if (b.ev s.r).one then stV d (s.off b) (a.ev s.r) [b.ev s.r] else none
    | some n=>match b.ev s.r with
      | .agg cs=>if cs.length=n∧cs.all V.one=true then stV d s (a.ev s.r) cs else none
      | _=>none
  | .chk t u,s=>match rget s.r u with
    | .ptr k i off=>some (s.put t (.ptr k i off))
    | .pin es i off=>some (s.put t (.pin es i off))
    | .fn f a b=>some (s.put t (.fn f a b))
    | _=>none
  | .bin t op a b,s=>(binV op (a.ev s.r) (b.ev s.r)).map (s.put t)
  | .eqs t ts eq a b,s=>match a.ev s.r,b.ev s.r with
    | .agg x,.agg y=>(eqL ts x y).map fun r=>s.put t (.bool (bif eq then r else !r))
    | _,_=>none
  | .beq t eq a b,s=>match a.ev s.r,b.ev s.r with
    | .bool x,.bool y=>some (s.put t (.bool (bif eq then x == y else x != y)))
    | _,_=>none
  | .isn t eq iface a,s=>match iface,a.ev s.r with
    | false,.ptr _ _ _=>some (s.put t (.bool !eq))
    | false,.nilp=>some (s.put t (.bool eq))
    | true,.nili=>some (s.put t (.bool eq))
    | _,_=>none
  | .not t a,s=>match a.ev s.r with
    | .bool b=>some (s.put t (.bool !b))
    | _=>none
  | .neg t a,s=>match a.ev s.r with
    | .int k n=>some (s.put t (.int k (k.wrap (0 - n))))
    | _=>none
  | .cvt t k a,s=>match a.ev s.r with
    | .int _ n=>some (s.put t (.int k (k.wrap n)))
    | _=>none
  | .s2b t a,s=>match a.ev s.r with
    | .str b=>if b.size≤most then some (s.put t (.sl 1 (str8 b) .uniq)) else none
    | _=>none
  | .b2s t a,s=>match srcB d s (a.ev s.r) with
    | some es=>(vbytes es).map fun l=>s.put t (.str ⟨l.toArray⟩)
    | none=>none
  | .mkf t f first caps,s=>if (first.all fun y=>!(y.ev s.r).uq) && (caps.all fun y=>!(y.ev s.r).uq) then some (s.put t (.fn f (first.map (·.ev s.r)) (caps.map (·.ev s.r)))) else none
  | .mks t zero n c,s=>match n.ev s.r,c.ev s.r with
    | .int .i64 n,.int .i64 c=>if 0≤n∧n≤c∧c≤16777216∧zero.all V.pure=true then some (s.put t (.sl zero.length (List.replicate n.toNat zero) .uniq)) else none
    | _,_=>none
  | .slc t z str x lo hi mx,s=>(slcV z str (x.ev s.r) (lo.map (·.ev s.r)) (hi.map (·.ev s.r)) (mx.map (·.ev s.r))).map ((s.dem x).put t)
  | .fa t u o,s=>match rget s.r u with
    | .ptr k i off=>some (s.put t (.ptr k i (off+o)))
    | .pin es i off=>some (s.put t (.pin es i (off+o)))
    | _=>none
  | .fld t u o sz,s=>match u.ev s.r with
    | .agg cs=>match sz with
      | none=>(cs[o]?).map (s.put t)
      | some n=>if o+n≤cs.length then some (s.put t (.agg (grab cs o n))) else none
    | _=>none
  | .ia t z x i,s=>match x.ev s.r,i.ev s.r with
    | .sl z' es _,.int _ n=>if z'=z∧0≤n∧n < es.length then some ((s.dem x).put t (.pin es n.toNat 0)) else none
    | .arr k z2 lo m,.int _ n=>match s.get d k with
      | some (.row z' es _)=>if z'=z∧z2=z∧0≤n∧n < m∧lo+m≤es.length then some (s.put t (.ptr k (lo+n.toNat) 0)) else none
      | some (.cells z' es)=>if z'=z∧z2=z∧0≤n∧n < m∧lo+m≤es.length then some (s.put t (.ptr k (lo+n.toNat) 0)) else none
      | _=>none
    | _,_=>none
  | .iap t m z x i,s=>match x.ev s.r,i.ev s.r with
    | .ptr k j off,.int _ n=>if 0≤n∧n < m then some (s.put t (.ptr k j (off+n.toNat*z))) else none
    | .pin es j off,.int _ n=>if 0≤n∧n < m then some (s.put t (.pin es j (off+n.toNat*z))) else none
    | _,_=>none
  | .ixs t x i,s=>match x.ev s.r,i.ev s.r with
    | .str b,.int _ n=>if 0≤n∧n < b.size then some (s.put t (.int .u8 (b.get! n.toNat).toNat)) else none
    | _,_=>none
  | .ixa t m z agg x i,s=>match x.ev s.r,i.ev s.r with
    | .agg cs,.int _ n=>if 0≤n∧n < m then (if agg then (if n.toNat*z+z≤cs.length then some (s.put t (.agg (grab cs (n.toNat*z) z))) else none) else (cs[n.toNat*z]?).map (s.put t)) else none
    | _,_=>none
  | .rng t x,s=>match x.ev s.r with
    | .str b=>(s.add t 0 (.iter b 0)).map (·.put t (.ptr (d,t,0) 0 0))
    | _=>none
  | .nxt t u,s=>match rget s.r u with
    | .ptr k 0 0=>match s.get d k with
      | some (.iter b p)=>if p < b.size then some ((s.set d k (.iter b (p+(Utf8.decode b p).2))).put t (.tup [.bool true,.int .i64 p,.int .i32 (Utf8.decode b p).1])) else some (s.put t (.tup [.bool false]))
      | _=>none
    | _=>none
  | .ext t u i,s=>match rget s.r u with
    | .tup vs=>(vs[i]?).map (s.put t)
    | _=>none
  | .lens t a,s=>match a.ev s.r with
    | .str b=>some (s.put t (.int .i64 b.size))
    | _=>none
  | .len t a,s=>match a.ev s.r with
    | .sl _ es _=>some (s.put t (.int .i64 es.length))
    | .arr _ _ _ n=>some (s.put t (.int .i64 n))
    | _=>none
  | .app t z a b,s=>match srcV d s z (b.ev s.r) with
    | some xs=>(appV z (a.ev s.r) xs).map ((s.off a).dem b |>.put t)
    | none=>none
  | .cpy t z a b,s=>match a.ev s.r,srcV d s z (b.ev s.r) with
    | .arr k z2 lo n,some xs=>match s.get d k with
      | some (.row z' es false)=>if z'=z∧z2=z∧lo+n≤es.length then some ((s.set d k (.row z (es.take lo++xs.take n++es.drop (lo+min xs.length n)) false)).put t (.int .i64 (min xs.length n:Nat))) else none
      | _=>none
    | _,_=>none
  | .mnx t mx a l,s=>match a.ev s.r with
    | .int k x=>(mnxV mx k (l.map (·.ev s.r)) x).map fun n=>s.put t (.int k n)
    | _=>none
  | .call t raw ob fv xs,s=>match fv.ev s.r with
    | .fn f first caps=>bnd (argL d raw xs s) fun q=>bnd (call f (d+1) (first++q.1++caps) (merge d q.2.l q.2.f)) fun p =>
        took d t ob p.1 (after d q.2 p.2.1 p.2.2)
    | _=>none
  | .callp t fv xs,s=>match fv.ev s.r with
    | .fn f first caps=>bnd (argP xs s.r) fun vs=>bnd (call f (d+1) (first++vs++caps) (merge d s.l s.f)) fun p =>
        if p.2.2 then none else bnd (recvP p.1) fun v=>some (s.put t v)
    | _=>none
  | .clone t z a,s=>bnd (srcN d s z (a.ev s.r)) fun xs=>if xs.length≤most then some (s.put t (.sl z xs (tq xs))) else none
  | .grow t z n,s=>match n.ev s.r with
    | .int .i64 n=>if 0≤n∧n≤16777216 then some (s.put t (.sl z [] .uniq)) else none
    | _=>none
  | .xcs t a b,s=>match a.ev s.r,b.ev s.r with
    | .str x,.int .u8 c=>some (s.put t (.int .i64 (csByte x (UInt8.ofNat c.toNat))))
    | _,_=>none
  | .xib t a b,s=>match a.ev s.r,b.ev s.r with
    | .str x,.int .u8 c=>some (s.put t (.int .i64 (ixByte x (UInt8.ofNat c.toNat))))
    | _,_=>none
  | .mkm t,s=>(s.add t 0 (.map [])).map (·.put t (.map (d,t,0)))
  | .mset ks m k v,s=>match m.ev s.r with
    | .map x=>match s.get d x with
      | some (.map es)=>if x.1=d∧V.isKey ks (k.ev s.r)=true∧(v.ev s.r).keys=[]∧(v.ev s.r).uq=false then (mset (k.ev s.r) (v.ev s.r) es).map fun e=>s.set d x (.map e) else none
      | _=>none
    | _=>none
  | .mget t ok ks zero m k,s=>match m.ev s.r with
    | .map x=>match s.get d x with
      | some (.map es)=>match V.isKey ks (k.ev s.r),mget (k.ev s.r) es with
        | true,some (some v)=>some (s.put t (if ok then .tup [v,.bool true] else v))
        | true,some none=>some (s.put t (if ok then .tup [zero,.bool false] else zero))
        | _,_=>none
      | _=>none
    | _=>none
  | .ob t o,s=>match step call d o s with
    | some s1=>(recv1 d t 0 true (rget s1.r t) s1).map fun p=>p.2.put t p.1
    | none=>none
  | .kill ts,s=>some (killS ts s)
  | .g t want u o,s=>match rget s.r t with
    | .bool b=>if b=want then step call d o s else some (s.put u (.tup []))
    | .tup []=>some (s.put u (.tup []))
    | _=>none
  | .bad,_=>none
def runS (call:CallF) (d:Nat):List O→St→Option St
  | [],s=>some s
  | o::r,s=>bnd (step call d o s) (runS call d r)
def leave (id:Nat) (x:Option (Ex × St)):Option (Ex × St):=
  match x with
  | some (.exit j,s)=>if j=id then some (.normal,s) else some (.exit j,s)
  | x=>x
open Classical in
noncomputable def E (S:Sm) (d:Nat):C→Run
  | .skip,s=>some (.normal,s)
  | .reg ops,s=>bnd (runS S.call d ops s) fun s1=>some (.normal,s1)
  | .drw a b,s=>bnd (runS S.call d a s) fun s1=>if runS S.call d b s=some s1 then some (.normal,s1) else none
  | .seq a b,s=>bndE (E S d a s) (E S d b)
  | .cond c a b,s=>match c.ev s.r with
    | .bool t=>bif t then E S d a s else E S d b s
    | _=>none
  | .block id a,s=>leave id (E S d a s)
  | .loop a,s=>S.loop d (E S d a) s
  | .exit id,s=>some (.exit id,s)
  | .scope a,s=>E S d a s
  | .ret,s=>some (.ret,s)
  | .bad,_=>none
def mask:List V→List V→List V
  | .dead::r,_::q=>.dead::mask r q
  | _::r,v::q=>v::mask r q
  | [],q=>q
  | _::_,[]=>[]
def has (l:Loc) (t u:Nat):Bool:=l.any fun x=>x.1 == t && x.2.1 == u
def gone (d:Nat) (l:Loc) (k:Key):Bool:=k.1 == d && !has l k.2.1 k.2.2
def clean (d:Nat) (s0 s1:St):Option St:=
  if (keysL (mask s0.r s1.r)).any (gone d s0.l)=false∧(s1.l.filter fun x=>has s0.l x.1 x.2.1).all (fun x=>!(x.2.2.keys.any (gone d s0.l)))=true
  then some { r:=mask s0.r s1.r,l:=s1.l.filter (fun x=>has s0.l x.1 x.2.1),f:=s1.f,w:=s1.w } else none
def loopN:Nat→Nat→Run→St→Option (Ex × St)
  | 0,_,_,_=>none
  | n+1,d,F,s=>match F s with
    | some (.normal,s1)=>match clean d s s1 with
      | some s2=>loopN n d F s2
      | none=>none
    | some (.exit j,s1)=>(clean d s s1).map (.exit j,·)
    | x=>x
def resF (d:Nat) (s:St) (k:Key) (z lo n:Nat):Option (List (List V)):=
  match s.get d k with
  | some (.row z' es false)=>if k.1=d∧z'=z∧lo=0∧0 < n∧n≤es.length then some es else none
  | _=>none
def resV (d:Nat) (own:Bool) (s:St) (v:V):Option (V × St):=
  match v with
  | .arr k z2 lo n=>match (if own then resF d s k z2 lo n else none) with
    | some es=>some (.sl z2 (es.take n) .uniq,s.set d k (.row z2 [] true))
    | none=>match s.get d k with
      | some (.row z es _)=>if k.1=d∧z2=z∧lo+n≤es.length then some (.sl z ((es.drop lo).take n) .sh,s.set d k (.row z es true)) else none
      | _=>none
  | .ptr k i off=>if k.1=d then (if i=0∧off=0 then match s.get d k with
      | some (.cells z [cs])=>if keysL cs=[]∧hasUq cs=false then some (.box cs,s.set d k (.row z [] true)) else none
      | _=>none else none) else some (.ptr k i off,s)
  | .sl z es o=>if o=.uniq then none else some (.sl z es .sh,s)
  | v=>if v.keys.all (fun k=>decide (k.1 < d)) then some (v,s) else none
def resL (d:Nat) (own:Bool):List V→St→Option (List V × St)
  | [],s=>some ([],s)
  | v::r,s=>match resV d own s v with
    | some (v',s1)=>(resL d own r s1).map fun p=>(v'::p.1,p.2)
    | none=>none
def resG (d:Nat) (one:Bool) (cs:List V) (s:St):Option (V × St):=
  match resL d one cs s with
  | some p=>if one || !(p.1.any V.isBox) then some (.agg p.1,p.2) else none
  | none=>none
def resW (d:Nat) (one:Bool) (s:St) (v:V):Option (V × St):=
  match v with
  | .agg cs=>resG d one cs s
  | v=>resV d one s v
def res1 (d:Nat) (one:Bool) (s:St):Rs→Option (V × St)
  | .t n=>match rget s.r n with
    | .sl z es .uniq=>some (.sl z es .uniq,s.put n .dead)
    | .arr k z lo m=>resV d true s (.arr k z lo m)
    | v=>resW d one s v
  | .cell a none=>match rget s.r a with
    | .ptr k i off=>match s.get d k with
      | some (.cells z es)=>match es[i]? with
        | some e=>match e[off]? with
          | some v=>if v.uq then some (v,s.set d k (.cells z (es.set i (e.set off .dead)))) else resW d one s v
          | none=>none
        | none=>none
      | _=>none
    | _=>none
  | .cell a (some n)=>match (s.demAt d (rget s.r a) n).at d (rget s.r a) with
    | some c=>if n≤c.length∧hasUq (c.take n)=false then resG d one (c.take n) (s.demAt d (rget s.r a) n) else none
    | none=>none
def resA (d:Nat):List Rs→St→Option (List V × St)
  | [],s=>some ([],s)
  | x::r,s=>match res1 d false s x with
    | some (v,s1)=>(resA d r s1).map fun p=>(v::p.1,p.2)
    | none=>none
def fin (d:Nat) (rs:List Rs) (s:St):Option (V × Frm × Bool):=
  match rs with
  | [x]=>(res1 d true s x).map fun p=>(p.1,p.2.f,p.2.w)
  | rs=>(resA d rs s).map fun p=>(.tup p.1,p.2.f,p.2.w)
noncomputable def runF (S:Sm) (F:Fun) (d:Nat) (args:List V) (fs:Frm):Option (V × Frm × Bool):=
  if args.length≤F.nt then
    bnd (E S d F.body ⟨args++List.replicate (F.nt - args.length) .dead,[],fs,false⟩) fun p=>match p.1 with
    | .normal=>fin d F.res p.2
    | .ret=>fin d F.res p.2
    | _=>none
  else none
def low (C:CallF):CallF:=fun f d args fs=>if (keysL args).isEmpty then (C f 0 args fun _=>none).map fun p=>(p.1,fs,false) else C f d args fs
noncomputable def DN (P:Nat→Option Fun):Nat→CallF
  | 0=>fun _ _ _ _=>none
  | n+1=>fun f d args fs=>match P f with
    | some F=>runF ⟨low (DN P n),loopN n⟩ F d args fs
    | none=>none
end Go.Den
namespace Go.Den
def LeO {α:Type} (x y:Option α):Prop:=∀ r,x=some r→y=some r
theorem LeO.refl {α:Type} (x:Option α):LeO x x:=fun _ h=>h
theorem LeO.trans {α:Type} {x y z:Option α} (h:LeO x y) (k:LeO y z):LeO x z:=fun r e=>k r (h r e)
theorem LeO.none {α:Type} (y:Option α):LeO Option.none y:=fun _ h=>by cases h
theorem LeO.bnd {α β:Type} {x y:Option α} {f g:α→Option β} (h:LeO x y) (k:∀ a,LeO (f a) (g a)):LeO (bnd x f) (bnd y g):=by
  intro r e
  cases x with
  | none=>cases e
  | some a=>rw [h a rfl];exact k a r e
theorem LeO.bndE {x y:Option (Ex × St)} {f g:St→Option (Ex × St)} (h:LeO x y) (k:∀ a,LeO (f a) (g a)):LeO (bndE x f) (bndE y g):=by
  intro r e
  cases x with
  | none=>cases e
  | some a =>
    rw [h a rfl]
    obtain ⟨x,s⟩:=a
    cases x with
    | normal=>exact k s r e
    | exit j=>exact e
    | ret=>exact e
theorem LeO.leave {x y:Option (Ex × St)} (id:Nat) (h:LeO x y):LeO (leave id x) (leave id y):=by
  intro r e
  cases x with
  | none=>cases e
  | some a=>rw [h a rfl];exact e
def LeC (c c':CallF):Prop:=∀ f d args fs,LeO (c f d args fs) (c' f d args fs)
theorem low_le {c c':CallF} (h:LeC c c'):LeC (low c) (low c'):=fun f d args fs r e=>by
  unfold low at e ⊢
  split at e
  · rename_i hk
    rw [if_pos hk]
    simp only [Option.map_eq_some_iff] at e ⊢
    obtain ⟨p,hp,rfl⟩:=e
    exact ⟨p,h _ _ _ _ p hp,rfl⟩
  · rename_i hk
    rw [if_neg hk]
    exact h _ _ _ _ r e
theorem step_le {c c':CallF} (h:LeC c c') (d:Nat):∀ (o:O) (s:St),LeO (step c d o s) (step c' d o s):=by
  intro o
  induction o with
  | call t raw ob fv xs =>
    intro s
    simp only [step]
    split
    · exact LeO.bnd (LeO.refl _) fun q=>LeO.bnd (h _ _ _ _) fun p=>LeO.refl _
    · exact LeO.refl _
  | callp t fv xs =>
    intro s
    simp only [step]
    split
    · exact LeO.bnd (LeO.refl _) fun q=>LeO.bnd (h _ _ _ _) fun p=>LeO.refl _
    · exact LeO.refl _
  | ob t o ih =>
    intro s r e
    simp only [step] at e ⊢
    cases hx:step c d o s with
    | none=>rw [hx] at e;cases e
    | some s1=>rw [hx] at e;rw [ih s s1 hx];exact e
  | g t want u o ih =>
    intro s
    simp only [step]
    split
    · split
      · exact ih s
      · exact LeO.refl _
    · exact LeO.refl _
    · exact LeO.refl _
  | _=>intro s;exact LeO.refl _
theorem runS_le {c c':CallF} (h:LeC c c') (d:Nat):∀ (l:List O) (s:St),LeO (runS c d l s) (runS c' d l s)
  | [],_=>LeO.refl _
  | o::r,s=>LeO.bnd (step_le h d o s) fun s1=>runS_le h d r s1
structure LeS (S S':Sm):Prop where
  call:LeC S.call S'.call
  loop:∀ d F F' s,(∀ s,LeO (F s) (F' s))→LeO (S.loop d F s) (S'.loop d F' s)
theorem E_le {S S':Sm} (h:LeS S S') (d:Nat):∀ (c:C) (s:St),LeO (E S d c s) (E S' d c s):=by
  intro c
  induction c with
  | reg ops=>intro s;exact LeO.bnd (runS_le h.call d ops s) fun _=>LeO.refl _
  | drw a b =>
    intro s r e
    simp only [E] at e ⊢
    cases hx:runS S.call d a s with
    | none=>rw [hx] at e;cases e
    | some s1 =>
      rw [hx] at e
      rw [runS_le h.call d a s s1 hx]
      simp only [bnd_some] at e ⊢
      split at e
      · rename_i hb
        rw [if_pos (runS_le h.call d b s s1 hb)]
        exact e
      · cases e
  | seq a b iha ihb=>intro s;exact LeO.bndE (iha s) ihb
  | cond c a b iha ihb =>
    intro s
    simp only [E]
    split
    · rename_i t _
      cases t
      · exact ihb s
      · exact iha s
    · exact LeO.refl _
  | block id a ih=>intro s;exact LeO.leave id (ih s)
  | loop a ih=>intro s;exact h.loop d _ _ s ih
  | scope a ih=>exact ih
  | _=>intro s;exact LeO.refl _
theorem loopN_le:∀ (n m d:Nat) (F F':Run) (s:St),n≤m→(∀ s,LeO (F s) (F' s))→LeO (loopN n d F s) (loopN m d F' s)
  | 0,_,_,_,_,_,_,_=>LeO.none _
  | n+1,0,_,_,_,_,h,_=>absurd h (by omega)
  | n+1,m+1,d,F,F',s,h,hF=>by
    intro r e
    simp only [loopN] at e ⊢
    cases hx:F s with
    | none=>rw [hx] at e;cases e
    | some p =>
      rw [hx] at e
      rw [hF s p hx]
      obtain ⟨x,s1⟩:=p
      cases x with
      | normal =>
        simp only at e ⊢
        cases hc:clean d s s1 with
        | none=>rw [hc] at e;cases e
        | some s2=>rw [hc] at e;exact loopN_le n m d F F' s2 (by omega) hF r e
      | exit j=>exact e
      | ret=>exact e
theorem runF_le {S S':Sm} (h:LeS S S') (F:Fun) (d:Nat) (args:List V) (fs:Frm):LeO (runF S F d args fs) (runF S' F d args fs):=by
  unfold runF
  split
  · exact LeO.bnd (E_le h d _ _) fun _=>LeO.refl _
  · exact LeO.refl _
theorem DN_le (P:Nat→Option Fun):∀ (n m:Nat),n≤m→LeC (DN P n) (DN P m)
  | 0,_,_=>fun _ _ _ _=>LeO.none _
  | n+1,0,h=>absurd h (by omega)
  | n+1,m+1,h=>fun f d args fs=>by
    simp only [DN]
    cases P f with
    | none=>exact LeO.refl _
    | some F=>exact runF_le ⟨low_le (DN_le P n m (by omega)),fun d F F' s hF=>loopN_le n m d F F' s (by omega) hF⟩ F d args fs
open Classical in
noncomputable def lim {α:Type} (x:Nat→Option α):Option α:=if h:∃ r,∃ n,x n=some r then some h.choose else none
theorem lim_of {α:Type} {x:Nat→Option α} (hm:∀ n m,n≤m→LeO (x n) (x m)) {n:Nat} {r:α} (h:x n=some r):lim x=some r:=by
  have hx:∃ r,∃ n,x n=some r:=⟨r,n,h⟩
  unfold lim
  rw [dif_pos hx]
  obtain ⟨m,hm'⟩:=hx.choose_spec
  have h1:=hm m (max n m) (by omega) _ hm'
  have h2:=hm n (max n m) (by omega) _ h
  rw [h1] at h2
  exact h2
theorem of_lim {α:Type} {x:Nat→Option α} {r:α} (h:lim x=some r):∃ n,x n=some r:=by
  unfold lim at h
  split at h
  · rename_i hx
    cases h
    exact hx.choose_spec
  · cases h
noncomputable def D (P:Nat→Option Fun):CallF:=fun f d args fs=>lim fun n=>DN P n f d args fs
noncomputable def L (d:Nat) (F:Run) (s:St):Option (Ex × St):=lim fun n=>loopN n d F s
noncomputable def SI (P:Nat→Option Fun):Sm:=⟨low (D P),L⟩
theorem DN_D (P:Nat→Option Fun) (n:Nat):LeC (DN P n) (D P):=fun f d args fs _ e=>lim_of (fun n m h=>DN_le P n m h f d args fs) e
theorem low_lim (P:Nat→Option Fun) {f d:Nat} {args:List V} {fs:Frm} {r:V × Frm × Bool} (h:low (D P) f d args fs=some r):∃ n,low (DN P n) f d args fs=some r:=by
  unfold low at h ⊢
  split at h
  · rename_i hk
    simp only [Option.map_eq_some_iff] at h
    obtain ⟨p,hp,rfl⟩:=h
    obtain ⟨n,hn⟩:=of_lim (x:=fun n=>DN P n f 0 args fun _=>none) hp
    exact ⟨n,by rw [if_pos hk,hn];rfl⟩
  · rename_i hk
    obtain ⟨n,hn⟩:=of_lim (x:=fun n=>DN P n f d args fs) h
    exact ⟨n,by rw [if_neg hk];exact hn⟩
theorem loopN_L (n d:Nat) (F:Run) (s:St):LeO (loopN n d F s) (L d F s):=fun _ e=>lim_of (fun n m h=>loopN_le n m d F F s h fun _=>LeO.refl _) e
theorem L_eq (d:Nat) (F:Run) (s:St):L d F s=match F s with
    | some (.normal,s1)=>bnd (clean d s s1) (L d F)
    | some (.exit j,s1)=>bnd (clean d s s1) fun s2=>some (.exit j,s2)
    | x=>x:=by
  have key:∀ r,L d F s=some r ↔ (match F s with
    | some (.normal,s1)=>bnd (clean d s s1) (L d F)
    | some (.exit j,s1)=>bnd (clean d s s1) fun s2=>some (.exit j,s2)
    | x=>x)=some r:=by
    intro r
    constructor
    · intro h
      obtain ⟨n,hn⟩:=of_lim h
      cases n with
      | zero=>cases hn
      | succ n =>
        simp only [loopN] at hn
        cases hF:F s with
        | none=>rw [hF] at hn;cases hn
        | some p =>
          rw [hF] at hn
          obtain ⟨x,s1⟩:=p
          cases x with
          | normal =>
            simp only at hn ⊢
            cases hc:clean d s s1 with
            | none=>rw [hc] at hn;cases hn
            | some s2=>rw [hc] at hn;exact loopN_L n d F s2 r hn
          | exit j =>
            simp only at hn ⊢
            cases hc:clean d s s1 with
            | none=>rw [hc] at hn;cases hn
            | some s2=>rw [hc] at hn;exact hn
          | ret=>exact hn
    · intro h
      cases hF:F s with
      | none=>rw [hF] at h;cases h
      | some p =>
        rw [hF] at h
        obtain ⟨x,s1⟩:=p
        cases x with
        | normal =>
          simp only at h
          cases hc:clean d s s1 with
          | none=>rw [hc] at h;cases h
          | some s2 =>
            rw [hc] at h
            obtain ⟨n,hn⟩:=of_lim (x:=fun n=>loopN n d F s2) h
            refine loopN_L (n+1) d F s r ?_
            simp only [loopN,hF,hc]
            exact hn
        | exit j =>
          simp only at h
          cases hc:clean d s s1 with
          | none=>rw [hc] at h;cases h
          | some s2 =>
            rw [hc] at h
            refine loopN_L 1 d F s r ?_
            simp only [loopN,hF,hc]
            exact h
        | ret =>
          refine loopN_L 1 d F s r ?_
          simp only [loopN,hF]
          exact h
  cases hx:L d F s with
  | some r=>exact ((key r).mp hx).symm
  | none =>
    cases hy:(match F s with
      | some (.normal,s1)=>bnd (clean d s s1) (L d F)
      | some (.exit j,s1)=>bnd (clean d s s1) fun s2=>some (.exit j,s2)
      | x=>x) with
    | none=>rfl
    | some r=>exact absurd ((key r).mpr hy) (by rw [hx];simp)
theorem step_lim (P:Nat→Option Fun) (d:Nat):∀ (o:O) (s s':St),step (low (D P)) d o s=some s'→∃ n,step (low (DN P n)) d o s=some s':=by
  intro o
  induction o with
  | call t raw ob fv xs =>
    intro s s' e
    simp only [step] at e ⊢
    split at e
    · rename_i f first caps hfv
      cases hq:argL d raw xs s with
      | none=>rw [hq] at e;cases e
      | some q =>
        rw [hq] at e
        simp only [bnd_some] at e ⊢
        cases hp:low (D P) f (d+1) (first++q.1++caps) (merge d q.2.l q.2.f) with
        | none=>rw [hp] at e;cases e
        | some p =>
          rw [hp] at e
          obtain ⟨n,hn⟩:=low_lim P hp
          exact ⟨n,by rw [hn];exact e⟩
    · cases e
  | callp t fv xs =>
    intro s s' e
    simp only [step] at e ⊢
    split at e
    · rename_i f first caps hfv
      cases hq:argP xs s.r with
      | none=>rw [hq] at e;cases e
      | some q =>
        rw [hq] at e
        simp only [bnd_some] at e ⊢
        cases hp:low (D P) f (d+1) (first++q++caps) (merge d s.l s.f) with
        | none=>rw [hp] at e;cases e
        | some p =>
          rw [hp] at e
          obtain ⟨n,hn⟩:=low_lim P hp
          exact ⟨n,by rw [hn];exact e⟩
    · cases e
  | ob t o ih =>
    intro s s' e
    simp only [step] at e ⊢
    cases hx:step (low (D P)) d o s with
    | none=>rw [hx] at e;cases e
    | some s1 =>
      rw [hx] at e
      obtain ⟨n,hn⟩:=ih s s1 hx
      exact ⟨n,by rw [hn];exact e⟩
  | g t want u o ih =>
    intro s s' e
    simp only [step] at e ⊢
    split at e
    · split at e
      · rename_i hb
        obtain ⟨n,hn⟩:=ih s s' e
        exact ⟨n,by rw [if_pos hb];exact hn⟩
      · rename_i hb
        exact ⟨0,by rw [if_neg hb];exact e⟩
    · exact ⟨0,e⟩
    · cases e
  | _=>intro s s' e;exact ⟨0,e⟩
theorem runS_lim (P:Nat→Option Fun) (d:Nat):∀ (l:List O) (s s':St),runS (low (D P)) d l s=some s'→∃ n,runS (low (DN P n)) d l s=some s'
  | [],_,_,e=>⟨0,e⟩
  | o::r,s,s',e=>by
    simp only [runS] at e ⊢
    cases hx:step (low (D P)) d o s with
    | none=>rw [hx] at e;cases e
    | some s1 =>
      rw [hx] at e
      obtain ⟨n,hn⟩:=step_lim P d o s s1 hx
      obtain ⟨m,hm⟩:=runS_lim P d r s1 s' e
      refine ⟨max n m,?_⟩
      rw [step_le (low_le (DN_le P n (max n m) (by omega))) d o s s1 hn]
      exact runS_le (low_le (DN_le P m (max n m) (by omega))) d r s1 s' hm
noncomputable def SN (P:Nat→Option Fun) (n:Nat):Sm:=⟨low (DN P n),loopN n⟩
theorem SN_le (P:Nat→Option Fun) {n m:Nat} (h:n≤m):LeS (SN P n) (SN P m):=⟨low_le (DN_le P n m h),fun d F F' s hF=>loopN_le n m d F F' s h hF⟩
theorem E_lim (P:Nat→Option Fun) (d:Nat):∀ (c:C) (s:St) (p:Ex × St),E (SI P) d c s=some p→∃ n,E (SN P n) d c s=some p:=by
  intro c
  induction c with
  | reg ops =>
    intro s p e
    simp only [E] at e ⊢
    cases hx:runS (SI P).call d ops s with
    | none=>rw [hx] at e;cases e
    | some s1 =>
      rw [hx] at e
      obtain ⟨n,hn⟩:=runS_lim P d ops s s1 hx
      exact ⟨n,by show bnd (runS (low (DN P n)) d ops s) _=_;rw [hn];exact e⟩
  | drw a b =>
    intro s p e
    simp only [E] at e ⊢
    cases hx:runS (SI P).call d a s with
    | none=>rw [hx] at e;cases e
    | some s1 =>
      rw [hx] at e
      simp only [bnd_some] at e
      split at e
      · rename_i hb
        obtain ⟨n,hn⟩:=runS_lim P d a s s1 hx
        obtain ⟨m,hm⟩:=runS_lim P d b s s1 hb
        refine ⟨max n m,?_⟩
        have h1:runS (SN P (max n m)).call d a s=some s1:=runS_le (low_le (DN_le P n (max n m) (by omega))) d a s s1 hn
        have h2:runS (SN P (max n m)).call d b s=some s1:=runS_le (low_le (DN_le P m (max n m) (by omega))) d b s s1 hm
        rw [h1]
        simp only [bnd_some]
        rw [if_pos h2]
        exact e
      · cases e
  | seq a b iha ihb =>
    intro s p e
    simp only [E] at e ⊢
    cases hx:E (SI P) d a s with
    | none=>rw [hx] at e;cases e
    | some q =>
      rw [hx] at e
      obtain ⟨n,hn⟩:=iha s q hx
      obtain ⟨x,s1⟩:=q
      cases x with
      | normal =>
        obtain ⟨m,hm⟩:=ihb s1 p e
        refine ⟨max n m,?_⟩
        rw [E_le (SN_le P (show n≤max n m by omega)) d a s _ hn]
        exact E_le (SN_le P (show m≤max n m by omega)) d b s1 _ hm
      | exit j=>exact ⟨n,by rw [hn];exact e⟩
      | ret=>exact ⟨n,by rw [hn];exact e⟩
  | cond c a b iha ihb =>
    intro s p e
    simp only [E] at e ⊢
    split at e
    · rename_i t _
      cases t
      · exact ihb s p e
      · exact iha s p e
    · cases e
  | block id a ih =>
    intro s p e
    simp only [E] at e ⊢
    cases hx:E (SI P) d a s with
    | none=>rw [hx] at e;cases e
    | some q =>
      rw [hx] at e
      obtain ⟨n,hn⟩:=ih s q hx
      exact ⟨n,by rw [hn];exact e⟩
  | scope a ih=>exact ih
  | loop a ih =>
    intro s p e
    have key:∀ (k:Nat) (s:St) (p:Ex × St),loopN k d (E (SI P) d a) s=some p→∃ n,loopN k d (E (SN P n) d a) s=some p:=by
      intro k
      induction k with
      | zero=>intro s p e;cases e
      | succ k ihk =>
        intro s p e
        simp only [loopN] at e ⊢
        cases hx:E (SI P) d a s with
        | none=>rw [hx] at e;cases e
        | some q =>
          rw [hx] at e
          obtain ⟨n,hn⟩:=ih s q hx
          obtain ⟨x,s1⟩:=q
          cases x with
          | normal =>
            simp only at e
            cases hc:clean d s s1 with
            | none=>rw [hc] at e;cases e
            | some s2 =>
              rw [hc] at e
              obtain ⟨m,hm⟩:=ihk s2 p e
              refine ⟨max n m,?_⟩
              rw [E_le (SN_le P (show n≤max n m by omega)) d a s _ hn]
              simp only [hc]
              exact loopN_le k k d _ _ s2 (Nat.le_refl _) (fun s=>E_le (SN_le P (show m≤max n m by omega)) d a s) p hm
          | exit j=>exact ⟨n,by rw [hn];exact e⟩
          | ret=>exact ⟨n,by rw [hn];exact e⟩
    obtain ⟨k,hk⟩:=of_lim (x:=fun n=>loopN n d (E (SI P) d a) s) e
    obtain ⟨n,hn⟩:=key k s p hk
    refine ⟨max k n,?_⟩
    show loopN (max k n) d (E (SN P (max k n)) d a) s=some p
    exact loopN_le k (max k n) d _ _ s (by omega) (fun s=>E_le (SN_le P (show n≤max k n by omega)) d a s) p hn
  | _=>intro s p e;exact ⟨0,e⟩
theorem D_of (P:Nat→Option Fun) {f:Nat} {F:Fun} (hf:P f=some F) {d:Nat} {args:List V} {fs:Frm} {r:V × Frm × Bool} (h:runF (SI P) F d args fs=some r):D P f d args fs=some r:=by
  have:∃ n,runF (SN P n) F d args fs=some r:=by
    unfold runF at h ⊢
    split at h
    · rename_i hl
      rw [show (∃ n,_) = ∃ n,_ from rfl]
      cases hx:E (SI P) d F.body ⟨args++List.replicate (F.nt - args.length) .dead,[],fs,false⟩ with
      | none=>rw [hx] at h;cases h
      | some p =>
        rw [hx] at h
        obtain ⟨n,hn⟩:=E_lim P d _ _ _ hx
        exact ⟨n,by rw [if_pos hl,hn];exact h⟩
    · cases h
  obtain ⟨n,hn⟩:=this
  refine DN_D P (n+1) f d args fs r ?_
  simp only [DN,hf]
  exact hn
end Go.Den
