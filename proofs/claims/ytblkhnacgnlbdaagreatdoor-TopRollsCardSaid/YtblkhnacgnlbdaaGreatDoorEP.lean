import Derived.Test.YtblkhnacgnlbdaaGreatDoorEA
set_option linter.all false
namespace Go.Den
structure Cx where
  eqT:List (Nat × List Tg)
  ixb:Nat
  xcs:Nat
  gr:List (Nat × Nat)
  cl:List (Nat × Nat)
structure Hint where
  ob:List Nat
  obo:List Nat
  raw:List Nat
  imp:List Nat
  kill:List (Nat × List Nat)
  kilt:List (Nat × List Nat)
  kilf:List (Nat × List Nat)
def ofC:Value→Option V
  | .bool b=>some (.bool b)
  | .int k n=>some (.int k n)
  | .string s=>some (.str s)
  | .pointer none=>some .nilp
  | .nilFunc=>some .nilf
  | .slice none 0 0=>some (.sl 0 [] .tight)
  | _=>none
def ofCL:List Value→Option (List V)
  | []=>some []
  | v::r=>bnd (ofC v) fun x=>bnd (ofCL r) fun l=>some (x::l)
def ofV:Value→Option V
  | .agg cs=>(ofCL cs.toList).map .agg
  | v=>ofC v
def opA:Operand→Option A
  | .tmp t=>some (.t t)
  | .const .nilIface=>some (.c .nili)
  | .const v=>(ofV v).map .c
  | .func f=>some (.c (.fn f [] []))
  | .global _=>none
def opT (P:Program) (t:TypeId):Operand→Option A
  | .const (.slice none 0 0)=>match P.underlying t with
    | some (.slice e)=>(P.info? e).map fun i=>.c (.sl i.size [] .tight)
    | _=>none
  | x=>opA x
def opAL:List Operand→Option (List A)
  | []=>some []
  | v::r=>bnd (opA v) fun x=>bnd (opAL r) fun l=>some (x::l)
def opTL (P:Program):List TypeId→List Operand→Option (List A)
  | _,[]=>some []
  | t::ts,v::r=>bnd (opT P t v) fun x=>bnd (opTL P ts r) fun l=>some (x::l)
  | [],v::r=>bnd (opA v) fun x=>bnd (opTL P [] r) fun l=>some (x::l)
def opO:Option Operand→Option (Option A)
  | none=>some none
  | some o=>(opA o).map some
def slot:Operand→Option Nat
  | .tmp t=>some t
  | _=>none
def isAggB:TypeDesc→Bool
  | .struct _ | .array _ _=>true
  | _=>false
def zeroT (P:Program):Nat→TypeId→Option (List V)
  | 0,_=>none
  | n+1,t=>match P.underlying t with
    | some .bool=>some [.bool false]
    | some (.int k)=>some [.int k 0]
    | some .string=>some [.str ⟨⟨[]⟩⟩]
    | some (.slice e)=>(P.info? e).map fun i=>[.sl i.size [] .tight]
    | some (.pointer _)=>some [.nilp]
    | some (.func _ _ _)=>some [.nilf]
    | some (.struct fs)=>fs.toList.foldl (fun acc f=>bnd acc fun l=>(zeroT P n f.type).map (l++·)) (some [])
    | some (.array m e)=>(zeroT P n e).map fun l=>(List.replicate m l).flatten
    | _=>none
def okZ:List Value→List V→Bool
  | [],[]=>true
  | .bool a::r,.bool b::q=>a == b && okZ r q
  | .int k a::r,.int k' b::q=>k == k' && a == b && okZ r q
  | .string s::r,.str x::q=>s.data.toList == [] && x.data.toList == [] && okZ r q
  | .slice none 0 0::r,.sl _ [] .tight::q=>okZ r q
  | .pointer none::r,.nilp::q=>okZ r q
  | .nilFunc::r,.nilf::q=>okZ r q
  | _,_=>false
def zcells (P:Program) (t:TypeId):Option (List V):=
  bnd (P.info? t) fun i=>bnd i.zero fun z=>bnd (zeroT P 6 t) fun l=>if okZ z.cells.toList l=true∧l.length=i.size∧0 < i.size∧i.bytes≤1024 then some l else none
def szo (P:Program) (t:TypeId):Option (Option Nat):=
  bnd (P.underlying t) fun u=>bnd (P.info? t) fun i=>if isAggB u then some (some i.size) else if i.size=1 then some none else none
def fieldOf (P:Program) (t:TypeId) (k:Nat):Option (Nat × TypeId × Nat):=
  match P.underlying t with
  | some (.struct fs)=>bnd fs[k]? fun f=>bnd (P.info? f.type) fun i=>if i.size=0 then none else some (f.offset,f.type,i.size)
  | _=>none
def ar:BinOp→Option Ar
  | .add=>some .add | .sub=>some .sub | .mul=>some .mul | .quo=>some .quo | .rem=>some .rem
  | .and=>some .and | .or=>some .or | .xor=>some .xor | .andNot=>some .andNot | .shl=>some .shl | .shr=>some .shr
  | .eql=>some .eql | .neq=>some .neq | .lss=>some .lss | .leq=>some .leq | .gtr=>some .gtr | .geq=>some .geq
def partsOf (P:Program) (t:TypeId):List (Nat × Operand)→Option (List (Nat × Nat × A))
  | []=>some []
  | (i,x)::r=>bnd (fieldOf P t i) fun f=>bnd (opT P f.2.1 x) fun a=>bnd (partsOf P t r) fun l=>some ((f.1,f.2.2,a)::l)
def partsA (z:Nat):List (Nat × Operand)→Option (List (Nat × Nat × A))
  | []=>some []
  | (i,x)::r=>bnd (opA x) fun a=>bnd (partsA z r) fun l=>some ((i*z,z,a)::l)
def partsS:List (Nat × Operand)→Option (List (Nat × A))
  | []=>some []
  | (i,x)::r=>bnd (opA x) fun a=>bnd (partsS r) fun l=>some ((i,a)::l)
def keyT (P:Program) (t:TypeId):Option Tg:=
  match P.underlying t with
  | some (.map k _)=>match P.underlying k with
    | some .string=>some .str
    | some (.int k)=>some (.int k)
    | _=>none
  | _=>none
def prepC (cx:Cx) (h:Hint) (draw:Bool) (d:Option Nat) (c:Call) (P:Program):Option O:=
  match c.callee with
  | .builtin .len=>match d,c.args.toList,c.argTypes.toList with
    | some d,[x],[t]=>bnd (P.underlying t) fun u=>match u with
      | .string=>(opA x).map (.lens d)
      | .slice _=>(opA x).map (.len d)
      | _=>none
    | _,_,_=>none
  | .builtin .append=>match d,c.args.toList,c.argTypes.toList with
    | some d,[x,y],[t,u]=>match P.underlying t,P.underlying u with
      | some (.slice e),some (.slice _)=>bnd (P.info? e) fun i=>if 0 < i.size∧i.bytes≤1024∧(zcells P e).isSome=true then bnd (opT P t x) fun a=>(opT P u y).map (.app d i.size a) else none
      | some (.slice e),some .string=>bnd (P.info? e) fun i=>if i.size=1∧i.bytes≤1024∧(zcells P e).isSome=true then bnd (opT P t x) fun a=>(opA y).map (.app d i.size a) else none
      | _,_=>none
    | _,_,_=>none
  | .builtin .copy=>match d,c.args.toList,c.argTypes.toList with
    | some d,[x,y],[t,_]=>match P.underlying t with
      | some (.slice e)=>bnd (P.info? e) fun i=>if 0 < i.size then bnd (opA x) fun a=>(opA y).map (.cpy d i.size a) else none
      | _=>none
    | _,_,_=>none
  | .builtin .max=>match d,c.args.toList with
    | some d,x::y=>bnd (opA x) fun a=>(opAL y).map (.mnx d true a)
    | _,_=>none
  | .builtin .min=>match d,c.args.toList with
    | some d,x::y=>bnd (opA x) fun a=>(opAL y).map (.mnx d false a)
    | _,_=>none
  | .value f=>bnd (opA f) fun fa=>bnd (opTL P (match f with | .func k=>((P.funcs[k]?).map (·.params.toList)).getD [] | _=>[]) c.args.toList) fun xs =>
    let plain (d:Nat):O:=if draw && !(h.raw.contains d || h.ob.contains d || h.imp.contains d) then .callp d fa xs else .call (some d) (h.raw.contains d) (h.ob.contains d) fa xs
    match f,d,xs with
    | .func k,some d,[x]=>match cx.cl.lookup k with
      | some z=>some (.clone d z x)
      | none=>some (plain d)
    | .func k,some d,[x,y]=>if k=cx.ixb then some (.xib d x y) else if k=cx.xcs then some (.xcs d x y) else match cx.gr.lookup k,x with
      | some z,.c (.sl _ [] .tight)=>some (.grow d z y)
      | some _,_=>none
      | none,_=>some (plain d)
    | _,some d,_=>some (plain d)
    | _,none,_=>some (.call none false false fa xs)
  | _=>none
def assigned (ops:Array Oper) (u:Nat):Bool:=
  ops.any fun o=>match o.op with
    | .assign _=>o.dst == some u
    | _=>false
def appended (ops:Array Oper) (u:Nat):Bool:=
  ops.any fun o=>match o.op with
    | .call c=>match c.callee,c.args.toList with
      | .builtin .append,.tmp t::_=>t == u
      | _,_=>false
    | _=>false
def prep1 (cx:Cx) (h:Hint) (P:Program) (draw:Bool) (ops:Array Oper) (o:Oper):Option O:=
  match o.op,o.dst with
  | .move (.tmp u),some d=>some (if assigned ops u || h.imp.contains d then .mvs d u else if draw then .mvp d u else .mv d u)
  | .assign (.tmp u),some d=>some (.mvs d u)
  | .move x,some d=>match opT P o.type x with
    | some (.c v)=>some (.cst d v)
    | _=>none
  | .assign x,some d=>match opT P o.type x with
    | some (.c v)=>some (.cst d v)
    | _=>none
  | .pick c a b,some d=>bnd (opA c) fun c=>bnd (opA a) fun a=>(opA b).map (.pick d c a)
  | .alloc t,some d=>(zcells P t).map (.new d)
  | .box _ x,some d=>(opA x).map (.box d)
  | .build t ps,some d=>match P.underlying t with
    | some (.struct _)=>bnd (zcells P t) fun z=>(partsOf P t ps.toList).map (.build d z)
    | some (.array _ e)=>bnd (zcells P t) fun z=>bnd (P.info? e) fun i=>(partsA i.size ps.toList).map (.build d z)
    | _=>none
  | .buildSlice t n ps,some d=>match P.underlying t with
    | some (.slice e)=>bnd (zcells P e) fun z=>bnd (partsS ps.toList) fun l=>if n*z.length≤16777216 then some (if h.obo.contains d then .lito d z.length n z l else .lit d z.length n z l) else none
    | _=>none
  | .load t a,some d=>bnd (szo P t) fun s=>bnd (opA a) fun a =>
    match s with
    | none=>some (if appended ops d then .lds d a else if draw then .ldp d none a else .ld d none a)
    | some n=>some (if h.obo.contains d then .ldo d n a else if draw then .ldp d (some n) a else .ld d (some n) a)
  | .store t a x,none=>bnd (szo P t) fun s=>bnd (opA a) fun a=>(opT P t x).map (.st s a)
  | .nilCheck x,some d=>(slot x).map (.chk d)
  | .binOp op t x y _,some d=>bnd (P.underlying t) fun u=>bnd (opA x) fun a=>bnd (opA y) fun b =>
    if isAggB u then match op with
      | .eql=>(cx.eqT.lookup t).map fun ts=>.eqs d ts true a b
      | .neq=>(cx.eqT.lookup t).map fun ts=>.eqs d ts false a b
      | _=>none
    else match u,op with
      | .bool,.eql=>some (.beq d true a b)
      | .bool,.neq=>some (.beq d false a b)
      | .pointer _,.eql=>if b matches .c .nilp then some (.isn d true false a) else none
      | .pointer _,.neq=>if b matches .c .nilp then some (.isn d false false a) else none
      | .interface _,.eql=>if b matches .c .nili then some (.isn d true true a) else none
      | .interface _,.neq=>if b matches .c .nili then some (.isn d false true a) else none
      | .int _,_=>(ar op).map fun r=>.bin d r a b
      | .string,_=>(ar op).map fun r=>.bin d r a b
      | _,_=>none
  | .unOp .not _ x,some d=>(opA x).map (.not d)
  | .unOp .neg _ x,some d=>(opA x).map (.neg d)
  | .convert s t x,some d=>bnd (opA x) fun a=>match P.underlying s,P.underlying t with
    | some (.int _),some (.int k)=>some (.cvt d k a)
    | some .string,some (.slice e)=>if P.underlying e matches some (.int .u8) then some (.s2b d a) else none
    | some (.slice e),some .string=>if P.underlying e matches some (.int .u8) then some (.b2s d a) else none
    | _,_=>none
  | .makeFunc (.func f) fs cs,some d=>bnd (opAL fs.toList) fun a=>(opAL cs.toList).map (.mkf d f a)
  | .makeSlice t n c,some d=>match P.underlying t with
    | some (.slice e)=>bnd (zcells P e) fun z=>bnd (opA n) fun a=>(opA c).map (.mks d z a)
    | _=>none
  | .slice t x lo hi mx,some d=>match P.underlying t with
    | some .string=>bnd (opA x) fun a=>bnd (opO lo) fun l=>bnd (opO hi) fun k=>(opO mx).map (.slc d 0 true a l k)
    | some (.slice e)=>bnd (P.info? e) fun i=>if 0 < i.size then bnd (opA x) fun a=>bnd (opO lo) fun l=>bnd (opO hi) fun k=>(opO mx).map (.slc d i.size false a l k) else none
    | _=>none
  | .fieldAddr t x k,some d=>bnd (slot x) fun u=>(fieldOf P t k).map fun f=>.fa d u f.1
  | .field t x k,some d=>bnd (opA x) fun a=>bnd (fieldOf P t k) fun f=>(szo P f.2.1).map (.fld d a f.1)
  | .indexAddr t x i,some d=>match P.underlying t with
    | some (.slice e)=>bnd (P.info? e) fun f=>if 0 < f.size then bnd (opA x) fun a=>(opA i).map (.ia d f.size a) else none
    | some (.array n e)=>bnd (P.info? e) fun f=>if 0 < f.size then bnd (opA x) fun a=>(opA i).map (.iap d n f.size a) else none
    | _=>none
  | .index t x i,some d=>match P.underlying t with
    | some .string=>bnd (opA x) fun a=>(opA i).map (.ixs d a)
    | some (.array n e)=>bnd (szo P e) fun s=>bnd (opA x) fun a=>(opA i).map (.ixa d n (s.getD 1) s.isSome a)
    | _=>none
  | .range t x,some d=>if P.underlying t matches some .string then (opA x).map (.rng d) else none
  | .next x true,some d=>(slot x).map (.nxt d)
  | .extract x i,some d=>(slot x).map fun u=>.ext d u i
  | .makeMap _ none,some d=>some (.mkm d)
  | .mapUpdate t m k x,none=>bnd (keyT P t) fun ks=>bnd (opA m) fun m=>bnd (opA k) fun k=>(opA x).map (.mset ks m k)
  | .insert t m k x,none=>bnd (keyT P t) fun ks=>bnd (opA m) fun m=>bnd (opA k) fun k=>(opA x).map (.mset ks m k)
  | .lookup t m k ok,some d=>match P.underlying t with
    | some (.map _ e)=>bnd (keyT P t) fun ks=>bnd (P.info? e) fun i=>bnd i.zero fun z=>bnd (ofC z) fun z=>bnd (opA m) fun m=>(opA k).map (.mget d ok ks z m)
    | _=>none
  | .call c,d=>prepC cx h draw d c P
  | _,_=>none
def isCall:Op→Bool
  | .call c=>match c.callee with
    | .value _=>true
    | _=>false
  | _=>false
def prepO (cx:Cx) (h:Hint) (P:Program) (draw:Bool) (ops:Array Oper) (o:Oper):O:=
  match prep1 cx h P draw ops o with
  | none=>.bad
  | some x =>
    let x:=match o.dst with
      | some d=>if h.ob.contains d && !isCall o.op then O.ob d x else x
      | none=>x
    match o.guard with
    | none=>x
    | some (j,want)=>match (ops[j]?).bind (·.dst),o.dst with
      | some t,some d=>.g t want d x
      | _,_=>.bad
def A.sl:A→List Nat
  | .t n=>[n]
  | .c _=>[]
def asl (l:List A):List Nat:=l.flatMap A.sl
def oa:Option A→List Nat
  | none=>[]
  | some a=>a.sl
def O.kind:O→Nat
  | .mvs _ _ | .mvp _ _ | .cst _ _ | .pick _ _ _ _ | .build _ _ _ | .lit _ _ _ _ _ | .chk _ _ | .bin _ _ _ _ | .eqs _ _ _ _ _ | .beq _ _ _ _ | .isn _ _ _ _ | .lens _ _ | .not _ _ | .neg _ _ | .cvt _ _ _ | .s2b _ _
  | .mkf _ _ _ _ | .mks _ _ _ _ | .slc _ _ _ _ _ _ _ | .fa _ _ _ | .fld _ _ _ _ | .iap _ _ _ _ _ | .ixs _ _ _ | .ixa _ _ _ _ _ _ | .ext _ _ _ | .mnx _ _ _ _ | .xib _ _ _ | .xcs _ _ _ | .grow _ _ _=>0
  | .ldp _ _ _ | .ia _ _ _ _ | .b2s _ _ | .len _ _ | .app _ _ _ _ | .callp _ _ _ | .clone _ _ _=>1
  | .lds _ _=>2
  | .new _ _=>3
  | .g _ _ _ o=>o.kind
  | .ob _ o=>if o.kind == 0 then 3 else 4
  | _=>4
def O.rd:O→List Nat
  | .mv _ s | .mvs _ s | .mvp _ s=>[s]
  | .pick _ c a b=>c.sl++a.sl++b.sl
  | .box _ a | .ld _ _ a | .lds _ a | .ldo _ _ a | .ldp _ _ a | .isn _ _ _ a | .lens _ a | .not _ a | .neg _ a | .cvt _ _ a | .s2b _ a | .b2s _ a | .fld _ a _ _ | .rng _ a | .len _ a | .clone _ _ a=>a.sl
  | .build _ _ ps=>ps.flatMap (·.2.2.sl)
  | .lit _ _ _ _ ps | .lito _ _ _ _ ps=>ps.flatMap (·.2.sl)
  | .st _ a b | .beq _ _ a b | .bin _ _ a b | .eqs _ _ _ a b | .mks _ _ a b | .ia _ _ a b | .iap _ _ _ a b | .ixs _ a b | .ixa _ _ _ _ a b | .app _ _ a b | .cpy _ _ a b | .xib _ a b | .xcs _ a b=>a.sl++b.sl
  | .mnx _ _ a l=>a.sl++asl l
  | .grow _ _ a=>a.sl
  | .chk _ s | .fa _ s _ | .nxt _ s | .ext _ s _=>[s]
  | .mkf _ _ a b=>asl a++asl b
  | .slc _ _ _ x a b c=>x.sl++oa a++oa b++oa c
  | .call _ _ _ f a=>f.sl++asl a
  | .callp _ f a=>f.sl++asl a
  | .mset _ a b c=>a.sl++b.sl++c.sl
  | .mget _ _ _ _ a b=>a.sl++b.sl
  | .ob d o=>d::o.rd
  | .g t _ _ o=>t::o.rd
  | .new _ _ | .cst _ _ | .mkm _ | .bad | .kill _=>[]
def O.wr:O→List Nat
  | .mv d s | .mvs d s=>[d,s]
  | .mvp d _ | .cst d _ | .pick d _ _ _ | .new d _ | .ldp d _ _ | .chk d _ | .bin d _ _ _ | .eqs d _ _ _ _ | .beq d _ _ _ | .isn d _ _ _ | .lens d _ | .not d _ | .neg d _ | .cvt d _ _ | .s2b d _ | .b2s d _ | .mkf d _ _ _ | .mks d _ _ _
  | .fa d _ _ | .grow d _ _ | .xcs d _ _ | .fld d _ _ _ | .iap d _ _ _ _ | .ixs d _ _ | .ixa d _ _ _ _ _ | .rng d _ | .nxt d _ | .ext d _ _ | .len d _ | .cpy d _ _ _ | .mnx d _ _ _ | .callp d _ _ | .clone d _ _ | .xib d _ _ | .mkm d | .mget d _ _ _ _ _ | .lds d _ | .ldo d _ _ | .ld d _ _=>[d]
  | .box d a=>d::a.sl
  | .build d _ ps=>d::ps.flatMap (·.2.2.sl)
  | .lit d _ _ _ ps | .lito d _ _ _ ps=>d::ps.flatMap (·.2.sl)
  | .slc d _ _ x _ _ _ | .ia d _ x _=>d::x.sl
  | .app d _ a b=>d::(a.sl++b.sl)
  | .st _ _ b=>b.sl
  | .call d _ _ _ a=>d.toList++asl a
  | .mset _ _ _ _ | .bad=>[]
  | .kill ts=>ts
  | .ob d o=>d::o.wr
  | .g _ _ d o=>d::o.wr
def apart (a b:List Nat):Bool:=a.all fun x=>!b.contains x
def O.loads:O→Bool
  | .ldp _ _ _=>true
  | .g _ _ _ o=>o.loads
  | _=>false
def O.base:O→Bool
  | .mvp _ _ | .mvs _ _ | .cst _ _ | .pick _ _ _ _ | .build _ _ _ | .lit _ _ _ _ _ | .lito _ _ _ _ _ | .chk _ _ | .bin _ _ _ _ | .lens _ _ | .not _ _ | .neg _ _ | .cvt _ _ _ | .s2b _ _ | .mks _ _ _ _ | .slc _ _ _ _ _ _ _ | .fa _ _ _ | .ext _ _ _ | .mnx _ _ _ _
  | .ldp _ _ _ | .ia _ _ _ _ | .len _ _ | .app _ _ _ _ | .callp _ _ _ | .clone _ _ _ | .lds _ _ | .new _ _ | .st _ _ _ | .call _ _ _ _ _ | .ob _ (.mks _ _ _ _)=>true
  | _=>false
def O.may:O→Bool
  | .g _ _ _ o=>o.base
  | o=>o.base
def swapB (x y:O):Bool:=
  apart x.wr y.rd && apart x.wr y.wr && apart x.rd y.wr &&
  (x.kind == 0 || y.kind == 0 || (x.kind == 1 && y.kind == 1) || (x.kind == 3 && y.kind == 3) || (x.kind == 1 && y.kind == 3 && x.loads) || (x.kind == 1 && y.kind == 2 && x.loads) || (x.kind == 2 && y.kind == 1 && y.loads))
def befs:List (List Nat)→List (List Nat)→List (List Nat)
  | acc,[]=>acc
  | acc,ds::r=>befs (acc++[ds++ds.flatMap fun y=>acc.getD y []]) r
abbrev Ops:=List (O × List Nat)
def opAt (l:Ops) (i:Nat):O:=(l.getD i (.bad,[])).1
def okQ (l:Ops) (b:List (List Nat)) (ex:Nat × Nat):List Nat→List Nat→Bool
  | _,[]=>true
  | pre,i::r=>pre.all (fun j=>(b.getD i []).contains j || swapB (opAt l j) (opAt l i) || (j == ex.1 && i == ex.2)) && okQ l b ex (i::pre) r
def okDeps (l:Ops):Bool:=(List.range l.length).all fun j=>((l.getD j (.bad,[])).2).all fun x=>decide (x < j)
def clash (l:Ops) (b:List (List Nat)):Nat × Nat:=
  (((List.range l.length).flatMap fun i=>((List.range i).filter fun j=>!((b.getD i []).contains j || swapB (opAt l j) (opAt l i))).map fun j=>(j,i))[0]?).getD (l.length,l.length)
def otherQ (n:Nat) (b:List (List Nat)) (e:Nat):List Nat:=
  ((List.range n).filter fun j=>(b.getD e []).contains j)++e::(List.range n).filter fun j=>!(b.getD e []).contains j && j != e
def nodupB:List Nat→Bool
  | []=>true
  | a::r=>!r.contains a && nodupB r
def drawC (l:Ops):C:=
  let b:=befs [] (l.map (·.2));let n:=l.length;let ex:=clash l b;let q:=otherQ n b ex.2
  if okDeps l && l.all (fun x=>x.1.may) then
    if okQ l b (n,n) [] (List.range n) then .reg (l.map (·.1))
    else if okQ l b ex [] (List.range n) && okQ l b (ex.2,ex.1) [] q && (nodupB q && q.all (fun x=>decide (x < n)) && (List.range n).all q.contains) then .drw (l.map (·.1)) (q.map (opAt l))
    else .bad
  else .bad
def afters (o:Oper):List Nat:=o.after.toList.filterMap fun e=>if Region.binds .any e then some e.on else none
def killAfter (ts:Option (List Nat)) (x:C):C:=
  match ts with
  | some ts=>.seq x (.reg [.kill ts])
  | none=>x
def killFirst (ts:Option (List Nat)) (x:C):C:=
  match ts with
  | some ts=>.seq (.reg [.kill ts]) x
  | none=>x
def condSlot:Operand→Nat
  | .tmp t=>t
  | _=>0
def orElse:Option Nat→Option Nat→Option Nat
  | some a,_=>some a
  | none,b=>b
def firstReg:Code→Option Nat
  | .region id _ _=>some id
  | .seq a b=>orElse (firstReg a) (firstReg b)
  | .cond _ a b=>orElse (firstReg a) (firstReg b)
  | .block _ a=>firstReg a
  | .loop a=>firstReg a
  | .scope a=>firstReg a
  | _=>none
def condKey (c:Operand) (a b:Code):Nat:=
  match firstReg a with
  | some r=>2*r
  | none=>match firstReg b with
    | some r=>2*r+1
    | none=>1000000+condSlot c
def prepCode (cx:Cx) (h:Hint) (P:Program):Code→C
  | .skip=>.skip
  | .region id ops false=>killAfter (h.kill.lookup id) (.reg (ops.toList.map (prepO cx h P false ops)))
  | .region id ops true=>killAfter (h.kill.lookup id) (drawC (ops.toList.map fun o=>(prepO cx h P true ops o,afters o)))
  | .seq a b=>.seq (prepCode cx h P a) (prepCode cx h P b)
  | .cond c a b=>match opA c with
    | some c'=>.cond c' (killFirst (h.kilt.lookup (condKey c a b)) (prepCode cx h P a)) (killFirst (h.kilf.lookup (condKey c a b)) (prepCode cx h P b))
    | none=>.bad
  | .block id a=>.block id (prepCode cx h P a)
  | .loop a=>.loop (prepCode cx h P a)
  | .exit id=>.exit id
  | .ret=>.ret
  | .scope a=>.scope (prepCode cx h P a)
  | .label _=>.skip
  | _=>.bad
def resOf (P:Program):List ResultVar→Option (List Rs)
  | []=>some []
  | .tmp t::r=>(resOf P r).map (.t t::·)
  | .cell a t::r=>bnd (szo P t) fun s=>(resOf P r).map (.cell a s::·)
def prepF (cx:Cx) (h:Hint) (P:Program) (fn:Func):Option Fun:=
  match fn.body with
  | some c=>(resOf P fn.results.toList).map fun rs=>⟨fn.ntmps,rs,prepCode cx h P c⟩
  | none=>none
end Go.Den
