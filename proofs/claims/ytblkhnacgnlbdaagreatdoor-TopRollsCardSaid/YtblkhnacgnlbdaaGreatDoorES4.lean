import Derived.Test.YtblkhnacgnlbdaaGreatDoorES3
import Derived.MapKept
set_option linter.all false
namespace Go.Den
variable {P:Program} {op:Oper} {d t:Nat} {s:St}
theorem fill_fold (off:Nat):∀ (l:List Value)(k:Nat)(cells:Array Value),(l.zipIdx k).foldl (fun cs (x:Value × Nat)=>cs.setIfInBounds (off+x.2) x.1) cells=arrPut cells (off+k) l
  | [],_,_=>rfl
  | v::r,k,cells=>by
    simp only [List.zipIdx_cons,List.foldl_cons,arrPut]
    exact fill_fold off r (k+1) _
theorem fill_cons {place:Nat→Option (Nat × Nat)}{cells:Array Value}{i:Nat}{v:Value}{rest:List (Nat × Value)}{off size:Nat}(h1:place i=some (off,size))(h2:v.cells.size=size)(h3:off+size≤cells.size) :
    Instr.fill place cells ((i,v)::rest)=Instr.fill place (arrPut cells off v.cells.toList) rest:=by
  subst h2
  have e:=fill_fold off v.cells.toList 0 cells
  rw [Nat.add_zero,← Array.toList_zipIdx] at e
  rw [Instr.fill,h1]
  simp only [ne_eq,not_true_eq_false,decide_false,Bool.false_or,decide_eq_true_eq]
  rw [if_neg (by simp;omega),← e,Array.foldl_toList]
def Parts (place:Nat→Option (Nat × Nat)):List (Nat × Operand)→List (Nat × Nat × A)→Prop
  | [],[]=>True
  | (i,x)::r,(off,n,y)::q=>place i=some (off,n)∧Opd x y∧Parts place r q
  | _,_=>False
theorem splice_rl {w:World}{g:G}{cs xs:List V}{vs:Array Value}{ys:List Value}{off:Nat}(h:RL w g cs vs.toList)(k:RL w g xs ys):RL w g (splice cs off xs) (arrPut vs off ys).toList:=by
  have hl:=RL_length h
  have kl:=RL_length k
  refine RL_of (by rw [splice_length,Array.length_toList,arrPut_size];simpa using hl) fun i v hv=>?_
  rw [splice_get] at hv
  rw [Array.getElem?_toList,arrPut_get]
  simp only [Array.length_toList] at hl
  split at hv
  · rename_i hc
    obtain ⟨x,hx,hr⟩:=RL_get k hv
    exact ⟨x,by rw [if_pos (by omega)];exact hx,hr⟩
  · rename_i hc
    obtain ⟨x,hx,hr⟩:=RL_get h hv
    exact ⟨x,by rw [if_neg (by omega),← Array.getElem?_toList];exact hx,hr⟩
theorem fill_ok {w0:World}{g0:G}{a:Act}{w:World}{place:Nat→Option (Nat × Nat)}:∀ {ps:List (Nat × Operand)}{l:List (Nat × Nat × A)}{s s':St}{g:G}{cs cs':List V}{vs:Array Value},Parts place ps l→Inv w0 g0 d s a w g→partsB l s cs=some (s',cs')→RL w g cs vs.toList →
    ∃ g' ys,Instr.fill place vs (ps.map fun p=>(p.1,a.eval p.2))=some ys∧Inv w0 g0 d s' a w g'∧RL w g' cs' ys.toList
  | [],[],s,s',g,cs,cs',vs,_,hI,h,hr=>by
    simp only [partsB,zI,zP] at h
    obtain ⟨rfl,rfl⟩:=h
    exact ⟨g,vs,rfl,hI,hr⟩
  | (i,x)::r,(off,n,y)::q,s,s',g,cs,cs',vs,hp,hI,h,hr=>by
    simp only [Parts] at hp
    obtain ⟨h1,hx,h2⟩:=hp
    simp only [partsB] at h
    cases hf:(y.ev s.r).sh.flat with
    | none=>rw [hf] at h;cases h
    | some xs =>
      rw [hf] at h
      simp only [bnd_some] at h
      split at h
      · rename_i hc
        obtain ⟨g1,I1,hr1,kp,hA⟩:=hx.dem hI
        obtain ⟨k1,k2⟩:=flat_cells hf hr1
        have kl:=RL_length k1
        have hl:=RL_length hr
        simp only [Array.length_toList] at kl hl
        have hr2:RL w g1 cs vs.toList:=RL_ext kp.toExt _ _ (fun q _=>kp.A q) hr
        obtain ⟨g2,ys,e1,e2,e3⟩:=fill_ok h2 I1 h (splice_rl (off:=off) hr2 k1)
        refine ⟨g2,ys,?_,e2,e3⟩
        rw [List.map_cons]
        show Instr.fill place vs ((i,a.eval x)::_)=_
        rw [fill_cons h1 (by omega) (by omega)]
        exact e1
      · cases h
  | [],_::_,_,_,_,_,_,_,h,_,_,_=>by simp only [Parts] at h
  | _::_,[],_,_,_,_,_,_,h,_,_,_=>by simp only [Parts] at h
theorem run_mapM_list {α β:Type}{w:World}{f:α→Sem β}{h:α→β}:∀ {l:List α},(∀ x ∈ l,(f x).run P w=.ok (h x) w)→(l.mapM f).run P w=.ok (l.map h) w
  | [],_=>by simp
  | x::r,hh=>by
    rw [List.mapM_cons]
    simp only [Sem.run_bind,hh x (by simp),Result.andThen_ok,run_mapM_list (l:=r) fun y hy=>hh y (by simp [hy]),Sem.run_pure,List.map_cons]
theorem run_mapM {α β:Type}{w:World}{f:α→Sem β}{h:α→β}{l:Array α}(hh:∀ x ∈ l.toList,(f x).run P w=.ok (h x) w):(l.mapM f).run P w=.ok (l.map h) w:=by
  rw [Array.mapM_eq_mapM_toList]
  rw [map_eq_pure_bind]
  simp only [Sem.run_bind,run_mapM_list hh,Result.andThen_ok,Sem.run_pure]
  congr 1
  apply Array.ext'
  simp
theorem info_of {T:TypeId}{u:TypeDesc}(h:P.underlying T=some u):∃ i,P.info? T=some i:=by
  unfold Program.underlying at h
  cases hi:P.info? T with
  | none=>rw [hi] at h;cases h
  | some i=>exact ⟨i,rfl⟩
theorem zeroT_under {n:Nat}{T:TypeId}{l:List V}(h:zeroT P n T=some l):∃ u,P.underlying T=some u:=by
  cases n with
  | zero=>cases h
  | succ n =>
    unfold zeroT at h
    cases hu:P.underlying T with
    | none=>rw [hu] at h;cases h
    | some u=>exact ⟨u,rfl⟩
theorem fields_info:∀ {fs:List Field}{n:Nat}{acc l:Option (List V)},fs.foldl (fun acc f=>bnd acc fun l=>(zeroT P n f.type).map (l++·)) acc=l→l≠none→acc≠none∧∀ f ∈ fs,∃ i,P.info? f.type=some i
  | [],n,acc,l,h,hl=>by
    simp only [List.foldl_nil] at h
    subst h
    exact ⟨hl,by simp⟩
  | f::r,n,acc,l,h,hl=>by
    rw [List.foldl_cons] at h
    obtain ⟨h1,h2⟩:=fields_info h hl
    cases ha:acc with
    | none=>rw [ha] at h1;exact absurd rfl h1
    | some x =>
      rw [ha] at h1
      simp only [bnd_some] at h1
      refine ⟨by simp,fun f' hf=>?_⟩
      rcases List.mem_cons.mp hf with rfl | hf
      · cases hz:zeroT P n f'.type with
        | none=>rw [hz] at h1;exact absurd rfl h1
        | some q=>obtain ⟨u,hu⟩:=zeroT_under hz;exact info_of hu
      · exact h2 f' hf
theorem zcells_fields {T:TypeId}{fs:Array Field}{l:List V}(hT:P.underlying T=some (.struct fs))(h:zcells P T=some l):∀ f ∈ fs.toList,∃ i,P.info? f.type=some i:=by
  unfold zcells at h
  cases h1:P.info? T with
  | none=>rw [h1] at h;cases h
  | some i =>
    rw [h1] at h
    simp only [bnd_some] at h
    cases h2:i.zero with
    | none=>rw [h2] at h;cases h
    | some z =>
      rw [h2] at h
      simp only [bnd_some] at h
      cases h3:zeroT P 6 T with
      | none=>rw [h3] at h;cases h
      | some q =>
        unfold zeroT at h3
        rw [hT] at h3
        exact (fields_info h3 (by simp)).2
theorem parts_struct {T:TypeId}{fs:Array Field}(hT:P.underlying T=some (.struct fs)):∀ {ps:List (Nat × Operand)}{l:List (Nat × Nat × A)},partsOf P T ps=some l →
    Parts (fun i=>(fs.map fun f=>(f.offset,((P.info? f.type).map (·.size)).getD 0))[i]?) ps l
  | [],l,h=>by simp only [partsOf] at h;cases h;simp only [Parts]
  | (i,x)::r,l,h=>by
    simp only [partsOf] at h
    cases h1:fieldOf P T i with
    | none=>rw [h1] at h;cases h
    | some f =>
      rw [h1] at h
      simp only [bnd_some] at h
      cases h2:opT P f.2.1 x with
      | none=>rw [h2] at h;cases h
      | some y =>
        rw [h2] at h
        simp only [bnd_some] at h
        cases h3:partsOf P T r with
        | none=>rw [h3] at h;cases h
        | some q =>
          rw [h3] at h
          simp only [bnd_some,zI] at h
          subst h
          simp only [Parts]
          obtain ⟨off,ft,sz⟩:=f
          obtain ⟨fs',f',i',e1,e2,e3,e4,e5,e6,e7⟩:=fieldOf_some h1
          rw [hT] at e1
          cases e1
          refine ⟨?_,opT_cases h2,parts_struct hT h3⟩
          rw [Array.getElem?_map,e2]
          simp [e3,e4,e6]
theorem parts_arr {z:Nat}:∀ {ps:List (Nat × Operand)}{l:List (Nat × Nat × A)},partsA z ps=some l→Parts (fun i=>some (i*z,z)) ps l
  | [],l,h=>by simp only [partsA] at h;cases h;simp only [Parts]
  | (i,x)::r,l,h=>by
    simp only [partsA] at h
    cases h2:opA x with
    | none=>rw [h2] at h;cases h
    | some y =>
      rw [h2] at h
      simp only [bnd_some] at h
      cases h3:partsA z r with
      | none=>rw [h3] at h;cases h
      | some q =>
        rw [h3] at h
        simp only [bnd_some,zI] at h
        subst h
        simp only [Parts]
        exact ⟨trivial,opA_cases h2,parts_arr h3⟩
theorem ok_build_struct {T:TypeId}{ps:Array (Nat × Operand)}{l:List (Nat × Nat × A)}{fs:Array Field}{zero:List V}{s':St}{cs:List V}(ho:op.op=.build T ps)(hd:op.dst=some t)(hT:P.underlying T=some (.struct fs))(hz:zcells P T=some zero)(hp:partsOf P T ps.toList=some l)
    (h:partsB l s zero=some (s',cs)):OpOk P op d s (s'.put t (.agg cs)):=by
  refine .value fun w0 g0 a w g hI=>?_
  obtain ⟨i,zv,hi,hzz,hok,_⟩:=zcells_some hz
  obtain ⟨g',ys,e1,e2,e3⟩:=fill_ok (parts_struct hT hp) hI h (okZ_r hok)
  have hm:(fs.mapM fun f=>do pure (f.offset,← sizeOf f.type):Sem (Array (Nat × Nat))).run P w=.ok (fs.map fun f=>(f.offset,((P.info? f.type).map (·.size)).getD 0)) w:=
    run_mapM fun f hf=>by
      obtain ⟨j,hj⟩:=zcells_fields hT hz f hf
      simp only [Sem.run_bind,sizeOf,run_typeInfo w hj,Sem.run_pure,Result.andThen_ok,hj,Option.map_some,Option.getD_some]
  refine ⟨.agg ys,w,g',?_,by rw [hd];exact e2.put (by simp only [RT,R];exact ⟨ys,rfl,e3⟩)⟩
  simp only [execOp,ho,Instr.build,zeroValue,Sem.run_bind,run_typeInfo w hi,Result.andThen_ok,hzz,Sem.run_pure,run_underlying hT,hm,Array.toList_map]
  rw [e1]
  simp
theorem ok_build_arr {T e:TypeId}{m:Nat}{i0:TypeInfo}{ps:Array (Nat × Operand)}{l:List (Nat × Nat × A)}{zero:List V}{s':St}{cs:List V}(ho:op.op=.build T ps)(hd:op.dst=some t)(hT:P.underlying T=some (.array m e))(hz:zcells P T=some zero)(hi0:P.info? e=some i0)(hp:partsA i0.size ps.toList=some l)
    (h:partsB l s zero=some (s',cs)):OpOk P op d s (s'.put t (.agg cs)):=by
  refine .value fun w0 g0 a w g hI=>?_
  obtain ⟨i,zv,hi,hzz,hok,_⟩:=zcells_some hz
  obtain ⟨g',ys,e1,e2,e3⟩:=fill_ok (parts_arr hp) hI h (okZ_r hok)
  refine ⟨.agg ys,w,g',?_,by rw [hd];exact e2.put (by simp only [RT,R];exact ⟨ys,rfl,e3⟩)⟩
  simp only [execOp,ho,Instr.build,zeroValue,Sem.run_bind,run_typeInfo w hi,Result.andThen_ok,hzz,Sem.run_pure,run_underlying hT,sizeOf,run_typeInfo w hi0,Array.toList_map]
  rw [e1]
  simp
end Go.Den
namespace Go.Den
variable {P:Program} {op:Oper} {d t:Nat} {s:St}
def Mat (w:World)(g:G)(z:Nat)(es:List (List V))(vs:Array Value):Prop:=
  vs.size=es.length*z∧∀ (i:Nat) e,es[i]?=some e→e.length=z∧∀ (j:Nat) v,e[j]?=some v→∃ y,vs[i*z+j]?=some y∧R w g v y
theorem Mat.ext {w w':World}{g g':G}{S:Lc→Prop}{T:Key→Prop}(h:Keep w g w' g' S T){z:Nat}{es:List (List V)}{vs:Array Value}(k:Mat w g z es vs):Mat w' g' z es vs:=
  ⟨k.1,fun i e hi=>⟨(k.2 i e hi).1,fun j v hv=>let ⟨y,hy,hr⟩:=(k.2 i e hi).2 j v hv;⟨y,hy,h.r hr⟩⟩⟩
theorem Mat.put {w:World}{g:G}{z i:Nat}{es:List (List V)}{vs:Array Value}{xs:List V}{ys:List Value}(h:Mat w g z es vs)(k:RL w g xs ys)(hl:xs.length=z)(hi:i < es.length):Mat w g z (es.set i xs) (arrPut vs (i*z) ys):=by
  have kl:=RL_length k
  have hb:i*z+z≤es.length*z:=by
    have:=Nat.mul_le_mul_right z (show i+1≤es.length by omega)
    rwa [Nat.add_mul,Nat.one_mul] at this
  refine ⟨by rw [arrPut_size,List.length_set];exact h.1,fun q e hq=>?_⟩
  rw [List.getElem?_set] at hq
  by_cases hqi:i=q
  · subst hqi
    rw [if_pos rfl,if_pos hi] at hq
    cases hq
    refine ⟨hl,fun j v hv=>?_⟩
    obtain ⟨y,hy,hr⟩:=RL_get k hv
    have hj:=(List.getElem?_eq_some_iff.1 hv).1
    refine ⟨y,?_,hr⟩
    rw [arrPut_get,if_pos (by have:=h.1;omega),show i*z+j - i*z=j by omega]
    exact hy
  · rw [if_neg hqi] at hq
    obtain ⟨k1,k2⟩:=h.2 q e hq
    refine ⟨k1,fun j v hv=>?_⟩
    obtain ⟨y,hy,hr⟩:=k2 j v hv
    have hj:=(List.getElem?_eq_some_iff.1 hv).1
    refine ⟨y,?_,hr⟩
    rw [arrPut_get,if_neg]
    · exact hy
    · rcases Nat.lt_or_gt_of_ne hqi with h | h
      · have:i*z+z≤q*z:=by have:=Nat.mul_le_mul_right z (show i+1≤q by omega);rw [Nat.add_mul,Nat.one_mul] at this;exact this
        omega
      · have:q*z+z≤i*z:=by have:=Nat.mul_le_mul_right z (show q+1≤i by omega);rw [Nat.add_mul,Nat.one_mul] at this;exact this
        omega
theorem fillL_ok {w0:World}{g0:G}{a:Act}{w:World}{z:Nat}:∀ {ps:List (Nat × Operand)}{l:List (Nat × A)}{s s':St}{g:G}{es es':List (List V)}{vs:Array Value},partsS ps=some l→Inv w0 g0 d s a w g→partsL z l s es=some (s',es')→Mat w g z es vs →
    ∃ g' ys,Instr.fill (fun i=>some (i*z,z)) vs (ps.map fun p=>(p.1,a.eval p.2))=some ys∧Inv w0 g0 d s' a w g'∧Mat w g' z es' ys
  | [],l,s,s',g,es,es',vs,hp,hI,h,hr=>by
    simp only [partsS,zI] at hp
    subst hp
    simp only [partsL,zI,zP] at h
    obtain ⟨rfl,rfl⟩:=h
    exact ⟨g,vs,rfl,hI,hr⟩
  | (i,x)::r,l,s,s',g,es,es',vs,hp,hI,h,hr=>by
    simp only [partsS] at hp
    cases h2:opA x with
    | none=>rw [h2] at hp;cases hp
    | some y =>
      rw [h2] at hp
      simp only [bnd_some] at hp
      cases h3:partsS r with
      | none=>rw [h3] at hp;cases hp
      | some q =>
        rw [h3] at hp
        simp only [bnd_some,zI] at hp
        subst hp
        have hx:Opd x y:=opA_cases h2
        simp only [partsL] at h
        cases hf:(y.ev s.r).sh.flat with
        | none=>rw [hf] at h;cases h
        | some xs =>
          rw [hf] at h
          simp only [bnd_some] at h
          split at h
          · rename_i hc
            obtain ⟨g1,I1,hr1,kp,hA⟩:=hx.dem hI
            obtain ⟨k1,k2⟩:=flat_cells hf hr1
            have kl:=RL_length k1
            simp only [Array.length_toList] at kl
            have hb:i*z+z≤es.length*z:=by
              have:=Nat.mul_le_mul_right z (show i+1≤es.length by omega)
              rwa [Nat.add_mul,Nat.one_mul] at this
            obtain ⟨g2,ys,e1,e2,e3⟩:=fillL_ok h3 I1 h ((Mat.ext kp hr).put k1 hc.1 hc.2)
            refine ⟨g2,ys,?_,e2,e3⟩
            rw [List.map_cons]
            show Instr.fill (fun i=>some (i*z,z)) vs ((i,a.eval x)::_)=_
            rw [fill_cons (off:=i*z) (size:=z) rfl (by omega) (by have:=hr.1;omega)]
            exact e1
          · cases h
theorem mat_made {w:World}{g:G}{zero:List V}{zs:Array Value}(h:RL w g zero zs.toList)(n:Nat):Mat w g zero.length (List.replicate n zero) (madeCells zs (n*zero.length)):=by
  have hl:=RL_length h
  simp only [Array.length_toList] at hl
  refine ⟨by rw [size_madeCells,List.length_replicate],fun q e hq=>?_⟩
  obtain ⟨hql,hqe⟩:=List.getElem?_eq_some_iff.1 hq
  simp at hql hqe
  subst hqe
  refine ⟨rfl,fun j v hv=>?_⟩
  obtain ⟨y,hy,hr⟩:=RL_get h hv
  have hj:=(List.getElem?_eq_some_iff.1 hv).1
  have hb1:(q+1)*zero.length≤n*zero.length:=Nat.mul_le_mul_right _ (by omega)
  rw [Nat.add_mul,Nat.one_mul] at hb1
  refine ⟨y,?_,hr⟩
  have hm:(q*zero.length+j) % zero.length=j:=by rw [Nat.mul_comm q,Nat.mul_add_mod,Nat.mod_eq_of_lt hj]
  unfold madeCells
  rw [Array.getElem?_map,Array.getElem?_eq_getElem (by simpa using (by omega:q*zero.length+j < n*zero.length)),Option.map_some,Array.getElem_range,hl,hm,getElem!_pos zs _ (by omega),← Array.getElem?_eq_getElem,← Array.getElem?_toList]
  exact hy
theorem run_buildSlice {w:World}{T e:TypeId}{i:TypeInfo}{zv:Value}{n:Nat}{parts:Array (Nat × Value)}{ys:Array Value}(hT:P.underlying T=some (.slice e))(hi:P.info? e=some i)(hz:i.zero=some zv)(hn:n*i.size≤16777216)
    (h:Instr.fill (fun q=>some (q*i.size,i.size)) (madeCells zv.cells (n*i.size)) parts.toList=some ys):(Instr.buildSlice T n parts).run P w=.ok (.slice (some ⟨w.heap.size,0,none⟩) n n) (w.alloc (.cells ys e (0,0))):=by
  have hn':¬ (16777216 < n*i.size):=by omega
  by_cases h0:n*i.size=0
  · have e1:(Array.range (n*i.size)).map (fun x=>((#[]:Array Value)[x % (#[]:Array Value).size]!:Value))=madeCells zv.cells (n*i.size):=by rw [h0];simp [madeCells]
    simp only [Instr.buildSlice,Sem.run_bind,run_underlying hT,Result.andThen_ok,sizeOf,run_typeInfo w hi,Sem.run_pure]
    simp [h0] at e1 h ⊢
    simp [e1,h,newRow]
  · have e1:(Array.range (n*i.size)).map (fun x=>(zv.cells[x % zv.cells.size]!:Value))=madeCells zv.cells (n*i.size):=rfl
    simp only [Instr.buildSlice,Sem.run_bind,run_underlying hT,Result.andThen_ok,sizeOf,run_typeInfo w hi,Sem.run_pure]
    simp [hn',h0,zeroValue,typeInfo,hi,hz,e1,h,newRow]
theorem ok_lit {T e:TypeId}{n:Nat}{ps:Array (Nat × Operand)}{l:List (Nat × A)}{zero:List V}{s':St}{es:List (List V)}(ho:op.op=.buildSlice T n ps)(hd:op.dst=some t)(hT:P.underlying T=some (.slice e))(hz:zcells P e=some zero)(hp:partsS ps.toList=some l)(hn:n*zero.length≤16777216)
    (h:partsL zero.length l s (List.replicate n zero)=some (s',es)) (hes:es.all (·.all V.pure)=true):OpOk P op d s (s'.put t (.sl zero.length es .uniq)):=by
  refine .value fun w0 g0 a w g hI=>?_
  obtain ⟨i,zv,hi,hzz,hok,hlz,_⟩:=zcells_some hz
  rw [hlz] at hn h ⊢
  have hm:=mat_made (w:=w) (g:=g) (okZ_r hok) n
  rw [hlz] at hm
  obtain ⟨g',ys,e1,e2,e3⟩:=fillL_ok hp hI h hm
  have hlen:es.length=n:=by
    clear e1 e2 e3 hm
    have:∀ {l:List (Nat × A)} {s s':St} {es es':List (List V)},partsL i.size l s es=some (s',es')→es'.length=es.length:=by
      intro l
      induction l with
      | nil=>intro s s' es es' h;simp only [partsL,zI,zP] at h;rw [h.2]
      | cons q r ih =>
        intro s s' es es' h
        obtain ⟨j,y⟩:=q
        simp only [partsL] at h
        cases hf:(y.ev s.r).sh.flat with
        | none=>rw [hf] at h;cases h
        | some xs =>
          rw [hf] at h
          simp only [bnd_some] at h
          split at h
          · rw [ih h,List.length_set]
          · cases h
    rw [this h,List.length_replicate]
  have rows:Rows' w g'.K i.size ys.toList es:=by
    refine ⟨by simpa using e3.1,fun q r hq=>⟨(e3.2 q r hq).1,fun j v hv=>?_⟩⟩
    obtain ⟨y,hy,hr⟩:=(e3.2 q r hq).2 j v hv
    exact ⟨y,by simpa using hy,R_RP (List.all_eq_true.mp (List.all_eq_true.mp hes r (List.mem_of_getElem? hq)) v (List.mem_of_getElem? hv)) hr⟩
  obtain ⟨g2,I2⟩:=e2.newRow (t:=t) (c:=n) (e:=e) (fz:=(0,0)) (cur:=ys) rows (rest:=[]) (by simp) (by omega) (by rw [e3.1,hlen]) (thaw_zero _)
  have hrun:=run_buildSlice (P:=P) (w:=w) (parts:=ps.map fun p=>(p.1,a.eval p.2)) hT hi hzz hn (by rw [Array.toList_map];exact e1)
  refine ⟨_,_,g2,by simp only [execOp,ho,Sem.run_bind,hrun,Result.andThen_ok,Sem.run_pure];rfl,?_⟩
  rw [hd]
  rw [hlen] at I2
  exact I2
theorem partsL_len {z:Nat}:∀ {l:List (Nat × A)}{s s':St}{es es':List (List V)},partsL z l s es=some (s',es')→es'.length=es.length
  | [],s,s',es,es',h=>by simp only [partsL,zI,zP] at h;rw [h.2]
  | (j,y)::r,s,s',es,es',h=>by
    simp only [partsL] at h
    cases hf:(y.ev s.r).sh.flat with
    | none=>rw [hf] at h;cases h
    | some xs =>
      rw [hf] at h
      simp only [bnd_some] at h
      split at h
      · rw [partsL_len h,List.length_set]
      · cases h
theorem ok_lito {T e:TypeId}{n:Nat}{ps:Array (Nat × Operand)}{l:List (Nat × A)}{zero:List V}{s' s1:St}{es:List (List V)}(ho:op.op=.buildSlice T n ps)(hd:op.dst=some t)(hT:P.underlying T=some (.slice e))(hz:zcells P e=some zero)(hp:partsS ps.toList=some l)(hn:n*zero.length≤16777216)
    (h:partsL zero.length l s (List.replicate n zero)=some (s',es)) (hadd:s'.add t 0 (.cells zero.length es)=some s1):OpOk P op d s (s1.put t (.arr (d,t,0) zero.length 0 n)):=by
  refine .value fun w0 g0 a w g hI=>?_
  obtain ⟨i,zv,hi,hzz,hok,hlz,_⟩:=zcells_some hz
  rw [hlz] at hn h hadd ⊢
  have hm:=mat_made (w:=w) (g:=g) (okZ_r hok) n
  rw [hlz] at hm
  obtain ⟨g',ys,e1,e2,e3⟩:=fillL_ok hp hI h hm
  have hrun:=run_buildSlice (P:=P) (w:=w) (parts:=ps.map fun p=>(p.1,a.eval p.2)) hT hi hzz hn (by rw [Array.toList_map];exact e1)
  have k1:=keep_alloc w g' (.cells ys e (0,0)) (.obj (d,t,0)) (fun _=>True) (fun _=>True)
  have k2:=k1.trans (keep_addA _ _ (d,t,0) (w.heap.size,i.size) (show (setKd g' w.heap.size (.obj (d,t,0))).A (d,t,0)=none from e2.free hadd) _ _)
  refine ⟨_,_,addA (setKd g' w.heap.size (.obj (d,t,0))) (d,t,0) (w.heap.size,i.size),by simp only [execOp,ho,Sem.run_bind,hrun,Result.andThen_ok,Sem.run_pure];rfl,?_⟩
  rw [hd]
  refine (e2.new hadd k2 (x:=(w.heap.size,i.size)) (fun _=>rfl) ?_).put ?_
  · simp only [ObjR]
    refine ⟨w.heap.size,ys,e,(0,0),by simp [addA],by simp [addA,setKd],heap_alloc_new _ _,thaw_zero _,fun q r hq=>⟨(e3.2 q r hq).1,fun j v hv=>?_⟩⟩
    obtain ⟨y,hy,hry⟩:=(e3.2 q r hq).2 j v hv
    exact ⟨y,hy,(RT_not (R_uq hry)).mpr (k2.r hry)⟩
  · simp only [RT,R]
    exact ⟨w.heap.size,_,n,by simp [addA],rfl,Nat.le_refl _,.inl ⟨by simp,by rw [rowSize_cells (heap_alloc_new _ _),e3.1,Nat.zero_add];have:=partsL_len h;simp at this;rw [this];exact Nat.le_refl _⟩⟩
end Go.Den
namespace Go.Den
variable {P:Program} {op:Oper} {d t:Nat} {s:St}
theorem keep_setObj {w:World}{g:G}{b:Nat}{k:Key}{o:Go.Obj}(h:g.K b=.obj k)(hz:rowSize w b=0):Keep w g { w with heap:=w.heap.setIfInBounds b o } g (fun _=>True) (fun q=>q≠k):=by
  have hb:∀ x,x≠b→(w.heap.setIfInBounds b o)[x]?=w.heap[x]?:=fun x hx=>by simp [Ne.symm hx]
  refine ⟨⟨by simp,fun x _ hi=>⟨hi,hb x (by rintro rfl;rw [h] at hi;cases hi)⟩,fun x _=>by
    by_cases hx:x=b
    · subst hx;rw [hz];exact Nat.zero_le _
    · exact rowSize_of (hb x hx)⟩,rfl,rfl,rfl,fun x _ hi=>⟨hi,hb x (by rintro rfl;rw [h] at hi;cases hi)⟩,
    fun l _ x _ hi=>⟨hi,hb x (by rintro rfl;rw [h] at hi;cases hi)⟩,fun q hq x _ hi=>⟨hi,hb x (by rintro rfl;rw [h] at hi;cases hi;exact hq rfl)⟩,fun _ _ h=>h⟩
theorem Inv.newObj {w0:World}{g0:G}{s s1:St}{a:Act}{w:World}{g:G}(hI:Inv w0 g0 d s a w g){o:Obj}{go:Go.Obj}(h:s.add t 0 o=some s1){v:V}{x:Value}(hv:v=.ptr (d,t,0) 0 0∧x=.pointer (some ⟨w.heap.size,0,none⟩)∨v=.map (d,t,0)∧x=.map (some w.heap.size))
    (ho:∀ g',g'.A (d,t,0)=some (w.heap.size,0)→g'.K w.heap.size=.obj (d,t,0)→ObjR (w.alloc go) g' (d,t,0) o):∃ g',Inv w0 g0 d (s1.put t v) (a.put (some t) x) (w.alloc go) g':=by
  have k1:=keep_alloc w g go (.obj (d,t,0)) (fun _=>True) (fun _=>True)
  have k2:=k1.trans (keep_addA _ _ (d,t,0) (w.heap.size,0) (show (setKd g w.heap.size (.obj (d,t,0))).A (d,t,0)=none from hI.free h) _ _)
  refine ⟨_,(hI.new h k2 (x:=(w.heap.size,0)) (fun _=>rfl) (ho _ (by simp [addA]) (by simp [addA,setKd]))).put ?_⟩
  rcases hv with ⟨rfl,rfl⟩ | ⟨rfl,rfl⟩
  · simp only [RT,R];exact ⟨w.heap.size,0,by simp [addA],by simp⟩
  · simp only [RT,R];exact ⟨w.heap.size,by simp [addA],rfl⟩
theorem ok_rng {T:TypeId}{x:Operand}{x':A}{b:ByteArray}{s1:St}(ho:op.op=.range T x)(hd:op.dst=some t)(hT:P.underlying T=some .string)(hx:Opd x x')(h:x'.ev s.r=.str b)(hs:s.add t 0 (.iter b 0)=some s1):OpOk P op d s (s1.put t (.ptr (d,t,0) 0 0)):=
  .value fun w0 g0 a w g hI=>by
    obtain ⟨g',I'⟩:=hI.newObj (go:=.stringIter b 0) hs (.inl ⟨rfl,rfl⟩) fun g' hA hK=>by
      simp only [ObjR]
      exact ⟨w.heap.size,hA,hK,heap_alloc_new _ _⟩
    refine ⟨_,_,g',?_,by rw [hd];exact I'⟩
    simp [execOp,ho,hx.str hI h,Instr.range,run_underlying hT]
theorem ok_nxt {u:Nat}{k:Key}{b:ByteArray}{p:Nat}(ho:op.op=.next (.tmp u) true)(hd:op.dst=some t)(h:rget s.r u=.ptr k 0 0)(hg:s.get d k=some (.iter b p)) :
    OpOk P op d s (if p < b.size then (s.set d k (.iter b (p+(Utf8.decode b p).2))).put t (.tup [.bool true,.int .i64 p,.int .i32 (Utf8.decode b p).1]) else s.put t (.tup [.bool false])):=
  .value fun w0 g0 a w g hI=>by
    have hr:=hI.regs u
    rw [h] at hr
    simp only [RT,R] at hr
    obtain ⟨c,z,hA,hx⟩:=hr
    rw [Nat.zero_mul,Nat.zero_add] at hx
    have hob:=hI.objs k _ hg
    simp only [ObjR] at hob
    obtain ⟨c',h1,h2,h3⟩:=hob
    rw [hA] at h1
    cases h1
    have hgo:(getObj c).run P w=.ok (.stringIter b p) w:=by simp [getObj,Sem.run,h3]
    by_cases hp:p < b.size
    · have hse:(setObj c (.stringIter b (p+(Utf8.decode b p).2))).run P w=.ok () { w with heap:=w.heap.setIfInBounds c (.stringIter b (p+(Utf8.decode b p).2)) }:=by simp [setObj,Sem.run,h3]
      refine ⟨.tuple #[.bool true,.int .i64 p,.int .i32 (Utf8.decode b p).1],{ w with heap:=w.heap.setIfInBounds c (.stringIter b (p+(Utf8.decode b p).2)) },g,?_,?_⟩
      rotate_left
      · rw [hd,if_pos hp]
        refine (hI.obj hg (o':=.iter b (p+(Utf8.decode b p).2)) ((keep_setObj (o:=.stringIter b (p+(Utf8.decode b p).2)) h2 (by unfold rowSize;rw [h3])).weak (fun _ _=>trivial) (fun _ h=>h)) (fun _=>rfl) ?_).put ?_
        · simp only [ObjR]
          exact ⟨c,hA,h2,(MapKept.heap_set h3).1⟩
        · simp only [RT,R]
          exact ⟨_,rfl,by simp [RL,R]⟩
      · simp only [execOp,ho,Act.eval,hx,Instr.next,Sem.run_bind,hgo,Result.andThen_ok,hp,if_true,hse,Sem.run_pure]
        rfl
    · refine ⟨.tuple #[.bool false],w,g,?_,?_⟩
      · simp only [execOp,ho,Act.eval,hx,Instr.next,Sem.run_bind,hgo,Result.andThen_ok,hp,if_false,Sem.run_pure]
      · rw [hd,if_neg hp]
        refine hI.put ?_
        simp only [RT,R]
        exact ⟨_,rfl,by simp [RL,R]⟩
theorem ok_mkm {T:TypeId}{s1:St}(ho:op.op=.makeMap T none)(hd:op.dst=some t)(hs:s.add t 0 (.map [])=some s1):OpOk P op d s (s1.put t (.map (d,t,0))):=
  .value fun w0 g0 a w g hI=>by
    obtain ⟨g',I'⟩:=hI.newObj (go:=.map #[] 0) hs (.inr ⟨rfl,rfl⟩) fun g' hA hK=>by
      simp only [ObjR]
      exact ⟨w.heap.size,#[],0,hA,hK,heap_alloc_new _ _,rfl,by simp⟩
    refine ⟨_,_,g',?_,by rw [hd];exact I'⟩
    simp [execOp,ho,Instr.makeMap]
def tgD:Tg→TypeDesc
  | .str=>.string
  | .int k=>.int k
  | .bool=>.bool
theorem isKey_cases {ks:Tg}{v:V}(h:V.isKey ks v=true):(∃ b,ks=.str∧v=.str b)∨∃ k n,ks=.int k∧v=.int k n:=by
  unfold V.isKey at h
  split at h
  · exact .inl ⟨_,rfl,rfl⟩
  · rename_i q k n;have:=of_decide_eq_true h;subst this;exact .inr ⟨_,_,rfl,rfl⟩
  · cases h
theorem isKey_R {w:World}{g:G}{ks:Tg}{v:V}{x:Value}(h:V.isKey ks v=true)(r:R w g v x):MapKept.IsKey (tgD ks) x:=by
  rcases isKey_cases h with ⟨b,rfl,rfl⟩ | ⟨k,n,rfl,rfl⟩
  · simp only [R] at r;subst r;trivial
  · simp only [R] at r;subst r;exact rfl
theorem key_same {w:World}{g:G}{ks:Tg}{v u:V}{x y:Value}{t:Bool}(h:V.isKey ks v=true)(r:R w g v x)(q:R w g u y)(e:keyEq v u=some t):Instr.sameNow (tgD ks) x y=some t∧(t=true→y=x):=by
  rcases isKey_cases h with ⟨b,rfl,rfl⟩ | ⟨k,n,rfl,rfl⟩
  · cases u<;>simp only [keyEq] at e<;>first | cases e | skip
    simp only [R] at r q
    subst r q
    exact ⟨rfl,fun h=>by rw [(MapKept.bytes_beq _ _).mp h]⟩
  · cases u<;>simp only [keyEq] at e<;>first | cases e | skip
    simp only [R] at r q
    subst r q
    split at e
    · rename_i hk
      subst hk
      cases e
      exact ⟨by simp [tgD,Instr.sameNow],fun h=>by rw [eq_of_beq h]⟩
    · cases e
def Ents (w:World)(g:G)(es:List (V × V))(l:List MapEntry):Prop:=
  es.length=l.length∧∀ (i:Nat) (p:V × V),es[i]?=some p→∃ m:MapEntry,l[i]?=some m∧R w g p.1 m.key∧R w g p.2 m.val∧p.1.keys=[]∧p.2.keys=[]
theorem Ents.tail {w:World}{g:G}{p:V × V}{es:List (V × V)}{m:MapEntry}{l:List MapEntry}(h:Ents w g (p::es) (m::l)):Ents w g es l:=
  ⟨by simpa using h.1,fun i p hp=>by simpa using h.2 (i+1) p (by simpa using hp)⟩
theorem mget_ok {w:World}{g:G}{ks:Tg}{kv:V}{x:Value}(hk:V.isKey ks kv=true)(hr:R w g kv x):∀ {es:List (V × V)}{l:List MapEntry}{o:Option V}(i:Nat),Ents w g es l→mget kv es=some o →
    (o=none∧Instr.findNow (tgD ks) x l i=some none)∨∃ v j,∃ m:MapEntry,o=some v∧Instr.findNow (tgD ks) x l i=some (some (j,m.val))∧R w g v m.val
  | [],l,o,i,h,e=>by
    simp only [mget,zI] at e
    cases l with
    | cons _ _=>have:=h.1;simp at this
    | nil=>exact .inl ⟨e.symm,rfl⟩
  | (a,b)::r,[],o,i,h,e=>by have:=h.1;simp at this
  | (a,b)::r,m::l,o,i,h,e=>by
    simp only [mget] at e
    cases hq:keyEq kv a with
    | none=>rw [hq] at e;cases e
    | some t =>
      rw [hq] at e
      simp only [bnd_some] at e
      obtain ⟨m',hm,h1,h2,_⟩:=h.2 0 (a,b) rfl
      simp at hm
      subst hm
      obtain ⟨k1,_⟩:=key_same hk hr h1 hq
      cases t with
      | true=>simp only [cond_true,zI] at e;exact .inr ⟨b,i,m,e.symm,by simp [Instr.findNow,k1],h2⟩
      | false =>
        simp only [cond_false] at e
        rcases mget_ok hk hr (i+1) h.tail e with ⟨e1,e2⟩ | ⟨v,j,m',e1,e2,e3⟩
        · exact .inl ⟨e1,by simp [Instr.findNow,k1,e2]⟩
        · exact .inr ⟨v,j,m',e1,by simp [Instr.findNow,k1,e2],e3⟩
theorem mset_ok {w:World}{g:G}{ks:Tg}{kv v:V}{x:Value}(hk:V.isKey ks kv=true)(hr:R w g kv x):∀ {es es':List (V × V)}{l:List MapEntry}(i:Nat),Ents w g es l→mset kv v es=some es' →
    (es'=es++[(kv,v)]∧Instr.findNow (tgD ks) x l i=some none)∨∃ j,∃ m:MapEntry,l[j]?=some m∧es'=es.set j (kv,v)∧Instr.findNow (tgD ks) x l i=some (some (i+j,m.val))∧m.key=x
  | [],es',l,i,h,e=>by
    simp only [mset,zI] at e
    cases l with
    | cons _ _=>have:=h.1;simp at this
    | nil=>exact .inl ⟨e.symm,rfl⟩
  | (a,b)::r,es',[],i,h,e=>by have:=h.1;simp at this
  | (a,b)::r,es',m::l,i,h,e=>by
    simp only [mset] at e
    cases hq:keyEq kv a with
    | none=>rw [hq] at e;cases e
    | some t =>
      rw [hq] at e
      simp only [bnd_some] at e
      obtain ⟨m',hm,h1,h2,_⟩:=h.2 0 (a,b) rfl
      simp at hm
      subst hm
      obtain ⟨k1,k2⟩:=key_same hk hr h1 hq
      cases t with
      | true=>simp only [cond_true,zI] at e;exact .inr ⟨0,m,rfl,e.symm,by simp [Instr.findNow,k1],k2 rfl⟩
      | false =>
        simp only [cond_false] at e
        cases hm:mset kv v r with
        | none=>rw [hm] at e;cases e
        | some q =>
          rw [hm] at e
          simp only [bnd_some,zI] at e
          rcases mset_ok hk hr (i+1) h.tail hm with ⟨e1,e2⟩ | ⟨j,m',e1,e2,e3,e4⟩
          · exact .inl ⟨by rw [← e,e1];rfl,by simp [Instr.findNow,k1,e2]⟩
          · exact .inr ⟨j+1,m',by simpa using e1,by rw [← e,e2];rfl,by simp [Instr.findNow,k1,e3];omega,e4⟩
theorem keyT_some {T:TypeId}{ks:Tg}(h:keyT P T=some ks):∃ kt e,P.underlying T=some (.map kt e)∧P.underlying kt=some (tgD ks):=by
  unfold keyT at h
  split at h
  · rename_i k e hT
    split at h
    · rename_i hk;cases h;exact ⟨k,e,hT,hk⟩
    · rename_i q hk;cases h;exact ⟨k,e,hT,hk⟩
    · cases h
  · cases h
theorem ok_mset {T:TypeId}{m k x:Operand}{m' k' x':A}{ks:Tg}{y:Key}{es es':List (V × V)}(ho:op.op=.mapUpdate T m k x∨op.op=.insert T m k x)(hd:op.dst=none)(hT:keyT P T=some ks)(hm:Opd m m')(hk:Opd k k')(hx:Opd x x')
    (h1:m'.ev s.r=.map y) (h2:s.get d y=some (.map es)) (h3:V.isKey ks (k'.ev s.r)=true) (h4:(x'.ev s.r).keys=[]) (h5:(x'.ev s.r).uq=false) (h:mset (k'.ev s.r) (x'.ev s.r) es=some es'):OpOk P op d s (s.set d y (.map es')):=
  .skip fun w0 g0 a w g hI=>by
    obtain ⟨kt,e,hu,hkt⟩:=keyT_some hT
    have hkq:(k'.ev s.r).uq=false∧(k'.ev s.r).keys=[]:=by
      rcases isKey_cases h3 with ⟨b,_,e⟩ | ⟨q,n,_,e⟩<;>rw [e]<;>exact ⟨rfl,by simp only [V.keys]⟩
    have rm:=hm.r hI (by rw [h1];rfl)
    rw [h1] at rm
    simp only [R] at rm
    obtain ⟨b,hA,hme⟩:=rm
    have rk:=hk.r hI hkq.1
    have rx:=hx.r hI h5
    have hob:=hI.objs y _ h2
    simp only [ObjR] at hob
    obtain ⟨b',ents,clock,e1,e2,e3,e4,e5⟩:=hob
    rw [hA] at e1
    cases e1
    have hE:Ents w g es ents.toList:=⟨by simpa using e4,fun i p hp=>by obtain ⟨m,hm,hr⟩:=e5 i p hp;exact ⟨m,by simpa using hm,hr⟩⟩
    have hkey:=isKey_R h3 rk
    have hck:=MapKept.run_checkKey (P:=P) (w:=w) hkt hkey false 9999
    have hgo:=MapKept.run_getObj_map (P:=P) e3
    rcases mset_ok (v:=x'.ev s.r) h3 rk 0 hE h with ⟨rfl,hf⟩ | ⟨j,me,hj,rfl,hf,hmk⟩
    · have hfk:=MapKept.run_findKey (P:=P) (w:=w) hkt hf
      have hse:=MapKept.run_setObj_map (P:=P) (.map (ents.push { key:=a.eval k,val:=a.eval x,born:=clock }) (clock+1)) e3
      refine ⟨{ w with heap:=w.heap.setIfInBounds b (.map (ents.push { key:=a.eval k,val:=a.eval x,born:=clock }) (clock+1)) },g,?_,?_⟩
      rotate_left
      · rw [hd]
        have kp:=keep_setObj (w:=w) (o:=.map (ents.push { key:=a.eval k,val:=a.eval x,born:=clock }) (clock+1)) e2 (by unfold rowSize;rw [e3])
        refine hI.obj h2 (kp.weak (fun _ _=>trivial) (fun _ h=>h)) (fun _=>rfl) ?_
        simp only [ObjR]
        refine ⟨b,_,clock+1,hA,e2,(MapKept.heap_set e3).1,by simp [e4],fun i p hp=>?_⟩
        rw [List.getElem?_append] at hp
        split at hp
        · rename_i hlt
          obtain ⟨m,hm,r1,r2,r3⟩:=e5 i p hp
          refine ⟨m,?_,kp.r r1,kp.r r2,r3⟩
          rw [Array.getElem?_push,if_neg (by omega)]
          exact hm
        · rename_i hge
          have hi:i=es.length:=by
            rcases Nat.lt_or_ge (i - es.length) 1 with h | h
            · omega
            · rw [List.getElem?_eq_none (by simpa using h)] at hp;cases hp
          subst hi
          simp at hp
          subst hp
          exact ⟨{ key:=a.eval k,val:=a.eval x,born:=clock },by rw [e4];simp,kp.r rk,kp.r rx,hkq.2,h4⟩
      · rcases ho with ho | ho<;>simp only [execOp,ho,hme,Instr.mapUpdate,Sem.run_bind,run_underlying hu,Result.andThen_ok,hgo,hck,hfk,hse,Sem.run_pure]
    · rw [Nat.zero_add] at hf
      have hfk:=MapKept.run_findKey (P:=P) (w:=w) hkt hf
      have hj':ents[j]?=some me:=by simpa using hj
      have hse:=MapKept.run_setObj_map (P:=P) (.map (ents.modify j fun e=>{ e with key:=a.eval k,val:=a.eval x }) clock) e3
      have hks:=MapKept.run_keyThatStays (P:=P) (w:=w) hkey
      refine ⟨{ w with heap:=w.heap.setIfInBounds b (.map (ents.modify j fun e=>{ e with key:=a.eval k,val:=a.eval x }) clock) },g,?_,?_⟩
      rotate_left
      · rw [hd]
        have kp:=keep_setObj (w:=w) (o:=.map (ents.modify j fun e=>{ e with key:=a.eval k,val:=a.eval x }) clock) e2 (by unfold rowSize;rw [e3])
        refine hI.obj h2 (kp.weak (fun _ _=>trivial) (fun _ h=>h)) (fun _=>rfl) ?_
        simp only [ObjR]
        refine ⟨b,_,clock,hA,e2,(MapKept.heap_set e3).1,by simp [e4],fun i p hp=>?_⟩
        rw [List.getElem?_set] at hp
        split at hp
        · rename_i hij
          subst hij
          split at hp
          · cases hp
            exact ⟨{ me with key:=a.eval k,val:=a.eval x },by simp [Array.getElem?_modify,hj'],kp.r rk,kp.r rx,hkq.2,h4⟩
          · cases hp
        · rename_i hij
          obtain ⟨m,hm,r1,r2,r3⟩:=e5 i p hp
          exact ⟨m,by simp [Array.getElem?_modify,hij,hm],kp.r r1,kp.r r2,r3⟩
      · rcases ho with ho | ho<;>simp only [execOp,ho,hme,Instr.mapUpdate,Sem.run_bind,run_underlying hu,Result.andThen_ok,hgo,hck,hfk,hj',Option.map_some,Option.getD_some,hmk,hks,hse,Sem.run_pure]
theorem ok_mget {T e:TypeId}{i:TypeInfo}{z:Value}{zero:V}{ok:Bool}{m k:Operand}{m' k':A}{ks:Tg}{y:Key}{es:List (V × V)}{o:Option V}(ho:op.op=.lookup T m k ok)(hd:op.dst=some t)(hT:keyT P T=some ks)(he:∃ kt,P.underlying T=some (.map kt e))(hi:P.info? e=some i)(hz:i.zero=some z)(hoz:ofC z=some zero)(hm:Opd m m')(hk:Opd k k')
    (h1:m'.ev s.r=.map y) (h2:s.get d y=some (.map es)) (h3:V.isKey ks (k'.ev s.r)=true) (h:mget (k'.ev s.r) es=some o) :
    OpOk P op d s (s.put t (match o with | some v=>(if ok then .tup [v,.bool true] else v) | none=>if ok then .tup [zero,.bool false] else zero)):=
  .value fun w0 g0 a w g hI=>by
    obtain ⟨kt,e',hu,hkt⟩:=keyT_some hT
    obtain ⟨kt',hu'⟩:=he
    rw [hu] at hu'
    cases hu'
    have hkq:(k'.ev s.r).uq=false:=by
      rcases isKey_cases h3 with ⟨b,_,e⟩ | ⟨q,n,_,e⟩<;>rw [e]<;>rfl
    have rm:=hm.r hI (by rw [h1];rfl)
    rw [h1] at rm
    simp only [R] at rm
    obtain ⟨b,hA,hme⟩:=rm
    have rk:=hk.r hI hkq
    have hob:=hI.objs y _ h2
    simp only [ObjR] at hob
    obtain ⟨b',ents,clock,e1,e2,e3,e4,e5⟩:=hob
    rw [hA] at e1
    cases e1
    have hE:Ents w g es ents.toList:=⟨by simpa using e4,fun i p hp=>by obtain ⟨m,hm,hr⟩:=e5 i p hp;exact ⟨m,by simpa using hm,hr⟩⟩
    have hkey:=isKey_R h3 rk
    have hck:=MapKept.run_checkKey (P:=P) (w:=w) hkt hkey ents.isEmpty 9999
    have hgo:=MapKept.run_getObj_map (P:=P) e3
    have hzr:=ofC_r w g hoz
    have fin:∀ (v:V) (x:Value) (b:Bool),R w g v x→RT w g (.reg t) (if ok then .tup [v,.bool b] else v) (if ok then .tuple #[x,.bool b] else x):=by
      intro v x b hr
      cases ok
      · simp only [Bool.false_eq_true,if_false]
        exact (RT_not (R_uq hr)).mpr hr
      · simp only [if_true,RT,R]
        exact ⟨_,rfl,by simp [RL,R,hr]⟩
    rcases mget_ok h3 rk 0 hE h with ⟨rfl,hf⟩ | ⟨v,j,me,rfl,hf,hr⟩
    · have hfk:=MapKept.run_findKey (P:=P) (w:=w) hkt hf
      refine ⟨if ok then .tuple #[z,.bool false] else z,w,g,?_,by rw [hd];exact hI.put (fin zero z false hzr.1)⟩
      cases ok<;>simp [execOp,ho,hme,Instr.lookup,run_underlying hu,hgo,hck,hfk,zeroValue,typeInfo,hi,hz]
    · have hfk:=MapKept.run_findKey (P:=P) (w:=w) hkt hf
      refine ⟨if ok then .tuple #[me.val,.bool true] else me.val,w,g,?_,by rw [hd];exact hI.put (fin v me.val true hr)⟩
      cases ok<;>simp [execOp,ho,hme,Instr.lookup,run_underlying hu,hgo,hck,hfk]
end Go.Den
namespace Go.Den
variable {P:Program} {op:Oper} {d t:Nat} {s:St}
theorem laid_get (es xs:List (List V))(lo n i:Nat)(hl:lo+n≤es.length):(es.take lo++xs.take n++es.drop (lo+min xs.length n))[i]?=if lo≤i∧i < lo+min xs.length n then xs[i - lo]? else es[i]?:=by
  have h1:(es.take lo).length=lo:=by rw [List.length_take];omega
  have h2:(xs.take n).length=min xs.length n:=by rw [List.length_take];omega
  by_cases ha:i < lo
  · rw [List.append_assoc,List.getElem?_append_left (by omega),if_neg (by omega),List.getElem?_take,if_pos ha]
  · by_cases hb:i < lo+min xs.length n
    · rw [List.getElem?_append_left (by rw [List.length_append];omega),List.getElem?_append_right (by omega),h1,if_pos (by omega),List.getElem?_take,if_pos (by omega)]
    · rw [List.getElem?_append_right (by rw [List.length_append];omega),if_neg (by omega),List.getElem?_drop,List.length_append,h1,h2]
      congr 1
      omega
theorem ok_cpy {T U e:TypeId}{i:TypeInfo}{x y:Operand}{x' y':A}{k:Key}{lo n:Nat}{es xs:List (List V)}(ho:op.op=.call { callee:=.builtin .copy,args:=#[x,y],argTypes:=#[T,U] })(hd:op.dst=some t)(hT:P.underlying T=some (.slice e))(hi:P.info? e=some i)(hx:Opd x x')(hy:Opd y y')
    (h1:x'.ev s.r=.arr k i.size lo n) (h2:srcV d s i.size (y'.ev s.r)=some xs) (h3:s.get d k=some (.row i.size es false)) (h4:lo+n≤es.length) :
    OpOk P op d s ((s.set d k (.row i.size (es.take lo++xs.take n++es.drop (lo+min xs.length n)) false)).put t (.int .i64 (min xs.length n:Nat))):=
  .value fun w0 g0 a w g hI=>by
    obtain ⟨b,p,c,hA,hp,hnc,hpp⟩:=hx.arr hI h1
    obtain ⟨news,hn1,hn2,hn3⟩:=src_ok (P:=P) hI hy h2
    have hmin:Nat.min xs.length n=min xs.length n:=rfl
    have hf:=hn3 (min xs.length n) (by omega) w rfl
    have hnl:(news.take (min xs.length n*i.size)).length=min xs.length n*i.size:=by
      rw [List.length_take,hn1.1]
      have:min xs.length n*i.size≤xs.length*i.size:=Nat.mul_le_mul_right _ (by omega)
      omega
    have hob:=hI.objs k _ h3
    simp only [ObjR] at hob
    obtain ⟨b',e1,e2⟩:=hob
    rw [hA] at e1
    cases e1
    have key:∀ w',(match p with | some a=>(storeCells a (news.take (min xs.length n*i.size))).run P w=.ok () w' | none=>w'=w)→(execOp a.eval op).run P w=.ok (.value (goInt (min xs.length n:Nat))) w':=by
      intro w' hw
      cases p with
      | none =>
        simp only at hw
        rw [hw]
        simp [execOp,ho,resolve,invoke,builtin,Builtin.copy_,hp,run_underlying hT,hn2 w,sizeOf,typeInfo,hi,hmin,hf]
      | some ad =>
        simp only at hw
        simp [execOp,ho,resolve,invoke,builtin,Builtin.copy_,hp,run_underlying hT,hn2 w,sizeOf,typeInfo,hi,hmin,hf,hw]
    rcases Nat.eq_zero_or_pos (min xs.length n) with h0 | h0
    ·
      have hes:es.take lo++xs.take n++es.drop (lo+min xs.length n)=es:=by
        apply List.ext_getElem?
        intro q
        rw [laid_get _ _ _ _ _ h4,if_neg (by omega)]
      rw [hes]
      have hnil:news.take (min xs.length n*i.size)=[]:=by rw [h0];simp
      refine ⟨_,w,g,key w ?_,?_⟩
      · rw [hnil];cases p<;>simp [storeCells]
      · rw [hd]
        refine (hI.obj h3 (Keep.refl _ _ _ _) (fun _=>rfl) (hI.objs k _ h3)).put ?_
        simp only [RT,R,goInt]
    · have hp':p=some ⟨b,lo*i.size,none⟩:=by rcases hpp with h | h;exact h.1;exact absurd h.1 (by omega)
      subst hp'
      rcases e2 with rfl | ⟨cur,el,fz,e3,_,e5,e6⟩
      · simp at h4;omega
      · obtain ⟨hk,hth⟩:=e5 trivial
        rw [RPr_iff] at e6
        have hcell:∀ o,w.cell? ⟨b,o,none⟩=cur[o]?:=fun o=>cell_of_row w b o cur el fz e3
        have hbound:lo*i.size+0+(news.take (min xs.length n*i.size)).length≤cur.size:=by
          rw [hnl]
          rcases Nat.eq_zero_or_pos i.size with hz | hz
          · rw [hz,Nat.mul_zero,Nat.mul_zero];omega
          · have hlast:lo+min xs.length n - 1 < es.length:=by omega
            obtain ⟨k1,k2⟩:=e6 _ _ (List.getElem?_eq_getElem hlast)
            obtain ⟨y0,hy0,_⟩:=k2 (i.size - 1) _ (List.getElem?_eq_getElem (by omega))
            rw [hcell] at hy0
            have:=(Array.getElem?_eq_some_iff.1 hy0).1
            have e1:(lo+min xs.length n)*i.size=lo*i.size+min xs.length n*i.size:=Nat.add_mul _ _ _
            have e2:(lo+min xs.length n)*i.size=(lo+min xs.length n - 1)*i.size+i.size:=by
              rw [← Nat.succ_mul,Nat.succ_eq_add_one,Nat.sub_add_cancel (by omega)]
            omega
        have hrun:=run_stores (P:=P) b (lo*i.size) el fz (news.take (min xs.length n*i.size)) 0 cur w e3 hth hbound fun v hv=>hn1.one v (List.mem_of_mem_take hv)
        have kp:=keep_row (w:=w) (g:=g) (cs:=arrPut cur (lo*i.size+0) (news.take (min xs.length n*i.size))) hk (by rw [rowSize_cells e3,arrPut_size];exact Nat.le_refl _)
        have hheap:=setRow_heap w b cur (arrPut cur (lo*i.size+0) (news.take (min xs.length n*i.size))) el fz e3
        refine ⟨_,_,g,key _ hrun,?_⟩
        rw [hd]
        refine (hI.obj h3 (kp.weak (fun _ _=>trivial) (fun _ h=>h)) (fun _=>rfl) ?_).put (by simp only [RT,R,goInt])
        simp only [ObjR]
        refine ⟨b,hA,.inr ⟨_,el,fz,hheap,fun h=>absurd h (by simp),fun _=>⟨hk,by intro o ho;exact hth o (by rwa [arrPut_size] at ho)⟩,?_⟩⟩
        rw [RPr_iff]
        intro q r hq
        rw [laid_get _ _ _ _ _ h4] at hq
        split at hq
        · rename_i hc
          obtain ⟨k1,k2⟩:=hn1.2 _ r hq
          refine ⟨k1,fun j v hv=>?_⟩
          obtain ⟨y0,hy0,hr⟩:=k2 j v hv
          refine ⟨y0,?_,RP_ext kp.toExt v y0 hr⟩
          have hj:j < i.size:=by rw [← k1];exact (List.getElem?_eq_some_iff.1 hv).1
          have e1:(q - lo)*i.size+lo*i.size=q*i.size:=by rw [← Nat.add_mul];congr 1;omega
          have e2:(q - lo)*i.size+i.size≤min xs.length n*i.size:=by
            rw [← Nat.succ_mul];exact Nat.mul_le_mul_right _ (by omega)
          rw [cell_of_row _ b _ _ el fz hheap,arrPut_get,if_pos (by omega),show 0+q*i.size+j - (lo*i.size+0)=(q - lo)*i.size+j by omega,List.getElem?_take,if_pos (by omega)]
          exact hy0
        · rename_i hc
          obtain ⟨k1,k2⟩:=e6 q r hq
          refine ⟨k1,fun j v hv=>?_⟩
          obtain ⟨y0,hy0,hr⟩:=k2 j v hv
          rw [hcell] at hy0
          refine ⟨y0,?_,RP_ext kp.toExt v y0 hr⟩
          have hj:j < i.size:=by rw [← k1];exact (List.getElem?_eq_some_iff.1 hv).1
          rw [cell_of_row _ b _ _ el fz hheap,arrPut_get,if_neg]
          · exact hy0
          · rcases Nat.lt_or_ge q lo with h | h
            · have:q*i.size+i.size≤lo*i.size:=by rw [← Nat.succ_mul];exact Nat.mul_le_mul_right _ (by omega)
              omega
            · have:(lo+min xs.length n)*i.size≤q*i.size:=Nat.mul_le_mul_right _ (by omega)
              rw [Nat.add_mul] at this
              omega
end Go.Den
namespace Go.Den
variable {P:Program} {op:Oper} {d t:Nat} {s:St}
theorem RB_ext {w w':World}{g g':G}(h:Ext w g w' g'){l:Lc}(hp:∀ b,b < w.heap.size→g.K b=.priv l→g'.K b=.priv l∧w'.heap[b]?=w.heap[b]?)(hA:∀ k a,g.A k=some a→g'.A k=some a){v:V}{x:Value}(r:RB w g l v x):RB w' g' l v x:=by
  cases v with
  | box cs =>
    simp only [RB,Bx] at r ⊢
    obtain ⟨b,cur,e,fz,h1,h2,h3,h4,h6⟩:=r
    have:=hp b (heap_lt h3) h2
    refine ⟨b,cur,e,fz,h1,this.1,by rw [this.2];exact h3,h4,fun j v hv=>?_⟩
    obtain ⟨x,hx,hr⟩:=h6 j v hv
    exact ⟨x,hx,R_ext h v x (fun k _=>hA k) hr⟩
  | _=>simp only [RB] at r ⊢;exact RT_ext h hp _ _ (fun k _=>hA k) r
theorem Keep.rb {w w':World}{g g':G}{S:Lc→Prop}{T:Key→Prop}(h:Keep w g w' g' S T){l:Lc}(hl:S l){v:V}{x:Value}(r:RB w g l v x):RB w' g' l v x:=
  RB_ext h.toExt (h.priv l hl) h.A r
theorem RTR_ext {w w':World}{g g':G}(h:Ext w g w' g')(hp:∀ j b,b < w.heap.size→g.K b=.priv (.res j)→g'.K b=.priv (.res j)∧w'.heap[b]?=w.heap[b]?)(hA:∀ k a,g.A k=some a→g'.A k=some a){v:V}{x:Value}(r:RTR w g v x):RTR w' g' v x:=by
  cases v with
  | agg cs =>
    simp only [RTR] at r ⊢
    obtain ⟨xs,h1,h2,h3⟩:=r
    exact ⟨xs,h1,h2,fun j v hv=>let ⟨y,hy,hr⟩:=h3 j v hv;⟨y,hy,RB_ext h (hp j) hA hr⟩⟩
  | tup cs =>
    simp only [RTR] at r ⊢
    obtain ⟨xs,h1,h2,h3⟩:=r
    exact ⟨xs,h1,h2,fun j v hv=>let ⟨y,hy,hr⟩:=h3 j v hv;⟨y,hy,RB_ext h (hp j) hA hr⟩⟩
  | _=>simp only [RTR] at r ⊢;exact RB_ext h (hp 0) hA r
section
variable {w0:World} {g0:G} {a:Act} {w w':World} {g g':G} {s s1:St}
theorem Inv.turn (h:Inv w0 g0 d s a w g){S:Lc→Prop}(k:Keep w g w g' S (fun _=>True))(hr:∀ n,S (.reg n))(hc:∀ k i j,S (.cell k i j))(hA:∀ q,g'.A q=g.A q):Inv w0 g0 d s a w g' where
  defers:=h.defers
  len:=h.len
  regs:=fun u=>k.rt (hr u) (h.regs u)
  objs:=fun q o hq=>k.objr trivial (fun i j=>hc q i j) (h.objs q o hq)
  live:=fun q hq=>h.live q (by rw [← hA];exact hq)
  dom:=h.dom
  lev:=h.lev
  same:=h.same
  fr:=h.fr.keep k fun q _=>hA q
theorem Inv.new' (hI:Inv w0 g0 d s a w g){u:Nat}{o:Obj}(h:s.add t u o=some s1){x:Nat × Nat}{S:Lc→Prop}(kp:Keep w g w' g' S (fun _=>True))(hr:∀ n,S (.reg n))(hc:∀ k i j,S (.cell k i j))(hA:∀ q,g'.A q=if q=(d,t,u) then some x else g.A q)(r:ObjR w' g' (d,t,u) o) :
    Inv w0 g0 d s1 a w' g' where
  defers:=hI.defers
  len:=by obtain ⟨_,rfl⟩:=add_some h;exact hI.len
  regs:=fun n=>by obtain ⟨_,rfl⟩:=add_some h;exact kp.rt (hr n) (hI.regs n)
  objs:=fun k p hk=>by
    rw [get_add h] at hk
    split at hk
    · rename_i e;cases hk;rw [e];exact r
    · exact kp.objr trivial (fun i j=>hc k i j) (hI.objs k p hk)
  live:=fun k hk=>by
    rw [get_add h]
    split
    · simp
    · rename_i e;exact hI.live k (by rw [hA,if_neg e] at hk;exact hk)
  dom:=by obtain ⟨_,rfl⟩:=add_some h;exact hI.dom
  lev:=by obtain ⟨_,rfl⟩:=add_some h;exact hI.lev
  same:=by obtain ⟨_,rfl⟩:=add_some h;exact hI.same
  fr:=hI.fr.keep kp fun k hk=>by rw [hA,if_neg];rintro rfl;simp at hk
theorem recv1_ok (hI:Inv w0 g0 d s a w g){j:Nat}{ob:Bool}{v v':V}{x:Value}{s':St}(hr:RB w g (.res j) v x)(h:recv1 d t j ob v s=some (v',s')) :
    ∃ g',Inv w0 g0 d s' a w g'∧R w g' v' x∧Keep w g w g' (fun l=>l≠.res j) (fun _=>True):=by
  have plain:∀ u,RB w g (.res j) u x→u.uq=false→(∀ cs,u≠.box cs)→R w g u x:=by
    intro u hr hu hb
    cases u with
    | box cs=>exact absurd rfl (hb cs)
    | _=>simp only [RB] at hr;exact (RT_not hu).mp hr
  unfold recv1 at h
  split at h
  · rename_i z es o
    have mk:∀ (b:Nat) (gk:G),(hadd:s.add t j (.row z es false)=some s')→Keep w g w gk (fun l=>l≠.res j) (fun _=>True)→(∀ q,gk.A q=g.A q)→(∀ g',g'.K=gk.K→g'.A (d,t,j)=some (b,z)→Keep w g w g' (fun l=>l≠.res j) (fun _=>True)→ObjR w g' (d,t,j) (.row z es false)) →
        (∃ p c,x=.slice p es.length c∧es.length≤c∧(p=some ⟨b,0*z,none⟩∧(0+c)*z≤rowSize w b∨es.length=0∧(p=none→c=0)∧∀ ad,p=some ad→ad.spot=none))→∃ g',Inv w0 g0 d s' a w g'∧R w g' (.arr (d,t,j) z 0 es.length) x∧Keep w g w g' (fun l=>l≠.res j) (fun _=>True):=by
      intro b gk hadd k1 hA ho ⟨p,c,hx⟩
      have k2:=k1.trans (keep_addA w gk (d,t,j) (b,z) (by rw [hA];exact hI.free hadd) _ _)
      refine ⟨addA gk (d,t,j) (b,z),hI.new' hadd k2 (by simp) (by simp) (x:=(b,z)) (fun q=>?_) (ho _ rfl (by simp [addA]) k2),?_,k2⟩
      · simp only [addA]
        split<;>rename_i hq
        · rfl
        · exact hA q
      · simp only [R]
        exact ⟨b,p,c,by simp [addA],hx⟩
    split at h
    · rename_i hob
      simp only [Bool.and_eq_true,Bool.or_eq_true,beq_iff_eq] at hob
      cases hadd:s.add t j (.row z es false) with
      | none=>rw [hadd] at h;cases h
      | some s1 =>
        rw [hadd] at h
        simp only [Option.map_some,zI,zP] at h
        obtain ⟨rfl,rfl⟩:=h
        rcases uq_cases (.sl z es o) with hu | ⟨z2,es2,hu⟩
        · have hr:=plain _ hr hu (by simp)
          simp only [R] at hr
          obtain ⟨ho,p,c,hx,⟨h1,h2,h3⟩,_⟩:=hr
          have he:es=[]:=by
            rcases hob.2 with h | h
            · exact absurd h ho
            · simpa using h
          subst he
          refine mk 0 g hadd (Keep.refl _ _ _ _) (fun _=>rfl) (fun g' _ hA _=>?_) ⟨p,c,hx,h1,.inr ⟨rfl,fun hp=>(h2 hp).2,fun ad ha=>(h3 ad ha).1⟩⟩
          simp only [ObjR]
          exact ⟨0,hA,.inl trivial⟩
        · cases hu
          simp only [RB,RT] at hr
          rcases hr with ⟨hx,he⟩ | ⟨b,c,cur,e,fz,hx,hc,hk,hh,hz,ht,hr⟩
          · subst he
            refine mk 0 g hadd (Keep.refl _ _ _ _) (fun _=>rfl) (fun g' _ hA _=>?_) ⟨none,0,hx,Nat.le_refl _,.inr ⟨rfl,fun _=>rfl,fun _ h=>by cases h⟩⟩
            simp only [ObjR]
            exact ⟨0,hA,.inl trivial⟩
          · have kp:=keep_kd (w:=w) hk (.obj (d,t,j))
            refine mk b _ hadd kp (fun _=>rfl) (fun g' hK hA kq=>?_) ⟨_,c,hx,hc,.inl ⟨by simp,by rw [rowSize_cells hh,Nat.zero_add];exact hz⟩⟩
            simp only [ObjR]
            refine ⟨b,hA,.inr ⟨cur,e,fz,hh,fun h=>absurd h (by simp),fun _=>⟨by rw [hK];simp [setKd],ht⟩,RPr_ext kq.toExt b rfl _ _ _ hr⟩⟩
    ·
      simp only [zI,zP] at h
      obtain ⟨rfl,rfl⟩:=h
      rcases uq_cases (.sl z es o) with hu | ⟨z2,es2,hu⟩
      · have hr:=plain _ hr hu (by simp)
        exact ⟨g,hI,sh_not hu hr,Keep.refl _ _ _ _⟩
      · cases hu
        simp only [RB,RT] at hr
        obtain ⟨g',kp,hA,r⟩:=share hr
        exact ⟨g',hI.turn kp (by simp) (by simp) hA,r,kp⟩
  · rename_i cs
    cases hadd:s.add t j (.cells cs.length [cs]) with
    | none=>rw [hadd] at h;cases h
    | some s1 =>
      rw [hadd] at h
      simp only [Option.map_some,zI,zP] at h
      obtain ⟨rfl,rfl⟩:=h
      simp only [RB,Bx] at hr
      obtain ⟨b,cur,e,fz,h1,h2,h3,h4,h6⟩:=hr
      have kp:=keep_kd (w:=w) h2 (.obj (d,t,j))
      have k2:=kp.trans (keep_addA w _ (d,t,j) (b,cs.length) (show (setKd g b (.obj (d,t,j))).A (d,t,j)=none from hI.free hadd) _ _)
      refine ⟨addA (setKd g b (.obj (d,t,j))) (d,t,j) (b,cs.length),hI.new' hadd k2 (by simp) (by simp) (x:=(b,cs.length)) (fun q=>rfl) ?_,?_,k2⟩
      · simp only [ObjR]
        refine ⟨b,cur,e,fz,by simp [addA],by simp [addA,setKd],h3,h4,fun i r hi=>?_⟩
        cases i with
        | succ i=>simp at hi
        | zero =>
          simp at hi
          subst hi
          refine ⟨rfl,fun q v hv=>?_⟩
          obtain ⟨y,hy,hry⟩:=h6 q v hv
          exact ⟨y,by simpa using hy,(RT_not (R_uq hry)).mpr (k2.r hry)⟩
      · simp only [R]
        exact ⟨b,cs.length,by simp [addA],by simpa using h1⟩
  · rename_i hns hnb
    simp only [zI,zP] at h
    obtain ⟨rfl,rfl⟩:=h
    refine ⟨g,hI,plain _ hr ?_ (fun cs h=>hnb cs h),Keep.refl _ _ _ _⟩
    rcases uq_cases v with hu | ⟨z,es,hu⟩
    · exact hu
    · exact absurd hu (hns z es .uniq)
theorem recvL_ok {ob:Bool}:∀ {vs:List V}{ys:List Value}{j:Nat}{s s':St}{g:G}{vs':List V},Inv w0 g0 d s a w g→(∀ (i:Nat) v,vs[i]?=some v→∃ y,ys[i]?=some y∧RB w g (.res (j+i)) v y)→ys.length=vs.length→recvL d t ob j vs s=some (vs',s') →
    ∃ g',Inv w0 g0 d s' a w g'∧RL w g' vs' ys∧Keep w g w g' (fun l=>∀ i,l≠.res i) (fun _=>True)
  | [],ys,j,s,s',g,vs',hI,hr,hl,h=>by
    simp only [recvL,zI,zP] at h
    obtain ⟨rfl,rfl⟩:=h
    have:ys=[]:=List.length_eq_zero_iff.mp (by simpa using hl)
    subst this
    exact ⟨g,hI,by simp only [RL],Keep.refl _ _ _ _⟩
  | v::r,[],_,_,_,_,_,_,_,hl,_=>by simp at hl
  | v::r,y::ys,j,s,s',g,vs',hI,hr,hl,h=>by
    simp only [recvL] at h
    split at h
    · rename_i v1 s1 h1
      obtain ⟨y0,hy0,hr0⟩:=hr 0 v rfl
      simp at hy0
      subst hy0
      obtain ⟨g1,I1,r1,k1⟩:=recv1_ok hI hr0 h1
      cases h2:recvL d t ob (j+1) r s1 with
      | none=>rw [h2] at h;cases h
      | some p =>
        rw [h2] at h
        simp only [Option.map_some,zI,zP] at h
        obtain ⟨rfl,rfl⟩:=h
        obtain ⟨g2,I2,r2,k2⟩:=recvL_ok (ys:=ys) (j:=j+1) (vs':=p.1) (s':=p.2) I1 (fun i v hv=>by
          obtain ⟨y',hy',hr'⟩:=hr (i+1) v (by simpa using hv)
          refine ⟨y',by simpa using hy',?_⟩
          have:=k1.rb (l:=.res (j+(i+1))) (by simp) hr'
          rwa [show j+1+i=j+(i+1) by omega]) (by simpa using hl) h2
        refine ⟨g2,I2,?_,(k1.weak (fun l hl=>hl j) (fun _ h=>h)).trans k2⟩
        simp only [RL]
        exact ⟨y,ys,rfl,k2.r r1,r2⟩
    · cases h
theorem took_ok {o:Option Nat}(hI:Inv w0 g0 d s a w g){ob:Bool}{v:V}{x:Value}{s':St}(hr:RTR w g v x)(h:took d o ob v s=some s'):∃ g',Inv w0 g0 d s' (a.put o x) w g':=by
  unfold took at h
  cases o with
  | none=>simp only [zI] at h;subst h;exact ⟨g,hI⟩
  | some t =>
    simp only at h
    cases hq:recv d t ob v s with
    | none=>rw [hq] at h;cases h
    | some p =>
      rw [hq] at h
      simp only [Option.map_some,zI] at h
      subst h
      have one:∀ u,RB w g (.res 0) u x→recv1 d t 0 ob u s=some p→∃ g',Inv w0 g0 d (p.2.put t p.1) (a.put (some t) x) w g':=by
        intro u hu h1
        obtain ⟨g1,I1,r1,_⟩:=recv1_ok (v':=p.1) (s':=p.2) hI hu h1
        exact ⟨g1,I1.put ((RT_not (R_uq r1)).mpr r1)⟩
      unfold recv at hq
      split at hq
      · rename_i z es
        split at hq
        · rename_i hob
          subst hob
          exact one _ (by simpa only [RTR] using hr) hq
        · simp only [zI] at hq
          subst hq
          simp only [RTR,RB,RT] at hr
          rcases hr with ⟨hx,he⟩ | ⟨b,c,cur,e,fz,hx,hc,hk,hh,hz,ht,hr⟩
          · exact ⟨g,hI.put (by simp only [RT];exact .inl ⟨hx,he⟩)⟩
          · have kp:=keep_kd (w:=w) hk (.priv (.reg t))
            refine ⟨setKd g b (.priv (.reg t)),(hI.turn kp (by simp) (by simp) fun _=>rfl).put ?_⟩
            simp only [RT]
            exact .inr ⟨b,c,cur,e,fz,hx,hc,by simp [setKd],hh,hz,ht,RPr_kd hk _ hr⟩
      · rename_i cs
        cases h2:recvL d t ob 0 cs s with
        | none=>rw [h2] at hq;cases hq
        | some q =>
          rw [h2] at hq
          simp only [Option.map_some,zI] at hq
          subst hq
          simp only [RTR] at hr
          obtain ⟨xs,rfl,hl,hr⟩:=hr
          obtain ⟨g1,I1,r1,_⟩:=recvL_ok (ys:=xs.toList) (vs':=q.1) (s':=q.2) hI (fun i v hv=>by rw [Nat.zero_add];simpa using hr i v hv) (by simpa using hl) h2
          exact ⟨g1,I1.put (by simp only [RT,R];exact ⟨xs,rfl,r1⟩)⟩
      · rename_i cs
        cases h2:recvL d t ob 0 cs s with
        | none=>rw [h2] at hq;cases hq
        | some q =>
          rw [h2] at hq
          simp only [Option.map_some,zI] at hq
          subst hq
          simp only [RTR] at hr
          obtain ⟨xs,rfl,hl,hr⟩:=hr
          obtain ⟨g1,I1,r1,_⟩:=recvL_ok (ys:=xs.toList) (vs':=q.1) (s':=q.2) hI (fun i v hv=>by rw [Nat.zero_add];simpa using hr i v hv) (by simpa using hl) h2
          exact ⟨g1,I1.put (by simp only [RT,R];exact ⟨xs,rfl,r1⟩)⟩
      · rename_i h1 h2 h3
        refine one v ?_ hq
        cases v with
        | agg cs=>exact absurd rfl (h2 cs)
        | tup cs=>exact absurd rfl (h3 cs)
        | _=>simpa only [RTR] using hr
end
end Go.Den
