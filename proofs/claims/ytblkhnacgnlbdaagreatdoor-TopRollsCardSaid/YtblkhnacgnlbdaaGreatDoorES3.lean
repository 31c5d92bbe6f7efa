import Derived.Test.YtblkhnacgnlbdaaGreatDoorES2
import Derived.Laws.Append
import Derived.Laws.IdiomStrings
import Derived.Laws.MakeOwn
set_option linter.all false
namespace Go.Den
variable {P:Program}
theorem RPc_iff {w:World}{K:Nat→Kd}{b:Nat}:∀ {l:List V}{o:Nat},RPc w K b o l ↔ ∀ (j:Nat) v,l[j]?=some v→∃ y,w.cell? ⟨b,o+j,none⟩=some y∧RP w K v y
  | [],o=>by simp [RPc]
  | v::r,o=>by
    simp only [RPc]
    rw [RPc_iff (l:=r)]
    constructor
    · rintro ⟨h1,h2⟩ j u hj
      cases j with
      | zero=>simp at hj;subst hj;simpa using h1
      | succ j=>simp at hj;have:=h2 j u hj;rwa [show o+1+j=o+(j+1) by omega] at this
    · intro h
      refine ⟨by simpa using h 0 v (by simp),fun j u hj=>?_⟩
      have:=h (j+1) u (by simpa using hj)
      rwa [show o+(j+1)=o+1+j by omega] at this
theorem RPr_iff {w:World}{K:Nat→Kd}{b z:Nat}:∀ {l:List (List V)}{o:Nat},RPr w K b z o l ↔ ∀ (i:Nat) e,l[i]?=some e→e.length=z∧∀ (j:Nat) v,e[j]?=some v→∃ y,w.cell? ⟨b,o+i*z+j,none⟩=some y∧RP w K v y
  | [],o=>by simp [RPr]
  | e::r,o=>by
    simp only [RPr]
    rw [RPr_iff (l:=r),RPc_iff]
    constructor
    · rintro ⟨h0,h1,h2⟩ i u hi
      cases i with
      | zero=>simp at hi;subst hi;exact ⟨h0,fun j v hv=>by simpa using h1 j v hv⟩
      | succ i=>simp at hi;have:=h2 i u hi;rwa [show o+z+i*z=o+(i+1)*z by rw [Nat.add_mul,Nat.one_mul];omega] at this
    · intro h
      have h0:=h 0 e (by simp)
      refine ⟨h0.1,fun j v hv=>by simpa using h0.2 j v hv,fun i u hi=>?_⟩
      have:=h (i+1) u (by simpa using hi)
      rwa [show o+(i+1)*z=o+z+i*z by rw [Nat.add_mul,Nat.one_mul];omega] at this
section
variable {w0:World} {g0:G} {d:Nat} {s:St} {a:Act} {w:World} {g:G}
theorem Inv.take (hI:Inv w0 g0 d s a w g){x:Operand}{x':A}(hx:Opd x x')(l:Lc) :
    ∃ g1,Inv w0 g0 d (s.off x') a w g1∧RT w g1 l (x'.ev s.r) (a.eval x)∧∀ q,g1.A q=g.A q:=by
  rcases hx with ⟨n,rfl,rfl⟩ | ⟨u,rfl,hu,hr⟩
  · have hr:=hI.regs n
    show ∃ g1,Inv w0 g0 d (s.off (.t n)) a w g1∧RT w g1 l (rget s.r n) (a.tmps.getD n undef)∧∀ q,g1.A q=g.A q
    rcases uq_cases (rget s.r n) with hu | ⟨z,es,hv⟩
    · have:s.off (.t n)=s:=by
        simp only [St.off]
        split
        · rename_i he;rw [he] at hu;simp [V.uq] at hu
        · rfl
      rw [this]
      exact ⟨g,hI,(RT_not hu).mpr ((RT_not hu).mp hr),fun _=>rfl⟩
    · have:s.off (.t n)=s.put n .dead:=by simp only [St.off,hv]
      rw [this,hv]
      rw [hv] at hr
      simp only [RT] at hr
      rcases hr with ⟨hx,he⟩ | ⟨b,c,cur,e,fz,hx,hc,hk,hh,hz,ht,hr⟩
      · exact ⟨g,hI.dead n,by simp only [RT];exact .inl ⟨hx,he⟩,fun _=>rfl⟩
      · have kp:=keep_kd (w:=w) hk (.priv l)
        refine ⟨setKd g b (.priv l),hI.keep kp (fun _=>rfl) (v:=.dead) (by simp only [RT,R]),?_,fun _=>rfl⟩
        simp only [RT]
        exact .inr ⟨b,c,cur,e,fz,hx,hc,by simp [setKd],hh,hz,ht,RPr_kd hk _ hr⟩
  · exact ⟨g,hI,(RT_not hu).mpr (hr w g a),fun _=>rfl⟩
theorem RT_one {l:Lc}{v:V}{x:Value}(h:v.one=true)(r:RT w g l v x):x.oneCell'=true∧x.cells = #[x]:=by
  rcases uq_cases v with hu | ⟨z,es,rfl⟩
  · exact one_cell h ((RT_not hu).mp r)
  · simp only [RT] at r
    rcases r with ⟨rfl,_⟩ | ⟨b,c,cur,e,fz,rfl,_⟩<;>exact ⟨rfl,rfl⟩
theorem Inv.write (hI:Inv w0 g0 d s a w g){k:Key}{i off z:Nat}{es:List (List V)}{e:List V}{cs:List V}{ys:List Value}(hg:s.get d k=some (.cells z es))(he:es[i]?=some e)(hl:off+cs.length≤e.length)(hy:ys.length=cs.length)
    (hr:∀ (j:Nat) v,cs[j]?=some v→∃ y,ys[j]?=some y∧RT w g (.cell k i (off+j)) v y∧y.oneCell'=true) {p:Value} (hp:R w g (.ptr k i off) p) (hks:(keysL cs).all (fun x=>decide (x.1≤k.1))=true) :
    ∃ ad w',p=.pointer (some ad)∧(storeCells ad ys).run P w=.ok () w'∧Inv w0 g0 d (s.set d k (.cells z (es.set i (splice e off cs)))) a w' g:=by
  simp only [R] at hp
  obtain ⟨b,z',hA,hp⟩:=hp
  have ho:=hI.objs k _ hg
  simp only [ObjR] at ho
  obtain ⟨b',cur,el,fz,h1,h2,h3,h4,h5⟩:=ho
  rw [hA] at h1
  cases h1
  obtain ⟨hz,hc⟩:=h5 i e he
  have hbound:i*z+off+ys.length≤cur.size:=by
    rcases Nat.eq_zero_or_pos e.length with h0 | h0
    · have hc0:ys.length=0:=by omega
      rw [hc0]
      by_cases hcs:0 < cs.length
      · omega
      ·
        rcases Nat.eq_zero_or_pos (i*z+off) with h00 | h00
        · omega
        · have:z=0:=by omega
          subst this
          omega
    · obtain ⟨y,hy',_⟩:=hc (e.length - 1) _ (List.getElem?_eq_getElem (by omega))
      have:=(Array.getElem?_eq_some_iff.1 hy').1
      omega
  have hrun:=run_stores (P:=P) b (i*z+off) el fz ys 0 cur w h3 h4 (by omega) (by
    intro v hv
    obtain ⟨j,hj,rfl⟩:=List.getElem_of_mem hv
    obtain ⟨y,hy1,_,hy2⟩:=hr j _ (List.getElem?_eq_getElem (by omega))
    rw [List.getElem?_eq_getElem hj] at hy1
    cases hy1
    exact hy2)
  refine ⟨_,_,hp,hrun,?_⟩
  have kp:=keep_row (w:=w) (g:=g) (cs:=arrPut cur (i*z+off+0) ys) h2 (by rw [rowSize_cells h3,arrPut_size];exact Nat.le_refl _)
  have hlev:k.1≠d→∀ q ∈ (Obj.cells z (es.set i (splice e off cs))).keys,q.1≤k.1:=by
    intro hk q hq
    simp only [Obj.keys] at hq
    have hold:q ∈ keysLL es→q.1≤k.1:=fun h=>hI.lev k _ (get_f hg hk) q (by simpa only [Obj.keys] using h)
    rcases keysLL_set hq with h | h
    · obtain ⟨v,hv,hq'⟩:=keysL_mem h
      obtain ⟨n,hn⟩:=List.getElem?_of_mem hv
      rw [splice_get] at hn
      split at hn
      · exact of_decide_eq_true (List.all_eq_true.mp hks q (mem_keysL hq' (List.mem_of_getElem? hn)))
      · exact hold (mem_keysLL (mem_keysL hq' (List.mem_of_getElem? hn)) (List.mem_of_getElem? he))
    · exact hold h
  refine hI.obj hg (kp.weak (fun _ _=>trivial) (fun _ h=>h)) (fun _=>rfl) ?_ hlev
  simp only [ObjR]
  refine ⟨b,_,el,fz,hA,h2,setRow_heap w b cur _ el fz h3,by intro o ho;exact h4 o (by rwa [arrPut_size] at ho),fun i' r hi'=>?_⟩
  have hlt:i < es.length:=by
    rcases Nat.lt_or_ge i es.length with h | h
    · exact h
    · rw [List.getElem?_eq_none h] at he;cases he
  rw [List.getElem?_set] at hi'
  by_cases hii:i=i'
  · subst hii
    rw [if_pos rfl,if_pos hlt] at hi'
    cases hi'
    refine ⟨by rw [splice_length];exact hz,fun j v hv=>?_⟩
    rw [splice_get] at hv
    rw [arrPut_get]
    split at hv
    · rename_i hin
      obtain ⟨y,hy1,hy2,_⟩:=hr (j - off) v hv
      rw [show off+(j - off)=j by omega] at hy2
      refine ⟨y,?_,kp.rt trivial hy2⟩
      rw [if_pos (by omega),show i*z+j - (i*z+off+0)=j - off by omega]
      exact hy1
    · rename_i hin
      obtain ⟨y,hy1,hy2⟩:=hc j v hv
      refine ⟨y,?_,kp.rt trivial hy2⟩
      have hj:j < e.length:=by
        rcases Nat.lt_or_ge j e.length with h | h
        · exact h
        · rw [List.getElem?_eq_none h] at hv;cases hv
      rw [if_neg (by omega)]
      exact hy1
  · rw [if_neg hii] at hi'
    obtain ⟨hz',hc'⟩:=h5 i' r hi'
    refine ⟨hz',fun j v hv=>?_⟩
    obtain ⟨y,hy1,hy2⟩:=hc' j v hv
    refine ⟨y,?_,kp.rt trivial hy2⟩
    have hj:j < r.length:=by
      rcases Nat.lt_or_ge j r.length with h | h
      · exact h
      · rw [List.getElem?_eq_none h] at hv;cases hv
    rw [arrPut_get,if_neg]
    · exact hy1
    ·
      rcases Nat.lt_or_gt_of_ne hii with h | h
      · have:i*z+z≤i'*z:=by have:=Nat.mul_le_mul_right z (show i+1≤i' by omega);rw [Nat.add_mul,Nat.one_mul] at this;exact this
        omega
      · have:i'*z+z≤i*z:=by have:=Nat.mul_le_mul_right z (show i'+1≤i by omega);rw [Nat.add_mul,Nat.one_mul] at this;exact this
        omega
theorem Inv.writeRow (hI:Inv w0 g0 d s a w g){k:Key}{i off z:Nat}{es:List (List V)}{e:List V}{cs:List V}{ys:List Value}(hg:s.get d k=some (.row z es false))(he:es[i]?=some e)(hl:off+cs.length≤e.length)(hy:ys.length=cs.length)
    (hr:∀ (j:Nat) v,cs[j]?=some v→∃ y,ys[j]?=some y∧RP w g.K v y∧y.oneCell'=true) {p:Value} (hp:R w g (.ptr k i off) p) :
    ∃ ad w',p=.pointer (some ad)∧(storeCells ad ys).run P w=.ok () w'∧Inv w0 g0 d (s.set d k (.row z (es.set i (splice e off cs)) false)) a w' g:=by
  simp only [R] at hp
  obtain ⟨b,z',hA,hp⟩:=hp
  have ho:=hI.objs k _ hg
  simp only [ObjR] at ho
  obtain ⟨b',h1,h2⟩:=ho
  rw [hA] at h1
  cases h1
  rcases h2 with rfl | ⟨cur,el,fz,h3,_,h4,h5⟩
  · simp at he
  obtain ⟨hk,hth⟩:=h4 trivial
  rw [RPr_iff] at h5
  obtain ⟨hz,hc⟩:=h5 i e he
  have hcell:∀ o,w.cell? ⟨b,o,none⟩=cur[o]?:=fun o=>cell_of_row w b o cur el fz h3
  have hbound:i*z+off+ys.length≤cur.size:=by
    rcases Nat.eq_zero_or_pos e.length with h0 | h0
    · have hc0:ys.length=0:=by omega
      have:z=0:=by omega
      subst this
      omega
    · obtain ⟨y,hy',_⟩:=hc (e.length - 1) _ (List.getElem?_eq_getElem (by omega))
      rw [hcell] at hy'
      have:=(Array.getElem?_eq_some_iff.1 hy').1
      omega
  have hrun:=run_stores (P:=P) b (i*z+off) el fz ys 0 cur w h3 hth (by omega) (by
    intro v hv
    obtain ⟨j,hj,rfl⟩:=List.getElem_of_mem hv
    obtain ⟨y,hy1,_,hy2⟩:=hr j _ (List.getElem?_eq_getElem (by omega))
    rw [List.getElem?_eq_getElem hj] at hy1
    cases hy1
    exact hy2)
  refine ⟨_,_,hp,hrun,?_⟩
  have kp:=keep_row (w:=w) (g:=g) (cs:=arrPut cur (i*z+off+0) ys) hk (by rw [rowSize_cells h3,arrPut_size];exact Nat.le_refl _)
  have hheap:=setRow_heap w b cur (arrPut cur (i*z+off+0) ys) el fz h3
  refine hI.obj hg (kp.weak (fun _ _=>trivial) (fun _ h=>h)) (fun _=>rfl) ?_
  simp only [ObjR]
  refine ⟨b,hA,.inr ⟨_,el,fz,hheap,fun h=>absurd h (by simp),fun _=>⟨hk,by intro o ho;exact hth o (by rwa [arrPut_size] at ho)⟩,?_⟩⟩
  rw [RPr_iff]
  have hlt:i < es.length:=by
    rcases Nat.lt_or_ge i es.length with h | h
    · exact h
    · rw [List.getElem?_eq_none h] at he;cases he
  intro i' r hi'
  rw [List.getElem?_set] at hi'
  by_cases hii:i=i'
  · subst hii
    rw [if_pos rfl,if_pos hlt] at hi'
    cases hi'
    refine ⟨by rw [splice_length];exact hz,fun j v hv=>?_⟩
    rw [splice_get] at hv
    rw [cell_of_row _ b _ _ el fz hheap,arrPut_get]
    split at hv
    · rename_i hin
      obtain ⟨y,hy1,hy2,_⟩:=hr (j - off) v hv
      refine ⟨y,?_,RP_ext kp.toExt v y hy2⟩
      rw [if_pos (by omega),show 0+i*z+j - (i*z+off+0)=j - off by omega]
      exact hy1
    · rename_i hin
      obtain ⟨y,hy1,hy2⟩:=hc j v hv
      rw [hcell] at hy1
      refine ⟨y,?_,RP_ext kp.toExt v y hy2⟩
      have hj:j < e.length:=by
        rcases Nat.lt_or_ge j e.length with h | h
        · exact h
        · rw [List.getElem?_eq_none h] at hv;cases hv
      rw [if_neg (by omega)]
      exact hy1
  · rw [if_neg hii] at hi'
    obtain ⟨hz',hc'⟩:=h5 i' r hi'
    refine ⟨hz',fun j v hv=>?_⟩
    obtain ⟨y,hy1,hy2⟩:=hc' j v hv
    rw [hcell] at hy1
    rw [cell_of_row _ b _ _ el fz hheap]
    refine ⟨y,?_,RP_ext kp.toExt v y hy2⟩
    have hj:j < r.length:=by
      rcases Nat.lt_or_ge j r.length with h | h
      · exact h
      · rw [List.getElem?_eq_none h] at hv;cases hv
    rw [arrPut_get,if_neg]
    · exact hy1
    · rcases Nat.lt_or_gt_of_ne hii with h | h
      · have:i*z+z≤i'*z:=by have:=Nat.mul_le_mul_right z (show i+1≤i' by omega);rw [Nat.add_mul,Nat.one_mul] at this;exact this
        omega
      · have:i'*z+z≤i*z:=by have:=Nat.mul_le_mul_right z (show i'+1≤i by omega);rw [Nat.add_mul,Nat.one_mul] at this;exact this
        omega
end
variable {op:Oper} {d t:Nat} {s:St}
theorem run_storeVar {w w':World}{T:TypeId}{i:TypeInfo}(hi:P.info? T=some i){ad:Addr}{v:Value}(hs:v.cells.size=i.size)(h:(storeCells ad v.cells.toList).run P w=.ok () w'):(storeVar T ad v).run P w=.ok () w':=by
  simp only [storeVar,Sem.run_bind,sizeOf,run_typeInfo w hi,Sem.run_pure,Result.andThen_ok,hs,ne_eq,not_true_eq_false,if_false,h]
theorem ok_st1 {T:TypeId}{x y:Operand}{x' y':A}{s':St}(ho:op.op=.store T x y)(hd:op.dst=none)(hz:szo P T=some none)(hx:Opd x x')(hy:Opd y y')(h1:(y'.ev s.r).one=true)(h:stV d (s.off y') (x'.ev s.r) [y'.ev s.r]=some s'):OpOk P op d s s':=by
  refine .skip fun w0 g0 a w g hI=>?_
  obtain ⟨u,i,hu,hi,hzz⟩:=szo_some hz
  have hsz:i.size=1:=by rcases hzz with ⟨_,_,h⟩ | ⟨h,_⟩;exact h;cases h
  unfold stV at h
  split at h
  · rename_i k i' off hp
    obtain ⟨g1,hI1,hr1,hA1⟩:=hI.take hy (.cell k i' off)
    have hrp:R w g1 (.ptr k i' off) (a.eval x):=by
      obtain ⟨b,z,hA,he⟩:=hx.ptr hI hp
      simp only [R]
      exact ⟨b,z,by rw [hA1];exact hA,he⟩
    have h1c:=RT_one h1 hr1
    split at h
    · rename_i z es hg
      split at h
      · rename_i e he
        split at h
        · rename_i hc
          cases h
          obtain ⟨ad,w',hpa,hrun,hI2⟩:=hI1.write (P:=P) hg he hc.1 (ys:=[a.eval y]) rfl (fun j v hj=>by
            cases j with
            | zero=>simp at hj;subst hj;exact ⟨a.eval y,rfl,hr1,h1c.1⟩
            | succ j=>simp at hj) hrp hc.2
          refine ⟨w',g1,?_,by rw [hd];exact hI2⟩
          have:=run_storeVar (P:=P) hi (v:=a.eval y) (by rw [h1c.2,hsz];rfl) (by rw [h1c.2];exact hrun)
          simp [execOp,ho,Instr.storeAt,hpa,Instr.sureAddr,this]
        · cases h
      · cases h
    · rename_i z es hg
      split at h
      · rename_i e he
        split at h
        · rename_i hc
          cases h
          have hpure:(y'.ev s.r).pure=true:=by simpa using hc.2
          have huq:(y'.ev s.r).uq=false:=by
            revert hpure
            generalize y'.ev s.r=v
            cases v<;>simp [V.pure,V.uq]
            rename_i z es o
            cases o<;>simp
          obtain ⟨ad,w',hpa,hrun,hI2⟩:=hI1.writeRow (P:=P) hg he hc.1 (ys:=[a.eval y]) rfl (fun j v hj=>by
            cases j with
            | zero=>simp at hj;subst hj;exact ⟨a.eval y,rfl,R_RP hpure ((RT_not huq).mp hr1),h1c.1⟩
            | succ j=>simp at hj) hrp
          refine ⟨w',g1,?_,by rw [hd];exact hI2⟩
          have:=run_storeVar (P:=P) hi (v:=a.eval y) (by rw [h1c.2,hsz];rfl) (by rw [h1c.2];exact hrun)
          simp [execOp,ho,Instr.storeAt,hpa,Instr.sureAddr,this]
        · cases h
      · cases h
    · cases h
  · cases h
theorem ok_stn {T:TypeId}{n:Nat}{x y:Operand}{x' y':A}{cs:List V}{s':St}(ho:op.op=.store T x y)(hd:op.dst=none)(hz:szo P T=some (some n))(hx:Opd x x')(hy:Opd y y')(hv:y'.ev s.r=.agg cs)(hn:cs.length=n)(h1:cs.all V.one=true)
    (h:stV d s (x'.ev s.r) cs=some s'):OpOk P op d s s':=by
  refine .skip fun w0 g0 a w g hI=>?_
  obtain ⟨u,i,hu,hi,hzz⟩:=szo_some hz
  have hsz:i.size=n:=by rcases hzz with ⟨h,_⟩ | ⟨h,_⟩;cases h;cases h;rfl
  obtain ⟨ys,hye,hyr⟩:=hy.agg hI hv
  have hlen:=RL_length hyr
  unfold stV at h
  split at h
  · rename_i k i' off hp
    have hrp:R w g (.ptr k i' off) (a.eval x):=by
      obtain ⟨b,z,hA,he⟩:=hx.ptr hI hp
      simp only [R]
      exact ⟨b,z,hA,he⟩
    have hone:∀ v ∈ cs,v.one=true:=fun v hv=>List.all_eq_true.mp h1 v hv
    split at h
    · rename_i z es hg
      split at h
      · rename_i e he
        split at h
        · rename_i hc
          cases h
          obtain ⟨ad,w',hpa,hrun,hI2⟩:=hI.write (P:=P) hg he hc.1 (ys:=ys.toList) hlen (fun j v hj=>by
            obtain ⟨y,hy1,hy2⟩:=RL_get hyr hj
            exact ⟨y,hy1,(RT_not (R_uq hy2)).mpr hy2,(one_cell (hone v (List.mem_of_getElem? hj)) hy2).1⟩) hrp hc.2
          refine ⟨w',g,?_,by rw [hd];exact hI2⟩
          have:=run_storeVar (P:=P) hi (v:=.agg ys) (by show ys.size=_;rw [hsz,← hn,← hlen];simp) (show (storeCells ad ys.toList).run P w=_ from hrun)
          simp [execOp,ho,Instr.storeAt,hpa,hye,Instr.sureAddr,this]
        · cases h
      · cases h
    · rename_i z es hg
      split at h
      · rename_i e he
        split at h
        · rename_i hc
          cases h
          obtain ⟨ad,w',hpa,hrun,hI2⟩:=hI.writeRow (P:=P) hg he hc.1 (ys:=ys.toList) hlen (fun j v hj=>by
            obtain ⟨y,hy1,hy2⟩:=RL_get hyr hj
            exact ⟨y,hy1,R_RP (List.all_eq_true.mp hc.2 v (List.mem_of_getElem? hj)) hy2,(one_cell (hone v (List.mem_of_getElem? hj)) hy2).1⟩) hrp
          refine ⟨w',g,?_,by rw [hd];exact hI2⟩
          have:=run_storeVar (P:=P) hi (v:=.agg ys) (by show ys.size=_;rw [hsz,← hn,← hlen];simp) (show (storeCells ad ys.toList).run P w=_ from hrun)
          simp [execOp,ho,Instr.storeAt,hpa,hye,Instr.sureAddr,this]
        · cases h
      · cases h
    · cases h
  · cases h
end Go.Den
namespace Go.Den
variable {P:Program}
def Rows' (w:World)(K:Nat→Kd)(z:Nat)(ys:List Value)(es:List (List V)):Prop:=
  ys.length=es.length*z∧∀ (i:Nat) e,es[i]?=some e→e.length=z∧∀ (j:Nat) v,e[j]?=some v→∃ y,ys[i*z+j]?=some y∧RP w K v y
theorem RP_cell {w:World}{K:Nat→Kd}{v:V}{x:Value}(h:RP w K v x):x.oneCell'=true:=by
  cases v<;>simp only [RP] at h
  case bool b=>subst h;rfl
  case int k n=>subst h;rfl
  case str s=>subst h;rfl
  case sl z es o=>obtain ⟨_,a,c,rfl,_⟩:=h;rfl
theorem Rows'.one {w:World}{K:Nat→Kd}{z:Nat}{ys:List Value}{es:List (List V)}(h:Rows' w K z ys es):∀ y ∈ ys,y.oneCell'=true:=by
  intro y hy
  obtain ⟨p,hp,rfl⟩:=List.getElem_of_mem hy
  have hz:0 < z:=by
    rcases Nat.eq_zero_or_pos z with h0 | h0
    · subst h0;have:=h.1;omega
    · exact h0
  have hi:p / z < es.length:=by
    rw [Nat.div_lt_iff_lt_mul hz];rw [← h.1];exact hp
  obtain ⟨hl,hc⟩:=h.2 (p / z) _ (List.getElem?_eq_getElem hi)
  have hj:p % z < es[p / z].length:=by rw [hl];exact Nat.mod_lt _ hz
  obtain ⟨y',hy',hr⟩:=hc (p % z) _ (List.getElem?_eq_getElem hj)
  rw [show p / z*z+p % z=p by rw [Nat.mul_comm];exact Nat.div_add_mod p z,List.getElem?_eq_getElem hp] at hy'
  cases hy'
  exact RP_cell hr
theorem Rows'.ext {w w':World}{g g':G}(h:Ext w g w' g'){z:Nat}{ys:List Value}{es:List (List V)}(r:Rows' w g.K z ys es):Rows' w' g'.K z ys es:=
  ⟨r.1,fun i e hi=>⟨(r.2 i e hi).1,fun j v hv=>let ⟨y,hy,hr⟩:=(r.2 i e hi).2 j v hv;⟨y,hy,RP_ext h v y hr⟩⟩⟩
theorem Rows'.append {w:World}{K:Nat→Kd}{z:Nat}{xs ys:List Value}{es fs:List (List V)}(h:Rows' w K z xs es)(k:Rows' w K z ys fs):Rows' w K z (xs++ys) (es++fs):=by
  refine ⟨by rw [List.length_append,List.length_append,Nat.add_mul,h.1,k.1],fun i e hi=>?_⟩
  rw [List.getElem?_append] at hi
  split at hi
  · rename_i hlt
    obtain ⟨hz,hc⟩:=h.2 i e hi
    refine ⟨hz,fun j v hv=>?_⟩
    obtain ⟨y,hy,hr⟩:=hc j v hv
    refine ⟨y,?_,hr⟩
    rw [List.getElem?_append_left (List.getElem?_eq_some_iff.1 hy).1]
    exact hy
  · rename_i hge
    obtain ⟨hz,hc⟩:=k.2 _ e hi
    refine ⟨hz,fun j v hv=>?_⟩
    obtain ⟨y,hy,hr⟩:=hc j v hv
    refine ⟨y,?_,hr⟩
    have hle:es.length*z≤i*z:=Nat.mul_le_mul_right z (by omega)
    rw [List.getElem?_append_right (by rw [h.1];omega),h.1,show i*z+j - es.length*z=(i - es.length)*z+j by rw [Nat.sub_mul];omega]
    exact hy
theorem Rows'.of_RPr {w:World}{K:Nat→Kd}{b z o:Nat}{es:List (List V)}(h:RPr w K b z o es) :
    ∃ ys:List Value,Rows' w K z ys es∧∀ (j:Nat) v,ys[j]?=some v→w.cell? ⟨b,o+j,none⟩=some v:=by
  induction es generalizing o with
  | nil=>exact ⟨[],⟨by simp,by simp⟩,by simp⟩
  | cons e r ih =>
    simp only [RPr] at h
    obtain ⟨h1,h2,h3⟩:=h
    obtain ⟨ys,h4,h5⟩:=ih h3
    have:∃ xs:List Value,xs.length=e.length∧(∀ (j:Nat) v,xs[j]?=some v→w.cell? ⟨b,o+j,none⟩=some v)∧∀ (j:Nat) v,e[j]?=some v→∃ y,xs[j]?=some y∧RP w K v y:=by
      clear h1 h3 h4 h5 ih
      induction e generalizing o with
      | nil=>exact ⟨[],rfl,by simp,by simp⟩
      | cons v q ih =>
        simp only [RPc] at h2
        obtain ⟨⟨x,hx,hr⟩,h2⟩:=h2
        obtain ⟨xs,k1,k2,k3⟩:=ih h2
        refine ⟨x::xs,by simp [k1],fun j u hj=>?_,fun j u hj=>?_⟩
        · cases j with
          | zero=>simp at hj;subst hj;simpa using hx
          | succ j=>simp at hj;have:=k2 j u hj;rwa [show o+(j+1)=o+1+j by omega]
        · cases j with
          | zero=>simp at hj;subst hj;exact ⟨x,by simp,hr⟩
          | succ j=>simp at hj;obtain ⟨y,hy,hr⟩:=k3 j u hj;exact ⟨y,by simpa using hy,hr⟩
    obtain ⟨xs,k1,k2,k3⟩:=this
    refine ⟨xs++ys,⟨by rw [List.length_append,k1,h1,h4.1,List.length_cons,Nat.add_mul];omega,fun i u hi=>?_⟩,fun j u hj=>?_⟩
    · cases i with
      | zero =>
        simp at hi;subst hi
        refine ⟨h1,fun j v hv=>?_⟩
        obtain ⟨y,hy,hr⟩:=k3 j v hv
        refine ⟨y,?_,hr⟩
        rw [Nat.zero_mul,Nat.zero_add,List.getElem?_append_left (List.getElem?_eq_some_iff.1 hy).1]
        exact hy
      | succ i =>
        simp at hi
        obtain ⟨hz,hc⟩:=h4.2 i u hi
        refine ⟨hz,fun j v hv=>?_⟩
        obtain ⟨y,hy,hr⟩:=hc j v hv
        refine ⟨y,?_,hr⟩
        have e1:(i+1)*z=z+i*z:=by rw [Nat.add_mul,Nat.one_mul,Nat.add_comm]
        rw [List.getElem?_append_right (by omega),k1,h1,show (i+1)*z+j - z=i*z+j by omega]
        exact hy
    · rw [List.getElem?_append] at hj
      split at hj
      · exact k2 j u hj
      · rename_i hge
        have:=h5 _ u hj
        rwa [show o+z+(j - xs.length)=o+j by omega] at this
theorem Rows'.take {w:World}{K:Nat→Kd}{z:Nat}{ys:List Value}{es:List (List V)}(h:Rows' w K z ys es)(l n:Nat):Rows' w K z ((ys.drop (l*z)).take (n*z)) ((es.drop l).take n):=by
  refine ⟨?_,fun i e hi=>?_⟩
  · rw [List.length_take,List.length_drop,List.length_take,List.length_drop,h.1,← Nat.sub_mul,← Nat.mul_min_mul_right]
  · rw [List.getElem?_take] at hi
    split at hi
    · rename_i hn
      rw [List.getElem?_drop] at hi
      obtain ⟨hz,hc⟩:=h.2 _ e hi
      refine ⟨hz,fun j v hv=>?_⟩
      obtain ⟨y,hy,hr⟩:=hc j v hv
      refine ⟨y,?_,hr⟩
      have hj:j < z:=by rw [← hz];exact (List.getElem?_eq_some_iff.1 hv).1
      have hle:(i+1)*z≤n*z:=Nat.mul_le_mul_right z (by omega)
      have e1:(i+1)*z=i*z+z:=by rw [Nat.add_mul,Nat.one_mul]
      rw [List.getElem?_take,if_pos (by omega),List.getElem?_drop,← Nat.add_assoc,← Nat.add_mul]
      exact hy
    · cases hi
theorem str_rows (w:World)(K:Nat→Kd)(b:ByteArray):Rows' w K 1 (b.data.toList.map fun x=>.int .u8 x.toNat) (str8 b):=by
  refine ⟨by simp [str8],fun i e hi=>?_⟩
  simp only [str8,List.getElem?_map] at hi
  cases h:b.data.toList[i]? with
  | none=>rw [h] at hi;cases hi
  | some x =>
    rw [h] at hi
    cases hi
    refine ⟨rfl,fun j v hv=>?_⟩
    cases j with
    | zero=>simp at hv;subst hv;exact ⟨_,by simp only [Nat.mul_one,Nat.add_zero,List.getElem?_map,h];rfl,by simp only [RP]⟩
    | succ j=>simp at hv
theorem src_ok {w0:World}{g0:G}{d:Nat}{s:St}{a:Act}{w:World}{g:G}(hI:Inv w0 g0 d s a w g){x:Operand}{x':A}(hx:Opd x x'){z:Nat}{xs:List (List V)}(h:srcV d s z (x'.ev s.r)=some xs) :
    ∃ ys:List Value,Rows' w g.K z ys xs∧(∀ w1,(Builtin.lenOf (a.eval x)).run P w1=.ok xs.length w1) ∧
      (∀ n,n≤xs.length→∀ w1:World,w1.heap=w.heap→(Builtin.firstCells z n (a.eval x)).run P w1=.ok (ys.take (n*z)).toArray w1):=by
  have fromBlock:∀ (b o len cap:Nat) (es:List (List V)),RPr w g.K b z o es→a.eval x=.slice (some ⟨b,o,none⟩) len cap→len=es.length →
      ∃ ys:List Value,Rows' w g.K z ys es∧(∀ w1,(Builtin.lenOf (a.eval x)).run P w1=.ok es.length w1) ∧
      (∀ n,n≤es.length→∀ w1:World,w1.heap=w.heap→(Builtin.firstCells z n (a.eval x)).run P w1=.ok (ys.take (n*z)).toArray w1):=by
    intro b o len cap es hr he hl
    obtain ⟨ys,h1,h2⟩:=Rows'.of_RPr hr
    refine ⟨ys,h1,fun w1=>by rw [he];simp [Builtin.lenOf,hl],fun n hn w1 hw=>?_⟩
    rw [he]
    have hle:n*z≤es.length*z:=Nat.mul_le_mul_right z hn
    refine run_firstCells_some w1 z n ⟨b,o,none⟩ len cap (ys.take (n*z)) (by rw [List.length_take,h1.1];omega) fun j v hv=>?_
    rw [List.getElem?_take] at hv
    split at hv
    · rw [add_off]
      have:=h2 j v hv
      simp only [World.cell?] at this ⊢
      rw [hw];exact this
    · cases hv
  have nothing:∀ c,a.eval x=.slice none 0 c→xs=[]→∃ ys:List Value,Rows' w g.K z ys xs∧(∀ w1,(Builtin.lenOf (a.eval x)).run P w1=.ok xs.length w1) ∧
      (∀ n,n≤xs.length→∀ w1:World,w1.heap=w.heap→(Builtin.firstCells z n (a.eval x)).run P w1=.ok (ys.take (n*z)).toArray w1):=by
    intro c he hx
    subst hx
    refine ⟨[],⟨by simp,by simp⟩,fun w1=>by rw [he];simp [Builtin.lenOf],fun n hn w1 hw=>?_⟩
    rw [he,run_firstCells_none]
    simp
  have slice_empty:∀ (p:Option Addr) c,a.eval x=.slice p 0 c→xs=[]→∃ ys:List Value,Rows' w g.K z ys xs∧(∀ w1,(Builtin.lenOf (a.eval x)).run P w1=.ok xs.length w1) ∧
      (∀ n,n≤xs.length→∀ w1:World,w1.heap=w.heap→(Builtin.firstCells z n (a.eval x)).run P w1=.ok (ys.take (n*z)).toArray w1):=by
    intro p c he hx
    cases p with
    | none=>exact nothing c he hx
    | some ad =>
      subst hx
      refine ⟨[],⟨by simp,by simp⟩,fun w1=>by rw [he];simp [Builtin.lenOf],fun n hn w1 hw=>?_⟩
      rw [he]
      simp at hn
      subst hn
      simp [Builtin.firstCells,loadCells,loadCellsFrom]
  unfold srcV at h
  split at h
  · rename_i z' es o hv
    split at h
    · rename_i hz
      cases h
      rcases uq_cases (x'.ev s.r) with hu | ⟨z2,es2,hu⟩
      · have hr:=hx.r hI hu
        rw [hv] at hr
        simp only [R] at hr
        obtain ⟨_,p,c,hp,⟨hc,hn,hs⟩,_⟩:=hr
        cases hes:xs with
        | nil=>rw [hes] at hp;rw [← hes];exact slice_empty p c hp hes
        | cons e r =>
          rw [← hes]
          have hz':z'=z:=by rcases hz with h | h;exact h;rw [hes] at h;cases h
          subst hz'
          cases p with
          | none=>have:=(hn rfl).1;rw [hes] at this;cases this
          | some ad =>
            obtain ⟨k1,k2,k3⟩:=hs ad rfl
            obtain ⟨bb,oo,sp⟩:=ad
            simp only at k1
            subst k1
            exact fromBlock bb oo _ c xs k3 hp rfl
      · rcases hx with ⟨n,rfl,rfl⟩ | ⟨u,rfl,hu',_⟩
        · have hr:=hI.regs n
          simp only [A.ev] at hu hv
          rw [hu] at hv
          cases hv
          rw [hu] at hr
          simp only [RT] at hr
          rcases hr with ⟨he,hes⟩ | ⟨b,c,cur,el,fz,he,hc,hk,hh,hsz,hth,hr⟩
          · exact nothing 0 he hes
          · cases hes:xs with
            | nil=>rw [← hes];exact slice_empty _ c (by rw [hes] at he;exact he) hes
            | cons e r =>
              rw [← hes]
              have hz':z'=z:=by rcases hz with h | h;exact h;rw [hes] at h;cases h
              subst hz'
              exact fromBlock b 0 _ c xs hr he rfl
        · simp only [A.ev] at hu;rw [hu] at hu';simp [V.uq] at hu'
    · cases h
  · rename_i b hv
    split at h
    · rename_i hz
      cases h
      subst hz
      have he:=hx.str hI hv
      refine ⟨_,str_rows w g.K b,fun w1=>by rw [he];simp [Builtin.lenOf,str8],fun n hn w1 _=>?_⟩
      rw [he]
      simp only [Builtin.firstCells,Sem.run_pure]
      congr 1
      apply Array.ext'
      simp only [Array.toList_map]
      have hsz:n≤b.size:=by simpa [str8] using hn
      have:(b.extract 0 n).data.toList=b.data.toList.take n:=by
        rw [ByteArray.data_extract,Array.toList_extract]
        simp
      rw [this,← List.map_take,Nat.mul_one]
    · cases h
  · rename_i k z2 lo n hv
    split at h
    · rename_i z' es fr hg
      split at h
      · rename_i hc
        cases h
        obtain ⟨e1,e2,hle⟩:=hc
        subst e1 e2
        obtain ⟨b,p,c,hA,he,hnc,hp⟩:=hx.arr hI hv
        have ho:=hI.objs k _ hg
        simp only [ObjR] at ho
        obtain ⟨b',h1,h2⟩:=ho
        rw [hA] at h1
        cases h1
        have hlen:((es.drop lo).take n).length=n:=by rw [List.length_take,List.length_drop];omega
        rcases Nat.eq_zero_or_pos n with h0 | h0
        · subst h0
          exact slice_empty p c he (by simp)
        · have hp':p=some ⟨b,lo*z2,none⟩:=by rcases hp with h | h;exact h.1;exact absurd h.1 (by omega)
          subst hp'
          rcases h2 with rfl | ⟨cur,el,fz,h3,h4,h5,h6⟩
          · simp at hle;omega
          · have hr:RPr w g.K b z2 (lo*z2) ((es.drop lo).take n):=by
              rw [RPr_iff] at h6 ⊢
              intro i e hi
              rw [List.getElem?_take] at hi
              split at hi
              · rw [List.getElem?_drop] at hi
                have:=h6 _ e hi
                refine ⟨this.1,fun j v hv=>?_⟩
                obtain ⟨y,hy,hr⟩:=this.2 j v hv
                refine ⟨y,?_,hr⟩
                rw [Nat.add_mul] at hy
                rwa [show lo*z2+i*z2+j=0+(lo*z2+i*z2)+j by omega]
              · cases hi
            exact fromBlock b (lo*z2) n c _ hr he hlen.symm
      · cases h
    · cases h
  · cases h
end Go.Den
namespace Go.Den
variable {P:Program}
def notInt (u:TypeDesc):Prop:=(∃ e,u=.slice e)∨u=.string
theorem rset_same:∀ (r:List V)(n:Nat),rset r n (rget r n)=r
  | [],_=>rfl
  | _::_,0=>rfl
  | a::r,n+1=>by simp only [rset,rget,rset_same r n]
theorem rset_twice (u v:V):∀ (r:List V)(n:Nat),rset (rset r n u) n v=rset r n v
  | [],_=>rfl
  | _::_,0=>rfl
  | a::r,n+1=>by simp only [rset,rset_twice u v r n]
section
variable {w w':World} {t u ty e:TypeId} {i:TypeInfo} {zv:Value} {U:TypeDesc} {base:Option Addr} {sLen sCap n:Nat} {x:Value} {olds news:List Value}
theorem run_app_room (ht:P.underlying t=some (.slice e))(hu:P.underlying u=some U)(hU:notInt U)(hi:P.info? e=some i)(hl:(Builtin.lenOf x).run P w=.ok n w)(hf:(Builtin.firstCells i.size n x).run P w=.ok news.toArray w)
    (h:sLen+n≤sCap) (hs:∀ a,base=some a→(storeCells (a.add (sLen*i.size)) news).run P w=.ok () w') (hn:base=none→w'=w) :
    (Builtin.append_ #[t,u] ty #[.slice base sLen sCap,x]).run P w=.ok (.slice base (sLen+n) sCap) w':=by
  cases base with
  | none =>
    rw [hn rfl]
    rcases hU with ⟨e',rfl⟩ | rfl<;>simp [Builtin.append_,run_underlying ht,run_underlying hu,sizeOf,typeInfo,hi,hl,h,hf]
  | some a =>
    have:=hs a rfl
    rcases hU with ⟨e',rfl⟩ | rfl<;>simp [Builtin.append_,run_underlying ht,run_underlying hu,sizeOf,typeInfo,hi,hl,h,hf,this]
theorem run_app_new (ht:P.underlying t=some (.slice e))(hu:P.underlying u=some U)(hU:notInt U)(hi:P.info? e=some i)(hzz:i.zero=some zv)(hl:(Builtin.lenOf x).run P w=.ok n w)(hf:(Builtin.firstCells i.size n x).run P w.drew=.ok news.toArray w.drew)
    (ho:(Builtin.firstCells i.size sLen (.slice base sLen sCap)).run P w.drew=.ok olds.toArray w.drew) (h:sCap < sLen+n) (h63:sLen+n≤9223372036854775807) (hb:(sLen+n)*i.bytes≤140737488355328) :
    (Builtin.append_ #[t,u] ty #[.slice base sLen sCap,x]).run P w=.ok (.slice (some ⟨w.heap.size,0,none⟩) (sLen+n) (grownCap w (sLen+n) sCap e))
      (w.drew.alloc (.cells (olds.toArray++news.toArray++Builtin.zeroCells zv.cells (grownCap w (sLen+n) sCap e - (sLen+n))) e)):=by
  have hn:¬ (sLen+n≤sCap):=by omega
  have h63':¬ (9223372036854775807 < ((sLen:Int)+(n:Int))):=by omega
  have hfit:=growslice_fits h hb
  have h48':¬ (281474976710656 < Builtin.nextslicecap (sLen+n) sCap*i.bytes):=by omega
  rcases hU with ⟨e',rfl⟩ | rfl<;>simp [Builtin.append_,run_underlying ht,run_underlying hu,sizeOf,typeInfo,zeroValue,hi,hzz,hl,hn,h63',h48',Question.forced,hf,ho,newRow,grownCap]<;>(congr 2;apply Array.ext';simp [List.append_assoc])
end
theorem keep_drew (w:World)(g:G)(S:Lc→Prop)(T:Key→Prop):Keep w g w.drew g S T:=
  ⟨⟨Nat.le_refl _,fun _ _ h=>⟨h,rfl⟩,fun _ _=>Nat.le_refl _⟩,rfl,rfl,rfl,fun _ _ h=>⟨h,rfl⟩,fun _ _ _ _ h=>⟨h,rfl⟩,fun _ _ _ _ h=>⟨h,rfl⟩,fun _ _ h=>h⟩
theorem RPr_new {w:World}{K:Nat→Kd}{z b:Nat}{ys rest:List Value}{es:List (List V)}{e:TypeId}{fz:Nat × Nat}{cur:Array Value}(h:Rows' w K z ys es)(hh:w.heap[b]?=some (.cells cur e fz))(hc:cur.toList=ys++rest):RPr w K b z 0 es:=by
  rw [RPr_iff]
  intro i r hi
  obtain ⟨hz,hj⟩:=h.2 i r hi
  refine ⟨hz,fun j v hv=>?_⟩
  obtain ⟨y,hy,hr⟩:=hj j v hv
  refine ⟨y,?_,hr⟩
  rw [Nat.zero_add,cell_of_row w b _ cur e fz hh,← Array.getElem?_toList,hc,List.getElem?_append_left (List.getElem?_eq_some_iff.1 hy).1]
  exact hy
theorem Inv.newRow {w0:World}{g0:G}{d:Nat}{s:St}{a:Act}{w:World}{g:G}(hI:Inv w0 g0 d s a w g){t z c:Nat}{es:List (List V)}{ys rest:List Value}{e:TypeId}{fz:Nat × Nat}{cur:Array Value}(h:Rows' w g.K z ys es)(hc:cur.toList=ys++rest)(hl:es.length≤c)(hs:cur.size=c*z)(ht:Thaw cur fz) :
    ∃ g',Inv w0 g0 d (s.put t (.sl z es .uniq)) (a.put (some t) (.slice (some ⟨w.heap.size,0,none⟩) es.length c)) (w.alloc (.cells cur e fz)) g':=by
  have kp:=keep_alloc w g (.cells cur e fz) (.priv (.reg t)) (fun _=>True) (fun _=>True)
  refine ⟨setKd g w.heap.size (.priv (.reg t)),(hI.keepAll kp fun _=>rfl).put ?_⟩
  simp only [RT]
  exact .inr ⟨w.heap.size,c,cur,e,fz,rfl,hl,by simp [setKd],heap_alloc_new _ _,Nat.le_of_eq hs.symm,ht,RPr_new (h.ext kp.toExt) (heap_alloc_new _ _) hc⟩
theorem zeroCells_size (zs:Array Value)(n:Nat):(Builtin.zeroCells zs n).size=n*zs.size:=by simp [Builtin.zeroCells]
theorem grown_ge (w:World)(need old:Nat)(e:TypeId):need≤grownCap w need old e:=by
  unfold grownCap Question.cut;simp
variable {op:Oper} {d t:Nat} {s:St}
theorem Inv.off_op {w0:World}{g0:G}{a:Act}{w:World}{g:G}(hI:Inv w0 g0 d s a w g)(x':A):Inv w0 g0 d (s.off x') a w g:=by
  cases x' with
  | t n=>simp only [St.off];split;exact hI.dead n;exact hI
  | c v=>exact hI
theorem Opd.dem' {w0:World}{g0:G}{a:Act}{w:World}{g:G}(A:A)(hI:Inv w0 g0 d s a w g) :
    ∃ g',Inv w0 g0 d (s.dem A) a w g'∧(∀ q,g'.A q=g.A q)∧Keep w g w g' (fun m=>match A with | .t n=>m≠.reg n | _=>True) (fun _=>True):=by
  cases A with
  | t n=>obtain ⟨g',h1,_,h3,h4⟩:=hI.dem n;exact ⟨g',h1,h4,h3⟩
  | c v=>exact ⟨g,hI,fun _=>rfl,Keep.refl _ _ _ _⟩
theorem Opd.demK {w0:World}{g0:G}{a:Act}{w:World}{g:G}(A:A)(hI:Inv w0 g0 d s a w g) :
    ∃ g',Inv w0 g0 d (s.dem A) a w g'∧(∀ q,g'.A q=g.A q)∧Keep w g w g' (fun m=>match A with | .t n=>m≠.reg n | _=>True) (fun _=>True) ∧
      ∀ b l,b < w.heap.size→g.K b=.priv l→g'.K b=.priv l∨∃ m,A=.t m∧l=.reg m∧(rget s.r m).uq=true:=by
  cases A with
  | c v=>exact ⟨g,hI,fun _=>rfl,Keep.refl _ _ _ _,fun _ _ _ h=>.inl h⟩
  | t n =>
    have hr:=hI.regs n
    rcases uq_cases (rget s.r n) with hu | ⟨z,es,hv⟩
    · have:s.dem (.t n)=s:=by
        simp only [St.dem]
        split
        · rename_i z es he;rw [he] at hu;simp [V.uq] at hu
        · rfl
      rw [this]
      exact ⟨g,hI,fun _=>rfl,Keep.refl _ _ _ _,fun _ _ _ h=>.inl h⟩
    · rw [hv] at hr
      obtain ⟨g',k,hA,r⟩:=share hr
      have:s.dem (.t n)=s.put n (.sl z es .sh):=by simp only [St.dem,hv]
      rw [this]
      refine ⟨g',hI.keep k hA (by simp only [RT];exact r),hA,k,fun b l h hb=>?_⟩
      by_cases hl:l=.reg n
      · exact .inr ⟨n,rfl,hl,by rw [hv];rfl⟩
      · exact .inl (k.priv l hl b h hb).1
theorem ok_app {T U e:TypeId}{i:TypeInfo}{u:TypeDesc}{l:List V}{x y:Operand}{x' y':A}{xs:List (List V)}{v:V}(ho:op.op=.call { callee:=.builtin .append,args:=#[x,y],argTypes:=#[T,U] })(hd:op.dst=some t)(hT:P.underlying T=some (.slice e))(hU:P.underlying U=some u)(hnu:notInt u)
    (hi:P.info? e=some i) (hz:zcells P e=some l) (hx:Opd x x') (hy:Opd y y') (h1:srcV d s i.size (y'.ev s.r)=some xs) (h2:appV i.size (x'.ev s.r) xs=some v):OpOk P op d s (((s.off x').dem y').put t v):=by
  obtain ⟨i',zv,hi',hzz,hok,hlz,hpos,hby⟩:=zcells_some hz
  rw [hi] at hi'
  cases hi'
  have hzs:zv.cells.size=i.size:=by
    have:=RL_length (okZ_r (w:=default) (g:=⟨fun _=>.imm,fun _=>none,fun _=>none⟩) hok)
    simp at this;omega
  refine .value fun w0 g0 a w g hI=>?_
  obtain ⟨news,hn1,hn2,hn3⟩:=src_ok (P:=P) hI hy h1
  have hnews:news.take (xs.length*i.size)=news:=List.take_of_length_le (by rw [hn1.1];exact Nat.le_refl _)
  have hf:∀ w1:World,w1.heap=w.heap→(Builtin.firstCells i.size xs.length (a.eval y)).run P w1=.ok news.toArray w1:=fun w1 hw=>by rw [hn3 _ (Nat.le_refl _) w1 hw,hnews]
  have hex:∀ r w',(Builtin.append_ #[T,U] op.type #[a.eval x,a.eval y]).run P w=.ok r w'→(execOp a.eval op).run P w=.ok (.value r) w':=by
    intro r w' hX
    simp only [execOp,ho,resolve,invoke,builtin,Sem.run_bind,Sem.run_pure,Result.andThen_ok,List.map_toArray,List.map_cons,List.map_nil,hX]
  have grow:∀ (es:List (List V)) (base:Option Addr) (sCap:Nat) (olds:List Value) (I1:Inv w0 g0 d (s.off x') a w g),a.eval x=.slice base es.length sCap→Rows' w g.K i.size olds es→(Builtin.firstCells i.size es.length (.slice base es.length sCap)).run P w.drew=.ok olds.toArray w.drew →
      es.length+xs.length≤most→sCap < es.length+xs.length→∃ r w' g',(execOp a.eval op).run P w=.ok (.value r) w'∧Inv w0 g0 d (((s.off x').dem y').put t (.sl i.size (es++xs) .uniq)) (a.put op.dst r) w' g':=by
    intro es base sCap olds I1 he ho1 hof hm hcap
    have hm':es.length+xs.length≤16777216:=hm
    have hrun:=run_app_new (P:=P) (ty:=op.type) hT hU hnu hi hzz (hn2 w) (hf w.drew rfl) hof hcap (by omega) (by
      have:(es.length+xs.length)*i.bytes≤16777216*1024:=Nat.mul_le_mul hm' hby
      omega)
    obtain ⟨g1,I2,hA,kp⟩:=Opd.dem' y' I1
    have I3:=I2.keepAll (keep_drew w g1 _ _) fun _=>rfl
    have rows:Rows' w.drew g1.K i.size (olds++news) (es++xs):=((ho1.append hn1).ext kp.toExt).ext (keep_drew w g1 (fun _=>True) (fun _=>True)).toExt
    have hsz:(olds++news).length=(es.length+xs.length)*i.size:=by rw [rows.1,List.length_append]
    have hge:=grown_ge w (es.length+xs.length) sCap e
    obtain ⟨g2,I4⟩:=I3.newRow (t:=t) (c:=grownCap w (es.length+xs.length) sCap e) (e:=e) (fz:=(0,0)) (cur:=olds.toArray++news.toArray++Builtin.zeroCells zv.cells (grownCap w (es.length+xs.length) sCap e - (es.length+xs.length))) rows (rest:=(Builtin.zeroCells zv.cells (grownCap w (es.length+xs.length) sCap e - (es.length+xs.length))).toList) (by simp) (by rw [List.length_append];exact hge) (by
      rw [Array.size_append,Array.size_append,zeroCells_size,hzs]
      simp only [List.size_toArray]
      rw [← List.length_append,hsz,← Nat.add_mul]
      congr 1;omega) (thaw_zero _)
    refine ⟨_,_,g2,hex _ _ (by rw [he];exact hrun),?_⟩
    rw [hd]
    rw [List.length_append] at I4
    exact I4
  unfold appV at h2
  split at h2
  ·
    rename_i z' es hv
    split at h2
    · rename_i hc
      obtain ⟨rfl,hm⟩:=hc
      cases h2
      rcases hx with ⟨n,rfl,rfl⟩ | ⟨q,rfl,hq,_⟩
      · have hr:=hI.regs n
        simp only [A.ev] at hv
        rw [hv] at hr
        simp only [RT] at hr
        rcases hr with ⟨hx,he⟩ | ⟨b,c,cur,el,fz,hx,hlc,hk,hh,hsz,hth,hr⟩
        · subst he
          rcases Nat.eq_zero_or_pos xs.length with h0 | h0
          · have hx0:xs=[]:=List.length_eq_zero_iff.mp h0
            subst hx0
            have hrun:=run_app_room (P:=P) (ty:=op.type) (base:=none) (sLen:=0) (sCap:=0) (w':=w) hT hU hnu hi (hn2 w) (hf w rfl) (Nat.le_refl _) (fun _ h=>by cases h) (fun _=>rfl)
            obtain ⟨g1,I2,hA,kp⟩:=Opd.dem' y' (hI.off_op (.t n))
            refine ⟨_,_,g1,hex _ _ (by rw [show a.eval (.tmp n)=.slice none 0 0 from hx];exact hrun),?_⟩
            rw [hd]
            refine I2.put ?_
            simp only [RT]
            exact .inl ⟨rfl,rfl⟩
          · exact grow [] none 0 [] (hI.off_op (.t n)) hx ⟨by simp,by simp⟩ (by simp [Builtin.firstCells]) hm (by simpa using h0)
        · rcases Nat.lt_or_ge c (es.length+xs.length) with hlt | hge
          · obtain ⟨olds,ho1,ho2⟩:=Rows'.of_RPr hr
            refine grow es (some ⟨b,0,none⟩) c olds (hI.off_op (.t n)) hx ho1 ?_ hm hlt
            exact run_firstCells_some w.drew i.size es.length ⟨b,0,none⟩ _ c olds ho1.1 fun j v hv=>by rw [add_off];exact ho2 j v hv
          ·
            have hlen:news.length=xs.length*i.size:=hn1.1
            have hle:(es.length+xs.length)*i.size≤c*i.size:=Nat.mul_le_mul_right _ hge
            rw [Nat.add_mul] at hle
            have hst:=run_stores (P:=P) b (es.length*i.size) el fz news 0 cur w hh hth (by omega) hn1.one
            have hrun:=run_app_room (P:=P) (ty:=op.type) (base:=some ⟨b,0,none⟩) (sLen:=es.length) (sCap:=c) (w':=w.setRow b (arrPut cur (es.length*i.size+0) news)) hT hU hnu hi (hn2 w) (hf w rfl) hge (fun a ha=>by cases ha;rw [add_off,Nat.zero_add];exact hst) (fun h=>by cases h)
            have hoff:s.off (.t n)=s.put n .dead:=by simp only [St.off,hv]
            have I1:=hI.off_op (.t n)
            obtain ⟨g1,I2,hA1,kp1,hk1⟩:=Opd.demK y' I1
            have hkb:g1.K b=.priv (.reg n):=by
              rcases hk1 b _ (heap_lt hh) hk with h | ⟨m,_,hm,hu⟩
              · exact h
              · cases hm
                rw [hoff] at hu
                simp only [St.put,rget_rset] at hu
                split at hu
                · simp [V.uq] at hu
                · rename_i hnl
                  rw [rget_ge _ _ (by simp only [true_and] at hnl;omega)] at hu
                  simp [V.uq] at hu
            have kp2:=keep_kd (w:=w) hkb (.priv (.reg t))
            have hdead:rget ((s.off (.t n)).dem y').r n=.dead:=by
              rw [hoff]
              have hq1:rget (s.put n .dead).r n=.dead:=by
                simp only [St.put,rget_rset]
                split
                · rfl
                · rename_i h;exact rget_ge _ _ (by simp only [true_and] at h;omega)
              clear hrun hst I1 I2 hk1
              cases y' with
              | c v=>exact hq1
              | t m =>
                simp only [St.dem]
                split
                · rename_i z3 es3 h3
                  simp only [St.put] at hq1 h3 ⊢
                  rw [rget_rset]
                  split
                  · rename_i h4;rw [← h4.1,hq1] at h3;cases h3
                  · exact hq1
                · exact hq1
            have I3:=I2.keep kp2 (fun _=>rfl) (n:=n) (v:=.dead) (by simp only [RT,R])
            have e3:((s.off (.t n)).dem y').put n .dead=(s.off (.t n)).dem y':=by
              unfold St.put
              rw [← hdead,rset_same]
            rw [e3] at I3
            have hk3:(setKd g1 b (.priv (.reg t))).K b=.priv (.reg t):=by simp [setKd]
            have kp4:Keep w (setKd g1 b (.priv (.reg t))) (w.setRow b (arrPut cur (es.length*i.size+0) news)) (setKd g1 b (.priv (.reg t))) (fun l=>l≠.reg t) (fun _=>True):=by
              have hb:∀ x,x≠b→(w.setRow b (arrPut cur (es.length*i.size+0) news)).heap[x]?=w.heap[x]?:=fun x hx=>setRow_other w b x _ hx
              exact ⟨⟨by simp,fun x _ hi=>⟨hi,hb x (by rintro rfl;rw [hk3] at hi;cases hi)⟩,fun x _=>rows_setRow (by rw [rowSize_cells hh,arrPut_size];exact Nat.le_refl _) x⟩,rfl,rfl,rfl,fun x _ hi=>⟨hi,hb x (by rintro rfl;rw [hk3] at hi;cases hi)⟩,
                fun l hl x _ hi=>⟨hi,hb x (by rintro rfl;rw [hk3] at hi;cases hi;exact hl rfl)⟩,fun q _ x _ hi=>⟨hi,hb x (by rintro rfl;rw [hk3] at hi;cases hi)⟩,fun _ _ h=>h⟩
            have I4:=I3.keep kp4 (fun _=>rfl) (n:=t) (v:=.dead) (by simp only [RT,R])
            refine ⟨_,_,setKd g1 b (.priv (.reg t)),hex _ _ (by rw [show a.eval (.tmp n)=_ from hx];exact hrun),?_⟩
            rw [hd]
            have I5:=I4.put (t:=t) (v:=.sl i.size (es++xs) .uniq) (x:=.slice (some ⟨b,0,none⟩) (es.length+xs.length) c) (by
              simp only [RT]
              have hheap:=setRow_heap w b cur (arrPut cur (es.length*i.size+0) news) el fz hh
              refine .inr ⟨b,c,_,el,fz,by rw [List.length_append],by rw [List.length_append];exact hge,hk3,hheap,by rw [arrPut_size];exact hsz,by intro o ho;exact hth o (by rwa [arrPut_size] at ho),?_⟩
              rw [RPr_iff]
              rw [RPr_iff] at hr
              intro p r hp
              have hext:Ext w g (w.setRow b (arrPut cur (es.length*i.size+0) news)) (setKd g1 b (.priv (.reg t))):=⟨by simp,fun x hx hi=>by
                have h1:=kp1.imm x hx hi
                have h2:=kp2.imm x hx h1.1
                have h4:=kp4.imm x hx h2.1
                exact h4,fun x _=>rows_setRow (by rw [rowSize_cells hh,arrPut_size];exact Nat.le_refl _) x⟩
              rw [List.getElem?_append] at hp
              split at hp
              · rename_i hpl
                obtain ⟨hz,hj⟩:=hr p r hp
                refine ⟨hz,fun j v hv=>?_⟩
                obtain ⟨y,hy,hrp⟩:=hj j v hv
                refine ⟨y,?_,RP_ext hext v y hrp⟩
                rw [cell_of_row w b _ cur el fz hh] at hy
                rw [cell_of_row _ b _ _ el fz hheap,arrPut_get,if_neg]
                · exact hy
                · have hjl:j < i.size:=by rw [← hz];exact (List.getElem?_eq_some_iff.1 hv).1
                  have:(p+1)*i.size≤es.length*i.size:=Nat.mul_le_mul_right _ hpl
                  rw [Nat.add_mul,Nat.one_mul] at this
                  omega
              · rename_i hpl
                obtain ⟨hz,hj⟩:=hn1.2 _ r hp
                refine ⟨hz,fun j v hv=>?_⟩
                obtain ⟨y,hy,hrp⟩:=hj j v hv
                refine ⟨y,?_,RP_ext hext v y hrp⟩
                have hjl:j < i.size:=by rw [← hz];exact (List.getElem?_eq_some_iff.1 hv).1
                have hpx:p - es.length < xs.length:=(List.getElem?_eq_some_iff.1 hp).1
                have e1:(p - es.length)*i.size+es.length*i.size=p*i.size:=by rw [← Nat.add_mul];congr 1;omega
                have e2:(p - es.length+1)*i.size≤xs.length*i.size:=Nat.mul_le_mul_right _ hpx
                rw [Nat.add_mul,Nat.one_mul] at e2
                rw [cell_of_row _ b _ _ el fz hheap,arrPut_get,if_pos (by omega),show 0+p*i.size+j - (es.length*i.size+0)=(p - es.length)*i.size+j by omega]
                exact hy)
            have e5:((((s.off (.t n)).dem y').put t .dead).put t (.sl i.size (es++xs) .uniq))=((s.off (.t n)).dem y').put t (.sl i.size (es++xs) .uniq):=by
              simp only [St.put,rset_twice]
            rw [e5] at I5
            exact I5
      · simp only [A.ev] at hv;rw [hv] at hq;simp [V.uq] at hq
    · cases h2
  ·
    rename_i z' es hv
    split at h2
    · rename_i hc
      cases h2
      have hr:=hx.r hI (by rw [hv];rfl)
      rw [hv] at hr
      simp only [R] at hr
      obtain ⟨_,p,c,hp,⟨hlc,hnn,hss⟩,htt⟩:=hr
      have hcl:c=es.length:=htt trivial
      subst hcl
      rcases Nat.eq_zero_or_pos xs.length with h0 | h0
      · have hx0:xs=[]:=List.length_eq_zero_iff.mp h0
        subst hx0
        have hnil:news=[]:=by have:=hn1.1;simpa using this
        subst hnil
        have hrun:=run_app_room (P:=P) (ty:=op.type) (base:=p) (sLen:=es.length) (sCap:=es.length) (w':=w) hT hU hnu hi (hn2 w) (hf w rfl) (Nat.le_refl _) (fun _ _=>by simp [storeCells]) (fun _=>rfl)
        obtain ⟨g1,I2,hA,kp⟩:=Opd.dem' y' (hI.off_op x')
        refine ⟨_,_,g1,hex _ _ (by rw [hp];exact hrun),?_⟩
        rw [hd]
        refine I2.put ?_
        simp only [RT,R,tq,List.isEmpty_nil,if_true,List.append_nil]
        refine ⟨by simp,p,es.length,rfl,⟨Nat.le_refl _,hnn,fun ad ha=>?_⟩,fun _=>rfl⟩
        obtain ⟨k1,k2,k3⟩:=hss ad ha
        refine ⟨k1,fun hne=>?_,?_⟩
        · obtain ⟨m1,m2⟩:=k2 hne
          exact ⟨(kp.imm _ m2 m1).1,m2⟩
        · cases hes:es with
          | nil=>simp only [RPr]
          | cons e r =>
            rw [← hes]
            have hz':z'=i.size:=by rcases hc.1 with h | h;exact h;rw [hes] at h;simp at h
            subst hz'
            obtain ⟨m1,m2⟩:=k2 (by rw [hes];simp)
            exact RPr_ext kp.toExt _ rfl _ _ _ k3
      · have e6:tq xs=.uniq:=by
          unfold tq
          rw [if_neg]
          simp
          rintro rfl
          simp at h0
        rw [e6]
        have rr:∃ olds:List Value,Rows' w g.K i.size olds es∧(Builtin.firstCells i.size es.length (.slice p es.length es.length)).run P w.drew=.ok olds.toArray w.drew:=by
          cases hes:es with
          | nil =>
            refine ⟨[],⟨by simp,by simp⟩,?_⟩
            cases p with
            | none=>simp [Builtin.firstCells]
            | some ad=>simp [Builtin.firstCells,loadCells,loadCellsFrom]
          | cons e r =>
            rw [← hes]
            have hz':z'=i.size:=by rcases hc.1 with h | h;exact h;rw [hes] at h;simp at h
            subst hz'
            cases p with
            | none=>have:=(hnn rfl).1;rw [hes] at this;cases this
            | some ad =>
              obtain ⟨k1,k2,k3⟩:=hss ad rfl
              obtain ⟨bb,oo,sp⟩:=ad
              simp only at k1
              subst k1
              obtain ⟨olds,ho1,ho2⟩:=Rows'.of_RPr k3
              exact ⟨olds,ho1,run_firstCells_some w.drew i.size es.length ⟨bb,oo,none⟩ _ _ olds ho1.1 fun j v hv=>by rw [add_off];exact ho2 j v hv⟩
        obtain ⟨olds,ho1,ho2⟩:=rr
        exact grow es p es.length olds (hI.off_op x') hp ho1 ho2 hc.2 (by omega)
    · cases h2
  · cases h2
end Go.Den
namespace Go.Den
variable {P:Program} {op:Oper} {d t:Nat} {s:St}
theorem ok_s2b {S T e:TypeId}{x:Operand}{x':A}{b:ByteArray}(ho:op.op=.convert S T x)(hd:op.dst=some t)(hs:P.underlying S=some .string)(ht:P.underlying T=some (.slice e))(he:P.underlying e=some (.int .u8))(hx:Opd x x')
    (h:x'.ev s.r=.str b):OpOk P op d s (s.put t (.sl 1 (str8 b) .uniq)):=by
  refine .value fun w0 g0 a w g hI=>?_
  have hrun:=run_bytes_of_string (P:=P) w S T e b hs ht he
  have hge:=grown_ge w b.size 0 e
  have I1:=hI.keepAll (keep_drew w g _ _) fun _=>rfl
  have hsz:(bytesRow b (grownCap w b.size 0 e)).size=grownCap w b.size 0 e*1:=by
    simp only [bytesRow,Array.size_append,Array.size_map,Array.size_replicate,Nat.mul_one]
    show b.size+_=_
    omega
  have hl:(str8 b).length=b.size:=by simp [str8]
  obtain ⟨g',I2⟩:=I1.newRow (t:=t) (c:=grownCap w b.size 0 e) (e:=e) (fz:=((bytesRow b (grownCap w b.size 0 e)).size,(bytesRow b (grownCap w b.size 0 e)).size+1)) (cur:=bytesRow b (grownCap w b.size 0 e)) (str_rows w.drew g.K b)
    (rest:=List.replicate (grownCap w b.size 0 e - b.size) (.int .u8 0)) (by simp [bytesRow]) (by rw [hl];exact hge) hsz (fun o h1 h2=>by simp only at h2;omega)
  refine ⟨_,_,g',by simp only [execOp,ho,hx.str hI h,Sem.run_bind,hrun,Result.andThen_ok,Sem.run_pure];rfl,?_⟩
  rw [hd]
  rw [hl] at I2
  exact I2
theorem foldl_push:∀ (ns:List Int)(r:ByteArray),ns.foldl (fun r n=>r.push (UInt8.ofNat n.toNat)) r=⟨r.data++(ns.map fun n=>UInt8.ofNat n.toNat).toArray⟩
  | [],r=>by simp
  | n::ns,r=>by
    simp only [List.map_cons,List.foldl_cons]
    rw [foldl_push ns]
    simp [ByteArray.push]
theorem vbytes_rows {w:World}{K:Nat→Kd}:∀ {es:List (List V)}{ys:List Value}{l:List UInt8},Rows' w K 1 ys es→vbytes es=some l→∃ ns:List Int,ys=ns.map (Value.int .u8)∧l=ns.map fun n=>UInt8.ofNat n.toNat
  | [],ys,l,h,hl=>by
    simp only [vbytes] at hl
    cases hl
    have:=h.1
    simp at this
    exact ⟨[],by simp [this],rfl⟩
  | e::r,ys,l,h,hl=>by
    unfold vbytes at hl
    split at hl
    · rename_i heq
      cases heq
    · rename_i n q heq
      cases heq
      cases hq:vbytes r with
      | none=>rw [hq] at hl;cases hl
      | some m =>
        rw [hq] at hl
        cases hl
        obtain ⟨hlen,hh⟩:=h
        cases ys with
        | nil=>simp at hlen
        | cons y ys =>
          obtain ⟨_,h0⟩:=hh 0 _ rfl
          obtain ⟨y',hy,hr⟩:=h0 0 _ rfl
          simp at hy
          subst hy
          simp only [RP] at hr
          subst hr
          obtain ⟨ns,h1,h2⟩:=vbytes_rows (es:=r) (ys:=ys) (l:=m) ⟨by simpa using hlen,fun i e hi=>by
            obtain ⟨k1,k2⟩:=hh (i+1) e (by simpa using hi)
            refine ⟨k1,fun j v hv=>?_⟩
            obtain ⟨y,hy,hr⟩:=k2 j v hv
            refine ⟨y,?_,hr⟩
            rw [show (i+1)*1+j=(i*1+j)+1 by omega] at hy
            simpa using hy⟩ hq
          exact ⟨n::ns,by simp [h1],by simp [h2]⟩
    · cases hl
theorem ok_b2s {S T e:TypeId}{x:Operand}{x':A}{es:List (List V)}{l:List UInt8}(ho:op.op=.convert S T x)(hd:op.dst=some t)(hs:P.underlying S=some (.slice e))(he:P.underlying e=some (.int .u8))(ht:P.underlying T=some .string)(hx:Opd x x')
    (h:srcB d s (x'.ev s.r)=some es) (hl:vbytes es=some l):OpOk P op d s (s.put t (.str ⟨l.toArray⟩)):=
  .plain hd rfl fun w0 g0 a w g hI=>by
    refine ⟨.string ⟨l.toArray⟩,?_,by simp only [R]⟩
    have hsrc:srcV d s 1 (x'.ev s.r)=some es:=by
      unfold srcB at h
      split at h
      · cases h
      · exact h
    obtain ⟨ys,h1,h2,h3⟩:=src_ok (P:=P) hI hx hsrc
    have h4:=h3 es.length (Nat.le_refl _) w rfl
    rw [List.take_of_length_le (by rw [h1.1];exact Nat.le_refl _)] at h4
    obtain ⟨ns,e1,e2⟩:=vbytes_rows h1 hl
    have hshape:∃ p c,a.eval x=.slice p es.length c:=by
      unfold srcB at h
      unfold srcV at h
      split at h
      · cases h
      · rename_i hns
        split at h
        · rename_i z' es' o hv
          split at h
          · cases h
            exact hx.slice hI hv
          · cases h
        · rename_i b hv;exact absurd hv (hns b)
        · rename_i k z2 lo n hv
          obtain ⟨b,p,c,_,hp,_⟩:=hx.arr hI hv
          split at h
          · split at h
            · rename_i hc
              cases h
              refine ⟨p,c,?_⟩
              rw [hp,List.length_take,List.length_drop]
              congr 1
              omega
            · cases h
          · cases h
        · cases h
    obtain ⟨p,c,hp⟩:=hshape
    rw [hp] at h4
    have hconv:(Conv.bytesToString (.slice p es.length c)).run P w=.ok (.string ⟨l.toArray⟩) w:=by
      cases p with
      | none =>
        rw [run_firstCells_none] at h4
        have:ys=[]:=by
          injection h4 with h4
          simpa using h4.symm
        rw [this] at e1
        have hn:ns=[]:=by
          cases ns with
          | nil=>rfl
          | cons a b=>simp at e1
        subst hn
        subst e2
        simp [Conv.bytesToString]
        rfl
      | some ad =>
        have h5:(loadCells ad es.length).run P w=.ok (ns.map (Value.int .u8)).toArray w:=by
          rw [← e1,← h4]
          simp [Builtin.firstCells]
        rw [run_bytesToString w ad es.length c ns h5,foldl_push,e2]
        show Result.ok (Value.string ⟨#[]++_⟩) w=_
        simp
    simp only [execOp,ho,hp,Sem.run_bind,run_convert_bytes_string w S T e p es.length c hs he ht,hconv,Result.andThen_ok,Sem.run_pure]
theorem ok_mks {T e:TypeId}{x y:Operand}{x' y':A}{zero:List V}{n c:Int}(ho:op.op=.makeSlice T x y)(hd:op.dst=some t)(ht:P.underlying T=some (.slice e))(hz:zcells P e=some zero)(hx:Opd x x')(hy:Opd y y')
    (h1:x'.ev s.r=.int .i64 n) (h2:y'.ev s.r=.int .i64 c) (hc:0≤n∧n≤c∧c≤16777216∧zero.all V.pure=true):OpOk P op d s (s.put t (.sl zero.length (List.replicate n.toNat zero) .uniq)):=by
  obtain ⟨i,zv,hi,hzz,hok,hlz,hpos,hby⟩:=zcells_some hz
  refine .value fun w0 g0 a w g hI=>?_
  have hb:(i.bytes:Int)*c≤281474976710656:=by
    have:(i.bytes:Int)*c≤1024*c:=Int.mul_le_mul_of_nonneg_right (by omega) (by omega)
    omega
  have hrun:=run_make (P:=P) w T e i zv ht hi hzz .i64 .i64 n c hc.1 hc.2.1 hb (by omega)
  have hrl:RL w g zero zv.cells.toList:=okZ_r hok
  have hcl:=RL_length hrl
  have hzs:zv.cells.size=zero.length:=by simpa using hcl
  have hms:(madeCells zv.cells (c.toNat*i.size)).size=c.toNat*zero.length:=by rw [size_madeCells,hlz]
  have hget:∀ p,p < c.toNat*i.size→(madeCells zv.cells (c.toNat*i.size))[p]?=zv.cells[p % zero.length]?:=by
    intro p hp
    have h0:p % zero.length < zv.cells.size:=by rw [hzs];exact Nat.mod_lt _ (by omega)
    unfold madeCells
    rw [Array.getElem?_map,Array.getElem?_eq_getElem (by simpa using hp),Option.map_some,Array.getElem_range,hzs,getElem!_pos zv.cells _ h0,Array.getElem?_eq_getElem h0]
  have hle:n.toNat*i.size≤c.toNat*i.size:=Nat.mul_le_mul_right _ (by omega)
  obtain ⟨g',I2⟩:=hI.newRow (t:=t) (z:=zero.length) (c:=c.toNat) (es:=List.replicate n.toNat zero) (e:=e) (fz:=(0,0)) (cur:=madeCells zv.cells (c.toNat*i.size))
    (ys:=(madeCells zv.cells (c.toNat*i.size)).toList.take (n.toNat*i.size)) (rest:=(madeCells zv.cells (c.toNat*i.size)).toList.drop (n.toNat*i.size)) ⟨by rw [List.length_take,Array.length_toList,size_madeCells,List.length_replicate,hlz];omega,fun q r hq=>by
      have hq':=List.getElem?_eq_some_iff.1 hq
      obtain ⟨hql,hqe⟩:=hq'
      simp at hql hqe
      subst hqe
      refine ⟨rfl,fun j v hv=>?_⟩
      obtain ⟨y,hy,hr⟩:=RL_get hrl hv
      have hj:j < zero.length:=(List.getElem?_eq_some_iff.1 hv).1
      refine ⟨y,?_,R_RP (List.all_eq_true.mp hc.2.2.2 v (List.mem_of_getElem? hv)) hr⟩
      have hb1:(q+1)*zero.length≤n.toNat*zero.length:=Nat.mul_le_mul_right _ (by omega)
      rw [Nat.add_mul,Nat.one_mul] at hb1
      rw [← hlz] at hget hle
      rw [← hlz,List.getElem?_take,if_pos (by omega),Array.getElem?_toList,hget _ (by omega),Nat.mul_comm q,Nat.mul_add_mod,Nat.mod_eq_of_lt hj,← Array.getElem?_toList]
      exact hy⟩ (by simp) (by simp;omega) hms (thaw_zero _)
  refine ⟨_,_,g',by simp only [execOp,ho,hx.int hI h1,hy.int hI h2,Sem.run_bind,hrun,Result.andThen_ok,Sem.run_pure];rfl,?_⟩
  rw [hd]
  simpa using I2
end Go.Den
namespace Go.Den
variable {P:Program} {op:Oper} {d t:Nat} {s:St}
def OpdO:Option Operand→Option A→Prop
  | none,none=>True
  | some x,some y=>Opd x y
  | _,_=>False
theorem bnd_int {v:Option V}{n m:Nat}(h:bndV v n=some m):(v=none∧m=n)∨∃ i:Int,v=some (.int .i64 i)∧0≤i∧m=i.toNat:=by
  unfold bndV at h
  split at h
  · cases h;exact .inl ⟨rfl,rfl⟩
  · split at h
    · rename_i h0;cases h;exact .inr ⟨_,rfl,h0,rfl⟩
    · cases h
  · cases h
theorem opdO_val {w0:World}{g0:G}{a:Act}{w:World}{g:G}{x:Option Operand}{x':Option A}(hx:OpdO x x')(hI:Inv w0 g0 d s a w g){n m:Nat}(h:bndV (x'.map (·.ev s.r)) n=some m) :
    (x=none∧x'=none∧m=n)∨∃ i:Int,x.map a.eval=some (.int .i64 i)∧0≤i∧m=i.toNat:=by
  cases x with
  | none =>
    cases x' with
    | none =>
      rcases bnd_int h with ⟨_,h⟩ | ⟨i,h,_⟩
      · exact .inl ⟨rfl,rfl,h⟩
      · cases h
    | some y=>simp only [OpdO] at hx
  | some x =>
    cases x' with
    | none=>simp only [OpdO] at hx
    | some y =>
      simp only [OpdO] at hx
      rcases bnd_int h with ⟨h,_⟩ | ⟨i,h,h0,hm⟩
      · cases h
      · simp only [Option.map_some,zI] at h
        exact .inr ⟨i,by simp only [Option.map_some,hx.int hI h],h0,hm⟩
theorem run_bounds2 {w0:World}{g0:G}{a:Act}{w:World}{g:G}{lo hi:Option Operand}{lo' hi':Option A}(hlo:OpdO lo lo')(hhi:OpdO hi hi')(hI:Inv w0 g0 d s a w g){len cap l h:Nat}(b:Bool)
    (h1:bndV (lo'.map (·.ev s.r)) 0=some l) (h2:bndV (hi'.map (·.ev s.r)) len=some h) (hl:l≤h) (hh:h≤cap):(Instr.sliceBounds b len cap (lo.map a.eval) (hi.map a.eval) none).run P w=.ok (l,h,cap) w:=by
  rcases opdO_val hlo hI h1 with ⟨rfl,rfl,rfl⟩ | ⟨i,e1,i0,rfl⟩<;>rcases opdO_val hhi hI h2 with ⟨rfl,rfl,rfl⟩ | ⟨j,e2,j0,rfl⟩
  · simp [Instr.sliceBounds]
  · simp only [e2]
    simp [Instr.sliceBounds,run_sliceBound w .i64 j cap _ j0 (by omega)]
  · simp only [e1]
    simp [Instr.sliceBounds,run_sliceBound w .i64 i h _ i0 (by omega)]
  · simp only [e1,e2]
    simp [Instr.sliceBounds,run_sliceBound w .i64 j cap _ j0 (by omega),run_sliceBound w .i64 i j.toNat _ i0 (by omega)]
theorem run_bounds3 {w0:World}{g0:G}{a:Act}{w:World}{g:G}{lo hi mx:Option Operand}{lo' hi' mx':Option A}(hlo:OpdO lo lo')(hhi:OpdO hi hi')(hmx:OpdO mx mx')(hI:Inv w0 g0 d s a w g){len cap l h:Nat}(b:Bool)
    (h1:bndV (lo'.map (·.ev s.r)) 0=some l) (h2:bndV (hi'.map (·.ev s.r)) len=some h) (hs:hi'.isSome=true) (h3:bndV (mx'.map (·.ev s.r)) 0=some h) (hm:mx'.isSome=true) (hl:l≤h) (hh:h≤cap):(Instr.sliceBounds b len cap (lo.map a.eval) (hi.map a.eval) (mx.map a.eval)).run P w=.ok (l,h,h) w:=by
  rcases opdO_val hmx hI h3 with ⟨_,rfl,_⟩ | ⟨k,e3,k0,hk⟩
  · cases hm
  rcases opdO_val hhi hI h2 with ⟨_,rfl,_⟩ | ⟨j,e2,j0,hj⟩
  · cases hs
  subst hk
  have hjk:j=k:=by omega
  subst hjk
  rcases opdO_val hlo hI h1 with ⟨rfl,rfl,rfl⟩ | ⟨i,e1,i0,rfl⟩
  · simp only [e2,e3]
    simp [Instr.sliceBounds,run_sliceBound w .i64 j cap _ j0 (by omega),run_sliceBound w .i64 j j.toNat _ j0 (by omega)]
  · simp only [e1,e2,e3]
    simp [Instr.sliceBounds,run_sliceBound w .i64 j cap _ j0 (by omega),run_sliceBound w .i64 j j.toNat _ j0 (by omega),run_sliceBound w .i64 i j.toNat _ i0 (by omega)]
theorem RPr_sub {w:World}{K:Nat→Kd}{b z o:Nat}{es:List (List V)}(h:RPr w K b z o es)(l n:Nat):RPr w K b z (o+l*z) ((es.take n).drop l):=by
  rw [RPr_iff] at h ⊢
  intro i e hi
  rw [List.getElem?_drop,List.getElem?_take] at hi
  split at hi
  · obtain ⟨k1,k2⟩:=h _ e hi
    refine ⟨k1,fun j v hv=>?_⟩
    obtain ⟨y,hy,hr⟩:=k2 j v hv
    refine ⟨y,?_,hr⟩
    rw [Nat.add_mul] at hy
    rwa [show o+l*z+i*z+j=o+(l*z+i*z)+j by omega]
  · cases hi
theorem Sl_sub {w:World}{K:Nat→Kd}{z z':Nat}{es:List (List V)}{a:Option Addr}{c l h m:Nat}(k:Sl w K z' es a c)(hz:z'=z∨es.isEmpty=true)(hl:l≤h)(hh:h≤es.length)(hm:h≤m)(hc:m≤c) :
    Sl w K z ((es.take h).drop l) (if m=l then a else a.map (·.add (l*z))) (m - l)∧((es.take h).drop l).length=h - l:=by
  obtain ⟨k1,k2,k3⟩:=k
  have hlen:((es.take h).drop l).length=h - l:=by rw [List.length_drop,List.length_take];omega
  refine ⟨⟨by omega,fun ha=>?_,fun ad ha=>?_⟩,hlen⟩
  · split at ha
    · obtain ⟨e1,e2⟩:=k2 ha
      subst e1
      exact ⟨by simp,by omega⟩
    · rename_i hml
      have:a=none:=by cases a<;>simp_all
      obtain ⟨e1,e2⟩:=k2 this
      omega
  · split at ha
    · rename_i hml
      obtain ⟨e1,e2,e3⟩:=k3 ad ha
      have:(es.take h).drop l=[]:=List.length_eq_zero_iff.mp (by omega)
      rw [this]
      exact ⟨e1,fun hne=>absurd rfl hne,by simp only [RPr]⟩
    · rename_i hml
      cases a with
      | none=>simp at ha
      | some a0 =>
        simp only [Option.map_some,zI] at ha
        obtain ⟨e1,e2,e3⟩:=k3 a0 rfl
        rw [add_spot e1] at ha
        subst ha
        refine ⟨rfl,fun hne=>?_,?_⟩
        · refine e2 ?_
          rintro rfl
          simp at hne
        · cases hes:es with
          | nil=>simp [RPr]
          | cons e r =>
            rw [← hes]
            have:z'=z:=by rcases hz with hz | hz;exact hz;rw [hes] at hz;cases hz
            subst this
            exact RPr_sub e3 l h
theorem run_slice_of {w:World}{T e:TypeId}{i:TypeInfo}(hT:P.underlying T=some (.slice e))(hi:P.info? e=some i){a:Option Addr}{len cap l h m:Nat}{lo hi' mx:Option Value}(hb:(Instr.sliceBounds true len cap lo hi' mx).run P w=.ok (l,h,m) w) :
    (Instr.sliceAt T (.slice a len cap) lo hi' mx).run P w=.ok (.slice (if m=l then a else a.map (·.add (l*i.size))) (h - l) (m - l)) w:=by
  simp only [Instr.sliceAt,Instr.slice,Sem.run_bind,run_underlying hT,Result.andThen_ok,hb,sizeOf,run_typeInfo w hi,Sem.run_pure]
theorem ok_slc_str {T:TypeId}{x:Operand}{x':A}{lo hi:Option Operand}{lo' hi':Option A}{b:ByteArray}{l h:Nat}(ho:op.op=.slice T x lo hi none)(hd:op.dst=some t)(hT:P.underlying T=some .string)(hx:Opd x x')(hlo:OpdO lo lo')(hhi:OpdO hi hi')
    (hv:x'.ev s.r=.str b) (h1:bndV (lo'.map (·.ev s.r)) 0=some l) (h2:bndV (hi'.map (·.ev s.r)) b.size=some h) (hl:l≤h) (hh:h≤b.size):OpOk P op d s (s.put t (.str (b.extract l h))):=
  .plain hd rfl fun w0 g0 a w g hI=>by
    refine ⟨_,?_,by simp only [R];rfl⟩
    have hb:=run_bounds2 (P:=P) hlo hhi hI (len:=b.size) (cap:=b.size) false h1 h2 hl hh
    simp only [execOp,ho,hx.str hI hv,Instr.sliceAt,Instr.slice,Sem.run_bind,run_underlying hT,Result.andThen_ok,Option.map_none,Option.isSome_none,Bool.false_eq_true,if_false,hb,Sem.run_pure]
theorem str_dem {x':A}{b:ByteArray}(h:x'.ev s.r=.str b):s.dem x'=s:=by
  cases x' with
  | c v=>rfl
  | t n =>
    simp only [A.ev] at h
    simp only [St.dem,h]
theorem ok_slc_sl {T e:TypeId}{i:TypeInfo}{x:Operand}{x':A}{lo hi mx:Option Operand}{lo' hi' mx':Option A}{z':Nat}{es:List (List V)}{o:Own}{l h:Nat}{full:Bool}(ho:op.op=.slice T x lo hi mx)(hd:op.dst=some t)(hT:P.underlying T=some (.slice e))(hi0:P.info? e=some i)(hx:Opd x x')
    (hlo:OpdO lo lo') (hhi:OpdO hi hi') (hmx:OpdO mx mx') (hv:x'.ev s.r=.sl z' es o) (hz:z'=i.size∨es.isEmpty=true) (h1:bndV (lo'.map (·.ev s.r)) 0=some l) (h2:bndV (hi'.map (·.ev s.r)) es.length=some h) (hl:l≤h) (hh:h≤es.length)
    (h3:if full then hi'.isSome=true∧mx'.isSome=true∧bndV (mx'.map (·.ev s.r)) 0=some h else mx'=none):OpOk P op d s ((s.dem x').put t (.sl i.size ((es.take h).drop l) (if full then .tight else .sh))):=by
  refine .value fun w0 g0 a w g hI=>?_
  obtain ⟨g',I1,hr,kp,hA⟩:=hx.dem hI
  rw [hv] at hr
  simp only [V.sh,R] at hr
  obtain ⟨_,p,c,hp,hsl,_⟩:=hr
  have hec:es.length≤c:=hsl.1
  cases full with
  | false =>
    simp only [Bool.false_eq_true,if_false] at h3 ⊢
    subst h3
    cases mx with
    | some y=>simp only [OpdO] at hmx
    | none =>
    have hb:=run_bounds2 (P:=P) hlo hhi hI (len:=es.length) (cap:=c) true h1 h2 hl (by omega)
    have hrun:=run_slice_of (P:=P) (a:=p) hT hi0 hb
    obtain ⟨k1,k2⟩:=Sl_sub (z:=i.size) (m:=c) hsl hz hl hh (by omega) (Nat.le_refl _)
    refine ⟨_,w,g',by simp only [execOp,ho,hp,Option.map_none,Sem.run_bind,hrun,Result.andThen_ok,Sem.run_pure];rfl,?_⟩
    rw [hd]
    refine I1.put ?_
    simp only [RT,R]
    exact ⟨by simp,_,_,by rw [k2],k1,fun h=>by cases h⟩
  | true =>
    simp only [if_true] at h3 ⊢
    have hb:=run_bounds3 (P:=P) hlo hhi hmx hI (len:=es.length) (cap:=c) true h1 h2 h3.1 h3.2.2 h3.2.1 hl (by omega)
    have hrun:=run_slice_of (P:=P) (a:=p) hT hi0 hb
    obtain ⟨k1,k2⟩:=Sl_sub (z:=i.size) (m:=h) hsl hz hl hh (Nat.le_refl _) (by omega)
    refine ⟨_,w,g',by simp only [execOp,ho,hp,Sem.run_bind,hrun,Result.andThen_ok,Sem.run_pure];rfl,?_⟩
    rw [hd]
    refine I1.put ?_
    simp only [RT,R]
    exact ⟨by simp,_,_,by rw [k2],k1,fun _=>by rw [k2]⟩
theorem arr_dem {x':A}{k:Key}{z lo n:Nat}(h:x'.ev s.r=.arr k z lo n):s.dem x'=s:=by
  cases x' with
  | c v=>rfl
  | t n =>
    simp only [A.ev] at h
    simp only [St.dem,h]
theorem ok_slc_arr {T e:TypeId}{i:TypeInfo}{x:Operand}{x':A}{lo hi:Option Operand}{lo' hi':Option A}{k:Key}{b0 n:Nat}{l h:Nat}(ho:op.op=.slice T x lo hi none)(hd:op.dst=some t)(hT:P.underlying T=some (.slice e))(hi0:P.info? e=some i)(hx:Opd x x')
    (hlo:OpdO lo lo') (hhi:OpdO hi hi') (hv:x'.ev s.r=.arr k i.size b0 n) (h1:bndV (lo'.map (·.ev s.r)) 0=some l) (h2:bndV (hi'.map (·.ev s.r)) n=some h) (hl:l≤h) (hh:h≤n):OpOk P op d s (s.put t (.arr k i.size (b0+l) (h - l))):=
  .plain hd rfl fun w0 g0 a w g hI=>by
    obtain ⟨b,p,c,hA,hp,hc,hpp⟩:=hx.arr hI hv
    have hb:=run_bounds2 (P:=P) hlo hhi hI (len:=n) (cap:=c) true h1 h2 hl (by omega)
    have hrun:=run_slice_of (P:=P) (a:=p) hT hi0 hb
    refine ⟨_,by simp only [execOp,ho,hp,Option.map_none,Sem.run_bind,hrun,Result.andThen_ok,Sem.run_pure];rfl,?_⟩
    simp only [R]
    refine ⟨b,_,_,hA,rfl,by omega,?_⟩
    by_cases hcl:c=l
    · right
      rw [if_pos hcl]
      refine ⟨by omega,fun _=>by omega,fun ad ha=>?_⟩
      rcases hpp with ⟨rfl,_⟩ | h0
      · cases ha;rfl
      · exact h0.2.2 ad ha
    · rw [if_neg hcl]
      rcases hpp with ⟨rfl,hrm⟩ | ⟨h0,h5,h6⟩
      · left
        rw [Option.map_some,add_off,← Nat.add_mul]
        exact ⟨rfl,by rw [show b0+l+(c - l)=b0+c by omega];exact hrm⟩
      · right
        refine ⟨by omega,fun ha=>?_,fun ad ha=>?_⟩
        · cases p with
          | none=>have:=h5 rfl;omega
          | some q=>cases ha
        · cases p with
          | none=>cases ha
          | some q =>
            simp only [Option.map_some,zI] at ha
            rw [← ha,add_spot (h6 q rfl)]
theorem ok_lds {T:TypeId}{x:Operand}{x':A}{k:Key}{i' off:Nat}{z:Nat}{es:List (List V)}{e:List V}{v:V}(ho:op.op=.load T x)(hd:op.dst=some t)(hz:szo P T=some none)(hx:Opd x x')(hp:x'.ev s.r=.ptr k i' off)(hg:s.get d k=some (.cells z es))(he:es[i']?=some e)(hv:e[off]?=some v) :
    OpOk P op d s (if v.uq then (s.set d k (.cells z (es.set i' (e.set off .dead)))).put t v else s.put t v):=by
  refine .value fun w0 g0 a w g hI=>?_
  obtain ⟨u,i,hu,hi,hzz⟩:=szo_some hz
  have ha:isAggB u=false:=by rcases hzz with ⟨_,h,_⟩ | ⟨h,_⟩;exact h;cases h
  obtain ⟨b,z',hA,hpe⟩:=hx.ptr hI hp
  have hob:=hI.objs k _ hg
  simp only [ObjR] at hob
  obtain ⟨b',cur,el,fz,h1,h2,h3,h4,h5⟩:=hob
  rw [hA] at h1
  cases h1
  obtain ⟨hlz,hc⟩:=h5 i' e he
  obtain ⟨y,hy,hr⟩:=hc off v hv
  have hcell:w.cell? ⟨b,i'*z+off,none⟩=some y:=by rw [cell_of_row w b _ cur el fz h3];exact hy
  have hrun:(Instr.loadAt T (a.eval x)).run P w=.ok y w:=by
    simp only [hpe,Instr.loadAt,Instr.sureAddr,loadVar,Sem.run_bind,Sem.run_pure,run_isAgg hu,ha,Result.andThen_ok,Bool.false_eq_true,if_false,run_load,hcell]
  rcases uq_cases v with huq | ⟨z2,es2,rfl⟩
  · refine ⟨y,w,g,by simp only [execOp,ho,Sem.run_bind,hrun,Result.andThen_ok,Sem.run_pure],?_⟩
    rw [hd,huq]
    exact hI.put ((RT_not huq).mpr ((RT_not huq).mp hr))
  · refine ⟨y,w,?_⟩
    have hlt:i' < es.length:=by
      rcases Nat.lt_or_ge i' es.length with h | h
      · exact h
      · rw [List.getElem?_eq_none h] at he;cases he
    have hlt2:off < e.length:=by
      rcases Nat.lt_or_ge off e.length with h | h
      · exact h
      · rw [List.getElem?_eq_none h] at hv;cases hv
    have hlev:k.1≠d→∀ q ∈ (Obj.cells z (es.set i' (e.set off .dead))).keys,q.1≤k.1:=by
      intro hk q hq
      simp only [Obj.keys] at hq
      refine hI.lev k _ (get_f hg hk) q ?_
      simp only [Obj.keys]
      rcases keysLL_set hq with h | h
      · obtain ⟨v,hv',hq'⟩:=keysL_mem h
        rcases List.mem_or_eq_of_mem_set hv' with h | h
        · exact mem_keysLL (mem_keysL hq' h) (List.mem_of_getElem? he)
        · subst h;simp [V.keys] at hq'
      · exact h
    have mk:∀ (g':G),Keep w g w g' (fun l=>l≠.cell k i' off) (fun _=>True)→(∀ q,g'.A q=g.A q)→RT w g' (.reg t) (.sl z2 es2 .uniq) y →
        Inv w0 g0 d ((s.set d k (.cells z (es.set i' (e.set off .dead)))).put t (.sl z2 es2 .uniq)) (a.put (some t) y) w g':=by
      intro g' kp hA' hry
      refine Inv.put ?_ hry
      refine hI.obj hg ⟨kp.toExt,kp.os,kp.tape,kp.output,kp.held,fun l hl=>kp.priv l (hl i' off),fun q hq=>kp.obj q trivial,kp.A⟩ hA' ?_ hlev
      simp only [ObjR]
      refine ⟨b,cur,el,fz,by rw [hA'];exact hA,(kp.obj k trivial b (heap_lt h3) h2).1,h3,h4,fun q r hq=>?_⟩
      rw [List.getElem?_set] at hq
      by_cases hqi:i'=q
      · subst hqi
        rw [if_pos rfl,if_pos hlt] at hq
        cases hq
        refine ⟨by simpa using hlz,fun j v' hv'=>?_⟩
        rw [List.getElem?_set] at hv'
        by_cases hjo:off=j
        · subst hjo
          rw [if_pos rfl,if_pos hlt2] at hv'
          cases hv'
          exact ⟨y,hy,by simp only [RT,R]⟩
        · rw [if_neg hjo] at hv'
          obtain ⟨y',hy',hr'⟩:=hc j v' hv'
          exact ⟨y',hy',kp.rt (by simp only [ne_eq,Lc.cell.injEq,not_and];intro _ _ h;exact hjo h.symm) hr'⟩
      · rw [if_neg hqi] at hq
        obtain ⟨hz',hc'⟩:=h5 q r hq
        refine ⟨hz',fun j v' hv'=>?_⟩
        obtain ⟨y',hy',hr'⟩:=hc' j v' hv'
        exact ⟨y',hy',kp.rt (by simp only [ne_eq,Lc.cell.injEq,not_and];intro _ h;exact absurd h.symm hqi) hr'⟩
    have hex:(execOp a.eval op).run P w=.ok (.value y) w:=by simp only [execOp,ho,Sem.run_bind,hrun,Result.andThen_ok,Sem.run_pure]
    have e0:(V.sl z2 es2 .uniq).uq=true:=rfl
    rw [hd,e0,if_pos rfl]
    simp only [RT] at hr
    rcases hr with ⟨hx0,he0⟩ | ⟨bb,c,cu,el2,fz2,hx2,hc2,hk2,hh2,hs2,ht2,hr2⟩
    · exact ⟨g,hex,mk g (Keep.refl _ _ _ _) (fun _=>rfl) (by simp only [RT];exact .inl ⟨hx0,he0⟩)⟩
    · refine ⟨setKd g bb (.priv (.reg t)),hex,mk _ (keep_kd hk2 _) (fun _=>rfl) ?_⟩
      simp only [RT]
      exact .inr ⟨bb,c,cu,el2,fz2,hx2,hc2,by simp [setKd],hh2,hs2,ht2,RPr_kd hk2 _ hr2⟩
end Go.Den
