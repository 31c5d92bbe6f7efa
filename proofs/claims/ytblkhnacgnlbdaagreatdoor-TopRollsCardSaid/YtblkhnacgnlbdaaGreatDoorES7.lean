import Derived.Test.YtblkhnacgnlbdaaGreatDoorES6
set_option linter.all false
namespace Go.Den
variable {P:Program} {d:Nat}
def isRes:Lc→Prop:=fun l=>∃ j,l=.res j
theorem RB_of {w:World}{g:G}{l:Lc}{v:V}{x:Value}(h:R w g v x):RB w g l v x:=by
  cases v with
  | box cs=>simp only [R] at h
  | _=>simp only [RB];exact (RT_not (R_uq h)).mpr h
theorem RTR_of {w:World}{g:G}{v:V}{x:Value}(h:R w g v x):RTR w g v x:=by
  cases v with
  | agg cs =>
    simp only [R] at h
    obtain ⟨xs,rfl,hr⟩:=h
    simp only [RTR]
    refine ⟨xs,rfl,by simpa using RL_length hr,fun j v hv=>?_⟩
    obtain ⟨y,hy,hry⟩:=RL_get hr hv
    exact ⟨y,by simpa using hy,RB_of hry⟩
  | tup cs =>
    simp only [R] at h
    obtain ⟨xs,rfl,hr⟩:=h
    simp only [RTR]
    refine ⟨xs,rfl,by simpa using RL_length hr,fun j v hv=>?_⟩
    obtain ⟨y,hy,hry⟩:=RL_get hr hv
    exact ⟨y,by simpa using hy,RB_of hry⟩
  | _=>simp only [RTR];exact RB_of h
def Got (one:Bool)(j:Nat)(w:World)(g:G)(v:V)(x:Value):Prop:=if one then RTR w g v x else RB w g (.res j) v x
def ix (one:Bool)(j:Nat):Nat:=if one then 0 else j
theorem Got_of {one:Bool}{j:Nat}{w:World}{g:G}{v:V}{x:Value}(h:R w g v x):Got one j w g v x:=by
  cases one with
  | true=>simp only [Got,if_true];exact RTR_of h
  | false=>simp only [Got,Bool.false_eq_true,if_false];exact RB_of h
theorem Got_uq {one:Bool}{j:Nat}{w:World}{g:G}{z:Nat}{es:List (List V)}{x:Value}(h:RT w g (.res (ix one j)) (.sl z es .uniq) x):Got one j w g (.sl z es .uniq) x:=by
  cases one with
  | true=>simp only [Got,if_true,RTR,RB];exact h
  | false=>simp only [Got,Bool.false_eq_true,if_false,RB];exact h
section
variable {w0:World} {g0:G} {a:Act} {w:World} {g:G} {s:St}
theorem resV_got (hI:Inv w0 g0 d s a w g){one own:Bool}{v v':V}{x:Value}{s':St}(hr:R w g v x)(h:resV d own s v=some (v',s'))(j:Nat) :
    ∃ g',Inv w0 g0 d s' a w g'∧Got one j w g' v' x∧Keep w g w g' isRes (fun _=>False)∧∀ q ∈ v'.keys,q.1 < d:=by
  obtain ⟨g',I',b',k',r',u',q'⟩:=resV_ok hI hr h (ix one j)
  refine ⟨g',I',?_,k'.weak (fun _ _=>trivial) (fun _ h=>h),q'⟩
  by_cases hb:v'.isBox=true
  · cases v' with
    | box cs=>cases one<;>exact b'
    | _=>simp [V.isBox] at hb
  · rcases uq_cases v' with hu | ⟨z,es,rfl⟩
    · exact Got_of (r' (by simpa using hb) hu)
    · exact Got_uq (by simpa only [RB] using b')
theorem resW_got (hI:Inv w0 g0 d s a w g){one:Bool}{v v':V}{x:Value}{s':St}(hr:R w g v x)(h:resW d one s v=some (v',s'))(j:Nat) :
    ∃ g',Inv w0 g0 d s' a w g'∧Got one j w g' v' x∧Keep w g w g' isRes (fun _=>False)∧∀ q ∈ v'.keys,q.1 < d:=by
  unfold resW at h
  split at h
  · rename_i cs
    simp only [R] at hr
    obtain ⟨xs,rfl,hr⟩:=hr
    obtain ⟨g',I',r',k',q'⟩:=resG_ok hI hr h j
    exact ⟨g',I',r',k'.weak (fun _ _=>trivial) (fun _ h=>h),q'⟩
  · exact resV_got hI hr h j
theorem demN_keep (k:Key)(i:Nat):∀ (n j:Nat){s:St}{g:G},Inv w0 g0 d s a w g→∃ g',Inv w0 g0 d (St.demN d k i n j s) a w g'∧Keep w g w g' isRes (fun _=>True)∧∀ q,g'.A q=g.A q
  | 0,_,s,g,hI=>⟨g,hI,Keep.refl _ _ _ _,fun _=>rfl⟩
  | n+1,j,s,g,hI=>by
    obtain ⟨g1,h1,k1,hA1⟩:=hI.demCell k i j
    obtain ⟨g2,h2,k2,hA2⟩:=demN_keep k i n (j+1) h1
    exact ⟨g2,h2,(k1.weak (by rintro l ⟨j,rfl⟩;simp) (fun _ h=>h)).trans k2,fun q=>(hA2 q).trans (hA1 q)⟩
theorem demAt_keep (hI:Inv w0 g0 d s a w g)(p:V)(n:Nat):∃ g',Inv w0 g0 d (s.demAt d p n) a w g'∧Keep w g w g' isRes (fun _=>True)∧∀ q,g'.A q=g.A q:=by
  unfold St.demAt
  split
  · split
    · exact demN_keep _ _ _ _ hI
    · exact ⟨g,hI,Keep.refl _ _ _ _,fun _=>rfl⟩
  · exact ⟨g,hI,Keep.refl _ _ _ _,fun _=>rfl⟩
theorem takeSlot (hI:Inv w0 g0 d s a w g){n z:Nat}{es:List (List V)}(hv:rget s.r n=.sl z es .uniq)(j:Nat) :
    ∃ g',Inv w0 g0 d (s.put n .dead) a w g'∧RT w g' (.res j) (.sl z es .uniq) (a.tmps.getD n undef)∧Keep w g w g' isRes (fun _=>False):=by
  have hr:=hI.regs n
  rw [hv] at hr
  simp only [RT] at hr
  rcases hr with ⟨hx,he⟩ | ⟨b,c,cur,e,fz,hx,hc,hk,hh,hz,ht,hr⟩
  · exact ⟨g,hI.dead n,by simp only [RT];exact .inl ⟨hx,he⟩,Keep.refl _ _ _ _⟩
  · have kp:=keep_kd (w:=w) hk (.priv (.res j))
    refine ⟨setKd g b (.priv (.res j)),hI.keep kp (fun _=>rfl) (v:=.dead) (by simp only [RT,R]),?_,kp.weak (by rintro l ⟨j,rfl⟩;simp) (fun _ h=>h.elim)⟩
    simp only [RT]
    exact .inr ⟨b,c,cur,e,fz,hx,hc,by simp [setKd],hh,hz,ht,RPr_kd hk _ hr⟩
def resRun (tmps:Array Value):ResultVar→Sem Value
  | .tmp t=>pure (tmps.getD t undef)
  | .cell a t=>do loadVar t (← asAddr (tmps.getD a undef))
def RsOf (P:Program):ResultVar→Rs→Prop
  | .tmp t,x=>x=.t t
  | .cell a t,x=>∃ s,szo P t=some s∧x=.cell a s
theorem resOf_list:∀ {l:List ResultVar}{rs:List Rs},resOf P l=some rs→l.length=rs.length∧∀ (i:Nat) x,rs[i]?=some x→∃ rv,l[i]?=some rv∧RsOf P rv x
  | [],rs,h=>by simp only [resOf,zI] at h;subst h;simp
  | .tmp t::r,rs,h=>by
    simp only [resOf,zE] at h
    obtain ⟨q,hq,rfl⟩:=h
    obtain ⟨h1,h2⟩:=resOf_list hq
    refine ⟨by simp [h1],fun i x hx=>?_⟩
    cases i with
    | zero=>simp at hx;subst hx;exact ⟨.tmp t,rfl,rfl⟩
    | succ i=>simp at hx;simpa using h2 i x hx
  | .cell a t::r,rs,h=>by
    simp only [resOf,bnd_eq,zE] at h
    obtain ⟨z,hz,q,hq,rfl⟩:=h
    obtain ⟨h1,h2⟩:=resOf_list hq
    refine ⟨by simp [h1],fun i x hx=>?_⟩
    cases i with
    | zero=>simp at hx;subst hx;exact ⟨.cell a t,rfl,z,hz,rfl⟩
    | succ i=>simp at hx;simpa using h2 i x hx
theorem res1_ok (hI:Inv w0 g0 d s a w g){one:Bool}{rv:ResultVar}{x:Rs}(hx:RsOf P rv x){v:V}{s':St}(h:res1 d one s x=some (v,s'))(j:Nat) :
    ∃ g' y,(resRun a.tmps rv).run P w=.ok y w∧Inv w0 g0 d s' a w g'∧Got one j w g' v y∧Keep w g w g' isRes (fun _=>False)∧∀ q ∈ v.keys,q.1 < d:=by
  cases rv with
  | tmp t =>
    simp only [RsOf] at hx
    subst hx
    simp only [res1] at h
    split at h
    · rename_i z es hv
      simp only [zI,zP] at h
      obtain ⟨rfl,rfl⟩:=h
      obtain ⟨g',I',r',k'⟩:=takeSlot hI hv (ix one j)
      exact ⟨g',_,by simp only [resRun,Sem.run_pure],I',Got_uq r',k',fun q hq=>by simp [V.keys] at hq⟩
    · rename_i k z lo m hv
      have hr:=(RT_not (v:=.arr k z lo m) rfl).mp (hv▸hI.regs t)
      obtain ⟨g',I',r',k',q'⟩:=resV_got hI hr h j
      exact ⟨g',_,by simp only [resRun,Sem.run_pure],I',r',k',q'⟩
    · rename_i hne _
      have hu:(rget s.r t).uq=false:=by
        rcases uq_cases (rget s.r t) with h | ⟨z,es,h⟩
        · exact h
        · exact absurd h (hne z es)
      obtain ⟨g',I',r',k',q'⟩:=resW_got hI ((RT_not hu).mp (hI.regs t)) h j
      exact ⟨g',_,by simp only [resRun,Sem.run_pure],I',r',k',q'⟩
  | cell ta T =>
    simp only [RsOf] at hx
    obtain ⟨sz,hz,rfl⟩:=hx
    cases sz with
    | none =>
      simp only [res1] at h
      split at h
      · rename_i k i off hp
        split at h
        · rename_i z es hg
          split at h
          · rename_i e he
            split at h
            · rename_i v0 hv
              have hreg:=hI.regs ta
              rw [hp] at hreg
              simp only [RT,R] at hreg
              obtain ⟨b,z',hA,hpe⟩:=hreg
              have hob:=hI.objs k _ hg
              simp only [ObjR] at hob
              obtain ⟨b',cur,el,fz,h1,h2,h3,h4,h5⟩:=hob
              rw [hA] at h1
              cases h1
              obtain ⟨u,ii,hu,hi,hzz⟩:=szo_some hz
              have ha:isAggB u=false:=by rcases hzz with ⟨_,h,_⟩ | ⟨h,_⟩;exact h;cases h
              have run:∀ y,w.cell? ⟨b,i*z+off,none⟩=some y→(resRun a.tmps (.cell ta T)).run P w=.ok y w:=by
                intro y hy
                simp only [resRun,hpe,asAddr,loadVar,Sem.run_bind,Sem.run_pure,run_isAgg hu,ha,Result.andThen_ok,Bool.false_eq_true,if_false,run_load,hy]
              split at h
              · rename_i huq
                simp only [zI,zP] at h
                obtain ⟨rfl,rfl⟩:=h
                rcases uq_cases v0 with h' | ⟨z2,es2,rfl⟩
                · rw [h'] at huq;cases huq
                obtain ⟨g',y,hy,I',r',k'⟩:=takeCell hI hA hg he hv (.res (ix one j)) (by simp)
                exact ⟨g',y,run y hy,I',Got_uq r',k'.weak (by rintro l ⟨j,rfl⟩;simp) (fun _ h=>h),fun q hq=>by simp [V.keys] at hq⟩
              · rename_i huq
                obtain ⟨_,hc⟩:=h5 i e he
                obtain ⟨y,hy,hr⟩:=hc off _ hv
                have hcell:w.cell? ⟨b,i*z+off,none⟩=some y:=by rw [cell_of_row w b _ cur el fz h3];exact hy
                obtain ⟨g',I',r',k',q'⟩:=resW_got hI ((RT_not (by simpa using huq)).mp hr) h j
                exact ⟨g',y,run y hcell,I',r',k',q'⟩
            · cases h
          · cases h
        · cases h
      · cases h
    | some n =>
      simp only [res1] at h
      split at h
      · rename_i c hc
        split at h
        · rename_i hn
          obtain ⟨g1,I1,k1,hA1⟩:=demAt_keep hI (rget s.r ta) n
          have hp:R w g1 (rget s.r ta) (a.tmps.getD ta undef):=by
            have:=I1.regs ta
            rw [demAt_r] at this
            exact (RT_not (at_uq hc)).mp this
          obtain ⟨b,o,hpe,hcell⟩:=I1.at hp hc
          obtain ⟨y,hy,_,hr⟩:=run_loadVar (P:=P) (w:=w) (g:=g1) hz (b:=b) (o:=o) (c:=c.take n) (fun j v hv=>by
            have hu:=hasUq_get hn.2 hv
            have hv':c[j]?=some v:=by
              rw [List.getElem?_take] at hv
              split at hv
              · exact hv
              · cases hv
            exact hcell j v hv' hu) (by simp [hn.1])
          obtain ⟨xs,rfl,hrl⟩:=hr n rfl
          obtain ⟨g',I',r',k',q'⟩:=resG_ok I1 hrl h j
          refine ⟨g',.agg xs,?_,I',r',(k1.weak (fun _ h=>h) (fun _ h=>h.elim)).trans (k'.weak (fun _ _=>trivial) (fun _ h=>h)),q'⟩
          simp only [resRun,hpe,asAddr,Sem.run_bind,Sem.run_pure,Result.andThen_ok,hy]
        · cases h
      · cases h
theorem resA_ok:∀ {l:List ResultVar}{rs:List Rs}{s s':St}{g:G}{vs:List V}(j:Nat),Inv w0 g0 d s a w g→l.length=rs.length→(∀ (i:Nat) x,rs[i]?=some x→∃ rv,l[i]?=some rv∧RsOf P rv x)→resA d rs s=some (vs,s') →
    ∃ g' ys,(l.mapM (resRun a.tmps)).run P w=.ok ys w∧Inv w0 g0 d s' a w g'∧ys.length=vs.length∧(∀ (i:Nat) v,vs[i]?=some v→∃ y,ys[i]?=some y∧RB w g' (.res (j+i)) v y)∧Keep w g w g' isRes (fun _=>False)∧(∀ q ∈ keysL vs,q.1 < d)
  | l,[],s,s',g,vs,j,hI,hl,hx,h=>by
    simp only [resA,zI,zP] at h
    obtain ⟨rfl,rfl⟩:=h
    cases l with
    | nil=>exact ⟨g,[],by simp,hI,rfl,by simp,Keep.refl _ _ _ _,by simp [keysL]⟩
    | cons _ _=>simp at hl
  | [],_::_,s,s',g,vs,j,hI,hl,hx,h=>by simp at hl
  | rv::l,x::rs,s,s',g,vs,j,hI,hl,hx,h=>by
    simp only [resA] at h
    split at h
    · rename_i v s1 hv
      obtain ⟨rv',e1,e2⟩:=hx 0 x rfl
      simp at e1
      subst e1
      obtain ⟨g1,y,r1,I1,b1,k1,q1⟩:=res1_ok hI e2 hv j
      cases hq:resA d rs s1 with
      | none=>rw [hq] at h;cases h
      | some p =>
        rw [hq] at h
        simp only [Option.map_some,zI,zP] at h
        obtain ⟨rfl,rfl⟩:=h
        obtain ⟨g2,ys,r2,I2,l2,b2,k2,q2⟩:=resA_ok (l:=l) (vs:=p.1) (s':=p.2) (j+1) I1 (by simpa using hl) (fun i x hxi=>by simpa using hx (i+1) x (by simpa using hxi)) hq
        refine ⟨g2,y::ys,?_,I2,by simp [l2],fun i u hu=>?_,k1.trans k2,fun q hq=>?_⟩
        · rw [List.mapM_cons]
          simp only [Sem.run_bind,r1,Result.andThen_ok,r2,Sem.run_pure]
        · cases i with
          | zero =>
            simp at hu
            subst hu
            refine ⟨y,rfl,k2.rb ⟨_,rfl⟩ ?_⟩
            simpa [Got] using b1
          | succ i =>
            simp at hu
            obtain ⟨y',e1,e2⟩:=b2 i u hu
            exact ⟨y',by simpa using e1,by rwa [show j+(i+1)=j+1+i by omega]⟩
        · simp only [keysL,List.mem_append] at hq
          rcases hq with hq | hq
          · exact q1 q hq
          · exact q2 q hq
    · cases h
end
end Go.Den
namespace Go.Den
variable {P:Program} {d:Nat}
theorem RB_cut {w w':World}{g g':G}(h:Ext w g w' g'){l:Lc}(hp:∀ b,b < w.heap.size→g.K b=.priv l→g'.K b=.priv l∧w'.heap[b]?=w.heap[b]?){v:V}(hA:∀ k ∈ v.keys,∀ a,g.A k=some a→g'.A k=some a){x:Value}(r:RB w g l v x):RB w' g' l v x:=by
  cases v with
  | box cs =>
    simp only [RB,Bx] at r ⊢
    obtain ⟨b,cur,e,fz,h1,h2,h3,h4,h6⟩:=r
    have:=hp b (heap_lt h3) h2
    refine ⟨b,cur,e,fz,h1,this.1,by rw [this.2];exact h3,h4,fun j v hv=>?_⟩
    obtain ⟨x,hx,hr⟩:=h6 j v hv
    exact ⟨x,hx,R_ext h v x (fun q hq=>hA q (by simp only [V.keys];exact mem_keysL hq (List.mem_of_getElem? hv))) hr⟩
  | _=>simp only [RB] at r ⊢;exact RT_ext h hp _ _ hA r
theorem RTR_cut {w w':World}{g g':G}(h:Ext w g w' g')(hp:∀ j b,b < w.heap.size→g.K b=.priv (.res j)→g'.K b=.priv (.res j)∧w'.heap[b]?=w.heap[b]?){v:V}(hA:∀ k ∈ v.keys,∀ a,g.A k=some a→g'.A k=some a){x:Value}(r:RTR w g v x):RTR w' g' v x:=by
  cases v with
  | agg cs =>
    simp only [RTR] at r ⊢
    obtain ⟨xs,h1,h2,h3⟩:=r
    refine ⟨xs,h1,h2,fun j v hv=>?_⟩
    obtain ⟨y,hy,hr⟩:=h3 j v hv
    exact ⟨y,hy,RB_cut h (hp j) (fun q hq=>hA q (by simp only [V.keys];exact mem_keysL hq (List.mem_of_getElem? hv))) hr⟩
  | tup cs =>
    simp only [RTR] at r ⊢
    obtain ⟨xs,h1,h2,h3⟩:=r
    refine ⟨xs,h1,h2,fun j v hv=>?_⟩
    obtain ⟨y,hy,hr⟩:=h3 j v hv
    exact ⟨y,hy,RB_cut h (hp j) (fun q hq=>hA q (by simp only [V.keys];exact mem_keysL hq (List.mem_of_getElem? hv))) hr⟩
  | _=>simp only [RTR] at r ⊢;exact RB_cut h (hp 0) hA r
theorem after_ok {w0:World}{g0:G}{s:St}{a:Act}{w:World}{g:G}(hI:Inv w0 g0 d s a w g){v:V}{x:Value}(hr:RTR w g v x)(hq:∀ q ∈ v.keys,q.1 < d):∃ g',After w0 g0 w g' d v x g0.F s.f s.w:=by
  have hext:Ext w g w (dropA g (fun k=>decide (d≤k.1))):=⟨Nat.le_refl _,fun _ _ h=>⟨h,rfl⟩,fun _ _=>Nat.le_refl _⟩
  have hA:∀ q:Key,q.1 < d→∀ a',g.A q=some a'→(dropA g (fun k=>decide (d≤k.1))).A q=some a':=fun q hq a' ha=>by
    simp only [dropA]
    rw [if_neg (by simp;exact hq)]
    exact ha
  have hget:∀ k o,s.f k=some o→s.get d k=some o:=fun k o hk=>by
    have:=hI.dom k o hk
    unfold St.get
    rw [if_neg (by omega)]
    exact hk
  refine ⟨dropA g (fun k=>decide (d≤k.1)),RTR_cut hext (fun _ _ _ h=>⟨h,rfl⟩) (fun q hqv=>hA q (hq q hqv)) hr,fun k o hk=>?_,fun k hk=>?_,hI.dom,hI.lev,?_,hI.same⟩
  · have hd:=hI.dom k o hk
    exact ObjR_ext hext (hA k hd) (fun b _ hb=>⟨hb,rfl⟩) (fun i j b _ hb=>⟨hb,rfl⟩) o (fun q hq=>hA q (by have:=hI.lev k o hk q hq;omega)) (hI.objs k o (hget k o hk))
  · simp only [dropA] at hk
    by_cases hd:d≤k.1
    · rw [if_pos (by simpa using hd)] at hk;exact absurd rfl hk
    · rw [if_neg (by simpa using hd)] at hk
      have:=hI.live k hk
      unfold St.get at this
      rwa [if_neg (by omega)] at this
  · refine ⟨hI.fr.os,hI.fr.tape,hI.fr.output,hI.fr.size,hI.fr.imm,hI.fr.held,fun k hk=>?_,hI.fr.rows⟩
    have:=hI.fr.A k hk
    simp only [dropA]
    rw [if_neg (by simp;exact hk)]
    exact this
theorem results_eq (fn:Func)(tmps:Array Value):results fn tmps=(fn.results.mapM (resRun tmps) >>= fun vs=>pure (if h:vs.size=1 then vs[0] else .tuple vs)):=by
  unfold results
  congr 1
def oneOf:List Value→Value
  | [y]=>y
  | ys=>.tuple ys.toArray
theorem run_results {fn:Func}{tmps:Array Value}{w:World}{ys:List Value}(h:(fn.results.toList.mapM (resRun tmps)).run P w=.ok ys w):(results fn tmps).run P w=.ok (oneOf ys) w:=by
  have e:(fn.results.mapM (resRun tmps)).run P w=.ok ys.toArray w:=by
    rw [Array.mapM_eq_mapM_toList,map_eq_pure_bind]
    simp only [Sem.run_bind,h,Result.andThen_ok,Sem.run_pure]
  rw [results_eq,Sem.run_bind,e,Result.andThen_ok,Sem.run_pure]
  match ys with
  | []=>simp [oneOf]
  | [y]=>simp [oneOf]
  | _::_::_=>simp [oneOf]
theorem resA_length:∀ {rs:List Rs}{s s':St}{vs:List V},resA d rs s=some (vs,s')→vs.length=rs.length
  | [],s,s',vs,h=>by simp only [resA,zI,zP] at h;rw [← h.1];rfl
  | x::rs,s,s',vs,h=>by
    simp only [resA] at h
    split at h
    · simp only [zE,zP] at h
      obtain ⟨⟨p1,p2⟩,hp,rfl,rfl⟩:=h
      simp [resA_length hp]
    · cases h
theorem fin_ok {fn:Func}{rs:List Rs}(hrs:resOf P fn.results.toList=some rs){w0:World}{g0:G}{s:St}{a:Act}{w:World}{g:G}(hI:Inv w0 g0 d s a w g){v:V}{fs':Frm}{wr:Bool}(h:fin d rs s=some (v,fs',wr)) :
    ∃ x,(results fn a.tmps).run P w=.ok x w∧∃ g',After w0 g0 w g' d v x g0.F fs' wr:=by
  obtain ⟨hl,hx⟩:=resOf_list hrs
  unfold fin at h
  split at h
  · rename_i x
    simp only [zE] at h
    obtain ⟨⟨v1,s1⟩,h1,h2⟩:=h
    simp only [zP] at h2
    obtain ⟨rfl,rfl,rfl⟩:=h2
    obtain ⟨rv,e1,e2⟩:=hx 0 x rfl
    obtain ⟨g1,y,r1,I1,b1,k1,q1⟩:=res1_ok hI e2 h1 0
    have hlist:fn.results.toList=[rv]:=by
      match hh:fn.results.toList with
      | []=>rw [hh] at hl;simp at hl
      | [q]=>rw [hh] at e1;simp at e1;rw [e1]
      | _::_::_=>rw [hh] at hl;simp at hl
    have hrun:(fn.results.toList.mapM (resRun a.tmps)).run P w=.ok [y] w:=by
      rw [hlist]
      simp only [List.mapM_cons,List.mapM_nil,Sem.run_bind,r1,Result.andThen_ok,Sem.run_pure]
    exact ⟨y,run_results hrun,after_ok I1 (by simpa [Got] using b1) q1⟩
  · rename_i hne
    simp only [zE] at h
    obtain ⟨⟨vs,s1⟩,h1,h2⟩:=h
    simp only [zP] at h2
    obtain ⟨rfl,rfl,rfl⟩:=h2
    obtain ⟨g1,ys,r1,I1,l1,b1,k1,q1⟩:=resA_ok (l:=fn.results.toList) 0 hI hl hx h1
    have hlen:ys.length=rs.length:=l1.trans (resA_length h1)
    have hv:oneOf ys=.tuple ys.toArray:=by
      match ys,hlen with
      | [],_=>rfl
      | [y],hlen =>
        match rs,hlen with
        | [x],_=>exact absurd rfl (hne x)
      | _::_::_,_=>rfl
    refine ⟨_,run_results r1,?_⟩
    rw [hv]
    refine after_ok I1 ?_ (by simpa only [V.keys] using q1)
    simp only [RTR]
    refine ⟨ys.toArray,rfl,by simpa using l1,fun j v hv=>?_⟩
    obtain ⟨y,hy,hry⟩:=b1 j v hv
    exact ⟨y,by simpa using hy,by rwa [Nat.zero_add] at hry⟩
theorem rget_app:∀ (l r:List V)(t:Nat),rget (l++r) t=if t < l.length then rget l t else rget r (t - l.length)
  | [],r,t=>by simp
  | v::l,r,0=>by simp [rget]
  | v::l,r,t+1=>by
    simp only [List.cons_append,rget,rget_app l r t,List.length_cons]
    by_cases h:t < l.length
    · rw [if_pos h,if_pos (by omega)]
    · rw [if_neg h,if_neg (by omega),show t+1 - (l.length+1)=t - l.length by omega]
theorem rget_dead:∀ (n t:Nat),rget (List.replicate n .dead) t=.dead
  | 0,t=>by cases t<;>rfl
  | n+1,0=>rfl
  | n+1,t+1=>by simp only [List.replicate_succ,rget];exact rget_dead n t
theorem rget_of:∀ {l:List V}{t:Nat},t < l.length→l[t]?=some (rget l t)
  | v::l,0,_=>rfl
  | v::l,t+1,h=>by simpa [rget] using rget_of (l:=l) (t:=t) (by simpa using h)
theorem entry {w:World}{g:G}{fs:Frm}(hp:Pre w g d fs){args:List V}{xs:Array Value}(hr:RL w g args xs.toList)(n:Nat) :
    Inv w { g with F:=fs } d ⟨args++List.replicate n .dead,[],fs,false⟩ { tmps:=xs++Array.replicate n undef,defers:=[] } w { g with F:=fs }:=by
  have hext:Ext w g w { g with F:=fs }:=⟨Nat.le_refl _,fun _ _ h=>⟨h,rfl⟩,fun _ _=>Nat.le_refl _⟩
  have hl:=RL_length hr
  refine ⟨rfl,by simp;simpa using hl.symm,fun t=>?_,fun k o hk=>?_,fun k hk=>?_,hp.dom,hp.lev,fun _=>rfl,⟨rfl,rfl,rfl,Nat.le_refl _,fun _ _ h=>⟨h,rfl⟩,fun _ _ h=>⟨h,rfl⟩,fun _ _=>rfl,fun _ _=>Nat.le_refl _⟩⟩
  · show RT _ _ _ (rget (args++List.replicate n .dead) t) _
    rw [rget_app]
    split
    · rename_i ht
      obtain ⟨x,hx,hrx⟩:=RL_get hr (rget_of ht)
      have hx':xs[t]?=some x:=by simpa using hx
      have:(xs++Array.replicate n undef).getD t undef=x:=by
        rw [Array.getD_eq_getD_getElem?,Array.getElem?_append,if_pos (by have:=List.getElem?_eq_some_iff.mp hx;simpa using this.1),hx']
        rfl
      show RT _ _ _ _ ((xs++Array.replicate n undef).getD t undef)
      rw [this]
      exact (RT_not (R_uq hrx)).mpr (R_ext hext _ _ (fun _ _ _ h=>h) hrx)
    · rw [rget_dead];simp only [RT,R]
  · unfold St.get at hk
    split at hk
    · simp [alook] at hk
    · exact ObjR_ext hext (fun _ h=>h) (fun b _ hb=>⟨hb,rfl⟩) (fun i j b _ hb=>⟨hb,rfl⟩) o (fun _ _ _ h=>h) (hp.objs k o hk)
  · have h1:=hp.live k hk
    unfold St.get
    cases hf:fs k with
    | none=>exact absurd hf h1
    | some o =>
      have:=hp.dom k o hf
      rw [if_neg (by omega)]
      show fs k≠none
      rw [hf];simp
theorem RB_keys {w:World}{g:G}{l:Lc}{v:V}{x:Value}(h:RB w g l v x):∀ q ∈ v.keys,∃ a,g.A q=some a:=by
  cases v with
  | box cs =>
    simp only [RB,Bx] at h
    obtain ⟨b,cur,e,fz,_,_,_,_,h6⟩:=h
    intro q hq
    simp only [V.keys] at hq
    obtain ⟨v,hv,hq⟩:=keysL_mem hq
    obtain ⟨i,hi⟩:=List.getElem?_of_mem hv
    obtain ⟨x,_,hr⟩:=h6 i v hi
    exact R_keys v x hr q hq
  | _=>simp only [RB] at h;exact RT_keys h
theorem RTR_keys {w:World}{g:G}{v:V}{x:Value}(h:RTR w g v x):∀ q ∈ v.keys,∃ a,g.A q=some a:=by
  cases v with
  | agg cs =>
    simp only [RTR] at h
    obtain ⟨xs,_,_,h3⟩:=h
    intro q hq
    simp only [V.keys] at hq
    obtain ⟨v,hv,hq⟩:=keysL_mem hq
    obtain ⟨i,hi⟩:=List.getElem?_of_mem hv
    obtain ⟨y,_,hr⟩:=h3 i v hi
    exact RB_keys hr q hq
  | tup cs =>
    simp only [RTR] at h
    obtain ⟨xs,_,_,h3⟩:=h
    intro q hq
    simp only [V.keys] at hq
    obtain ⟨v,hv,hq⟩:=keysL_mem hq
    obtain ⟨i,hi⟩:=List.getElem?_of_mem hv
    obtain ⟨y,_,hr⟩:=h3 i v hi
    exact RB_keys hr q hq
  | _=>simp only [RTR] at h;exact RB_keys h
open Classical in
noncomputable def lowG (g:G):G:={ K:=fun b=>if g.K b=.imm then .imm else .held,A:=fun _=>none,F:=fun _=>none }
def upG (n:Nat)(g g':G):G:={ g with K:=fun b=>if b < n then g.K b else g'.K b }
theorem low_ok {C:CallF}(hC:CallOK P C):CallOK P (low C):=by
  intro f d args fs v fs' wr h
  unfold low at h
  split at h
  · rename_i hk
    have hk':keysL args=[]:=by simpa using hk
    simp only [zE,zP] at h
    obtain ⟨⟨v1,fs1,wr1⟩,hp,rfl,rfl,rfl⟩:=h
    obtain ⟨h1,h2⟩:=hC f 0 args _ v1 fs1 wr1 hp
    refine ⟨h1,fun w g xs hr hpre=>?_⟩
    have himm:∀ b,g.K b=.imm→(lowG g).K b=.imm:=fun b hb=>by simp only [lowG];rw [if_pos hb]
    have hheld:∀ b,g.K b≠.imm→(lowG g).K b=.held:=fun b hb=>by simp only [lowG];rw [if_neg hb]
    have hext:Ext w g w (lowG g):=⟨Nat.le_refl _,fun b _ hb=>⟨himm b hb,rfl⟩,fun _ _=>Nat.le_refl _⟩
    refine (h2 w (lowG g) xs (RL_ext hext _ _ (by rw [hk'];simp) hr) ⟨fun _ _ h=>(by cases h),fun _ h=>absurd rfl h,fun _ _ h=>(by cases h),fun _ _ h=>(by cases h)⟩).mono ?_
    intro e w' he
    cases e with
    | panicked c=>exact he
    | outgrown=>exact he
    | returned x =>
      obtain ⟨g',A⟩:=he
      have hnoA:∀ q,g'.A q=none:=fun q=>by
        cases hq:g'.A q with
        | none=>rfl
        | some a =>
          have h1:=A.live q (by rw [hq];simp)
          cases hf:fs1 q with
          | none=>exact absurd hf h1
          | some o=>have:=A.dom q o hf;omega
      have hnokey:∀ q ∈ v1.keys,False:=fun q hq=>by
        obtain ⟨a,ha⟩:=RTR_keys A.res q hq
        rw [hnoA] at ha;cases ha
      have hsz:=A.fr.size
      have old:∀ b,b < w.heap.size→g.K b≠.imm→w'.heap[b]?=w.heap[b]?:=fun b hb hk=>(A.fr.held b hb (hheld b hk)).2
      have upK:∀ b,b < w.heap.size→(upG w.heap.size g g').K b=g.K b:=fun b hb=>by simp only [upG];rw [if_pos hb]
      have newK:∀ b k,g'.K b=k→k≠.held→k≠.imm→(upG w.heap.size g g').K b=k:=by
        intro b k hb h1 h2
        simp only [upG]
        rw [if_neg]
        · exact hb
        · intro hlt
          by_cases hi:g.K b=.imm
          · exact h2 (hb.symm.trans (A.fr.imm b hlt (himm b hi)).1)
          · exact h1 (hb.symm.trans (A.fr.held b hlt (hheld b hi)).1)
      have x2:Ext w' g' w' (upG w.heap.size g g'):=⟨Nat.le_refl _,fun b _ hi=>by
        refine ⟨?_,rfl⟩
        by_cases hlt:b < w.heap.size
        · rw [upK b hlt]
          by_cases hii:g.K b=.imm
          · exact hii
          · have:=(A.fr.held b hlt (hheld b hii)).1
            rw [hi] at this;cases this
        · simp only [upG];rw [if_neg hlt];exact hi,fun _ _=>Nat.le_refl _⟩
      have x1:Ext w g w' (upG w.heap.size g g'):=⟨hsz,fun b hb hi=>⟨by rw [upK b hb];exact hi,(A.fr.imm b hb (himm b hi)).2⟩,A.fr.rows⟩
      refine ⟨upG w.heap.size g g',RTR_cut x2 (fun j b _ hb=>⟨newK b _ hb (by simp) (by simp),rfl⟩) (fun q hq=>(hnokey q hq).elim) A.res,fun k o hk=>?_,fun k hk=>hpre.live k hk,hpre.dom,hpre.lev,?_,fun _=>rfl⟩
      · exact ObjR_ext x1 (fun _ h=>h) (fun b hb hk=>⟨by rw [upK b hb];exact hk,old b hb (by rw [hk];simp)⟩) (fun i j b hb hk=>⟨by rw [upK b hb];exact hk,old b hb (by rw [hk];simp)⟩) o (fun _ _ _ h=>h) (hpre.objs k o hk)
      · exact ⟨A.fr.os,A.fr.tape,A.fr.output,hsz,x1.imm,fun b hb hk=>⟨by rw [upK b hb];exact hk,old b hb (by rw [hk];simp)⟩,fun _ _=>rfl,A.fr.rows⟩
  · exact hC f d args fs v fs' wr h
theorem dn_ok {cx:Cx}(hk:Okk P cx)(hD:∀ C,CallOK P C→DrawOk P cx C){PT:Nat→Option Fun}
    (hP:∀ f F,PT f=some F→∃ fn h,P.funcs[f]?=some fn∧(fn.name == "runtime.NumGoroutine")=false∧prepF cx h P fn=some F):∀ n,CallOK P (DN PT n)
  | 0=>fun f d args fs v fs' wr h=>by simp only [DN] at h;cases h
  | n+1=>fun f d args fs v fs' wr h=>by
    have ih:=low_ok (dn_ok hk hD hP n)
    simp only [DN] at h
    split at h
    · rename_i F hF
      obtain ⟨fn,hh,h1,h2,h3⟩:=hP f F hF
      unfold prepF at h3
      cases hb:fn.body with
      | none=>rw [hb] at h3;cases h3
      | some c =>
        rw [hb] at h3
        simp only [zE] at h3
        obtain ⟨rs,hrs,rfl⟩:=h3
        refine ⟨⟨fn,c,h1,h2,hb⟩,fun w g xs hr hp=>?_⟩
        unfold runF at h
        split at h
        · rename_i hle
          simp only [bnd_eq] at h
          obtain ⟨⟨e,s1⟩,he,hf⟩:=h
          have hl:=RL_length hr
          refine calls_of_wp h1 hb ?_
          have hsz:xs.size=args.length:=by simpa using hl
          have hent:=entry hp hr (fn.ntmps - args.length)
          rw [hsz]
          refine code_ok hk ih (hD _ ih) c _ s1 e he w _ _ w _ hent _ fun a' w' g' I'=>?_
          cases e with
          | normal =>
            obtain ⟨x,hx,g2,hA⟩:=fin_ok hrs I' hf
            exact ⟨I'.defers,x,hx,g2,⟨hA.res,hA.objs,hA.live,hA.dom,hA.lev,⟨hA.fr.os,hA.fr.tape,hA.fr.output,hA.fr.size,hA.fr.imm,hA.fr.held,hA.fr.A,hA.fr.rows⟩,hA.same⟩⟩
          | ret =>
            obtain ⟨x,hx,g2,hA⟩:=fin_ok hrs I' hf
            exact ⟨I'.defers,x,hx,g2,⟨hA.res,hA.objs,hA.live,hA.dom,hA.lev,⟨hA.fr.os,hA.fr.tape,hA.fr.output,hA.fr.size,hA.fr.imm,hA.fr.held,hA.fr.A,hA.fr.rows⟩,hA.same⟩⟩
          | exit j=>cases hf
        · cases h
    · cases h
end Go.Den
namespace Go.Den
variable {C:CallF} {d:Nat} {W:Nat→Prop} {s s' s1:St} {o:O}
structure Ag (W:Nat→Prop)(s s':St):Prop where
  len:s'.r.length=s.r.length
  on:∀ t,W t→rget s'.r t=rget s.r t
structure SameM (s s':St):Prop where
  l:s'.l=s.l
  f:s'.f=s.f
  w:s'.w=s.w
structure Un (wr:List Nat)(s s1:St):Prop where
  len:s1.r.length=s.r.length
  off:∀ t,t ∉ wr→rget s1.r t=rget s.r t
theorem Ag.refl:Ag W s s:=⟨rfl,fun _ _=>rfl⟩
theorem SameM.refl:SameM s s:=⟨rfl,rfl,rfl⟩
theorem SameM.symm (h:SameM s s'):SameM s' s:=⟨h.l.symm,h.f.symm,h.w.symm⟩
theorem SameM.trans {s2:St}(h:SameM s s')(k:SameM s' s2):SameM s s2:=⟨k.l.trans h.l,k.f.trans h.f,k.w.trans h.w⟩
theorem Un.refl {wr:List Nat}:Un wr s s:=⟨rfl,fun _ _=>rfl⟩
theorem Un.trans {wr:List Nat}{s2:St}(h:Un wr s s1)(k:Un wr s1 s2):Un wr s s2:=⟨k.len.trans h.len,fun t ht=>(k.off t ht).trans (h.off t ht)⟩
theorem Un.mono {wr wr':List Nat}(h:Un wr s s1)(hs:∀ t ∈ wr,t ∈ wr'):Un wr' s s1:=⟨h.len,fun t ht=>h.off t fun hh=>ht (hs t hh)⟩
theorem Un.of_r {wr:List Nat}(h:s1.r=s.r):Un wr s s1:=⟨by rw [h],fun _ _=>by rw [h]⟩
theorem Ag.of_r {s1':St}(h:Ag W s s')(e:s1.r=s.r)(e':s1'.r=s'.r):Ag W s1 s1':=⟨by rw [e,e'];exact h.len,fun t ht=>by rw [e,e'];exact h.on t ht⟩
theorem Ag.put (h:Ag W s s')(t:Nat)(v:V):Ag W (s.put t v) (s'.put t v):=
  ⟨by simp only [St.put,rset_length];exact h.len,fun u hu=>by simp only [St.put,rget_rset,h.len,h.on u hu]⟩
theorem Un.put1 {wr:List Nat}{t:Nat}(ht:t ∈ wr)(v:V):Un wr s (s.put t v):=
  ⟨by simp only [St.put,rset_length],fun u hu=>by simp only [St.put,rget_rset];rw [if_neg (by rintro ⟨rfl,_⟩;exact hu ht)]⟩
theorem SameM.put (t:Nat)(v:V):SameM s (s.put t v):=⟨rfl,rfl,rfl⟩
theorem Ag.ev (h:Ag W s s')(a:A)(ha:∀ t ∈ a.sl,W t):a.ev s'.r=a.ev s.r:=by
  cases a with
  | t n=>exact h.on n (ha n (by simp [A.sl]))
  | c v=>rfl
theorem Ag.evL (h:Ag W s s'):∀ (l:List A),(∀ t ∈ asl l,W t)→l.map (·.ev s'.r)=l.map (·.ev s.r)
  | [],_=>rfl
  | a::l,hl=>by
    rw [List.map_cons,List.map_cons,h.ev a (fun t ht=>hl t (by simp [asl,ht])),h.evL l (fun t ht=>hl t (by simp only [asl,List.flatMap_cons,List.mem_append];exact .inr ht))]
theorem Ag.evO (h:Ag W s s'):∀ (l:Option A),(∀ t ∈ oa l,W t)→l.map (·.ev s'.r)=l.map (·.ev s.r)
  | none,_=>rfl
  | some a,hl=>by rw [Option.map_some,Option.map_some,h.ev a (fun t ht=>hl t (by simpa [oa] using ht))]
theorem SameM.get (h:SameM s s')(k:Key):s'.get d k=s.get d k:=by simp only [St.get,h.l,h.f]
theorem SameM.at (h:SameM s s')(p:V):s'.at d p=s.at d p:=by
  unfold St.at
  split<;>simp only [h.get]
theorem SameM.srcV (h:SameM s s')(z:Nat)(p:V):srcV d s' z p=srcV d s z p:=by
  unfold Den.srcV
  split<;>simp only [h.get]
theorem SameM.srcN (h:SameM s s')(z:Nat)(p:V):srcN d s' z p=srcN d s z p:=by
  unfold Den.srcN
  split
  · rfl
  · exact h.srcV z _
theorem SameM.ldP (h:SameM s s')(p:V)(sz:Option Nat):ldP d s' p sz=ldP d s p sz:=by
  unfold Den.ldP
  rw [h.at]
def TOk (rd wr:List Nat)(T:St→St):Prop:=∀ (W:Nat→Prop),(∀ t ∈ rd,W t)→∀ s s',Ag W s s'→Ag W (T s) (T s')∧Un wr s (T s)∧SameM s (T s)
theorem TOk.id {rd wr:List Nat}:TOk rd wr (fun s=>s):=fun _ _ _ _ h=>⟨h,.refl,.refl⟩
theorem TOk.comp {rd wr:List Nat}{T T':St→St}(h:TOk rd wr T)(k:TOk rd wr T'):TOk rd wr (fun s=>T' (T s)):=fun W hr s s' ha =>
  have a:=h W hr s s' ha
  have b:=k W hr _ _ a.1
  ⟨b.1,a.2.1.trans b.2.1,a.2.2.trans b.2.2⟩
theorem TOk.dem {rd wr:List Nat}(a:A)(h1:∀ t ∈ a.sl,t ∈ rd)(h2:∀ t ∈ a.sl,t ∈ wr):TOk rd wr (fun s=>s.dem a):=fun W hr s s' ha=>by
  cases a with
  | c v=>exact ⟨ha,.refl,.refl⟩
  | t n =>
    have e:=ha.on n (hr n (h1 n (by simp [A.sl])))
    simp only [St.dem,e]
    split
    · exact ⟨ha.put _ _,.put1 (h2 n (by simp [A.sl])) _,.put _ _⟩
    · exact ⟨ha,.refl,.refl⟩
theorem TOk.off {rd wr:List Nat}(a:A)(h1:∀ t ∈ a.sl,t ∈ rd)(h2:∀ t ∈ a.sl,t ∈ wr):TOk rd wr (fun s=>s.off a):=fun W hr s s' ha=>by
  cases a with
  | c v=>exact ⟨ha,.refl,.refl⟩
  | t n =>
    have e:=ha.on n (hr n (h1 n (by simp [A.sl])))
    simp only [St.off,e]
    split
    · exact ⟨ha.put _ _,.put1 (h2 n (by simp [A.sl])) _,.put _ _⟩
    · exact ⟨ha,.refl,.refl⟩
def FootR (C:CallF)(d:Nat)(H:St→St→Prop)(K:St→St→St→St→Prop)(o:O):Prop:=
  ∀ (W:Nat→Prop),(∀ t ∈ o.rd,W t)→∀ s s' s1,Ag W s s'→H s s'→step C d o s=some s1 →
    ∃ s1',step C d o s'=some s1'∧Ag W s1 s1'∧Un o.wr s s1∧Un o.wr s' s1'∧K s s' s1 s1'
def Calm (s s' s1 s1':St):Prop:=SameM s s1∧SameM s' s1'
def FootG (C:CallF)(d:Nat)(m:Bool)(o:O):Prop:=FootR C d (fun s s'=>m=true→SameM s s') Calm o
def FootM (C:CallF)(d:Nat)(o:O):Prop:=FootR C d SameM (fun _ _ s1 s1'=>SameM s1 s1') o
theorem FootG.m {m:Bool}(h:FootG C d m o):FootM C d o:=fun W hr s s' s1 ha hm hs =>
  have ⟨s1',h1,h2,h3,h4,h5⟩:=h W hr s s' s1 ha (fun _=>hm) hs
  ⟨s1',h1,h2,h3,h4,(h5.1.symm.trans hm).trans h5.2⟩
theorem FootR.g {H:St→St→Prop}{K:St→St→St→St→Prop}(h:FootR C d H K o)(hK:∀ s s' u,H s s'→K s s' (s.put u (.tup [])) (s'.put u (.tup [])))(t:Nat)(want:Bool)(u:Nat):FootR C d H K (.g t want u o):=by
  intro W hr s s' s1 ha hm hs
  simp only [step] at hs ⊢
  rw [ha.on t (hr t (by simp [O.rd]))]
  split at hs
  · rename_i b hb
    split at hs
    · rename_i hw
      obtain ⟨s1',h1,h2,h3,h4,h5⟩:=h W (fun t ht=>hr t (by simp [O.rd,ht])) s s' s1 ha hm hs
      exact ⟨s1',by rw [if_pos hw];exact h1,h2,h3.mono (by simp [O.wr];intro t ht;exact .inr ht),h4.mono (by simp [O.wr];intro t ht;exact .inr ht),h5⟩
    · rename_i hw
      cases hs
      exact ⟨s'.put u (.tup []),by rw [if_neg hw],ha.put _ _,.put1 (by simp [O.wr]) _,.put1 (by simp [O.wr]) _,hK s s' u hm⟩
  · cases hs
    exact ⟨s'.put u (.tup []),rfl,ha.put _ _,.put1 (by simp [O.wr]) _,.put1 (by simp [O.wr]) _,hK s s' u hm⟩
  · cases hs
theorem FootG.g {m:Bool}(h:FootG C d m o)(t:Nat)(want:Bool)(u:Nat):FootG C d m (.g t want u o):=FootR.g h (fun _ _ _ _=>⟨.put _ _,.put _ _⟩) t want u
theorem FootM.g (h:FootM C d o)(t:Nat)(want:Bool)(u:Nat):FootM C d (.g t want u o):=FootR.g h (fun _ _ _ h=>⟨h.l,h.f,h.w⟩) t want u
theorem FootG.val {m:Bool}{t:Nat}(F:St→Option V)(T:St→St)(hs:∀ s,step C d o s=(F s).map fun v=>(T s).put t v)
    (hF:∀ W:Nat→Prop,(∀ t ∈ o.rd,W t)→∀ s s',Ag W s s'→(m=true→SameM s s')→F s'=F s) (hT:TOk o.rd o.wr T) (ht:t ∈ o.wr):FootG C d m o:=by
  intro W hr s s' s1 ha hm h
  rw [hs] at h
  simp only [zE] at h
  obtain ⟨v,hv,rfl⟩:=h
  obtain ⟨a1,a2,a3⟩:=hT W hr s s' ha
  obtain ⟨_,b2,b3⟩:=hT W hr s' s' .refl
  refine ⟨(T s').put t v,?_,a1.put _ _,a2.trans (.put1 ht _),b2.trans (.put1 ht _),a3.trans (.put _ _),b3.trans (.put _ _)⟩
  rw [hs,hF W hr s s' ha hm,hv,Option.map_some]
variable {t:Nat}
theorem f_mvp (u:Nat):FootG C d false (.mvp t u):=
  .val (t:=t) (fun s=>if (rget s.r u).uq then none else some (rget s.r u)) (fun s=>s) (fun s=>by simp only [step];split<;>rfl)
    (fun W hr s s' h _=>by simp only [h.on u (hr u (by simp [O.rd]))]) .id (by simp [O.wr])
theorem f_mvs (u:Nat):FootG C d false (.mvs t u):=
  .val (t:=t) (fun s=>some (rget s.r u)) (fun s=>s.off (.t u)) (fun s=>by simp only [step,Option.map_some])
    (fun W hr s s' h _=>by simp only [h.on u (hr u (by simp [O.rd]))]) (.off _ (by simp [A.sl,O.rd]) (by simp [A.sl,O.wr])) (by simp [O.wr])
theorem f_cst (v:V):FootG C d false (.cst t v):=
  .val (t:=t) (fun _=>some v) (fun s=>s) (fun s=>rfl) (fun _ _ _ _ _ _=>rfl) .id (by simp [O.wr])
theorem f_pick (c a b:A):FootG C d false (.pick t c a b):=
  .val (t:=t) (fun s=>match c.ev s.r with
    | .bool x=>match (bif x then a.ev s.r else b.ev s.r) with
      | .bool y=>some (.bool y)
      | _=>none
    | _=>none) (fun s=>s) (fun s=>by
      simp only [step]
      generalize c.ev s.r=x
      cases x with
      | bool q =>
        simp only
        generalize (bif q then a.ev s.r else b.ev s.r)=y
        cases y<;>rfl
      | _=>rfl)
    (fun W hr s s' h _=>by simp only [h.ev c (fun t ht=>hr t (by simp [O.rd,ht])),h.ev a (fun t ht=>hr t (by simp [O.rd,ht])),h.ev b (fun t ht=>hr t (by simp [O.rd,ht]))]) .id (by simp [O.wr])
theorem f_ldp (sz:Option Nat)(a:A):FootG C d true (.ldp t sz a):=
  .val (t:=t) (fun s=>ldP d s (a.ev s.r) sz) (fun s=>s) (fun s=>by simp only [step];cases ldP d s (a.ev s.r) sz<;>rfl)
    (fun W hr s s' h hm=>by simp only [h.ev a (fun t ht=>hr t (by simp [O.rd,ht])),(hm rfl).ldP]) .id (by simp [O.wr])
theorem f_chk (u:Nat):FootG C d false (.chk t u):=
  .val (t:=t) (fun s=>match rget s.r u with
    | .ptr k i off=>some (.ptr k i off)
    | .pin es i off=>some (.pin es i off)
    | .fn f a b=>some (.fn f a b)
    | _=>none) (fun s=>s) (fun s=>by simp only [step];generalize rget s.r u=x;cases x<;>rfl)
    (fun W hr s s' h _=>by simp only [h.on u (hr u (by simp [O.rd]))]) .id (by simp [O.wr])
theorem f_bin (op:Ar)(a b:A):FootG C d false (.bin t op a b):=
  .val (t:=t) (fun s=>binV op (a.ev s.r) (b.ev s.r)) (fun s=>s) (fun s=>rfl)
    (fun W hr s s' h _=>by simp only [h.ev a (fun t ht=>hr t (by simp [O.rd,ht])),h.ev b (fun t ht=>hr t (by simp [O.rd,ht]))]) .id (by simp [O.wr])
theorem f_not (a:A):FootG C d false (.not t a):=
  .val (t:=t) (fun s=>match a.ev s.r with
    | .bool b=>some (.bool !b)
    | _=>none) (fun s=>s) (fun s=>by simp only [step];generalize a.ev s.r=x;cases x<;>rfl)
    (fun W hr s s' h _=>by simp only [h.ev a (fun t ht=>hr t (by simp [O.rd,ht]))]) .id (by simp [O.wr])
theorem f_neg (a:A):FootG C d false (.neg t a):=
  .val (t:=t) (fun s=>match a.ev s.r with
    | .int k n=>some (.int k (k.wrap (0 - n)))
    | _=>none) (fun s=>s) (fun s=>by simp only [step];generalize a.ev s.r=x;cases x<;>rfl)
    (fun W hr s s' h _=>by simp only [h.ev a (fun t ht=>hr t (by simp [O.rd,ht]))]) .id (by simp [O.wr])
theorem f_cvt (k:IntKind)(a:A):FootG C d false (.cvt t k a):=
  .val (t:=t) (fun s=>match a.ev s.r with
    | .int _ n=>some (.int k (k.wrap n))
    | _=>none) (fun s=>s) (fun s=>by simp only [step];generalize a.ev s.r=x;cases x<;>rfl)
    (fun W hr s s' h _=>by simp only [h.ev a (fun t ht=>hr t (by simp [O.rd,ht]))]) .id (by simp [O.wr])
theorem f_s2b (a:A):FootG C d false (.s2b t a):=
  .val (t:=t) (fun s=>match a.ev s.r with
    | .str b=>if b.size≤most then some (.sl 1 (str8 b) .uniq) else none
    | _=>none) (fun s=>s) (fun s=>by
      simp only [step]
      generalize a.ev s.r=x
      cases x with
      | str b=>simp only;split<;>rfl
      | _=>rfl)
    (fun W hr s s' h _=>by simp only [h.ev a (fun t ht=>hr t (by simp [O.rd,ht]))]) .id (by simp [O.wr])
theorem f_mks (zero:List V)(n c:A):FootG C d false (.mks t zero n c):=
  .val (t:=t) (fun s=>match n.ev s.r,c.ev s.r with
    | .int .i64 n,.int .i64 c=>if 0≤n∧n≤c∧c≤16777216∧zero.all V.pure=true then some (.sl zero.length (List.replicate n.toNat zero) .uniq) else none
    | _,_=>none) (fun s=>s) (fun s=>by
      simp only [step]
      generalize n.ev s.r=x
      generalize c.ev s.r=y
      split
      · simp only;split<;>rfl
      · rename_i hno
        split
        · exact (hno _ _ rfl rfl).elim
        · rfl)
    (fun W hr s s' h _=>by simp only [h.ev n (fun t ht=>hr t (by simp [O.rd,ht])),h.ev c (fun t ht=>hr t (by simp [O.rd,ht]))]) .id (by simp [O.wr])
theorem f_slc (z:Nat)(str:Bool)(x:A)(lo hi mx:Option A):FootG C d false (.slc t z str x lo hi mx):=
  .val (t:=t) (fun s=>slcV z str (x.ev s.r) (lo.map (·.ev s.r)) (hi.map (·.ev s.r)) (mx.map (·.ev s.r))) (fun s=>s.dem x) (fun s=>rfl)
    (fun W hr s s' h _=>by simp only [h.ev x (fun t ht=>hr t (by simp [O.rd,ht])),h.evO lo (fun t ht=>hr t (by simp [O.rd,ht])),h.evO hi (fun t ht=>hr t (by simp [O.rd,ht])),h.evO mx (fun t ht=>hr t (by simp [O.rd,ht]))])
    (.dem _ (by intro t ht;simp [O.rd,ht]) (by intro t ht;simp [O.wr,ht])) (by simp [O.wr])
theorem f_fa (u o:Nat):FootG C d false (.fa t u o):=
  .val (t:=t) (fun s=>match rget s.r u with
    | .ptr k i off=>some (.ptr k i (off+o))
    | .pin es i off=>some (.pin es i (off+o))
    | _=>none) (fun s=>s) (fun s=>by simp only [step];generalize rget s.r u=x;cases x<;>rfl)
    (fun W hr s s' h _=>by simp only [h.on u (hr u (by simp [O.rd]))]) .id (by simp [O.wr])
theorem f_ext (u i:Nat):FootG C d false (.ext t u i):=
  .val (t:=t) (fun s=>match rget s.r u with
    | .tup vs=>vs[i]?
    | _=>none) (fun s=>s) (fun s=>by simp only [step];generalize rget s.r u=x;cases x<;>rfl)
    (fun W hr s s' h _=>by simp only [h.on u (hr u (by simp [O.rd]))]) .id (by simp [O.wr])
theorem f_lens (a:A):FootG C d false (.lens t a):=
  .val (t:=t) (fun s=>match a.ev s.r with
    | .str b=>some (.int .i64 b.size)
    | _=>none) (fun s=>s) (fun s=>by simp only [step];generalize a.ev s.r=x;cases x<;>rfl)
    (fun W hr s s' h _=>by simp only [h.ev a (fun t ht=>hr t (by simp [O.rd,ht]))]) .id (by simp [O.wr])
theorem f_len (a:A):FootG C d false (.len t a):=
  .val (t:=t) (fun s=>match a.ev s.r with
    | .sl _ es _=>some (.int .i64 es.length)
    | .arr _ _ _ n=>some (.int .i64 n)
    | _=>none) (fun s=>s) (fun s=>by simp only [step];generalize a.ev s.r=x;cases x<;>rfl)
    (fun W hr s s' h _=>by simp only [h.ev a (fun t ht=>hr t (by simp [O.rd,ht]))]) .id (by simp [O.wr])
theorem f_mnx (mx:Bool)(a:A)(l:List A):FootG C d false (.mnx t mx a l):=
  .val (t:=t) (fun s=>match a.ev s.r with
    | .int k x=>(mnxV mx k (l.map (·.ev s.r)) x).map fun n=>.int k n
    | _=>none) (fun s=>s) (fun s=>by
      simp only [step]
      generalize a.ev s.r=x
      cases x with
      | int k n=>simp only [Option.map_map];rfl
      | _=>rfl)
    (fun W hr s s' h _=>by simp only [h.ev a (fun t ht=>hr t (by simp [O.rd,ht])),h.evL l (fun t ht=>hr t (by simp [O.rd,ht]))]) .id (by simp [O.wr])
theorem f_clone (z:Nat)(a:A):FootG C d true (.clone t z a):=
  .val (t:=t) (fun s=>bnd (srcN d s z (a.ev s.r)) fun xs=>if xs.length≤most then some (.sl z xs (tq xs)) else none) (fun s=>s) (fun s=>by
      simp only [step]
      cases srcN d s z (a.ev s.r) with
      | none=>rfl
      | some xs=>simp only [bnd_some];split<;>rfl)
    (fun W hr s s' h hm=>by simp only [h.ev a (fun t ht=>hr t (by simp [O.rd,ht])),(hm rfl).srcN]) .id (by simp [O.wr])
theorem f_app (z:Nat)(a b:A):FootG C d true (.app t z a b):=
  .val (t:=t) (fun s=>match srcV d s z (b.ev s.r) with
    | some xs=>appV z (a.ev s.r) xs
    | none=>none) (fun s=>(s.off a).dem b) (fun s=>by
      simp only [step]
      generalize srcV d s z (b.ev s.r)=q
      cases q<;>rfl)
    (fun W hr s s' h hm=>by simp only [h.ev a (fun t ht=>hr t (by simp [O.rd,ht])),h.ev b (fun t ht=>hr t (by simp [O.rd,ht])),(hm rfl).srcV])
    ((TOk.off a (by intro t ht;simp [O.rd,ht]) (by intro t ht;simp [O.wr,ht])).comp (.dem b (by intro t ht;simp [O.rd,ht]) (by intro t ht;simp [O.wr,ht]))) (by simp [O.wr])
theorem f_ia (z:Nat)(x i:A):FootG C d true (.ia t z x i):=
  .val (t:=t) (fun s=>match x.ev s.r,i.ev s.r with
    | .sl z' es _,.int _ n=>if z'=z∧0≤n∧n < es.length then some (.pin es n.toNat 0) else none
    | .arr k z2 lo m,.int _ n=>match s.get d k with
      | some (.row z' es _)=>if z'=z∧z2=z∧0≤n∧n < m∧lo+m≤es.length then some (.ptr k (lo+n.toNat) 0) else none
      | some (.cells z' es)=>if z'=z∧z2=z∧0≤n∧n < m∧lo+m≤es.length then some (.ptr k (lo+n.toNat) 0) else none
      | _=>none
    | _,_=>none) (fun s=>s.dem x) (fun s=>by
      have he:∀ k z2 lo m,x.ev s.r=.arr k z2 lo m→s.dem x=s:=fun k z2 lo m e=>by
        cases x with
        | c v=>rfl
        | t u=>simp only [St.dem];simp only [A.ev] at e;rw [e]
      simp only [step]
      generalize x.ev s.r=p at he
      generalize i.ev s.r=q
      cases p with
      | sl z' es o =>
        cases q with
        | int k n=>simp only;split<;>rfl
        | _=>rfl
      | arr k z2 lo m =>
        cases q with
        | int k' n =>
          simp only [he _ _ _ _ rfl]
          cases s.get d k with
          | none=>rfl
          | some ob =>
            cases ob with
            | row z' es fr=>simp only;split<;>rfl
            | cells z' es=>simp only;split<;>rfl
            | _=>rfl
        | _=>rfl
      | _=>rfl)
    (fun W hr s s' h hm=>by simp only [h.ev x (fun t ht=>hr t (by simp [O.rd,ht])),h.ev i (fun t ht=>hr t (by simp [O.rd,ht])),(hm rfl).get])
    (.dem x (by intro t ht;simp [O.rd,ht]) (by intro t ht;simp [O.wr,ht])) (by simp [O.wr])
theorem argP_ag (h:Ag W s s'):∀ (xs:List A),(∀ t ∈ asl xs,W t)→argP xs s'.r=argP xs s.r
  | [],_=>rfl
  | a::q,hq=>by
    simp only [argP,h.ev a (fun t ht=>hq t (by simp [asl,ht])),argP_ag h q (fun t ht=>hq t (by simp only [asl,List.flatMap_cons,List.mem_append];exact .inr ht))]
theorem f_callp (f:A)(xs:List A):FootG C d true (.callp t f xs):=
  .val (t:=t) (fun s=>match f.ev s.r with
    | .fn f first caps=>bnd (argP xs s.r) fun vs=>bnd (C f (d+1) (first++vs++caps) (merge d s.l s.f)) fun p =>
        if p.2.2 then none else recvP p.1
    | _=>none) (fun s=>s) (fun s=>by
      simp only [step]
      generalize f.ev s.r=q
      cases q with
      | fn f first caps =>
        simp only
        cases argP xs s.r with
        | none=>rfl
        | some vs =>
          simp only [bnd_some]
          cases C f (d+1) (first++vs++caps) (merge d s.l s.f) with
          | none=>rfl
          | some p =>
            simp only [bnd_some]
            split
            · rfl
            · cases recvP p.1<;>rfl
      | _=>rfl)
    (fun W hr s s' h hm=>by simp only [h.ev f (fun t ht=>hr t (by simp [O.rd,ht])),argP_ag h xs (fun t ht=>hr t (by simp [O.rd,ht])),(hm rfl).l,(hm rfl).f]) .id (by simp [O.wr])
end Go.Den
namespace Go.Den
variable {C:CallF} {d:Nat} {W:Nat→Prop} {s s' s1:St} {o:O} {t:Nat}
theorem SameM.set (h:SameM s s')(k:Key)(ob:Obj):SameM (s.set d k ob) (s'.set d k ob):=by
  unfold St.set
  split
  · exact ⟨by simp only [h.l],h.f,h.w⟩
  · exact ⟨h.l,by simp only [h.f],rfl⟩
theorem SameM.put2 (h:SameM s s')(t:Nat)(v:V):SameM (s.put t v) (s'.put t v):=⟨h.l,h.f,h.w⟩
theorem SameM.sq {s1':St}(h:SameM s s')(k:SameM s s1)(k':SameM s' s1'):SameM s1 s1':=(k.symm.trans h).trans k'
theorem SameM.add (h:SameM s s'){u:Nat}{ob:Obj}(ha:s.add t u ob=some s1):∃ s1',s'.add t u ob=some s1'∧SameM s1 s1'∧s1.r=s.r∧s1'.r=s'.r:=by
  unfold St.add at ha ⊢
  rw [h.l]
  split at ha
  · rename_i e
    cases ha
    exact ⟨{ s' with l:=ains s.l t u ob },rfl,⟨rfl,h.f,h.w⟩,rfl,rfl⟩
  · cases ha
theorem stV_ag (h:SameM s s'){p:V}{cs:List V}(hs:stV d s p cs=some s1):∃ s1',stV d s' p cs=some s1'∧SameM s1 s1'∧s1.r=s.r∧s1'.r=s'.r:=by
  unfold stV at hs ⊢
  split at hs
  · rename_i k i off
    simp only [h.get]
    split at hs
    · split at hs
      · split at hs
        · rename_i hc
          cases hs
          exact ⟨_,by rw [if_pos hc],h.set _ _,set_r _ _ _ _,set_r _ _ _ _⟩
        · cases hs
      · cases hs
    · split at hs
      · split at hs
        · rename_i hc
          cases hs
          exact ⟨_,by rw [if_pos hc],h.set _ _,set_r _ _ _ _,set_r _ _ _ _⟩
        · cases hs
      · cases hs
    · cases hs
  · cases hs
theorem f_st (sz:Option Nat)(a b:A):FootM C d (.st sz a b):=by
  intro W hr s s' s1 ha hm h
  have e1:=ha.ev a (fun t ht=>hr t (by simp [O.rd,ht]))
  have e2:=ha.ev b (fun t ht=>hr t (by simp [O.rd,ht]))
  simp only [step,e1,e2] at h ⊢
  cases sz with
  | none =>
    simp only at h ⊢
    split at h
    · rename_i h1
      rw [if_pos h1]
      obtain ⟨a1,a2,a3⟩:=TOk.off (rd:=b.sl) (wr:=b.sl) b (fun _ h=>h) (fun _ h=>h) W (fun t ht=>hr t (by simp [O.rd,ht])) s s' ha
      obtain ⟨_,b2,b3⟩:=TOk.off (rd:=b.sl) (wr:=b.sl) b (fun _ h=>h) (fun _ h=>h) W (fun t ht=>hr t (by simp [O.rd,ht])) s' s' .refl
      obtain ⟨s1',q1,q2,q3,q4⟩:=stV_ag (hm.sq a3 b3) h
      exact ⟨s1',q1,a1.of_r q3 q4,a2.trans (.of_r q3),b2.trans (.of_r q4),q2⟩
    · cases h
  | some n =>
    simp only at h ⊢
    split at h
    · rename_i cs hb
      split at h
      · rename_i hc
        simp only [if_pos hc]
        obtain ⟨s1',q1,q2,q3,q4⟩:=stV_ag hm h
        exact ⟨s1',q1,ha.of_r q3 q4,.of_r q3,.of_r q4,q2⟩
      · cases h
    · cases h
theorem f_lds (a:A):FootM C d (.lds t a):=by
  intro W hr s s' s1 ha hm h
  have e1:=ha.ev a (fun t ht=>hr t (by simp [O.rd,ht]))
  simp only [step,e1] at h ⊢
  split at h
  · rename_i k i off hp
    simp only [hm.get]
    split at h
    · rename_i z es hg
      split at h
      · rename_i e he
        split at h
        · rename_i v hv
          split at h
          · rename_i hu
            rw [if_pos hu]
            cases h
            exact ⟨_,rfl,(ha.of_r (set_r _ _ _ _) (set_r _ _ _ _)).put _ _,(Un.of_r (set_r _ _ _ _)).trans (.put1 (by simp [O.wr]) _),(Un.of_r (set_r _ _ _ _)).trans (.put1 (by simp [O.wr]) _),(hm.set _ _).put2 _ _⟩
          · rename_i hu
            rw [if_neg hu]
            cases h
            exact ⟨_,rfl,ha.put _ _,.put1 (by simp [O.wr]) _,.put1 (by simp [O.wr]) _,hm.put2 _ _⟩
        · cases h
      · cases h
    · cases h
  · cases h
theorem f_new (zero:List V):FootM C d (.new t zero):=by
  intro W hr s s' s1 ha hm h
  simp only [step,zE] at h ⊢
  obtain ⟨s2,h2,rfl⟩:=h
  obtain ⟨s2',q1,q2,q3,q4⟩:=hm.add h2
  exact ⟨_,⟨s2',q1,rfl⟩,(ha.of_r q3 q4).put _ _,(Un.of_r q3).trans (.put1 (by simp [O.wr]) _),(Un.of_r q4).trans (.put1 (by simp [O.wr]) _),q2.put2 _ _⟩
theorem dem_ag {wr:List Nat}(ha:Ag W s s')(a:A)(hW:∀ t ∈ a.sl,W t)(hw:∀ t ∈ a.sl,t ∈ wr):Ag W (s.dem a) (s'.dem a)∧Un wr s (s.dem a)∧Un wr s' (s'.dem a)∧SameM s (s.dem a)∧SameM s' (s'.dem a):=
  have h:=TOk.dem (rd:=a.sl) (wr:=wr) a (fun _ h=>h) hw W hW s s' ha
  have k:=TOk.dem (rd:=a.sl) (wr:=wr) a (fun _ h=>h) hw W hW s' s' .refl
  ⟨h.1,h.2.1,k.2.1,h.2.2,k.2.2⟩
theorem partsB_ag {wr:List Nat}:∀ {ps:List (Nat × Nat × A)}{s s':St}{cs:List V}{p:St × List V},Ag W s s'→(∀ t ∈ ps.flatMap (·.2.2.sl),W t)→(∀ t ∈ ps.flatMap (·.2.2.sl),t ∈ wr)→partsB ps s cs=some p →
    ∃ q,partsB ps s' cs=some (q,p.2)∧Ag W p.1 q∧Un wr s p.1∧Un wr s' q∧SameM s p.1∧SameM s' q
  | [],s,s',cs,p,ha,_,_,h=>by
    simp only [partsB,zI] at h
    subst h
    exact ⟨s',rfl,ha,.refl,.refl,.refl,.refl⟩
  | (off,n,a)::r,s,s',cs,p,ha,hW,hw,h=>by
    simp only [List.flatMap_cons,List.mem_append] at hW hw
    simp only [partsB,bnd_eq] at h ⊢
    rw [ha.ev a (fun t ht=>hW t (.inl ht))]
    obtain ⟨xs,hx,h⟩:=h
    split at h
    · rename_i hc
      obtain ⟨a1,a2,a3,a4,a5⟩:=dem_ag ha a (fun t ht=>hW t (.inl ht)) (fun t ht=>hw t (.inl ht))
      obtain ⟨q,b1,b2,b3,b4,b5,b6⟩:=partsB_ag a1 (fun t ht=>hW t (.inr ht)) (fun t ht=>hw t (.inr ht)) h
      exact ⟨q,⟨xs,hx,by rw [if_pos hc];exact b1⟩,b2,a2.trans b3,a3.trans b4,a4.trans b5,a5.trans b6⟩
    · cases h
theorem partsL_ag {wr:List Nat}{z:Nat}:∀ {ps:List (Nat × A)}{s s':St}{cs:List (List V)}{p:St × List (List V)},Ag W s s'→(∀ t ∈ ps.flatMap (·.2.sl),W t)→(∀ t ∈ ps.flatMap (·.2.sl),t ∈ wr)→partsL z ps s cs=some p →
    ∃ q,partsL z ps s' cs=some (q,p.2)∧Ag W p.1 q∧Un wr s p.1∧Un wr s' q∧SameM s p.1∧SameM s' q
  | [],s,s',cs,p,ha,_,_,h=>by
    simp only [partsL,zI] at h
    subst h
    exact ⟨s',rfl,ha,.refl,.refl,.refl,.refl⟩
  | (n,a)::r,s,s',cs,p,ha,hW,hw,h=>by
    simp only [List.flatMap_cons,List.mem_append] at hW hw
    simp only [partsL,bnd_eq] at h ⊢
    rw [ha.ev a (fun t ht=>hW t (.inl ht))]
    obtain ⟨xs,hx,h⟩:=h
    split at h
    · rename_i hc
      obtain ⟨a1,a2,a3,a4,a5⟩:=dem_ag ha a (fun t ht=>hW t (.inl ht)) (fun t ht=>hw t (.inl ht))
      obtain ⟨q,b1,b2,b3,b4,b5,b6⟩:=partsL_ag a1 (fun t ht=>hW t (.inr ht)) (fun t ht=>hw t (.inr ht)) h
      exact ⟨q,⟨xs,hx,by rw [if_pos hc];exact b1⟩,b2,a2.trans b3,a3.trans b4,a4.trans b5,a5.trans b6⟩
    · cases h
theorem f_build (zero:List V)(ps:List (Nat × Nat × A)):FootG C d false (.build t zero ps):=by
  intro W hr s s' s1 ha _ h
  simp only [step,zE] at h ⊢
  obtain ⟨p,hp,rfl⟩:=h
  obtain ⟨q,b1,b2,b3,b4,b5,b6⟩:=partsB_ag (wr:=(O.build t zero ps).wr) ha (by simpa [O.rd] using hr) (by intro u hu;simp only [O.wr,List.mem_cons];exact .inr hu) hp
  exact ⟨_,⟨_,b1,rfl⟩,b2.put _ _,b3.trans (.put1 (by simp [O.wr]) _),b4.trans (.put1 (by simp [O.wr]) _),b5.trans (.put _ _),b6.trans (.put _ _)⟩
theorem f_lit (z n:Nat)(zero:List V)(ps:List (Nat × A)):FootG C d false (.lit t z n zero ps):=by
  intro W hr s s' s1 ha _ h
  simp only [step] at h ⊢
  split at h
  · rename_i hz
    rw [if_pos hz]
    split at h
    · rename_i s2 es hp
      obtain ⟨q,b1,b2,b3,b4,b5,b6⟩:=partsL_ag (wr:=(O.lit t z n zero ps).wr) ha (by simpa [O.rd] using hr) (by intro u hu;simp only [O.wr,List.mem_cons];exact .inr hu) hp
      rw [b1]
      simp only
      split at h
      · rename_i hc
        cases h
        exact ⟨_,by rw [if_pos hc],b2.put _ _,b3.trans (.put1 (by simp [O.wr]) _),b4.trans (.put1 (by simp [O.wr]) _),b5.trans (.put _ _),b6.trans (.put _ _)⟩
      · cases h
    · cases h
  · cases h
theorem f_lito (z n:Nat)(zero:List V)(ps:List (Nat × A)):FootM C d (.lito t z n zero ps):=by
  intro W hr s s' s1 ha hm h
  simp only [step] at h ⊢
  split at h
  · rename_i hz
    rw [if_pos hz]
    split at h
    · rename_i s2 es hp
      obtain ⟨q,b1,b2,b3,b4,b5,b6⟩:=partsL_ag (wr:=(O.lito t z n zero ps).wr) ha (by simpa [O.rd] using hr) (by intro u hu;simp only [O.wr,List.mem_cons];exact .inr hu) hp
      rw [b1]
      simp only [zE] at h ⊢
      obtain ⟨s3,h3,rfl⟩:=h
      obtain ⟨s3',q1,q2,q3,q4⟩:=(hm.sq b5 b6).add h3
      exact ⟨_,⟨s3',q1,rfl⟩,(b2.of_r q3 q4).put _ _,(b3.trans (.of_r q3)).trans (.put1 (by simp [O.wr]) _),(b4.trans (.of_r q4)).trans (.put1 (by simp [O.wr]) _),q2.put2 _ _⟩
    · cases h
  · cases h
theorem arg1_ag {wr:List Nat}{raw:Bool}{a:A}{q:V × St}(ha:Ag W s s')(hm:SameM s s')(hW:∀ t ∈ a.sl,W t)(hw:∀ t ∈ a.sl,t ∈ wr)(h:arg1 d raw a s=some q) :
    ∃ q',arg1 d raw a s'=some (q.1,q')∧Ag W q.2 q'∧SameM q.2 q'∧Un wr s q.2∧Un wr s' q':=by
  unfold arg1 at h ⊢
  rw [ha.ev a hW]
  split at h
  · split at h
    · rename_i hr
      cases h
      exact ⟨s',by rw [if_pos hr],ha,hm,.refl,.refl⟩
    · rename_i hr
      rw [if_neg hr,hm.get]
      split at h
      · rename_i z es fr hg
        split at h
        · rename_i hc
          cases h
          exact ⟨_,by simp only;rw [if_pos hc],ha.of_r (set_r _ _ _ _) (set_r _ _ _ _),hm.set _ _,.of_r (set_r _ _ _ _),.of_r (set_r _ _ _ _)⟩
        · cases h
      · cases h
  · rename_i hne
    cases h
    obtain ⟨a1,a2,a3,a4,a5⟩:=dem_ag ha a hW hw
    exact ⟨_,rfl,a1,hm.sq a4 a5,a2,a3⟩
theorem argL_ag {wr:List Nat}{raw:Bool}:∀ {xs:List A}{s s':St}{q:List V × St},Ag W s s'→SameM s s'→(∀ t ∈ asl xs,W t)→(∀ t ∈ asl xs,t ∈ wr)→argL d raw xs s=some q →
    ∃ q',argL d raw xs s'=some (q.1,q')∧Ag W q.2 q'∧SameM q.2 q'∧Un wr s q.2∧Un wr s' q'
  | [],s,s',q,ha,hm,_,_,h=>by
    simp only [argL,zI] at h
    subst h
    exact ⟨s',rfl,ha,hm,.refl,.refl⟩
  | a::r,s,s',q,ha,hm,hW,hw,h=>by
    simp only [asl,List.flatMap_cons,List.mem_append] at hW hw
    simp only [argL] at h ⊢
    split at h
    · rename_i v s1 h1
      obtain ⟨s1',a1,a2,a3,a4,a5⟩:=arg1_ag (wr:=wr) ha hm (fun t ht=>hW t (.inl ht)) (fun t ht=>hw t (.inl ht)) h1
      rw [a1]
      simp only [zE] at h ⊢
      obtain ⟨p,hp,rfl⟩:=h
      obtain ⟨q',b1,b2,b3,b4,b5⟩:=argL_ag a2 a3 (fun t ht=>hW t (.inr ht)) (fun t ht=>hw t (.inr ht)) hp
      exact ⟨q',⟨_,b1,rfl⟩,b2,b3,a4.trans b4,a5.trans b5⟩
    · cases h
theorem recv1_ag {j:Nat}{ob:Bool}{v:V}{p:V × St}(hm:SameM s s')(h:recv1 d t j ob v s=some p) :
    ∃ p',recv1 d t j ob v s'=some (p.1,p')∧SameM p.2 p'∧p.2.r=s.r∧p'.r=s'.r:=by
  unfold recv1 at h ⊢
  split at h
  · split at h
    · rename_i hc
      rw [if_pos hc]
      simp only [zE] at h ⊢
      obtain ⟨s2,h2,rfl⟩:=h
      obtain ⟨s2',q1,q2,q3,q4⟩:=hm.add h2
      exact ⟨s2',⟨s2',q1,rfl⟩,q2,q3,q4⟩
    · rename_i hc
      rw [if_neg hc]
      cases h
      exact ⟨s',rfl,hm,rfl,rfl⟩
  · simp only [zE] at h ⊢
    obtain ⟨s2,h2,rfl⟩:=h
    obtain ⟨s2',q1,q2,q3,q4⟩:=hm.add h2
    exact ⟨s2',⟨s2',q1,rfl⟩,q2,q3,q4⟩
  · cases h
    exact ⟨s',rfl,hm,rfl,rfl⟩
theorem recvL_ag {ob:Bool}:∀ {cs:List V}{j:Nat}{s s':St}{p:List V × St},SameM s s'→recvL d t ob j cs s=some p →
    ∃ p',recvL d t ob j cs s'=some (p.1,p')∧SameM p.2 p'∧p.2.r=s.r∧p'.r=s'.r
  | [],j,s,s',p,hm,h=>by
    simp only [recvL,zI] at h
    subst h
    exact ⟨s',rfl,hm,rfl,rfl⟩
  | v::r,j,s,s',p,hm,h=>by
    simp only [recvL] at h ⊢
    split at h
    · rename_i v' s1 h1
      obtain ⟨s1',a1,a2,a3,a4⟩:=recv1_ag hm h1
      rw [a1]
      simp only [zE] at h ⊢
      obtain ⟨q,hq,rfl⟩:=h
      obtain ⟨q',b1,b2,b3,b4⟩:=recvL_ag a2 hq
      exact ⟨q',⟨_,b1,rfl⟩,b2,b3.trans a3,b4.trans a4⟩
    · cases h
theorem recv_ag {ob:Bool}{v:V}{p:V × St}(hm:SameM s s')(h:recv d t ob v s=some p) :
    ∃ p',recv d t ob v s'=some (p.1,p')∧SameM p.2 p'∧p.2.r=s.r∧p'.r=s'.r:=by
  unfold recv at h ⊢
  split at h
  · split at h
    · rename_i hc
      rw [if_pos hc]
      exact recv1_ag hm h
    · rename_i hc
      rw [if_neg hc]
      cases h
      exact ⟨s',rfl,hm,rfl,rfl⟩
  · simp only [zE] at h ⊢
    obtain ⟨q,hq,rfl⟩:=h
    obtain ⟨q',b1,b2,b3,b4⟩:=recvL_ag hm hq
    exact ⟨q',⟨_,b1,rfl⟩,b2,b3,b4⟩
  · simp only [zE] at h ⊢
    obtain ⟨q,hq,rfl⟩:=h
    obtain ⟨q',b1,b2,b3,b4⟩:=recvL_ag hm hq
    exact ⟨q',⟨_,b1,rfl⟩,b2,b3,b4⟩
  · rename_i h1 h2 h3
    obtain ⟨p',e⟩:=recv1_ag hm h
    exact ⟨p',e⟩
theorem after_ag {g:Frm}{w:Bool}(hm:SameM s s'):SameM (after d s g w) (after d s' g w)∧(after d s g w).r=s.r∧(after d s' g w).r=s'.r:=by
  unfold after
  split
  · exact ⟨⟨by simp only [hm.l],by simp only [hm.f],rfl⟩,rfl,rfl⟩
  · exact ⟨hm,rfl,rfl⟩
theorem f_call (t:Option Nat)(raw ob:Bool)(f:A)(xs:List A):FootM C d (.call t raw ob f xs):=by
  intro W hr s s' s1 ha hm h
  have e1:=ha.ev f (fun t ht=>hr t (by simp [O.rd,ht]))
  simp only [step,e1] at h ⊢
  split at h
  · rename_i k first caps hf
    simp only [bnd_eq] at h ⊢
    obtain ⟨q,h1,p,h2,h3⟩:=h
    obtain ⟨q',a1,a2,a3,a4,a5⟩:=argL_ag (wr:=(O.call t raw ob f xs).wr) ha hm (fun t ht=>hr t (by simp [O.rd,ht])) (fun u hu=>by simp [O.wr,hu]) h1
    obtain ⟨b1,b2,b3⟩:=after_ag (d:=d) (g:=p.2.1) (w:=p.2.2) a3
    cases t with
    | none =>
      simp only [took,zI] at h3
      subst h3
      exact ⟨_,⟨_,a1,p,by simp only [a3.l,a3.f];exact h2,rfl⟩,a2.of_r b2 b3,a4.trans (.of_r b2),a5.trans (.of_r b3),b1⟩
    | some t =>
      simp only [took,zE] at h3
      obtain ⟨u,hu,rfl⟩:=h3
      obtain ⟨u',c1,c2,c3,c4⟩:=recv_ag b1 hu
      refine ⟨u'.put t u.1,⟨_,a1,p,by simp only [a3.l,a3.f];exact h2,by simp only [took,c1,Option.map_some]⟩,?_,?_,?_,c2.put2 _ _⟩
      · exact (a2.of_r (c3.trans b2) (c4.trans b3)).put _ _
      · exact (a4.trans (.of_r (c3.trans b2))).trans (.put1 (by simp [O.wr]) _)
      · exact (a5.trans (.of_r (c4.trans b3))).trans (.put1 (by simp [O.wr]) _)
  · cases h
end Go.Den
