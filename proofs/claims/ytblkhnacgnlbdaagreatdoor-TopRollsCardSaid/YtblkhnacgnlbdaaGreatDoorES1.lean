import Derived.Test.YtblkhnacgnlbdaaGreatDoorEA
import Derived.RowKit
import Derived.Test.YtblkhnacgnlbdaaGreatDoorEP
import Derived.Tactics
import Derived.Laws.Concat
import Derived.Laws.Slices
import Derived.Laws.Externs
import Derived.ChangeKeysEq
set_option linter.all false
namespace Go.Den
inductive Lc where
  | reg (t:Nat)
  | cell (k:Key) (i j:Nat)
  | res (j:Nat)
inductive Kd where
  | imm
  | held
  | obj (k:Key)
  | priv (l:Lc)
structure G where
  K:Nat→Kd
  A:Key→Option (Nat × Nat)
  F:Frm
def rowSize (w:World) (b:Nat):Nat:=
  match w.heap[b]? with
  | some (.cells cur _ _)=>cur.size
  | _=>0
mutual
def RP (w:World) (K:Nat→Kd):V→Value→Prop
  | .bool b,x=>x=.bool b
  | .int k n,x=>x=.int k n
  | .str s,x=>x=.string s
  | .sl z es o,x=>o=.sh∧∃ a c,x=.slice a es.length c∧es.length≤c∧(a=none→es=[]∧c=0)∧∀ ad,a=some ad→ad.spot=none∧(es≠[]→K ad.block=.imm∧ad.block < w.heap.size)∧RPr w K ad.block z ad.off es
  | _,_=>False
def RPc (w:World) (K:Nat→Kd) (b:Nat):Nat→List V→Prop
  | _,[]=>True
  | o,v::r=>(∃ x,w.cell? ⟨b,o,none⟩=some x∧RP w K v x)∧RPc w K b (o+1) r
def RPr (w:World) (K:Nat→Kd) (b z:Nat):Nat→List (List V)→Prop
  | _,[]=>True
  | o,e::r=>e.length=z∧RPc w K b o e∧RPr w K b z (o+z) r
end
def Sl (w:World) (K:Nat→Kd) (z:Nat) (es:List (List V)) (a:Option Addr) (c:Nat):Prop:=
  es.length≤c∧(a=none→es=[]∧c=0)∧∀ ad,a=some ad→ad.spot=none∧(es≠[]→K ad.block=.imm∧ad.block < w.heap.size)∧RPr w K ad.block z ad.off es
mutual
def R (w:World) (g:G):V→Value→Prop
  | .dead,_=>True
  | .bool b,x=>x=.bool b
  | .int k n,x=>x=.int k n
  | .str s,x=>x=.string s
  | .nilp,x=>x=.pointer none
  | .nilf,x=>x=.nilFunc
  | .nili,x=>x=.nilIface
  | .agg cs,x=>∃ xs:Array Value,x=.agg xs∧RL w g cs xs.toList
  | .tup cs,x=>∃ xs:Array Value,x=.tuple xs∧RL w g cs xs.toList
  | .sl z es o,x=>o≠.uniq∧∃ a c,x=.slice a es.length c∧Sl w g.K z es a c∧(o=.tight→c=es.length)
  | .ptr k i off,x=>∃ b z,g.A k=some (b,z)∧x=.pointer (some ⟨b,i*z+off,none⟩)
  | .pin es i off,x=>∃ (ad:Addr) (e:List V),x=.pointer (some ad)∧ad.spot=none∧es[i]?=some e∧g.K ad.block=.imm∧ad.block < w.heap.size∧RPc w g.K ad.block ad.off (e.drop off)
  | .arr k z lo n,x=>∃ b a c,g.A k=some (b,z)∧x=.slice a n c∧n≤c∧(a=some ⟨b,lo*z,none⟩∧(lo+c)*z≤rowSize w b∨n=0∧(a=none→c=0)∧∀ ad,a=some ad→ad.spot=none)
  | .fn f a b,x=>∃ xs ys:Array Value,x=.func (.func f) xs ys∧RL w g a xs.toList∧RL w g b ys.toList
  | .map k,x=>∃ b,g.A k=some (b,0)∧x=.map (some b)
  | .box _,_=>False
def RL (w:World) (g:G):List V→List Value→Prop
  | [],xs=>xs=[]
  | v::r,xs=>∃ x ys,xs=x::ys∧R w g v x∧RL w g r ys
end
def Thaw (cur:Array Value) (fz:Nat × Nat):Prop:=∀ o,o < cur.size→¬ (fz.1≤o∧o < fz.2)
def Uq (w:World) (g:G) (l:Lc) (z:Nat) (es:List (List V)) (x:Value):Prop:=
  (x=.slice none 0 0∧es=[])∨∃ b c cur e fz,x=.slice (some ⟨b,0,none⟩) es.length c∧es.length≤c∧g.K b=.priv l∧w.heap[b]?=some (.cells cur e fz)∧c*z≤cur.size∧Thaw cur fz∧RPr w g.K b z 0 es
def Bx (w:World) (g:G) (l:Lc) (cs:List V) (x:Value):Prop:=
  ∃ b cur e fz,x=.pointer (some ⟨b,0,none⟩)∧g.K b=.priv l∧w.heap[b]?=some (.cells cur e fz)∧Thaw cur fz∧∀ (j:Nat) v,cs[j]?=some v→∃ x,cur[j]?=some x∧R w g v x
def RT (w:World) (g:G) (l:Lc):V→Value→Prop
  | .sl z es .uniq,x=>Uq w g l z es x
  | v,x=>R w g v x
def RB (w:World) (g:G) (l:Lc):V→Value→Prop
  | .box cs,x=>Bx w g l cs x
  | v,x=>RT w g l v x
def ObjR (w:World) (g:G) (k:Key):Obj→Prop
  | .cells z es=>∃ b cur e fz,g.A k=some (b,z)∧g.K b=.obj k∧w.heap[b]?=some (.cells cur e fz)∧Thaw cur fz∧∀ (i:Nat) r,es[i]?=some r→r.length=z∧∀ (j:Nat) v,r[j]?=some v→∃ x,cur[i*z+j]?=some x∧RT w g (.cell k i j) v x
  | .row z es fr=>∃ b,g.A k=some (b,z)∧(es=[]∨∃ cur e fz,w.heap[b]?=some (.cells cur e fz)∧(fr=true→g.K b=.imm)∧(fr=false→g.K b=.obj k∧Thaw cur fz)∧RPr w g.K b z 0 es)
  | .iter s p=>∃ b,g.A k=some (b,0)∧g.K b=.obj k∧w.heap[b]?=some (.stringIter s p)
  | .map es=>∃ b ents clock,g.A k=some (b,0)∧g.K b=.obj k∧w.heap[b]?=some (.map ents clock)∧es.length=ents.size∧∀ (i:Nat) (p:V × V),es[i]?=some p→∃ m:MapEntry,ents[i]?=some m∧R w g p.1 m.key∧R w g p.2 m.val∧p.1.keys=[]∧p.2.keys=[]
def RTR (w:World) (g:G):V→Value→Prop
  | .agg cs,x=>∃ xs:Array Value,x=.agg xs∧xs.size=cs.length∧∀ (j:Nat) v,cs[j]?=some v→∃ y,xs[j]?=some y∧RB w g (.res j) v y
  | .tup cs,x=>∃ xs:Array Value,x=.tuple xs∧xs.size=cs.length∧∀ (j:Nat) v,cs[j]?=some v→∃ y,xs[j]?=some y∧RB w g (.res j) v y
  | v,x=>RB w g (.res 0) v x
theorem rowSize_lt {w:World} {b:Nat} (h:rowSize w b≠0):b < w.heap.size:=by
  rcases Nat.lt_or_ge b w.heap.size with k | k
  · exact k
  · exfalso;apply h;unfold rowSize;rw [Array.getElem?_eq_none k]
theorem rowSize_le {w w':World} (h:∀ b,b < w.heap.size→rowSize w b≤rowSize w' b) (b:Nat):rowSize w b≤rowSize w' b:=by
  rcases Nat.eq_zero_or_pos (rowSize w b) with h0 | h0
  · omega
  · exact h b (rowSize_lt (by omega))
theorem rowSize_of {w w':World} {b:Nat} (h:w'.heap[b]?=w.heap[b]?):rowSize w b≤rowSize w' b:=by unfold rowSize;rw [h];exact Nat.le_refl _
structure Ext (w:World) (g:G) (w':World) (g':G):Prop where
  size:w.heap.size≤w'.heap.size
  imm:∀ b,b < w.heap.size→g.K b=.imm→g'.K b=.imm∧w'.heap[b]?=w.heap[b]?
  rows:∀ b,b < w.heap.size→rowSize w b≤rowSize w' b
theorem cell_of {w w':World} {b:Nat} (h:w'.heap[b]?=w.heap[b]?) (o:Nat):w'.cell? ⟨b,o,none⟩=w.cell? ⟨b,o,none⟩:=by
  simp only [World.cell?,h]
mutual
theorem RP_ext {w w':World} {g g':G} (h:Ext w g w' g'):∀ (v:V) (x:Value),RP w g.K v x→RP w' g'.K v x
  | .bool _,_,k=>by simpa only [RP] using k
  | .int _ _,_,k=>by simpa only [RP] using k
  | .str _,_,k=>by simpa only [RP] using k
  | .sl z es o,x,k=>by
    simp only [RP] at k ⊢
    obtain ⟨ho,a,c,hx,hc,hn,hs⟩:=k
    refine ⟨ho,a,c,hx,hc,hn,fun ad ha=>?_⟩
    obtain ⟨h1,h2,h3⟩:=hs ad ha
    refine ⟨h1,fun he=>?_,?_⟩
    · obtain ⟨i1,i2⟩:=h2 he
      exact ⟨(h.imm _ i2 i1).1,Nat.lt_of_lt_of_le i2 h.size⟩
    · cases es with
      | nil=>simp only [RPr]
      | cons e r =>
        obtain ⟨i1,i2⟩:=h2 (by simp)
        exact RPr_ext h _ (h.imm _ i2 i1).2 z (e::r) _ h3
  | .dead,_,k=>by simp only [RP] at k
  | .nilp,_,k=>by simp only [RP] at k
  | .nilf,_,k=>by simp only [RP] at k
  | .nili,_,k=>by simp only [RP] at k
  | .agg _,_,k=>by simp only [RP] at k
  | .tup _,_,k=>by simp only [RP] at k
  | .ptr _ _ _,_,k=>by simp only [RP] at k
  | .pin _ _ _,_,k=>by simp only [RP] at k
  | .arr _ _ _ _,_,k=>by simp only [RP] at k
  | .fn _ _ _,_,k=>by simp only [RP] at k
  | .map _,_,k=>by simp only [RP] at k
  | .box _,_,k=>by simp only [RP] at k
theorem RPc_ext {w w':World} {g g':G} (h:Ext w g w' g') (b:Nat) (hb:w'.heap[b]?=w.heap[b]?):∀ (l:List V) (o:Nat),RPc w g.K b o l→RPc w' g'.K b o l
  | [],_,_=>by simp only [RPc]
  | v::r,o,k=>by
    simp only [RPc] at k ⊢
    obtain ⟨⟨x,hx,hr⟩,hk⟩:=k
    exact ⟨⟨x,by rw [cell_of hb];exact hx,RP_ext h v x hr⟩,RPc_ext h b hb r _ hk⟩
theorem RPr_ext {w w':World} {g g':G} (h:Ext w g w' g') (b:Nat) (hb:w'.heap[b]?=w.heap[b]?) (z:Nat):∀ (l:List (List V)) (o:Nat),RPr w g.K b z o l→RPr w' g'.K b z o l
  | [],_,_=>by simp only [RPr]
  | e::r,o,k=>by
    simp only [RPr] at k ⊢
    exact ⟨k.1,RPc_ext h b hb e o k.2.1,RPr_ext h b hb z r _ k.2.2⟩
end
theorem Sl_ext {w w':World} {g g':G} (h:Ext w g w' g') {z:Nat} {es:List (List V)} {a:Option Addr} {c:Nat} (k:Sl w g.K z es a c):Sl w' g'.K z es a c:=by
  obtain ⟨hc,hn,hs⟩:=k
  refine ⟨hc,hn,fun ad ha=>?_⟩
  obtain ⟨h1,h2,h3⟩:=hs ad ha
  refine ⟨h1,fun he=>?_,?_⟩
  · obtain ⟨i1,i2⟩:=h2 he
    exact ⟨(h.imm _ i2 i1).1,Nat.lt_of_lt_of_le i2 h.size⟩
  · cases es with
    | nil=>simp only [RPr]
    | cons e r =>
      obtain ⟨i1,i2⟩:=h2 (by simp)
      exact RPr_ext h _ (h.imm _ i2 i1).2 z (e::r) _ h3
mutual
theorem R_ext {w w':World} {g g':G} (h:Ext w g w' g'):∀ (v:V) (x:Value),(∀ k ∈ v.keys,∀ a,g.A k=some a→g'.A k=some a)→R w g v x→R w' g' v x
  | .dead,_,_,_=>by simp only [R]
  | .bool _,_,_,k=>by simpa only [R] using k
  | .int _ _,_,_,k=>by simpa only [R] using k
  | .str _,_,_,k=>by simpa only [R] using k
  | .nilp,_,_,k=>by simpa only [R] using k
  | .nilf,_,_,k=>by simpa only [R] using k
  | .nili,_,_,k=>by simpa only [R] using k
  | .agg cs,x,hk,k=>by
    simp only [R] at k ⊢
    obtain ⟨xs,hx,hr⟩:=k
    exact ⟨xs,hx,RL_ext h cs _ (by simpa only [V.keys] using hk) hr⟩
  | .tup cs,x,hk,k=>by
    simp only [R] at k ⊢
    obtain ⟨xs,hx,hr⟩:=k
    exact ⟨xs,hx,RL_ext h cs _ (by simpa only [V.keys] using hk) hr⟩
  | .sl z es o,x,_,k=>by
    simp only [R] at k ⊢
    obtain ⟨ho,a,c,hx,hs,ht⟩:=k
    exact ⟨ho,a,c,hx,Sl_ext h hs,ht⟩
  | .ptr k i off,x,hk,r=>by
    simp only [R] at r ⊢
    obtain ⟨b,z,ha,hx⟩:=r
    exact ⟨b,z,hk k (by simp [V.keys]) _ ha,hx⟩
  | .pin es i off,x,_,k=>by
    simp only [R] at k ⊢
    obtain ⟨ad,e,hx,hs,he,hi,hz,hr⟩:=k
    exact ⟨ad,e,hx,hs,he,(h.imm _ hz hi).1,Nat.lt_of_lt_of_le hz h.size,RPc_ext h _ (h.imm _ hz hi).2 _ _ hr⟩
  | .arr k z lo n,x,hk,r=>by
    simp only [R] at r ⊢
    obtain ⟨b,a,c,ha,h1,h2,h3⟩:=r
    refine ⟨b,a,c,hk k (by simp [V.keys]) _ ha,h1,h2,?_⟩
    rcases h3 with h3 | h3
    · exact .inl ⟨h3.1,Nat.le_trans h3.2 (rowSize_le h.rows b)⟩
    · exact .inr h3
  | .fn f a b,x,hk,k=>by
    simp only [R] at k ⊢
    obtain ⟨xs,ys,hx,ha,hb⟩:=k
    exact ⟨xs,ys,hx,RL_ext h a _ (fun q hq=>hk q (by simp [V.keys,hq])) ha,RL_ext h b _ (fun q hq=>hk q (by simp [V.keys,hq])) hb⟩
  | .map k,x,hk,r=>by
    simp only [R] at r ⊢
    obtain ⟨b,ha,hx⟩:=r
    exact ⟨b,hk k (by simp [V.keys]) _ ha,hx⟩
  | .box _,_,_,k=>by simp only [R] at k
theorem RL_ext {w w':World} {g g':G} (h:Ext w g w' g'):∀ (l:List V) (xs:List Value),(∀ k ∈ keysL l,∀ a,g.A k=some a→g'.A k=some a)→RL w g l xs→RL w' g' l xs
  | [],_,_,k=>by simpa only [RL] using k
  | v::r,xs,hk,k=>by
    simp only [RL] at k ⊢
    obtain ⟨x,ys,hx,h1,h2⟩:=k
    exact ⟨x,ys,hx,R_ext h v x (fun q hq=>hk q (by simp [keysL,hq])) h1,RL_ext h r ys (fun q hq=>hk q (by simp [keysL,hq])) h2⟩
end
end Go.Den
namespace Go.Den
theorem heap_lt {w:World} {b:Nat} {o:Go.Obj} (h:w.heap[b]?=some o):b < w.heap.size:=by
  rcases Nat.lt_or_ge b w.heap.size with k | k
  · exact k
  · rw [Array.getElem?_eq_none k] at h;cases h
theorem RT_ext {w w':World} {g g':G} (h:Ext w g w' g') {l:Lc} (hp:∀ b,b < w.heap.size→g.K b=.priv l→g'.K b=.priv l∧w'.heap[b]?=w.heap[b]?) :
    ∀ (v:V) (x:Value),(∀ k ∈ v.keys,∀ a,g.A k=some a→g'.A k=some a)→RT w g l v x→RT w' g' l v x:=by
  intro v x hk r
  have plain:∀ v,(∀ k ∈ v.keys,∀ a,g.A k=some a→g'.A k=some a)→R w g v x→R w' g' v x:=fun v hk r=>R_ext h v x hk r
  cases v with
  | sl z es o =>
    cases o with
    | uniq =>
      simp only [RT] at r ⊢
      rcases r with r | ⟨b,c,cur,e,fz,h1,h2,h3,h4,h5,h6,h7⟩
      · exact .inl r
      · have:=hp b (heap_lt h4) h3
        exact .inr ⟨b,c,cur,e,fz,h1,h2,this.1,by rw [this.2];exact h4,h5,h6,RPr_ext h b this.2 z es 0 h7⟩
    | sh=>exact plain _ hk r
    | tight=>exact plain _ hk r
  | box cs=>exact plain _ hk r
  | dead=>exact plain _ hk r
  | bool b=>exact plain _ hk r
  | int k n=>exact plain _ hk r
  | str s=>exact plain _ hk r
  | nilp=>exact plain _ hk r
  | nilf=>exact plain _ hk r
  | nili=>exact plain _ hk r
  | agg cs=>exact plain _ hk r
  | tup cs=>exact plain _ hk r
  | ptr k i off=>exact plain _ hk r
  | pin es i off=>exact plain _ hk r
  | arr k z lo n=>exact plain _ hk r
  | fn f a b=>exact plain _ hk r
  | map k=>exact plain _ hk r
theorem mem_keysL {v:V} {k:Key} (hk:k ∈ v.keys):∀ {l:List V},v ∈ l→k ∈ keysL l
  | a::r,h=>by
    simp only [keysL]
    rcases List.mem_cons.mp h with rfl | h
    · exact List.mem_append_left _ hk
    · exact List.mem_append_right _ (mem_keysL hk h)
theorem mem_keysLL {e:List V} {k:Key} (hk:k ∈ keysL e):∀ {l:List (List V)},e ∈ l→k ∈ keysLL l
  | a::r,h=>by
    simp only [keysLL]
    rcases List.mem_cons.mp h with rfl | h
    · exact List.mem_append_left _ hk
    · exact List.mem_append_right _ (mem_keysLL hk h)
theorem ObjR_ext {w w':World} {g g':G} (h:Ext w g w' g') {k:Key} (hA:∀ a,g.A k=some a→g'.A k=some a)
    (hb:∀ b,b < w.heap.size→g.K b=.obj k→g'.K b=.obj k∧w'.heap[b]?=w.heap[b]?)
    (hp:∀ i j b,b < w.heap.size→g.K b=.priv (.cell k i j)→g'.K b=.priv (.cell k i j)∧w'.heap[b]?=w.heap[b]?) :
    ∀ (o:Obj),(∀ q ∈ o.keys,∀ a,g.A q=some a→g'.A q=some a)→ObjR w g k o→ObjR w' g' k o:=by
  intro o hk r
  cases o with
  | cells z es =>
    simp only [ObjR] at r ⊢
    obtain ⟨b,cur,e,fz,h1,h2,h3,h4,h5⟩:=r
    have:=hb b (heap_lt h3) h2
    refine ⟨b,cur,e,fz,hA _ h1,this.1,by rw [this.2];exact h3,h4,fun i r hi=>?_⟩
    obtain ⟨hz,hc⟩:=h5 i r hi
    refine ⟨hz,fun j v hv=>?_⟩
    obtain ⟨x,hx,hr⟩:=hc j v hv
    refine ⟨x,hx,RT_ext h (hp i j) v x (fun q hq=>hk q ?_) hr⟩
    simp only [Obj.keys]
    exact mem_keysLL (mem_keysL hq (List.mem_of_getElem? hv)) (List.mem_of_getElem? hi)
  | row z es fr =>
    simp only [ObjR] at r ⊢
    obtain ⟨b,h1,h2⟩:=r
    refine ⟨b,hA _ h1,?_⟩
    rcases h2 with h2 | ⟨cur,e,fz,h3,h4,h5,h6⟩
    · exact .inl h2
    · have hs:w'.heap[b]?=w.heap[b]?∧(fr=true→g'.K b=.imm)∧(fr=false→g'.K b=.obj k):=by
        cases fr with
        | true=>have:=h.imm b (heap_lt h3) (h4 rfl);exact ⟨this.2,fun _=>this.1,fun h=>absurd h (by simp)⟩
        | false=>have:=hb b (heap_lt h3) (h5 rfl).1;exact ⟨this.2,fun h=>absurd h (by simp),fun _=>this.1⟩
      exact .inr ⟨cur,e,fz,by rw [hs.1];exact h3,hs.2.1,fun hf=>⟨hs.2.2 hf,(h5 hf).2⟩,RPr_ext h b hs.1 z es 0 h6⟩
  | iter s p =>
    simp only [ObjR] at r ⊢
    obtain ⟨b,h1,h2,h3⟩:=r
    have:=hb b (heap_lt h3) h2
    exact ⟨b,hA _ h1,this.1,by rw [this.2];exact h3⟩
  | map es =>
    simp only [ObjR] at r ⊢
    obtain ⟨b,ents,clock,h1,h2,h3,h4,h5⟩:=r
    have:=hb b (heap_lt h3) h2
    refine ⟨b,ents,clock,hA _ h1,this.1,by rw [this.2];exact h3,h4,fun i p hi=>?_⟩
    obtain ⟨m,hm,k1,k2,k3,k4⟩:=h5 i p hi
    exact ⟨m,hm,R_ext h _ _ (by rw [k3];simp) k1,R_ext h _ _ (by rw [k4];simp) k2,k3,k4⟩
structure Keep (w:World) (g:G) (w':World) (g':G) (S:Lc→Prop) (T:Key→Prop):Prop extends Ext w g w' g' where
  os:w'.os=w.os
  tape:w'.tape=w.tape
  output:w'.output=w.output
  held:∀ b,b < w.heap.size→g.K b=.held→g'.K b=.held∧w'.heap[b]?=w.heap[b]?
  priv:∀ l,S l→∀ b,b < w.heap.size→g.K b=.priv l→g'.K b=.priv l∧w'.heap[b]?=w.heap[b]?
  obj:∀ k,T k→∀ b,b < w.heap.size→g.K b=.obj k→g'.K b=.obj k∧w'.heap[b]?=w.heap[b]?
  A:∀ k a,g.A k=some a→g'.A k=some a
theorem Keep.rt {w w':World} {g g':G} {S:Lc→Prop} {T:Key→Prop} (h:Keep w g w' g' S T) {l:Lc} (hl:S l) {v:V} {x:Value} (r:RT w g l v x):RT w' g' l v x:=
  RT_ext h.toExt (h.priv l hl) v x (fun k _=>h.A k) r
theorem Keep.r {w w':World} {g g':G} {S:Lc→Prop} {T:Key→Prop} (h:Keep w g w' g' S T) {v:V} {x:Value} (r:R w g v x):R w' g' v x:=
  R_ext h.toExt v x (fun k _=>h.A k) r
theorem Keep.rl {w w':World} {g g':G} {S:Lc→Prop} {T:Key→Prop} (h:Keep w g w' g' S T) {v:List V} {x:List Value} (r:RL w g v x):RL w' g' v x:=
  RL_ext h.toExt v x (fun k _=>h.A k) r
theorem Keep.objr {w w':World} {g g':G} {S:Lc→Prop} {T:Key→Prop} (h:Keep w g w' g' S T) {k:Key} (hk:T k) (hc:∀ i j,S (.cell k i j)) {o:Obj} (r:ObjR w g k o):ObjR w' g' k o:=
  ObjR_ext h.toExt (h.A k) (h.obj k hk) (fun i j=>h.priv _ (hc i j)) o (fun q _=>h.A q) r
structure Fr (w0:World) (g0:G) (w:World) (g:G) (d:Nat):Prop where
  os:w.os=w0.os
  tape:w.tape=w0.tape
  output:w.output=w0.output
  size:w0.heap.size≤w.heap.size
  imm:∀ b,b < w0.heap.size→g0.K b=.imm→g.K b=.imm∧w.heap[b]?=w0.heap[b]?
  held:∀ b,b < w0.heap.size→g0.K b=.held→g.K b=.held∧w.heap[b]?=w0.heap[b]?
  A:∀ k:Key,k.1 < d→g.A k=g0.A k
  rows:∀ b,b < w0.heap.size→rowSize w0 b≤rowSize w b
structure Inv (w0:World) (g0:G) (d:Nat) (s:St) (a:Act) (w:World) (g:G):Prop where
  defers:a.defers=[]
  len:s.r.length=a.tmps.size
  regs:∀ t,RT w g (.reg t) (rget s.r t) (a.tmps.getD t undef)
  objs:∀ k o,s.get d k=some o→ObjR w g k o
  live:∀ k,g.A k≠none→s.get d k≠none
  dom:∀ k o,s.f k=some o→k.1 < d
  lev:∀ k o,s.f k=some o→∀ q ∈ o.keys,q.1≤k.1
  same:s.w=false→s.f=g0.F
  fr:Fr w0 g0 w g d
theorem Fr.keep {w0 w w':World} {g0 g g':G} {d:Nat} {S:Lc→Prop} {T:Key→Prop} (f:Fr w0 g0 w g d) (h:Keep w g w' g' S T) (hA:∀ k:Key,k.1 < d→g'.A k=g.A k):Fr w0 g0 w' g' d:=
  ⟨h.os.trans f.os,h.tape.trans f.tape,h.output.trans f.output,Nat.le_trans f.size h.size,
   fun b hb hi=>let x:=f.imm b hb hi;let y:=h.imm b (Nat.lt_of_lt_of_le hb f.size) x.1;⟨y.1,y.2.trans x.2⟩,
   fun b hb hi=>let x:=f.held b hb hi;let y:=h.held b (Nat.lt_of_lt_of_le hb f.size) x.1;⟨y.1,y.2.trans x.2⟩,
   fun k hk=>(hA k hk).trans (f.A k hk),
   fun b hb=>Nat.le_trans (f.rows b hb) (h.rows b (Nat.lt_of_lt_of_le hb f.size))⟩
end Go.Den
namespace Go.Den
theorem rget_rset (v:V):∀ (r:List V) (d t:Nat),rget (rset r d v) t=if t=d∧d < r.length then v else rget r t
  | [],d,t=>by simp [rset,rget]
  | a::r,0,0=>by simp [rset,rget]
  | a::r,0,t+1=>by simp [rset,rget]
  | a::r,d+1,0=>by simp [rset,rget]
  | a::r,d+1,t+1=>by
    simp only [rset,rget,rget_rset v r d t,List.length_cons]
    by_cases h:t=d∧d < r.length
    · rw [if_pos h,if_pos (by omega)]
    · rw [if_neg h,if_neg (by omega)]
theorem rset_length (v:V):∀ (r:List V) (d:Nat),(rset r d v).length=r.length
  | [],_=>rfl
  | _::_,0=>rfl
  | a::r,d+1=>by simp only [rset,List.length_cons,rset_length v r d]
theorem rget_ge:∀ (r:List V) (t:Nat),r.length≤t→rget r t=.dead
  | [],_,_=>rfl
  | _::_,0,h=>by simp at h
  | _::r,t+1,h=>rget_ge r t (by simp at h;omega)
theorem tmps_put (a:Act) (d:Nat) (x:Value) (t:Nat):(a.put (some d) x).tmps.getD t undef=if t=d∧d < a.tmps.size then x else a.tmps.getD t undef:=by
  simp only [Act.put,Array.getD_eq_getD_getElem?,Array.getElem?_setIfInBounds]
  by_cases h:d=t
  · subst h
    by_cases hd:d < a.tmps.size
    · simp [hd]
    · simp [hd]
  · rw [if_neg h,if_neg (by omega)]
theorem Inv.put {w0:World} {g0:G} {d:Nat} {s:St} {a:Act} {w:World} {g:G} (h:Inv w0 g0 d s a w g) {t:Nat} {v:V} {x:Value} (r:RT w g (.reg t) v x) :
    Inv w0 g0 d (s.put t v) (a.put (some t) x) w g where
  defers:=h.defers
  len:=by simp only [St.put,Act.put,rset_length,Array.size_setIfInBounds];exact h.len
  regs:=fun u=>by
    rw [tmps_put]
    simp only [St.put,rget_rset,← h.len]
    by_cases hu:u=t∧t < s.r.length
    · rw [if_pos hu,if_pos hu];rw [hu.1];exact r
    · rw [if_neg hu,if_neg hu];exact h.regs u
  objs:=h.objs
  live:=h.live
  dom:=h.dom
  lev:=h.lev
  same:=h.same
  fr:=h.fr
theorem Inv.slot {w0:World} {g0:G} {d:Nat} {s:St} {a:Act} {w:World} {g:G} (h:Inv w0 g0 d s a w g) {t:Nat} {v:V} (r:RT w g (.reg t) v (a.tmps.getD t undef)) :
    Inv w0 g0 d (s.put t v) a w g where
  defers:=h.defers
  len:=by simp only [St.put,rset_length];exact h.len
  regs:=fun u=>by
    simp only [St.put,rget_rset]
    by_cases hu:u=t∧t < s.r.length
    · rw [if_pos hu];rw [hu.1];exact r
    · rw [if_neg hu];exact h.regs u
  objs:=h.objs
  live:=h.live
  dom:=h.dom
  lev:=h.lev
  same:=h.same
  fr:=h.fr
theorem Inv.dead {w0:World} {g0:G} {d:Nat} {s:St} {a:Act} {w:World} {g:G} (h:Inv w0 g0 d s a w g) (t:Nat):Inv w0 g0 d (s.put t .dead) a w g:=
  h.slot (by simp only [RT,R])
def setKd (g:G) (b:Nat) (k:Kd):G:={ g with K:=fun x=>if x=b then k else g.K x }
theorem keep_kd {w:World} {g:G} {b:Nat} {l0:Lc} (h:g.K b=.priv l0) (kd:Kd):Keep w g w (setKd g b kd) (fun l=>l≠l0) (fun _=>True) where
  size:=Nat.le_refl _
  rows:=fun _ _=>Nat.le_refl _
  imm:=fun x _ hi=>⟨by simp only [setKd];rw [if_neg (by rintro rfl;rw [h] at hi;cases hi)];exact hi,rfl⟩
  os:=rfl
  tape:=rfl
  output:=rfl
  held:=fun x _ hi=>⟨by simp only [setKd];rw [if_neg (by rintro rfl;rw [h] at hi;cases hi)];exact hi,rfl⟩
  priv:=fun l hl x _ hi=>⟨by simp only [setKd];rw [if_neg (by rintro rfl;rw [h] at hi;cases hi;exact hl rfl)];exact hi,rfl⟩
  obj:=fun k _ x _ hi=>⟨by simp only [setKd];rw [if_neg (by rintro rfl;rw [h] at hi;cases hi)];exact hi,rfl⟩
  A:=fun _ _ h=>h
theorem Inv.keep {w0:World} {g0:G} {d:Nat} {s:St} {a:Act} {w w':World} {g g':G} (h:Inv w0 g0 d s a w g) {n:Nat} {v:V}
    (k:Keep w g w' g' (fun l=>l≠.reg n) (fun _=>True)) (hA:∀ q,g'.A q=g.A q) (r:RT w' g' (.reg n) v (a.tmps.getD n undef)):Inv w0 g0 d (s.put n v) a w' g' where
  defers:=h.defers
  len:=by simp only [St.put,rset_length];exact h.len
  regs:=fun u=>by
    simp only [St.put,rget_rset]
    by_cases hu:u=n∧n < s.r.length
    · rw [if_pos hu];rw [hu.1];exact r
    · rw [if_neg hu]
      by_cases hn:u=n
      · have:rget s.r u=.dead:=rget_ge _ _ (by omega)
        rw [this];simp only [RT,R]
      · exact k.rt (by simpa using hn) (h.regs u)
  objs:=fun q o hq=>k.objr trivial (fun i j=>by simp) (h.objs q o hq)
  live:=fun q hq=>h.live q (by rw [← hA];exact hq)
  dom:=h.dom
  lev:=h.lev
  same:=h.same
  fr:=h.fr.keep k fun q _=>hA q
theorem Inv.keepAll {w0:World} {g0:G} {d:Nat} {s:St} {a:Act} {w w':World} {g g':G} (h:Inv w0 g0 d s a w g)
    (k:Keep w g w' g' (fun _=>True) (fun _=>True)) (hA:∀ q,g'.A q=g.A q):Inv w0 g0 d s a w' g' where
  defers:=h.defers
  len:=h.len
  regs:=fun u=>k.rt trivial (h.regs u)
  objs:=fun q o hq=>k.objr trivial (fun _ _=>trivial) (h.objs q o hq)
  live:=fun q hq=>h.live q (by rw [← hA];exact hq)
  dom:=h.dom
  lev:=h.lev
  same:=h.same
  fr:=h.fr.keep k fun q _=>hA q
theorem RPr_kd {w:World} {g:G} {b:Nat} {l0:Lc} (h:g.K b=.priv l0) (kd:Kd) {c z o:Nat} {es:List (List V)} (r:RPr w g.K c z o es):RPr w (setKd g b kd).K c z o es:=
  RPr_ext (keep_kd (w:=w) h kd).toExt c rfl z es o r
theorem RT_not {w:World} {g:G} {l:Lc} {v:V} {x:Value} (h:v.uq=false):RT w g l v x ↔ R w g v x:=by
  unfold RT
  split
  · simp [V.uq] at h
  · rfl
theorem uq_cases (v:V):v.uq=false∨∃ z es,v=.sl z es .uniq:=by
  unfold V.uq
  split
  · exact .inr ⟨_,_,rfl⟩
  · exact .inl rfl
theorem share {w:World} {g:G} {l:Lc} {z:Nat} {es:List (List V)} {x:Value} (h:Uq w g l z es x) :
    ∃ g',Keep w g w g' (fun m=>m≠l) (fun _=>True)∧(∀ q,g'.A q=g.A q)∧R w g' (.sl z es .sh) x:=by
  rcases h with ⟨rfl,rfl⟩ | ⟨b,c,cur,e,fz,hx,hc,hk,hh,hz,ht,hr⟩
  · refine ⟨g,⟨⟨Nat.le_refl _,fun _ _ h=>⟨h,rfl⟩,fun _ _=>Nat.le_refl _⟩,rfl,rfl,rfl,fun _ _ h=>⟨h,rfl⟩,fun _ _ _ _ h=>⟨h,rfl⟩,fun _ _ _ _ h=>⟨h,rfl⟩,fun _ _ h=>h⟩,fun _=>rfl,?_⟩
    simp only [R]
    exact ⟨by simp,none,0,rfl,⟨Nat.le_refl _,fun _=>⟨rfl,rfl⟩,fun _ h=>by cases h⟩,fun _=>rfl⟩
  · refine ⟨setKd g b .imm,keep_kd hk _,fun _=>rfl,?_⟩
    simp only [R]
    refine ⟨by simp,_,c,hx,⟨hc,fun h=>(by cases h),fun ad ha=>?_⟩,fun h=>(by cases h)⟩
    cases ha
    exact ⟨rfl,fun _=>⟨by simp [setKd],heap_lt hh⟩,RPr_kd hk _ hr⟩
theorem sh_not {v:V} (h:v.uq=false) {w:World} {g:G} {x:Value} (r:R w g v x):R w g v.sh x:=by
  unfold V.sh
  split
  · rename_i z es o
    simp only [R] at r ⊢
    obtain ⟨_,a,c,hx,hs,_⟩:=r
    exact ⟨by simp,a,c,hx,hs,fun h=>by cases h⟩
  · exact r
theorem Inv.dem {w0:World} {g0:G} {d:Nat} {s:St} {a:Act} {w:World} {g:G} (h:Inv w0 g0 d s a w g) (n:Nat) :
    ∃ g',Inv w0 g0 d (s.dem (.t n)) a w g'∧R w g' (rget s.r n).sh (a.tmps.getD n undef)∧Keep w g w g' (fun m=>m≠.reg n) (fun _=>True)∧∀ q,g'.A q=g.A q:=by
  have hr:=h.regs n
  rcases uq_cases (rget s.r n) with hu | ⟨z,es,hv⟩
  · refine ⟨g,?_,sh_not hu ((RT_not hu).mp hr),⟨⟨Nat.le_refl _,fun _ _ h=>⟨h,rfl⟩,fun _ _=>Nat.le_refl _⟩,rfl,rfl,rfl,fun _ _ h=>⟨h,rfl⟩,fun _ _ _ _ h=>⟨h,rfl⟩,fun _ _ _ _ h=>⟨h,rfl⟩,fun _ _ h=>h⟩,fun _=>rfl⟩
    have:s.dem (.t n)=s:=by
      simp only [St.dem]
      split
      · rename_i z es he;rw [he] at hu;simp [V.uq] at hu
      · rfl
    rw [this];exact h
  · rw [hv] at hr ⊢
    obtain ⟨g',k,hA,r⟩:=share hr
    refine ⟨g',?_,r,k,hA⟩
    have:s.dem (.t n)=s.put n (.sl z es .sh):=by simp only [St.dem,hv]
    rw [this]
    exact h.keep k hA (by simp only [RT];exact r)
end Go.Den
