import Derived.Test.YtblkhnacgnlbdaaGreatDoorEML
import Derived.Test.YtblkhnacgnlbdaaGreatDoorEW
import Derived.Test.YtblkhnacgnlbdaaGreatDoorTie
import Derived.Test.YtblkhnacgnlbdaaGreatDoorCards
import Derived.WalkKit
import Derived.ProofKit
import Derived.OpenShut
import Derived.ShutString
import Derived.ChangeOld
import Derived.Below
import Derived.Carry
import Derived.SizedLaws
import Derived.Lay
import Derived.LaidMore
import Derived.LaidOnce
import Derived.SevenTiedAt
set_option linter.all false
namespace Go.Proofs.YtblkhnacgnlbdaaGreatDoor.TopR
open Go.ChangeShapes Go.WideShapes Go.ChangeAt Go.RowKit Go.Den
open Go.ChangeMaps (open_string shut_string)
set_option linter.unusedVariables false
set_option maxRecDepth 100000
def g0:G:=⟨fun _=>.imm,fun _=>none,fun _=>none⟩
theorem calls_of {f:Nat} {args:List V} {b:Bool} (h:Val PT f args (.bool b)) (W:World) (xs:Array Value) (hx:RL W g0 args xs.toList):Calls Tryz.prog f xs W fun e w'=>e=.returned (.bool b)∧Below W.heap.size W w':=by
  obtain ⟨fs',w1,hD⟩:=h
  obtain ⟨n,hn⟩:=of_lim hD
  obtain ⟨_,hc⟩:=den n _ _ _ _ _ _ _ hn
  have hp:Pre W g0 0 (fun _=>none):=⟨fun k o h=>(by cases h),fun k h=>absurd rfl h,fun k o h=>(by cases h),fun k o h=>(by cases h)⟩
  refine (hc W g0 xs hx hp).mono fun e w' he=>?_
  split at he
  · obtain ⟨g',ha⟩:=he
    have hr:=ha.res
    have:∀ x,RTR w' g' (.bool b) x→x=.bool b:=fun x h=>by simpa [RTR,RB,RT,R] using h
    rw [this _ hr]
    exact ⟨rfl,ha.fr.os,ha.fr.tape,ha.fr.output,ha.fr.size,fun k hk=>(ha.fr.imm k hk rfl).2⟩
  · exact he.elim
theorem rpr_bytes {W:World} {B:Nat}:∀ (zs:List Int) (o:Nat),(∀ i,i < zs.length→W.cell? ⟨B,o+i,none⟩=some (.int .u8 (zs.getD i 0)))→(∀ n ∈ zs,(Lit.int .u8 n).wf=true)→RPr W g0.K B 1 o (u8l (zs.map fun n=>UInt8.ofNat n.toNat))
  | [],_,_,_=>by simp [u8l,RPr]
  | z::r,o,hc,hw=>by
    have hz:0≤z∧z < 256:=by have:=hw z (by simp);simp [Lit.wf,IntKind.min,IntKind.max,IntKind.signed,IntKind.bits] at this;omega
    have h0:=hc 0 (by simp)
    simp only [List.getD_cons_zero,Nat.add_zero] at h0
    have ih:=rpr_bytes r (o+1) (fun i hi=>by have:=hc (i+1) (by simp;omega);simpa [Nat.add_assoc,Nat.add_comm 1 i] using this) (fun n hn=>hw n (by simp [hn]))
    simp only [List.map_cons,u8l,RPr]
    refine ⟨rfl,⟨⟨_,h0,?_⟩,trivial⟩,ih⟩
    simp only [RP]
    rw [u8_of hz]
section
variable {H:Type} {enc:TypeId × Value→H}
theorem open_b {W:World} {base:Nat} {v:Value} {d:DataW H} {p:List MemPlace} (hval:Value.okWide Tryz.prog W .any base 22 v) (h:DataW.Trod enc Tryz.prog W 0 (fun _=>true) true 22 v d p):∃ b:List UInt8,R W g0 (.sl 1 (u8l b) .sh) v:=by
  obtain ⟨a1,len,cap,rfl⟩:=okWide_slice Tryz.underlying22 hval
  obtain ⟨fuel,hf⟩:=h
  rcases open_ints Tryz.underlying22 Tryz.underlying5 (by kernel_rfl) hf with ⟨hcs,_⟩ | ⟨a,len',cap',zs,hcs,_,hl,hm,hz,hx,hcell,hwz⟩
  · simp [Value.cells] at hcs
    obtain ⟨rfl,rfl,rfl⟩:=hcs
    refine ⟨[],?_⟩
    simp only [R]
    exact ⟨by decide,none,0,rfl,⟨Nat.le_refl _,fun _=>⟨rfl,rfl⟩,fun ad h=>(by cases h)⟩,fun h=>(by cases h)⟩
  · simp [Value.cells] at hcs
    obtain ⟨rfl,rfl,rfl⟩:=hcs
    simp only [if_true] at hz
    have hlen:((zs.take len).map fun n=>UInt8.ofNat n.toNat).length=len:=by simp;omega
    refine ⟨(zs.take len).map fun n=>UInt8.ofNat n.toNat,?_⟩
    simp only [R]
    refine ⟨by decide,some a,cap,by rw [u8l_len,hlen],⟨by rw [u8l_len,hlen];exact hl,fun h=>(by cases h),?_⟩,fun h=>(by cases h)⟩
    rintro _ ⟨⟩
    obtain ⟨ab,ao,spot⟩:=a
    simp only [Value.okWide,Tryz.underlying22,Cell.okWide,Cell.ok] at hval
    have hs:spot=none:=hval.2.2.2.1
    subst hs
    have lt:∀ y ∈ p,y.block < W.heap.size:=DataW.trod_lt fuel _ _ _ hf
    refine ⟨rfl,fun hne=>⟨rfl,?_⟩,rpr_bytes _ _ (fun i hi=>?_) (fun n hn=>hwz n (List.mem_of_mem_take hn))⟩
    · have hpos:0 < zs.length:=by
        rcases Nat.eq_zero_or_pos zs.length with h0 | h0
        · exfalso
          apply hne
          have:zs=[]:=List.eq_nil_of_length_eq_zero h0
          subst this
          simp [u8l]
        · exact h0
      simp only [Prod.mk.injEq] at hx
      exact lt (.cell ab (ao+0)) (by rw [hx.2];simp only [MemPlace.row,List.mem_map,List.mem_range];exact ⟨0,hpos,rfl⟩)
    · have hi2:i < zs.length:=by rw [List.length_take] at hi;omega
      have:=hcell i hi2
      rw [Addr.add_lit] at this
      rw [this]
      congr 2
      rw [List.getD_eq_getElem?_getD,List.getD_eq_getElem?_getD,List.getElem?_take_of_lt (by rw [List.length_take] at hi;omega)]
end
set_option maxRecDepth 100000 in
theorem lifted (os:Os) (started:os.Started) (H:Type) (enc:TypeId × Value→H) :
    ReturnsInHanded {} Tryz.checked os 3 .any (fun w args=>(Rows.topRollsSpec.pre enc Tryz.prog Tryz.f3 [] false w args∧laidMetH Tryz.prog Rows.topRollsRow.laid w)∧sizedMet enc Tryz.prog Tryz.f3 (OpenSpec.ofChange Rows.topRollsSpec) false w args)
      (Rows.topRollsSpec.post enc Tryz.prog Tryz.f3 false true false false):=by
  refine returnsInHanded_of_change_and (C:=Tryz.checked) (X:=fun w _=>laidMetH Tryz.prog Rows.topRollsRow.laid w) (fun _ _ _ hh h=>h.of_heap hh) (by kernel_rfl) started (by kernel_rfl) Tryz.func3
    (ChangeSpec.witness_shaped (enc:=enc) (C:=Tryz.checked) (os:=os) (X:=fun w _=>laidMetH Tryz.prog Rows.topRollsRow.laid w) false (World.laidAll Tryz.prog os Rows.topRollsRow.laid) #[.slice none 0 0,.string ⟨#[]⟩] 8 (World.laidAll_os _ _ _)
      (World.shaped_of_ZipB (by kernel_rfl) (by kernel_rfl)) (by kernel_rfl) (by kernel_rfl) (by kernel_rfl)
      (by rw [MakeChecks.laidMetH_plain _ _ _ (by kernel_rfl)];exact laidMet_laidAll _ (by kernel_rfl) (by kernel_rfl))) ?_
  intro W base args ds gs before hval0 hW _ _ hL _
  have hval:∀ (j:Nat) t v,Tryz.f3.params[j]?=some t→args[j]?=some v→Value.okWide Tryz.prog W .any base t v:=hval0
  have hW':=hW
  obtain ⟨p,q,hA0,hV,rfl,_,_⟩:=hW
  have hA:DataW.TrodAll enc Tryz.prog W 0 (fun _=>true) true Tryz.f3.params.toList args.toList ds p:=hA0
  rw [Tryz.params3] at hA hval
  obtain ⟨v0,vs0,d0,ds0,p0,q0,hargs,rfl,rfl,h0,r0⟩:=trodAll_cons hA
  obtain ⟨v1,vs1,d1,ds1,p1,q1,rfl,rfl,rfl,h1,r1⟩:=trodAll_cons r0
  obtain ⟨rfl,rfl,rfl⟩:=trodAll_nil r1
  obtain rfl:args = #[v0,v1]:=by cases args;simp_all
  obtain ⟨rfl,rfl⟩:=trodVars_none hV
  have k0:=h0
  have lt0:∀ x ∈ p0,x.block < W.heap.size:=by obtain ⟨m,hm⟩:=k0;exact DataW.trod_lt m _ _ _ hm
  have k1:=h1
  have lt1:∀ x ∈ p1,x.block < W.heap.size:=by obtain ⟨m,hm⟩:=k1;exact DataW.trod_lt m _ _ _ hm
  obtain ⟨b,hb⟩:=open_b (hval 0 22 v0 rfl rfl) h0
  obtain ⟨s,rfl⟩:=okWide_string Tryz.underlying9 (hval 1 9 v1 rfl rfl)
  refine (calls_of (v3 b s gk21) W #[v0,.string s] ⟨_,_,rfl,hb,_,_,rfl,rfl,rfl⟩).mono fun e W' ⟨he,bel⟩=>?_
  subst he
  exact ⟨_,rfl,_,_,_,[],_,[],hW',trodAll_mk1 (shut_bool Tryz.underlying4 _),(trodAll_cons_mk (Below.trod (by kernel_rfl) (by kernel_rfl) (of_decide_eq_true (by kernel_rfl)) k0 bel lt0) (trodAll_cons_mk (Below.trod (by kernel_rfl) (by kernel_rfl) (of_decide_eq_true (by kernel_rfl)) k1 bel lt1) trodAll_mk0)),rfl,bel.frame _,fun h=>by cases h⟩
theorem over:Rows.topRollsRow.holds Tryz.pinned (OpenSpec.ofChange Rows.topRollsSpec):=
  OpenClaim.holds_of_wide 3 Tryz.f3 rfl rfl rfl rfl rfl rfl rfl ⟨rfl,rfl,rfl,rfl,rfl⟩ rfl rfl rfl rfl rfl (by kernel_rfl) Tryz.func3 (by kernel_rfl)
    (of_decide_eq_true (by kernel_rfl)) (by unfold Func.isWrapper;first | (rw [if_pos (by decide +kernel)];kernel_rfl) | (rw [if_neg (by decide +kernel)];exact ⟨rfl,rfl⟩))
    (fun os started H enc _=>lifted os started H enc)
theorem card_holds:Rows.TopRollsCardSaid:=
  Claim7.holds_tied_plain_at .later [] [.data,.data,.data,.data,.sentinel,.sentinel,.pinned] true (true,"fc5a707f52dd220b636a6b121abbe52ee47024017c6c15e56edf9c8c18972ea7") true over (fun _ h=>by cases h) (by kernel_rfl) (fun _ h=>by cases h) topRolls_row_tie rfl ⟨rfl,rfl⟩ (by kernel_rfl) rfl
    (fun f fn hf hfn=>by
      obtain rfl:f=3:=Option.some.inj ((show Tryz.prog.funcNamed "epact/epacttop.TopRolls" = some 3 by kernel_rfl).symm.trans hf) |>.symm
      obtain rfl:fn=Tryz.f3:=(Option.some.inj (Tryz.func3.symm.trans hfn)).symm
      exact ⟨by kernel_rfl,fun j t ht=>by
        rw [Tryz.params3] at ht
        have hm:t ∈ [22,9]:=by simpa using Array.mem_of_getElem? ht
        have hall:([22,9].all fun u=>!Tryz.prog.wantsStandIn u)=true:=by kernel_rfl
        exact (show Tryz.prog.wantsStandIn t=false by simpa using List.all_eq_true.1 hall t hm)⟩)
    (by kernel_rfl)
#print axioms card_holds
end Go.Proofs.YtblkhnacgnlbdaaGreatDoor.TopR
