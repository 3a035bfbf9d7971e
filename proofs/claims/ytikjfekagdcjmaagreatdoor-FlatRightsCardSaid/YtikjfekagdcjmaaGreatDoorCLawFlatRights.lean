/- FlatRights (lamella/lamellalaw19.FlatRights): for every input the law returns true and leaves its input as it was; the row and its tied card. -/
import Derived.Test.YtikjfekagdcjmaaGreatDoorRows
import Derived.Test.YtikjfekagdcjmaaGreatDoorCards
import Derived.Test.YtikjfekagdcjmaaGreatDoorTie
import Derived.Test.YtikjfekagdcjmaaGreatDoorKcFlatRights
import Derived.Test.YtikjfekagdcjmaaGreatDoorKdFlatRights
import Derived.Test.YtikjfekagdcjmaaGreatDoorKeFlatRights
import Derived.WalkKit
import Derived.ProofKit
import Derived.OpenShut
import Derived.ShutString
import Derived.ChangeOld
import Derived.Below
import Derived.SizedLaws
import Derived.Deep.DeepHandedRow
import Derived.Lib.LaidTab
import Derived.SevenTiedAt
import Derived.Test.YtikjfekagdcjmaaGreatDoorCFlatRights1
import Derived.Test.YtikjfekagdcjmaaGreatDoorCFlatRights2
import Derived.Test.YtikjfekagdcjmaaGreatDoorCFlatRights26
import Derived.Test.YtikjfekagdcjmaaGreatDoorCFlatRights27
set_option linter.unusedVariables false
set_option linter.unusedSimpArgs false
set_option maxHeartbeats 16000000
set_option maxRecDepth 100000
namespace Go.Proofs.YtikjfekagdcjmaaGreatDoor.flatRights
open Go.ChangeShapes Go.WideShapes Go.ChangeAt Go.RowKit
open Go.ChangeMaps (open_string shut_string)
open Go.Proofs.YtikjfekagdcjmaaGreatDoorW.PrintWords Go.Proofs.YtikjfekagdcjmaaGreatDoorW.Rdg Go.Proofs.YtikjfekagdcjmaaGreatDoor.Q
theorem own:ownKnob Tryz.prog.godebug=none:=by kernel_rfl
theorem laidOut:laidOutB Tryz.prog=true:=by kernel_rfl
instance:Inhabited S43:=⟨z43⟩
def wf43 (x:S43):Prop:=(fun x:Int=>(Lit.int .u32 x).wf=true) x.f0∧(fun x:Int=>(Lit.int .u32 x).wf=true) x.f1∧(fun s:ByteArray=>s.size≤maxLen) x.f2∧(fun _:Bool=>True) x.f3∧(fun x:Int=>(Lit.int .u32 x).wf=true) x.f4
theorem rd43:Rd Tryz.prog 43 k43 wf43:=rd_iso (fun x:S43=>(x.f0,x.f1,x.f2,x.f3,x.f4)) (fun x=>⟨x.1,x.2.1,x.2.2.1,x.2.2.2.1,x.2.2.2.2⟩) (fun _=>rfl) (rd_struct Tryz.underlying43 (by kernel_rfl) (rdf_cons (rd_int Tryz.underlying24) rfl (by kernel_rfl) (rdf_cons (rd_int Tryz.underlying24) rfl (by kernel_rfl) (rdf_cons (rd_string Tryz.underlying9) rfl (by kernel_rfl) (rdf_cons (rd_bool Tryz.underlying4) rfl (by kernel_rfl) (rdf_last (rd_int Tryz.underlying24) rfl (by kernel_rfl)))))))
instance:Inhabited S81:=⟨z81⟩
def wf81 (x:S81):Prop:=(fun x:Int=>(Lit.int .u32 x).wf=true) x.f0∧(fun x:Int=>(Lit.int .u32 x).wf=true) x.f1∧(fun x:Int=>(Lit.int .u32 x).wf=true) x.f2∧(fun x:Int=>(Lit.int .u32 x).wf=true) x.f3∧(fun x:Int=>(Lit.int .u32 x).wf=true) x.f4
theorem rd81:Rd Tryz.prog 81 k81 wf81:=rd_iso (fun x:S81=>(x.f0,x.f1,x.f2,x.f3,x.f4)) (fun x=>⟨x.1,x.2.1,x.2.2.1,x.2.2.2.1,x.2.2.2.2⟩) (fun _=>rfl) (rd_struct Tryz.underlying81 (by kernel_rfl) (rdf_cons (rd_int Tryz.underlying24) rfl (by kernel_rfl) (rdf_cons (rd_int Tryz.underlying24) rfl (by kernel_rfl) (rdf_cons (rd_int Tryz.underlying24) rfl (by kernel_rfl) (rdf_cons (rd_int Tryz.underlying24) rfl (by kernel_rfl) (rdf_last (rd_int Tryz.underlying24) rfl (by kernel_rfl)))))))
instance:Inhabited S87:=⟨z87⟩
def wf87 (x:S87):Prop:=(fun x:Int=>(Lit.int .u32 x).wf=true) x.f0∧(fun s:ByteArray=>s.size≤maxLen) x.f1
theorem rd87:Rd Tryz.prog 87 k87 wf87:=rd_iso (fun x:S87=>(x.f0,x.f1)) (fun x=>⟨x.1,x.2⟩) (fun _=>rfl) (rd_struct Tryz.underlying87 (by kernel_rfl) (rdf_cons (rd_int Tryz.underlying24) rfl (by kernel_rfl) (rdf_last (rd_string Tryz.underlying9) rfl (by kernel_rfl))))
theorem contract (H:Type) (enc:TypeId×Value→H) (W:World) (base:Nat) (args:Array Value) (ds gs:List (DataW H)) (before:List MemPlace)
  (hval0 : ∀ (j:Nat) t v,Tryz.f10.params[j]?=some t→args[j]?=some v→Value.okWide Tryz.prog W .any base t v)
  (hW:DataW.Whole enc Tryz.prog Tryz.f10.params.toList Rows.flatRightsSpec.vars false W args.toList ds gs before) :
  Calls Tryz.prog 10 args W fun e W'=>∃ v,e=.returned v∧Rows.flatRightsSpec.post enc Tryz.prog Tryz.f10 false true false false W args v W':=by
 have hval:=hval0;have hW':=hW;obtain ⟨p,q,hA0,hV,rfl,hfz,hnd⟩:=hW;have hA:DataW.TrodAll enc Tryz.prog W 0 (fun _=>true) true Tryz.f10.params.toList args.toList ds p:=hA0;rw [Tryz.params10] at hA hval;obtain ⟨v0,vs0,d0,ds0,p0,q0,hargs,rfl,rfl,h0,r0⟩:=trodAll_cons hA;obtain ⟨v1,vs1,d1,ds1,p1,q1,rfl,rfl,rfl,h1,r1⟩:=trodAll_cons r0;obtain ⟨v2,vs2,d2,ds2,p2,q2,rfl,rfl,rfl,h2,r2⟩:=trodAll_cons r1;obtain ⟨rfl,rfl,rfl⟩:=trodAll_nil r2;obtain rfl:args=#[v0,v1,v2]:=by cases args;simp_all
 obtain ⟨rfl,rfl⟩:=trodVars_none hV;obtain ⟨cs0,rfl,hz0⟩:=okWide_struct Tryz.underlying67 (hval 0 67 v0 rfl rfl);have k0_:=h0;have lt0 : ∀ x∈p0,x.block<W.heap.size:=by obtain ⟨m,hm⟩:=k0_;exact DataW.trod_lt m _ _ _ hm
 obtain ⟨a0_0,A0_1,c0_1,l0_1,A0_2,c0_2,l0_2,A0_3,c0_3,l0_3,rfl,⟨hc0_1,hr0_1⟩,⟨hc0_2,hr0_2⟩,⟨hc0_3,hr0_3⟩,hwf0⟩ : ∃ (a0_0:Int) (A0_1:Option Addr) (c0_1:Nat) (l0_1:List (S43)) (A0_2:Option Addr) (c0_2:Nat) (l0_2:List (S81)) (A0_3:Option Addr) (c0_3:Nat) (l0_3:List (S87)),cs0=#[.int .u32 a0_0,.slice A0_1 l0_1.length c0_1,.slice A0_2 l0_2.length c0_2,.slice A0_3 l0_3.length c0_3]∧(l0_1.length≤c0_1∧Kd.C k43 W A0_1 l0_1.length l0_1)∧(l0_2.length≤c0_2∧Kd.C k81 W A0_2 l0_2.length l0_2)∧(l0_3.length≤c0_3∧Kd.C k87 W A0_3 l0_3.length l0_3)∧(fun x:Int=>(Lit.int .u32 x).wf=true) a0_0∧(fun xs:List (S43)=>xs.length≤maxLen∧∀ x∈xs,wf43 x) l0_1∧(fun xs:List (S81)=>xs.length≤maxLen∧∀ x∈xs,wf81 x) l0_2∧(fun xs:List (S87)=>xs.length≤maxLen∧∀ x∈xs,wf87 x) l0_3:=by
  obtain ⟨fuel,hf⟩:=h0;obtain ⟨⟨x0,x1,x2,x3⟩,hK,hw⟩:=(rd_struct Tryz.underlying67 (by kernel_rfl) (rdf_cons (rd_int Tryz.underlying24) rfl (by kernel_rfl) (rdf_cons (rd_slice Tryz.underlying25 (by kernel_rfl) rd43) rfl (by kernel_rfl) (rdf_cons (rd_slice Tryz.underlying26 (by kernel_rfl) rd81) rfl (by kernel_rfl) (rdf_last (rd_slice Tryz.underlying65 (by kernel_rfl) rd87) rfl (by kernel_rfl)))))) _ _ _ _ _ _ hf
  obtain ⟨_,_,hcs,rfl,_,_,rfl,⟨B1,d1,rfl,hl1,hC1⟩,_,_,rfl,⟨B2,d2,rfl,hl2,hC2⟩,⟨B3,d3,rfl,hl3,hC3⟩⟩:=hK;exact ⟨x0,B1,d1,x1,B2,d2,x2,B3,d3,x3,Array.toList_inj.1 (by simpa [Value.cells] using hcs),⟨hl1,hC1⟩,⟨hl2,hC2⟩,⟨hl3,hC3⟩,hw⟩
 obtain ⟨cs1,rfl,hz1⟩:=okWide_struct Tryz.underlying67 (hval 1 67 v1 rfl rfl);have k1_:=h1;have lt1 : ∀ x∈p1,x.block<W.heap.size:=by obtain ⟨m,hm⟩:=k1_;exact DataW.trod_lt m _ _ _ hm
 obtain ⟨a1_0,A1_1,c1_1,l1_1,A1_2,c1_2,l1_2,A1_3,c1_3,l1_3,rfl,⟨hc1_1,hr1_1⟩,⟨hc1_2,hr1_2⟩,⟨hc1_3,hr1_3⟩,hwf1⟩ : ∃ (a1_0:Int) (A1_1:Option Addr) (c1_1:Nat) (l1_1:List (S43)) (A1_2:Option Addr) (c1_2:Nat) (l1_2:List (S81)) (A1_3:Option Addr) (c1_3:Nat) (l1_3:List (S87)),cs1=#[.int .u32 a1_0,.slice A1_1 l1_1.length c1_1,.slice A1_2 l1_2.length c1_2,.slice A1_3 l1_3.length c1_3]∧(l1_1.length≤c1_1∧Kd.C k43 W A1_1 l1_1.length l1_1)∧(l1_2.length≤c1_2∧Kd.C k81 W A1_2 l1_2.length l1_2)∧(l1_3.length≤c1_3∧Kd.C k87 W A1_3 l1_3.length l1_3)∧(fun x:Int=>(Lit.int .u32 x).wf=true) a1_0∧(fun xs:List (S43)=>xs.length≤maxLen∧∀ x∈xs,wf43 x) l1_1∧(fun xs:List (S81)=>xs.length≤maxLen∧∀ x∈xs,wf81 x) l1_2∧(fun xs:List (S87)=>xs.length≤maxLen∧∀ x∈xs,wf87 x) l1_3:=by
  obtain ⟨fuel,hf⟩:=h1;obtain ⟨⟨x0,x1,x2,x3⟩,hK,hw⟩:=(rd_struct Tryz.underlying67 (by kernel_rfl) (rdf_cons (rd_int Tryz.underlying24) rfl (by kernel_rfl) (rdf_cons (rd_slice Tryz.underlying25 (by kernel_rfl) rd43) rfl (by kernel_rfl) (rdf_cons (rd_slice Tryz.underlying26 (by kernel_rfl) rd81) rfl (by kernel_rfl) (rdf_last (rd_slice Tryz.underlying65 (by kernel_rfl) rd87) rfl (by kernel_rfl)))))) _ _ _ _ _ _ hf
  obtain ⟨_,_,hcs,rfl,_,_,rfl,⟨B1,d1,rfl,hl1,hC1⟩,_,_,rfl,⟨B2,d2,rfl,hl2,hC2⟩,⟨B3,d3,rfl,hl3,hC3⟩⟩:=hK;exact ⟨x0,B1,d1,x1,B2,d2,x2,B3,d3,x3,Array.toList_inj.1 (by simpa [Value.cells] using hcs),⟨hl1,hC1⟩,⟨hl2,hC2⟩,⟨hl3,hC3⟩,hw⟩
 obtain ⟨a2,rfl,rfl,rfl,y2⟩:=open_string Tryz.underlying9 (hval 2 9 v2 rfl rfl) h2;clear hA0 hval0;obtain ⟨k,hk⟩:=Pure.FlatRights a0_0 l0_1 l0_2 l0_3 a1_0 l1_1 l1_2 l1_3 a2 hwf0 hwf1 y2;refine (w19_FlatRights.calls k a0_0 _ _ l0_1 _ _ l0_2 _ _ l0_3 a1_0 _ _ l1_1 _ _ l1_2 _ _ l1_3 a2 true W hr0_1 hc0_1 hr0_2 hc0_2 hr0_3 hc0_3 hr1_1 hc1_1 hr1_2 hc1_2 hr1_3 hc1_3 hk).mono fun e W' ⟨he,bel0⟩=>?_;have bel:Below W.heap.size W W':=by first|exact bel0|exact bel0.below
 subst he;exact ⟨_,rfl,_,_,_,[],_,[],hW',trodAll_mk1 (shut_bool Tryz.underlying4 _),(trodAll_cons_mk (Below.trod laidOut (by kernel_rfl) (of_decide_eq_true (by kernel_rfl)) k0_ bel lt0) (trodAll_cons_mk (Below.trod laidOut (by kernel_rfl) (of_decide_eq_true (by kernel_rfl)) k1_ bel lt1) (trodAll_cons_mk (shut_string Tryz.underlying9 y2) trodAll_mk0))),rfl,bel.frame _,fun h=>by cases h⟩
def flatD:Nat→DataW Unit→List Value
 | 0,_=>[]
 | m+1,.lit (.int k v)=>[.int k v]
 | m+1,.lit (.bool b)=>[.bool b]
 | m+1,.agg ds=>ds.flatMap (flatD m)
 | _+1,_=>[]
noncomputable def laidWorld (os:Os):World :=
 { World.holding Tryz.prog os ⟨#[],#[],[]⟩ with heap:=(((World.holding Tryz.prog os ⟨#[],#[],[]⟩).heap.modify 2 fun|.cells _ t fr=>.cells (flatD 8 Rows.laid_unicode_utf8_acceptRanges).toArray t fr|o=>o).modify 1 fun|.cells _ t fr=>.cells (flatD 8 Rows.laid_unicode_utf8_first).toArray t fr|o=>o) }
theorem laid_met (os:Os):laidMet Tryz.prog Rows.flatRightsRow.laid ((laidWorld os).forCall (fun _ _=>0) ⟨#[],#[.agg #[.int .u32 0,.slice none 0 0,.slice none 0 0,.slice none 0 0],.agg #[.int .u32 0,.slice none 0 0,.slice none 0 0,.slice none 0 0],.string ByteArray.empty],[]⟩).memory:=laidMet_of_run' 8 (by kernel_rfl) (by kernel_rfl)
theorem reads (os:Os) {H:Type} (enc:TypeId×Value→H) : ∃ places,DataW.whole enc Tryz.prog ((laidWorld os).forCall (fun _ _=>0) ⟨#[],#[.agg #[.int .u32 0,.slice none 0 0,.slice none 0 0,.slice none 0 0],.agg #[.int .u32 0,.slice none 0 0,.slice none 0 0,.slice none 0 0],.string ByteArray.empty],[]⟩).memory Tryz.f10.params.toList Rows.flatRightsSpec.vars false (#[.agg #[.int .u32 0,.slice none 0 0,.slice none 0 0,.slice none 0 0],.agg #[.int .u32 0,.slice none 0 0,.slice none 0 0,.slice none 0 0],.string ByteArray.empty]:Array Value).toList 8=some ([.agg [.lit (.int .u32 0),.nil,.nil,.nil],.agg [.lit (.int .u32 0),.nil,.nil,.nil],.lit (.string [])],[],places) :=
 ⟨[],by kernel_rfl⟩
theorem lifted (os:Os) (started:os.Started) (H:Type) (enc:TypeId×Value→H) (F:Stop.Interp) :
  ReturnsInHanded {} Tryz.checked os 10 .any ((OpenSpec.ofChange Rows.flatRightsSpec).preRow enc Tryz.prog Tryz.f10 Rows.flatRightsRow.domain false Rows.flatRightsRow.laid) (((OpenSpec.ofChange Rows.flatRightsSpec).at F).post enc Tryz.prog Tryz.f10 false true false false):=by
 obtain ⟨places,hx⟩:=reads os enc;refine returnsInHanded_of_row (C:=Tryz.checked) (s:=OpenSpec.ofChange Rows.flatRightsSpec) own started (by kernel_rfl) Tryz.func10
  (witness_row_at (enc:=enc) (C:=Tryz.checked) false (laidWorld os) #[.agg #[.int .u32 0,.slice none 0 0,.slice none 0 0,.slice none 0 0],.agg #[.int .u32 0,.slice none 0 0,.slice none 0 0,.slice none 0 0],.string ByteArray.empty] rfl (by kernel_rfl) (by kernel_rfl) (by kernel_rfl)
   (OpenSpec.preRow_of_cond 8 hx (by kernel_rfl) (fun k hk=>by cases hk) (by kernel_rfl) (laid_met os))) ?_
 intro W base args ds gs before hval hW _ _ _ hL _ _;exact contract H enc W base args ds gs before hval hW
theorem said:Rows.FlatRightsSaid :=
 OpenClaim.holds_of_cond 10 Tryz.f10 rfl rfl rfl rfl rfl rfl rfl ⟨rfl,rfl,rfl,rfl,rfl⟩ rfl rfl rfl rfl rfl a5 Tryz.func10 closed
  (of_decide_eq_true (by kernel_rfl)) (by unfold Func.isWrapper;first|(rw [if_pos (by decide +kernel)];kernel_rfl)|(rw [if_neg (by decide +kernel)];exact ⟨rfl,rfl⟩))
  (fun os started H enc _ F=>by rw [OpenClaim.pre_eq_preRow];exact lifted os started H enc F)
theorem plain (f : FuncId) (fn : Func) (hf : Tryz.pinned.checked.prog.funcNamed "lamella/lamellalaw19.FlatRights" = some f) (hfn : Tryz.pinned.checked.prog.funcs[f]? = some fn) :
  false=Tryz.pinned.checked.prog.looks []∧∀ (j:Nat) t,fn.params[j]?=some t→Tryz.pinned.checked.prog.wantsStandIn t=false:=by
 obtain rfl:f=10:=Option.some.inj (a5.symm.trans hf) |>.symm
 obtain rfl:fn=Tryz.f10:=(Option.some.inj (Tryz.func10.symm.trans hfn)).symm;refine ⟨a4,fun j t ht=>?_⟩;rw [Tryz.params10] at ht;have hm:t∈[67,67,9]:=by simpa using Array.mem_of_getElem? ht
 have hall:([67,67,9].all fun u=>!Tryz.prog.wantsStandIn u)=true:=by kernel_rfl
 exact (show Tryz.prog.wantsStandIn t=false by simpa using List.all_eq_true.1 hall t hm)
theorem card:Rows.FlatRightsCardSaid :=
 Claim7.holds_tied_plain_at .later [] _ _ _ _ said (fun _ h=>by cases h) (by kernel_rfl) (fun _ h=>by cases h) flatRights_row_tie rfl ⟨rfl,rfl⟩ a2 rfl plain a3
end Go.Proofs.YtikjfekagdcjmaaGreatDoor.flatRights
namespace Go.Proofs.YtikjfekagdcjmaaGreatDoor
theorem flatRights_holds:Rows.FlatRightsCardSaid:=flatRights.card
#print axioms flatRights_holds
end Go.Proofs.YtikjfekagdcjmaaGreatDoor
