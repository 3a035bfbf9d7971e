/- Contracts and plain theory behind FlatRights. -/
import Derived.Test.YtikjfekagdcjmaaGreatDoorCFlatRights2
import Derived.Test.YtikjfekagdcjmaaGreatDoorCFlatRights3
import Derived.Test.YtikjfekagdcjmaaGreatDoorCFlatRights7
import Derived.Test.YtikjfekagdcjmaaGreatDoorCFlatRights10
import Derived.Test.YtikjfekagdcjmaaGreatDoorCFlatRights13
import Derived.Test.YtikjfekagdcjmaaGreatDoorCFlatRights15
import Derived.Test.YtikjfekagdcjmaaGreatDoorCFlatRights16
import Derived.Test.YtikjfekagdcjmaaGreatDoorCFlatRights17
import Derived.Test.YtikjfekagdcjmaaGreatDoorCFlatRights25
set_option linter.unusedVariables false
set_option linter.unusedSimpArgs false
set_option maxHeartbeats 16000000
set_option maxRecDepth 100000
namespace Go.Proofs.YtikjfekagdcjmaaGreatDoor.Q
open Go.RowKit Go.Proofs.YtikjfekagdcjmaaGreatDoorW.PrintWords Go.Proofs.YtikjfekagdcjmaaGreatDoorW.PrintLast Go.Proofs.YtikjfekagdcjmaaGreatDoorW.PrintMore
section
attribute [local go_sem] max2_int min2_int max_two min_two max_three min_three max_four min_four
mutual
def w19_FlatRights.j0:Nat→ByteArray→Bool→Int→List (S43)→List (S81)→List (S87)→Int→List (S43)→List (S81)→List (S87)→Option (Bool)
 | 0,_,_,_,_,_,_,_,_,_,_=>none
 | k+1,x2,x24,x872000,x872001,x872002,x872003,x873000,x873001,x873002,x873003=>if x24=true then ((w19_alive.f).bind fun t876=>(some t876)) else ((r19_Right.f k x872000 x872001 x872002 x872003).bind fun t877=>((flat_At.f k x872000 x872001 x872002 x872003 x2).bind fun bt878=>((w19_alive.f).bind fun t880=>(if t880=true then ((flat_Right.f k x872000 x872001 x872002 x872003).bind fun t881=>(if (t881 != t877)=true then (w19_FlatRights.j1 k x2 t877 bt878.1 bt878.2 true x872000 x872001 x872002 x872003) else ((flat_Same.f k x872000 x872001 x872002 x872003 x873000 x873001 x873002 x873003).bind fun t882=>((r19_Same.f k x872000 x872001 x872002 x872003 x873000 x873001 x873002 x873003).bind fun t883=>(if (t882 != t883)=true then (w19_FlatRights.j1 k x2 t877 bt878.1 bt878.2 true x872000 x872001 x872002 x872003) else ((flat_Fresh.f).bind fun bt884=>((r19_Fresh.f).bind fun bt894=>((r19_Same.f k bt884.1 bt884.2.1 bt884.2.2.1 bt884.2.2.2 bt894.1 bt894.2.1 bt894.2.2.1 bt894.2.2.2).bind fun t904=>(w19_FlatRights.j1 k x2 t877 bt878.1 bt878.2 (!t904) x872000 x872001 x872002 x872003))))))))) else (w19_FlatRights.j1 k x2 t877 bt878.1 bt878.2 true x872000 x872001 x872002 x872003)))))
def w19_FlatRights.j1:Nat→ByteArray→Bool→ByteArray→Int→Bool→Int→List (S43)→List (S81)→List (S87)→Option (Bool)
 | 0,_,_,_,_,_,_,_,_,_=>none
 | k+1,x2,x7,x8,x9,x56,x872000,x872001,x872002,x872003=>if x56=true then (some false) else (if x7=true then ((r10_Find.f k x872001 x2).bind fun bt905=>(if bt905.2=0 then (if 0≤bt905.1 then (if bt905.1<(x872001.length:Int) then (if (rd_T43 x872001 bt905.1).f3=true then (if x8.toList=([]:List UInt8) then (some (x9 == 11)) else (some false)) else (if x9=0 then ((r19_Body.f k x872000 x872001 x872002 x872003 ((rd_T43 x872001 bt905.1).f0)).bind fun t909=>(if 0≤t909 then (if t909<(x872003.length:Int) then (some (x8.toList == ((rd_T87 x872003 t909).f1).toList)) else (none)) else (none))) else (some false))) else (none)) else (none)) else (if x8.toList=([]:List UInt8) then (some (x9 == bt905.2)) else (some false)))) else (if x8.toList=([]:List UInt8) then (some (x9 == 1)) else (some false)))
end
def w19_FlatRights.f (k:Nat) (a0_0:Int) (l0_1:List (S43)) (l0_2:List (S81)) (l0_3:List (S87)) (a1_0:Int) (l1_1:List (S43)) (l1_2:List (S81)) (l1_3:List (S87)) (a2:ByteArray):Option (Bool):=(w19_alive.f).bind fun t873=>(if t873=true then ((r19_Great.f k a0_0 l0_1 l0_2 l0_3).bind fun t874=>(if t874=true then (w19_FlatRights.j0 k a2 true a0_0 l0_1 l0_2 l0_3 a1_0 l1_1 l1_2 l1_3) else ((r19_Great.f k a1_0 l1_1 l1_2 l1_3).bind fun t875=>(if t875=true then (w19_FlatRights.j0 k a2 true a0_0 l0_1 l0_2 l0_3 a1_0 l1_1 l1_2 l1_3) else (w19_FlatRights.j0 k a2 (decide ((a2.size:Int)>500)) a0_0 l0_1 l0_2 l0_3 a1_0 l1_1 l1_2 l1_3))))) else (some false))
def w19_FlatRights.T7:Bool×List (List Nat×List Nat):=(true,[([],[]),([0],[0]),([1,0],[1]),([2],[2]),([3,2,2],[2,3]),([2],[2]),([4,5,2],[2,4,5]),([2,6],[2,6]),([7,4],[7]),([8],[8]),([8],[8]),([9,10,8,8],[8,9,10]),([8],[8]),([8],[8]),([12,13,11,8],[8,12,13]),([11,14,8],[8,11,14]),([8,15],[8,15]),([16,14],[16]),([17,17],[17]),([18,17],[17]),([18,19,19,17],[17,18,19]),([20,17],[17,20]),([17,21],[17,21])])
def w19_FlatRights.B7:List Nat:=[0,1,3,7,15,7,63,127,255,511,511,2047,511,511,16383,32767,65535,131071,262143,524287,1048575,2097151,4194303]
theorem w19_FlatRights.tab7:rtab .any (opsOf Tryz.f10 7)=w19_FlatRights.T7:=by kernel_rfl
theorem w19_FlatRights.bits7:waitsOk w19_FlatRights.T7.2 w19_FlatRights.B7=true:=by kernel_rfl
def w19_FlatRights.T16:Bool×List (List Nat×List Nat):=(true,[([],[]),([0],[0]),([1],[1]),([2],[2]),([2],[2]),([4,2],[2,4]),([2],[2]),([2],[2]),([7,2],[2,7]),([2],[2]),([8,9,2],[2,8,9]),([10,2],[2,10]),([11,2],[2,11]),([6,12,2,2],[2,6,12]),([5,13,2],[2,5,13]),([14,2],[2,14]),([15,2],[2,15]),([3,16,2],[2,3,16]),([2,17],[2,17]),([18,13,0,1,2,3,4,5,6,7,8,9,10,11,12,13,14,15,16,17,18],[18])])
def w19_FlatRights.B16:List Nat:=[0,1,3,7,7,23,7,7,135,7,903,1927,3975,8135,16375,32759,65527,131071,262143,524287]
theorem w19_FlatRights.tab16:rtab .any (opsOf Tryz.f10 16)=w19_FlatRights.T16:=by kernel_rfl
theorem w19_FlatRights.bits16:waitsOk w19_FlatRights.T16.2 w19_FlatRights.B16=true:=by kernel_rfl
theorem w19_FlatRights.calls (k:Nat) (a0_0:Int) (A0_1:Option Addr) (c0_1:Nat) (l0_1:List (S43)) (A0_2:Option Addr) (c0_2:Nat) (l0_2:List (S81)) (A0_3:Option Addr) (c0_3:Nat) (l0_3:List (S87)) (a1_0:Int) (A1_1:Option Addr) (c1_1:Nat) (l1_1:List (S43)) (A1_2:Option Addr) (c1_2:Nat) (l1_2:List (S81)) (A1_3:Option Addr) (c1_3:Nat) (l1_3:List (S87)) (a2:ByteArray) (r:Bool) (w:World) (hr0_1:Kd.C k43 w A0_1 l0_1.length l0_1) (hc0_1:l0_1.length≤c0_1) (hr0_2:Kd.C k81 w A0_2 l0_2.length l0_2) (hc0_2:l0_2.length≤c0_2) (hr0_3:Kd.C k87 w A0_3 l0_3.length l0_3) (hc0_3:l0_3.length≤c0_3) (hr1_1:Kd.C k43 w A1_1 l1_1.length l1_1) (hc1_1:l1_1.length≤c1_1) (hr1_2:Kd.C k81 w A1_2 l1_2.length l1_2) (hc1_2:l1_2.length≤c1_2) (hr1_3:Kd.C k87 w A1_3 l1_3.length l1_3) (hc1_3:l1_3.length≤c1_3) (h:w19_FlatRights.f k a0_0 l0_1 l0_2 l0_3 a1_0 l1_1 l1_2 l1_3 a2=some r) :
  Calls Tryz.prog 10 #[.agg #[.int .u32 a0_0,.slice A0_1 l0_1.length c0_1,.slice A0_2 l0_2.length c0_2,.slice A0_3 l0_3.length c0_3],.agg #[.int .u32 a1_0,.slice A1_1 l1_1.length c1_1,.slice A1_2 l1_2.length c1_2,.slice A1_3 l1_3.length c1_3],.string a2] w fun e w'=>e=.returned (.bool r)∧Below w.heap.size w w':=by
 have hu67:=Tryz.underlying67;have HR0_1:=Aside0.mk hr0_1;have HC0_1:=Aside0.mk hc0_1;clear hr0_1 hc0_1;have HR0_2:=Aside0.mk hr0_2;have HC0_2:=Aside0.mk hc0_2;clear hr0_2 hc0_2;have HR0_3:=Aside0.mk hr0_3;have HC0_3:=Aside0.mk hc0_3;clear hr0_3 hc0_3;have HR1_1:=Aside0.mk hr1_1;have HC1_1:=Aside0.mk hc1_1;clear hr1_1 hc1_1;have HR1_2:=Aside0.mk hr1_2;have HC1_2:=Aside0.mk hc1_2;clear hr1_2 hc1_2;have HR1_3:=Aside0.mk hr1_3;have HC1_3:=Aside0.mk hc1_3;clear hr1_3 hc1_3;have HB:=Aside0.mk (Below.refl w.heap.size w);have H:((w19_alive.f).bind fun t873=>(if t873=true then ((r19_Great.f k a0_0 l0_1 l0_2 l0_3).bind fun t874=>(if t874=true then (w19_FlatRights.j0 k a2 true a0_0 l0_1 l0_2 l0_3 a1_0 l1_1 l1_2 l1_3) else ((r19_Great.f k a1_0 l1_1 l1_2 l1_3).bind fun t875=>(if t875=true then (w19_FlatRights.j0 k a2 true a0_0 l0_1 l0_2 l0_3 a1_0 l1_1 l1_2 l1_3) else (w19_FlatRights.j0 k a2 (decide ((a2.size:Int)>500)) a0_0 l0_1 l0_2 l0_3 a1_0 l1_1 l1_2 l1_3))))) else (some false)))=some r:=h
 clear h;replace H:=Option.bind_eq_some_iff.mp H;obtain ⟨t873,A40,H⟩:=H;replace H:(if t873=true then ((r19_Great.f k a0_0 l0_1 l0_2 l0_3).bind fun t874=>(if t874=true then (w19_FlatRights.j0 k a2 true a0_0 l0_1 l0_2 l0_3 a1_0 l1_1 l1_2 l1_3) else ((r19_Great.f k a1_0 l1_1 l1_2 l1_3).bind fun t875=>(if t875=true then (w19_FlatRights.j0 k a2 true a0_0 l0_1 l0_2 l0_3 a1_0 l1_1 l1_2 l1_3) else (w19_FlatRights.j0 k a2 (decide ((a2.size:Int)>500)) a0_0 l0_1 l0_2 l0_3 a1_0 l1_1 l1_2 l1_3))))) else (some false))=some r:=H
 have A4:=Aside0.mk A40;clear A40;by_cases c5:t873=true
 ·subst c5;replace H:=ifTT H;have HC6:=Aside0.mk H;clear H;go_enter Tryz.func10,Tryz.ntmps10;go_upto_region 3 with (first|((with_reducible refine gate_dst (N:=3) rfl ?_);(try (refine gate_guard (by rfl) ?_;dsimp only));refine bx 3 #[.int .u32 a0_0,.slice A0_1 l0_1.length c0_1,.slice A0_2 l0_2.length c0_2,.slice A0_3 l0_3.length c0_3] 67 ?_;intro gb871 hg w7 hbox hb;have BK871:=Aside0.mk (hbox);have GW871:=Aside0.mk ((gG hg:w.heap.size≤gb871));have GE871:=Aside0.mk ((gG hg:w.heap.size≤gb871));replace HB:=Aside0.mk (below_step bD hb);clear hb hbox hg)|((with_reducible refine gate_dst (N:=4) rfl ?_);(try (refine gate_guard (by rfl) ?_;dsimp only));refine bx 4 #[.int .u32 a1_0,.slice A1_1 l1_1.length c1_1,.slice A1_2 l1_2.length c1_2,.slice A1_3 l1_3.length c1_3] 67 ?_;intro gb872 hg w8 hbox hb;have n0_:=Aside0.mk (kb BK871 hb);have n1_:=Aside0.mk (below_step bD hb);have n2_:=Aside0.mk (hbox);have n3_:=Aside0.mk ((gG hg:w.heap.size≤gb872));have n4_:=Aside0.mk ((gG hg:w.heap.size≤gb872));have n5_:=Aside0.mk ((gN BK871 hg));have n6_:=Aside0.mk ((gN' BK871 hg));clear BK871;clear HB;have BK871:=n0_;have HB:=n1_;have BK872:=n2_;have GW872:=n3_;have GE872:=n4_;have NB871_872:=n5_;have NB872_871:=n6_;clear n0_ n1_ n2_ n3_ n4_ n5_ n6_;clear hb hbox hg)|((with_reducible refine gate_callee (f:=28) rfl ?_);refine ca (some 12) Tryz.func28 #[] ?_;(with_reducible refine (w19_alive.calls  true _ A4.out).mono ?_);rintro e w9 ⟨rfl,hb⟩;refine ⟨_,rfl,?_⟩;replace BK871:=Aside0.mk (kb BK871 hb);replace BK872:=Aside0.mk (kb BK872 hb);replace HB:=Aside0.mk (below_step bD hb);(try clear hb);(try clear hb2);(try clear hk);(try clear hi)))
  (try simp only [Act.put,List.setIfInBounds_toArray,List.set_cons_zero,List.set_cons_succ])
  go_cut [24] (fun v24 wc=>∃ (kq:Nat) (x24_5:Bool),v24=.bool x24_5∧Aside0 (w19_FlatRights.j0 kq a2 x24_5 a0_0 l0_1 l0_2 l0_3 a1_0 l1_1 l1_2 l1_3=some r)∧Aside0 (kq≤k)∧Aside0 (wc.heap[gb871]?=some (.cells #[.int .u32 a0_0,(.slice A0_1 l0_1.length c0_1),(.slice A0_2 l0_2.length c0_2),(.slice A0_3 l0_3.length c0_3)] 67 (0,0)))∧Aside0 (wc.heap[gb872]?=some (.cells #[.int .u32 a1_0,(.slice A1_1 l1_1.length c1_1),(.slice A1_2 l1_2.length c1_2),(.slice A1_3 l1_3.length c1_3)] 67 (0,0)))∧Aside0 (Below w.heap.size w wc))
  case first =>
   have H:=HC6.out;clear HC6;replace H:=Option.bind_eq_some_iff.mp H;obtain ⟨t874,A100,H⟩:=H;replace H:(if t874=true then (w19_FlatRights.j0 k a2 true a0_0 l0_1 l0_2 l0_3 a1_0 l1_1 l1_2 l1_3) else ((r19_Great.f k a1_0 l1_1 l1_2 l1_3).bind fun t875=>(if t875=true then (w19_FlatRights.j0 k a2 true a0_0 l0_1 l0_2 l0_3 a1_0 l1_1 l1_2 l1_3) else (w19_FlatRights.j0 k a2 (decide ((a2.size:Int)>500)) a0_0 l0_1 l0_2 l0_3 a1_0 l1_1 l1_2 l1_3))))=some r:=H
   have A10:=Aside0.mk A100;clear A100;by_cases c11:t874=true
   ·subst c11;replace H:=ifTT H;have H':=Aside0.mk H;clear H;have hnb12:=NB871_872.out;have hnc12:=NB872_871.out;obtain ⟨hcz13_0,hcz13_1,hcz13_2,hcz13_3⟩:=cc4 BK871.out;obtain ⟨hfz13_0,hfz13_1,hfz13_2,hfz13_3⟩:=ff4 BK871.out;go_wp2_with (first|((with_reducible refine gate_callee (f:=29) rfl ?_);refine ca (some 15) Tryz.func29 #[.agg #[.int .u32 a0_0,.slice A0_1 l0_1.length c0_1,.slice A0_2 l0_2.length c0_2,.slice A0_3 l0_3.length c0_3]] ?_;(with_reducible refine (r19_Great.calls k a0_0 _ _ l0_1 _ _ l0_2 _ _ l0_3 true _ ?side1 ?side2 ?side3 ?side4 ?side5 ?side6 A10.out).mono ?_);(case side1=>exact cD);(case side2=>exact HC0_1.out);(case side3=>exact cD);(case side4=>exact HC0_2.out);(case side5=>exact cD);(case side6=>exact HC0_3.out);rintro e w14 ⟨rfl,hb⟩;refine ⟨_,rfl,?_⟩;replace BK871:=Aside0.mk (kb BK871 hb);replace BK872:=Aside0.mk (kb BK872 hb);replace HB:=Aside0.mk (below_step bD hb);(try clear hb);(try clear hb2);(try clear hk);(try clear hi)))
    go_meet
    case rel=>exact ⟨_,(true),eS,H',⟨by first|omega|exact Nat.le_refl _⟩,⟨kD⟩,⟨kD⟩,⟨bD⟩⟩
   ·replace c11:=Bool.eq_false_iff.mpr c11;subst c11;replace H:=ifFF H;replace H:=Option.bind_eq_some_iff.mp H;obtain ⟨t875,A150,H⟩:=H;replace H:(if t875=true then (w19_FlatRights.j0 k a2 true a0_0 l0_1 l0_2 l0_3 a1_0 l1_1 l1_2 l1_3) else (w19_FlatRights.j0 k a2 (decide ((a2.size:Int)>500)) a0_0 l0_1 l0_2 l0_3 a1_0 l1_1 l1_2 l1_3))=some r:=H
    have A15:=Aside0.mk A150;clear A150;by_cases c16:t875=true
    ·subst c16;replace H:=ifTT H;have H':=Aside0.mk H;clear H;have hnb17:=NB871_872.out;have hnc17:=NB872_871.out;obtain ⟨hcz18_0,hcz18_1,hcz18_2,hcz18_3⟩:=cc4 BK871.out;obtain ⟨hfz18_0,hfz18_1,hfz18_2,hfz18_3⟩:=ff4 BK871.out;go_wp2_with (first|((with_reducible refine gate_callee (f:=29) rfl ?_);refine ca (some 15) Tryz.func29 #[.agg #[.int .u32 a0_0,.slice A0_1 l0_1.length c0_1,.slice A0_2 l0_2.length c0_2,.slice A0_3 l0_3.length c0_3]] ?_;(with_reducible refine (r19_Great.calls k a0_0 _ _ l0_1 _ _ l0_2 _ _ l0_3 false _ ?side1 ?side2 ?side3 ?side4 ?side5 ?side6 A10.out).mono ?_);(case side1=>exact cD);(case side2=>exact HC0_1.out);(case side3=>exact cD);(case side4=>exact HC0_2.out);(case side5=>exact cD);(case side6=>exact HC0_3.out);rintro e w19 ⟨rfl,hb⟩;refine ⟨_,rfl,?_⟩;replace BK871:=Aside0.mk (kb BK871 hb);replace BK872:=Aside0.mk (kb BK872 hb);replace HB:=Aside0.mk (below_step bD hb);(try clear hb);(try clear hb2);(try clear hk);(try clear hi);obtain ⟨hcz20_0,hcz20_1,hcz20_2,hcz20_3⟩:=cc4 BK872.out;obtain ⟨hfz20_0,hfz20_1,hfz20_2,hfz20_3⟩:=ff4 BK872.out)|(go_at_call 29;(with_reducible refine (r19_Great.calls k a1_0 _ _ l1_1 _ _ l1_2 _ _ l1_3 true _ ?side1 ?side2 ?side3 ?side4 ?side5 ?side6 A15.out).mono ?_);(case side1=>exact cD);(case side2=>exact HC1_1.out);(case side3=>exact cD);(case side4=>exact HC1_2.out);(case side5=>exact cD);(case side6=>exact HC1_3.out);rintro e w21 ⟨rfl,hb⟩;replace BK871:=Aside0.mk (kb BK871 hb);replace BK872:=Aside0.mk (kb BK872 hb);replace HB:=Aside0.mk (below_step bD hb);(try clear hb);(try clear hb2);(try clear hk);(try clear hi)))
     go_meet
     case rel=>exact ⟨_,(true),eS,H',⟨by first|omega|exact Nat.le_refl _⟩,⟨kD⟩,⟨kD⟩,⟨bD⟩⟩
    ·replace c16:=Bool.eq_false_iff.mpr c16;subst c16;replace H:=ifFF H;have H':=Aside0.mk H;clear H;have hnb22:=NB871_872.out;have hnc22:=NB872_871.out;obtain ⟨hcz23_0,hcz23_1,hcz23_2,hcz23_3⟩:=cc4 BK871.out;obtain ⟨hfz23_0,hfz23_1,hfz23_2,hfz23_3⟩:=ff4 BK871.out;go_wp2_with (first|((with_reducible refine gate_callee (f:=29) rfl ?_);refine ca (some 15) Tryz.func29 #[.agg #[.int .u32 a0_0,.slice A0_1 l0_1.length c0_1,.slice A0_2 l0_2.length c0_2,.slice A0_3 l0_3.length c0_3]] ?_;(with_reducible refine (r19_Great.calls k a0_0 _ _ l0_1 _ _ l0_2 _ _ l0_3 false _ ?side1 ?side2 ?side3 ?side4 ?side5 ?side6 A10.out).mono ?_);(case side1=>exact cD);(case side2=>exact HC0_1.out);(case side3=>exact cD);(case side4=>exact HC0_2.out);(case side5=>exact cD);(case side6=>exact HC0_3.out);rintro e w24 ⟨rfl,hb⟩;refine ⟨_,rfl,?_⟩;replace BK871:=Aside0.mk (kb BK871 hb);replace BK872:=Aside0.mk (kb BK872 hb);replace HB:=Aside0.mk (below_step bD hb);(try clear hb);(try clear hb2);(try clear hk);(try clear hi);obtain ⟨hcz25_0,hcz25_1,hcz25_2,hcz25_3⟩:=cc4 BK872.out;obtain ⟨hfz25_0,hfz25_1,hfz25_2,hfz25_3⟩:=ff4 BK872.out)|(go_at_call 29;(with_reducible refine (r19_Great.calls k a1_0 _ _ l1_1 _ _ l1_2 _ _ l1_3 false _ ?side1 ?side2 ?side3 ?side4 ?side5 ?side6 A15.out).mono ?_);(case side1=>exact cD);(case side2=>exact HC1_1.out);(case side3=>exact cD);(case side4=>exact HC1_2.out);(case side5=>exact cD);(case side6=>exact HC1_3.out);rintro e w26 ⟨rfl,hb⟩;replace BK871:=Aside0.mk (kb BK871 hb);replace BK872:=Aside0.mk (kb BK872 hb);replace HB:=Aside0.mk (below_step bD hb);(try clear hb);(try clear hb2);(try clear hk);(try clear hi)))
     go_meet
     case rel=>exact ⟨_,(decide ((a2.size:Int)>500)),eS,H',⟨by first|omega|exact Nat.le_refl _⟩,⟨kD⟩,⟨kD⟩,⟨bD⟩⟩
  case rest =>
   clear HC6
   (try clear c1;try clear c2;try clear p2;try clear c5;try clear c10;try clear c11;try clear c12;try clear c16;try clear c17;try clear c22;try clear hcz13_0;try clear hcz13_1;try clear hcz13_2;try clear hcz13_3;try clear hcz18_0;try clear hcz18_1;try clear hcz18_2;try clear hcz18_3;try clear hcz20_0;try clear hcz20_1;try clear hcz20_2;try clear hcz20_3;try clear hcz23_0;try clear hcz23_1;try clear hcz23_2;try clear hcz23_3;try clear hcz25_0;try clear hcz25_1;try clear hcz25_2;try clear hcz25_3;try clear hfz13_0;try clear hfz13_1;try clear hfz13_2;try clear hfz13_3;try clear hfz18_0;try clear hfz18_1;try clear hfz18_2;try clear hfz18_3;try clear hfz20_0;try clear hfz20_1;try clear hfz20_2;try clear hfz20_3;try clear hfz23_0;try clear hfz23_1;try clear hfz23_2;try clear hfz23_3;try clear hfz25_0;try clear hfz25_1;try clear hfz25_2;try clear hfz25_3)
   obtain ⟨kq,x24_5,rfl,HA,HJ5,BK871,BK872,HB⟩:=hcut;cases kq with
   | zero=>exact absurd HA.out (by simp [w19_FlatRights.j0])
   | succ kj5 =>
    have H:=HA.out;clear HA;simp only [w19_FlatRights.j0] at H;by_cases c27:x24_5=true
    ·subst c27;replace H:=ifTT H;replace H:=Option.bind_eq_some_iff.mp H;obtain ⟨t876,A280,H⟩:=H;replace H:(some t876)=some r:=H;have A28:=Aside0.mk A280;clear A280;obtain rfl:=Option.some.inj H;go_wp2_with (first|((with_reducible refine gate_callee (f:=28) rfl ?_);refine ca (some 25) Tryz.func28 #[] ?_;(with_reducible refine (w19_alive.calls  t876 _ A28.out).mono ?_);rintro e w29 ⟨rfl,hb⟩;refine ⟨_,rfl,?_⟩;replace BK871:=Aside0.mk (kb BK871 hb);replace BK872:=Aside0.mk (kb BK872 hb);replace HB:=Aside0.mk (below_step bD hb);(try clear hb);(try clear hb2);(try clear hk);(try clear hi)))
     go_ret
     exact ⟨eE,bD⟩
    ·replace c27:=Bool.eq_false_iff.mpr c27;subst c27;replace H:=ifFF H;replace H:=Option.bind_eq_some_iff.mp H;obtain ⟨t877,A300,H⟩:=H;replace H:((flat_At.f kj5 a0_0 l0_1 l0_2 l0_3 a2).bind fun bt878=>((w19_alive.f).bind fun t880=>(if t880=true then ((flat_Right.f kj5 a0_0 l0_1 l0_2 l0_3).bind fun t881=>(if (t881 != t877)=true then (w19_FlatRights.j1 kj5 a2 t877 bt878.1 bt878.2 true a0_0 l0_1 l0_2 l0_3) else ((flat_Same.f kj5 a0_0 l0_1 l0_2 l0_3 a1_0 l1_1 l1_2 l1_3).bind fun t882=>((r19_Same.f kj5 a0_0 l0_1 l0_2 l0_3 a1_0 l1_1 l1_2 l1_3).bind fun t883=>(if (t882 != t883)=true then (w19_FlatRights.j1 kj5 a2 t877 bt878.1 bt878.2 true a0_0 l0_1 l0_2 l0_3) else ((flat_Fresh.f).bind fun bt884=>((r19_Fresh.f).bind fun bt894=>((r19_Same.f kj5 bt884.1 bt884.2.1 bt884.2.2.1 bt884.2.2.2 bt894.1 bt894.2.1 bt894.2.2.1 bt894.2.2.2).bind fun t904=>(w19_FlatRights.j1 kj5 a2 t877 bt878.1 bt878.2 (!t904) a0_0 l0_1 l0_2 l0_3))))))))) else (w19_FlatRights.j1 kj5 a2 t877 bt878.1 bt878.2 true a0_0 l0_1 l0_2 l0_3))))=some r:=H
     have A30:=Aside0.mk A300;clear A300;replace H:=Option.bind_eq_some_iff.mp H;obtain ⟨⟨t878,t879⟩,A310,H⟩:=H;replace H:((w19_alive.f).bind fun t880=>(if t880=true then ((flat_Right.f kj5 a0_0 l0_1 l0_2 l0_3).bind fun t881=>(if (t881 != t877)=true then (w19_FlatRights.j1 kj5 a2 t877 t878 t879 true a0_0 l0_1 l0_2 l0_3) else ((flat_Same.f kj5 a0_0 l0_1 l0_2 l0_3 a1_0 l1_1 l1_2 l1_3).bind fun t882=>((r19_Same.f kj5 a0_0 l0_1 l0_2 l0_3 a1_0 l1_1 l1_2 l1_3).bind fun t883=>(if (t882 != t883)=true then (w19_FlatRights.j1 kj5 a2 t877 t878 t879 true a0_0 l0_1 l0_2 l0_3) else ((flat_Fresh.f).bind fun bt884=>((r19_Fresh.f).bind fun bt894=>((r19_Same.f kj5 bt884.1 bt884.2.1 bt884.2.2.1 bt884.2.2.2 bt894.1 bt894.2.1 bt894.2.2.1 bt894.2.2.2).bind fun t904=>(w19_FlatRights.j1 kj5 a2 t877 t878 t879 (!t904) a0_0 l0_1 l0_2 l0_3))))))))) else (w19_FlatRights.j1 kj5 a2 t877 t878 t879 true a0_0 l0_1 l0_2 l0_3)))=some r:=H
     have A31:=Aside0.mk A310;clear A310;have HC32:=Aside0.mk H;clear H;have hnb33:=NB871_872.out;have hnc33:=NB872_871.out;obtain ⟨hcz34_0,hcz34_1,hcz34_2,hcz34_3⟩:=cc4 BK871.out;obtain ⟨hfz34_0,hfz34_1,hfz34_2,hfz34_3⟩:=ff4 BK871.out;go_upto_region 7 with (first|((with_reducible refine gate_callee (f:=32) rfl ?_);refine ca (some 27) Tryz.func32 #[.agg #[.int .u32 a0_0,.slice A0_1 l0_1.length c0_1,.slice A0_2 l0_2.length c0_2,.slice A0_3 l0_3.length c0_3]] ?_;(with_reducible refine (r19_Right.calls kj5 a0_0 _ _ l0_1 _ _ l0_2 _ _ l0_3 t877 _ ?side1 ?side2 ?side3 ?side4 ?side5 ?side6 A30.out).mono ?_);(case side1=>exact cD);(case side2=>exact HC0_1.out);(case side3=>exact cD);(case side4=>exact HC0_2.out);(case side5=>exact cD);(case side6=>exact HC0_3.out);rintro e w35 ⟨rfl,hb⟩;refine ⟨_,rfl,?_⟩;replace BK871:=Aside0.mk (kb BK871 hb);replace BK872:=Aside0.mk (kb BK872 hb);replace HB:=Aside0.mk (below_step bD hb);(try clear hb);(try clear hb2);(try clear hk);(try clear hi);obtain ⟨hcz36_0,hcz36_1,hcz36_2,hcz36_3⟩:=cc4 BK871.out;obtain ⟨hfz36_0,hfz36_1,hfz36_2,hfz36_3⟩:=ff4 BK871.out)|((with_reducible refine gate_callee (f:=36) rfl ?_);refine ca (some 31) Tryz.func36 #[.agg #[.int .u32 a0_0,.slice A0_1 l0_1.length c0_1,.slice A0_2 l0_2.length c0_2,.slice A0_3 l0_3.length c0_3],.string a2] ?_;(with_reducible refine (flat_At.calls kj5 a0_0 _ _ l0_1 _ _ l0_2 _ _ l0_3 a2 t878 t879 _ ?side1 ?side2 ?side3 ?side4 ?side5 ?side6 A31.out).mono ?_);(case side1=>exact cD);(case side2=>exact HC0_1.out);(case side3=>exact cD);(case side4=>exact HC0_2.out);(case side5=>exact cD);(case side6=>exact HC0_3.out);rintro e w37 ⟨rfl,hb⟩;refine ⟨_,rfl,?_⟩;replace BK871:=Aside0.mk (kb BK871 hb);replace BK872:=Aside0.mk (kb BK872 hb);replace HB:=Aside0.mk (below_step bD hb);(try clear hb);(try clear hb2);(try clear hk);(try clear hi)))
     (try simp only [Act.put,List.setIfInBounds_toArray,List.set_cons_zero,List.set_cons_succ])
     go_cut [56] (fun v56 wc=>∃ (kq:Nat) (x56_31:Bool),v56=.bool x56_31∧Aside0 (w19_FlatRights.j1 kq a2 t877 t878 t879 x56_31 a0_0 l0_1 l0_2 l0_3=some r)∧Aside0 (kq≤kj5)∧Aside0 (wc.heap[gb871]?=some (.cells #[.int .u32 a0_0,(.slice A0_1 l0_1.length c0_1),(.slice A0_2 l0_2.length c0_2),(.slice A0_3 l0_3.length c0_3)] 67 (0,0)))∧Aside0 (wc.heap[gb872]?=some (.cells #[.int .u32 a1_0,(.slice A1_1 l1_1.length c1_1),(.slice A1_2 l1_2.length c1_2),(.slice A1_3 l1_3.length c1_3)] 67 (0,0)))∧Aside0 (Below w.heap.size w wc))
     case first =>
      have H:=HC32.out;clear HC32;replace H:=Option.bind_eq_some_iff.mp H;obtain ⟨t880,A380,H⟩:=H;replace H:(if t880=true then ((flat_Right.f kj5 a0_0 l0_1 l0_2 l0_3).bind fun t881=>(if (t881 != t877)=true then (w19_FlatRights.j1 kj5 a2 t877 t878 t879 true a0_0 l0_1 l0_2 l0_3) else ((flat_Same.f kj5 a0_0 l0_1 l0_2 l0_3 a1_0 l1_1 l1_2 l1_3).bind fun t882=>((r19_Same.f kj5 a0_0 l0_1 l0_2 l0_3 a1_0 l1_1 l1_2 l1_3).bind fun t883=>(if (t882 != t883)=true then (w19_FlatRights.j1 kj5 a2 t877 t878 t879 true a0_0 l0_1 l0_2 l0_3) else ((flat_Fresh.f).bind fun bt884=>((r19_Fresh.f).bind fun bt894=>((r19_Same.f kj5 bt884.1 bt884.2.1 bt884.2.2.1 bt884.2.2.2 bt894.1 bt894.2.1 bt894.2.2.1 bt894.2.2.2).bind fun t904=>(w19_FlatRights.j1 kj5 a2 t877 t878 t879 (!t904) a0_0 l0_1 l0_2 l0_3))))))))) else (w19_FlatRights.j1 kj5 a2 t877 t878 t879 true a0_0 l0_1 l0_2 l0_3))=some r:=H
      have A38:=Aside0.mk A380;clear A380;by_cases c39:t880=true
      ·subst c39;replace H:=ifTT H;replace H:=Option.bind_eq_some_iff.mp H;obtain ⟨t881,A400,H⟩:=H;replace H:(if (t881 != t877)=true then (w19_FlatRights.j1 kj5 a2 t877 t878 t879 true a0_0 l0_1 l0_2 l0_3) else ((flat_Same.f kj5 a0_0 l0_1 l0_2 l0_3 a1_0 l1_1 l1_2 l1_3).bind fun t882=>((r19_Same.f kj5 a0_0 l0_1 l0_2 l0_3 a1_0 l1_1 l1_2 l1_3).bind fun t883=>(if (t882 != t883)=true then (w19_FlatRights.j1 kj5 a2 t877 t878 t879 true a0_0 l0_1 l0_2 l0_3) else ((flat_Fresh.f).bind fun bt884=>((r19_Fresh.f).bind fun bt894=>((r19_Same.f kj5 bt884.1 bt884.2.1 bt884.2.2.1 bt884.2.2.2 bt894.1 bt894.2.1 bt894.2.2.1 bt894.2.2.2).bind fun t904=>(w19_FlatRights.j1 kj5 a2 t877 t878 t879 (!t904) a0_0 l0_1 l0_2 l0_3))))))))=some r:=H
       have A40:=Aside0.mk A400;clear A400;by_cases c41:(t881 != t877)=true
       ·rw [if_pos c41] at H;have c41b0:(t881 != t877)=true:=c41
        (try (have c41b1:decide (t881=t877)=false:=by simpa using c41))
        (try (have c41b2:(t881 == t877)=false:=by simpa using c41))
        (try (have c41b3 : ¬ (t881=t877):=by simpa using c41))
        clear c41
        (first|rw [c41b0]|(simp only [i64_w,i32_w];rw [c41b0])|skip)
        have H':=Aside0.mk H;clear H;try go_wp2
        replace BK871:=Aside0.mk (blk_drew BK871.out);replace BK872:=Aside0.mk (blk_drew BK872.out);replace HB:=Aside0.mk (below_drew1 HB.out);refine rs 23 (fun w'=>w'.cell? ⟨gb871,0,none⟩=some (.int .u32 a0_0)∧w'.cell? ⟨gb871,1,none⟩=some (.slice A0_1 l0_1.length c0_1)∧w'.cell? ⟨gb871,2,none⟩=some (.slice A0_2 l0_2.length c0_2)∧w'.cell? ⟨gb871,3,none⟩=some (.slice A0_3 l0_3.length c0_3)) [] ⟨(blk_cell BK871.out 0).trans rfl,(blk_cell BK871.out 1).trans rfl,(blk_cell BK871.out 2).trans rfl,(blk_cell BK871.out 3).trans rfl⟩ (fun hHeld=>?_);refine with_tabW w19_FlatRights.tab7 w19_FlatRights.bits7 (fun HT_ HW_=>?_);generalize w37.drew=w42 at BK871 BK872 HB hHeld ⊢;refine ro 0 (some 34) (fun K hK=>?_);refine cr Tryz.func28 #[] ?_;with_reducible refine (w19_alive.calls  true _ A38.out).mono ?_
        rintro e w43 ⟨rfl,hb⟩;refine ⟨_,rfl,?_⟩;replace BK871:=Aside0.mk (kb BK871 hb);replace BK872:=Aside0.mk (kb BK872 hb);replace HB:=Aside0.mk (below_step bD hb)
        (try clear hb)
        (try clear hb2)
        (try clear hk)
        (try clear hi)
        refine hK.out _ _ ⟨(blk_cell BK871.out 0).trans rfl,(blk_cell BK871.out 1).trans rfl,(blk_cell BK871.out 2).trans rfl,(blk_cell BK871.out 3).trans rfl⟩ (fun hHeld=>?_);clear hK K;refine rn ?_;refine rp 1 (some 35) ?_;refine rp 2 (some 36) ?_;refine rp 5 (some 39) ?_;refine rt 3 (some 37) ?_;refine ro 4 (some 38) (fun K hK=>?_);refine cr Tryz.func37 #[.agg #[.int .u32 a0_0,.slice A0_1 l0_1.length c0_1,.slice A0_2 l0_2.length c0_2,.slice A0_3 l0_3.length c0_3]] ?_;with_reducible refine (flat_Right.calls kj5 a0_0 _ _ l0_1 _ _ l0_2 _ _ l0_3 t881 _ ?side1 ?side2 ?side3 ?side4 ?side5 ?side6 A40.out).mono ?_
        (case side1=>exact cD)
        (case side2=>exact HC0_1.out)
        (case side3=>exact cD)
        (case side4=>exact HC0_2.out)
        (case side5=>exact cD)
        (case side6=>exact HC0_3.out)
        rintro e w44 ⟨rfl,hb⟩;refine ⟨_,rfl,?_⟩;replace BK871:=Aside0.mk (kb BK871 hb);replace BK872:=Aside0.mk (kb BK872 hb);replace HB:=Aside0.mk (below_step bD hb)
        (try clear hb)
        (try clear hb2)
        (try clear hk)
        (try clear hi)
        refine hK.out _ _ ⟨(blk_cell BK871.out 0).trans rfl,(blk_cell BK871.out 1).trans rfl,(blk_cell BK871.out 2).trans rfl,(blk_cell BK871.out 3).trans rfl⟩ (fun hHeld=>?_);clear hK K;refine rn ?_;refine rp 6 (some 40) ?_;refine rp 7 (some 41) ?_;refine rp 8 (some 42) ?_;refine rx 9 (some 43) ?_;refine rx 10 (some 44) ?_;refine rx 11 (some 45) ?_;refine rx 12 (some 46) ?_;refine rx 13 (some 47) ?_;refine rx 14 (some 48) ?_;refine rx 15 (some 49) ?_;refine rp 16 (some 50) ?_;refine rp 17 (some 51) ?_;refine rx 18 (some 52) ?_;refine rx 19 (some 53) ?_;refine rx 20 (some 54) ?_;refine rx 21 (some 55) ?_;refine rp 22 (some 56) ?_;refine done_ (done_of HT_.out (by kernel_rfl)) ?_
        try go_wp2
        go_meet
        case rel=>exact ⟨_,(true),eS,H',⟨by have:=HJ5.out;first|omega|exact Nat.le_refl _⟩,⟨kD⟩,⟨kD⟩,⟨bD⟩⟩
       ·rw [if_neg c41] at H;have c41b0:(t881 != t877)=false:=by simpa using c41
        (try (have c41b1:decide (t881=t877)=true:=by simpa using c41))
        (try (have c41b2:(t881 == t877)=true:=by simpa using c41))
        clear c41
        (first|rw [c41b0]|(simp only [i64_w,i32_w];rw [c41b0])|skip)
        replace H:=Option.bind_eq_some_iff.mp H;obtain ⟨t882,A450,H⟩:=H;replace H:((r19_Same.f kj5 a0_0 l0_1 l0_2 l0_3 a1_0 l1_1 l1_2 l1_3).bind fun t883=>(if (t882 != t883)=true then (w19_FlatRights.j1 kj5 a2 t877 t878 t879 true a0_0 l0_1 l0_2 l0_3) else ((flat_Fresh.f).bind fun bt884=>((r19_Fresh.f).bind fun bt894=>((r19_Same.f kj5 bt884.1 bt884.2.1 bt884.2.2.1 bt884.2.2.2 bt894.1 bt894.2.1 bt894.2.2.1 bt894.2.2.2).bind fun t904=>(w19_FlatRights.j1 kj5 a2 t877 t878 t879 (!t904) a0_0 l0_1 l0_2 l0_3))))))=some r:=H
        have A45:=Aside0.mk A450;clear A450;replace H:=Option.bind_eq_some_iff.mp H;obtain ⟨t883,A460,H⟩:=H;replace H:(if (t882 != t883)=true then (w19_FlatRights.j1 kj5 a2 t877 t878 t879 true a0_0 l0_1 l0_2 l0_3) else ((flat_Fresh.f).bind fun bt884=>((r19_Fresh.f).bind fun bt894=>((r19_Same.f kj5 bt884.1 bt884.2.1 bt884.2.2.1 bt884.2.2.2 bt894.1 bt894.2.1 bt894.2.2.1 bt894.2.2.2).bind fun t904=>(w19_FlatRights.j1 kj5 a2 t877 t878 t879 (!t904) a0_0 l0_1 l0_2 l0_3)))))=some r:=H
        have A46:=Aside0.mk A460;clear A460;by_cases c47:(t882 != t883)=true
        ·rw [if_pos c47] at H;have c47b0:(t882 != t883)=true:=c47
         (try (have c47b1:decide (t882=t883)=false:=by simpa using c47))
         (try (have c47b2:(t882 == t883)=false:=by simpa using c47))
         (try (have c47b3 : ¬ (t882=t883):=by simpa using c47))
         clear c47;have H':=Aside0.mk H;clear H;try go_wp2
         replace BK871:=Aside0.mk (blk_drew BK871.out);replace BK872:=Aside0.mk (blk_drew BK872.out);replace HB:=Aside0.mk (below_drew1 HB.out);refine rs 23 (fun w'=>w'.cell? ⟨gb871,0,none⟩=some (.int .u32 a0_0)∧w'.cell? ⟨gb871,1,none⟩=some (.slice A0_1 l0_1.length c0_1)∧w'.cell? ⟨gb871,2,none⟩=some (.slice A0_2 l0_2.length c0_2)∧w'.cell? ⟨gb871,3,none⟩=some (.slice A0_3 l0_3.length c0_3)∧w'.cell? ⟨gb872,0,none⟩=some (.int .u32 a1_0)∧w'.cell? ⟨gb872,1,none⟩=some (.slice A1_1 l1_1.length c1_1)∧w'.cell? ⟨gb872,2,none⟩=some (.slice A1_2 l1_2.length c1_2)∧w'.cell? ⟨gb872,3,none⟩=some (.slice A1_3 l1_3.length c1_3)) [] ⟨(blk_cell BK871.out 0).trans rfl,(blk_cell BK871.out 1).trans rfl,(blk_cell BK871.out 2).trans rfl,(blk_cell BK871.out 3).trans rfl,(blk_cell BK872.out 0).trans rfl,(blk_cell BK872.out 1).trans rfl,(blk_cell BK872.out 2).trans rfl,(blk_cell BK872.out 3).trans rfl⟩ (fun hHeld=>?_);refine with_tabW w19_FlatRights.tab7 w19_FlatRights.bits7 (fun HT_ HW_=>?_);generalize w37.drew=w48 at BK871 BK872 HB hHeld ⊢;refine ro 0 (some 34) (fun K hK=>?_);refine cr Tryz.func28 #[] ?_;with_reducible refine (w19_alive.calls  true _ A38.out).mono ?_
         rintro e w49 ⟨rfl,hb⟩;refine ⟨_,rfl,?_⟩;replace BK871:=Aside0.mk (kb BK871 hb);replace BK872:=Aside0.mk (kb BK872 hb);replace HB:=Aside0.mk (below_step bD hb)
         (try clear hb)
         (try clear hb2)
         (try clear hk)
         (try clear hi)
         refine hK.out _ _ ⟨(blk_cell BK871.out 0).trans rfl,(blk_cell BK871.out 1).trans rfl,(blk_cell BK871.out 2).trans rfl,(blk_cell BK871.out 3).trans rfl,(blk_cell BK872.out 0).trans rfl,(blk_cell BK872.out 1).trans rfl,(blk_cell BK872.out 2).trans rfl,(blk_cell BK872.out 3).trans rfl⟩ (fun hHeld=>?_);clear hK K;refine rn ?_;refine rp 1 (some 35) ?_;refine rp 2 (some 36) ?_;refine rp 5 (some 39) ?_;refine rt 3 (some 37) ?_;refine ro 4 (some 38) (fun K hK=>?_);refine cr Tryz.func37 #[.agg #[.int .u32 a0_0,.slice A0_1 l0_1.length c0_1,.slice A0_2 l0_2.length c0_2,.slice A0_3 l0_3.length c0_3]] ?_;with_reducible refine (flat_Right.calls kj5 a0_0 _ _ l0_1 _ _ l0_2 _ _ l0_3 t881 _ ?side1 ?side2 ?side3 ?side4 ?side5 ?side6 A40.out).mono ?_
         (case side1=>exact cD)
         (case side2=>exact HC0_1.out)
         (case side3=>exact cD)
         (case side4=>exact HC0_2.out)
         (case side5=>exact cD)
         (case side6=>exact HC0_3.out)
         rintro e w50 ⟨rfl,hb⟩;refine ⟨_,rfl,?_⟩;replace BK871:=Aside0.mk (kb BK871 hb);replace BK872:=Aside0.mk (kb BK872 hb);replace HB:=Aside0.mk (below_step bD hb)
         (try clear hb)
         (try clear hb2)
         (try clear hk)
         (try clear hi)
         refine hK.out _ _ ⟨(blk_cell BK871.out 0).trans rfl,(blk_cell BK871.out 1).trans rfl,(blk_cell BK871.out 2).trans rfl,(blk_cell BK871.out 3).trans rfl,(blk_cell BK872.out 0).trans rfl,(blk_cell BK872.out 1).trans rfl,(blk_cell BK872.out 2).trans rfl,(blk_cell BK872.out 3).trans rfl⟩ (fun hHeld=>?_);clear hK K;refine rn ?_;refine rp 6 (some 40) ?_;refine rp 7 (some 41) ?_;refine rp 8 (some 42) ?_;refine rt 9 (some 43) ?_;refine rt 10 (some 44) ?_;refine rt 12 (some 46) ?_;refine rt 13 (some 47) ?_;refine ro 11 (some 45) (fun K hK=>?_);refine cr Tryz.func38 #[.agg #[.int .u32 a0_0,.slice A0_1 l0_1.length c0_1,.slice A0_2 l0_2.length c0_2,.slice A0_3 l0_3.length c0_3],.agg #[.int .u32 a1_0,.slice A1_1 l1_1.length c1_1,.slice A1_2 l1_2.length c1_2,.slice A1_3 l1_3.length c1_3]] ?_;with_reducible refine (flat_Same.calls kj5 a0_0 _ _ l0_1 _ _ l0_2 _ _ l0_3 a1_0 _ _ l1_1 _ _ l1_2 _ _ l1_3 t882 _ ?side1 ?side2 ?side3 ?side4 ?side5 ?side6 ?side7 ?side8 ?side9 ?side10 ?side11 ?side12 A45.out).mono ?_
         (case side1=>exact cD)
         (case side2=>exact HC0_1.out)
         (case side3=>exact cD)
         (case side4=>exact HC0_2.out)
         (case side5=>exact cD)
         (case side6=>exact HC0_3.out)
         (case side7=>exact cD)
         (case side8=>exact HC1_1.out)
         (case side9=>exact cD)
         (case side10=>exact HC1_2.out)
         (case side11=>exact cD)
         (case side12=>exact HC1_3.out)
         rintro e w51 ⟨rfl,hb⟩;refine ⟨_,rfl,?_⟩;replace BK871:=Aside0.mk (kb BK871 hb);replace BK872:=Aside0.mk (kb BK872 hb);replace HB:=Aside0.mk (below_step bD hb)
         (try clear hb)
         (try clear hb2)
         (try clear hk)
         (try clear hi)
         refine hK.out _ _ ⟨(blk_cell BK871.out 0).trans rfl,(blk_cell BK871.out 1).trans rfl,(blk_cell BK871.out 2).trans rfl,(blk_cell BK871.out 3).trans rfl,(blk_cell BK872.out 0).trans rfl,(blk_cell BK872.out 1).trans rfl,(blk_cell BK872.out 2).trans rfl,(blk_cell BK872.out 3).trans rfl⟩ (fun hHeld=>?_);clear hK K;refine rn ?_;refine ro 14 (some 48) (fun K hK=>?_);refine cr Tryz.func33 #[.agg #[.int .u32 a0_0,.slice A0_1 l0_1.length c0_1,.slice A0_2 l0_2.length c0_2,.slice A0_3 l0_3.length c0_3],.agg #[.int .u32 a1_0,.slice A1_1 l1_1.length c1_1,.slice A1_2 l1_2.length c1_2,.slice A1_3 l1_3.length c1_3]] ?_;with_reducible refine (r19_Same.calls kj5 a0_0 _ _ l0_1 _ _ l0_2 _ _ l0_3 a1_0 _ _ l1_1 _ _ l1_2 _ _ l1_3 t883 _ ?side1 ?side2 ?side3 ?side4 ?side5 ?side6 ?side7 ?side8 ?side9 ?side10 ?side11 ?side12 A46.out).mono ?_
         (case side1=>exact cD)
         (case side2=>exact HC0_1.out)
         (case side3=>exact cD)
         (case side4=>exact HC0_2.out)
         (case side5=>exact cD)
         (case side6=>exact HC0_3.out)
         (case side7=>exact cD)
         (case side8=>exact HC1_1.out)
         (case side9=>exact cD)
         (case side10=>exact HC1_2.out)
         (case side11=>exact cD)
         (case side12=>exact HC1_3.out)
         rintro e w52 ⟨rfl,hb⟩;refine ⟨_,rfl,?_⟩;replace BK871:=Aside0.mk (kb BK871 hb);replace BK872:=Aside0.mk (kb BK872 hb);replace HB:=Aside0.mk (below_step bD hb)
         (try clear hb)
         (try clear hb2)
         (try clear hk)
         (try clear hi)
         refine hK.out _ _ ⟨(blk_cell BK871.out 0).trans rfl,(blk_cell BK871.out 1).trans rfl,(blk_cell BK871.out 2).trans rfl,(blk_cell BK871.out 3).trans rfl,(blk_cell BK872.out 0).trans rfl,(blk_cell BK872.out 1).trans rfl,(blk_cell BK872.out 2).trans rfl,(blk_cell BK872.out 3).trans rfl⟩ (fun hHeld=>?_);clear hK K;refine rn ?_;refine rp 15 (some 49) ?_;refine rp 16 (some 50) ?_;refine rp 17 (some 51) ?_;refine rx 18 (some 52) ?_;refine rx 19 (some 53) ?_;refine rx 20 (some 54) ?_;refine rx 21 (some 55) ?_;refine rp 22 (some 56) ?_;refine done_ (done_of HT_.out (by kernel_rfl)) ?_
         try go_wp2
         go_meet
         case rel=>exact ⟨_,(true),eS,H',⟨by have:=HJ5.out;first|omega|exact Nat.le_refl _⟩,⟨kD⟩,⟨kD⟩,⟨bD⟩⟩
        ·rw [if_neg c47] at H;have c47b0:(t882 != t883)=false:=by simpa using c47
         (try (have c47b1:decide (t882=t883)=true:=by simpa using c47))
         (try (have c47b2:(t882 == t883)=true:=by simpa using c47))
         clear c47;replace H:=Option.bind_eq_some_iff.mp H;obtain ⟨⟨t884,t885,t888,t891⟩,A530,H⟩:=H;replace H:((r19_Fresh.f).bind fun bt894=>((r19_Same.f kj5 t884 t885 t888 t891 bt894.1 bt894.2.1 bt894.2.2.1 bt894.2.2.2).bind fun t904=>(w19_FlatRights.j1 kj5 a2 t877 t878 t879 (!t904) a0_0 l0_1 l0_2 l0_3)))=some r:=H;have A53:=Aside0.mk A530;clear A530;replace H:=Option.bind_eq_some_iff.mp H;obtain ⟨⟨t894,t895,t898,t901⟩,A540,H⟩:=H;replace H:((r19_Same.f kj5 t884 t885 t888 t891 t894 t895 t898 t901).bind fun t904=>(w19_FlatRights.j1 kj5 a2 t877 t878 t879 (!t904) a0_0 l0_1 l0_2 l0_3))=some r:=H;have A54:=Aside0.mk A540;clear A540;replace H:=Option.bind_eq_some_iff.mp H;obtain ⟨t904,A550,H⟩:=H;replace H:(w19_FlatRights.j1 kj5 a2 t877 t878 t879 (!t904) a0_0 l0_1 l0_2 l0_3)=some r:=H;have A55:=Aside0.mk A550;clear A550;have H':=Aside0.mk H;clear H;try go_wp2
         replace BK871:=Aside0.mk (blk_drew BK871.out);replace BK872:=Aside0.mk (blk_drew BK872.out);replace HB:=Aside0.mk (below_drew1 HB.out);refine rs 23 (fun w'=>w'.cell? ⟨gb871,0,none⟩=some (.int .u32 a0_0)∧w'.cell? ⟨gb871,1,none⟩=some (.slice A0_1 l0_1.length c0_1)∧w'.cell? ⟨gb871,2,none⟩=some (.slice A0_2 l0_2.length c0_2)∧w'.cell? ⟨gb871,3,none⟩=some (.slice A0_3 l0_3.length c0_3)∧w'.cell? ⟨gb872,0,none⟩=some (.int .u32 a1_0)∧w'.cell? ⟨gb872,1,none⟩=some (.slice A1_1 l1_1.length c1_1)∧w'.cell? ⟨gb872,2,none⟩=some (.slice A1_2 l1_2.length c1_2)∧w'.cell? ⟨gb872,3,none⟩=some (.slice A1_3 l1_3.length c1_3)) [] ⟨(blk_cell BK871.out 0).trans rfl,(blk_cell BK871.out 1).trans rfl,(blk_cell BK871.out 2).trans rfl,(blk_cell BK871.out 3).trans rfl,(blk_cell BK872.out 0).trans rfl,(blk_cell BK872.out 1).trans rfl,(blk_cell BK872.out 2).trans rfl,(blk_cell BK872.out 3).trans rfl⟩ (fun hHeld=>?_);refine with_tabW w19_FlatRights.tab7 w19_FlatRights.bits7 (fun HT_ HW_=>?_);generalize w37.drew=w56 at BK871 BK872 HB hHeld ⊢;refine ro 0 (some 34) (fun K hK=>?_);refine cr Tryz.func28 #[] ?_;with_reducible refine (w19_alive.calls  true _ A38.out).mono ?_
         rintro e w57 ⟨rfl,hb⟩;refine ⟨_,rfl,?_⟩;replace BK871:=Aside0.mk (kb BK871 hb);replace BK872:=Aside0.mk (kb BK872 hb);replace HB:=Aside0.mk (below_step bD hb)
         (try clear hb)
         (try clear hb2)
         (try clear hk)
         (try clear hi)
         refine hK.out _ _ ⟨(blk_cell BK871.out 0).trans rfl,(blk_cell BK871.out 1).trans rfl,(blk_cell BK871.out 2).trans rfl,(blk_cell BK871.out 3).trans rfl,(blk_cell BK872.out 0).trans rfl,(blk_cell BK872.out 1).trans rfl,(blk_cell BK872.out 2).trans rfl,(blk_cell BK872.out 3).trans rfl⟩ (fun hHeld=>?_);clear hK K;refine rn ?_;refine rp 1 (some 35) ?_;refine rp 2 (some 36) ?_;refine rp 5 (some 39) ?_;refine rt 3 (some 37) ?_;refine ro 4 (some 38) (fun K hK=>?_);refine cr Tryz.func37 #[.agg #[.int .u32 a0_0,.slice A0_1 l0_1.length c0_1,.slice A0_2 l0_2.length c0_2,.slice A0_3 l0_3.length c0_3]] ?_;with_reducible refine (flat_Right.calls kj5 a0_0 _ _ l0_1 _ _ l0_2 _ _ l0_3 t881 _ ?side1 ?side2 ?side3 ?side4 ?side5 ?side6 A40.out).mono ?_
         (case side1=>exact cD)
         (case side2=>exact HC0_1.out)
         (case side3=>exact cD)
         (case side4=>exact HC0_2.out)
         (case side5=>exact cD)
         (case side6=>exact HC0_3.out)
         rintro e w58 ⟨rfl,hb⟩;refine ⟨_,rfl,?_⟩;replace BK871:=Aside0.mk (kb BK871 hb);replace BK872:=Aside0.mk (kb BK872 hb);replace HB:=Aside0.mk (below_step bD hb)
         (try clear hb)
         (try clear hb2)
         (try clear hk)
         (try clear hi)
         refine hK.out _ _ ⟨(blk_cell BK871.out 0).trans rfl,(blk_cell BK871.out 1).trans rfl,(blk_cell BK871.out 2).trans rfl,(blk_cell BK871.out 3).trans rfl,(blk_cell BK872.out 0).trans rfl,(blk_cell BK872.out 1).trans rfl,(blk_cell BK872.out 2).trans rfl,(blk_cell BK872.out 3).trans rfl⟩ (fun hHeld=>?_);clear hK K;refine rn ?_;refine rp 6 (some 40) ?_;refine rp 7 (some 41) ?_;refine rp 8 (some 42) ?_;refine rt 9 (some 43) ?_;refine rt 10 (some 44) ?_;refine rt 12 (some 46) ?_;refine rt 13 (some 47) ?_;refine ro 11 (some 45) (fun K hK=>?_);refine cr Tryz.func38 #[.agg #[.int .u32 a0_0,.slice A0_1 l0_1.length c0_1,.slice A0_2 l0_2.length c0_2,.slice A0_3 l0_3.length c0_3],.agg #[.int .u32 a1_0,.slice A1_1 l1_1.length c1_1,.slice A1_2 l1_2.length c1_2,.slice A1_3 l1_3.length c1_3]] ?_;with_reducible refine (flat_Same.calls kj5 a0_0 _ _ l0_1 _ _ l0_2 _ _ l0_3 a1_0 _ _ l1_1 _ _ l1_2 _ _ l1_3 t882 _ ?side1 ?side2 ?side3 ?side4 ?side5 ?side6 ?side7 ?side8 ?side9 ?side10 ?side11 ?side12 A45.out).mono ?_
         (case side1=>exact cD)
         (case side2=>exact HC0_1.out)
         (case side3=>exact cD)
         (case side4=>exact HC0_2.out)
         (case side5=>exact cD)
         (case side6=>exact HC0_3.out)
         (case side7=>exact cD)
         (case side8=>exact HC1_1.out)
         (case side9=>exact cD)
         (case side10=>exact HC1_2.out)
         (case side11=>exact cD)
         (case side12=>exact HC1_3.out)
         rintro e w59 ⟨rfl,hb⟩;refine ⟨_,rfl,?_⟩;replace BK871:=Aside0.mk (kb BK871 hb);replace BK872:=Aside0.mk (kb BK872 hb);replace HB:=Aside0.mk (below_step bD hb)
         (try clear hb)
         (try clear hb2)
         (try clear hk)
         (try clear hi)
         refine hK.out _ _ ⟨(blk_cell BK871.out 0).trans rfl,(blk_cell BK871.out 1).trans rfl,(blk_cell BK871.out 2).trans rfl,(blk_cell BK871.out 3).trans rfl,(blk_cell BK872.out 0).trans rfl,(blk_cell BK872.out 1).trans rfl,(blk_cell BK872.out 2).trans rfl,(blk_cell BK872.out 3).trans rfl⟩ (fun hHeld=>?_);clear hK K;refine rn ?_;refine ro 14 (some 48) (fun K hK=>?_);refine cr Tryz.func33 #[.agg #[.int .u32 a0_0,.slice A0_1 l0_1.length c0_1,.slice A0_2 l0_2.length c0_2,.slice A0_3 l0_3.length c0_3],.agg #[.int .u32 a1_0,.slice A1_1 l1_1.length c1_1,.slice A1_2 l1_2.length c1_2,.slice A1_3 l1_3.length c1_3]] ?_;with_reducible refine (r19_Same.calls kj5 a0_0 _ _ l0_1 _ _ l0_2 _ _ l0_3 a1_0 _ _ l1_1 _ _ l1_2 _ _ l1_3 t883 _ ?side1 ?side2 ?side3 ?side4 ?side5 ?side6 ?side7 ?side8 ?side9 ?side10 ?side11 ?side12 A46.out).mono ?_
         (case side1=>exact cD)
         (case side2=>exact HC0_1.out)
         (case side3=>exact cD)
         (case side4=>exact HC0_2.out)
         (case side5=>exact cD)
         (case side6=>exact HC0_3.out)
         (case side7=>exact cD)
         (case side8=>exact HC1_1.out)
         (case side9=>exact cD)
         (case side10=>exact HC1_2.out)
         (case side11=>exact cD)
         (case side12=>exact HC1_3.out)
         rintro e w60 ⟨rfl,hb⟩;refine ⟨_,rfl,?_⟩;replace BK871:=Aside0.mk (kb BK871 hb);replace BK872:=Aside0.mk (kb BK872 hb);replace HB:=Aside0.mk (below_step bD hb)
         (try clear hb)
         (try clear hb2)
         (try clear hk)
         (try clear hi)
         refine hK.out _ _ ⟨(blk_cell BK871.out 0).trans rfl,(blk_cell BK871.out 1).trans rfl,(blk_cell BK871.out 2).trans rfl,(blk_cell BK871.out 3).trans rfl,(blk_cell BK872.out 0).trans rfl,(blk_cell BK872.out 1).trans rfl,(blk_cell BK872.out 2).trans rfl,(blk_cell BK872.out 3).trans rfl⟩ (fun hHeld=>?_);clear hK K;refine rn ?_;refine rp 15 (some 49) ?_;refine rp 16 (some 50) ?_;refine rp 17 (some 51) ?_;refine ro 18 (some 52) (fun K hK=>?_);refine cr Tryz.func39 #[] ?_;with_reducible refine (flat_Fresh.calls  t884 t885 t888 t891 _ A53.out).mono ?_
         rintro e w61 ⟨v886,v889,v892,rfl,ho0,ho1,ho2,hb⟩;refine ⟨_,rfl,?_⟩;have HO887:=Aside0.mk (Kd.R_lower ho0 (below_size bD));have HO890:=Aside0.mk (Kd.R_lower ho1 (below_size bD));have HO893:=Aside0.mk (Kd.R_lower ho2 (below_size bD));replace BK871:=Aside0.mk (kb BK871 hb);replace BK872:=Aside0.mk (kb BK872 hb);replace HB:=Aside0.mk (below_step bD hb)
         (try clear hb)
         (try clear hb2)
         (try clear hk)
         (try clear hi)
         (try clear ho0)
         (try clear ho1)
         (try clear ho2)
         refine hK.out _ _ ⟨(blk_cell BK871.out 0).trans rfl,(blk_cell BK871.out 1).trans rfl,(blk_cell BK871.out 2).trans rfl,(blk_cell BK871.out 3).trans rfl,(blk_cell BK872.out 0).trans rfl,(blk_cell BK872.out 1).trans rfl,(blk_cell BK872.out 2).trans rfl,(blk_cell BK872.out 3).trans rfl⟩ (fun hHeld=>?_);clear hK K;refine rn ?_;refine ro 19 (some 53) (fun K hK=>?_);refine cr Tryz.func40 #[] ?_;with_reducible refine (r19_Fresh.calls  t894 t895 t898 t901 _ A54.out).mono ?_
         rintro e w62 ⟨v896,v899,v902,rfl,ho0,ho1,ho2,hb⟩;refine ⟨_,rfl,?_⟩;have n0_:=Aside0.mk (Kd.R_elder' (by (with_reducible repeat (first|apply Kd.R_alloc|apply Kd.R_drewN|apply Kd.R_drew));exact HO887.out) (Kd.R_base ho0) hb)
         have n1_:=Aside0.mk (Kd.R_elder' (by (with_reducible repeat (first|apply Kd.R_alloc|apply Kd.R_drewN|apply Kd.R_drew));exact HO890.out) (Kd.R_base ho1) hb)
         have n2_:=Aside0.mk (Kd.R_elder' (by (with_reducible repeat (first|apply Kd.R_alloc|apply Kd.R_drewN|apply Kd.R_drew));exact HO893.out) (Kd.R_base ho2) hb)
         have n3_:=Aside0.mk (Kd.R_lower (Kd.R_new' ho0 (Kd.R_lt (by (with_reducible repeat (first|apply Kd.R_alloc|apply Kd.R_drewN|apply Kd.R_drew));exact HO887.out))) (below_size bD))
         have n4_:=Aside0.mk (Kd.R_lower (Kd.R_new' ho1 (Kd.R_lt (by (with_reducible repeat (first|apply Kd.R_alloc|apply Kd.R_drewN|apply Kd.R_drew));exact HO890.out))) (below_size bD))
         have n5_:=Aside0.mk (Kd.R_lower (Kd.R_new' ho2 (Kd.R_lt (by (with_reducible repeat (first|apply Kd.R_alloc|apply Kd.R_drewN|apply Kd.R_drew));exact HO893.out))) (below_size bD))
         have n6_:=Aside0.mk (kb BK871 hb);have n7_:=Aside0.mk (kb BK872 hb);have n8_:=Aside0.mk (below_step bD hb);clear HO887;clear HO890;clear HO893;clear BK871;clear BK872;clear HB;have HO887:=n0_;have HO890:=n1_;have HO893:=n2_;have HO897:=n3_;have HO900:=n4_;have HO903:=n5_;have BK871:=n6_;have BK872:=n7_;have HB:=n8_;clear n0_ n1_ n2_ n3_ n4_ n5_ n6_ n7_ n8_
         (try clear hb)
         (try clear hb2)
         (try clear hk)
         (try clear hi)
         (try clear ho0)
         (try clear ho1)
         (try clear ho2)
         obtain ⟨Ao63,co63,eo63⟩:=Kd.R_slice HO887.out
         (first|subst eo63|(injection eo63 with f1_ f2_ f3_;have f4_:=f1_.symm;have f5_:=f3_.symm;clear f1_ f2_ f3_;subst f4_;subst f5_))
         obtain ⟨Ao64,co64,eo64⟩:=Kd.R_slice HO890.out
         (first|subst eo64|(injection eo64 with f1_ f2_ f3_;have f4_:=f1_.symm;have f5_:=f3_.symm;clear f1_ f2_ f3_;subst f4_;subst f5_))
         obtain ⟨Ao65,co65,eo65⟩:=Kd.R_slice HO893.out
         (first|subst eo65|(injection eo65 with f1_ f2_ f3_;have f4_:=f1_.symm;have f5_:=f3_.symm;clear f1_ f2_ f3_;subst f4_;subst f5_))
         obtain ⟨Ao66,co66,eo66⟩:=Kd.R_slice HO897.out
         (first|subst eo66|(injection eo66 with f1_ f2_ f3_;have f4_:=f1_.symm;have f5_:=f3_.symm;clear f1_ f2_ f3_;subst f4_;subst f5_))
         obtain ⟨Ao67,co67,eo67⟩:=Kd.R_slice HO900.out
         (first|subst eo67|(injection eo67 with f1_ f2_ f3_;have f4_:=f1_.symm;have f5_:=f3_.symm;clear f1_ f2_ f3_;subst f4_;subst f5_))
         obtain ⟨Ao68,co68,eo68⟩:=Kd.R_slice HO903.out
         (first|subst eo68|(injection eo68 with f1_ f2_ f3_;have f4_:=f1_.symm;have f5_:=f3_.symm;clear f1_ f2_ f3_;subst f4_;subst f5_))
         refine hK.out _ _ ⟨(blk_cell BK871.out 0).trans rfl,(blk_cell BK871.out 1).trans rfl,(blk_cell BK871.out 2).trans rfl,(blk_cell BK871.out 3).trans rfl,(blk_cell BK872.out 0).trans rfl,(blk_cell BK872.out 1).trans rfl,(blk_cell BK872.out 2).trans rfl,(blk_cell BK872.out 3).trans rfl⟩ (fun hHeld=>?_);clear hK K;refine rn ?_;refine ro 20 (some 54) (fun K hK=>?_);refine cr Tryz.func33 #[.agg #[.int .u32 t884,.slice Ao63 t885.length co63,.slice Ao64 t888.length co64,.slice Ao65 t891.length co65],.agg #[.int .u32 t894,.slice Ao66 t895.length co66,.slice Ao67 t898.length co67,.slice Ao68 t901.length co68]] ?_;with_reducible refine (r19_Same.calls kj5 t884 _ _ t885 _ _ t888 _ _ t891 t894 _ _ t895 _ _ t898 _ _ t901 t904 _ ?side1 ?side2 ?side3 ?side4 ?side5 ?side6 ?side7 ?side8 ?side9 ?side10 ?side11 ?side12 A55.out).mono ?_
         (case side1=>repeat (first|exact (Kd.R_reads' HO887.out).2.2|(with_reducible refine Kd.C_alloc ?_ _)|(with_reducible refine Kd.C_drewN ?_ _)|(with_reducible refine Kd.C_drew ?_)))
         (case side2=>exact (Kd.R_reads' HO887.out).2.1)
         (case side3=>repeat (first|exact (Kd.R_reads' HO890.out).2.2|(with_reducible refine Kd.C_alloc ?_ _)|(with_reducible refine Kd.C_drewN ?_ _)|(with_reducible refine Kd.C_drew ?_)))
         (case side4=>exact (Kd.R_reads' HO890.out).2.1)
         (case side5=>repeat (first|exact (Kd.R_reads' HO893.out).2.2|(with_reducible refine Kd.C_alloc ?_ _)|(with_reducible refine Kd.C_drewN ?_ _)|(with_reducible refine Kd.C_drew ?_)))
         (case side6=>exact (Kd.R_reads' HO893.out).2.1)
         (case side7=>repeat (first|exact (Kd.R_reads' HO897.out).2.2|(with_reducible refine Kd.C_alloc ?_ _)|(with_reducible refine Kd.C_drewN ?_ _)|(with_reducible refine Kd.C_drew ?_)))
         (case side8=>exact (Kd.R_reads' HO897.out).2.1)
         (case side9=>repeat (first|exact (Kd.R_reads' HO900.out).2.2|(with_reducible refine Kd.C_alloc ?_ _)|(with_reducible refine Kd.C_drewN ?_ _)|(with_reducible refine Kd.C_drew ?_)))
         (case side10=>exact (Kd.R_reads' HO900.out).2.1)
         (case side11=>repeat (first|exact (Kd.R_reads' HO903.out).2.2|(with_reducible refine Kd.C_alloc ?_ _)|(with_reducible refine Kd.C_drewN ?_ _)|(with_reducible refine Kd.C_drew ?_)))
         (case side12=>exact (Kd.R_reads' HO903.out).2.1)
         rintro e w69 ⟨rfl,hb⟩;refine ⟨_,rfl,?_⟩;replace HO887:=Aside0.mk (Kd.R_below (by (with_reducible repeat (first|apply Kd.R_alloc|apply Kd.R_drewN|apply Kd.R_drew));exact HO887.out) hb);replace HO890:=Aside0.mk (Kd.R_below (by (with_reducible repeat (first|apply Kd.R_alloc|apply Kd.R_drewN|apply Kd.R_drew));exact HO890.out) hb);replace HO893:=Aside0.mk (Kd.R_below (by (with_reducible repeat (first|apply Kd.R_alloc|apply Kd.R_drewN|apply Kd.R_drew));exact HO893.out) hb);replace HO897:=Aside0.mk (Kd.R_below (by (with_reducible repeat (first|apply Kd.R_alloc|apply Kd.R_drewN|apply Kd.R_drew));exact HO897.out) hb);replace HO900:=Aside0.mk (Kd.R_below (by (with_reducible repeat (first|apply Kd.R_alloc|apply Kd.R_drewN|apply Kd.R_drew));exact HO900.out) hb);replace HO903:=Aside0.mk (Kd.R_below (by (with_reducible repeat (first|apply Kd.R_alloc|apply Kd.R_drewN|apply Kd.R_drew));exact HO903.out) hb);replace BK871:=Aside0.mk (kb BK871 hb);replace BK872:=Aside0.mk (kb BK872 hb);replace HB:=Aside0.mk (below_step bD hb)
         (try clear hb)
         (try clear hb2)
         (try clear hk)
         (try clear hi)
         refine hK.out _ _ ⟨(blk_cell BK871.out 0).trans rfl,(blk_cell BK871.out 1).trans rfl,(blk_cell BK871.out 2).trans rfl,(blk_cell BK871.out 3).trans rfl,(blk_cell BK872.out 0).trans rfl,(blk_cell BK872.out 1).trans rfl,(blk_cell BK872.out 2).trans rfl,(blk_cell BK872.out 3).trans rfl⟩ (fun hHeld=>?_);clear hK K;refine rn ?_;refine rp 21 (some 55) ?_;refine rp 22 (some 56) ?_;refine done_ (done_of HT_.out (by kernel_rfl)) ?_
         try go_wp2
         go_meet
         case rel=>exact ⟨_,(!t904),eS,H',⟨by have:=HJ5.out;first|omega|exact Nat.le_refl _⟩,⟨kD⟩,⟨kD⟩,⟨bD⟩⟩
      ·replace c39:=Bool.eq_false_iff.mpr c39;subst c39;replace H:=ifFF H;have H':=Aside0.mk H;clear H;try go_wp2
       replace BK871:=Aside0.mk (blk_drew BK871.out);replace BK872:=Aside0.mk (blk_drew BK872.out);replace HB:=Aside0.mk (below_drew1 HB.out);refine rs 23 (fun w'=>True) [] trivial (fun hHeld=>?_);refine with_tabW w19_FlatRights.tab7 w19_FlatRights.bits7 (fun HT_ HW_=>?_);generalize w37.drew=w70 at BK871 BK872 HB hHeld ⊢;refine ro 0 (some 34) (fun K hK=>?_);refine cr Tryz.func28 #[] ?_;with_reducible refine (w19_alive.calls  false _ A38.out).mono ?_
       rintro e w71 ⟨rfl,hb⟩;refine ⟨_,rfl,?_⟩;replace BK871:=Aside0.mk (kb BK871 hb);replace BK872:=Aside0.mk (kb BK872 hb);replace HB:=Aside0.mk (below_step bD hb)
       (try clear hb)
       (try clear hb2)
       (try clear hk)
       (try clear hi)
       refine hK.out _ _ trivial (fun hHeld=>?_);clear hK K;refine rn ?_;refine rp 1 (some 35) ?_;refine rp 2 (some 36) ?_;refine rx 3 (some 37) ?_;refine rx 4 (some 38) ?_;refine rx 5 (some 39) ?_;refine rx 6 (some 40) ?_;refine rp 7 (some 41) ?_;refine rp 8 (some 42) ?_;refine rx 9 (some 43) ?_;refine rx 10 (some 44) ?_;refine rx 11 (some 45) ?_;refine rx 12 (some 46) ?_;refine rx 13 (some 47) ?_;refine rx 14 (some 48) ?_;refine rx 15 (some 49) ?_;refine rp 16 (some 50) ?_;refine rp 17 (some 51) ?_;refine rx 18 (some 52) ?_;refine rx 19 (some 53) ?_;refine rx 20 (some 54) ?_;refine rx 21 (some 55) ?_;refine rp 22 (some 56) ?_;refine done_ (done_of HT_.out (by kernel_rfl)) ?_
       try go_wp2
       go_meet
       case rel=>exact ⟨_,(true),eS,H',⟨by have:=HJ5.out;first|omega|exact Nat.le_refl _⟩,⟨kD⟩,⟨kD⟩,⟨bD⟩⟩
     case rest =>
      clear HC32
      (try clear c1;try clear c2;try clear p2;try clear c3;try clear c4;try clear c28;try clear c33;try clear c37;try clear c38;try clear c39;try clear c40)
      obtain ⟨kq,x56_31,rfl,HA,HJ31,BK871,BK872,HB⟩:=hcut;cases kq with
      | zero=>exact absurd HA.out (by simp [w19_FlatRights.j1])
      | succ kj31 =>
       have H:=HA.out;clear HA;simp only [w19_FlatRights.j1] at H;by_cases c72:x56_31=true
       ·subst c72;replace H:=ifTT H;obtain rfl:=Option.some.inj H;go_wp2
        go_ret
        exact ⟨eE,bD⟩
       ·replace c72:=Bool.eq_false_iff.mpr c72;subst c72;replace H:=ifFF H;by_cases c73:t877=true
        ·subst c73;replace H:=ifTT H;replace H:=Option.bind_eq_some_iff.mp H;obtain ⟨⟨t905,t906⟩,A740,H⟩:=H;replace H:(if t906=0 then (if 0≤t905 then (if t905<(l0_1.length:Int) then (if (rd_T43 l0_1 t905).f3=true then (if t878.toList=([]:List UInt8) then (some (t879 == 11)) else (some false)) else (if t879=0 then ((r19_Body.f kj31 a0_0 l0_1 l0_2 l0_3 ((rd_T43 l0_1 t905).f0)).bind fun t909=>(if 0≤t909 then (if t909<(l0_3.length:Int) then (some (t878.toList == ((rd_T87 l0_3 t909).f1).toList)) else (none)) else (none))) else (some false))) else (none)) else (none)) else (if t878.toList=([]:List UInt8) then (some (t879 == t906)) else (some false)))=some r:=H
         have A74:=Aside0.mk A740;clear A740;by_cases c75:t906=0
         ·rw [if_pos c75] at H;have c75b0:=qT c75;have c75b1:=nF c75;clear c75;by_cases c76:0≤t905
          ·rw [if_pos c76] at H;have c76b0:=decide_eq_true c76;clear c76;by_cases c77:t905<(l0_1.length:Int)
           ·rw [if_pos c77] at H;have c77b0:=decide_eq_true c77;clear c77;obtain ⟨bq78,hbq78⟩ : ∃ b_:Bool,b_=((rd_T43 l0_1 t905).f3):=⟨_,rfl⟩;replace H:(if bq78=true then (if t878.toList=([]:List UInt8) then (some (t879 == 11)) else (some false)) else (if t879=0 then ((r19_Body.f kj31 a0_0 l0_1 l0_2 l0_3 ((rd_T43 l0_1 t905).f0)).bind fun t909=>(if 0≤t909 then (if t909<(l0_3.length:Int) then (some (t878.toList == ((rd_T87 l0_3 t909).f1).toList)) else (none)) else (none))) else (some false)))=some r:=by rw [← hbq78] at H;exact H
            have Nbq78:=Aside0.mk hbq78;clear hbq78;by_cases c79:bq78=true
            ·subst c79;replace H:=ifTT H;by_cases c80:t878.toList=([]:List UInt8)
             ·rw [if_pos c80] at H;have c80b0:=qT c80;have c80b1:=nF c80;clear c80;obtain rfl:=Option.some.inj H;have hnb81:=NB871_872.out;have hnc81:=NB872_871.out;obtain ⟨hcz82_0,hcz82_1,hcz82_2,hcz82_3⟩:=cc4 BK871.out;obtain ⟨hfz82_0,hfz82_1,hfz82_2,hfz82_3⟩:=ff4 BK871.out;go_wp2_with (first|((with_reducible refine gate_callee (f:=35) rfl ?_);refine ca (some 69) Tryz.func35 #[.slice A0_1 l0_1.length c0_1,.string a2] ?_;(with_reducible refine (r10_Find.calls kj31 _ _ l0_1 a2 t905 t906 _ ?side1 ?side2 A74.out).mono ?_);(case side1=>exact cD);(case side2=>exact HC0_1.out);rintro e w83 ⟨rfl,hb⟩;refine ⟨_,rfl,?_⟩;replace BK871:=Aside0.mk (kb BK871 hb);replace BK872:=Aside0.mk (kb BK872 hb);replace HB:=Aside0.mk (below_step bD hb);(try clear hb);(try clear hb2);(try clear hk);(try clear hi);obtain ⟨hcz84_0,hcz84_1,hcz84_2,hcz84_3⟩:=cc4 BK871.out;obtain ⟨hfz84_0,hfz84_1,hfz84_2,hfz84_3⟩:=ff4 BK871.out;have p907:0≤(t905:Int):=pA;have q907:t905<(l0_1.length:Int):=pA;obtain ⟨ad907,e907,hx907_0,hx907_1,hx907_2,hx907_3,hx907_4⟩:=at_T43 HR0_1.out t905 p907 q907;(try rw [← Nbq78.out] at hx907_3);cases e907;replace hx907_0:=cB hx907_0;replace hx907_1:=cB hx907_1;replace hx907_2:=cB hx907_2;replace hx907_3:=cB hx907_3;replace hx907_4:=cB hx907_4;replace p907:=eq_true p907;replace q907:=eq_true q907))
              go_ret
              exact ⟨eE,bD⟩
             ·rw [if_neg c80] at H;have c80b0:=qF c80;have c80b1:=nT c80;obtain rfl:=Option.some.inj H;have hnb85:=NB871_872.out;have hnc85:=NB872_871.out;obtain ⟨hcz86_0,hcz86_1,hcz86_2,hcz86_3⟩:=cc4 BK871.out;obtain ⟨hfz86_0,hfz86_1,hfz86_2,hfz86_3⟩:=ff4 BK871.out;go_wp2_with (first|((with_reducible refine gate_callee (f:=35) rfl ?_);refine ca (some 69) Tryz.func35 #[.slice A0_1 l0_1.length c0_1,.string a2] ?_;(with_reducible refine (r10_Find.calls kj31 _ _ l0_1 a2 t905 t906 _ ?side1 ?side2 A74.out).mono ?_);(case side1=>exact cD);(case side2=>exact HC0_1.out);rintro e w87 ⟨rfl,hb⟩;refine ⟨_,rfl,?_⟩;replace BK871:=Aside0.mk (kb BK871 hb);replace BK872:=Aside0.mk (kb BK872 hb);replace HB:=Aside0.mk (below_step bD hb);(try clear hb);(try clear hb2);(try clear hk);(try clear hi);obtain ⟨hcz88_0,hcz88_1,hcz88_2,hcz88_3⟩:=cc4 BK871.out;obtain ⟨hfz88_0,hfz88_1,hfz88_2,hfz88_3⟩:=ff4 BK871.out;have p907:0≤(t905:Int):=pA;have q907:t905<(l0_1.length:Int):=pA;obtain ⟨ad907,e907,hx907_0,hx907_1,hx907_2,hx907_3,hx907_4⟩:=at_T43 HR0_1.out t905 p907 q907;(try rw [← Nbq78.out] at hx907_3);cases e907;replace hx907_0:=cB hx907_0;replace hx907_1:=cB hx907_1;replace hx907_2:=cB hx907_2;replace hx907_3:=cB hx907_3;replace hx907_4:=cB hx907_4;replace p907:=eq_true p907;replace q907:=eq_true q907))
              go_ret
              exact ⟨eE,bD⟩
            ·replace c79:=Bool.eq_false_iff.mpr c79;subst c79;replace H:=ifFF H;by_cases c89:t879=0
             ·rw [if_pos c89] at H;have c89b0:=qT c89;have c89b1:=nF c89;clear c89;replace H:=Option.bind_eq_some_iff.mp H;obtain ⟨t909,A900,H⟩:=H;replace H:(if 0≤t909 then (if t909<(l0_3.length:Int) then (some (t878.toList == ((rd_T87 l0_3 t909).f1).toList)) else (none)) else (none))=some r:=H
              have A90:=Aside0.mk A900;clear A900;by_cases c91:0≤t909
              ·rw [if_pos c91] at H;have c91b0:=decide_eq_true c91;clear c91;by_cases c92:t909<(l0_3.length:Int)
               ·rw [if_pos c92] at H;have c92b0:=decide_eq_true c92;clear c92;obtain rfl:=Option.some.inj H;have hnb93:=NB871_872.out;have hnc93:=NB872_871.out;obtain ⟨hcz94_0,hcz94_1,hcz94_2,hcz94_3⟩:=cc4 BK871.out;obtain ⟨hfz94_0,hfz94_1,hfz94_2,hfz94_3⟩:=ff4 BK871.out;try go_wp2_with (first|((with_reducible refine gate_callee (f:=35) rfl ?_);refine ca (some 69) Tryz.func35 #[.slice A0_1 l0_1.length c0_1,.string a2] ?_;(with_reducible refine (r10_Find.calls kj31 _ _ l0_1 a2 t905 t906 _ ?side1 ?side2 A74.out).mono ?_);(case side1=>exact cD);(case side2=>exact HC0_1.out);rintro e w95 ⟨rfl,hb⟩;refine ⟨_,rfl,?_⟩;replace BK871:=Aside0.mk (kb BK871 hb);replace BK872:=Aside0.mk (kb BK872 hb);replace HB:=Aside0.mk (below_step bD hb);(try clear hb);(try clear hb2);(try clear hk);(try clear hi);obtain ⟨hcz96_0,hcz96_1,hcz96_2,hcz96_3⟩:=cc4 BK871.out;obtain ⟨hfz96_0,hfz96_1,hfz96_2,hfz96_3⟩:=ff4 BK871.out;have p907:0≤(t905:Int):=pA;have q907:t905<(l0_1.length:Int):=pA;obtain ⟨ad907,e907,hx907_0,hx907_1,hx907_2,hx907_3,hx907_4⟩:=at_T43 HR0_1.out t905 p907 q907;(try rw [← Nbq78.out] at hx907_3);cases e907;replace hx907_0:=cB hx907_0;replace hx907_1:=cB hx907_1;replace hx907_2:=cB hx907_2;replace hx907_3:=cB hx907_3;replace hx907_4:=cB hx907_4;replace p907:=eq_true p907;replace q907:=eq_true q907))
                replace BK871:=Aside0.mk (blk_drew BK871.out);replace BK872:=Aside0.mk (blk_drew BK872.out);replace HB:=Aside0.mk (below_drew1 HB.out);have p908:0≤(t905:Int):=pA;have q908:t905<(l0_1.length:Int):=pA;obtain ⟨ad908,e908,hx908_0,hx908_1,hx908_2,hx908_3,hx908_4⟩:=at_T43 HR0_1.out t905 p908 q908;have hw908_4:=hx908_4;have hw908_3:=hx908_3;have hw908_2:=hx908_2;have hw908_1:=hx908_1;have hw908_0:=hx908_0
                (try rw [← Nbq78.out] at hx908_3)
                (try rw [← Nbq78.out] at hw908_3)
                obtain rfl:ad907=ad908:=(by injection e908)
                replace hx908_0:=cB hx908_0;replace hx908_1:=cB hx908_1;replace hx908_2:=cB hx908_2;replace hx908_3:=cB hx908_3;replace hx908_4:=cB hx908_4;replace p908:=eq_true p908;replace q908:=eq_true q908;have p910:0≤(t909:Int):=pA;have q910:t909<(l0_3.length:Int):=pA;obtain ⟨ad910,e910,hx910_0,hx910_1⟩:=at_T87 HR0_3.out t909 p910 q910;have hw910_1:=hx910_1;have hw910_0:=hx910_0;cases e910
                replace hx910_0:=cB hx910_0;replace hx910_1:=cB hx910_1;replace p910:=eq_true p910;replace q910:=eq_true q910;refine rs 20 (fun w'=>w'.cell? ⟨gb871,0,none⟩=some (.int .u32 a0_0)∧w'.cell? ⟨gb871,1,none⟩=some (.slice (some ad907) l0_1.length c0_1)∧w'.cell? ⟨gb871,2,none⟩=some (.slice A0_2 l0_2.length c0_2)∧w'.cell? ⟨gb871,3,none⟩=some (.slice (some ad910) l0_3.length c0_3)∧w'.cell? (ad907.add ((t905).toNat*5))=some (.int .u32 ((rd_T43 l0_1 t905).f0))∧w'.cell? ⟨(ad907.add ((t905).toNat*5)).block,(ad907.add ((t905).toNat*5)).off+1,none⟩=some (.int .u32 ((rd_T43 l0_1 t905).f1))∧w'.cell? ⟨(ad907.add ((t905).toNat*5)).block,(ad907.add ((t905).toNat*5)).off+2,none⟩=some (.string ((rd_T43 l0_1 t905).f2))∧w'.cell? ⟨(ad907.add ((t905).toNat*5)).block,(ad907.add ((t905).toNat*5)).off+3,none⟩=some (.bool (false))∧w'.cell? ⟨(ad907.add ((t905).toNat*5)).block,(ad907.add ((t905).toNat*5)).off+4,none⟩=some (.int .u32 ((rd_T43 l0_1 t905).f4))∧w'.cell? (ad910.add ((t909).toNat*2))=some (.int .u32 ((rd_T87 l0_3 t909).f0))∧w'.cell? ⟨(ad910.add ((t909).toNat*2)).block,(ad910.add ((t909).toNat*2)).off+1,none⟩=some (.string ((rd_T87 l0_3 t909).f1))) [] ⟨(blk_cell BK871.out 0).trans rfl,(blk_cell BK871.out 1).trans rfl,(blk_cell BK871.out 2).trans rfl,(blk_cell BK871.out 3).trans rfl,((HB.out.cell (bl hw908_0)).trans hw908_0),((HB.out.cell (bl hw908_1)).trans hw908_1),((HB.out.cell (bl hw908_2)).trans hw908_2),((HB.out.cell (bl hw908_3)).trans hw908_3),((HB.out.cell (bl hw908_4)).trans hw908_4),((HB.out.cell (bl hw910_0)).trans hw910_0),((HB.out.cell (bl hw910_1)).trans hw910_1)⟩ (fun hHeld=>?_);refine with_tabW w19_FlatRights.tab16 w19_FlatRights.bits16 (fun HT_ HW_=>?_);generalize w95.drew=w97 at BK871 BK872 HB hx908_0 hx908_1 hx908_2 hx908_3 hx908_4 hx910_0 hx910_1 hHeld ⊢;refine rp 0 (some 93) ?_;refine rp 1 (some 94) ?_;refine rp 2 (some 95) ?_;refine rp 3 (some 96) ?_;refine rp 4 (some 97) ?_;refine rp 7 (some 100) ?_;refine rp 9 (some 102) ?_;refine rt 5 (some 98) ?_;refine rt 6 (some 99) ?_;refine rt 8 (some 101) ?_;refine rp 10 (some 103) ?_;refine rp 11 (some 104) ?_;refine rt 12 (some 105) ?_;refine ro 13 (some 106) (fun K hK=>?_);refine cr Tryz.func41 #[.agg #[.int .u32 a0_0,.slice (some ad907) l0_1.length c0_1,.slice A0_2 l0_2.length c0_2,.slice (some ad910) l0_3.length c0_3],.int .u32 ((rd_T43 l0_1 t905).f0)] ?_;with_reducible refine (r19_Body.calls kj31 a0_0 _ _ l0_1 _ _ l0_2 _ _ l0_3 ((rd_T43 l0_1 t905).f0) t909 _ ?side1 ?side2 ?side3 ?side4 ?side5 ?side6 A90.out).mono ?_
                (case side1=>exact cD)
                (case side2=>exact HC0_1.out)
                (case side3=>exact cD)
                (case side4=>exact HC0_2.out)
                (case side5=>exact cD)
                (case side6=>exact HC0_3.out)
                rintro e w98 ⟨rfl,hb⟩;refine ⟨_,rfl,?_⟩;replace BK871:=Aside0.mk (kb BK871 hb);replace BK872:=Aside0.mk (kb BK872 hb);replace HB:=Aside0.mk (below_step bD hb)
                (try clear hb)
                (try clear hb2)
                (try clear hk)
                (try clear hi)
                refine hK.out _ _ ⟨(blk_cell BK871.out 0).trans rfl,(blk_cell BK871.out 1).trans rfl,(blk_cell BK871.out 2).trans rfl,(blk_cell BK871.out 3).trans rfl,((HB.out.cell (bl hw908_0)).trans hw908_0),((HB.out.cell (bl hw908_1)).trans hw908_1),((HB.out.cell (bl hw908_2)).trans hw908_2),((HB.out.cell (bl hw908_3)).trans hw908_3),((HB.out.cell (bl hw908_4)).trans hw908_4),((HB.out.cell (bl hw910_0)).trans hw910_0),((HB.out.cell (bl hw910_1)).trans hw910_1)⟩ (fun hHeld=>?_);clear hK K;refine rn ?_;refine rp 14 (some 107) ?_;refine rp 15 (some 108) ?_;refine rt 16 (some 109) ?_;refine rp 17 (some 110) ?_;refine rp 18 (some 111) ?_;refine rp 19 (some 6) ?_;refine done_ (done_of HT_.out (by kernel_rfl)) ?_
                try go_wp2
                go_ret
                exact ⟨eE,bD⟩
               ·rw [if_neg c92] at H;exact absurd H (by simp)
              ·rw [if_neg c91] at H;exact absurd H (by simp)
             ·rw [if_neg c89] at H;have c89b0:=qF c89;have c89b1:=nT c89;obtain rfl:=Option.some.inj H;have hnb99:=NB871_872.out;have hnc99:=NB872_871.out;obtain ⟨hcz100_0,hcz100_1,hcz100_2,hcz100_3⟩:=cc4 BK871.out;obtain ⟨hfz100_0,hfz100_1,hfz100_2,hfz100_3⟩:=ff4 BK871.out;try go_wp2_with (first|((with_reducible refine gate_callee (f:=35) rfl ?_);refine ca (some 69) Tryz.func35 #[.slice A0_1 l0_1.length c0_1,.string a2] ?_;(with_reducible refine (r10_Find.calls kj31 _ _ l0_1 a2 t905 t906 _ ?side1 ?side2 A74.out).mono ?_);(case side1=>exact cD);(case side2=>exact HC0_1.out);rintro e w101 ⟨rfl,hb⟩;refine ⟨_,rfl,?_⟩;replace BK871:=Aside0.mk (kb BK871 hb);replace BK872:=Aside0.mk (kb BK872 hb);replace HB:=Aside0.mk (below_step bD hb);(try clear hb);(try clear hb2);(try clear hk);(try clear hi);obtain ⟨hcz102_0,hcz102_1,hcz102_2,hcz102_3⟩:=cc4 BK871.out;obtain ⟨hfz102_0,hfz102_1,hfz102_2,hfz102_3⟩:=ff4 BK871.out;have p907:0≤(t905:Int):=pA;have q907:t905<(l0_1.length:Int):=pA;obtain ⟨ad907,e907,hx907_0,hx907_1,hx907_2,hx907_3,hx907_4⟩:=at_T43 HR0_1.out t905 p907 q907;(try rw [← Nbq78.out] at hx907_3);cases e907;replace hx907_0:=cB hx907_0;replace hx907_1:=cB hx907_1;replace hx907_2:=cB hx907_2;replace hx907_3:=cB hx907_3;replace hx907_4:=cB hx907_4;replace p907:=eq_true p907;replace q907:=eq_true q907))
              replace BK871:=Aside0.mk (blk_drew BK871.out);replace BK872:=Aside0.mk (blk_drew BK872.out);replace HB:=Aside0.mk (below_drew1 HB.out);refine rs 20 (fun w'=>True) [] trivial (fun hHeld=>?_);refine with_tabW w19_FlatRights.tab16 w19_FlatRights.bits16 (fun HT_ HW_=>?_);generalize w101.drew=w103 at BK871 BK872 HB hHeld ⊢;refine rp 0 (some 93) ?_;refine rp 1 (some 94) ?_;refine rp 2 (some 95) ?_;refine rx 3 (some 96) ?_;refine rx 4 (some 97) ?_;refine rx 5 (some 98) ?_;refine rx 6 (some 99) ?_;refine rx 7 (some 100) ?_;refine rx 8 (some 101) ?_;refine rx 9 (some 102) ?_;refine rx 10 (some 103) ?_;refine rx 11 (some 104) ?_;refine rx 12 (some 105) ?_;refine rx 13 (some 106) ?_;refine rx 14 (some 107) ?_;refine rx 15 (some 108) ?_;refine rx 16 (some 109) ?_;refine rx 17 (some 110) ?_;refine rp 18 (some 111) ?_;refine rp 19 (some 6) ?_;refine done_ (done_of HT_.out (by kernel_rfl)) ?_
              try go_wp2
              go_ret
              exact ⟨eE,bD⟩
           ·rw [if_neg c77] at H;exact absurd H (by simp)
          ·rw [if_neg c76] at H;exact absurd H (by simp)
         ·rw [if_neg c75] at H;have c75b0:=qF c75;have c75b1:=nT c75;by_cases c104:t878.toList=([]:List UInt8)
          ·rw [if_pos c104] at H;have c104b0:=qT c104;have c104b1:=nF c104;clear c104;obtain rfl:=Option.some.inj H;have hnb105:=NB871_872.out;have hnc105:=NB872_871.out;obtain ⟨hcz106_0,hcz106_1,hcz106_2,hcz106_3⟩:=cc4 BK871.out;obtain ⟨hfz106_0,hfz106_1,hfz106_2,hfz106_3⟩:=ff4 BK871.out;go_wp2_with (first|((with_reducible refine gate_callee (f:=35) rfl ?_);refine ca (some 69) Tryz.func35 #[.slice A0_1 l0_1.length c0_1,.string a2] ?_;(with_reducible refine (r10_Find.calls kj31 _ _ l0_1 a2 t905 t906 _ ?side1 ?side2 A74.out).mono ?_);(case side1=>exact cD);(case side2=>exact HC0_1.out);rintro e w107 ⟨rfl,hb⟩;refine ⟨_,rfl,?_⟩;replace BK871:=Aside0.mk (kb BK871 hb);replace BK872:=Aside0.mk (kb BK872 hb);replace HB:=Aside0.mk (below_step bD hb);(try clear hb);(try clear hb2);(try clear hk);(try clear hi)))
           go_ret
           exact ⟨eE,bD⟩
          ·rw [if_neg c104] at H;have c104b0:=qF c104;have c104b1:=nT c104;obtain rfl:=Option.some.inj H;have hnb108:=NB871_872.out;have hnc108:=NB872_871.out;obtain ⟨hcz109_0,hcz109_1,hcz109_2,hcz109_3⟩:=cc4 BK871.out;obtain ⟨hfz109_0,hfz109_1,hfz109_2,hfz109_3⟩:=ff4 BK871.out;go_wp2_with (first|((with_reducible refine gate_callee (f:=35) rfl ?_);refine ca (some 69) Tryz.func35 #[.slice A0_1 l0_1.length c0_1,.string a2] ?_;(with_reducible refine (r10_Find.calls kj31 _ _ l0_1 a2 t905 t906 _ ?side1 ?side2 A74.out).mono ?_);(case side1=>exact cD);(case side2=>exact HC0_1.out);rintro e w110 ⟨rfl,hb⟩;refine ⟨_,rfl,?_⟩;replace BK871:=Aside0.mk (kb BK871 hb);replace BK872:=Aside0.mk (kb BK872 hb);replace HB:=Aside0.mk (below_step bD hb);(try clear hb);(try clear hb2);(try clear hk);(try clear hi)))
           go_ret
           exact ⟨eE,bD⟩
        ·replace c73:=Bool.eq_false_iff.mpr c73;subst c73;replace H:=ifFF H;by_cases c111:t878.toList=([]:List UInt8)
         ·rw [if_pos c111] at H;have c111b0:=qT c111;have c111b1:=nF c111;clear c111;obtain rfl:=Option.some.inj H;go_wp2
          go_ret
          exact ⟨eE,bD⟩
         ·rw [if_neg c111] at H;have c111b0:=qF c111;have c111b1:=nT c111;obtain rfl:=Option.some.inj H;go_wp2
          go_ret
          exact ⟨eE,bD⟩
 ·replace c5:=Bool.eq_false_iff.mpr c5;subst c5;replace H:=ifFF H;obtain rfl:=Option.some.inj H;go_enter Tryz.func10,Tryz.ntmps10;go_wp2_with (first|((with_reducible refine gate_dst (N:=3) rfl ?_);(try (refine gate_guard (by rfl) ?_;dsimp only));refine bx 3 #[.int .u32 a0_0,.slice A0_1 l0_1.length c0_1,.slice A0_2 l0_2.length c0_2,.slice A0_3 l0_3.length c0_3] 67 ?_;intro gb871 hg w112 hbox hb;have BK871:=Aside0.mk (hbox);have GW871:=Aside0.mk ((gG hg:w.heap.size≤gb871));have GE871:=Aside0.mk ((gG hg:w.heap.size≤gb871));replace HB:=Aside0.mk (below_step bD hb);clear hb hbox hg)|((with_reducible refine gate_dst (N:=4) rfl ?_);(try (refine gate_guard (by rfl) ?_;dsimp only));refine bx 4 #[.int .u32 a1_0,.slice A1_1 l1_1.length c1_1,.slice A1_2 l1_2.length c1_2,.slice A1_3 l1_3.length c1_3] 67 ?_;intro gb872 hg w113 hbox hb;have n0_:=Aside0.mk (kb BK871 hb);have n1_:=Aside0.mk (below_step bD hb);have n2_:=Aside0.mk (hbox);have n3_:=Aside0.mk ((gG hg:w.heap.size≤gb872));have n4_:=Aside0.mk ((gG hg:w.heap.size≤gb872));have n5_:=Aside0.mk ((gN BK871 hg));have n6_:=Aside0.mk ((gN' BK871 hg));clear BK871;clear HB;have BK871:=n0_;have HB:=n1_;have BK872:=n2_;have GW872:=n3_;have GE872:=n4_;have NB871_872:=n5_;have NB872_871:=n6_;clear n0_ n1_ n2_ n3_ n4_ n5_ n6_;clear hb hbox hg)|((with_reducible refine gate_callee (f:=28) rfl ?_);refine ca (some 12) Tryz.func28 #[] ?_;(with_reducible refine (w19_alive.calls  false _ A4.out).mono ?_);rintro e w114 ⟨rfl,hb⟩;refine ⟨_,rfl,?_⟩;replace BK871:=Aside0.mk (kb BK871 hb);replace BK872:=Aside0.mk (kb BK872 hb);replace HB:=Aside0.mk (below_step bD hb);(try clear hb);(try clear hb2);(try clear hk);(try clear hi)))
  go_ret
  exact ⟨eE,bD⟩
end
end Go.Proofs.YtikjfekagdcjmaaGreatDoor.Q
