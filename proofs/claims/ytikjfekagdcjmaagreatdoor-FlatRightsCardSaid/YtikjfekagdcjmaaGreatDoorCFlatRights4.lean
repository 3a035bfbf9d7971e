/- Contracts and plain theory behind FlatRights. -/
import Derived.Test.YtikjfekagdcjmaaGreatDoorCFlatRights2
import Derived.Test.YtikjfekagdcjmaaGreatDoorCFlatRights3
set_option linter.unusedVariables false
set_option linter.unusedSimpArgs false
set_option maxHeartbeats 16000000
set_option maxRecDepth 100000
namespace Go.Proofs.YtikjfekagdcjmaaGreatDoor.Q
open Go.RowKit Go.Proofs.YtikjfekagdcjmaaGreatDoorW.PrintWords Go.Proofs.YtikjfekagdcjmaaGreatDoorW.PrintLast Go.Proofs.YtikjfekagdcjmaaGreatDoorW.PrintMore
section
attribute [local go_sem] max2_int min2_int max_two min_two max_three min_three max_four min_four
mutual
def r10_Name.j0:Nat→ByteArray→Bool→Option (Bool)
 | 0,_,_=>none
 | k+1,x0,x20=>if x20=true then (some false) else (r10_Name.l0 k x0 0)
def r10_Name.l0:Nat→ByteArray→Int→Option (Bool)
 | 0,_,_=>none
 | k+1,x0,x3=>if x3<(x0.size:Int) then (if 0≤x3 then (if (bt x0 x3)≥97 then (if (bt x0 x3)≤122 then (r10_Name.l0 k x0 (wrap64 (x3+1))) else (if (bt x0 x3)≥48 then (if (bt x0 x3)≤57 then (r10_Name.l0 k x0 (wrap64 (x3+1))) else (if (bt x0 x3)=46 then (r10_Name.l0 k x0 (wrap64 (x3+1))) else (if (bt x0 x3)=95 then (r10_Name.l0 k x0 (wrap64 (x3+1))) else (if ((bt x0 x3)=45) then (r10_Name.l0 k x0 (wrap64 (x3+1))) else (some false))))) else (if (bt x0 x3)=46 then (r10_Name.l0 k x0 (wrap64 (x3+1))) else (if (bt x0 x3)=95 then (r10_Name.l0 k x0 (wrap64 (x3+1))) else (if ((bt x0 x3)=45) then (r10_Name.l0 k x0 (wrap64 (x3+1))) else (some false)))))) else (if (bt x0 x3)≥48 then (if (bt x0 x3)≤57 then (r10_Name.l0 k x0 (wrap64 (x3+1))) else (if (bt x0 x3)=46 then (r10_Name.l0 k x0 (wrap64 (x3+1))) else (if (bt x0 x3)=95 then (r10_Name.l0 k x0 (wrap64 (x3+1))) else (if ((bt x0 x3)=45) then (r10_Name.l0 k x0 (wrap64 (x3+1))) else (some false))))) else (if (bt x0 x3)=46 then (r10_Name.l0 k x0 (wrap64 (x3+1))) else (if (bt x0 x3)=95 then (r10_Name.l0 k x0 (wrap64 (x3+1))) else (if ((bt x0 x3)=45) then (r10_Name.l0 k x0 (wrap64 (x3+1))) else (some false)))))) else (none)) else (some true)
end
def r10_Name.f (k:Nat) (a0:ByteArray):Option (Bool):=if (a0.size:Int)<1 then (r10_Name.j0 k a0 true) else (if (a0.size:Int)>8 then (r10_Name.j0 k a0 true) else (if a0.toList=([46]:List UInt8) then (r10_Name.j0 k a0 true) else (r10_Name.j0 k a0 (a0.toList == ([46,46]:List UInt8)))))
theorem r10_Name.calls (k:Nat) (a0:ByteArray) (r:Bool) (w:World) (h:r10_Name.f k a0=some r) :
  Calls Tryz.prog 167 #[.string a0] w fun e w'=>e=.returned (.bool r)∧Drawn0 w w':=by
 have H:(if (a0.size:Int)<1 then (r10_Name.j0 k a0 true) else (if (a0.size:Int)>8 then (r10_Name.j0 k a0 true) else (if a0.toList=([46]:List UInt8) then (r10_Name.j0 k a0 true) else (r10_Name.j0 k a0 (a0.toList == ([46,46]:List UInt8))))))=some r:=h
 clear h;have HC2:=Aside0.mk H;clear H;go_enter Tryz.func167,Tryz.ntmps167;go_upto_region 1 with (fail)
 go_cut [20] (fun v20 wc=>∃ (kq:Nat) (x20_1:Bool),v20=.bool x20_1∧Aside0 (r10_Name.j0 kq a0 x20_1=some r)∧Aside0 (kq≤k)∧Drawn0 w wc)
 case first =>
  have H:=HC2.out;clear HC2;by_cases c3:(a0.size:Int)<1
  ·rw [if_pos c3] at H;have c3b0:=decide_eq_true c3;have c3b1:decide (a0.size<1)=true:=decide_eq_true (by omega)
   clear c3
   (first|rw [c3b0]|(simp only [i64_w,i32_w];rw [c3b0])|skip)
   have H':=Aside0.mk H;clear H;go_wp2
   go_meet
   case rel=>exact ⟨_,(true),eS,H',⟨by first|omega|exact Nat.le_refl _⟩,dD⟩
  ·rw [if_neg c3] at H;have c3b0:=decide_eq_false c3;have c3b1:decide (a0.size<1)=false:=decide_eq_false (by omega)
   clear c3
   (first|rw [c3b0]|(simp only [i64_w,i32_w];rw [c3b0])|skip)
   by_cases c4:(a0.size:Int)>8
   ·rw [if_pos c4] at H;have c4b0:=decide_eq_true c4;have c4b1:decide (8<a0.size)=true:=decide_eq_true (by omega)
    clear c4;have H':=Aside0.mk H;clear H;go_wp2
    go_meet
    case rel=>exact ⟨_,(true),eS,H',⟨by first|omega|exact Nat.le_refl _⟩,dD⟩
   ·rw [if_neg c4] at H;have c4b0:=decide_eq_false c4;have c4b1:decide (8<a0.size)=false:=decide_eq_false (by omega)
    clear c4;by_cases c5:a0.toList=([46]:List UInt8)
    ·rw [if_pos c5] at H;have c5b0:=qT c5;have c5b1:=nF c5;clear c5;have H':=Aside0.mk H;clear H;go_wp2
     go_meet
     case rel=>exact ⟨_,(true),eS,H',⟨by first|omega|exact Nat.le_refl _⟩,dD⟩
    ·rw [if_neg c5] at H;have c5b0:=qF c5;have c5b1:=nT c5;have H':=Aside0.mk H;clear H;go_wp2
     go_meet
     case rel=>exact ⟨_,((a0.toList == ([46,46]:List UInt8))),eS,H',⟨by first|omega|exact Nat.le_refl _⟩,dD⟩
 case rest =>
  clear HC2
  (try clear c1;try clear p2;try clear c3;try clear c3b0;try clear c3b1;try clear c4;try clear c4b0;try clear c4b1;try clear c5;try clear c5b0;try clear c5b1)
  obtain ⟨kq,x20_1,rfl,HA,HJ1,⟨mc1,rfl⟩⟩:=hcut;cases kq with
  | zero=>exact absurd HA.out (by simp [r10_Name.j0])
  | succ kj1 =>
   have H:=HA.out;clear HA;simp only [r10_Name.j0] at H;by_cases c6:x20_1=true
   ·subst c6;replace H:=ifTT H;obtain rfl:=Option.some.inj H;go_wp2
    go_ret
    exact ⟨eS,dD⟩
   ·replace c6:=Bool.eq_false_iff.mpr c6;subst c6;replace H:=ifFF H;have H':=Aside0.mk H;clear H;go_wp2
    go_loopg [3] kj1 (fun kq v3 w'=>∃ (x3_2:Int),v3=.int .i64 x3_2∧Aside0 (r10_Name.l0 kq a0 x3_2=some r)∧Aside0 (kq≤kj1)∧Drawn0 w w')
    case atStart=>exact ⟨(0),eS,H',⟨Nat.le_refl _⟩,dD⟩
    case round =>
     clear H'
     (try clear c1;try clear p2;try clear c3;try clear c3b0;try clear c3b1;try clear c4;try clear c4b0;try clear c4b1;try clear c5;try clear c5b0;try clear c5b1;try clear c6;try clear p2)
     obtain ⟨x3_2,rfl,HA,HK2,⟨m2,rfl⟩⟩:=hrel;cases gk with
     | zero=>exact absurd HA.out (by simp [r10_Name.l0])
     | succ k2 =>
      have H:=HA.out;clear HA;simp only [r10_Name.l0] at H;by_cases c7:x3_2<(a0.size:Int)
      ·rw [if_pos c7] at H;have c7b0:=decide_eq_true c7;clear c7;by_cases c8:0≤x3_2
       ·rw [if_pos c8] at H;have c8b0:=decide_eq_true c8;clear c8;by_cases c10:(bt a0 x3_2)≥97
        ·rw [if_pos c10] at H;have c10b0:=decide_eq_true c10;clear c10;by_cases c11:(bt a0 x3_2)≤122
         ·rw [if_pos c11] at H;have c11b0:=decide_eq_true c11;clear c11;have H':=Aside0.mk H;clear H;have p9:0≤(x3_2:Int):=pA;have q9:x3_2<(a0.size:Int):=pA;have hx9:=bt_at a0 x3_2;replace p9:=eq_true p9;replace q9:=eq_true q9;go_wp2
          go_roundg k2
          case measure=>have:=HJ1.out;have:=HK2.out;omega
          case rel=>exact ⟨(wrap64 (x3_2+1)),eS,H',⟨by have:=HJ1.out;have:=HK2.out;omega⟩,dD⟩
         ·rw [if_neg c11] at H;have c11b0:=decide_eq_false c11;clear c11;by_cases c12:(bt a0 x3_2)≥48
          ·rw [if_pos c12] at H;have c12b0:=decide_eq_true c12;clear c12;by_cases c13:(bt a0 x3_2)≤57
           ·rw [if_pos c13] at H;have c13b0:=decide_eq_true c13;clear c13;have H':=Aside0.mk H;clear H;have p9:0≤(x3_2:Int):=pA;have q9:x3_2<(a0.size:Int):=pA;have hx9:=bt_at a0 x3_2;replace p9:=eq_true p9;replace q9:=eq_true q9;go_wp2
            go_roundg k2
            case measure=>have:=HJ1.out;have:=HK2.out;omega
            case rel=>exact ⟨(wrap64 (x3_2+1)),eS,H',⟨by have:=HJ1.out;have:=HK2.out;omega⟩,dD⟩
           ·rw [if_neg c13] at H;have c13b0:=decide_eq_false c13;clear c13;by_cases c14:(bt a0 x3_2)=46
            ·rw [if_pos c14] at H;have c14b0:=qT c14;have c14b1:=nF c14;clear c14;have H':=Aside0.mk H;clear H;have p9:0≤(x3_2:Int):=pA;have q9:x3_2<(a0.size:Int):=pA;have hx9:=bt_at a0 x3_2;replace p9:=eq_true p9;replace q9:=eq_true q9;go_wp2
             go_roundg k2
             case measure=>have:=HJ1.out;have:=HK2.out;omega
             case rel=>exact ⟨(wrap64 (x3_2+1)),eS,H',⟨by have:=HJ1.out;have:=HK2.out;omega⟩,dD⟩
            ·rw [if_neg c14] at H;have c14b0:=qF c14;have c14b1:=nT c14;by_cases c15:(bt a0 x3_2)=95
             ·rw [if_pos c15] at H;have c15b0:=qT c15;have c15b1:=nF c15;clear c15;have H':=Aside0.mk H;clear H;have p9:0≤(x3_2:Int):=pA;have q9:x3_2<(a0.size:Int):=pA;have hx9:=bt_at a0 x3_2;replace p9:=eq_true p9;replace q9:=eq_true q9;go_wp2
              go_roundg k2
              case measure=>have:=HJ1.out;have:=HK2.out;omega
              case rel=>exact ⟨(wrap64 (x3_2+1)),eS,H',⟨by have:=HJ1.out;have:=HK2.out;omega⟩,dD⟩
             ·rw [if_neg c15] at H;have c15b0:=qF c15;have c15b1:=nT c15;by_cases c16:((bt a0 x3_2)=45)
              ·rw [if_pos c16] at H;have c16b0:=qT c16;have c16b1:=nF c16;clear c16;have H':=Aside0.mk H;clear H;have p9:0≤(x3_2:Int):=pA;have q9:x3_2<(a0.size:Int):=pA;have hx9:=bt_at a0 x3_2;replace p9:=eq_true p9;replace q9:=eq_true q9;go_wp2
               go_roundg k2
               case measure=>have:=HJ1.out;have:=HK2.out;omega
               case rel=>exact ⟨(wrap64 (x3_2+1)),eS,H',⟨by have:=HJ1.out;have:=HK2.out;omega⟩,dD⟩
              ·rw [if_neg c16] at H;have c16b0:=qF c16;have c16b1:=nT c16;obtain rfl:=Option.some.inj H;have p9:0≤(x3_2:Int):=pA;have q9:x3_2<(a0.size:Int):=pA;have hx9:=bt_at a0 x3_2;replace p9:=eq_true p9;replace q9:=eq_true q9;go_wp2
               go_ret
               exact ⟨eS,dD⟩
          ·rw [if_neg c12] at H;have c12b0:=decide_eq_false c12;clear c12;by_cases c17:(bt a0 x3_2)=46
           ·rw [if_pos c17] at H;have c17b0:=qT c17;have c17b1:=nF c17;clear c17;have H':=Aside0.mk H;clear H;have p9:0≤(x3_2:Int):=pA;have q9:x3_2<(a0.size:Int):=pA;have hx9:=bt_at a0 x3_2;replace p9:=eq_true p9;replace q9:=eq_true q9;go_wp2
            go_roundg k2
            case measure=>have:=HJ1.out;have:=HK2.out;omega
            case rel=>exact ⟨(wrap64 (x3_2+1)),eS,H',⟨by have:=HJ1.out;have:=HK2.out;omega⟩,dD⟩
           ·rw [if_neg c17] at H;have c17b0:=qF c17;have c17b1:=nT c17;by_cases c18:(bt a0 x3_2)=95
            ·rw [if_pos c18] at H;have c18b0:=qT c18;have c18b1:=nF c18;clear c18;have H':=Aside0.mk H;clear H;have p9:0≤(x3_2:Int):=pA;have q9:x3_2<(a0.size:Int):=pA;have hx9:=bt_at a0 x3_2;replace p9:=eq_true p9;replace q9:=eq_true q9;go_wp2
             go_roundg k2
             case measure=>have:=HJ1.out;have:=HK2.out;omega
             case rel=>exact ⟨(wrap64 (x3_2+1)),eS,H',⟨by have:=HJ1.out;have:=HK2.out;omega⟩,dD⟩
            ·rw [if_neg c18] at H;have c18b0:=qF c18;have c18b1:=nT c18;by_cases c19:((bt a0 x3_2)=45)
             ·rw [if_pos c19] at H;have c19b0:=qT c19;have c19b1:=nF c19;clear c19;have H':=Aside0.mk H;clear H;have p9:0≤(x3_2:Int):=pA;have q9:x3_2<(a0.size:Int):=pA;have hx9:=bt_at a0 x3_2;replace p9:=eq_true p9;replace q9:=eq_true q9;go_wp2
              go_roundg k2
              case measure=>have:=HJ1.out;have:=HK2.out;omega
              case rel=>exact ⟨(wrap64 (x3_2+1)),eS,H',⟨by have:=HJ1.out;have:=HK2.out;omega⟩,dD⟩
             ·rw [if_neg c19] at H;have c19b0:=qF c19;have c19b1:=nT c19;obtain rfl:=Option.some.inj H;have p9:0≤(x3_2:Int):=pA;have q9:x3_2<(a0.size:Int):=pA;have hx9:=bt_at a0 x3_2;replace p9:=eq_true p9;replace q9:=eq_true q9;go_wp2
              go_ret
              exact ⟨eS,dD⟩
        ·rw [if_neg c10] at H;have c10b0:=decide_eq_false c10;clear c10;by_cases c20:(bt a0 x3_2)≥48
         ·rw [if_pos c20] at H;have c20b0:=decide_eq_true c20;clear c20;by_cases c21:(bt a0 x3_2)≤57
          ·rw [if_pos c21] at H;have c21b0:=decide_eq_true c21;clear c21;have H':=Aside0.mk H;clear H;have p9:0≤(x3_2:Int):=pA;have q9:x3_2<(a0.size:Int):=pA;have hx9:=bt_at a0 x3_2;replace p9:=eq_true p9;replace q9:=eq_true q9;go_wp2
           go_roundg k2
           case measure=>have:=HJ1.out;have:=HK2.out;omega
           case rel=>exact ⟨(wrap64 (x3_2+1)),eS,H',⟨by have:=HJ1.out;have:=HK2.out;omega⟩,dD⟩
          ·rw [if_neg c21] at H;have c21b0:=decide_eq_false c21;clear c21;by_cases c22:(bt a0 x3_2)=46
           ·rw [if_pos c22] at H;have c22b0:=qT c22;have c22b1:=nF c22;clear c22;have H':=Aside0.mk H;clear H;have p9:0≤(x3_2:Int):=pA;have q9:x3_2<(a0.size:Int):=pA;have hx9:=bt_at a0 x3_2;replace p9:=eq_true p9;replace q9:=eq_true q9;go_wp2
            go_roundg k2
            case measure=>have:=HJ1.out;have:=HK2.out;omega
            case rel=>exact ⟨(wrap64 (x3_2+1)),eS,H',⟨by have:=HJ1.out;have:=HK2.out;omega⟩,dD⟩
           ·rw [if_neg c22] at H;have c22b0:=qF c22;have c22b1:=nT c22;by_cases c23:(bt a0 x3_2)=95
            ·rw [if_pos c23] at H;have c23b0:=qT c23;have c23b1:=nF c23;clear c23;have H':=Aside0.mk H;clear H;have p9:0≤(x3_2:Int):=pA;have q9:x3_2<(a0.size:Int):=pA;have hx9:=bt_at a0 x3_2;replace p9:=eq_true p9;replace q9:=eq_true q9;go_wp2
             go_roundg k2
             case measure=>have:=HJ1.out;have:=HK2.out;omega
             case rel=>exact ⟨(wrap64 (x3_2+1)),eS,H',⟨by have:=HJ1.out;have:=HK2.out;omega⟩,dD⟩
            ·rw [if_neg c23] at H;have c23b0:=qF c23;have c23b1:=nT c23;by_cases c24:((bt a0 x3_2)=45)
             ·rw [if_pos c24] at H;have c24b0:=qT c24;have c24b1:=nF c24;clear c24;have H':=Aside0.mk H;clear H;have p9:0≤(x3_2:Int):=pA;have q9:x3_2<(a0.size:Int):=pA;have hx9:=bt_at a0 x3_2;replace p9:=eq_true p9;replace q9:=eq_true q9;go_wp2
              go_roundg k2
              case measure=>have:=HJ1.out;have:=HK2.out;omega
              case rel=>exact ⟨(wrap64 (x3_2+1)),eS,H',⟨by have:=HJ1.out;have:=HK2.out;omega⟩,dD⟩
             ·rw [if_neg c24] at H;have c24b0:=qF c24;have c24b1:=nT c24;obtain rfl:=Option.some.inj H;have p9:0≤(x3_2:Int):=pA;have q9:x3_2<(a0.size:Int):=pA;have hx9:=bt_at a0 x3_2;replace p9:=eq_true p9;replace q9:=eq_true q9;go_wp2
              go_ret
              exact ⟨eS,dD⟩
         ·rw [if_neg c20] at H;have c20b0:=decide_eq_false c20;clear c20;by_cases c25:(bt a0 x3_2)=46
          ·rw [if_pos c25] at H;have c25b0:=qT c25;have c25b1:=nF c25;clear c25;have H':=Aside0.mk H;clear H;have p9:0≤(x3_2:Int):=pA;have q9:x3_2<(a0.size:Int):=pA;have hx9:=bt_at a0 x3_2;replace p9:=eq_true p9;replace q9:=eq_true q9;go_wp2
           go_roundg k2
           case measure=>have:=HJ1.out;have:=HK2.out;omega
           case rel=>exact ⟨(wrap64 (x3_2+1)),eS,H',⟨by have:=HJ1.out;have:=HK2.out;omega⟩,dD⟩
          ·rw [if_neg c25] at H;have c25b0:=qF c25;have c25b1:=nT c25;by_cases c26:(bt a0 x3_2)=95
           ·rw [if_pos c26] at H;have c26b0:=qT c26;have c26b1:=nF c26;clear c26;have H':=Aside0.mk H;clear H;have p9:0≤(x3_2:Int):=pA;have q9:x3_2<(a0.size:Int):=pA;have hx9:=bt_at a0 x3_2;replace p9:=eq_true p9;replace q9:=eq_true q9;go_wp2
            go_roundg k2
            case measure=>have:=HJ1.out;have:=HK2.out;omega
            case rel=>exact ⟨(wrap64 (x3_2+1)),eS,H',⟨by have:=HJ1.out;have:=HK2.out;omega⟩,dD⟩
           ·rw [if_neg c26] at H;have c26b0:=qF c26;have c26b1:=nT c26;by_cases c27:((bt a0 x3_2)=45)
            ·rw [if_pos c27] at H;have c27b0:=qT c27;have c27b1:=nF c27;clear c27;have H':=Aside0.mk H;clear H;have p9:0≤(x3_2:Int):=pA;have q9:x3_2<(a0.size:Int):=pA;have hx9:=bt_at a0 x3_2;replace p9:=eq_true p9;replace q9:=eq_true q9;go_wp2
             go_roundg k2
             case measure=>have:=HJ1.out;have:=HK2.out;omega
             case rel=>exact ⟨(wrap64 (x3_2+1)),eS,H',⟨by have:=HJ1.out;have:=HK2.out;omega⟩,dD⟩
            ·rw [if_neg c27] at H;have c27b0:=qF c27;have c27b1:=nT c27;obtain rfl:=Option.some.inj H;have p9:0≤(x3_2:Int):=pA;have q9:x3_2<(a0.size:Int):=pA;have hx9:=bt_at a0 x3_2;replace p9:=eq_true p9;replace q9:=eq_true q9;go_wp2
             go_ret
             exact ⟨eS,dD⟩
       ·rw [if_neg c8] at H;exact absurd H (by simp)
      ·rw [if_neg c7] at H;have c7b0:=decide_eq_false c7;clear c7;obtain rfl:=Option.some.inj H;go_wp2
       go_ret
       exact ⟨eS,dD⟩
def r10_Kid.l0:Nat→List (S43)→Int→ByteArray→Int→Option (Int)
 | 0,_,_,_,_=>none
 | k+1,x0,x1,x2,x7=>if x7<(x0.length:Int) then (if 0≤x7 then (if ((rd_T43 x0 x7).f1)=x1 then (if ((rd_T43 x0 x7).f2).toList=x2.toList then (some x7) else (r10_Kid.l0 k x0 x1 x2 (wrap64 (x7+1)))) else (r10_Kid.l0 k x0 x1 x2 (wrap64 (x7+1)))) else (none)) else (some (-1))
def r10_Kid.f (k:Nat) (l0:List (S43)) (a1:Int) (a2:ByteArray):Option (Int):=r10_Kid.l0 k l0 a1 a2 1
theorem r10_Kid.calls (k:Nat) (A0:Option Addr) (c0:Nat) (l0:List (S43)) (a1:Int) (a2:ByteArray) (r:Int) (w:World) (hr0:Kd.C k43 w A0 l0.length l0) (hc0:l0.length≤c0) (h:r10_Kid.f k l0 a1 a2=some r) :
  Calls Tryz.prog 168 #[.slice A0 l0.length c0,.int .u32 a1,.string a2] w fun e w'=>e=.returned (.int .i64 r)∧Drawn0 w w':=by
 have HR0:=Aside0.mk hr0;have HC0:=Aside0.mk hc0;clear hr0 hc0;have H:(r10_Kid.l0 k l0 a1 a2 1)=some r:=h;clear h;have H':=Aside0.mk H;clear H;go_enter Tryz.func168,Tryz.ntmps168;go_wp2
 go_loopg [7] k (fun kq v7 w'=>∃ (x7_1:Int),v7=.int .i64 x7_1∧Aside0 (r10_Kid.l0 kq l0 a1 a2 x7_1=some r)∧Aside0 (kq≤k)∧Drawn0 w w')
 case atStart=>exact ⟨(1),eS,H',⟨Nat.le_refl _⟩,dD⟩
 case round =>
  clear H'
  (try clear c1;try clear p2)
  obtain ⟨x7_1,rfl,HA,HK1,⟨m1,rfl⟩⟩:=hrel;cases gk with
  | zero=>exact absurd HA.out (by simp [r10_Kid.l0])
  | succ k1 =>
   have H:=HA.out;clear HA;simp only [r10_Kid.l0] at H;by_cases c4:x7_1<(l0.length:Int)
   ·rw [if_pos c4] at H;have c4b0:=decide_eq_true c4;clear c4;by_cases c5:0≤x7_1
    ·rw [if_pos c5] at H;have c5b0:=decide_eq_true c5;clear c5;by_cases c6:((rd_T43 l0 x7_1).f1)=a1
     ·rw [if_pos c6] at H;have c6b0:=qT c6;have c6b1:=nF c6;clear c6;by_cases c7:((rd_T43 l0 x7_1).f2).toList=a2.toList
      ·rw [if_pos c7] at H;have c7b0:=qT c7;have c7b1:=nF c7;clear c7;obtain rfl:=Option.some.inj H;have p312:0≤(x7_1:Int):=pA;have q312:x7_1<(l0.length:Int):=pA;obtain ⟨ad312,e312,hx312_0,hx312_1,hx312_2,hx312_3,hx312_4⟩:=at_T43 HR0.out x7_1 p312 q312;cases e312
       replace p312:=eq_true p312;replace q312:=eq_true q312;have p313:0≤(x7_1:Int):=pA;have q313:x7_1<(l0.length:Int):=pA;obtain ⟨ad313,e313,hx313_0,hx313_1,hx313_2,hx313_3,hx313_4⟩:=at_T43 HR0.out x7_1 p313 q313;obtain rfl:ad312=ad313:=(by injection e313)
       replace p313:=eq_true p313;replace q313:=eq_true q313;go_wp2
       go_ret
       exact ⟨eS,dD⟩
      ·rw [if_neg c7] at H;have c7b0:=qF c7;have c7b1:=nT c7;have H':=Aside0.mk H;clear H;have p312:0≤(x7_1:Int):=pA;have q312:x7_1<(l0.length:Int):=pA;obtain ⟨ad312,e312,hx312_0,hx312_1,hx312_2,hx312_3,hx312_4⟩:=at_T43 HR0.out x7_1 p312 q312;cases e312
       replace p312:=eq_true p312;replace q312:=eq_true q312;have p313:0≤(x7_1:Int):=pA;have q313:x7_1<(l0.length:Int):=pA;obtain ⟨ad313,e313,hx313_0,hx313_1,hx313_2,hx313_3,hx313_4⟩:=at_T43 HR0.out x7_1 p313 q313;obtain rfl:ad312=ad313:=(by injection e313)
       replace p313:=eq_true p313;replace q313:=eq_true q313;go_wp2
       go_roundg k1
       case measure=>have:=HK1.out;omega
       case rel=>exact ⟨(wrap64 (x7_1+1)),eS,H',⟨by have:=HK1.out;omega⟩,dD⟩
     ·rw [if_neg c6] at H;have c6b0:=qF c6;have c6b1:=nT c6;have H':=Aside0.mk H;clear H;have p312:0≤(x7_1:Int):=pA;have q312:x7_1<(l0.length:Int):=pA;obtain ⟨ad312,e312,hx312_0,hx312_1,hx312_2,hx312_3,hx312_4⟩:=at_T43 HR0.out x7_1 p312 q312;cases e312
      replace p312:=eq_true p312;replace q312:=eq_true q312;go_wp2
      go_roundg k1
      case measure=>have:=HK1.out;omega
      case rel=>exact ⟨(wrap64 (x7_1+1)),eS,H',⟨by have:=HK1.out;omega⟩,dD⟩
    ·rw [if_neg c5] at H;exact absurd H (by simp)
   ·rw [if_neg c4] at H;have c4b0:=decide_eq_false c4;clear c4;obtain rfl:=Option.some.inj H;go_wp2
    go_ret
    exact ⟨eS,dD⟩
end
section
attribute [local go_sem] max2_int min2_int max_two min_two max_three min_three max_four min_four
def r10_Kids.l0:Nat→List (S43)→Int→Int→Int→Option (Int)
 | 0,_,_,_,_=>none
 | k+1,x0,x1,x5,x6=>if x6<(x0.length:Int) then (if 0≤x6 then (if ((rd_T43 x0 x6).f1)=x1 then (r10_Kids.l0 k x0 x1 (wrap64 (x5+1)) (wrap64 (x6+1))) else (r10_Kids.l0 k x0 x1 x5 (wrap64 (x6+1)))) else (none)) else (some x5)
def r10_Kids.f (k:Nat) (l0:List (S43)) (a1:Int):Option (Int):=r10_Kids.l0 k l0 a1 0 1
theorem r10_Kids.calls (k:Nat) (A0:Option Addr) (c0:Nat) (l0:List (S43)) (a1:Int) (r:Int) (w:World) (hr0:Kd.C k43 w A0 l0.length l0) (hc0:l0.length≤c0) (h:r10_Kids.f k l0 a1=some r) :
  Calls Tryz.prog 169 #[.slice A0 l0.length c0,.int .u32 a1] w fun e w'=>e=.returned (.int .i64 r)∧Drawn0 w w':=by
 have HR0:=Aside0.mk hr0;have HC0:=Aside0.mk hc0;clear hr0 hc0;have H:(r10_Kids.l0 k l0 a1 0 1)=some r:=h;clear h;have H':=Aside0.mk H;clear H;go_enter Tryz.func169,Tryz.ntmps169;go_wp2
 go_loopg [5,6] k (fun kq v5 v6 w'=>∃ (x5_1:Int) (x6_1:Int),v5=.int .i64 x5_1∧v6=.int .i64 x6_1∧Aside0 (r10_Kids.l0 kq l0 a1 x5_1 x6_1=some r)∧Aside0 (kq≤k)∧Drawn0 w w')
 case atStart=>exact ⟨(0),(1),eS,eS,H',⟨Nat.le_refl _⟩,dD⟩
 case round =>
  clear H'
  (try clear c1;try clear p2)
  obtain ⟨x5_1,x6_1,rfl,rfl,HA,HK1,⟨m1,rfl⟩⟩:=hrel;cases gk with
  | zero=>exact absurd HA.out (by simp [r10_Kids.l0])
  | succ k1 =>
   have H:=HA.out;clear HA;simp only [r10_Kids.l0] at H;by_cases c3:x6_1<(l0.length:Int)
   ·rw [if_pos c3] at H;have c3b0:=decide_eq_true c3;clear c3;by_cases c4:0≤x6_1
    ·rw [if_pos c4] at H;have c4b0:=decide_eq_true c4;clear c4;by_cases c5:((rd_T43 l0 x6_1).f1)=a1
     ·rw [if_pos c5] at H;have c5b0:=qT c5;have c5b1:=nF c5;clear c5;have H':=Aside0.mk H;clear H;have p314:0≤(x6_1:Int):=pA;have q314:x6_1<(l0.length:Int):=pA;obtain ⟨ad314,e314,hx314_0,hx314_1,hx314_2,hx314_3,hx314_4⟩:=at_T43 HR0.out x6_1 p314 q314;cases e314
      replace p314:=eq_true p314;replace q314:=eq_true q314;go_wp2
      go_roundg k1
      case measure=>have:=HK1.out;omega
      case rel=>exact ⟨(wrap64 (x5_1+1)),(wrap64 (x6_1+1)),eS,eS,H',⟨by have:=HK1.out;omega⟩,dD⟩
     ·rw [if_neg c5] at H;have c5b0:=qF c5;have c5b1:=nT c5;have H':=Aside0.mk H;clear H;have p314:0≤(x6_1:Int):=pA;have q314:x6_1<(l0.length:Int):=pA;obtain ⟨ad314,e314,hx314_0,hx314_1,hx314_2,hx314_3,hx314_4⟩:=at_T43 HR0.out x6_1 p314 q314;cases e314
      replace p314:=eq_true p314;replace q314:=eq_true q314;go_wp2
      go_roundg k1
      case measure=>have:=HK1.out;omega
      case rel=>exact ⟨(x5_1),(wrap64 (x6_1+1)),eS,eS,H',⟨by have:=HK1.out;omega⟩,dD⟩
    ·rw [if_neg c4] at H;exact absurd H (by simp)
   ·rw [if_neg c3] at H;have c3b0:=decide_eq_false c3;clear c3;obtain rfl:=Option.some.inj H;go_wp2
    go_ret
    exact ⟨eS,dD⟩
def r10_Depth.l0:Nat→List (S43)→Int→Int→Option (Int)
 | 0,_,_,_=>none
 | k+1,x0,x1,x5=>if 0≤x1 then (if x1<(x0.length:Int) then (if ((rd_T43 x0 x1).f0)=1 then (some x5) else ((r10_Get.f k x0 ((rd_T43 x0 x1).f1)).bind fun t317=>(if t317<0 then (some 99) else (if x5>6 then (some 99) else (r10_Depth.l0 k x0 t317 (wrap64 (x5+1))))))) else (none)) else (none)
def r10_Depth.f (k:Nat) (l0:List (S43)) (a1:Int):Option (Int):=r10_Depth.l0 k l0 a1 0
theorem r10_Depth.calls (k:Nat) (A0:Option Addr) (c0:Nat) (l0:List (S43)) (a1:Int) (r:Int) (w:World) (hr0:Kd.C k43 w A0 l0.length l0) (hc0:l0.length≤c0) (h:r10_Depth.f k l0 a1=some r) :
  Calls Tryz.prog 170 #[.slice A0 l0.length c0,.int .i64 a1] w fun e w'=>e=.returned (.int .i64 r)∧Drawn0 w w':=by
 have HR0:=Aside0.mk hr0;have HC0:=Aside0.mk hc0;clear hr0 hc0;have H:(r10_Depth.l0 k l0 a1 0)=some r:=h;clear h;have H':=Aside0.mk H;clear H;go_enter Tryz.func170,Tryz.ntmps170;go_wp2
 go_loopg [1,5] k (fun kq v1 v5 w'=>∃ (x1_1:Int) (x5_1:Int),v1=.int .i64 x1_1∧v5=.int .i64 x5_1∧Aside0 (r10_Depth.l0 kq l0 x1_1 x5_1=some r)∧Aside0 (kq≤k)∧Drawn0 w w')
 case atStart=>exact ⟨(a1),(0),eS,eS,H',⟨Nat.le_refl _⟩,dD⟩
 case round =>
  clear H'
  (try clear c1;try clear p2)
  obtain ⟨x1_1,x5_1,rfl,rfl,HA,HK1,⟨m1,rfl⟩⟩:=hrel;cases gk with
  | zero=>exact absurd HA.out (by simp [r10_Depth.l0])
  | succ k1 =>
   have H:=HA.out;clear HA;simp only [r10_Depth.l0] at H;by_cases c3:0≤x1_1
   ·rw [if_pos c3] at H;have c3b0:=decide_eq_true c3;clear c3;by_cases c4:x1_1<(l0.length:Int)
    ·rw [if_pos c4] at H;have c4b0:=decide_eq_true c4;clear c4;by_cases c5:((rd_T43 l0 x1_1).f0)=1
     ·rw [if_pos c5] at H;have c5b0:=qT c5;have c5b1:=nF c5;clear c5;obtain rfl:=Option.some.inj H;have p315:0≤(x1_1:Int):=pA;have q315:x1_1<(l0.length:Int):=pA;obtain ⟨ad315,e315,hx315_0,hx315_1,hx315_2,hx315_3,hx315_4⟩:=at_T43 HR0.out x1_1 p315 q315;cases e315
      replace p315:=eq_true p315;replace q315:=eq_true q315;go_wp2
      go_ret
      exact ⟨eS,dD⟩
     ·rw [if_neg c5] at H;have c5b0:=qF c5;have c5b1:=nT c5;replace H:=Option.bind_eq_some_iff.mp H;obtain ⟨t317,A60,H⟩:=H;replace H:(if t317<0 then (some 99) else (if x5_1>6 then (some 99) else (r10_Depth.l0 k1 l0 t317 (wrap64 (x5_1+1)))))=some r:=H
      have A6:=Aside0.mk A60;clear A60;by_cases c7:t317<0
      ·rw [if_pos c7] at H;have c7b0:=decide_eq_true c7;clear c7;obtain rfl:=Option.some.inj H;have p315:0≤(x1_1:Int):=pA;have q315:x1_1<(l0.length:Int):=pA;obtain ⟨ad315,e315,hx315_0,hx315_1,hx315_2,hx315_3,hx315_4⟩:=at_T43 HR0.out x1_1 p315 q315;cases e315
       replace p315:=eq_true p315;replace q315:=eq_true q315;have p316:0≤(x1_1:Int):=pA;have q316:x1_1<(l0.length:Int):=pA;obtain ⟨ad316,e316,hx316_0,hx316_1,hx316_2,hx316_3,hx316_4⟩:=at_T43 HR0.out x1_1 p316 q316;obtain rfl:ad315=ad316:=(by injection e316)
       replace p316:=eq_true p316;replace q316:=eq_true q316;go_wp2_with (first|((with_reducible refine gate_callee (f:=60) rfl ?_);refine ca (some 19) Tryz.func60 #[.slice (some ad315) l0.length c0,.int .u32 ((rd_T43 l0 x1_1).f1)] ?_;(with_reducible refine (r10_Get.calls k1 _ _ l0 ((rd_T43 l0 x1_1).f1) t317 _ ?side1 ?side2 A6.out).mono ?_);(case side1=>exact cE);(case side2=>exact HC0.out);rintro e w' ⟨rfl,⟨nd,rfl⟩⟩;refine ⟨_,rfl,?_⟩))
       go_ret
       exact ⟨eS,dD⟩
      ·rw [if_neg c7] at H;have c7b0:=decide_eq_false c7;clear c7;by_cases c8:x5_1>6
       ·rw [if_pos c8] at H;have c8b0:=decide_eq_true c8;clear c8;obtain rfl:=Option.some.inj H;have p315:0≤(x1_1:Int):=pA;have q315:x1_1<(l0.length:Int):=pA;obtain ⟨ad315,e315,hx315_0,hx315_1,hx315_2,hx315_3,hx315_4⟩:=at_T43 HR0.out x1_1 p315 q315;cases e315
        replace p315:=eq_true p315;replace q315:=eq_true q315;have p316:0≤(x1_1:Int):=pA;have q316:x1_1<(l0.length:Int):=pA;obtain ⟨ad316,e316,hx316_0,hx316_1,hx316_2,hx316_3,hx316_4⟩:=at_T43 HR0.out x1_1 p316 q316;obtain rfl:ad315=ad316:=(by injection e316)
        replace p316:=eq_true p316;replace q316:=eq_true q316;go_wp2_with (first|((with_reducible refine gate_callee (f:=60) rfl ?_);refine ca (some 19) Tryz.func60 #[.slice (some ad315) l0.length c0,.int .u32 ((rd_T43 l0 x1_1).f1)] ?_;(with_reducible refine (r10_Get.calls k1 _ _ l0 ((rd_T43 l0 x1_1).f1) t317 _ ?side1 ?side2 A6.out).mono ?_);(case side1=>exact cE);(case side2=>exact HC0.out);rintro e w' ⟨rfl,⟨nd,rfl⟩⟩;refine ⟨_,rfl,?_⟩))
        go_ret
        exact ⟨eS,dD⟩
       ·rw [if_neg c8] at H;have c8b0:=decide_eq_false c8;clear c8;have H':=Aside0.mk H;clear H;have p315:0≤(x1_1:Int):=pA;have q315:x1_1<(l0.length:Int):=pA;obtain ⟨ad315,e315,hx315_0,hx315_1,hx315_2,hx315_3,hx315_4⟩:=at_T43 HR0.out x1_1 p315 q315;cases e315
        replace p315:=eq_true p315;replace q315:=eq_true q315;have p316:0≤(x1_1:Int):=pA;have q316:x1_1<(l0.length:Int):=pA;obtain ⟨ad316,e316,hx316_0,hx316_1,hx316_2,hx316_3,hx316_4⟩:=at_T43 HR0.out x1_1 p316 q316;obtain rfl:ad315=ad316:=(by injection e316)
        replace p316:=eq_true p316;replace q316:=eq_true q316;go_wp2_with (first|((with_reducible refine gate_callee (f:=60) rfl ?_);refine ca (some 19) Tryz.func60 #[.slice (some ad315) l0.length c0,.int .u32 ((rd_T43 l0 x1_1).f1)] ?_;(with_reducible refine (r10_Get.calls k1 _ _ l0 ((rd_T43 l0 x1_1).f1) t317 _ ?side1 ?side2 A6.out).mono ?_);(case side1=>exact cE);(case side2=>exact HC0.out);rintro e w' ⟨rfl,⟨nd,rfl⟩⟩;refine ⟨_,rfl,?_⟩))
        go_roundg k1
        case measure=>have:=HK1.out;omega
        case rel=>exact ⟨(t317),(wrap64 (x5_1+1)),eS,eS,H',⟨by have:=HK1.out;omega⟩,dD⟩
    ·rw [if_neg c4] at H;exact absurd H (by simp)
   ·rw [if_neg c3] at H;exact absurd H (by simp)
end
section
attribute [local go_sem] max2_int min2_int max_two min_two max_three min_three max_four min_four
def tree_kid.l0:Nat→Int→ByteArray→List (S43)→Int→Int→Option (Int×Int×ByteArray×Bool×Int×Bool)
 | 0,_,_,_,_,_=>none
 | k+1,x1,x2,x10,x11,x12=>if x12<x11 then (if 0≤x12 then (if x12<(x10.length:Int) then (if ((rd_T43 x10 x12).f1)=x1 then (if ((rd_T43 x10 x12).f2).toList=x2.toList then (if ((rd_T43 x10 x12).f0)=1 then (tree_kid.l0 k x1 x2 x10 x11 (wrap64 (x12+1))) else (some ((rd_T43 x10 x12).f0,(rd_T43 x10 x12).f1,(rd_T43 x10 x12).f2,(rd_T43 x10 x12).f3,(rd_T43 x10 x12).f4,true))) else (tree_kid.l0 k x1 x2 x10 x11 (wrap64 (x12+1)))) else (tree_kid.l0 k x1 x2 x10 x11 (wrap64 (x12+1)))) else (none)) else (none)) else (some (0,0,(⟨#[]⟩:ByteArray),false,0,false))
def tree_kid.f (k:Nat) (l0:List (S43)) (a1:Int) (a2:ByteArray):Option (Int×Int×ByteArray×Bool×Int×Bool):=tree_kid.l0 k a1 a2 l0 (l0.length:Int) 0
theorem tree_kid.calls (k:Nat) (A0:Option Addr) (c0:Nat) (l0:List (S43)) (a1:Int) (a2:ByteArray) (r1:Int) (r2:Int) (r3:ByteArray) (r4:Bool) (r5:Int) (r6:Bool) (w:World) (hr0:Kd.C k43 w A0 l0.length l0) (hc0:l0.length≤c0) (h:tree_kid.f k l0 a1 a2=some (r1,r2,r3,r4,r5,r6)) :
  Calls Tryz.prog 189 #[.slice A0 l0.length c0,.int .u32 a1,.string a2] w fun e w'=>e=.returned (.tuple #[.agg #[.int .u32 r1,.int .u32 r2,.string r3,.bool r4,.int .u32 r5],.bool r6])∧Below w.heap.size w w':=by
 have hu43:=Tryz.underlying43;have HR0:=Aside0.mk hr0;have HC0:=Aside0.mk hc0;clear hr0 hc0;have HB:=Aside0.mk (Below.refl w.heap.size w);have H:(tree_kid.l0 k a1 a2 l0 (l0.length:Int) 0)=some (r1,r2,r3,r4,r5,r6):=h;clear h;have H':=Aside0.mk H;clear H;go_enter Tryz.func189,Tryz.ntmps189;go_wp2_with (first|((with_reducible refine gate_dst (N:=6) rfl ?_);refine bx 6 #[.int .u32 0,.int .u32 0,.string (⟨#[]⟩:ByteArray),.bool false,.int .u32 0] 43 ?_;intro gb101 hg w4 hbox hb;have BK101:=Aside0.mk (hbox);have GW101:=Aside0.mk ((gG hg:w.heap.size≤gb101));have GE101:=Aside0.mk ((gG hg:w.heap.size≤gb101));replace HB:=Aside0.mk (below_step bD hb);clear hb hbox hg))
 go_loopg [12] k (fun kq v12 w'=>∃ (x12_1:Int) (x102000_1:Int) (x102001_1:Int) (x102002_1:ByteArray) (x102003_1:Bool) (x102004_1:Int),v12=.int .i64 x12_1∧Aside0 (tree_kid.l0 kq a1 a2 l0 (l0.length:Int) x12_1=some (r1,r2,r3,r4,r5,r6))∧Aside0 (kq≤k)∧Aside0 (w'.heap[gb101]?=some (.cells #[.int .u32 x102000_1,.int .u32 x102001_1,.string x102002_1,.bool x102003_1,.int .u32 x102004_1] 43 (0,0)))∧Aside0 (Below w.heap.size w w'))
 case atStart=>exact ⟨(0),(0),(0),((⟨#[]⟩:ByteArray)),(false),(0),eS,H',⟨Nat.le_refl _⟩,⟨kD⟩,⟨bD⟩⟩
 case round =>
  clear H'
  (try clear c1;try clear p2)
  obtain ⟨x12_1,x102000_1,x102001_1,x102002_1,x102003_1,x102004_1,rfl,HA,HK1,BK101,HB⟩:=hrel;cases gk with
  | zero=>exact absurd HA.out (by simp [tree_kid.l0])
  | succ k1 =>
   have H:=HA.out;clear HA;simp only [tree_kid.l0] at H;by_cases c5:x12_1<(l0.length:Int)
   ·rw [if_pos c5] at H;have c5b0:=decide_eq_true c5;clear c5;by_cases c6:0≤x12_1
    ·rw [if_pos c6] at H;have c6b0:=decide_eq_true c6;clear c6;by_cases c7:x12_1<(l0.length:Int)
     ·rw [if_pos c7] at H;have c7b0:=decide_eq_true c7;clear c7;by_cases c8:((rd_T43 l0 x12_1).f1)=a1
      ·rw [if_pos c8] at H;have c8b0:=qT c8;have c8b1:=nF c8;clear c8;by_cases c9:((rd_T43 l0 x12_1).f2).toList=a2.toList
       ·rw [if_pos c9] at H;have c9b0:=qT c9;have c9b1:=nF c9;clear c9;by_cases c10:((rd_T43 l0 x12_1).f0)=1
        ·rw [if_pos c10] at H;have c10b0:=qT c10;have c10b1:=nF c10;clear c10;have H':=Aside0.mk H;clear H;have p102:0≤(x12_1:Int):=pA;have q102:x12_1<(l0.length:Int):=pA;obtain ⟨ad102,e102,hx102_0,hx102_1,hx102_2,hx102_3,hx102_4⟩:=at_T43 HR0.out x12_1 p102 q102;cases e102
         replace hx102_0:=cB hx102_0;replace hx102_1:=cB hx102_1;replace hx102_2:=cB hx102_2;replace hx102_3:=cB hx102_3;replace hx102_4:=cB hx102_4;replace p102:=eq_true p102;replace q102:=eq_true q102;go_wp2_with (first|((with_reducible refine gate_dst (N:=9) rfl ?_);refine bx 9 #[.int .u32 0,.int .u32 0,.string (⟨#[]⟩:ByteArray),.bool false,.int .u32 0] 43 ?_;intro gb103 hg w11 hbox hb;have n0_:=Aside0.mk (kb BK101 hb);have n1_:=Aside0.mk (below_step bD hb);have n2_:=Aside0.mk (hbox);have n3_:=Aside0.mk ((gG hg:w.heap.size≤gb103));have n4_:=Aside0.mk ((gG hg:w.heap.size≤gb103));have n5_:=Aside0.mk ((gN BK101 hg));have n6_:=Aside0.mk ((gN' BK101 hg));clear BK101;clear HB;have BK101:=n0_;have HB:=n1_;have BK103:=n2_;have GW103:=n3_;have GE103:=n4_;have NB101_103:=n5_;have NB103_101:=n6_;clear n0_ n1_ n2_ n3_ n4_ n5_ n6_;clear hb hbox hg;have hnb12:=NB103_101.out;have hnc12:=NB101_103.out;obtain ⟨hcz13_0,hcz13_1,hcz13_2,hcz13_3,hcz13_4⟩:=cc5 BK103.out;obtain ⟨hfz13_0,hfz13_1,hfz13_2,hfz13_3,hfz13_4⟩:=ff5 BK103.out))
         go_roundg k1
         case measure=>have:=HK1.out;omega
         case rel=>exact ⟨(wrap64 (x12_1+1)),(x102000_1),(x102001_1),(x102002_1),(x102003_1),(x102004_1),eS,H',⟨by have:=HK1.out;omega⟩,⟨kF⟩,⟨bD⟩⟩
        ·rw [if_neg c10] at H;have c10b0:=qF c10;have c10b1:=nT c10;simp only [Option.some.injEq,Prod.mk.injEq] at H;obtain ⟨rfl,rfl,rfl,rfl,rfl,rfl⟩:=H;have p102:0≤(x12_1:Int):=pA;have q102:x12_1<(l0.length:Int):=pA;obtain ⟨ad102,e102,hx102_0,hx102_1,hx102_2,hx102_3,hx102_4⟩:=at_T43 HR0.out x12_1 p102 q102;cases e102
         replace hx102_0:=cB hx102_0;replace hx102_1:=cB hx102_1;replace hx102_2:=cB hx102_2;replace hx102_3:=cB hx102_3;replace hx102_4:=cB hx102_4;replace p102:=eq_true p102;replace q102:=eq_true q102;go_wp2_with (first|((with_reducible refine gate_dst (N:=9) rfl ?_);refine bx 9 #[.int .u32 0,.int .u32 0,.string (⟨#[]⟩:ByteArray),.bool false,.int .u32 0] 43 ?_;intro gb103 hg w14 hbox hb;have n0_:=Aside0.mk (kb BK101 hb);have n1_:=Aside0.mk (below_step bD hb);have n2_:=Aside0.mk (hbox);have n3_:=Aside0.mk ((gG hg:w.heap.size≤gb103));have n4_:=Aside0.mk ((gG hg:w.heap.size≤gb103));have n5_:=Aside0.mk ((gN BK101 hg));have n6_:=Aside0.mk ((gN' BK101 hg));clear BK101;clear HB;have BK101:=n0_;have HB:=n1_;have BK103:=n2_;have GW103:=n3_;have GE103:=n4_;have NB101_103:=n5_;have NB103_101:=n6_;clear n0_ n1_ n2_ n3_ n4_ n5_ n6_;clear hb hbox hg;have hnb15:=NB103_101.out;have hnc15:=NB101_103.out;obtain ⟨hcz16_0,hcz16_1,hcz16_2,hcz16_3,hcz16_4⟩:=cc5 BK103.out;obtain ⟨hfz16_0,hfz16_1,hfz16_2,hfz16_3,hfz16_4⟩:=ff5 BK103.out;obtain ⟨hcz17_0,hcz17_1,hcz17_2,hcz17_3,hcz17_4⟩:=cc5 BK101.out;obtain ⟨hfz17_0,hfz17_1,hfz17_2,hfz17_3,hfz17_4⟩:=ff5 BK101.out))
         refine bodyPost_ret (results_ct rfl _ _ gb101 43 #[.int .u32 ((rd_T43 l0 x12_1).f0),.int .u32 ((rd_T43 l0 x12_1).f1),.string ((rd_T43 l0 x12_1).f2),.bool ((rd_T43 l0 x12_1).f3),.int .u32 ((rd_T43 l0 x12_1).f4)] (0,0) _ rfl (by (with_reducible repeat (first|refine blk_drewN ?_ _|refine blk_drew ?_|refine blk_alloc ?_ _));refine blk_put (cs:=#[.int .u32 ((rd_T43 l0 x12_1).f0),.int .u32 ((rd_T43 l0 x12_1).f1),.string ((rd_T43 l0 x12_1).f2),.bool ((rd_T43 l0 x12_1).f3),.int .u32 x102004_1]) ?_ 4 _ rfl;(with_reducible repeat (first|refine blk_drewN ?_ _|refine blk_drew ?_|refine blk_alloc ?_ _));refine blk_put (cs:=#[.int .u32 ((rd_T43 l0 x12_1).f0),.int .u32 ((rd_T43 l0 x12_1).f1),.string ((rd_T43 l0 x12_1).f2),.bool x102003_1,.int .u32 x102004_1]) ?_ 3 _ rfl;(with_reducible repeat (first|refine blk_drewN ?_ _|refine blk_drew ?_|refine blk_alloc ?_ _));refine blk_put (cs:=#[.int .u32 ((rd_T43 l0 x12_1).f0),.int .u32 ((rd_T43 l0 x12_1).f1),.string x102002_1,.bool x102003_1,.int .u32 x102004_1]) ?_ 2 _ rfl;(with_reducible repeat (first|refine blk_drewN ?_ _|refine blk_drew ?_|refine blk_alloc ?_ _));refine blk_put (cs:=#[.int .u32 ((rd_T43 l0 x12_1).f0),.int .u32 x102001_1,.string x102002_1,.bool x102003_1,.int .u32 x102004_1]) ?_ 1 _ rfl;(with_reducible repeat (first|refine blk_drewN ?_ _|refine blk_drew ?_|refine blk_alloc ?_ _));refine blk_put (cs:=#[.int .u32 x102000_1,.int .u32 x102001_1,.string x102002_1,.bool x102003_1,.int .u32 x102004_1]) ?_ 0 _ rfl;(with_reducible repeat (first|refine blk_drewN ?_ _|refine blk_drew ?_|refine blk_alloc ?_ _));refine blk_far ?_ NB101_103.out _;(with_reducible repeat (first|refine blk_drewN ?_ _|refine blk_drew ?_|refine blk_alloc ?_ _));refine blk_far ?_ NB101_103.out _;(with_reducible repeat (first|refine blk_drewN ?_ _|refine blk_drew ?_|refine blk_alloc ?_ _));refine blk_far ?_ NB101_103.out _;(with_reducible repeat (first|refine blk_drewN ?_ _|refine blk_drew ?_|refine blk_alloc ?_ _));refine blk_far ?_ NB101_103.out _;(with_reducible repeat (first|refine blk_drewN ?_ _|refine blk_drew ?_|refine blk_alloc ?_ _));refine blk_far ?_ NB101_103.out _;(with_reducible repeat (first|refine blk_drewN ?_ _|refine blk_drew ?_|refine blk_alloc ?_ _));exact BK101.out) Tryz.underlying43 rfl (by kernel_rfl)) rfl ?_
         exact ⟨eE,bD⟩
       ·rw [if_neg c9] at H;have c9b0:=qF c9;have c9b1:=nT c9;have H':=Aside0.mk H;clear H;have p102:0≤(x12_1:Int):=pA;have q102:x12_1<(l0.length:Int):=pA;obtain ⟨ad102,e102,hx102_0,hx102_1,hx102_2,hx102_3,hx102_4⟩:=at_T43 HR0.out x12_1 p102 q102;cases e102
        replace hx102_0:=cB hx102_0;replace hx102_1:=cB hx102_1;replace hx102_2:=cB hx102_2;replace hx102_3:=cB hx102_3;replace hx102_4:=cB hx102_4;replace p102:=eq_true p102;replace q102:=eq_true q102;go_wp2_with (first|((with_reducible refine gate_dst (N:=9) rfl ?_);refine bx 9 #[.int .u32 0,.int .u32 0,.string (⟨#[]⟩:ByteArray),.bool false,.int .u32 0] 43 ?_;intro gb103 hg w18 hbox hb;have n0_:=Aside0.mk (kb BK101 hb);have n1_:=Aside0.mk (below_step bD hb);have n2_:=Aside0.mk (hbox);have n3_:=Aside0.mk ((gG hg:w.heap.size≤gb103));have n4_:=Aside0.mk ((gG hg:w.heap.size≤gb103));have n5_:=Aside0.mk ((gN BK101 hg));have n6_:=Aside0.mk ((gN' BK101 hg));clear BK101;clear HB;have BK101:=n0_;have HB:=n1_;have BK103:=n2_;have GW103:=n3_;have GE103:=n4_;have NB101_103:=n5_;have NB103_101:=n6_;clear n0_ n1_ n2_ n3_ n4_ n5_ n6_;clear hb hbox hg;have hnb19:=NB103_101.out;have hnc19:=NB101_103.out;obtain ⟨hcz20_0,hcz20_1,hcz20_2,hcz20_3,hcz20_4⟩:=cc5 BK103.out;obtain ⟨hfz20_0,hfz20_1,hfz20_2,hfz20_3,hfz20_4⟩:=ff5 BK103.out))
        go_roundg k1
        case measure=>have:=HK1.out;omega
        case rel=>exact ⟨(wrap64 (x12_1+1)),(x102000_1),(x102001_1),(x102002_1),(x102003_1),(x102004_1),eS,H',⟨by have:=HK1.out;omega⟩,⟨kF⟩,⟨bD⟩⟩
      ·rw [if_neg c8] at H;have c8b0:=qF c8;have c8b1:=nT c8;have H':=Aside0.mk H;clear H;have p102:0≤(x12_1:Int):=pA;have q102:x12_1<(l0.length:Int):=pA;obtain ⟨ad102,e102,hx102_0,hx102_1,hx102_2,hx102_3,hx102_4⟩:=at_T43 HR0.out x12_1 p102 q102;cases e102
       replace hx102_0:=cB hx102_0;replace hx102_1:=cB hx102_1;replace hx102_2:=cB hx102_2;replace hx102_3:=cB hx102_3;replace hx102_4:=cB hx102_4;replace p102:=eq_true p102;replace q102:=eq_true q102;go_wp2_with (first|((with_reducible refine gate_dst (N:=9) rfl ?_);refine bx 9 #[.int .u32 0,.int .u32 0,.string (⟨#[]⟩:ByteArray),.bool false,.int .u32 0] 43 ?_;intro gb103 hg w21 hbox hb;have n0_:=Aside0.mk (kb BK101 hb);have n1_:=Aside0.mk (below_step bD hb);have n2_:=Aside0.mk (hbox);have n3_:=Aside0.mk ((gG hg:w.heap.size≤gb103));have n4_:=Aside0.mk ((gG hg:w.heap.size≤gb103));have n5_:=Aside0.mk ((gN BK101 hg));have n6_:=Aside0.mk ((gN' BK101 hg));clear BK101;clear HB;have BK101:=n0_;have HB:=n1_;have BK103:=n2_;have GW103:=n3_;have GE103:=n4_;have NB101_103:=n5_;have NB103_101:=n6_;clear n0_ n1_ n2_ n3_ n4_ n5_ n6_;clear hb hbox hg;have hnb22:=NB103_101.out;have hnc22:=NB101_103.out;obtain ⟨hcz23_0,hcz23_1,hcz23_2,hcz23_3,hcz23_4⟩:=cc5 BK103.out;obtain ⟨hfz23_0,hfz23_1,hfz23_2,hfz23_3,hfz23_4⟩:=ff5 BK103.out))
       go_roundg k1
       case measure=>have:=HK1.out;omega
       case rel=>exact ⟨(wrap64 (x12_1+1)),(x102000_1),(x102001_1),(x102002_1),(x102003_1),(x102004_1),eS,H',⟨by have:=HK1.out;omega⟩,⟨kF⟩,⟨bD⟩⟩
     ·rw [if_neg c7] at H;exact absurd H (by simp)
    ·rw [if_neg c6] at H;exact absurd H (by simp)
   ·rw [if_neg c5] at H;have c5b0:=decide_eq_false c5;clear c5;simp only [Option.some.injEq,Prod.mk.injEq] at H;obtain ⟨rfl,rfl,rfl,rfl,rfl,rfl⟩:=H;obtain ⟨hcz24_0,hcz24_1,hcz24_2,hcz24_3,hcz24_4⟩:=cc5 BK101.out;obtain ⟨hfz24_0,hfz24_1,hfz24_2,hfz24_3,hfz24_4⟩:=ff5 BK101.out;go_wp2
    refine bodyPost_ret (results_ct rfl _ _ gb101 43 #[.int .u32 0,.int .u32 0,.string (⟨#[]⟩:ByteArray),.bool false,.int .u32 0] (0,0) _ rfl p5 Tryz.underlying43 rfl (by kernel_rfl)) rfl ?_
    exact ⟨eE,bD⟩
def tree_depth.l0:Nat→List (S43)→Int→Int→Option (Int)
 | 0,_,_,_=>none
 | k+1,x0,x1,x5=>if x5≤6 then (if x1=1 then (some x5) else ((tree_get.f x0 x1).bind fun bt104=>(if bt104.2.2.2.2.2=true then (tree_depth.l0 k x0 bt104.2.1 (wrap64 (x5+1))) else (some (-1))))) else (some (-1))
def tree_depth.f (k:Nat) (l0:List (S43)) (a1:Int):Option (Int):=tree_depth.l0 k l0 a1 0
theorem tree_depth.calls (k:Nat) (A0:Option Addr) (c0:Nat) (l0:List (S43)) (a1:Int) (r:Int) (w:World) (hr0:Kd.C k43 w A0 l0.length l0) (hc0:l0.length≤c0) (h:tree_depth.f k l0 a1=some r) :
  Calls Tryz.prog 190 #[.slice A0 l0.length c0,.int .u32 a1] w fun e w'=>e=.returned (.int .i64 r)∧Below w.heap.size w w':=by
 have hu43:=Tryz.underlying43;have HR0:=Aside0.mk hr0;have HC0:=Aside0.mk hc0;clear hr0 hc0;have HB:=Aside0.mk (Below.refl w.heap.size w);have H:(tree_depth.l0 k l0 a1 0)=some r:=h;clear h;have H':=Aside0.mk H;clear H;go_enter Tryz.func190,Tryz.ntmps190;go_wp2
 go_loopg [1,5] k (fun kq v1 v5 w'=>∃ (x1_1:Int) (x5_1:Int),v1=.int .u32 x1_1∧v5=.int .i64 x5_1∧Aside0 (tree_depth.l0 kq l0 x1_1 x5_1=some r)∧Aside0 (kq≤k)∧Aside0 (Below w.heap.size w w'))
 case atStart=>exact ⟨(a1),(0),eS,eS,H',⟨Nat.le_refl _⟩,⟨bD⟩⟩
 case round =>
  clear H'
  (try clear c1;try clear p2)
  obtain ⟨x1_1,x5_1,rfl,rfl,HA,HK1,HB⟩:=hrel;cases gk with
  | zero=>exact absurd HA.out (by simp [tree_depth.l0])
  | succ k1 =>
   have H:=HA.out;clear HA;simp only [tree_depth.l0] at H;by_cases c3:x5_1≤6
   ·rw [if_pos c3] at H;have c3b0:=decide_eq_true c3;clear c3;by_cases c4:x1_1=1
    ·rw [if_pos c4] at H;have c4b0:=qT c4;have c4b1:=nF c4;clear c4;obtain rfl:=Option.some.inj H;go_wp2
     go_ret
     exact ⟨eE,bD⟩
    ·rw [if_neg c4] at H;have c4b0:=qF c4;have c4b1:=nT c4;replace H:=Option.bind_eq_some_iff.mp H;obtain ⟨⟨t104,t105,t106,t107,t108,t109⟩,A50,H⟩:=H;replace H:(if t109=true then (tree_depth.l0 k1 l0 t105 (wrap64 (x5_1+1))) else (some (-1)))=some r:=H
     have A5:=Aside0.mk A50;clear A50;by_cases c6:t109=true
     ·subst c6;replace H:=ifTT H;have H':=Aside0.mk H;clear H;go_wp2_with (first|((with_reducible refine gate_callee (f:=137) rfl ?_);refine ca (some 18) Tryz.func137 #[.slice A0 l0.length c0,.int .u32 x1_1] ?_;(with_reducible refine (tree_get.calls _ _ l0 x1_1 t104 t105 t106 t107 t108 true _ ?side1 ?side2 A5.out).mono ?_);(case side1=>exact cD);(case side2=>exact HC0.out);rintro e w7 ⟨rfl,hb⟩;refine ⟨_,rfl,?_⟩;replace HB:=Aside0.mk (below_step bD hb);(try clear hb);(try clear hb2);(try clear hk);(try clear hi))|((with_reducible refine gate_dst (N:=6) rfl ?_);refine bx 6 #[.int .u32 0,.int .u32 0,.string (⟨#[]⟩:ByteArray),.bool false,.int .u32 0] 43 ?_;intro gb110 hg w8 hbox hb;have BK110:=Aside0.mk (hbox);have GW110:=Aside0.mk ((gG hg:w.heap.size≤gb110));have GE110:=Aside0.mk ((gG hg:w.heap.size≤gb110));replace HB:=Aside0.mk (below_step bD hb);clear hb hbox hg;obtain ⟨hcz9_0,hcz9_1,hcz9_2,hcz9_3,hcz9_4⟩:=cc5 BK110.out;obtain ⟨hfz9_0,hfz9_1,hfz9_2,hfz9_3,hfz9_4⟩:=ff5 BK110.out))
      go_roundg k1
      case measure=>have:=HK1.out;omega
      case rel=>exact ⟨(t105),(wrap64 (x5_1+1)),eS,eS,H',⟨by have:=HK1.out;omega⟩,⟨bD⟩⟩
     ·replace c6:=Bool.eq_false_iff.mpr c6;subst c6;replace H:=ifFF H;obtain rfl:=Option.some.inj H;go_wp2_with (first|((with_reducible refine gate_callee (f:=137) rfl ?_);refine ca (some 18) Tryz.func137 #[.slice A0 l0.length c0,.int .u32 x1_1] ?_;(with_reducible refine (tree_get.calls _ _ l0 x1_1 t104 t105 t106 t107 t108 false _ ?side1 ?side2 A5.out).mono ?_);(case side1=>exact cD);(case side2=>exact HC0.out);rintro e w10 ⟨rfl,hb⟩;refine ⟨_,rfl,?_⟩;replace HB:=Aside0.mk (below_step bD hb);(try clear hb);(try clear hb2);(try clear hk);(try clear hi))|((with_reducible refine gate_dst (N:=6) rfl ?_);refine bx 6 #[.int .u32 0,.int .u32 0,.string (⟨#[]⟩:ByteArray),.bool false,.int .u32 0] 43 ?_;intro gb110 hg w11 hbox hb;have BK110:=Aside0.mk (hbox);have GW110:=Aside0.mk ((gG hg:w.heap.size≤gb110));have GE110:=Aside0.mk ((gG hg:w.heap.size≤gb110));replace HB:=Aside0.mk (below_step bD hb);clear hb hbox hg;obtain ⟨hcz12_0,hcz12_1,hcz12_2,hcz12_3,hcz12_4⟩:=cc5 BK110.out;obtain ⟨hfz12_0,hfz12_1,hfz12_2,hfz12_3,hfz12_4⟩:=ff5 BK110.out))
      go_ret
      exact ⟨eE,bD⟩
   ·rw [if_neg c3] at H;have c3b0:=decide_eq_false c3;clear c3;obtain rfl:=Option.some.inj H;go_wp2
    go_ret
    exact ⟨eE,bD⟩
def tree_kids.l0:Nat→Int→List (S43)→List (S43)→Int→Int→Option ((List (S43)))
 | 0,_,_,_,_,_=>none
 | k+1,x1,x5,x8,x9,x10=>if x10<x9 then (if 0≤x10 then (if x10<(x8.length:Int) then (if ((rd_T43 x8 x10).f1)=x1 then (if ((rd_T43 x8 x10).f0)=1 then (tree_kids.l0 k x1 x5 x8 x9 (wrap64 (x10+1))) else (if x5.length<4398046511104 then (tree_kids.l0 k x1 (x5++[(⟨(rd_T43 x8 x10).f0,(rd_T43 x8 x10).f1,(rd_T43 x8 x10).f2,(rd_T43 x8 x10).f3,(rd_T43 x8 x10).f4⟩:S43)]) x8 x9 (wrap64 (x10+1))) else (none))) else (tree_kids.l0 k x1 x5 x8 x9 (wrap64 (x10+1)))) else (none)) else (none)) else (some x5)
def tree_kids.f (k:Nat) (l0:List (S43)) (a1:Int):Option ((List (S43))):=tree_kids.l0 k a1 ([]:List (S43)) l0 (l0.length:Int) 0
theorem tree_kids.calls (k:Nat) (A0:Option Addr) (c0:Nat) (l0:List (S43)) (a1:Int) (r:List (S43)) (w:World) (hr0:Kd.C k43 w A0 l0.length l0) (hc0:l0.length≤c0) (h:tree_kids.f k l0 a1=some r) :
  Calls Tryz.prog 191 #[.slice A0 l0.length c0,.int .u32 a1] w fun e w'=>∃ v0_:Value,e=.returned (v0_)∧Kd.R k43 43 w' w.heap.size (fun _=>True) v0_ r∧Below w.heap.size w w':=by
 have hu43:=Tryz.underlying43;have HR0:=Aside0.mk hr0;have HC0:=Aside0.mk hc0;clear hr0 hc0;have HB:=Aside0.mk (Below.refl w.heap.size w);have H:(tree_kids.l0 k a1 ([]:List (S43)) l0 (l0.length:Int) 0)=some r:=h;clear h;have H':=Aside0.mk H;clear H;go_enter Tryz.func191,Tryz.ntmps191;go_wp2
 go_loopg [5,10] k (fun kq v5 v10 w'=>∃ (x5_1:List (S43)) (x10_1:Int),v10=.int .i64 x10_1∧Aside0 (tree_kids.l0 kq a1 x5_1 l0 (l0.length:Int) x10_1=some r)∧Aside0 (kq≤k)∧Aside0 (Kd.R k43 43 w' w.heap.size (fun _=>True) v5 x5_1)∧Aside0 (Below w.heap.size w w'))
 case atStart=>exact ⟨(([]:List (S43))),(0),eS,H',⟨Nat.le_refl _⟩,⟨by first|exact Kd.R_nil _ _ _ _ _|exact Kd.N_nil _ _ _ _ _|exact Kd.V_nil _ _ _ _ _|exact Kd.Q_nil _ _ _ _ _|exact Kd.S_nil _ _ _ _ _⟩,⟨bD⟩⟩
 case round =>
  clear H'
  (try clear c1;try clear p2)
  obtain ⟨x5_1,x10_1,rfl,HA,HK1,HO_5,HB⟩:=hrel;cases gk with
  | zero=>exact absurd HA.out (by simp [tree_kids.l0])
  | succ k1 =>
   have H:=HA.out;clear HA;simp only [tree_kids.l0] at H;by_cases c3:x10_1<(l0.length:Int)
   ·rw [if_pos c3] at H;have c3b0:=decide_eq_true c3;clear c3;by_cases c4:0≤x10_1
    ·rw [if_pos c4] at H;have c4b0:=decide_eq_true c4;clear c4;by_cases c5:x10_1<(l0.length:Int)
     ·rw [if_pos c5] at H;have c5b0:=decide_eq_true c5;clear c5;by_cases c6:((rd_T43 l0 x10_1).f1)=a1
      ·rw [if_pos c6] at H;have c6b0:=qT c6;have c6b1:=nF c6;clear c6;by_cases c7:((rd_T43 l0 x10_1).f0)=1
       ·rw [if_pos c7] at H;have c7b0:=qT c7;have c7b1:=nF c7;clear c7;have H':=Aside0.mk H;clear H;have p111:0≤(x10_1:Int):=pA;have q111:x10_1<(l0.length:Int):=pA;obtain ⟨ad111,e111,hx111_0,hx111_1,hx111_2,hx111_3,hx111_4⟩:=at_T43 HR0.out x10_1 p111 q111;cases e111
        replace hx111_0:=cB hx111_0;replace hx111_1:=cB hx111_1;replace hx111_2:=cB hx111_2;replace hx111_3:=cB hx111_3;replace hx111_4:=cB hx111_4;replace p111:=eq_true p111;replace q111:=eq_true q111;go_wp2_with (first|((with_reducible refine gate_dst (N:=7) rfl ?_);refine bx 7 #[.int .u32 0,.int .u32 0,.string (⟨#[]⟩:ByteArray),.bool false,.int .u32 0] 43 ?_;intro gb112 hg w8 hbox hb;have n0_:=Aside0.mk (Kd.R_below (Kd.R_elderB (by (with_reducible repeat (first|apply Kd.R_alloc|apply Kd.R_drewN|apply Kd.R_drew));exact HO_5.out) gb112 (Nat.le_of_eq hg.symm)) hb);have n1_:=Aside0.mk (below_step bD hb);have n2_:=Aside0.mk (hbox);have n3_:=Aside0.mk ((gG hg:w.heap.size≤gb112));have n4_:=Aside0.mk ((gG hg:w.heap.size≤gb112));clear HO_5;clear HB;have HO_5:=n0_;have HB:=n1_;have BK112:=n2_;have GW112:=n3_;have GE112:=n4_;clear n0_ n1_ n2_ n3_ n4_;clear hb hbox hg;obtain ⟨hcz9_0,hcz9_1,hcz9_2,hcz9_3,hcz9_4⟩:=cc5 BK112.out;obtain ⟨hfz9_0,hfz9_1,hfz9_2,hfz9_3,hfz9_4⟩:=ff5 BK112.out))
        go_roundg k1
        case measure=>have:=HK1.out;omega
        case rel=>exact ⟨(x5_1),(wrap64 (x10_1+1)),eS,H',⟨by have:=HK1.out;omega⟩,⟨by (with_reducible repeat (first|apply Kd.R_alloc|apply Kd.R_drewN|apply Kd.R_drew));exact Kd.R_mono (Kd.R_far (p:=⟨gb112,4,none⟩) (Kd.R_far (p:=⟨gb112,3,none⟩) (Kd.R_far (p:=⟨gb112,2,none⟩) (Kd.R_far (p:=⟨gb112,1,none⟩) (Kd.R_far (p:=⟨gb112,0,none⟩) (Kd.R_mono HO_5.out (fun k_ hk=>(⟨hk,hk.2⟩:_∧k_≠gb112))) (fun _ hk=>hk.2) (.int .u32 ((rd_T43 l0 x10_1).f0))) (fun _ hk=>hk.2) (.int .u32 ((rd_T43 l0 x10_1).f1))) (fun _ hk=>hk.2) (.string ((rd_T43 l0 x10_1).f2))) (fun _ hk=>hk.2) (.bool ((rd_T43 l0 x10_1).f3))) (fun _ hk=>hk.2) (.int .u32 ((rd_T43 l0 x10_1).f4))) (fun _ hk=>trivial)⟩,⟨bD⟩⟩
       ·rw [if_neg c7] at H;have c7b0:=qF c7;have c7b1:=nT c7;by_cases c10:x5_1.length<4398046511104
        ·rw [if_pos c10] at H;have LMc10:=Aside0.mk c10;clear c10;obtain ⟨y113,hy113⟩ : ∃ y_:List (S43),y_=(x5_1++[(⟨(rd_T43 l0 x10_1).f0,(rd_T43 l0 x10_1).f1,(rd_T43 l0 x10_1).f2,(rd_T43 l0 x10_1).f3,(rd_T43 l0 x10_1).f4⟩:S43)]):=⟨_,rfl⟩;replace H:(tree_kids.l0 k1 a1 y113 l0 (l0.length:Int) (wrap64 (x10_1+1)))=some r:=by first|(rw [hy113];with_reducible exact H)|(have H2_:=(Option.bind_some _ _).symm.trans H;rw [hy113];with_reducible exact H2_)|(have H2_:=(Option.bind_some _ _).symm.trans H;with_reducible exact H2_)|with_reducible exact H|(rw [hy113];exact H)|exact H
         have Ny113:=Aside0.mk hy113;clear hy113;have H':=Aside0.mk H;clear H;have p111:0≤(x10_1:Int):=pA;have q111:x10_1<(l0.length:Int):=pA;obtain ⟨ad111,e111,hx111_0,hx111_1,hx111_2,hx111_3,hx111_4⟩:=at_T43 HR0.out x10_1 p111 q111;cases e111
         replace hx111_0:=cB hx111_0;replace hx111_1:=cB hx111_1;replace hx111_2:=cB hx111_2;replace hx111_3:=cB hx111_3;replace hx111_4:=cB hx111_4;replace p111:=eq_true p111;replace q111:=eq_true q111;go_wp2_with (first|((with_reducible refine gate_dst (N:=7) rfl ?_);refine bx 7 #[.int .u32 0,.int .u32 0,.string (⟨#[]⟩:ByteArray),.bool false,.int .u32 0] 43 ?_;intro gb112 hg w11 hbox hb;have n0_:=Aside0.mk (Kd.R_below (Kd.R_elderB (by (with_reducible repeat (first|apply Kd.R_alloc|apply Kd.R_drewN|apply Kd.R_drew));exact HO_5.out) gb112 (Nat.le_of_eq hg.symm)) hb);have n1_:=Aside0.mk (below_step bD hb);have n2_:=Aside0.mk (hbox);have n3_:=Aside0.mk ((gG hg:w.heap.size≤gb112));have n4_:=Aside0.mk ((gG hg:w.heap.size≤gb112));clear HO_5;clear HB;have HO_5:=n0_;have HB:=n1_;have BK112:=n2_;have GW112:=n3_;have GE112:=n4_;clear n0_ n1_ n2_ n3_ n4_;clear hb hbox hg;obtain ⟨hcz12_0,hcz12_1,hcz12_2,hcz12_3,hcz12_4⟩:=cc5 BK112.out;obtain ⟨hfz12_0,hfz12_1,hfz12_2,hfz12_3,hfz12_4⟩:=ff5 BK112.out)|((with_reducible refine gate_builtin (b:=.append) (xs:=#[.tmp 23,.tmp 25]) rfl ?_);at_builtin;refine Kd.R_append k43 (w0:=w) w.heap.size rfl (.tmp 23) (.tmp 25) 25 43 (.agg #[(.int .u32 0),(.int .u32 0),(.string ⟨#[]⟩),(.bool false),(.int .u32 0)]) 32 rfl Tryz.underlying25 info43 rfl (by decide) (by omega) u5 x5_1 (⟨(rd_T43 l0 x10_1).f0,(rd_T43 l0 x10_1).f1,(rd_T43 l0 x10_1).f2,(rd_T43 l0 x10_1).f3,(rd_T43 l0 x10_1).f4⟩:S43) [.int .u32 ((rd_T43 l0 x10_1).f0),.int .u32 ((rd_T43 l0 x10_1).f1),.string ((rd_T43 l0 x10_1).f2),.bool ((rd_T43 l0 x10_1).f3),.int .u32 ((rd_T43 l0 x10_1).f4)] (fun k_=>k_≠gb112) (fun _=>False) rfl (by first|(go_simp;done)|(go_simp;rfl)) ?aP (fun _ hk=>hk.elim) ?aF ?aO ?aB ?aS ?aL ?_;(case aP=>exact k43_mkM _ _ _ (⟨(rd_T43 l0 x10_1).f0,(rd_T43 l0 x10_1).f1,(rd_T43 l0 x10_1).f2,(rd_T43 l0 x10_1).f3,(rd_T43 l0 x10_1).f4⟩:S43));(case aB=>exact bD);(case aF=>exact (fun k_ hk=>Kd.freshB (g:=gb112) (o:=.cells #[.int .u32 ((rd_T43 l0 x10_1).f0),.int .u32 ((rd_T43 l0 x10_1).f1),.string ((rd_T43 l0 x10_1).f2),.bool ((rd_T43 l0 x10_1).f3),.int .u32 ((rd_T43 l0 x10_1).f4)] 43 (0,0)) p5 k_ hk));(case aO=>exact (by (with_reducible repeat (first|apply Kd.R_alloc|apply Kd.R_drewN|apply Kd.R_drew));exact Kd.R_mono (Kd.R_far (p:=⟨gb112,4,none⟩) (Kd.R_far (p:=⟨gb112,3,none⟩) (Kd.R_far (p:=⟨gb112,2,none⟩) (Kd.R_far (p:=⟨gb112,1,none⟩) (Kd.R_far (p:=⟨gb112,0,none⟩) (Kd.R_mono HO_5.out (fun k_ hk=>(⟨hk,hk.2⟩:_∧k_≠gb112))) (fun _ hk=>hk.2) (.int .u32 ((rd_T43 l0 x10_1).f0))) (fun _ hk=>hk.2) (.int .u32 ((rd_T43 l0 x10_1).f1))) (fun _ hk=>hk.2) (.string ((rd_T43 l0 x10_1).f2))) (fun _ hk=>hk.2) (.bool ((rd_T43 l0 x10_1).f3))) (fun _ hk=>hk.2) (.int .u32 ((rd_T43 l0 x10_1).f4))) (fun _ hk=>hk.1.2)));(case aS=>exact (below_size bD));(case aL=>have:=LMc10.out;omega);intro v114 w13 ho hb hg hat;rw [← Ny113.out] at ho;have n0_:=Aside0.mk (blk_grown (g:=gb112) (o:=.cells #[.int .u32 ((rd_T43 l0 x10_1).f0),.int .u32 ((rd_T43 l0 x10_1).f1),.string ((rd_T43 l0 x10_1).f2),.bool ((rd_T43 l0 x10_1).f3),.int .u32 ((rd_T43 l0 x10_1).f4)] 43 (0,0)) p5 hg (Kd.R_away HO_5.out (fun _ hk=>hk.2)));have n1_:=Aside0.mk (hb);have n2_:=Aside0.mk (ho);clear BK112;clear HB;clear HO_5;have BK112:=n0_;have HB:=n1_;have HO115:=n2_;clear n0_ n1_ n2_;clear ho hb hg hat))
         go_roundg k1
         case measure=>have:=HK1.out;omega
         case rel=>exact ⟨(y113),(wrap64 (x10_1+1)),eS,H',⟨by have:=HK1.out;omega⟩,⟨by (with_reducible repeat (first|apply Kd.R_alloc|apply Kd.R_drewN|apply Kd.R_drew));exact Kd.R_mono HO115.out (fun _ hk=>trivial)⟩,⟨bD⟩⟩
        ·rw [if_neg c10] at H;exact absurd H (by simp)
      ·rw [if_neg c6] at H;have c6b0:=qF c6;have c6b1:=nT c6;have H':=Aside0.mk H;clear H;have p111:0≤(x10_1:Int):=pA;have q111:x10_1<(l0.length:Int):=pA;obtain ⟨ad111,e111,hx111_0,hx111_1,hx111_2,hx111_3,hx111_4⟩:=at_T43 HR0.out x10_1 p111 q111;cases e111
       replace hx111_0:=cB hx111_0;replace hx111_1:=cB hx111_1;replace hx111_2:=cB hx111_2;replace hx111_3:=cB hx111_3;replace hx111_4:=cB hx111_4;replace p111:=eq_true p111;replace q111:=eq_true q111;go_wp2_with (first|((with_reducible refine gate_dst (N:=7) rfl ?_);refine bx 7 #[.int .u32 0,.int .u32 0,.string (⟨#[]⟩:ByteArray),.bool false,.int .u32 0] 43 ?_;intro gb112 hg w14 hbox hb;have n0_:=Aside0.mk (Kd.R_below (Kd.R_elderB (by (with_reducible repeat (first|apply Kd.R_alloc|apply Kd.R_drewN|apply Kd.R_drew));exact HO_5.out) gb112 (Nat.le_of_eq hg.symm)) hb);have n1_:=Aside0.mk (below_step bD hb);have n2_:=Aside0.mk (hbox);have n3_:=Aside0.mk ((gG hg:w.heap.size≤gb112));have n4_:=Aside0.mk ((gG hg:w.heap.size≤gb112));clear HO_5;clear HB;have HO_5:=n0_;have HB:=n1_;have BK112:=n2_;have GW112:=n3_;have GE112:=n4_;clear n0_ n1_ n2_ n3_ n4_;clear hb hbox hg;obtain ⟨hcz15_0,hcz15_1,hcz15_2,hcz15_3,hcz15_4⟩:=cc5 BK112.out;obtain ⟨hfz15_0,hfz15_1,hfz15_2,hfz15_3,hfz15_4⟩:=ff5 BK112.out))
       go_roundg k1
       case measure=>have:=HK1.out;omega
       case rel=>exact ⟨(x5_1),(wrap64 (x10_1+1)),eS,H',⟨by have:=HK1.out;omega⟩,⟨by (with_reducible repeat (first|apply Kd.R_alloc|apply Kd.R_drewN|apply Kd.R_drew));exact Kd.R_mono (Kd.R_far (p:=⟨gb112,4,none⟩) (Kd.R_far (p:=⟨gb112,3,none⟩) (Kd.R_far (p:=⟨gb112,2,none⟩) (Kd.R_far (p:=⟨gb112,1,none⟩) (Kd.R_far (p:=⟨gb112,0,none⟩) (Kd.R_mono HO_5.out (fun k_ hk=>(⟨hk,hk.2⟩:_∧k_≠gb112))) (fun _ hk=>hk.2) (.int .u32 ((rd_T43 l0 x10_1).f0))) (fun _ hk=>hk.2) (.int .u32 ((rd_T43 l0 x10_1).f1))) (fun _ hk=>hk.2) (.string ((rd_T43 l0 x10_1).f2))) (fun _ hk=>hk.2) (.bool ((rd_T43 l0 x10_1).f3))) (fun _ hk=>hk.2) (.int .u32 ((rd_T43 l0 x10_1).f4))) (fun _ hk=>trivial)⟩,⟨bD⟩⟩
     ·rw [if_neg c5] at H;exact absurd H (by simp)
    ·rw [if_neg c4] at H;exact absurd H (by simp)
   ·rw [if_neg c3] at H;have c3b0:=decide_eq_false c3;clear c3;obtain rfl:=Option.some.inj H;go_wp2
    go_ret
    exact ⟨_,eE,by (with_reducible repeat (first|apply Kd.R_alloc|apply Kd.R_drewN|apply Kd.R_drew));exact HO_5.out,bD⟩
end
end Go.Proofs.YtikjfekagdcjmaaGreatDoor.Q
