/- Contracts and plain theory behind FlatRights. -/
import Derived.Lib.SliceRun
import Derived.Outline
import Derived.Laws.CopyOwn
import Derived.Great.BuildSlice
import Derived.Test.YtikjfekagdcjmaaGreatDoorCFlatRights2
import Derived.Test.YtikjfekagdcjmaaGreatDoorCFlatRights3
import Derived.Test.YtikjfekagdcjmaaGreatDoorCFlatRights5
import Derived.Test.YtikjfekagdcjmaaGreatDoorCFlatRights7
import Derived.Test.YtikjfekagdcjmaaGreatDoorCFlatRights12
import Derived.Test.YtikjfekagdcjmaaGreatDoorCFlatRights16
set_option linter.unusedVariables false
set_option linter.unusedSimpArgs false
set_option maxHeartbeats 16000000
set_option maxRecDepth 100000
namespace Go.Proofs.YtikjfekagdcjmaaGreatDoor.Q
open Go.RowKit Go.Proofs.YtikjfekagdcjmaaGreatDoorW.PrintWords Go.Proofs.YtikjfekagdcjmaaGreatDoorW.PrintLast Go.Proofs.YtikjfekagdcjmaaGreatDoorW.PrintMore
section
attribute [local go_sem] max2_int min2_int max_two min_two max_three min_three max_four min_four
attribute [local go_sem high] eqA43 eqA81 eqA87
def api_Inode_92.l0:Nat→List (S43)→List (S43)→Int→Int→Option (Bool)
 | 0,_,_,_,_=>none
 | k+1,x0,x1,x12,x13=>if x13<x12 then (if 0≤x13 then (if x13<(x0.length:Int) then (if x13<(x1.length:Int) then (if (!(((rd_T43 x0 x13).f0) == ((rd_T43 x1 x13).f0))||(!(((rd_T43 x0 x13).f1) == ((rd_T43 x1 x13).f1))||(!((((rd_T43 x0 x13).f2).toList) == (((rd_T43 x1 x13).f2).toList))||(!(((rd_T43 x0 x13).f3) == ((rd_T43 x1 x13).f3))||(!(((rd_T43 x0 x13).f4) == ((rd_T43 x1 x13).f4)))))))=true then (some false) else (api_Inode_92.l0 k x0 x1 x12 (wrap64 (x13+1)))) else (none)) else (none)) else (none)) else (some true)
def api_Inode_92.f (k:Nat) (l0:List (S43)) (l1:List (S43)):Option (Bool):=if (l0.length:Int)=(l1.length:Int) then (api_Inode_92.l0 k l0 l1 (l0.length:Int) 0) else (some false)
theorem api_Inode_92.calls (k:Nat) (A0:Option Addr) (c0:Nat) (l0:List (S43)) (A1:Option Addr) (c1:Nat) (l1:List (S43)) (r:Bool) (w:World) (hr0:Kd.C k43 w A0 l0.length l0) (hc0:l0.length≤c0) (hr1:Kd.C k43 w A1 l1.length l1) (hc1:l1.length≤c1) (h:api_Inode_92.f k l0 l1=some r) :
  Calls Tryz.prog 92 #[.slice A0 l0.length c0,.slice A1 l1.length c1] w fun e w'=>e=.returned (.bool r)∧Drawn0 w w':=by
 have hu43:=Tryz.underlying43;have HR0:=Aside0.mk hr0;have HC0:=Aside0.mk hc0;clear hr0 hc0;have HR1:=Aside0.mk hr1;have HC1:=Aside0.mk hc1;clear hr1 hc1;have H:(if (l0.length:Int)=(l1.length:Int) then (api_Inode_92.l0 k l0 l1 (l0.length:Int) 0) else (some false))=some r:=h
 clear h;by_cases c3:(l0.length:Int)=(l1.length:Int)
 ·rw [if_pos c3] at H;have c3b0:=qT c3;have c3b1:=nF c3;have c3b2:(l0.length == l1.length)=true:=by first|simpa using c3|(simp at c3 ⊢;omega)
  clear c3;have H':=Aside0.mk H;clear H;go_enter Tryz.func92,Tryz.ntmps92;go_wp2
  repeat (go_quiet (fail);try go_wp2)
  go_loopg [13] k (fun kq v13 w'=>∃ (x13_1:Int),v13=.int .i64 x13_1∧Aside0 (api_Inode_92.l0 kq l0 l1 (l0.length:Int) x13_1=some r)∧Aside0 (kq≤k)∧Drawn0 w w')
  case atStart=>exact ⟨(0),eS,H',⟨Nat.le_refl _⟩,dD⟩
  case round =>
   clear H'
   (try clear c1;try clear p2;try clear c3;try clear c3b0;try clear c3b1;try clear c3b2)
   obtain ⟨x13_1,rfl,HA,HK1,⟨m1,rfl⟩⟩:=hrel;cases gk with
   | zero=>exact absurd HA.out (by simp [api_Inode_92.l0])
   | succ k1 =>
    have H:=HA.out;clear HA;simp only [api_Inode_92.l0] at H;by_cases c4:x13_1<(l0.length:Int)
    ·rw [if_pos c4] at H;have c4b0:=decide_eq_true c4;clear c4;by_cases c5:0≤x13_1
     ·rw [if_pos c5] at H;have c5b0:=decide_eq_true c5;clear c5;by_cases c6:x13_1<(l0.length:Int)
      ·rw [if_pos c6] at H;have c6b0:=decide_eq_true c6;clear c6;by_cases c7:x13_1<(l1.length:Int)
       ·rw [if_pos c7] at H;have c7b0:=decide_eq_true c7;clear c7;by_cases c8:(!(((rd_T43 l0 x13_1).f0) == ((rd_T43 l1 x13_1).f0))||(!(((rd_T43 l0 x13_1).f1) == ((rd_T43 l1 x13_1).f1))||(!((((rd_T43 l0 x13_1).f2).toList) == (((rd_T43 l1 x13_1).f2).toList))||(!(((rd_T43 l0 x13_1).f3) == ((rd_T43 l1 x13_1).f3))||(!(((rd_T43 l0 x13_1).f4) == ((rd_T43 l1 x13_1).f4)))))))=true
        ·rw [if_pos c8] at H;have c8b0:(!(((rd_T43 l0 x13_1).f0) == ((rd_T43 l1 x13_1).f0))||(!(((rd_T43 l0 x13_1).f1) == ((rd_T43 l1 x13_1).f1))||(!((((rd_T43 l0 x13_1).f2).toList) == (((rd_T43 l1 x13_1).f2).toList))||(!(((rd_T43 l0 x13_1).f3) == ((rd_T43 l1 x13_1).f3))||(!(((rd_T43 l0 x13_1).f4) == ((rd_T43 l1 x13_1).f4)))))))=true:=c8
         clear c8;obtain rfl:=Option.some.inj H;have p822:0≤(x13_1:Int):=pA;have q822:x13_1<(l0.length:Int):=pA;obtain ⟨ad822,e822,hx822_0,hx822_1,hx822_2,hx822_3,hx822_4⟩:=at_T43 HR0.out x13_1 p822 q822;cases e822
         replace p822:=eq_true p822;replace q822:=eq_true q822;have p823:0≤(x13_1:Int):=pA;have q823:x13_1<(l1.length:Int):=pA;obtain ⟨ad823,e823,hx823_0,hx823_1,hx823_2,hx823_3,hx823_4⟩:=at_T43 HR1.out x13_1 p823 q823;cases e823
         replace p823:=eq_true p823;replace q823:=eq_true q823;go_wp2
         repeat (go_quiet (fail);try go_wp2)
         go_ret
         exact ⟨eS,dD⟩
        ·rw [if_neg c8] at H;have c8b0:(!(((rd_T43 l0 x13_1).f0) == ((rd_T43 l1 x13_1).f0))||(!(((rd_T43 l0 x13_1).f1) == ((rd_T43 l1 x13_1).f1))||(!((((rd_T43 l0 x13_1).f2).toList) == (((rd_T43 l1 x13_1).f2).toList))||(!(((rd_T43 l0 x13_1).f3) == ((rd_T43 l1 x13_1).f3))||(!(((rd_T43 l0 x13_1).f4) == ((rd_T43 l1 x13_1).f4)))))))=false:=by simpa using c8
         clear c8;have H':=Aside0.mk H;clear H;have p822:0≤(x13_1:Int):=pA;have q822:x13_1<(l0.length:Int):=pA;obtain ⟨ad822,e822,hx822_0,hx822_1,hx822_2,hx822_3,hx822_4⟩:=at_T43 HR0.out x13_1 p822 q822;cases e822
         replace p822:=eq_true p822;replace q822:=eq_true q822;have p823:0≤(x13_1:Int):=pA;have q823:x13_1<(l1.length:Int):=pA;obtain ⟨ad823,e823,hx823_0,hx823_1,hx823_2,hx823_3,hx823_4⟩:=at_T43 HR1.out x13_1 p823 q823;cases e823
         replace p823:=eq_true p823;replace q823:=eq_true q823;go_wp2
         repeat (go_quiet (fail);try go_wp2)
         go_roundg k1
         case measure=>have:=HK1.out;omega
         case rel=>exact ⟨(wrap64 (x13_1+1)),eS,H',⟨by have:=HK1.out;omega⟩,dD⟩
       ·rw [if_neg c7] at H;exact absurd H (by simp)
      ·rw [if_neg c6] at H;exact absurd H (by simp)
     ·rw [if_neg c5] at H;exact absurd H (by simp)
    ·rw [if_neg c4] at H;have c4b0:=decide_eq_false c4;clear c4;obtain rfl:=Option.some.inj H;go_wp2
     repeat (go_quiet (fail);try go_wp2)
     go_ret
     exact ⟨eS,dD⟩
 ·rw [if_neg c3] at H;have c3b0:=qF c3;have c3b1:=nT c3;have c3b2:(l0.length == l1.length)=false:=by first|simpa using c3|(simp at c3 ⊢;omega)
  obtain rfl:=Option.some.inj H;go_enter Tryz.func92,Tryz.ntmps92;go_wp2
  repeat (go_quiet (fail);try go_wp2)
  go_ret
  exact ⟨eS,dD⟩
def api_Open_93.l0:Nat→List (S81)→List (S81)→Int→Int→Option (Bool)
 | 0,_,_,_,_=>none
 | k+1,x0,x1,x12,x13=>if x13<x12 then (if 0≤x13 then (if x13<(x0.length:Int) then (if x13<(x1.length:Int) then (if (!(((rd_T81 x0 x13).f0) == ((rd_T81 x1 x13).f0))||(!(((rd_T81 x0 x13).f1) == ((rd_T81 x1 x13).f1))||(!(((rd_T81 x0 x13).f2) == ((rd_T81 x1 x13).f2))||(!(((rd_T81 x0 x13).f3) == ((rd_T81 x1 x13).f3))||(!(((rd_T81 x0 x13).f4) == ((rd_T81 x1 x13).f4)))))))=true then (some false) else (api_Open_93.l0 k x0 x1 x12 (wrap64 (x13+1)))) else (none)) else (none)) else (none)) else (some true)
def api_Open_93.f (k:Nat) (l0:List (S81)) (l1:List (S81)):Option (Bool):=if (l0.length:Int)=(l1.length:Int) then (api_Open_93.l0 k l0 l1 (l0.length:Int) 0) else (some false)
theorem api_Open_93.calls (k:Nat) (A0:Option Addr) (c0:Nat) (l0:List (S81)) (A1:Option Addr) (c1:Nat) (l1:List (S81)) (r:Bool) (w:World) (hr0:Kd.C k81 w A0 l0.length l0) (hc0:l0.length≤c0) (hr1:Kd.C k81 w A1 l1.length l1) (hc1:l1.length≤c1) (h:api_Open_93.f k l0 l1=some r) :
  Calls Tryz.prog 93 #[.slice A0 l0.length c0,.slice A1 l1.length c1] w fun e w'=>e=.returned (.bool r)∧Drawn0 w w':=by
 have hu81:=Tryz.underlying81;have HR0:=Aside0.mk hr0;have HC0:=Aside0.mk hc0;clear hr0 hc0;have HR1:=Aside0.mk hr1;have HC1:=Aside0.mk hc1;clear hr1 hc1;have H:(if (l0.length:Int)=(l1.length:Int) then (api_Open_93.l0 k l0 l1 (l0.length:Int) 0) else (some false))=some r:=h
 clear h;by_cases c3:(l0.length:Int)=(l1.length:Int)
 ·rw [if_pos c3] at H;have c3b0:=qT c3;have c3b1:=nF c3;have c3b2:(l0.length == l1.length)=true:=by first|simpa using c3|(simp at c3 ⊢;omega)
  clear c3;have H':=Aside0.mk H;clear H;go_enter Tryz.func93,Tryz.ntmps93;go_wp2
  repeat (go_quiet (fail);try go_wp2)
  go_loopg [13] k (fun kq v13 w'=>∃ (x13_1:Int),v13=.int .i64 x13_1∧Aside0 (api_Open_93.l0 kq l0 l1 (l0.length:Int) x13_1=some r)∧Aside0 (kq≤k)∧Drawn0 w w')
  case atStart=>exact ⟨(0),eS,H',⟨Nat.le_refl _⟩,dD⟩
  case round =>
   clear H'
   (try clear c1;try clear p2;try clear c3;try clear c3b0;try clear c3b1;try clear c3b2)
   obtain ⟨x13_1,rfl,HA,HK1,⟨m1,rfl⟩⟩:=hrel;cases gk with
   | zero=>exact absurd HA.out (by simp [api_Open_93.l0])
   | succ k1 =>
    have H:=HA.out;clear HA;simp only [api_Open_93.l0] at H;by_cases c4:x13_1<(l0.length:Int)
    ·rw [if_pos c4] at H;have c4b0:=decide_eq_true c4;clear c4;by_cases c5:0≤x13_1
     ·rw [if_pos c5] at H;have c5b0:=decide_eq_true c5;clear c5;by_cases c6:x13_1<(l0.length:Int)
      ·rw [if_pos c6] at H;have c6b0:=decide_eq_true c6;clear c6;by_cases c7:x13_1<(l1.length:Int)
       ·rw [if_pos c7] at H;have c7b0:=decide_eq_true c7;clear c7;by_cases c8:(!(((rd_T81 l0 x13_1).f0) == ((rd_T81 l1 x13_1).f0))||(!(((rd_T81 l0 x13_1).f1) == ((rd_T81 l1 x13_1).f1))||(!(((rd_T81 l0 x13_1).f2) == ((rd_T81 l1 x13_1).f2))||(!(((rd_T81 l0 x13_1).f3) == ((rd_T81 l1 x13_1).f3))||(!(((rd_T81 l0 x13_1).f4) == ((rd_T81 l1 x13_1).f4)))))))=true
        ·rw [if_pos c8] at H;have c8b0:(!(((rd_T81 l0 x13_1).f0) == ((rd_T81 l1 x13_1).f0))||(!(((rd_T81 l0 x13_1).f1) == ((rd_T81 l1 x13_1).f1))||(!(((rd_T81 l0 x13_1).f2) == ((rd_T81 l1 x13_1).f2))||(!(((rd_T81 l0 x13_1).f3) == ((rd_T81 l1 x13_1).f3))||(!(((rd_T81 l0 x13_1).f4) == ((rd_T81 l1 x13_1).f4)))))))=true:=c8
         clear c8;obtain rfl:=Option.some.inj H;have p824:0≤(x13_1:Int):=pA;have q824:x13_1<(l0.length:Int):=pA;obtain ⟨ad824,e824,hx824_0,hx824_1,hx824_2,hx824_3,hx824_4⟩:=at_T81 HR0.out x13_1 p824 q824;cases e824
         replace p824:=eq_true p824;replace q824:=eq_true q824;have p825:0≤(x13_1:Int):=pA;have q825:x13_1<(l1.length:Int):=pA;obtain ⟨ad825,e825,hx825_0,hx825_1,hx825_2,hx825_3,hx825_4⟩:=at_T81 HR1.out x13_1 p825 q825;cases e825
         replace p825:=eq_true p825;replace q825:=eq_true q825;go_wp2
         repeat (go_quiet (fail);try go_wp2)
         go_ret
         exact ⟨eS,dD⟩
        ·rw [if_neg c8] at H;have c8b0:(!(((rd_T81 l0 x13_1).f0) == ((rd_T81 l1 x13_1).f0))||(!(((rd_T81 l0 x13_1).f1) == ((rd_T81 l1 x13_1).f1))||(!(((rd_T81 l0 x13_1).f2) == ((rd_T81 l1 x13_1).f2))||(!(((rd_T81 l0 x13_1).f3) == ((rd_T81 l1 x13_1).f3))||(!(((rd_T81 l0 x13_1).f4) == ((rd_T81 l1 x13_1).f4)))))))=false:=by simpa using c8
         clear c8;have H':=Aside0.mk H;clear H;have p824:0≤(x13_1:Int):=pA;have q824:x13_1<(l0.length:Int):=pA;obtain ⟨ad824,e824,hx824_0,hx824_1,hx824_2,hx824_3,hx824_4⟩:=at_T81 HR0.out x13_1 p824 q824;cases e824
         replace p824:=eq_true p824;replace q824:=eq_true q824;have p825:0≤(x13_1:Int):=pA;have q825:x13_1<(l1.length:Int):=pA;obtain ⟨ad825,e825,hx825_0,hx825_1,hx825_2,hx825_3,hx825_4⟩:=at_T81 HR1.out x13_1 p825 q825;cases e825
         replace p825:=eq_true p825;replace q825:=eq_true q825;go_wp2
         repeat (go_quiet (fail);try go_wp2)
         go_roundg k1
         case measure=>have:=HK1.out;omega
         case rel=>exact ⟨(wrap64 (x13_1+1)),eS,H',⟨by have:=HK1.out;omega⟩,dD⟩
       ·rw [if_neg c7] at H;exact absurd H (by simp)
      ·rw [if_neg c6] at H;exact absurd H (by simp)
     ·rw [if_neg c5] at H;exact absurd H (by simp)
    ·rw [if_neg c4] at H;have c4b0:=decide_eq_false c4;clear c4;obtain rfl:=Option.some.inj H;go_wp2
     repeat (go_quiet (fail);try go_wp2)
     go_ret
     exact ⟨eS,dD⟩
 ·rw [if_neg c3] at H;have c3b0:=qF c3;have c3b1:=nT c3;have c3b2:(l0.length == l1.length)=false:=by first|simpa using c3|(simp at c3 ⊢;omega)
  obtain rfl:=Option.some.inj H;go_enter Tryz.func93,Tryz.ntmps93;go_wp2
  repeat (go_quiet (fail);try go_wp2)
  go_ret
  exact ⟨eS,dD⟩
def api_Body_121.l0:Nat→List (S87)→List (S87)→Int→Int→Option (Bool)
 | 0,_,_,_,_=>none
 | k+1,x0,x1,x12,x13=>if x13<x12 then (if 0≤x13 then (if x13<(x0.length:Int) then (if x13<(x1.length:Int) then (if (!(((rd_T87 x0 x13).f0) == ((rd_T87 x1 x13).f0))||(!((((rd_T87 x0 x13).f1).toList) == (((rd_T87 x1 x13).f1).toList))))=true then (some false) else (api_Body_121.l0 k x0 x1 x12 (wrap64 (x13+1)))) else (none)) else (none)) else (none)) else (some true)
def api_Body_121.f (k:Nat) (l0:List (S87)) (l1:List (S87)):Option (Bool):=if (l0.length:Int)=(l1.length:Int) then (api_Body_121.l0 k l0 l1 (l0.length:Int) 0) else (some false)
theorem api_Body_121.calls (k:Nat) (A0:Option Addr) (c0:Nat) (l0:List (S87)) (A1:Option Addr) (c1:Nat) (l1:List (S87)) (r:Bool) (w:World) (hr0:Kd.C k87 w A0 l0.length l0) (hc0:l0.length≤c0) (hr1:Kd.C k87 w A1 l1.length l1) (hc1:l1.length≤c1) (h:api_Body_121.f k l0 l1=some r) :
  Calls Tryz.prog 121 #[.slice A0 l0.length c0,.slice A1 l1.length c1] w fun e w'=>e=.returned (.bool r)∧Drawn0 w w':=by
 have hu87:=Tryz.underlying87;have HR0:=Aside0.mk hr0;have HC0:=Aside0.mk hc0;clear hr0 hc0;have HR1:=Aside0.mk hr1;have HC1:=Aside0.mk hc1;clear hr1 hc1;have H:(if (l0.length:Int)=(l1.length:Int) then (api_Body_121.l0 k l0 l1 (l0.length:Int) 0) else (some false))=some r:=h
 clear h;by_cases c3:(l0.length:Int)=(l1.length:Int)
 ·rw [if_pos c3] at H;have c3b0:=qT c3;have c3b1:=nF c3;have c3b2:(l0.length == l1.length)=true:=by first|simpa using c3|(simp at c3 ⊢;omega)
  clear c3;have H':=Aside0.mk H;clear H;go_enter Tryz.func121,Tryz.ntmps121;go_wp2
  repeat (go_quiet (fail);try go_wp2)
  go_loopg [13] k (fun kq v13 w'=>∃ (x13_1:Int),v13=.int .i64 x13_1∧Aside0 (api_Body_121.l0 kq l0 l1 (l0.length:Int) x13_1=some r)∧Aside0 (kq≤k)∧Drawn0 w w')
  case atStart=>exact ⟨(0),eS,H',⟨Nat.le_refl _⟩,dD⟩
  case round =>
   clear H'
   (try clear c1;try clear p2;try clear c3;try clear c3b0;try clear c3b1;try clear c3b2)
   obtain ⟨x13_1,rfl,HA,HK1,⟨m1,rfl⟩⟩:=hrel;cases gk with
   | zero=>exact absurd HA.out (by simp [api_Body_121.l0])
   | succ k1 =>
    have H:=HA.out;clear HA;simp only [api_Body_121.l0] at H;by_cases c4:x13_1<(l0.length:Int)
    ·rw [if_pos c4] at H;have c4b0:=decide_eq_true c4;clear c4;by_cases c5:0≤x13_1
     ·rw [if_pos c5] at H;have c5b0:=decide_eq_true c5;clear c5;by_cases c6:x13_1<(l0.length:Int)
      ·rw [if_pos c6] at H;have c6b0:=decide_eq_true c6;clear c6;by_cases c7:x13_1<(l1.length:Int)
       ·rw [if_pos c7] at H;have c7b0:=decide_eq_true c7;clear c7;by_cases c8:(!(((rd_T87 l0 x13_1).f0) == ((rd_T87 l1 x13_1).f0))||(!((((rd_T87 l0 x13_1).f1).toList) == (((rd_T87 l1 x13_1).f1).toList))))=true
        ·rw [if_pos c8] at H;have c8b0:(!(((rd_T87 l0 x13_1).f0) == ((rd_T87 l1 x13_1).f0))||(!((((rd_T87 l0 x13_1).f1).toList) == (((rd_T87 l1 x13_1).f1).toList))))=true:=c8
         clear c8;obtain rfl:=Option.some.inj H;have p826:0≤(x13_1:Int):=pA;have q826:x13_1<(l0.length:Int):=pA;obtain ⟨ad826,e826,hx826_0,hx826_1⟩:=at_T87 HR0.out x13_1 p826 q826;cases e826
         replace p826:=eq_true p826;replace q826:=eq_true q826;have p827:0≤(x13_1:Int):=pA;have q827:x13_1<(l1.length:Int):=pA;obtain ⟨ad827,e827,hx827_0,hx827_1⟩:=at_T87 HR1.out x13_1 p827 q827;cases e827
         replace p827:=eq_true p827;replace q827:=eq_true q827;go_wp2
         repeat (go_quiet (fail);try go_wp2)
         go_ret
         exact ⟨eS,dD⟩
        ·rw [if_neg c8] at H;have c8b0:(!(((rd_T87 l0 x13_1).f0) == ((rd_T87 l1 x13_1).f0))||(!((((rd_T87 l0 x13_1).f1).toList) == (((rd_T87 l1 x13_1).f1).toList))))=false:=by simpa using c8
         clear c8;have H':=Aside0.mk H;clear H;have p826:0≤(x13_1:Int):=pA;have q826:x13_1<(l0.length:Int):=pA;obtain ⟨ad826,e826,hx826_0,hx826_1⟩:=at_T87 HR0.out x13_1 p826 q826;cases e826
         replace p826:=eq_true p826;replace q826:=eq_true q826;have p827:0≤(x13_1:Int):=pA;have q827:x13_1<(l1.length:Int):=pA;obtain ⟨ad827,e827,hx827_0,hx827_1⟩:=at_T87 HR1.out x13_1 p827 q827;cases e827
         replace p827:=eq_true p827;replace q827:=eq_true q827;go_wp2
         repeat (go_quiet (fail);try go_wp2)
         go_roundg k1
         case measure=>have:=HK1.out;omega
         case rel=>exact ⟨(wrap64 (x13_1+1)),eS,H',⟨by have:=HK1.out;omega⟩,dD⟩
       ·rw [if_neg c7] at H;exact absurd H (by simp)
      ·rw [if_neg c6] at H;exact absurd H (by simp)
     ·rw [if_neg c5] at H;exact absurd H (by simp)
    ·rw [if_neg c4] at H;have c4b0:=decide_eq_false c4;clear c4;obtain rfl:=Option.some.inj H;go_wp2
     repeat (go_quiet (fail);try go_wp2)
     go_ret
     exact ⟨eS,dD⟩
 ·rw [if_neg c3] at H;have c3b0:=qF c3;have c3b1:=nT c3;have c3b2:(l0.length == l1.length)=false:=by first|simpa using c3|(simp at c3 ⊢;omega)
  obtain rfl:=Option.some.inj H;go_enter Tryz.func121,Tryz.ntmps121;go_wp2
  repeat (go_quiet (fail);try go_wp2)
  go_ret
  exact ⟨eS,dD⟩
def flat_Same.f (k:Nat) (a0_0:Int) (l0_1:List (S43)) (l0_2:List (S81)) (l0_3:List (S87)) (a1_0:Int) (l1_1:List (S43)) (l1_2:List (S81)) (l1_3:List (S87)):Option (Bool):=if a0_0=a1_0 then ((api_Inode_92.f k l0_1 l1_1).bind fun t830=>(if t830=true then ((api_Open_93.f k l0_2 l1_2).bind fun t831=>(if t831=true then ((api_Body_121.f k l0_3 l1_3).bind fun t832=>(some t832)) else (some false))) else (some false))) else (some false)
theorem flat_Same.calls (k:Nat) (a0_0:Int) (A0_1:Option Addr) (c0_1:Nat) (l0_1:List (S43)) (A0_2:Option Addr) (c0_2:Nat) (l0_2:List (S81)) (A0_3:Option Addr) (c0_3:Nat) (l0_3:List (S87)) (a1_0:Int) (A1_1:Option Addr) (c1_1:Nat) (l1_1:List (S43)) (A1_2:Option Addr) (c1_2:Nat) (l1_2:List (S81)) (A1_3:Option Addr) (c1_3:Nat) (l1_3:List (S87)) (r:Bool) (w:World) (hr0_1:Kd.C k43 w A0_1 l0_1.length l0_1) (hc0_1:l0_1.length≤c0_1) (hr0_2:Kd.C k81 w A0_2 l0_2.length l0_2) (hc0_2:l0_2.length≤c0_2) (hr0_3:Kd.C k87 w A0_3 l0_3.length l0_3) (hc0_3:l0_3.length≤c0_3) (hr1_1:Kd.C k43 w A1_1 l1_1.length l1_1) (hc1_1:l1_1.length≤c1_1) (hr1_2:Kd.C k81 w A1_2 l1_2.length l1_2) (hc1_2:l1_2.length≤c1_2) (hr1_3:Kd.C k87 w A1_3 l1_3.length l1_3) (hc1_3:l1_3.length≤c1_3) (h:flat_Same.f k a0_0 l0_1 l0_2 l0_3 a1_0 l1_1 l1_2 l1_3=some r) :
  Calls Tryz.prog 38 #[.agg #[.int .u32 a0_0,.slice A0_1 l0_1.length c0_1,.slice A0_2 l0_2.length c0_2,.slice A0_3 l0_3.length c0_3],.agg #[.int .u32 a1_0,.slice A1_1 l1_1.length c1_1,.slice A1_2 l1_2.length c1_2,.slice A1_3 l1_3.length c1_3]] w fun e w'=>e=.returned (.bool r)∧Below w.heap.size w w':=by
 have hu67:=Tryz.underlying67;have HR0_1:=Aside0.mk hr0_1;have HC0_1:=Aside0.mk hc0_1;clear hr0_1 hc0_1;have HR0_2:=Aside0.mk hr0_2;have HC0_2:=Aside0.mk hc0_2;clear hr0_2 hc0_2;have HR0_3:=Aside0.mk hr0_3;have HC0_3:=Aside0.mk hc0_3;clear hr0_3 hc0_3;have HR1_1:=Aside0.mk hr1_1;have HC1_1:=Aside0.mk hc1_1;clear hr1_1 hc1_1;have HR1_2:=Aside0.mk hr1_2;have HC1_2:=Aside0.mk hc1_2;clear hr1_2 hc1_2;have HR1_3:=Aside0.mk hr1_3;have HC1_3:=Aside0.mk hc1_3;clear hr1_3 hc1_3;have HB:=Aside0.mk (Below.refl w.heap.size w);have H:(if a0_0=a1_0 then ((api_Inode_92.f k l0_1 l1_1).bind fun t830=>(if t830=true then ((api_Open_93.f k l0_2 l1_2).bind fun t831=>(if t831=true then ((api_Body_121.f k l0_3 l1_3).bind fun t832=>(some t832)) else (some false))) else (some false))) else (some false))=some r:=h
 clear h;by_cases c3:a0_0=a1_0
 ·rw [if_pos c3] at H;have c3b0:=qT c3;have c3b1:=nF c3;clear c3;replace H:=Option.bind_eq_some_iff.mp H;obtain ⟨t830,A40,H⟩:=H;replace H:(if t830=true then ((api_Open_93.f k l0_2 l1_2).bind fun t831=>(if t831=true then ((api_Body_121.f k l0_3 l1_3).bind fun t832=>(some t832)) else (some false))) else (some false))=some r:=H
  have A4:=Aside0.mk A40;clear A40;by_cases c5:t830=true
  ·subst c5;replace H:=ifTT H;replace H:=Option.bind_eq_some_iff.mp H;obtain ⟨t831,A60,H⟩:=H;replace H:(if t831=true then ((api_Body_121.f k l0_3 l1_3).bind fun t832=>(some t832)) else (some false))=some r:=H
   have A6:=Aside0.mk A60;clear A60;by_cases c7:t831=true
   ·subst c7;replace H:=ifTT H;replace H:=Option.bind_eq_some_iff.mp H;obtain ⟨t832,A80,H⟩:=H;replace H:(some t832)=some r:=H;have A8:=Aside0.mk A80;clear A80;obtain rfl:=Option.some.inj H;go_enter Tryz.func38,Tryz.ntmps38;go_wp2_with (first|((with_reducible refine gate_dst (N:=2) rfl ?_);refine bx 2 #[.int .u32 a0_0,.slice A0_1 l0_1.length c0_1,.slice A0_2 l0_2.length c0_2,.slice A0_3 l0_3.length c0_3] 67 ?_;intro gb828 hg w9 hbox hb;have BK828:=Aside0.mk (hbox);have GW828:=Aside0.mk ((gG hg:w.heap.size≤gb828));have GE828:=Aside0.mk ((gG hg:w.heap.size≤gb828));replace HB:=Aside0.mk (below_step bD hb);clear hb hbox hg)|((with_reducible refine gate_dst (N:=3) rfl ?_);refine bx 3 #[.int .u32 a1_0,.slice A1_1 l1_1.length c1_1,.slice A1_2 l1_2.length c1_2,.slice A1_3 l1_3.length c1_3] 67 ?_;intro gb829 hg w10 hbox hb;have n0_:=Aside0.mk (kb BK828 hb);have n1_:=Aside0.mk (below_step bD hb);have n2_:=Aside0.mk (hbox);have n3_:=Aside0.mk ((gG hg:w.heap.size≤gb829));have n4_:=Aside0.mk ((gG hg:w.heap.size≤gb829));have n5_:=Aside0.mk ((gN BK828 hg));have n6_:=Aside0.mk ((gN' BK828 hg));clear BK828;clear HB;have BK828:=n0_;have HB:=n1_;have BK829:=n2_;have GW829:=n3_;have GE829:=n4_;have NB828_829:=n5_;have NB829_828:=n6_;clear n0_ n1_ n2_ n3_ n4_ n5_ n6_;clear hb hbox hg;have hnb11:=NB828_829.out;have hnc11:=NB829_828.out;obtain ⟨hcz12_0,hcz12_1,hcz12_2,hcz12_3⟩:=cc4 BK828.out;obtain ⟨hfz12_0,hfz12_1,hfz12_2,hfz12_3⟩:=ff4 BK828.out;obtain ⟨hcz13_0,hcz13_1,hcz13_2,hcz13_3⟩:=cc4 BK829.out;obtain ⟨hfz13_0,hfz13_1,hfz13_2,hfz13_3⟩:=ff4 BK829.out)|(go_at_call 92;(with_reducible refine (api_Inode_92.calls k _ _ l0_1 _ _ l1_1 true _ ?side1 ?side2 ?side3 ?side4 A4.out).mono ?_);(case side1=>exact cD);(case side2=>exact HC0_1.out);(case side3=>exact cD);(case side4=>exact HC1_1.out);rintro e w' ⟨rfl,⟨nd,rfl⟩⟩)|(go_at_call 93;(with_reducible refine (api_Open_93.calls k _ _ l0_2 _ _ l1_2 true _ ?side1 ?side2 ?side3 ?side4 A6.out).mono ?_);(case side1=>repeat (first|exact (Kd.C_below HR0_2.out bD)|(with_reducible refine Kd.C_alloc ?_ _)|(with_reducible refine Kd.C_drewN ?_ _)|(with_reducible refine Kd.C_drew ?_)));(case side2=>exact HC0_2.out);(case side3=>repeat (first|exact (Kd.C_below HR1_2.out bD)|(with_reducible refine Kd.C_alloc ?_ _)|(with_reducible refine Kd.C_drewN ?_ _)|(with_reducible refine Kd.C_drew ?_)));(case side4=>exact HC1_2.out);rintro e w' ⟨rfl,⟨nd,rfl⟩⟩)|(go_at_call 121;(with_reducible refine (api_Body_121.calls k _ _ l0_3 _ _ l1_3 t832 _ ?side1 ?side2 ?side3 ?side4 A8.out).mono ?_);(case side1=>repeat (first|exact (Kd.C_below HR0_3.out bD)|(with_reducible refine Kd.C_alloc ?_ _)|(with_reducible refine Kd.C_drewN ?_ _)|(with_reducible refine Kd.C_drew ?_)));(case side2=>exact HC0_3.out);(case side3=>repeat (first|exact (Kd.C_below HR1_3.out bD)|(with_reducible refine Kd.C_alloc ?_ _)|(with_reducible refine Kd.C_drewN ?_ _)|(with_reducible refine Kd.C_drew ?_)));(case side4=>exact HC1_3.out);rintro e w' ⟨rfl,⟨nd,rfl⟩⟩))
    go_ret
    exact ⟨eE,bD⟩
   ·replace c7:=Bool.eq_false_iff.mpr c7;subst c7;replace H:=ifFF H;obtain rfl:=Option.some.inj H;go_enter Tryz.func38,Tryz.ntmps38;go_wp2_with (first|((with_reducible refine gate_dst (N:=2) rfl ?_);refine bx 2 #[.int .u32 a0_0,.slice A0_1 l0_1.length c0_1,.slice A0_2 l0_2.length c0_2,.slice A0_3 l0_3.length c0_3] 67 ?_;intro gb828 hg w14 hbox hb;have BK828:=Aside0.mk (hbox);have GW828:=Aside0.mk ((gG hg:w.heap.size≤gb828));have GE828:=Aside0.mk ((gG hg:w.heap.size≤gb828));replace HB:=Aside0.mk (below_step bD hb);clear hb hbox hg)|((with_reducible refine gate_dst (N:=3) rfl ?_);refine bx 3 #[.int .u32 a1_0,.slice A1_1 l1_1.length c1_1,.slice A1_2 l1_2.length c1_2,.slice A1_3 l1_3.length c1_3] 67 ?_;intro gb829 hg w15 hbox hb;have n0_:=Aside0.mk (kb BK828 hb);have n1_:=Aside0.mk (below_step bD hb);have n2_:=Aside0.mk (hbox);have n3_:=Aside0.mk ((gG hg:w.heap.size≤gb829));have n4_:=Aside0.mk ((gG hg:w.heap.size≤gb829));have n5_:=Aside0.mk ((gN BK828 hg));have n6_:=Aside0.mk ((gN' BK828 hg));clear BK828;clear HB;have BK828:=n0_;have HB:=n1_;have BK829:=n2_;have GW829:=n3_;have GE829:=n4_;have NB828_829:=n5_;have NB829_828:=n6_;clear n0_ n1_ n2_ n3_ n4_ n5_ n6_;clear hb hbox hg;have hnb16:=NB828_829.out;have hnc16:=NB829_828.out;obtain ⟨hcz17_0,hcz17_1,hcz17_2,hcz17_3⟩:=cc4 BK828.out;obtain ⟨hfz17_0,hfz17_1,hfz17_2,hfz17_3⟩:=ff4 BK828.out;obtain ⟨hcz18_0,hcz18_1,hcz18_2,hcz18_3⟩:=cc4 BK829.out;obtain ⟨hfz18_0,hfz18_1,hfz18_2,hfz18_3⟩:=ff4 BK829.out)|(go_at_call 92;(with_reducible refine (api_Inode_92.calls k _ _ l0_1 _ _ l1_1 true _ ?side1 ?side2 ?side3 ?side4 A4.out).mono ?_);(case side1=>exact cD);(case side2=>exact HC0_1.out);(case side3=>exact cD);(case side4=>exact HC1_1.out);rintro e w' ⟨rfl,⟨nd,rfl⟩⟩)|(go_at_call 93;(with_reducible refine (api_Open_93.calls k _ _ l0_2 _ _ l1_2 false _ ?side1 ?side2 ?side3 ?side4 A6.out).mono ?_);(case side1=>repeat (first|exact (Kd.C_below HR0_2.out bD)|(with_reducible refine Kd.C_alloc ?_ _)|(with_reducible refine Kd.C_drewN ?_ _)|(with_reducible refine Kd.C_drew ?_)));(case side2=>exact HC0_2.out);(case side3=>repeat (first|exact (Kd.C_below HR1_2.out bD)|(with_reducible refine Kd.C_alloc ?_ _)|(with_reducible refine Kd.C_drewN ?_ _)|(with_reducible refine Kd.C_drew ?_)));(case side4=>exact HC1_2.out);rintro e w' ⟨rfl,⟨nd,rfl⟩⟩))
    go_ret
    exact ⟨eE,bD⟩
  ·replace c5:=Bool.eq_false_iff.mpr c5;subst c5;replace H:=ifFF H;obtain rfl:=Option.some.inj H;go_enter Tryz.func38,Tryz.ntmps38;go_wp2_with (first|((with_reducible refine gate_dst (N:=2) rfl ?_);refine bx 2 #[.int .u32 a0_0,.slice A0_1 l0_1.length c0_1,.slice A0_2 l0_2.length c0_2,.slice A0_3 l0_3.length c0_3] 67 ?_;intro gb828 hg w19 hbox hb;have BK828:=Aside0.mk (hbox);have GW828:=Aside0.mk ((gG hg:w.heap.size≤gb828));have GE828:=Aside0.mk ((gG hg:w.heap.size≤gb828));replace HB:=Aside0.mk (below_step bD hb);clear hb hbox hg)|((with_reducible refine gate_dst (N:=3) rfl ?_);refine bx 3 #[.int .u32 a1_0,.slice A1_1 l1_1.length c1_1,.slice A1_2 l1_2.length c1_2,.slice A1_3 l1_3.length c1_3] 67 ?_;intro gb829 hg w20 hbox hb;have n0_:=Aside0.mk (kb BK828 hb);have n1_:=Aside0.mk (below_step bD hb);have n2_:=Aside0.mk (hbox);have n3_:=Aside0.mk ((gG hg:w.heap.size≤gb829));have n4_:=Aside0.mk ((gG hg:w.heap.size≤gb829));have n5_:=Aside0.mk ((gN BK828 hg));have n6_:=Aside0.mk ((gN' BK828 hg));clear BK828;clear HB;have BK828:=n0_;have HB:=n1_;have BK829:=n2_;have GW829:=n3_;have GE829:=n4_;have NB828_829:=n5_;have NB829_828:=n6_;clear n0_ n1_ n2_ n3_ n4_ n5_ n6_;clear hb hbox hg;have hnb21:=NB828_829.out;have hnc21:=NB829_828.out;obtain ⟨hcz22_0,hcz22_1,hcz22_2,hcz22_3⟩:=cc4 BK828.out;obtain ⟨hfz22_0,hfz22_1,hfz22_2,hfz22_3⟩:=ff4 BK828.out;obtain ⟨hcz23_0,hcz23_1,hcz23_2,hcz23_3⟩:=cc4 BK829.out;obtain ⟨hfz23_0,hfz23_1,hfz23_2,hfz23_3⟩:=ff4 BK829.out)|(go_at_call 92;(with_reducible refine (api_Inode_92.calls k _ _ l0_1 _ _ l1_1 false _ ?side1 ?side2 ?side3 ?side4 A4.out).mono ?_);(case side1=>exact cD);(case side2=>exact HC0_1.out);(case side3=>exact cD);(case side4=>exact HC1_1.out);rintro e w' ⟨rfl,⟨nd,rfl⟩⟩))
   go_ret
   exact ⟨eE,bD⟩
 ·rw [if_neg c3] at H;have c3b0:=qF c3;have c3b1:=nT c3;obtain rfl:=Option.some.inj H;go_enter Tryz.func38,Tryz.ntmps38;go_wp2_with (first|((with_reducible refine gate_dst (N:=2) rfl ?_);refine bx 2 #[.int .u32 a0_0,.slice A0_1 l0_1.length c0_1,.slice A0_2 l0_2.length c0_2,.slice A0_3 l0_3.length c0_3] 67 ?_;intro gb828 hg w24 hbox hb;have BK828:=Aside0.mk (hbox);have GW828:=Aside0.mk ((gG hg:w.heap.size≤gb828));have GE828:=Aside0.mk ((gG hg:w.heap.size≤gb828));replace HB:=Aside0.mk (below_step bD hb);clear hb hbox hg)|((with_reducible refine gate_dst (N:=3) rfl ?_);refine bx 3 #[.int .u32 a1_0,.slice A1_1 l1_1.length c1_1,.slice A1_2 l1_2.length c1_2,.slice A1_3 l1_3.length c1_3] 67 ?_;intro gb829 hg w25 hbox hb;have n0_:=Aside0.mk (kb BK828 hb);have n1_:=Aside0.mk (below_step bD hb);have n2_:=Aside0.mk (hbox);have n3_:=Aside0.mk ((gG hg:w.heap.size≤gb829));have n4_:=Aside0.mk ((gG hg:w.heap.size≤gb829));have n5_:=Aside0.mk ((gN BK828 hg));have n6_:=Aside0.mk ((gN' BK828 hg));clear BK828;clear HB;have BK828:=n0_;have HB:=n1_;have BK829:=n2_;have GW829:=n3_;have GE829:=n4_;have NB828_829:=n5_;have NB829_828:=n6_;clear n0_ n1_ n2_ n3_ n4_ n5_ n6_;clear hb hbox hg;have hnb26:=NB828_829.out;have hnc26:=NB829_828.out;obtain ⟨hcz27_0,hcz27_1,hcz27_2,hcz27_3⟩:=cc4 BK828.out;obtain ⟨hfz27_0,hfz27_1,hfz27_2,hfz27_3⟩:=ff4 BK828.out;obtain ⟨hcz28_0,hcz28_1,hcz28_2,hcz28_3⟩:=cc4 BK829.out;obtain ⟨hfz28_0,hfz28_1,hfz28_2,hfz28_3⟩:=ff4 BK829.out))
  go_ret
  exact ⟨eE,bD⟩
def r19_Fresh.f  : Option (Int×(List (S43))×(List (S81))×(List (S87))):=some (2,(([(⟨1,0,(⟨#[]⟩:ByteArray),true,0⟩:S43)]:List (S43))),([]:List (S81)),([]:List (S87)))
theorem r19_Fresh.calls  (r1:Int) (r2:List (S43)) (r3:List (S81)) (r4:List (S87)) (w:World) (h:r19_Fresh.f  = some (r1,r2,r3,r4)) :
  Calls Tryz.prog 40 #[] w fun e w'=>∃ v1_ v2_ v3_:Value,e=.returned (.agg #[.int .u32 r1,v1_,v2_,v3_])∧Kd.R k43 43 w' w.heap.size (fun _=>True) v1_ r2∧Kd.R k81 81 w' w.heap.size (fun _=>True) v2_ r3∧Kd.R k87 87 w' w.heap.size (fun _=>True) v3_ r4∧Below w.heap.size w w':=by
 have hu67:=Tryz.underlying67;have hu43:=Tryz.underlying43;have HB:=Aside0.mk (Below.refl w.heap.size w);have H:(some (2,(([(⟨1,0,(⟨#[]⟩:ByteArray),true,0⟩:S43)]:List (S43))),([]:List (S81)),([]:List (S87))))=some (r1,r2,r3,r4):=h;clear h;obtain ⟨y834,hy834⟩ : ∃ y_:List (S43),y_=(([(⟨1,0,(⟨#[]⟩:ByteArray),true,0⟩:S43)]:List (S43))):=⟨_,rfl⟩;replace H:(some (2,y834,([]:List (S81)),([]:List (S87))))=some (r1,r2,r3,r4):=by first|(rw [hy834];with_reducible exact H)|(have H2_:=(Option.bind_some _ _).symm.trans H;rw [hy834];with_reducible exact H2_)|(have H2_:=(Option.bind_some _ _).symm.trans H;with_reducible exact H2_)|with_reducible exact H|(rw [hy834];exact H)|exact H
 have Ny834:=Aside0.mk hy834;clear hy834;simp only [Option.some.injEq,Prod.mk.injEq] at H;obtain ⟨rfl,rfl,rfl,rfl⟩:=H;go_enter Tryz.func40,Tryz.ntmps40;go_wp2_with (first|((with_reducible refine gate_dst (N:=0) rfl ?_);refine bx 0 #[.int .u32 0,.slice none 0 0,.slice none 0 0,.slice none 0 0] 67 ?_;intro gb833 hg w1 hbox hb;have BK833:=Aside0.mk (hbox);have GW833:=Aside0.mk ((gG hg:w.heap.size≤gb833));have GE833:=Aside0.mk ((gG hg:w.heap.size≤gb833));replace HB:=Aside0.mk (below_step bD hb);clear hb hbox hg)|((with_reducible refine gate_dst (N:=2) rfl ?_);refine Kd.R_lit k43 _ 43 ?hg (N:=2) ?hd (xs:=([(⟨1,0,(⟨#[]⟩:ByteArray),true,0⟩:S43)]:List (S43))) (inner:=[.int .u32 1,.int .u32 0,.string (⟨#[]⟩:ByteArray),.bool true,.int .u32 0]) (ok:=fun _=>True) (okp:=fun _=>True) ?hr ?hp (fun _ hk=>hk) trivial (Below.refl _ _) (Nat.le_refl _) (by simp) ?_;(case hd=>rfl);(case hg=>rfl);(case hr=>first|(go_simp;done)|(go_simp;rfl));(case hp=>exact (Reps.c5 (show Kd.M k43 _ _ _ (⟨1,0,(⟨#[]⟩:ByteArray),true,0⟩:S43) [.int .u32 1,.int .u32 0,.string (⟨#[]⟩:ByteArray),.bool true,.int .u32 0] from (k43_mkM _ _ _ (⟨1,0,(⟨#[]⟩:ByteArray),true,0⟩:S43) )) (Reps.none _ _)));intro v835 w2 ho3 hb hg_ hnew_;clear hg_ hnew_;(first|rw [← Ny834.out] at ho3|(simp only [Int.reduceToNat] at ho3;rw [← Ny834.out] at ho3));have HO836:=Aside0.mk (Kd.R_lower ho3 (below_size bD));replace BK833:=Aside0.mk (kb BK833 hb);replace HB:=Aside0.mk (below_step bD hb);clear hb ho3;obtain ⟨Ao4,co4,eo4⟩:=Kd.R_slice HO836.out;subst eo4;obtain ⟨hcz5_0,hcz5_1,hcz5_2,hcz5_3⟩:=cc4 BK833.out;obtain ⟨hfz5_0,hfz5_1,hfz5_2,hfz5_3⟩:=ff4 BK833.out))
 refine bodyPost_ret (results_cell_row rfl _ _ gb833 67 #[.int .u32 2,.slice Ao4 y834.length co4,.slice none 0 0,.slice none 0 0] (0,0) _ rfl p4 Tryz.underlying67 rfl (by kernel_rfl)) rfl ?_
 exact ⟨_,_,_,eE,by (with_reducible repeat (first|apply Kd.R_alloc|apply Kd.R_drewN|apply Kd.R_drew));exact Kd.R_mono (Kd.R_far (p:=⟨gb833,3,none⟩) (Kd.R_far (p:=⟨gb833,2,none⟩) (Kd.R_far (p:=⟨gb833,1,none⟩) (Kd.R_far (p:=⟨gb833,0,none⟩) (Kd.R_types HO836.out BK833.out (by decide)) (fun _ hk=>hk.2) (.int .u32 2)) (fun _ hk=>hk.2) (.slice Ao4 y834.length co4)) (fun _ hk=>hk.2) (.slice none 0 0)) (fun _ hk=>hk.2) (.slice none 0 0)) (fun _ hk=>trivial),by first|exact Kd.R_nil _ _ _ _ _|exact Kd.N_nil _ _ _ _ _|exact Kd.V_nil _ _ _ _ _|exact Kd.Q_nil _ _ _ _ _|exact Kd.S_nil _ _ _ _ _,by first|exact Kd.R_nil _ _ _ _ _|exact Kd.N_nil _ _ _ _ _|exact Kd.V_nil _ _ _ _ _|exact Kd.Q_nil _ _ _ _ _|exact Kd.S_nil _ _ _ _ _,bD⟩
end
structure Abv where
 p:S43
 name:ByteArray
 e:Int
def aboveI (l:List S43) (names:List ByteArray):Abv :=
 if names.length=0 then ⟨zI,⟨#[]⟩,8⟩
 else ⟨(walkI l (names.take (names.length-1)) (rd_T43 l 0)).1,names.getD (names.length-1) ⟨#[]⟩,if (walkI l (names.take (names.length-1)) (rd_T43 l 0)).2=0 then (if (walkI l (names.take (names.length-1)) (rd_T43 l 0)).1.f3=true then 0 else 10) else (walkI l (names.take (names.length-1)) (rd_T43 l 0)).2⟩
theorem above_f (l:List S43) (hl:l.length≤1000) (hp:0<l.length) (names:List ByteArray) (hn:names.length≤1000) (k:Nat) (hk:l.length+names.length<k):tree_above.f k l names=some ((aboveI l names).p.f0,(aboveI l names).p.f1,(aboveI l names).p.f2,(aboveI l names).p.f3,(aboveI l names).p.f4,(aboveI l names).name,(aboveI l names).e):=by
 unfold tree_above.f aboveI;by_cases h0:names.length=0
 ·rw [if_pos (by omega),if_pos h0]
  rfl
 ·have hw:wrap64 ((names.length:Int)-1)=((names.length-1:Nat):Int):=by rw [wrap_in (by omega) (by omega)];omega
  rw [if_neg (by omega),if_neg h0,hw,if_pos (by omega),if_pos (by omega),Int.toNat_natCast]
  rw [walk_f l hl hp (names.take (names.length-1)) (by rw [List.length_take];omega) k (by rw [List.length_take];omega)]
  have e:rdOf ByteArray.empty names ((names.length-1:Nat):Int)=names.getD (names.length-1) ⟨#[]⟩:=by simp only [rdOf,Int.toNat_natCast];rfl
  rw [e];generalize walkI l (names.take (names.length-1)) (rd_T43 l 0)=q;obtain ⟨q,eq⟩:=q;show (if eq=0 then _ else _)=_
  by_cases h1:eq=0
  ·rw [if_pos h1];show (if q.f3=true then _ else _)=_
   subst h1;by_cases h2:q.f3=true
   ·rw [if_pos h2,if_pos (by omega)]
    simp [h2]
   ·rw [if_neg h2,if_pos (by omega)]
    simp [h2]
  ·rw [if_neg h1,if_pos (by omega)]
   simp [h1]
theorem above_c (A0:Option Addr) (c0:Nat) (l:List S43) (A1:Option Addr) (c1:Nat) (names:List ByteArray) (w:World) (hr0:Kd.C k43 w A0 l.length l) (hc0:l.length≤c0) (hr1:Kd.C Kd.string w A1 names.length names) (hc1:names.length≤c1) (hl:l.length≤1000) (hp:0<l.length) (hn:names.length≤1000) :
  Calls Tryz.prog 296 #[.slice A0 l.length c0,.slice A1 names.length c1] w fun e w'=>e=.returned (.tuple #[.agg #[.int .u32 (aboveI l names).p.f0,.int .u32 (aboveI l names).p.f1,.string (aboveI l names).p.f2,.bool (aboveI l names).p.f3,.int .u32 (aboveI l names).p.f4],.string (aboveI l names).name,.int .i64 (aboveI l names).e])∧Below w.heap.size w w' :=
 tree_above.calls (l.length+names.length+1) A0 c0 l A1 c1 names _ _ _ _ _ _ _ w hr0 hc0 hr1 hc1 (above_f l hl hp names hn _ (by omega))
def makeF (l:List S43) (s:ByteArray) (id:Int) (dir:Bool):List S43×Int :=
  if (beginF l s).2=0 then
    (if (aboveI l (beginF l s).1).e=0 then
      (if (kidI l (aboveI l (beginF l s).1).p.f0 (aboveI l (beginF l s).1).name).isSome=true then ([],8)
       else if l.length=40 then ([],16)
       else if (kidsI l (aboveI l (beginF l s).1).p.f0).length=12 then ([],16)
       else if id≤1 then ([],1)
       else if (findI l id).isSome=true then ([],1)
       else (putI l ⟨id,(aboveI l (beginF l s).1).p.f0,(aboveI l (beginF l s).1).name,dir,0⟩,0))
     else ([],(aboveI l (beginF l s).1).e))
  else ([],(beginF l s).2)
theorem right_up {l:List S43} (h:rightB l=true) (hw:wfL l=true):upB (-1) l=true:=by
 refine up_of_first l hw (fun j hj=>?_);unfold rightB at h;simp only [Bool.and_eq_true] at h;exact List.all_eq_true.1 h.1.2 j (List.mem_range.2 (by omega))
theorem put_c (A0:Option Addr) (c0:Nat) (l:List S43) (x:S43) (w:World) (hr0:Kd.C k43 w A0 l.length l) (hc0:l.length≤c0) (h1:1≤l.length) (hl:l.length≤900) (hup:upB (-1) l=true) (hx0:0≤x.f0) (hx1:x.f0≤4294967295) :
  Calls Tryz.prog 285 #[.slice A0 l.length c0,.agg #[.int .u32 x.f0,.int .u32 x.f1,.string x.f2,.bool x.f3,.int .u32 x.f4]] w fun e w'=>∃ v0_:Value,e=.returned v0_∧Kd.R k43 43 w' w.heap.size (fun _=>True) v0_ (putI l x)∧Below w.heap.size w w' :=
 tree_put.calls A0 c0 l x.f0 x.f1 x.f2 x.f3 x.f4 _ w hr0 hc0 (by unfold tree_put.f putDom;rw [decide_eq_true h1,decide_eq_true hl,hup,decide_eq_true hx0,decide_eq_true hx1,if_pos (by rfl)])
theorem make_c (A0:Option Addr) (c0:Nat) (l:List S43) (s:ByteArray) (id:Int) (dir:Bool) (w:World) (hr0:Kd.C k43 w A0 l.length l) (hc0:l.length≤c0) (hw:wfL l=true) (hs:s.size≤100000) (hi0:0≤id) (hi1:id≤4294967295) :
  Calls Tryz.prog 282 #[.slice A0 l.length c0,.string s,.int .u32 id,.bool dir] w fun e w'=>∃ v0_:Value,e=.returned (.tuple #[v0_,.int .i64 (makeF l s id dir).2])∧Kd.R k43 43 w' w.heap.size (fun _=>True) v0_ (makeF l s id dir).1∧Below w.heap.size w w':=by
 have HR0:=Aside0.mk hr0;have HC0:=Aside0.mk hc0;have HW:=Aside0.mk hw;have hlen:=begin_len l s;have hok:=Aside0.mk (fun h=>begin_ok (l:=l) (s:=s) h);have hB:=Aside0.mk (begin_c A0 c0 l s w hr0 hc0 hw hs);obtain ⟨r,hr⟩ : ∃ r,r=makeF l s id dir:=⟨_,rfl⟩;rw [← hr];unfold makeF at hr;generalize beginF l s=b at hr hB hok hlen;obtain ⟨b1,b2⟩:=b;have hlen:b1.length≤6:=hlen;have hr:r=(if b2=0 then (if (aboveI l b1).e=0 then (if (kidI l (aboveI l b1).p.f0 (aboveI l b1).name).isSome=true then ([],8) else if l.length=40 then ([],16) else if (kidsI l (aboveI l b1).p.f0).length=12 then ([],16) else if id≤1 then ([],1) else if (findI l id).isSome=true then ([],1) else (putI l ⟨id,(aboveI l b1).p.f0,(aboveI l b1).name,dir,0⟩,0)) else ([],(aboveI l b1).e)) else ([],b2)):=hr
 have HH:=Aside0.mk hr;clear hr hr0 hc0 hw;go_enter Tryz.func282,Tryz.ntmps282;go_upto_region 2 with (go_at_call 184;refine hB.out.mono ?_;rintro e w1 ⟨⟨A1,c1,rfl,hc1,hr1⟩,hb1⟩;have HC1:=Aside0.mk hc1;have HR1:=Aside0.mk hr1;have HB1:=Aside0.mk hb1;clear hc1 hr1 hb1)
 clear hB;by_cases n0:b2=0
 ·have hright:=hok.out n0;have hlen2:=rightB_len hright;have HUP:=Aside0.mk (right_up hright HW.out);subst n0;have hr:=HH.out;rw [if_pos rfl] at hr;have HH1:=Aside0.mk hr;clear hr HH hok hright;have hA:=Aside0.mk (above_c A0 c0 l A1 c1 b1 w1 (Kd.C_below HR0.out HB1.out) HC0.out HR1.out HC1.out (by omega) (by omega) (by omega))
  generalize aboveI l b1=a at HH1 hA;obtain ⟨p,name,ea⟩:=a;go_upto_region 5 with (go_at_call 296;refine hA.out.mono ?_;rintro e w2 ⟨rfl,hb2⟩;have HB2:=Aside0.mk (below_step HB1.out hb2);clear hb2)
  clear hA;have BK:=Aside0.mk (heap_alloc_new w2 (.cells #[.int .u32 p.f0,.int .u32 p.f1,.string p.f2,.bool p.f3,.int .u32 p.f4] 43));have HB3:=Aside0.mk (below_alloc HB2.out (.cells #[.int .u32 p.f0,.int .u32 p.f1,.string p.f2,.bool p.f3,.int .u32 p.f4] 43));clear HB2;generalize w2.alloc (.cells #[.int .u32 p.f0,.int .u32 p.f1,.string p.f2,.bool p.f3,.int .u32 p.f4] 43)=w3 at BK HB3 ⊢;generalize w2.heap.size=g12 at BK ⊢;by_cases n1:ea=0
  ·subst n1;have hr:=HH1.out;rw [if_pos rfl] at hr;have HH2:=Aside0.mk hr;clear hr HH1;have k0:w3.cell? ⟨g12,0,none⟩=some (.int .u32 p.f0):=(blk_cell BK.out 0).trans rfl;have hK:=Aside0.mk (kid_c A0 c0 l p.f0 name w3 (Kd.C_below HR0.out HB3.out) HC0.out (by omega))
   go_upto_region 8 with (go_at_call 189;refine hK.out.mono ?_;rintro e w4 ⟨rfl,hb4⟩;have HB4:=Aside0.mk (below_step HB3.out hb4);have BK4:=Aside0.mk (blk_below BK.out hb4);clear hb4)
   clear hK k0 BK HB3;generalize hq:gI (kidI l p.f0 name)=q;have BK5:=Aside0.mk (blk_alloc BK4.out (.cells #[.int .u32 q.f0,.int .u32 q.f1,.string q.f2,.bool q.f3,.int .u32 q.f4] 43));have HB5:=Aside0.mk (below_alloc HB4.out (.cells #[.int .u32 q.f0,.int .u32 q.f1,.string q.f2,.bool q.f3,.int .u32 q.f4] 43));clear BK4 HB4 hq;generalize w4.alloc (.cells #[.int .u32 q.f0,.int .u32 q.f1,.string q.f2,.bool q.f3,.int .u32 q.f4] 43)=w5 at BK5 HB5 ⊢;generalize w4.heap.size=g14;have hG:=Aside0.mk (get_c A0 c0 l id w5 (Kd.C_below HR0.out HB5.out) HC0.out (by omega) hi0 hi1 HUP.out)
   go_upto_region 9 with (go_at_call 137;refine hG.out.mono ?_;rintro e w6 ⟨rfl,hb6⟩;have HB6:=Aside0.mk (below_step HB5.out hb6);have BK6:=Aside0.mk (blk_below BK5.out hb6);clear hb6)
   clear hG BK5 HB5;generalize hq2:gI (findI l id)=q2;have BK7:=Aside0.mk (blk_alloc BK6.out (.cells #[.int .u32 q2.f0,.int .u32 q2.f1,.string q2.f2,.bool q2.f3,.int .u32 q2.f4] 43));have HB7:=Aside0.mk (below_alloc HB6.out (.cells #[.int .u32 q2.f0,.int .u32 q2.f1,.string q2.f2,.bool q2.f3,.int .u32 q2.f4] 43));clear BK6 HB6 hq2;generalize w6.alloc (.cells #[.int .u32 q2.f0,.int .u32 q2.f1,.string q2.f2,.bool q2.f3,.int .u32 q2.f4] 43)=w7 at BK7 HB7 ⊢;generalize w6.heap.size=g16;have k0:w7.cell? ⟨g12,0,none⟩=some (.int .u32 p.f0):=(blk_cell BK7.out 0).trans rfl;cases n2:(kidI l p.f0 name).isSome
   ·by_cases n3:l.length=40
    ·have e3:((l.length:Int) == 40)=true:=beq_iff_eq.2 (by omega)
     have hr:r=([],16):=by have:=HH2.out;rwa [if_neg (by rw [n2];decide),if_pos n3] at this
     subst hr;go_wp2_with (fail)
     go_ret2
     exact ⟨_,rfl,Kd.R_nil _ _ _ _ _,HB7.out⟩
    ·have e3:((l.length:Int) == 40)=false:=beq_eq_false_iff_ne.2 (by omega)
     have hKs:=Aside0.mk (kids_c A0 c0 l p.f0 w7 (Kd.C_below HR0.out HB7.out) HC0.out (by omega))
     by_cases n4:(kidsI l p.f0).length=12
     ·have e4:(((kidsI l p.f0).length:Int) == 12)=true:=beq_iff_eq.2 (by omega)
      have hr:r=([],16):=by have:=HH2.out;rwa [if_neg (by rw [n2];decide),if_neg n3,if_pos n4] at this
      subst hr;go_wp2_with (go_at_call 191;refine hKs.out.mono ?_;rintro e w8 ⟨⟨A8,c8,rfl⟩,hb8⟩;have HB8:=Aside0.mk (below_step HB7.out hb8);clear hb8)
      go_ret2
      exact ⟨_,rfl,Kd.R_nil _ _ _ _ _,HB8.out⟩
     ·have e4:(((kidsI l p.f0).length:Int) == 12)=false:=beq_eq_false_iff_ne.2 (by omega)
      by_cases n5:id≤1
      ·have e5:decide (id≤1)=true:=decide_eq_true n5;have hr:r=([],1):=by have:=HH2.out;rwa [if_neg (by rw [n2];decide),if_neg n3,if_neg n4,if_pos n5] at this
       subst hr;go_wp2_with (go_at_call 191;refine hKs.out.mono ?_;rintro e w8 ⟨⟨A8,c8,rfl⟩,hb8⟩;have HB8:=Aside0.mk (below_step HB7.out hb8);clear hb8)
       go_ret2
       exact ⟨_,rfl,Kd.R_nil _ _ _ _ _,HB8.out⟩
      ·have e5:decide (id≤1)=false:=decide_eq_false n5;cases n6:(findI l id).isSome
       ·have hr:r=(putI l ⟨id,p.f0,name,dir,0⟩,0):=by have:=HH2.out;rwa [if_neg (by rw [n2];decide),if_neg n3,if_neg n4,if_neg n5,if_neg (by rw [n6];decide)] at this
        subst hr;go_wp2_with (first|(go_at_call 191;refine hKs.out.mono ?_;rintro e w8 ⟨⟨A8,c8,rfl⟩,hb8⟩;have HB8:=Aside0.mk (below_step HB7.out hb8);have k8:w8.cell? ⟨g12,0,none⟩=some (.int .u32 p.f0):=(blk_cell (blk_below BK7.out hb8) 0).trans rfl;clear hb8)|(go_at_call 285;refine (put_c A0 c0 l ⟨id,p.f0,name,dir,0⟩ _ (Kd.C_below HR0.out HB8.out) HC0.out (by omega) (by omega) HUP.out hi0 hi1).mono ?_;rintro e w9 ⟨v9,rfl,ho9,hb9⟩;have HO9:=Aside0.mk (Kd.R_lower ho9 HB8.out.size);have HB9:=Aside0.mk (below_step HB8.out hb9);clear ho9 hb9))
        go_ret2
        exact ⟨_,rfl,HO9.out,HB9.out⟩
       ·have hr:r=([],1):=by have:=HH2.out;rwa [if_neg (by rw [n2];decide),if_neg n3,if_neg n4,if_neg n5,if_pos n6] at this
        subst hr;go_wp2_with (go_at_call 191;refine hKs.out.mono ?_;rintro e w8 ⟨⟨A8,c8,rfl⟩,hb8⟩;have HB8:=Aside0.mk (below_step HB7.out hb8);clear hb8)
        go_ret2
        exact ⟨_,rfl,Kd.R_nil _ _ _ _ _,HB8.out⟩
   ·have hr:r=([],8):=by have:=HH2.out;rwa [if_pos n2] at this
    subst hr;go_wp2_with (fail)
    go_ret2
    exact ⟨_,rfl,Kd.R_nil _ _ _ _ _,HB7.out⟩
  ·have e1:(ea != 0)=true:=bne_iff_ne.2 n1;have hr:r=([],ea):=by have:=HH1.out;rwa [if_neg n1] at this
   subst hr;clear HH1;go_wp2_with (fail)
   go_ret2
   exact ⟨_,rfl,Kd.R_nil _ _ _ _ _,HB3.out⟩
 ·have e1:(b2 != 0)=true:=bne_iff_ne.2 n0;have hr:r=([],b2):=by have:=HH.out;rwa [if_neg n0] at this
  subst hr;clear HH hok;go_wp2_with (fail)
  go_ret2
  exact ⟨_,rfl,Kd.R_nil _ _ _ _ _,HB1.out⟩
def tree_Make.f (l:List S43) (s:ByteArray) (id:Int) (dir:Bool):Option (List S43×Int):=if wfL l=true∧s.size≤100000∧0≤id∧id≤4294967295 then some (makeF l s id dir) else none
theorem tree_Make.calls (A0:Option Addr) (c0:Nat) (l0:List S43) (a1:ByteArray) (a2:Int) (a3:Bool) (r1:List S43) (r2:Int) (w:World) (hr0:Kd.C k43 w A0 l0.length l0) (hc0:l0.length≤c0) (h:tree_Make.f l0 a1 a2 a3=some (r1,r2)) :
  Calls Tryz.prog 282 #[.slice A0 l0.length c0,.string a1,.int .u32 a2,.bool a3] w fun e w'=>∃ v0_:Value,e=.returned (.tuple #[v0_,.int .i64 r2])∧Kd.R k43 43 w' w.heap.size (fun _=>True) v0_ r1∧Below w.heap.size w w':=by
 unfold tree_Make.f at h;by_cases hd:wfL l0=true∧a1.size≤100000∧0≤a2∧a2≤4294967295
 ·rw [if_pos hd] at h;have h':=Option.some.inj h;have q:=make_c A0 c0 l0 a1 a2 a3 w hr0 hc0 hd.1 hd.2.1 hd.2.2.1 hd.2.2.2;rw [h'] at q;exact q
 ·rw [if_neg hd] at h;cases h
def sized (n:S43) (size:Int):S43:=⟨n.f0,n.f1,n.f2,n.f3,size⟩
def resizeF (l:List S43) (id size:Int):List S43×Int :=
  if rightB l=true then
    (if (findI l id).isSome=true then
      (if (gI (findI l id)).f3=true then ([],11) else if size>1024 then ([],15) else (putI l (sized (gI (findI l id)) size),0))
     else ([],7))
  else ([],1)
theorem resize_c (A0:Option Addr) (c0:Nat) (l:List S43) (id size:Int) (w:World) (hr0:Kd.C k43 w A0 l.length l) (hc0:l.length≤c0) (hw:wfL l=true) (hi0:0≤id) (hi1:id≤4294967295) :
  Calls Tryz.prog 244 #[.slice A0 l.length c0,.int .u32 id,.int .u32 size] w fun e w'=>∃ v0_:Value,e=.returned (.tuple #[v0_,.int .i64 (resizeF l id size).2])∧Kd.R k43 43 w' w.heap.size (fun _=>True) v0_ (resizeF l id size).1∧Below w.heap.size w w':=by
 have HR0:=Aside0.mk hr0;have HC0:=Aside0.mk hc0;have HW:=Aside0.mk hw;obtain ⟨r,hr⟩ : ∃ r,r=resizeF l id size:=⟨_,rfl⟩;rw [← hr];unfold resizeF at hr;have HH:=Aside0.mk hr;have hR:=Aside0.mk (right_c A0 c0 l w hr0 hc0 hw);clear hr hr0 hc0 hw;go_enter Tryz.func244,Tryz.ntmps244;cases n0:rightB l
 ·have hr:r=([],1):=by have:=HH.out;rwa [if_neg (by rw [n0];decide)] at this
  subst hr;rw [n0] at hR;clear HH;go_wp2_with (go_at_call 115;refine hR.out.mono ?_;rintro e w1 ⟨rfl,hb1⟩;have HB1:=Aside0.mk hb1;clear hb1)
  go_ret2
  exact ⟨_,rfl,Kd.R_nil _ _ _ _ _,HB1.out⟩
 ·have hr:=HH.out;rw [if_pos n0] at hr;have HH1:=Aside0.mk hr;have hlen2:=rightB_len n0;have HUP:=Aside0.mk (right_up n0 HW.out);have hG:=Aside0.mk (fun (w:World) (hC:Kd.C k43 w A0 l.length l)=>get_c A0 c0 l id w hC HC0.out (by omega) hi0 hi1 HUP.out)
  rw [n0] at hR;clear hr HH n0;go_upto_region 4 with (first|(go_at_call 115;refine hR.out.mono ?_;rintro e w1 ⟨rfl,hb1⟩;have HB1:=Aside0.mk hb1;clear hb1)|(go_at_call 137;refine (hG.out _ (Kd.C_below HR0.out HB1.out)).mono ?_;rintro e w2 ⟨rfl,hb2⟩;have HB2:=Aside0.mk (below_step HB1.out hb2);clear hb2))
  clear hR hG HB1;have hn0:(findI l id).isSome=true→0≤(gI (findI l id)).f0∧(gI (findI l id)).f0≤4294967295:=by
   intro h;cases hf:findI l id with
   | none=>rw [hf] at h;cases h
   | some y =>
    have:=(findI_mem hf).2;show 0≤y.f0∧y.f0≤4294967295
    omega
  generalize gI (findI l id)=q at HH1 hn0 ⊢;generalize (findI l id).isSome=bq at HH1 hn0 ⊢;have BK:=Aside0.mk (heap_alloc_new w2 (.cells #[.int .u32 q.f0,.int .u32 q.f1,.string q.f2,.bool q.f3,.int .u32 q.f4] 43));have HGX:=Aside0.mk (show w.heap.size≤w2.heap.size from HB2.out.size)
  have HB3:=Aside0.mk (below_alloc HB2.out (.cells #[.int .u32 q.f0,.int .u32 q.f1,.string q.f2,.bool q.f3,.int .u32 q.f4] 43));clear HB2;generalize w2.alloc (.cells #[.int .u32 q.f0,.int .u32 q.f1,.string q.f2,.bool q.f3,.int .u32 q.f4] 43)=w3 at BK HB3 ⊢;generalize w2.heap.size=gx at BK HGX ⊢;cases bq
  ·have hr:r=([],7):=by have:=HH1.out;rwa [if_neg (by decide)] at this
   subst hr;clear HH1;go_wp2_with (fail)
   go_ret2
   exact ⟨_,rfl,Kd.R_nil _ _ _ _ _,HB3.out⟩
  ·have hr:=HH1.out;rw [if_pos rfl] at hr;have hq:=hn0 rfl;clear hn0;have HH2:=Aside0.mk hr;clear hr HH1;have z0:w3.cell? ⟨gx,0,none⟩=some (.int .u32 q.f0):=(blk_cell BK.out 0).trans rfl;have z1:w3.cell? ⟨gx,1,none⟩=some (.int .u32 q.f1):=(blk_cell BK.out 1).trans rfl;have z2:w3.cell? ⟨gx,2,none⟩=some (.string q.f2):=(blk_cell BK.out 2).trans rfl;have z3:w3.cell? ⟨gx,3,none⟩=some (.bool q.f3):=(blk_cell BK.out 3).trans rfl;have z4:w3.cell? ⟨gx,4,none⟩=some (.int .u32 q.f4):=(blk_cell BK.out 4).trans rfl;cases n1:q.f3
   ·by_cases n2:size>1024
    ·have e2:decide (size>1024)=true:=decide_eq_true n2;have hr:r=([],15):=by have:=HH2.out;rwa [if_neg (by rw [n1];decide),if_pos n2] at this
     subst hr;rw [n1] at z3;clear HH2;go_wp2_with (fail)
     go_ret2
     exact ⟨_,rfl,Kd.R_nil _ _ _ _ _,HB3.out⟩
    ·have e2:decide (size>1024)=false:=decide_eq_false n2;have hr:r=(putI l (sized q size),0):=by have:=HH2.out;rwa [if_neg (by rw [n1];decide),if_neg n2] at this
     subst hr;rw [n1] at z3;clear HH2;have f4:w3.frozen? ⟨gx,4,none⟩=false:=blk_frozen BK.out 4;have HBS:=Aside0.mk (below_set (j:=4) (v:=.int .u32 size) HB3.out HGX.out);have hP:=Aside0.mk (fun (w:World) (hC:Kd.C k43 w A0 l.length l)=>put_c A0 c0 l (sized q size) w hC HC0.out (by omega) (by omega) HUP.out hq.1 hq.2)
     unfold sized at hP;rw [n1] at hP;go_wp2_with (go_at_call 285;refine (hP.out _ (Kd.C_below HR0.out HBS.out)).mono ?_;rintro e w5 ⟨v5,rfl,ho5,hb5⟩;have HO5:=Aside0.mk (Kd.R_lower ho5 HBS.out.size);have HB5:=Aside0.mk (below_step HBS.out hb5);clear ho5 hb5)
     go_ret2
     unfold sized;rw [n1];exact ⟨_,rfl,HO5.out,HB5.out⟩
   ·have hr:r=([],11):=by have:=HH2.out;rwa [if_pos n1] at this
    subst hr;rw [n1] at z3;clear HH2;go_wp2_with (fail)
    go_ret2
    exact ⟨_,rfl,Kd.R_nil _ _ _ _ _,HB3.out⟩
def tree_Resize.f (l:List S43) (id size:Int):Option (List S43×Int):=if wfL l=true∧0≤id∧id≤4294967295 then some (resizeF l id size) else none
theorem tree_Resize.calls (A0:Option Addr) (c0:Nat) (l0:List S43) (a1 a2:Int) (r1:List S43) (r2:Int) (w:World) (hr0:Kd.C k43 w A0 l0.length l0) (hc0:l0.length≤c0) (h:tree_Resize.f l0 a1 a2=some (r1,r2)) :
  Calls Tryz.prog 244 #[.slice A0 l0.length c0,.int .u32 a1,.int .u32 a2] w fun e w'=>∃ v0_:Value,e=.returned (.tuple #[v0_,.int .i64 r2])∧Kd.R k43 43 w' w.heap.size (fun _=>True) v0_ r1∧Below w.heap.size w w':=by
 unfold tree_Resize.f at h;by_cases hd:wfL l0=true∧0≤a1∧a1≤4294967295
 ·rw [if_pos hd] at h;have h':=Option.some.inj h;have q:=resize_c A0 c0 l0 a1 a2 w hr0 hc0 hd.1 hd.2.1 hd.2.2;rw [h'] at q;exact q
 ·rw [if_neg hd] at h;cases h
structure Shift (l R:List S43) (k m:Nat):Prop where
 len:R.length=l.length
 lo : ∀ x:Nat,x<k→R[x]?=l[x]?
 mid : ∀ x:Nat,k≤x→x<m→R[x]?=l[x+1]?
 hi : ∀ x:Nat,m≤x→R[x]?=l[x]?
theorem Shift.step {l R:List S43} {k m:Nat} (h:Shift l R k m) (hk:k≤m) (hm:m+1<l.length):Shift l (R.set m l[m+1]) k (m+1):=by
 have hl:=h.len;refine ⟨by simp [h.len],fun x hx=>?_,fun x h1 h2=>?_,fun x hx=>?_⟩
 ·rw [List.getElem?_set_ne (by omega)]
  exact h.lo x hx
 ·by_cases e:x=m
  ·subst e;rw [List.getElem?_set_self (by omega),List.getElem?_eq_getElem hm]
  ·rw [List.getElem?_set_ne (by omega)]
   exact h.mid x h1 (by omega)
 ·rw [List.getElem?_set_ne (by omega)]
  exact h.hi x (by omega)
theorem Shift.done {l R:List S43} {k m:Nat} (h:Shift l R k m) (hk:k≤m) (hm:m+1=l.length):R.take m=outN l k:=by
 apply List.ext_getElem?
 intro x;unfold outN;rw [List.getElem?_take,List.getElem?_append,List.length_take];by_cases h1:x<k
 ·rw [if_pos (by omega),if_pos (by omega),h.lo x h1,List.getElem?_take,if_pos h1]
 ·rw [if_neg (show ¬ x<min k l.length by omega),List.getElem?_drop]
  by_cases h2:x<m
  ·rw [if_pos h2,h.mid x (by omega) h2]
   congr 1
   omega
  ·rw [if_neg h2,List.getElem?_eq_none (by omega)]
def inUp (l:List S43) (inn:Int):Nat→Int→Option Bool
 | 0,_=>none
 | m+1,id=>if id=inn then some true else if (findI l id).isSome=true then (if id=1 then some false else inUp l inn m (gI (findI l id)).f1) else some false
end Go.Proofs.YtikjfekagdcjmaaGreatDoor.Q
