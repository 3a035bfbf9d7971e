/- Contracts and plain theory behind FlatRights. -/
import Derived.Test.YtikjfekagdcjmaaGreatDoorCFlatRights2
set_option linter.unusedVariables false
set_option linter.unusedSimpArgs false
set_option maxHeartbeats 16000000
set_option maxRecDepth 100000
namespace Go.Proofs.YtikjfekagdcjmaaGreatDoor.Q
open Go.RowKit Go.Proofs.YtikjfekagdcjmaaGreatDoorW.PrintWords Go.Proofs.YtikjfekagdcjmaaGreatDoorW.PrintLast Go.Proofs.YtikjfekagdcjmaaGreatDoorW.PrintMore
section
attribute [local go_sem] max2_int min2_int max_two min_two max_three min_three max_four min_four
theorem eqA87 (d:Nat) (w:World) (x0 y0:Int) (x1 y1:ByteArray) :
  (Op.equalIn (d+2) 87 (.agg #[.int .u32 x0,.string x1]) (.agg #[.int .u32 y0,.string y1])).run Tryz.prog w=.ok (x0 == y0&&(x1.toList == y1.toList)) w:=by
 refine eqA_of Tryz.underlying87 (by kernel_rfl) ?_
 refine eqf_cons (by rfl) (by go_simp;rfl) (by go_simp;rfl) (by go_simp) ?_
 exact eqf_last (by rfl) (by go_simp;rfl) (by go_simp;rfl) (by go_simp)
end
section
attribute [local go_sem] max2_int min2_int max_two min_two max_three min_three max_four min_four
theorem eqA43 (d:Nat) (w:World) (x0 y0:Int) (x1 y1:Int) (x2 y2:ByteArray) (x3 y3:Bool) (x4 y4:Int) :
  (Op.equalIn (d+2) 43 (.agg #[.int .u32 x0,.int .u32 x1,.string x2,.bool x3,.int .u32 x4]) (.agg #[.int .u32 y0,.int .u32 y1,.string y2,.bool y3,.int .u32 y4])).run Tryz.prog w=.ok (x0 == y0&&(x1 == y1&&(x2.toList == y2.toList&&(x3 == y3&&(x4 == y4))))) w:=by
 refine eqA_of Tryz.underlying43 (by kernel_rfl) ?_
 refine eqf_cons (by rfl) (by go_simp;rfl) (by go_simp;rfl) (by go_simp) ?_
 refine eqf_cons (by rfl) (by go_simp;rfl) (by go_simp;rfl) (by go_simp) ?_
 refine eqf_cons (by rfl) (by go_simp;rfl) (by go_simp;rfl) (by go_simp) ?_
 refine eqf_cons (by rfl) (by go_simp;rfl) (by go_simp;rfl) (by go_simp) ?_
 exact eqf_last (by rfl) (by go_simp;rfl) (by go_simp;rfl) (by go_simp)
end
section
attribute [local go_sem] max2_int min2_int max_two min_two max_three min_three max_four min_four
attribute [local go_sem high] eqA43
def r10_Same.l0:Nat→List (S43)→List (S43)→Int→Option (Bool)
 | 0,_,_,_=>none
 | k+1,x0,x1,x5=>if x5<(x0.length:Int) then (if 0≤x5 then (if x5<(x1.length:Int) then (if (!(((rd_T43 x0 x5).f0) == ((rd_T43 x1 x5).f0))||(!(((rd_T43 x0 x5).f1) == ((rd_T43 x1 x5).f1))||(!((((rd_T43 x0 x5).f2).toList) == (((rd_T43 x1 x5).f2).toList))||(!(((rd_T43 x0 x5).f3) == ((rd_T43 x1 x5).f3))||(!(((rd_T43 x0 x5).f4) == ((rd_T43 x1 x5).f4)))))))=true then (some false) else (r10_Same.l0 k x0 x1 (wrap64 (x5+1)))) else (none)) else (none)) else (some true)
def r10_Same.f (k:Nat) (l0:List (S43)) (l1:List (S43)):Option (Bool):=if (l0.length:Int)=(l1.length:Int) then (r10_Same.l0 k l0 l1 0) else (some false)
theorem r10_Same.calls (k:Nat) (A0:Option Addr) (c0:Nat) (l0:List (S43)) (A1:Option Addr) (c1:Nat) (l1:List (S43)) (r:Bool) (w:World) (hr0:Kd.C k43 w A0 l0.length l0) (hc0:l0.length≤c0) (hr1:Kd.C k43 w A1 l1.length l1) (hc1:l1.length≤c1) (h:r10_Same.f k l0 l1=some r) :
  Calls Tryz.prog 101 #[.slice A0 l0.length c0,.slice A1 l1.length c1] w fun e w'=>e=.returned (.bool r)∧Drawn0 w w':=by
 have hu43:=Tryz.underlying43;have HR0:=Aside0.mk hr0;have HC0:=Aside0.mk hc0;clear hr0 hc0;have HR1:=Aside0.mk hr1;have HC1:=Aside0.mk hc1;clear hr1 hc1;have H:(if (l0.length:Int)=(l1.length:Int) then (r10_Same.l0 k l0 l1 0) else (some false))=some r:=h
 clear h;by_cases c3:(l0.length:Int)=(l1.length:Int)
 ·rw [if_pos c3] at H;have c3b0:=qT c3;have c3b1:=nF c3;have c3b2:(l0.length == l1.length)=true:=by first|simpa using c3|(simp at c3 ⊢;omega)
  clear c3;have H':=Aside0.mk H;clear H;go_enter Tryz.func101,Tryz.ntmps101;go_wp2
  repeat (go_quiet (fail);try go_wp2)
  go_loopg [5] k (fun kq v5 w'=>∃ (x5_1:Int),v5=.int .i64 x5_1∧Aside0 (r10_Same.l0 kq l0 l1 x5_1=some r)∧Aside0 (kq≤k)∧Drawn0 w w')
  case atStart=>exact ⟨(0),eS,H',⟨Nat.le_refl _⟩,dD⟩
  case round =>
   clear H'
   (try clear c1;try clear p2;try clear c3;try clear c3b0;try clear c3b1;try clear c3b2)
   obtain ⟨x5_1,rfl,HA,HK1,⟨m1,rfl⟩⟩:=hrel;cases gk with
   | zero=>exact absurd HA.out (by simp [r10_Same.l0])
   | succ k1 =>
    have H:=HA.out;clear HA;simp only [r10_Same.l0] at H;by_cases c4:x5_1<(l0.length:Int)
    ·rw [if_pos c4] at H;have c4b0:=decide_eq_true c4;clear c4;by_cases c5:0≤x5_1
     ·rw [if_pos c5] at H;have c5b0:=decide_eq_true c5;clear c5;by_cases c6:x5_1<(l1.length:Int)
      ·rw [if_pos c6] at H;have c6b0:=decide_eq_true c6;clear c6;by_cases c7:(!(((rd_T43 l0 x5_1).f0) == ((rd_T43 l1 x5_1).f0))||(!(((rd_T43 l0 x5_1).f1) == ((rd_T43 l1 x5_1).f1))||(!((((rd_T43 l0 x5_1).f2).toList) == (((rd_T43 l1 x5_1).f2).toList))||(!(((rd_T43 l0 x5_1).f3) == ((rd_T43 l1 x5_1).f3))||(!(((rd_T43 l0 x5_1).f4) == ((rd_T43 l1 x5_1).f4)))))))=true
       ·rw [if_pos c7] at H;have c7b0:(!(((rd_T43 l0 x5_1).f0) == ((rd_T43 l1 x5_1).f0))||(!(((rd_T43 l0 x5_1).f1) == ((rd_T43 l1 x5_1).f1))||(!((((rd_T43 l0 x5_1).f2).toList) == (((rd_T43 l1 x5_1).f2).toList))||(!(((rd_T43 l0 x5_1).f3) == ((rd_T43 l1 x5_1).f3))||(!(((rd_T43 l0 x5_1).f4) == ((rd_T43 l1 x5_1).f4)))))))=true:=c7
        clear c7;obtain rfl:=Option.some.inj H;have p346:0≤(x5_1:Int):=pA;have q346:x5_1<(l0.length:Int):=pA;obtain ⟨ad346,e346,hx346_0,hx346_1,hx346_2,hx346_3,hx346_4⟩:=at_T43 HR0.out x5_1 p346 q346;cases e346
        replace p346:=eq_true p346;replace q346:=eq_true q346;have p347:0≤(x5_1:Int):=pA;have q347:x5_1<(l1.length:Int):=pA;obtain ⟨ad347,e347,hx347_0,hx347_1,hx347_2,hx347_3,hx347_4⟩:=at_T43 HR1.out x5_1 p347 q347;cases e347
        replace p347:=eq_true p347;replace q347:=eq_true q347;go_wp2
        repeat (go_quiet (fail);try go_wp2)
        go_ret
        exact ⟨eS,dD⟩
       ·rw [if_neg c7] at H;have c7b0:(!(((rd_T43 l0 x5_1).f0) == ((rd_T43 l1 x5_1).f0))||(!(((rd_T43 l0 x5_1).f1) == ((rd_T43 l1 x5_1).f1))||(!((((rd_T43 l0 x5_1).f2).toList) == (((rd_T43 l1 x5_1).f2).toList))||(!(((rd_T43 l0 x5_1).f3) == ((rd_T43 l1 x5_1).f3))||(!(((rd_T43 l0 x5_1).f4) == ((rd_T43 l1 x5_1).f4)))))))=false:=by simpa using c7
        clear c7;have H':=Aside0.mk H;clear H;have p346:0≤(x5_1:Int):=pA;have q346:x5_1<(l0.length:Int):=pA;obtain ⟨ad346,e346,hx346_0,hx346_1,hx346_2,hx346_3,hx346_4⟩:=at_T43 HR0.out x5_1 p346 q346;cases e346
        replace p346:=eq_true p346;replace q346:=eq_true q346;have p347:0≤(x5_1:Int):=pA;have q347:x5_1<(l1.length:Int):=pA;obtain ⟨ad347,e347,hx347_0,hx347_1,hx347_2,hx347_3,hx347_4⟩:=at_T43 HR1.out x5_1 p347 q347;cases e347
        replace p347:=eq_true p347;replace q347:=eq_true q347;go_wp2
        repeat (go_quiet (fail);try go_wp2)
        go_roundg k1
        case measure=>have:=HK1.out;omega
        case rel=>exact ⟨(wrap64 (x5_1+1)),eS,H',⟨by have:=HK1.out;omega⟩,dD⟩
      ·rw [if_neg c6] at H;exact absurd H (by simp)
     ·rw [if_neg c5] at H;exact absurd H (by simp)
    ·rw [if_neg c4] at H;have c4b0:=decide_eq_false c4;clear c4;obtain rfl:=Option.some.inj H;go_wp2
     repeat (go_quiet (fail);try go_wp2)
     go_ret
     exact ⟨eS,dD⟩
 ·rw [if_neg c3] at H;have c3b0:=qF c3;have c3b1:=nT c3;have c3b2:(l0.length == l1.length)=false:=by first|simpa using c3|(simp at c3 ⊢;omega)
  obtain rfl:=Option.some.inj H;go_enter Tryz.func101,Tryz.ntmps101;go_wp2
  repeat (go_quiet (fail);try go_wp2)
  go_ret
  exact ⟨eS,dD⟩
end
section
attribute [local go_sem] max2_int min2_int max_two min_two max_three min_three max_four min_four
theorem eqA81 (d:Nat) (w:World) (x0 y0:Int) (x1 y1:Int) (x2 y2:Int) (x3 y3:Int) (x4 y4:Int) :
  (Op.equalIn (d+2) 81 (.agg #[.int .u32 x0,.int .u32 x1,.int .u32 x2,.int .u32 x3,.int .u32 x4]) (.agg #[.int .u32 y0,.int .u32 y1,.int .u32 y2,.int .u32 y3,.int .u32 y4])).run Tryz.prog w=.ok (x0 == y0&&(x1 == y1&&(x2 == y2&&(x3 == y3&&(x4 == y4))))) w:=by
 refine eqA_of Tryz.underlying81 (by kernel_rfl) ?_
 refine eqf_cons (by rfl) (by go_simp;rfl) (by go_simp;rfl) (by go_simp) ?_
 refine eqf_cons (by rfl) (by go_simp;rfl) (by go_simp;rfl) (by go_simp) ?_
 refine eqf_cons (by rfl) (by go_simp;rfl) (by go_simp;rfl) (by go_simp) ?_
 refine eqf_cons (by rfl) (by go_simp;rfl) (by go_simp;rfl) (by go_simp) ?_
 exact eqf_last (by rfl) (by go_simp;rfl) (by go_simp;rfl) (by go_simp)
end
section
attribute [local go_sem] max2_int min2_int max_two min_two max_three min_three max_four min_four
attribute [local go_sem high] eqA81
def r11_Same.l0:Nat→List (S81)→List (S81)→Int→Option (Bool)
 | 0,_,_,_=>none
 | k+1,x0,x1,x5=>if x5<(x0.length:Int) then (if 0≤x5 then (if x5<(x1.length:Int) then (if (!(((rd_T81 x0 x5).f0) == ((rd_T81 x1 x5).f0))||(!(((rd_T81 x0 x5).f1) == ((rd_T81 x1 x5).f1))||(!(((rd_T81 x0 x5).f2) == ((rd_T81 x1 x5).f2))||(!(((rd_T81 x0 x5).f3) == ((rd_T81 x1 x5).f3))||(!(((rd_T81 x0 x5).f4) == ((rd_T81 x1 x5).f4)))))))=true then (some false) else (r11_Same.l0 k x0 x1 (wrap64 (x5+1)))) else (none)) else (none)) else (some true)
def r11_Same.f (k:Nat) (l0:List (S81)) (l1:List (S81)):Option (Bool):=if (l0.length:Int)=(l1.length:Int) then (r11_Same.l0 k l0 l1 0) else (some false)
theorem r11_Same.calls (k:Nat) (A0:Option Addr) (c0:Nat) (l0:List (S81)) (A1:Option Addr) (c1:Nat) (l1:List (S81)) (r:Bool) (w:World) (hr0:Kd.C k81 w A0 l0.length l0) (hc0:l0.length≤c0) (hr1:Kd.C k81 w A1 l1.length l1) (hc1:l1.length≤c1) (h:r11_Same.f k l0 l1=some r) :
  Calls Tryz.prog 102 #[.slice A0 l0.length c0,.slice A1 l1.length c1] w fun e w'=>e=.returned (.bool r)∧Drawn0 w w':=by
 have hu81:=Tryz.underlying81;have HR0:=Aside0.mk hr0;have HC0:=Aside0.mk hc0;clear hr0 hc0;have HR1:=Aside0.mk hr1;have HC1:=Aside0.mk hc1;clear hr1 hc1;have H:(if (l0.length:Int)=(l1.length:Int) then (r11_Same.l0 k l0 l1 0) else (some false))=some r:=h
 clear h;by_cases c3:(l0.length:Int)=(l1.length:Int)
 ·rw [if_pos c3] at H;have c3b0:=qT c3;have c3b1:=nF c3;have c3b2:(l0.length == l1.length)=true:=by first|simpa using c3|(simp at c3 ⊢;omega)
  clear c3;have H':=Aside0.mk H;clear H;go_enter Tryz.func102,Tryz.ntmps102;go_wp2
  repeat (go_quiet (fail);try go_wp2)
  go_loopg [5] k (fun kq v5 w'=>∃ (x5_1:Int),v5=.int .i64 x5_1∧Aside0 (r11_Same.l0 kq l0 l1 x5_1=some r)∧Aside0 (kq≤k)∧Drawn0 w w')
  case atStart=>exact ⟨(0),eS,H',⟨Nat.le_refl _⟩,dD⟩
  case round =>
   clear H'
   (try clear c1;try clear p2;try clear c3;try clear c3b0;try clear c3b1;try clear c3b2)
   obtain ⟨x5_1,rfl,HA,HK1,⟨m1,rfl⟩⟩:=hrel;cases gk with
   | zero=>exact absurd HA.out (by simp [r11_Same.l0])
   | succ k1 =>
    have H:=HA.out;clear HA;simp only [r11_Same.l0] at H;by_cases c4:x5_1<(l0.length:Int)
    ·rw [if_pos c4] at H;have c4b0:=decide_eq_true c4;clear c4;by_cases c5:0≤x5_1
     ·rw [if_pos c5] at H;have c5b0:=decide_eq_true c5;clear c5;by_cases c6:x5_1<(l1.length:Int)
      ·rw [if_pos c6] at H;have c6b0:=decide_eq_true c6;clear c6;by_cases c7:(!(((rd_T81 l0 x5_1).f0) == ((rd_T81 l1 x5_1).f0))||(!(((rd_T81 l0 x5_1).f1) == ((rd_T81 l1 x5_1).f1))||(!(((rd_T81 l0 x5_1).f2) == ((rd_T81 l1 x5_1).f2))||(!(((rd_T81 l0 x5_1).f3) == ((rd_T81 l1 x5_1).f3))||(!(((rd_T81 l0 x5_1).f4) == ((rd_T81 l1 x5_1).f4)))))))=true
       ·rw [if_pos c7] at H;have c7b0:(!(((rd_T81 l0 x5_1).f0) == ((rd_T81 l1 x5_1).f0))||(!(((rd_T81 l0 x5_1).f1) == ((rd_T81 l1 x5_1).f1))||(!(((rd_T81 l0 x5_1).f2) == ((rd_T81 l1 x5_1).f2))||(!(((rd_T81 l0 x5_1).f3) == ((rd_T81 l1 x5_1).f3))||(!(((rd_T81 l0 x5_1).f4) == ((rd_T81 l1 x5_1).f4)))))))=true:=c7
        clear c7;obtain rfl:=Option.some.inj H;have p348:0≤(x5_1:Int):=pA;have q348:x5_1<(l0.length:Int):=pA;obtain ⟨ad348,e348,hx348_0,hx348_1,hx348_2,hx348_3,hx348_4⟩:=at_T81 HR0.out x5_1 p348 q348;cases e348
        replace p348:=eq_true p348;replace q348:=eq_true q348;have p349:0≤(x5_1:Int):=pA;have q349:x5_1<(l1.length:Int):=pA;obtain ⟨ad349,e349,hx349_0,hx349_1,hx349_2,hx349_3,hx349_4⟩:=at_T81 HR1.out x5_1 p349 q349;cases e349
        replace p349:=eq_true p349;replace q349:=eq_true q349;go_wp2
        repeat (go_quiet (fail);try go_wp2)
        go_ret
        exact ⟨eS,dD⟩
       ·rw [if_neg c7] at H;have c7b0:(!(((rd_T81 l0 x5_1).f0) == ((rd_T81 l1 x5_1).f0))||(!(((rd_T81 l0 x5_1).f1) == ((rd_T81 l1 x5_1).f1))||(!(((rd_T81 l0 x5_1).f2) == ((rd_T81 l1 x5_1).f2))||(!(((rd_T81 l0 x5_1).f3) == ((rd_T81 l1 x5_1).f3))||(!(((rd_T81 l0 x5_1).f4) == ((rd_T81 l1 x5_1).f4)))))))=false:=by simpa using c7
        clear c7;have H':=Aside0.mk H;clear H;have p348:0≤(x5_1:Int):=pA;have q348:x5_1<(l0.length:Int):=pA;obtain ⟨ad348,e348,hx348_0,hx348_1,hx348_2,hx348_3,hx348_4⟩:=at_T81 HR0.out x5_1 p348 q348;cases e348
        replace p348:=eq_true p348;replace q348:=eq_true q348;have p349:0≤(x5_1:Int):=pA;have q349:x5_1<(l1.length:Int):=pA;obtain ⟨ad349,e349,hx349_0,hx349_1,hx349_2,hx349_3,hx349_4⟩:=at_T81 HR1.out x5_1 p349 q349;cases e349
        replace p349:=eq_true p349;replace q349:=eq_true q349;go_wp2
        repeat (go_quiet (fail);try go_wp2)
        go_roundg k1
        case measure=>have:=HK1.out;omega
        case rel=>exact ⟨(wrap64 (x5_1+1)),eS,H',⟨by have:=HK1.out;omega⟩,dD⟩
      ·rw [if_neg c6] at H;exact absurd H (by simp)
     ·rw [if_neg c5] at H;exact absurd H (by simp)
    ·rw [if_neg c4] at H;have c4b0:=decide_eq_false c4;clear c4;obtain rfl:=Option.some.inj H;go_wp2
     repeat (go_quiet (fail);try go_wp2)
     go_ret
     exact ⟨eS,dD⟩
 ·rw [if_neg c3] at H;have c3b0:=qF c3;have c3b1:=nT c3;have c3b2:(l0.length == l1.length)=false:=by first|simpa using c3|(simp at c3 ⊢;omega)
  obtain rfl:=Option.some.inj H;go_enter Tryz.func102,Tryz.ntmps102;go_wp2
  repeat (go_quiet (fail);try go_wp2)
  go_ret
  exact ⟨eS,dD⟩
end
section
attribute [local go_sem] max2_int min2_int max_two min_two max_three min_three max_four min_four
attribute [local go_sem high] eqA87
mutual
def r19_Same.j0:Nat→Bool→Int→List (S43)→List (S81)→List (S87)→Int→List (S43)→List (S81)→List (S87)→Option (Bool)
 | 0,_,_,_,_,_,_,_,_,_=>none
 | k+1,x35,x351000,x351001,x351002,x351003,x352000,x352001,x352002,x352003=>if x35=true then (some false) else (r19_Same.l0 k 0 x351000 x351001 x351002 x351003 x352000 x352001 x352002 x352003)
def r19_Same.l0:Nat→Int→Int→List (S43)→List (S81)→List (S87)→Int→List (S43)→List (S81)→List (S87)→Option (Bool)
 | 0,_,_,_,_,_,_,_,_,_=>none
 | k+1,x5,x351000,x351001,x351002,x351003,x352000,x352001,x352002,x352003=>if x5<(x351003.length:Int) then (if 0≤x5 then (if x5<(x352003.length:Int) then (if (!(((rd_T87 x351003 x5).f0) == ((rd_T87 x352003 x5).f0))||(!((((rd_T87 x351003 x5).f1).toList) == (((rd_T87 x352003 x5).f1).toList))))=true then (some false) else (r19_Same.l0 k (wrap64 (x5+1)) x351000 x351001 x351002 x351003 x352000 x352001 x352002 x352003)) else (none)) else (none)) else (some true)
end
def r19_Same.f (k:Nat) (a0_0:Int) (l0_1:List (S43)) (l0_2:List (S81)) (l0_3:List (S87)) (a1_0:Int) (l1_1:List (S43)) (l1_2:List (S81)) (l1_3:List (S87)):Option (Bool):=if a0_0=a1_0 then ((r10_Same.f k l0_1 l1_1).bind fun t352=>(if t352=true then ((r11_Same.f k l0_2 l1_2).bind fun t353=>(if t353=true then (r19_Same.j0 k ((l0_3.length:Int) != (l1_3.length:Int)) a0_0 l0_1 l0_2 l0_3 a1_0 l1_1 l1_2 l1_3) else (r19_Same.j0 k true a0_0 l0_1 l0_2 l0_3 a1_0 l1_1 l1_2 l1_3))) else (r19_Same.j0 k true a0_0 l0_1 l0_2 l0_3 a1_0 l1_1 l1_2 l1_3))) else (r19_Same.j0 k true a0_0 l0_1 l0_2 l0_3 a1_0 l1_1 l1_2 l1_3)
theorem r19_Same.calls (k:Nat) (a0_0:Int) (A0_1:Option Addr) (c0_1:Nat) (l0_1:List (S43)) (A0_2:Option Addr) (c0_2:Nat) (l0_2:List (S81)) (A0_3:Option Addr) (c0_3:Nat) (l0_3:List (S87)) (a1_0:Int) (A1_1:Option Addr) (c1_1:Nat) (l1_1:List (S43)) (A1_2:Option Addr) (c1_2:Nat) (l1_2:List (S81)) (A1_3:Option Addr) (c1_3:Nat) (l1_3:List (S87)) (r:Bool) (w:World) (hr0_1:Kd.C k43 w A0_1 l0_1.length l0_1) (hc0_1:l0_1.length≤c0_1) (hr0_2:Kd.C k81 w A0_2 l0_2.length l0_2) (hc0_2:l0_2.length≤c0_2) (hr0_3:Kd.C k87 w A0_3 l0_3.length l0_3) (hc0_3:l0_3.length≤c0_3) (hr1_1:Kd.C k43 w A1_1 l1_1.length l1_1) (hc1_1:l1_1.length≤c1_1) (hr1_2:Kd.C k81 w A1_2 l1_2.length l1_2) (hc1_2:l1_2.length≤c1_2) (hr1_3:Kd.C k87 w A1_3 l1_3.length l1_3) (hc1_3:l1_3.length≤c1_3) (h:r19_Same.f k a0_0 l0_1 l0_2 l0_3 a1_0 l1_1 l1_2 l1_3=some r) :
  Calls Tryz.prog 33 #[.agg #[.int .u32 a0_0,.slice A0_1 l0_1.length c0_1,.slice A0_2 l0_2.length c0_2,.slice A0_3 l0_3.length c0_3],.agg #[.int .u32 a1_0,.slice A1_1 l1_1.length c1_1,.slice A1_2 l1_2.length c1_2,.slice A1_3 l1_3.length c1_3]] w fun e w'=>e=.returned (.bool r)∧Below w.heap.size w w':=by
 have hu67:=Tryz.underlying67;have hu87:=Tryz.underlying87;have HR0_1:=Aside0.mk hr0_1;have HC0_1:=Aside0.mk hc0_1;clear hr0_1 hc0_1;have HR0_2:=Aside0.mk hr0_2;have HC0_2:=Aside0.mk hc0_2;clear hr0_2 hc0_2;have HR0_3:=Aside0.mk hr0_3;have HC0_3:=Aside0.mk hc0_3;clear hr0_3 hc0_3;have HR1_1:=Aside0.mk hr1_1;have HC1_1:=Aside0.mk hc1_1;clear hr1_1 hc1_1;have HR1_2:=Aside0.mk hr1_2;have HC1_2:=Aside0.mk hc1_2;clear hr1_2 hc1_2;have HR1_3:=Aside0.mk hr1_3;have HC1_3:=Aside0.mk hc1_3;clear hr1_3 hc1_3;have HB:=Aside0.mk (Below.refl w.heap.size w);have H:(if a0_0=a1_0 then ((r10_Same.f k l0_1 l1_1).bind fun t352=>(if t352=true then ((r11_Same.f k l0_2 l1_2).bind fun t353=>(if t353=true then (r19_Same.j0 k ((l0_3.length:Int) != (l1_3.length:Int)) a0_0 l0_1 l0_2 l0_3 a1_0 l1_1 l1_2 l1_3) else (r19_Same.j0 k true a0_0 l0_1 l0_2 l0_3 a1_0 l1_1 l1_2 l1_3))) else (r19_Same.j0 k true a0_0 l0_1 l0_2 l0_3 a1_0 l1_1 l1_2 l1_3))) else (r19_Same.j0 k true a0_0 l0_1 l0_2 l0_3 a1_0 l1_1 l1_2 l1_3))=some r:=h
 clear h;have HC3:=Aside0.mk H;clear H;go_enter Tryz.func33,Tryz.ntmps33;go_upto_region 1 with (first|((with_reducible refine gate_dst (N:=2) rfl ?_);(try (refine gate_guard (by rfl) ?_;dsimp only));refine bx 2 #[.int .u32 a0_0,.slice A0_1 l0_1.length c0_1,.slice A0_2 l0_2.length c0_2,.slice A0_3 l0_3.length c0_3] 67 ?_;intro gb350 hg w4 hbox hb;have BK350:=Aside0.mk (hbox);have GW350:=Aside0.mk ((gG hg:w.heap.size≤gb350));have GE350:=Aside0.mk ((gG hg:w.heap.size≤gb350));replace HB:=Aside0.mk (below_step bD hb);clear hb hbox hg)|((with_reducible refine gate_dst (N:=3) rfl ?_);(try (refine gate_guard (by rfl) ?_;dsimp only));refine bx 3 #[.int .u32 a1_0,.slice A1_1 l1_1.length c1_1,.slice A1_2 l1_2.length c1_2,.slice A1_3 l1_3.length c1_3] 67 ?_;intro gb351 hg w5 hbox hb;have n0_:=Aside0.mk (kb BK350 hb);have n1_:=Aside0.mk (below_step bD hb);have n2_:=Aside0.mk (hbox);have n3_:=Aside0.mk ((gG hg:w.heap.size≤gb351));have n4_:=Aside0.mk ((gG hg:w.heap.size≤gb351));have n5_:=Aside0.mk ((gN BK350 hg));have n6_:=Aside0.mk ((gN' BK350 hg));clear BK350;clear HB;have BK350:=n0_;have HB:=n1_;have BK351:=n2_;have GW351:=n3_;have GE351:=n4_;have NB350_351:=n5_;have NB351_350:=n6_;clear n0_ n1_ n2_ n3_ n4_ n5_ n6_;clear hb hbox hg))
 repeat (go_quiet (first|((with_reducible refine gate_dst (N:=2) rfl ?_);(try (refine gate_guard (by rfl) ?_;dsimp only));refine bx 2 #[.int .u32 a0_0,.slice A0_1 l0_1.length c0_1,.slice A0_2 l0_2.length c0_2,.slice A0_3 l0_3.length c0_3] 67 ?_;intro gb350 hg w4 hbox hb;have BK350:=Aside0.mk (hbox);have GW350:=Aside0.mk ((gG hg:w.heap.size≤gb350));have GE350:=Aside0.mk ((gG hg:w.heap.size≤gb350));replace HB:=Aside0.mk (below_step bD hb);clear hb hbox hg)|((with_reducible refine gate_dst (N:=3) rfl ?_);(try (refine gate_guard (by rfl) ?_;dsimp only));refine bx 3 #[.int .u32 a1_0,.slice A1_1 l1_1.length c1_1,.slice A1_2 l1_2.length c1_2,.slice A1_3 l1_3.length c1_3] 67 ?_;intro gb351 hg w5 hbox hb;have n0_:=Aside0.mk (kb BK350 hb);have n1_:=Aside0.mk (below_step bD hb);have n2_:=Aside0.mk (hbox);have n3_:=Aside0.mk ((gG hg:w.heap.size≤gb351));have n4_:=Aside0.mk ((gG hg:w.heap.size≤gb351));have n5_:=Aside0.mk ((gN BK350 hg));have n6_:=Aside0.mk ((gN' BK350 hg));clear BK350;clear HB;have BK350:=n0_;have HB:=n1_;have BK351:=n2_;have GW351:=n3_;have GE351:=n4_;have NB350_351:=n5_;have NB351_350:=n6_;clear n0_ n1_ n2_ n3_ n4_ n5_ n6_;clear hb hbox hg));go_upto_region 1 with (first|((with_reducible refine gate_dst (N:=2) rfl ?_);(try (refine gate_guard (by rfl) ?_;dsimp only));refine bx 2 #[.int .u32 a0_0,.slice A0_1 l0_1.length c0_1,.slice A0_2 l0_2.length c0_2,.slice A0_3 l0_3.length c0_3] 67 ?_;intro gb350 hg w4 hbox hb;have BK350:=Aside0.mk (hbox);have GW350:=Aside0.mk ((gG hg:w.heap.size≤gb350));have GE350:=Aside0.mk ((gG hg:w.heap.size≤gb350));replace HB:=Aside0.mk (below_step bD hb);clear hb hbox hg)|((with_reducible refine gate_dst (N:=3) rfl ?_);(try (refine gate_guard (by rfl) ?_;dsimp only));refine bx 3 #[.int .u32 a1_0,.slice A1_1 l1_1.length c1_1,.slice A1_2 l1_2.length c1_2,.slice A1_3 l1_3.length c1_3] 67 ?_;intro gb351 hg w5 hbox hb;have n0_:=Aside0.mk (kb BK350 hb);have n1_:=Aside0.mk (below_step bD hb);have n2_:=Aside0.mk (hbox);have n3_:=Aside0.mk ((gG hg:w.heap.size≤gb351));have n4_:=Aside0.mk ((gG hg:w.heap.size≤gb351));have n5_:=Aside0.mk ((gN BK350 hg));have n6_:=Aside0.mk ((gN' BK350 hg));clear BK350;clear HB;have BK350:=n0_;have HB:=n1_;have BK351:=n2_;have GW351:=n3_;have GE351:=n4_;have NB350_351:=n5_;have NB351_350:=n6_;clear n0_ n1_ n2_ n3_ n4_ n5_ n6_;clear hb hbox hg)))
 (try simp only [Act.put,List.setIfInBounds_toArray,List.set_cons_zero,List.set_cons_succ])
 go_cut [35] (fun v35 wc=>∃ (kq:Nat) (x35_2:Bool),v35=.bool x35_2∧Aside0 (r19_Same.j0 kq x35_2 a0_0 l0_1 l0_2 l0_3 a1_0 l1_1 l1_2 l1_3=some r)∧Aside0 (kq≤k)∧Aside0 (wc.heap[gb350]?=some (.cells #[.int .u32 a0_0,(.slice A0_1 l0_1.length c0_1),(.slice A0_2 l0_2.length c0_2),(.slice A0_3 l0_3.length c0_3)] 67 (0,0)))∧Aside0 (wc.heap[gb351]?=some (.cells #[.int .u32 a1_0,(.slice A1_1 l1_1.length c1_1),(.slice A1_2 l1_2.length c1_2),(.slice A1_3 l1_3.length c1_3)] 67 (0,0)))∧Aside0 (Below w.heap.size w wc))
 case first =>
  have H:=HC3.out;clear HC3;by_cases c6:a0_0=a1_0
  ·rw [if_pos c6] at H;have c6b0:=qT c6;have c6b1:=nF c6;clear c6
   (first|rw [c6b0]|(simp only [i64_w,i32_w];rw [c6b0])|skip)
   replace H:=Option.bind_eq_some_iff.mp H;obtain ⟨t352,A70,H⟩:=H;replace H:(if t352=true then ((r11_Same.f k l0_2 l1_2).bind fun t353=>(if t353=true then (r19_Same.j0 k ((l0_3.length:Int) != (l1_3.length:Int)) a0_0 l0_1 l0_2 l0_3 a1_0 l1_1 l1_2 l1_3) else (r19_Same.j0 k true a0_0 l0_1 l0_2 l0_3 a1_0 l1_1 l1_2 l1_3))) else (r19_Same.j0 k true a0_0 l0_1 l0_2 l0_3 a1_0 l1_1 l1_2 l1_3))=some r:=H
   have A7:=Aside0.mk A70;clear A70;by_cases c8:t352=true
   ·subst c8;replace H:=ifTT H;replace H:=Option.bind_eq_some_iff.mp H;obtain ⟨t353,A90,H⟩:=H;replace H:(if t353=true then (r19_Same.j0 k ((l0_3.length:Int) != (l1_3.length:Int)) a0_0 l0_1 l0_2 l0_3 a1_0 l1_1 l1_2 l1_3) else (r19_Same.j0 k true a0_0 l0_1 l0_2 l0_3 a1_0 l1_1 l1_2 l1_3))=some r:=H
    have A9:=Aside0.mk A90;clear A90;by_cases c10:t353=true
    ·subst c10;replace H:=ifTT H;have H':=Aside0.mk H;clear H;have hnb11:=NB350_351.out;have hnc11:=NB351_350.out;obtain ⟨hcz12_0,hcz12_1,hcz12_2,hcz12_3⟩:=cc4 BK350.out;obtain ⟨hfz12_0,hfz12_1,hfz12_2,hfz12_3⟩:=ff4 BK350.out;obtain ⟨hcz13_0,hcz13_1,hcz13_2,hcz13_3⟩:=cc4 BK351.out;obtain ⟨hfz13_0,hfz13_1,hfz13_2,hfz13_3⟩:=ff4 BK351.out;go_wp2_with (first|(go_at_call 101;(with_reducible refine (r10_Same.calls k _ _ l0_1 _ _ l1_1 true _ ?side1 ?side2 ?side3 ?side4 A7.out).mono ?_);(case side1=>exact cD);(case side2=>exact HC0_1.out);(case side3=>exact cD);(case side4=>exact HC1_1.out);rintro e w' ⟨rfl,⟨nd,rfl⟩⟩;(try first|exact ⟨rfl,_,World.drewN_drewN _ _ _⟩|exact ⟨rfl,_,Eq.trans (World.drewN_drewN _ _ _) (congrArg (World.drewN _) (Nat.add_assoc _ _ _))⟩))|(go_at_call 102;(with_reducible refine (r11_Same.calls k _ _ l0_2 _ _ l1_2 true _ ?side1 ?side2 ?side3 ?side4 A9.out).mono ?_);(case side1=>repeat (first|exact (Kd.C_below HR0_2.out bD)|(with_reducible refine Kd.C_alloc ?_ _)|(with_reducible refine Kd.C_drewN ?_ _)|(with_reducible refine Kd.C_drew ?_)));(case side2=>exact HC0_2.out);(case side3=>repeat (first|exact (Kd.C_below HR1_2.out bD)|(with_reducible refine Kd.C_alloc ?_ _)|(with_reducible refine Kd.C_drewN ?_ _)|(with_reducible refine Kd.C_drew ?_)));(case side4=>exact HC1_2.out);rintro e w' ⟨rfl,⟨nd,rfl⟩⟩;(try first|exact ⟨rfl,_,World.drewN_drewN _ _ _⟩|exact ⟨rfl,_,Eq.trans (World.drewN_drewN _ _ _) (congrArg (World.drewN _) (Nat.add_assoc _ _ _))⟩)))
     repeat (go_quiet (first|(go_at_call 101;(with_reducible refine (r10_Same.calls k _ _ l0_1 _ _ l1_1 true _ ?side1 ?side2 ?side3 ?side4 A7.out).mono ?_);(case side1=>exact cD);(case side2=>exact HC0_1.out);(case side3=>exact cD);(case side4=>exact HC1_1.out);rintro e w' ⟨rfl,⟨nd,rfl⟩⟩;(try first|exact ⟨rfl,_,World.drewN_drewN _ _ _⟩|exact ⟨rfl,_,Eq.trans (World.drewN_drewN _ _ _) (congrArg (World.drewN _) (Nat.add_assoc _ _ _))⟩))|(go_at_call 102;(with_reducible refine (r11_Same.calls k _ _ l0_2 _ _ l1_2 true _ ?side1 ?side2 ?side3 ?side4 A9.out).mono ?_);(case side1=>repeat (first|exact (Kd.C_below HR0_2.out bD)|(with_reducible refine Kd.C_alloc ?_ _)|(with_reducible refine Kd.C_drewN ?_ _)|(with_reducible refine Kd.C_drew ?_)));(case side2=>exact HC0_2.out);(case side3=>repeat (first|exact (Kd.C_below HR1_2.out bD)|(with_reducible refine Kd.C_alloc ?_ _)|(with_reducible refine Kd.C_drewN ?_ _)|(with_reducible refine Kd.C_drew ?_)));(case side4=>exact HC1_2.out);rintro e w' ⟨rfl,⟨nd,rfl⟩⟩;(try first|exact ⟨rfl,_,World.drewN_drewN _ _ _⟩|exact ⟨rfl,_,Eq.trans (World.drewN_drewN _ _ _) (congrArg (World.drewN _) (Nat.add_assoc _ _ _))⟩)));try go_wp2_with (first|(go_at_call 101;(with_reducible refine (r10_Same.calls k _ _ l0_1 _ _ l1_1 true _ ?side1 ?side2 ?side3 ?side4 A7.out).mono ?_);(case side1=>exact cD);(case side2=>exact HC0_1.out);(case side3=>exact cD);(case side4=>exact HC1_1.out);rintro e w' ⟨rfl,⟨nd,rfl⟩⟩;(try first|exact ⟨rfl,_,World.drewN_drewN _ _ _⟩|exact ⟨rfl,_,Eq.trans (World.drewN_drewN _ _ _) (congrArg (World.drewN _) (Nat.add_assoc _ _ _))⟩))|(go_at_call 102;(with_reducible refine (r11_Same.calls k _ _ l0_2 _ _ l1_2 true _ ?side1 ?side2 ?side3 ?side4 A9.out).mono ?_);(case side1=>repeat (first|exact (Kd.C_below HR0_2.out bD)|(with_reducible refine Kd.C_alloc ?_ _)|(with_reducible refine Kd.C_drewN ?_ _)|(with_reducible refine Kd.C_drew ?_)));(case side2=>exact HC0_2.out);(case side3=>repeat (first|exact (Kd.C_below HR1_2.out bD)|(with_reducible refine Kd.C_alloc ?_ _)|(with_reducible refine Kd.C_drewN ?_ _)|(with_reducible refine Kd.C_drew ?_)));(case side4=>exact HC1_2.out);rintro e w' ⟨rfl,⟨nd,rfl⟩⟩;(try first|exact ⟨rfl,_,World.drewN_drewN _ _ _⟩|exact ⟨rfl,_,Eq.trans (World.drewN_drewN _ _ _) (congrArg (World.drewN _) (Nat.add_assoc _ _ _))⟩))))
     go_meet
     case rel=>exact ⟨_,(((l0_3.length:Int) != (l1_3.length:Int))),eS,H',⟨by first|omega|exact Nat.le_refl _⟩,⟨kD⟩,⟨kD⟩,⟨bD⟩⟩
    ·replace c10:=Bool.eq_false_iff.mpr c10;subst c10;replace H:=ifFF H;have H':=Aside0.mk H;clear H;have hnb14:=NB350_351.out;have hnc14:=NB351_350.out;obtain ⟨hcz15_0,hcz15_1,hcz15_2,hcz15_3⟩:=cc4 BK350.out;obtain ⟨hfz15_0,hfz15_1,hfz15_2,hfz15_3⟩:=ff4 BK350.out;obtain ⟨hcz16_0,hcz16_1,hcz16_2,hcz16_3⟩:=cc4 BK351.out;obtain ⟨hfz16_0,hfz16_1,hfz16_2,hfz16_3⟩:=ff4 BK351.out;go_wp2_with (first|(go_at_call 101;(with_reducible refine (r10_Same.calls k _ _ l0_1 _ _ l1_1 true _ ?side1 ?side2 ?side3 ?side4 A7.out).mono ?_);(case side1=>exact cD);(case side2=>exact HC0_1.out);(case side3=>exact cD);(case side4=>exact HC1_1.out);rintro e w' ⟨rfl,⟨nd,rfl⟩⟩;(try first|exact ⟨rfl,_,World.drewN_drewN _ _ _⟩|exact ⟨rfl,_,Eq.trans (World.drewN_drewN _ _ _) (congrArg (World.drewN _) (Nat.add_assoc _ _ _))⟩))|(go_at_call 102;(with_reducible refine (r11_Same.calls k _ _ l0_2 _ _ l1_2 false _ ?side1 ?side2 ?side3 ?side4 A9.out).mono ?_);(case side1=>repeat (first|exact (Kd.C_below HR0_2.out bD)|(with_reducible refine Kd.C_alloc ?_ _)|(with_reducible refine Kd.C_drewN ?_ _)|(with_reducible refine Kd.C_drew ?_)));(case side2=>exact HC0_2.out);(case side3=>repeat (first|exact (Kd.C_below HR1_2.out bD)|(with_reducible refine Kd.C_alloc ?_ _)|(with_reducible refine Kd.C_drewN ?_ _)|(with_reducible refine Kd.C_drew ?_)));(case side4=>exact HC1_2.out);rintro e w' ⟨rfl,⟨nd,rfl⟩⟩;(try first|exact ⟨rfl,_,World.drewN_drewN _ _ _⟩|exact ⟨rfl,_,Eq.trans (World.drewN_drewN _ _ _) (congrArg (World.drewN _) (Nat.add_assoc _ _ _))⟩)))
     repeat (go_quiet (first|(go_at_call 101;(with_reducible refine (r10_Same.calls k _ _ l0_1 _ _ l1_1 true _ ?side1 ?side2 ?side3 ?side4 A7.out).mono ?_);(case side1=>exact cD);(case side2=>exact HC0_1.out);(case side3=>exact cD);(case side4=>exact HC1_1.out);rintro e w' ⟨rfl,⟨nd,rfl⟩⟩;(try first|exact ⟨rfl,_,World.drewN_drewN _ _ _⟩|exact ⟨rfl,_,Eq.trans (World.drewN_drewN _ _ _) (congrArg (World.drewN _) (Nat.add_assoc _ _ _))⟩))|(go_at_call 102;(with_reducible refine (r11_Same.calls k _ _ l0_2 _ _ l1_2 false _ ?side1 ?side2 ?side3 ?side4 A9.out).mono ?_);(case side1=>repeat (first|exact (Kd.C_below HR0_2.out bD)|(with_reducible refine Kd.C_alloc ?_ _)|(with_reducible refine Kd.C_drewN ?_ _)|(with_reducible refine Kd.C_drew ?_)));(case side2=>exact HC0_2.out);(case side3=>repeat (first|exact (Kd.C_below HR1_2.out bD)|(with_reducible refine Kd.C_alloc ?_ _)|(with_reducible refine Kd.C_drewN ?_ _)|(with_reducible refine Kd.C_drew ?_)));(case side4=>exact HC1_2.out);rintro e w' ⟨rfl,⟨nd,rfl⟩⟩;(try first|exact ⟨rfl,_,World.drewN_drewN _ _ _⟩|exact ⟨rfl,_,Eq.trans (World.drewN_drewN _ _ _) (congrArg (World.drewN _) (Nat.add_assoc _ _ _))⟩)));try go_wp2_with (first|(go_at_call 101;(with_reducible refine (r10_Same.calls k _ _ l0_1 _ _ l1_1 true _ ?side1 ?side2 ?side3 ?side4 A7.out).mono ?_);(case side1=>exact cD);(case side2=>exact HC0_1.out);(case side3=>exact cD);(case side4=>exact HC1_1.out);rintro e w' ⟨rfl,⟨nd,rfl⟩⟩;(try first|exact ⟨rfl,_,World.drewN_drewN _ _ _⟩|exact ⟨rfl,_,Eq.trans (World.drewN_drewN _ _ _) (congrArg (World.drewN _) (Nat.add_assoc _ _ _))⟩))|(go_at_call 102;(with_reducible refine (r11_Same.calls k _ _ l0_2 _ _ l1_2 false _ ?side1 ?side2 ?side3 ?side4 A9.out).mono ?_);(case side1=>repeat (first|exact (Kd.C_below HR0_2.out bD)|(with_reducible refine Kd.C_alloc ?_ _)|(with_reducible refine Kd.C_drewN ?_ _)|(with_reducible refine Kd.C_drew ?_)));(case side2=>exact HC0_2.out);(case side3=>repeat (first|exact (Kd.C_below HR1_2.out bD)|(with_reducible refine Kd.C_alloc ?_ _)|(with_reducible refine Kd.C_drewN ?_ _)|(with_reducible refine Kd.C_drew ?_)));(case side4=>exact HC1_2.out);rintro e w' ⟨rfl,⟨nd,rfl⟩⟩;(try first|exact ⟨rfl,_,World.drewN_drewN _ _ _⟩|exact ⟨rfl,_,Eq.trans (World.drewN_drewN _ _ _) (congrArg (World.drewN _) (Nat.add_assoc _ _ _))⟩))))
     go_meet
     case rel=>exact ⟨_,(true),eS,H',⟨by first|omega|exact Nat.le_refl _⟩,⟨kD⟩,⟨kD⟩,⟨bD⟩⟩
   ·replace c8:=Bool.eq_false_iff.mpr c8;subst c8;replace H:=ifFF H;have H':=Aside0.mk H;clear H;have hnb17:=NB350_351.out;have hnc17:=NB351_350.out;obtain ⟨hcz18_0,hcz18_1,hcz18_2,hcz18_3⟩:=cc4 BK350.out;obtain ⟨hfz18_0,hfz18_1,hfz18_2,hfz18_3⟩:=ff4 BK350.out;obtain ⟨hcz19_0,hcz19_1,hcz19_2,hcz19_3⟩:=cc4 BK351.out;obtain ⟨hfz19_0,hfz19_1,hfz19_2,hfz19_3⟩:=ff4 BK351.out;go_wp2_with (first|(go_at_call 101;(with_reducible refine (r10_Same.calls k _ _ l0_1 _ _ l1_1 false _ ?side1 ?side2 ?side3 ?side4 A7.out).mono ?_);(case side1=>exact cD);(case side2=>exact HC0_1.out);(case side3=>exact cD);(case side4=>exact HC1_1.out);rintro e w' ⟨rfl,⟨nd,rfl⟩⟩;(try first|exact ⟨rfl,_,World.drewN_drewN _ _ _⟩|exact ⟨rfl,_,Eq.trans (World.drewN_drewN _ _ _) (congrArg (World.drewN _) (Nat.add_assoc _ _ _))⟩)))
    repeat (go_quiet (first|(go_at_call 101;(with_reducible refine (r10_Same.calls k _ _ l0_1 _ _ l1_1 false _ ?side1 ?side2 ?side3 ?side4 A7.out).mono ?_);(case side1=>exact cD);(case side2=>exact HC0_1.out);(case side3=>exact cD);(case side4=>exact HC1_1.out);rintro e w' ⟨rfl,⟨nd,rfl⟩⟩;(try first|exact ⟨rfl,_,World.drewN_drewN _ _ _⟩|exact ⟨rfl,_,Eq.trans (World.drewN_drewN _ _ _) (congrArg (World.drewN _) (Nat.add_assoc _ _ _))⟩)));try go_wp2_with (first|(go_at_call 101;(with_reducible refine (r10_Same.calls k _ _ l0_1 _ _ l1_1 false _ ?side1 ?side2 ?side3 ?side4 A7.out).mono ?_);(case side1=>exact cD);(case side2=>exact HC0_1.out);(case side3=>exact cD);(case side4=>exact HC1_1.out);rintro e w' ⟨rfl,⟨nd,rfl⟩⟩;(try first|exact ⟨rfl,_,World.drewN_drewN _ _ _⟩|exact ⟨rfl,_,Eq.trans (World.drewN_drewN _ _ _) (congrArg (World.drewN _) (Nat.add_assoc _ _ _))⟩))))
    go_meet
    case rel=>exact ⟨_,(true),eS,H',⟨by first|omega|exact Nat.le_refl _⟩,⟨kD⟩,⟨kD⟩,⟨bD⟩⟩
  ·rw [if_neg c6] at H;have c6b0:=qF c6;have c6b1:=nT c6
   (first|rw [c6b0]|(simp only [i64_w,i32_w];rw [c6b0])|skip)
   have H':=Aside0.mk H;clear H;have hnb20:=NB350_351.out;have hnc20:=NB351_350.out;obtain ⟨hcz21_0,hcz21_1,hcz21_2,hcz21_3⟩:=cc4 BK350.out;obtain ⟨hfz21_0,hfz21_1,hfz21_2,hfz21_3⟩:=ff4 BK350.out;obtain ⟨hcz22_0,hcz22_1,hcz22_2,hcz22_3⟩:=cc4 BK351.out;obtain ⟨hfz22_0,hfz22_1,hfz22_2,hfz22_3⟩:=ff4 BK351.out;go_wp2
   repeat (go_quiet (fail);try go_wp2)
   go_meet
   case rel=>exact ⟨_,(true),eS,H',⟨by first|omega|exact Nat.le_refl _⟩,⟨kD⟩,⟨kD⟩,⟨bD⟩⟩
 case rest =>
  clear HC3
  (try clear c1;try clear c2;try clear p2;try clear c3;try clear c6;try clear c6b0;try clear c6b1;try clear c8;try clear c10;try clear c11;try clear c14;try clear c17;try clear c20;try clear hcz12_0;try clear hcz12_1;try clear hcz12_2;try clear hcz12_3;try clear hcz13_0;try clear hcz13_1;try clear hcz13_2;try clear hcz13_3;try clear hcz15_0;try clear hcz15_1;try clear hcz15_2;try clear hcz15_3;try clear hcz16_0;try clear hcz16_1;try clear hcz16_2;try clear hcz16_3;try clear hcz18_0;try clear hcz18_1;try clear hcz18_2;try clear hcz18_3;try clear hcz19_0;try clear hcz19_1;try clear hcz19_2;try clear hcz19_3;try clear hcz21_0;try clear hcz21_1;try clear hcz21_2;try clear hcz21_3;try clear hcz22_0;try clear hcz22_1;try clear hcz22_2;try clear hcz22_3;try clear hfz12_0;try clear hfz12_1;try clear hfz12_2;try clear hfz12_3;try clear hfz13_0;try clear hfz13_1;try clear hfz13_2;try clear hfz13_3;try clear hfz15_0;try clear hfz15_1;try clear hfz15_2;try clear hfz15_3;try clear hfz16_0;try clear hfz16_1;try clear hfz16_2;try clear hfz16_3;try clear hfz18_0;try clear hfz18_1;try clear hfz18_2;try clear hfz18_3;try clear hfz19_0;try clear hfz19_1;try clear hfz19_2;try clear hfz19_3;try clear hfz21_0;try clear hfz21_1;try clear hfz21_2;try clear hfz21_3;try clear hfz22_0;try clear hfz22_1;try clear hfz22_2;try clear hfz22_3)
  obtain ⟨kq,x35_2,rfl,HA,HJ2,BK350,BK351,HB⟩:=hcut;cases kq with
  | zero=>exact absurd HA.out (by simp [r19_Same.j0])
  | succ kj2 =>
   have H:=HA.out;clear HA;simp only [r19_Same.j0] at H;by_cases c23:x35_2=true
   ·subst c23;replace H:=ifTT H;obtain rfl:=Option.some.inj H;go_wp2
    repeat (go_quiet (fail);try go_wp2)
    go_ret
    exact ⟨eE,bD⟩
   ·replace c23:=Bool.eq_false_iff.mpr c23;subst c23;replace H:=ifFF H;have H':=Aside0.mk H;clear H;go_wp2
    repeat (go_quiet (fail);try go_wp2)
    go_loopg [5] kj2 (fun kq v5 w'=>∃ (x5_2:Int),v5=.int .i64 x5_2∧Aside0 (r19_Same.l0 kq x5_2 a0_0 l0_1 l0_2 l0_3 a1_0 l1_1 l1_2 l1_3=some r)∧Aside0 (kq≤kj2)∧Aside0 (w'.heap[gb350]?=some (.cells #[.int .u32 a0_0,(.slice A0_1 l0_1.length c0_1),(.slice A0_2 l0_2.length c0_2),(.slice A0_3 l0_3.length c0_3)] 67 (0,0)))∧Aside0 (w'.heap[gb351]?=some (.cells #[.int .u32 a1_0,(.slice A1_1 l1_1.length c1_1),(.slice A1_2 l1_2.length c1_2),(.slice A1_3 l1_3.length c1_3)] 67 (0,0)))∧Aside0 (Below w.heap.size w w'))
    case atStart=>exact ⟨(0),eS,H',⟨Nat.le_refl _⟩,⟨kD⟩,⟨kD⟩,⟨bD⟩⟩
    case round =>
     clear H'
     (try clear c1;try clear c2;try clear p2;try clear c3;try clear c6;try clear c6b0;try clear c6b1;try clear c8;try clear c10;try clear c11;try clear c14;try clear c17;try clear c20;try clear c23;try clear hcz12_0;try clear hcz12_1;try clear hcz12_2;try clear hcz12_3;try clear hcz13_0;try clear hcz13_1;try clear hcz13_2;try clear hcz13_3;try clear hcz15_0;try clear hcz15_1;try clear hcz15_2;try clear hcz15_3;try clear hcz16_0;try clear hcz16_1;try clear hcz16_2;try clear hcz16_3;try clear hcz18_0;try clear hcz18_1;try clear hcz18_2;try clear hcz18_3;try clear hcz19_0;try clear hcz19_1;try clear hcz19_2;try clear hcz19_3;try clear hcz21_0;try clear hcz21_1;try clear hcz21_2;try clear hcz21_3;try clear hcz22_0;try clear hcz22_1;try clear hcz22_2;try clear hcz22_3;try clear hfz12_0;try clear hfz12_1;try clear hfz12_2;try clear hfz12_3;try clear hfz13_0;try clear hfz13_1;try clear hfz13_2;try clear hfz13_3;try clear hfz15_0;try clear hfz15_1;try clear hfz15_2;try clear hfz15_3;try clear hfz16_0;try clear hfz16_1;try clear hfz16_2;try clear hfz16_3;try clear hfz18_0;try clear hfz18_1;try clear hfz18_2;try clear hfz18_3;try clear hfz19_0;try clear hfz19_1;try clear hfz19_2;try clear hfz19_3;try clear hfz21_0;try clear hfz21_1;try clear hfz21_2;try clear hfz21_3;try clear hfz22_0;try clear hfz22_1;try clear hfz22_2;try clear hfz22_3;try clear p2)
     obtain ⟨x5_2,rfl,HA,HK2,BK350,BK351,HB⟩:=hrel;cases gk with
     | zero=>exact absurd HA.out (by simp [r19_Same.l0])
     | succ k2 =>
      have H:=HA.out;clear HA;simp only [r19_Same.l0] at H;by_cases c24:x5_2<(l0_3.length:Int)
      ·rw [if_pos c24] at H;have c24b0:=decide_eq_true c24;clear c24;by_cases c25:0≤x5_2
       ·rw [if_pos c25] at H;have c25b0:=decide_eq_true c25;clear c25;by_cases c26:x5_2<(l1_3.length:Int)
        ·rw [if_pos c26] at H;have c26b0:=decide_eq_true c26;clear c26;by_cases c27:(!(((rd_T87 l0_3 x5_2).f0) == ((rd_T87 l1_3 x5_2).f0))||(!((((rd_T87 l0_3 x5_2).f1).toList) == (((rd_T87 l1_3 x5_2).f1).toList))))=true
         ·rw [if_pos c27] at H;have c27b0:(!(((rd_T87 l0_3 x5_2).f0) == ((rd_T87 l1_3 x5_2).f0))||(!((((rd_T87 l0_3 x5_2).f1).toList) == (((rd_T87 l1_3 x5_2).f1).toList))))=true:=c27
          clear c27;obtain rfl:=Option.some.inj H;have hnb28:=NB350_351.out;have hnc28:=NB351_350.out;obtain ⟨hcz29_0,hcz29_1,hcz29_2,hcz29_3⟩:=cc4 BK350.out;obtain ⟨hfz29_0,hfz29_1,hfz29_2,hfz29_3⟩:=ff4 BK350.out;have p354:0≤(x5_2:Int):=pA;have q354:x5_2<(l0_3.length:Int):=pA;obtain ⟨ad354,e354,hx354_0,hx354_1⟩:=at_T87 HR0_3.out x5_2 p354 q354;cases e354
          replace hx354_0:=cB hx354_0;replace hx354_1:=cB hx354_1;replace p354:=eq_true p354;replace q354:=eq_true q354;obtain ⟨hcz30_0,hcz30_1,hcz30_2,hcz30_3⟩:=cc4 BK351.out;obtain ⟨hfz30_0,hfz30_1,hfz30_2,hfz30_3⟩:=ff4 BK351.out;have p355:0≤(x5_2:Int):=pA;have q355:x5_2<(l1_3.length:Int):=pA;obtain ⟨ad355,e355,hx355_0,hx355_1⟩:=at_T87 HR1_3.out x5_2 p355 q355;cases e355
          replace hx355_0:=cB hx355_0;replace hx355_1:=cB hx355_1;replace p355:=eq_true p355;replace q355:=eq_true q355;go_wp2
          repeat (go_quiet (fail);try go_wp2)
          go_ret
          exact ⟨eE,bD⟩
         ·rw [if_neg c27] at H;have c27b0:(!(((rd_T87 l0_3 x5_2).f0) == ((rd_T87 l1_3 x5_2).f0))||(!((((rd_T87 l0_3 x5_2).f1).toList) == (((rd_T87 l1_3 x5_2).f1).toList))))=false:=by simpa using c27
          clear c27;have H':=Aside0.mk H;clear H;have hnb31:=NB350_351.out;have hnc31:=NB351_350.out;obtain ⟨hcz32_0,hcz32_1,hcz32_2,hcz32_3⟩:=cc4 BK350.out;obtain ⟨hfz32_0,hfz32_1,hfz32_2,hfz32_3⟩:=ff4 BK350.out;have p354:0≤(x5_2:Int):=pA;have q354:x5_2<(l0_3.length:Int):=pA;obtain ⟨ad354,e354,hx354_0,hx354_1⟩:=at_T87 HR0_3.out x5_2 p354 q354;cases e354
          replace hx354_0:=cB hx354_0;replace hx354_1:=cB hx354_1;replace p354:=eq_true p354;replace q354:=eq_true q354;obtain ⟨hcz33_0,hcz33_1,hcz33_2,hcz33_3⟩:=cc4 BK351.out;obtain ⟨hfz33_0,hfz33_1,hfz33_2,hfz33_3⟩:=ff4 BK351.out;have p355:0≤(x5_2:Int):=pA;have q355:x5_2<(l1_3.length:Int):=pA;obtain ⟨ad355,e355,hx355_0,hx355_1⟩:=at_T87 HR1_3.out x5_2 p355 q355;cases e355
          replace hx355_0:=cB hx355_0;replace hx355_1:=cB hx355_1;replace p355:=eq_true p355;replace q355:=eq_true q355;go_wp2
          repeat (go_quiet (fail);try go_wp2)
          go_roundg k2
          case measure=>have:=HJ2.out;have:=HK2.out;omega
          case rel=>exact ⟨(wrap64 (x5_2+1)),eS,H',⟨by have:=HJ2.out;have:=HK2.out;omega⟩,⟨kD⟩,⟨kD⟩,⟨bD⟩⟩
        ·rw [if_neg c26] at H;exact absurd H (by simp)
       ·rw [if_neg c25] at H;exact absurd H (by simp)
      ·rw [if_neg c24] at H;have c24b0:=decide_eq_false c24;clear c24;obtain rfl:=Option.some.inj H;have hnb34:=NB350_351.out;have hnc34:=NB351_350.out;obtain ⟨hcz35_0,hcz35_1,hcz35_2,hcz35_3⟩:=cc4 BK350.out;obtain ⟨hfz35_0,hfz35_1,hfz35_2,hfz35_3⟩:=ff4 BK350.out;go_wp2
       repeat (go_quiet (fail);try go_wp2)
       go_ret
       exact ⟨eE,bD⟩
end
end Go.Proofs.YtikjfekagdcjmaaGreatDoor.Q
