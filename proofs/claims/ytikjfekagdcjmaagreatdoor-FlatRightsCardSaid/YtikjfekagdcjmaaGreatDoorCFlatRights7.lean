/- Contracts and plain theory behind FlatRights. -/
import Derived.Shelf.SlSortCmp.NoneTotal
import Derived.Test.YtikjfekagdcjmaaGreatDoorProg
import Derived.Lib.SliceRun
import Derived.Test.YtikjfekagdcjmaaGreatDoorCFlatRights2
import Derived.Test.YtikjfekagdcjmaaGreatDoorCFlatRights3
import Derived.Test.YtikjfekagdcjmaaGreatDoorCFlatRights4
import Derived.Test.YtikjfekagdcjmaaGreatDoorCFlatRights6
set_option linter.unusedVariables false
set_option linter.unusedSimpArgs false
set_option maxHeartbeats 16000000
set_option maxRecDepth 100000
namespace Go.Proofs.YtikjfekagdcjmaaGreatDoor.Q
open Go.RowKit Go.Proofs.YtikjfekagdcjmaaGreatDoorW.PrintWords Go.Proofs.YtikjfekagdcjmaaGreatDoorW.PrintLast Go.Proofs.YtikjfekagdcjmaaGreatDoorW.PrintMore
section
attribute [local go_sem] max2_int min2_int max_two min_two max_three min_three max_four min_four
mutual
def r10_Split.l0:Nat→ByteArray→List ByteArray→Int→Option (List ByteArray×Bool)
 | 0,_,_,_=>none
 | k+1,x0,x4,x5=>if x5<(x0.size:Int) then (if 0≤x5 then (if (bt x0 x5)=47 then (r10_Split.l1 k x0 x4 x5 (wrap64 (x5+1))) else (some (([]:List ByteArray),false))) else (none)) else (if (x4.length:Int)<1 then (some (([]:List ByteArray),false)) else (if (x4.length:Int)>6 then (some (([]:List ByteArray),false)) else (some (x4,true))))
def r10_Split.l1:Nat→ByteArray→List ByteArray→Int→Int→Option (List ByteArray×Bool)
 | 0,_,_,_,_=>none
 | k+1,x0,x4,x5,x6=>if x6<(x0.size:Int) then (if 0≤x6 then (if (bt x0 x6)=47 then (if 0≤(wrap64 (x5+1)) then (if (wrap64 (x5+1))≤x6 then (if x6≤(x0.size:Int) then ((r10_Name.f k (x0.extract ((wrap64 (x5+1)):Int).toNat (x6:Int).toNat)).bind fun t386=>(if t386=true then (if x4.length<8796093022208 then (r10_Split.l0 k x0 (x4++[x0.extract ((wrap64 (x5+1)):Int).toNat (x6:Int).toNat]) x6) else (none)) else (some (([]:List ByteArray),false)))) else (none)) else (none)) else (none)) else (r10_Split.l1 k x0 x4 x5 (wrap64 (x6+1)))) else (none)) else (if 0≤(wrap64 (x5+1)) then (if (wrap64 (x5+1))≤x6 then (if x6≤(x0.size:Int) then ((r10_Name.f k (x0.extract ((wrap64 (x5+1)):Int).toNat (x6:Int).toNat)).bind fun t390=>(if t390=true then (if x4.length<8796093022208 then (r10_Split.l0 k x0 (x4++[x0.extract ((wrap64 (x5+1)):Int).toNat (x6:Int).toNat]) x6) else (none)) else (some (([]:List ByteArray),false)))) else (none)) else (none)) else (none))
end
def r10_Split.f (k:Nat) (a0:ByteArray):Option (List ByteArray×Bool):=if a0.toList=([47]:List UInt8) then (some (([]:List ByteArray),true)) else (r10_Split.l0 k a0 ([]:List ByteArray) 0)
theorem r10_Split.calls (k:Nat) (a0:ByteArray) (r1:List ByteArray) (r2:Bool) (w:World) (h:r10_Split.f k a0=some (r1,r2)) :
  Calls Tryz.prog 111 #[.string a0] w fun e w'=>∃ v0_:Value,e=.returned (.tuple #[v0_,.bool r2])∧Kd.R Kd.string 9 w' w.heap.size (fun _=>True) v0_ r1∧Below w.heap.size w w':=by
 have HB:=Aside0.mk (Below.refl w.heap.size w);have H:(if a0.toList=([47]:List UInt8) then (some (([]:List ByteArray),true)) else (r10_Split.l0 k a0 ([]:List ByteArray) 0))=some (r1,r2):=h
 clear h;by_cases c2:a0.toList=([47]:List UInt8)
 ·rw [if_pos c2] at H;have c2b0:=qT c2;have c2b1:=nF c2;clear c2;simp only [Option.some.injEq,Prod.mk.injEq] at H;obtain ⟨rfl,rfl⟩:=H;go_enter Tryz.func111,Tryz.ntmps111;go_wp2
  go_ret2
  exact ⟨_,eE,by first|exact Kd.R_nil _ _ _ _ _|exact Kd.N_nil _ _ _ _ _|exact Kd.V_nil _ _ _ _ _|exact Kd.Q_nil _ _ _ _ _|exact Kd.S_nil _ _ _ _ _,bD⟩
 ·rw [if_neg c2] at H;have c2b0:=qF c2;have c2b1:=nT c2;have H':=Aside0.mk H;clear H;go_enter Tryz.func111,Tryz.ntmps111;go_wp2
  go_loopg [4,5] k (fun kq v4 v5 w'=>∃ (x4_1:List ByteArray) (x5_1:Int),v5=.int .i64 x5_1∧Aside0 (r10_Split.l0 kq a0 x4_1 x5_1=some (r1,r2))∧Aside0 (kq≤k)∧Aside0 (Kd.R Kd.string 9 w' w.heap.size (fun _=>True) v4 x4_1)∧Aside0 (Below w.heap.size w w'))
  case atStart=>exact ⟨(([]:List ByteArray)),(0),eS,H',⟨Nat.le_refl _⟩,⟨by first|exact Kd.R_nil _ _ _ _ _|exact Kd.N_nil _ _ _ _ _|exact Kd.V_nil _ _ _ _ _|exact Kd.Q_nil _ _ _ _ _|exact Kd.S_nil _ _ _ _ _⟩,⟨bD⟩⟩
  case round =>
   clear H'
   (try clear c1;try clear c2;try clear c2b0;try clear c2b1;try clear p2)
   obtain ⟨x4_1,x5_1,rfl,HA,HK1,HO_4,HB⟩:=hrel;cases gk with
   | zero=>exact absurd HA.out (by simp [r10_Split.l0])
   | succ k1 =>
    have H:=HA.out;clear HA;simp only [r10_Split.l0] at H;by_cases c3:x5_1<(a0.size:Int)
    ·rw [if_pos c3] at H;have c3b0:=decide_eq_true c3;clear c3;by_cases c4:0≤x5_1
     ·rw [if_pos c4] at H;have c4b0:=decide_eq_true c4;clear c4;by_cases c6:(bt a0 x5_1)=47
      ·rw [if_pos c6] at H;have c6b0:=qT c6;have c6b1:=nF c6;clear c6;have H':=Aside0.mk H;clear H;have p5:0≤(x5_1:Int):=pA;have q5:x5_1<(a0.size:Int):=pA;have hx5:=bt_at a0 x5_1;replace p5:=eq_true p5;replace q5:=eq_true q5;go_wp2
       go_loopg [6] k1 (fun kq v6 w'=>∃ (x6_2:Int),v6=.int .i64 x6_2∧Aside0 (r10_Split.l1 kq a0 x4_1 x5_1 x6_2=some (r1,r2))∧Aside0 (kq≤k1)∧Aside0 (Kd.R Kd.string 9 w' w.heap.size (fun _=>True) u4 x4_1)∧Aside0 (Below w.heap.size w w'))
       case atStart=>exact ⟨(wrap64 (x5_1+1)),eS,H',⟨Nat.le_refl _⟩,⟨by (with_reducible repeat (first|apply Kd.R_alloc|apply Kd.R_drewN|apply Kd.R_drew));exact HO_4.out⟩,⟨bD⟩⟩
       case round =>
        clear H'
        (try clear c1;try clear c2;try clear c2b0;try clear c2b1;try clear p2;try clear c3;try clear c3b0;try clear c4;try clear c4b0;try clear p5;try clear q5;try clear hx5;try clear c6;try clear c6b0;try clear c6b1;try clear p6;try clear p2;try clear p5;try clear q5)
        obtain ⟨x6_2,rfl,HA,HK2,HO_4,HB⟩:=hrel;cases gk with
        | zero=>exact absurd HA.out (by simp [r10_Split.l1])
        | succ k2 =>
         have H:=HA.out;clear HA;simp only [r10_Split.l1] at H;by_cases c7:x6_2<(a0.size:Int)
         ·rw [if_pos c7] at H;have c7b0:=decide_eq_true c7;clear c7;by_cases c8:0≤x6_2
          ·rw [if_pos c8] at H;have c8b0:=decide_eq_true c8;clear c8;by_cases c10:(bt a0 x6_2)=47
           ·rw [if_pos c10] at H;have c10b0:=qT c10;have c10b1:=nF c10;clear c10;obtain ⟨ji11,hji11⟩ : ∃ j_:Int,(wrap64 (x5_1+1))=j_:=⟨_,rfl⟩;replace H:(if 0≤(ji11) then (if (ji11)≤x6_2 then (if x6_2≤(a0.size:Int) then ((r10_Name.f k2 (a0.extract ((ji11):Int).toNat (x6_2:Int).toNat)).bind fun t386=>(if t386=true then (if x4_1.length<8796093022208 then (r10_Split.l0 k2 a0 (x4_1++[a0.extract ((ji11):Int).toNat (x6_2:Int).toNat]) x6_2) else (none)) else (some (([]:List ByteArray),false)))) else (none)) else (none)) else (none))=some (r1,r2):=by first|(rw [hji11] at H;exact H)|(simp only [hji11] at H ⊢;exact H)
            have hji11w:(IntKind.i64.wrap (x5_1+1))=ji11:=(i64_w _).trans hji11;by_cases c12:0≤(ji11)
            ·rw [if_pos c12] at H;have c12b0:=eq_true c12;have c12b1:=decide_eq_true c12;clear c12;by_cases c13:(ji11)≤x6_2
             ·rw [if_pos c13] at H;have c13b0:=eq_true c13;have c13b1:=decide_eq_true c13;clear c13;by_cases c14:x6_2≤(a0.size:Int)
              ·rw [if_pos c14] at H;have c14b0:=eq_true c14;have c14b1:=decide_eq_true c14;clear c14;replace H:=Option.bind_eq_some_iff.mp H;obtain ⟨t386,A150,H⟩:=H;replace H:(if t386=true then (if x4_1.length<8796093022208 then (r10_Split.l0 k2 a0 (x4_1++[a0.extract ((ji11):Int).toNat (x6_2:Int).toNat]) x6_2) else (none)) else (some (([]:List ByteArray),false)))=some (r1,r2):=H
               have A15:=Aside0.mk A150;clear A150;by_cases c16:t386=true
               ·subst c16;replace H:=ifTT H;have c17b0:=eq_true (pA:0≤(ji11));have c18b0:=eq_true (pA:(ji11)≤x6_2);have c19b0:=eq_true (pA:x6_2≤(a0.size:Int));by_cases c20:x4_1.length<8796093022208
                ·rw [if_pos c20] at H;have LMc20:=Aside0.mk c20;clear c20;obtain ⟨y387,hy387⟩ : ∃ y_:List ByteArray,y_=(x4_1++[a0.extract ((ji11):Int).toNat (x6_2:Int).toNat]):=⟨_,rfl⟩;replace H:(r10_Split.l0 k2 a0 y387 x6_2)=some (r1,r2):=by first|(rw [hy387];with_reducible exact H)|(have H2_:=(Option.bind_some _ _).symm.trans H;rw [hy387];with_reducible exact H2_)|(have H2_:=(Option.bind_some _ _).symm.trans H;with_reducible exact H2_)|with_reducible exact H|(rw [hy387];exact H)|exact H
                 have Ny387:=Aside0.mk hy387;clear hy387;have H':=Aside0.mk H;clear H;have p9:0≤(x6_2:Int):=pA;have q9:x6_2<(a0.size:Int):=pA;have hx9:=bt_at a0 x6_2;replace p9:=eq_true p9;replace q9:=eq_true q9;go_wp2_with (first|((with_reducible refine gate_callee (f:=167) rfl ?_);refine goesL_ (some 36) rfl rfl Tryz.func167 (by kernel_rfl) rfl #[.string (a0.extract ((ji11):Int).toNat (x6_2:Int).toNat)] rfl (by (try simp only [List.map_toArray,List.map_cons,List.map_nil]);first|done|(simp only [hji11];rfl)|rfl|(simp only [List.length_drop,List.length_take];rfl)) ?_;(with_reducible refine (r10_Name.calls k2 (a0.extract ((ji11):Int).toNat (x6_2:Int).toNat) true _ A15.out).mono ?_);rintro e w' ⟨rfl,⟨nd,rfl⟩⟩;refine ⟨_,rfl,?_⟩)|((with_reducible refine gate_builtin (b:=.append) (xs:=#[.tmp 38,.tmp 44]) rfl ?_);(try (refine gate_guard (by rfl) ?_;dsimp only));at_builtin;refine Kd.R_append Kd.string (w0:=w) w.heap.size rfl (.tmp 38) (.tmp 44) 198 9 (.string ⟨#[]⟩) 16 rfl Tryz.underlying198 info9 rfl (by decide) (by omega) u4 x4_1 (a0.extract ((ji11):Int).toNat (x6_2:Int).toNat) [.string (a0.extract ((ji11):Int).toNat (x6_2:Int).toNat)] (fun _=>True) (fun _=>False) rfl rfl ?aP (fun _ hk=>hk.elim) ?aF ?aO ?aB ?aS ?aL ?_;(case aP=>exact rfl);(case aB=>exact bD);(case aF=>exact (fun _ _=>trivial));(case aO=>exact (by (with_reducible repeat (first|apply Kd.R_alloc|apply Kd.R_drewN|apply Kd.R_drew));exact HO_4.out));(case aS=>exact (below_size bD));(case aL=>have:=LMc20.out;omega);intro v388 w21 ho hb hg hat;rw [← Ny387.out] at ho;have n0_:=Aside0.mk (hb);have n1_:=Aside0.mk (ho);clear HB;clear HO_4;have HB:=n0_;have HO389:=n1_;clear n0_ n1_;clear ho hb hg hat))
                 go_roundg k2
                 case measure=>have:=HK1.out;have:=HK2.out;omega
                 case rel=>exact ⟨(y387),(x6_2),eS,H',⟨by have:=HK1.out;have:=HK2.out;omega⟩,⟨by (with_reducible repeat (first|apply Kd.R_alloc|apply Kd.R_drewN|apply Kd.R_drew));exact HO389.out⟩,⟨bD⟩⟩
                ·rw [if_neg c20] at H;exact absurd H (by simp)
               ·replace c16:=Bool.eq_false_iff.mpr c16;subst c16;replace H:=ifFF H;simp only [Option.some.injEq,Prod.mk.injEq] at H;obtain ⟨rfl,rfl⟩:=H;have p9:0≤(x6_2:Int):=pA;have q9:x6_2<(a0.size:Int):=pA;have hx9:=bt_at a0 x6_2;replace p9:=eq_true p9;replace q9:=eq_true q9;go_wp2_with (first|((with_reducible refine gate_callee (f:=167) rfl ?_);refine goesL_ (some 36) rfl rfl Tryz.func167 (by kernel_rfl) rfl #[.string (a0.extract ((ji11):Int).toNat (x6_2:Int).toNat)] rfl (by (try simp only [List.map_toArray,List.map_cons,List.map_nil]);first|done|(simp only [hji11];rfl)|rfl|(simp only [List.length_drop,List.length_take];rfl)) ?_;(with_reducible refine (r10_Name.calls k2 (a0.extract ((ji11):Int).toNat (x6_2:Int).toNat) false _ A15.out).mono ?_);rintro e w' ⟨rfl,⟨nd,rfl⟩⟩;refine ⟨_,rfl,?_⟩))
                go_ret2
                exact ⟨_,by first|rfl|(simp [errW_none,errW_some] <;> rfl)|(simp only [← hji11];first|rfl|(simp [errW_none,errW_some] <;> rfl))|(simp [*,errW_none,errW_some] <;> rfl),by first|exact Kd.R_nil _ _ _ _ _|exact Kd.N_nil _ _ _ _ _|exact Kd.V_nil _ _ _ _ _|exact Kd.Q_nil _ _ _ _ _|exact Kd.S_nil _ _ _ _ _,bD⟩
              ·rw [if_neg c14] at H;exact absurd H (by simp)
             ·rw [if_neg c13] at H;exact absurd H (by simp)
            ·rw [if_neg c12] at H;exact absurd H (by simp)
           ·rw [if_neg c10] at H;have c10b0:=qF c10;have c10b1:=nT c10;have H':=Aside0.mk H;clear H;have p9:0≤(x6_2:Int):=pA;have q9:x6_2<(a0.size:Int):=pA;have hx9:=bt_at a0 x6_2;replace p9:=eq_true p9;replace q9:=eq_true q9;go_wp2
            go_roundg k2
            case measure=>have:=HK1.out;have:=HK2.out;omega
            case rel=>exact ⟨(wrap64 (x6_2+1)),eS,H',⟨by have:=HK1.out;have:=HK2.out;omega⟩,⟨by (with_reducible repeat (first|apply Kd.R_alloc|apply Kd.R_drewN|apply Kd.R_drew));exact HO_4.out⟩,⟨bD⟩⟩
          ·rw [if_neg c8] at H;exact absurd H (by simp)
         ·rw [if_neg c7] at H;have c7b0:=decide_eq_false c7;clear c7;obtain ⟨ji22,hji22⟩ : ∃ j_:Int,(wrap64 (x5_1+1))=j_:=⟨_,rfl⟩;replace H:(if 0≤(ji22) then (if (ji22)≤x6_2 then (if x6_2≤(a0.size:Int) then ((r10_Name.f k2 (a0.extract ((ji22):Int).toNat (x6_2:Int).toNat)).bind fun t390=>(if t390=true then (if x4_1.length<8796093022208 then (r10_Split.l0 k2 a0 (x4_1++[a0.extract ((ji22):Int).toNat (x6_2:Int).toNat]) x6_2) else (none)) else (some (([]:List ByteArray),false)))) else (none)) else (none)) else (none))=some (r1,r2):=by first|(rw [hji22] at H;exact H)|(simp only [hji22] at H ⊢;exact H)
          have hji22w:(IntKind.i64.wrap (x5_1+1))=ji22:=(i64_w _).trans hji22;by_cases c23:0≤(ji22)
          ·rw [if_pos c23] at H;have c23b0:=eq_true c23;have c23b1:=decide_eq_true c23;clear c23;by_cases c24:(ji22)≤x6_2
           ·rw [if_pos c24] at H;have c24b0:=eq_true c24;have c24b1:=decide_eq_true c24;clear c24;by_cases c25:x6_2≤(a0.size:Int)
            ·rw [if_pos c25] at H;have c25b0:=eq_true c25;have c25b1:=decide_eq_true c25;clear c25;replace H:=Option.bind_eq_some_iff.mp H;obtain ⟨t390,A260,H⟩:=H;replace H:(if t390=true then (if x4_1.length<8796093022208 then (r10_Split.l0 k2 a0 (x4_1++[a0.extract ((ji22):Int).toNat (x6_2:Int).toNat]) x6_2) else (none)) else (some (([]:List ByteArray),false)))=some (r1,r2):=H
             have A26:=Aside0.mk A260;clear A260;by_cases c27:t390=true
             ·subst c27;replace H:=ifTT H;have c28b0:=eq_true (pA:0≤(ji22));have c29b0:=eq_true (pA:(ji22)≤x6_2);have c30b0:=eq_true (pA:x6_2≤(a0.size:Int));by_cases c31:x4_1.length<8796093022208
              ·rw [if_pos c31] at H;have LMc31:=Aside0.mk c31;clear c31;obtain ⟨y391,hy391⟩ : ∃ y_:List ByteArray,y_=(x4_1++[a0.extract ((ji22):Int).toNat (x6_2:Int).toNat]):=⟨_,rfl⟩;replace H:(r10_Split.l0 k2 a0 y391 x6_2)=some (r1,r2):=by first|(rw [hy391];with_reducible exact H)|(have H2_:=(Option.bind_some _ _).symm.trans H;rw [hy391];with_reducible exact H2_)|(have H2_:=(Option.bind_some _ _).symm.trans H;with_reducible exact H2_)|with_reducible exact H|(rw [hy391];exact H)|exact H
               have Ny391:=Aside0.mk hy391;clear hy391;have H':=Aside0.mk H;clear H;go_wp2_with (first|((with_reducible refine gate_callee (f:=167) rfl ?_);refine goesL_ (some 36) rfl rfl Tryz.func167 (by kernel_rfl) rfl #[.string (a0.extract ((ji22):Int).toNat (x6_2:Int).toNat)] rfl (by (try simp only [List.map_toArray,List.map_cons,List.map_nil]);first|done|(simp only [hji22];rfl)|rfl|(simp only [List.length_drop,List.length_take];rfl)) ?_;(with_reducible refine (r10_Name.calls k2 (a0.extract ((ji22):Int).toNat (x6_2:Int).toNat) true _ A26.out).mono ?_);rintro e w' ⟨rfl,⟨nd,rfl⟩⟩;refine ⟨_,rfl,?_⟩)|((with_reducible refine gate_builtin (b:=.append) (xs:=#[.tmp 38,.tmp 44]) rfl ?_);(try (refine gate_guard (by rfl) ?_;dsimp only));at_builtin;refine Kd.R_append Kd.string (w0:=w) w.heap.size rfl (.tmp 38) (.tmp 44) 198 9 (.string ⟨#[]⟩) 16 rfl Tryz.underlying198 info9 rfl (by decide) (by omega) u4 x4_1 (a0.extract ((ji22):Int).toNat (x6_2:Int).toNat) [.string (a0.extract ((ji22):Int).toNat (x6_2:Int).toNat)] (fun _=>True) (fun _=>False) rfl rfl ?aP (fun _ hk=>hk.elim) ?aF ?aO ?aB ?aS ?aL ?_;(case aP=>exact rfl);(case aB=>exact bD);(case aF=>exact (fun _ _=>trivial));(case aO=>exact (by (with_reducible repeat (first|apply Kd.R_alloc|apply Kd.R_drewN|apply Kd.R_drew));exact HO_4.out));(case aS=>exact (below_size bD));(case aL=>have:=LMc31.out;omega);intro v392 w32 ho hb hg hat;rw [← Ny391.out] at ho;have n0_:=Aside0.mk (hb);have n1_:=Aside0.mk (ho);clear HB;clear HO_4;have HB:=n0_;have HO393:=n1_;clear n0_ n1_;clear ho hb hg hat))
               go_roundg k2
               case measure=>have:=HK1.out;have:=HK2.out;omega
               case rel=>exact ⟨(y391),(x6_2),eS,H',⟨by have:=HK1.out;have:=HK2.out;omega⟩,⟨by (with_reducible repeat (first|apply Kd.R_alloc|apply Kd.R_drewN|apply Kd.R_drew));exact HO393.out⟩,⟨bD⟩⟩
              ·rw [if_neg c31] at H;exact absurd H (by simp)
             ·replace c27:=Bool.eq_false_iff.mpr c27;subst c27;replace H:=ifFF H;simp only [Option.some.injEq,Prod.mk.injEq] at H;obtain ⟨rfl,rfl⟩:=H;go_wp2_with (first|((with_reducible refine gate_callee (f:=167) rfl ?_);refine goesL_ (some 36) rfl rfl Tryz.func167 (by kernel_rfl) rfl #[.string (a0.extract ((ji22):Int).toNat (x6_2:Int).toNat)] rfl (by (try simp only [List.map_toArray,List.map_cons,List.map_nil]);first|done|(simp only [hji22];rfl)|rfl|(simp only [List.length_drop,List.length_take];rfl)) ?_;(with_reducible refine (r10_Name.calls k2 (a0.extract ((ji22):Int).toNat (x6_2:Int).toNat) false _ A26.out).mono ?_);rintro e w' ⟨rfl,⟨nd,rfl⟩⟩;refine ⟨_,rfl,?_⟩))
              go_ret2
              exact ⟨_,by first|rfl|(simp [errW_none,errW_some] <;> rfl)|(simp only [← hji22];first|rfl|(simp [errW_none,errW_some] <;> rfl))|(simp [*,errW_none,errW_some] <;> rfl),by first|exact Kd.R_nil _ _ _ _ _|exact Kd.N_nil _ _ _ _ _|exact Kd.V_nil _ _ _ _ _|exact Kd.Q_nil _ _ _ _ _|exact Kd.S_nil _ _ _ _ _,bD⟩
            ·rw [if_neg c25] at H;exact absurd H (by simp)
           ·rw [if_neg c24] at H;exact absurd H (by simp)
          ·rw [if_neg c23] at H;exact absurd H (by simp)
      ·rw [if_neg c6] at H;have c6b0:=qF c6;have c6b1:=nT c6;simp only [Option.some.injEq,Prod.mk.injEq] at H;obtain ⟨rfl,rfl⟩:=H;have p5:0≤(x5_1:Int):=pA;have q5:x5_1<(a0.size:Int):=pA;have hx5:=bt_at a0 x5_1;replace p5:=eq_true p5;replace q5:=eq_true q5;go_wp2
       go_ret2
       exact ⟨_,eE,by first|exact Kd.R_nil _ _ _ _ _|exact Kd.N_nil _ _ _ _ _|exact Kd.V_nil _ _ _ _ _|exact Kd.Q_nil _ _ _ _ _|exact Kd.S_nil _ _ _ _ _,bD⟩
     ·rw [if_neg c4] at H;exact absurd H (by simp)
    ·rw [if_neg c3] at H;have c3b0:=decide_eq_false c3;clear c3;by_cases c33:(x4_1.length:Int)<1
     ·rw [if_pos c33] at H;have c33b0:=decide_eq_true c33;have c33b1:decide (x4_1.length<1)=true:=decide_eq_true (by omega)
      clear c33;simp only [Option.some.injEq,Prod.mk.injEq] at H;obtain ⟨rfl,rfl⟩:=H;obtain ⟨Ao34,co34,eo34⟩:=Kd.R_slice HO_4.out;subst eo34;go_wp2
      go_ret2
      exact ⟨_,eE,by first|exact Kd.R_nil _ _ _ _ _|exact Kd.N_nil _ _ _ _ _|exact Kd.V_nil _ _ _ _ _|exact Kd.Q_nil _ _ _ _ _|exact Kd.S_nil _ _ _ _ _,bD⟩
     ·rw [if_neg c33] at H;have c33b0:=decide_eq_false c33;have c33b1:decide (x4_1.length<1)=false:=decide_eq_false (by omega)
      clear c33;by_cases c35:(x4_1.length:Int)>6
      ·rw [if_pos c35] at H;have c35b0:=decide_eq_true c35;have c35b1:decide (6<x4_1.length)=true:=decide_eq_true (by omega)
       clear c35;simp only [Option.some.injEq,Prod.mk.injEq] at H;obtain ⟨rfl,rfl⟩:=H;obtain ⟨Ao36,co36,eo36⟩:=Kd.R_slice HO_4.out;subst eo36;go_wp2
       go_ret2
       exact ⟨_,eE,by first|exact Kd.R_nil _ _ _ _ _|exact Kd.N_nil _ _ _ _ _|exact Kd.V_nil _ _ _ _ _|exact Kd.Q_nil _ _ _ _ _|exact Kd.S_nil _ _ _ _ _,bD⟩
      ·rw [if_neg c35] at H;have c35b0:=decide_eq_false c35;have c35b1:decide (6<x4_1.length)=false:=decide_eq_false (by omega)
       clear c35;simp only [Option.some.injEq,Prod.mk.injEq] at H;obtain ⟨rfl,rfl⟩:=H;obtain ⟨Ao37,co37,eo37⟩:=Kd.R_slice HO_4.out;subst eo37;go_wp2
       go_ret2
       exact ⟨_,eE,by (with_reducible repeat (first|apply Kd.R_alloc|apply Kd.R_drewN|apply Kd.R_drew));exact HO_4.out,bD⟩
def r10_Walk.l0:Nat→List (S43)→List ByteArray→Int→Int→Option (Int×Int)
 | 0,_,_,_,_=>none
 | k+1,x0,x1,x6,x7=>if x7<(x1.length:Int) then (if 0≤x6 then (if x6<(x0.length:Int) then (if ((rd_T43 x0 x6).f3=true) then (if 0≤x7 then ((r10_Kid.f k x0 ((rd_T43 x0 x6).f0) (rdOf ByteArray.empty x1 x7)).bind fun t397=>(if t397<0 then (some (0,7)) else (r10_Walk.l0 k x0 x1 t397 (wrap64 (x7+1))))) else (none)) else (some (0,10))) else (none)) else (none)) else (some (x6,0))
def r10_Walk.f (k:Nat) (l0:List (S43)) (l1:List ByteArray):Option (Int×Int):=r10_Walk.l0 k l0 l1 0 0
theorem r10_Walk.calls (k:Nat) (A0:Option Addr) (c0:Nat) (l0:List (S43)) (A1:Option Addr) (c1:Nat) (l1:List ByteArray) (r1:Int) (r2:Int) (w:World) (hr0:Kd.C k43 w A0 l0.length l0) (hc0:l0.length≤c0) (hr1:Kd.C Kd.string w A1 l1.length l1) (hc1:l1.length≤c1) (h:r10_Walk.f k l0 l1=some (r1,r2)) :
  Calls Tryz.prog 112 #[.slice A0 l0.length c0,.slice A1 l1.length c1] w fun e w'=>e=.returned (.tuple #[.int .i64 r1,.int .i64 r2])∧Drawn0 w w':=by
 have HR0:=Aside0.mk hr0;have HC0:=Aside0.mk hc0;clear hr0 hc0;have HR1:=Aside0.mk hr1;have HC1:=Aside0.mk hc1;clear hr1 hc1;have H:(r10_Walk.l0 k l0 l1 0 0)=some (r1,r2):=h;clear h;have H':=Aside0.mk H;clear H;go_enter Tryz.func112,Tryz.ntmps112;go_wp2
 repeat (go_quiet (fail);try go_wp2)
 go_loopg [6,7] k (fun kq v6 v7 w'=>∃ (x6_1:Int) (x7_1:Int),v6=.int .i64 x6_1∧v7=.int .i64 x7_1∧Aside0 (r10_Walk.l0 kq l0 l1 x6_1 x7_1=some (r1,r2))∧Aside0 (kq≤k)∧Drawn0 w w')
 case atStart=>exact ⟨(0),(0),eS,eS,H',⟨Nat.le_refl _⟩,dD⟩
 case round =>
  clear H'
  (try clear c1;try clear p2)
  obtain ⟨x6_1,x7_1,rfl,rfl,HA,HK1,⟨m1,rfl⟩⟩:=hrel;cases gk with
  | zero=>exact absurd HA.out (by simp [r10_Walk.l0])
  | succ k1 =>
   have H:=HA.out;clear HA;simp only [r10_Walk.l0] at H;by_cases c3:x7_1<(l1.length:Int)
   ·rw [if_pos c3] at H;have c3b0:=decide_eq_true c3;clear c3;by_cases c4:0≤x6_1
    ·rw [if_pos c4] at H;have c4b0:=decide_eq_true c4;clear c4;by_cases c5:x6_1<(l0.length:Int)
     ·rw [if_pos c5] at H;have c5b0:=decide_eq_true c5;clear c5;obtain ⟨bq6,hbq6⟩ : ∃ b_:Bool,b_=((rd_T43 l0 x6_1).f3):=⟨_,rfl⟩;replace H:(if (bq6=true) then (if 0≤x7_1 then ((r10_Kid.f k1 l0 ((rd_T43 l0 x6_1).f0) (rdOf ByteArray.empty l1 x7_1)).bind fun t397=>(if t397<0 then (some (0,7)) else (r10_Walk.l0 k1 l0 l1 t397 (wrap64 (x7_1+1))))) else (none)) else (some (0,10)))=some (r1,r2):=by rw [← hbq6] at H;exact H
      have Nbq6:=Aside0.mk hbq6;clear hbq6;by_cases c7:(bq6=true)
      ·subst c7;replace H:=ifTT H;by_cases c8:0≤x7_1
       ·rw [if_pos c8] at H;have c8b0:=decide_eq_true c8;clear c8;replace H:=Option.bind_eq_some_iff.mp H;obtain ⟨t397,A90,H⟩:=H;replace H:(if t397<0 then (some (0,7)) else (r10_Walk.l0 k1 l0 l1 t397 (wrap64 (x7_1+1))))=some (r1,r2):=H
        have A9:=Aside0.mk A90;clear A90;by_cases c10:t397<0
        ·rw [if_pos c10] at H;have c10b0:=decide_eq_true c10;clear c10;simp only [Option.some.injEq,Prod.mk.injEq] at H;obtain ⟨rfl,rfl⟩:=H;have p394:0≤(x6_1:Int):=pA;have q394:x6_1<(l0.length:Int):=pA;obtain ⟨ad394,e394,hx394_0,hx394_1,hx394_2,hx394_3,hx394_4⟩:=at_T43 HR0.out x6_1 p394 q394
         (try rw [← Nbq6.out] at hx394_3)
         cases e394
         replace p394:=eq_true p394;replace q394:=eq_true q394;have p395:0≤(x6_1:Int):=pA;have q395:x6_1<(l0.length:Int):=pA;obtain ⟨ad395,e395,hx395_0,hx395_1,hx395_2,hx395_3,hx395_4⟩:=at_T43 HR0.out x6_1 p395 q395
         (try rw [← Nbq6.out] at hx395_3)
         obtain rfl:ad394=ad395:=(by injection e395)
         replace p395:=eq_true p395;replace q395:=eq_true q395;have p396:0≤(x7_1:Int):=pA;have q396:x7_1<(l1.length:Int):=pA;obtain ⟨ad396,e396,hx396_0⟩:=Kd.at_string HR1.out x7_1 p396 q396;cases e396
         replace p396:=eq_true p396;replace q396:=eq_true q396;go_wp2_with (first|(go_at_call 168;(with_reducible refine (r10_Kid.calls k1 _ _ l0 ((rd_T43 l0 x6_1).f0) (rdOf ByteArray.empty l1 x7_1) t397 _ ?side1 ?side2 A9.out).mono ?_);(case side1=>exact cE);(case side2=>exact HC0.out);rintro e w' ⟨rfl,⟨nd,rfl⟩⟩;(try first|exact ⟨rfl,_,World.drewN_drewN _ _ _⟩|exact ⟨rfl,_,Eq.trans (World.drewN_drewN _ _ _) (congrArg (World.drewN _) (Nat.add_assoc _ _ _))⟩)))
         repeat (go_quiet (first|(go_at_call 168;(with_reducible refine (r10_Kid.calls k1 _ _ l0 ((rd_T43 l0 x6_1).f0) (rdOf ByteArray.empty l1 x7_1) t397 _ ?side1 ?side2 A9.out).mono ?_);(case side1=>exact cE);(case side2=>exact HC0.out);rintro e w' ⟨rfl,⟨nd,rfl⟩⟩;(try first|exact ⟨rfl,_,World.drewN_drewN _ _ _⟩|exact ⟨rfl,_,Eq.trans (World.drewN_drewN _ _ _) (congrArg (World.drewN _) (Nat.add_assoc _ _ _))⟩)));try go_wp2_with (first|(go_at_call 168;(with_reducible refine (r10_Kid.calls k1 _ _ l0 ((rd_T43 l0 x6_1).f0) (rdOf ByteArray.empty l1 x7_1) t397 _ ?side1 ?side2 A9.out).mono ?_);(case side1=>exact cE);(case side2=>exact HC0.out);rintro e w' ⟨rfl,⟨nd,rfl⟩⟩;(try first|exact ⟨rfl,_,World.drewN_drewN _ _ _⟩|exact ⟨rfl,_,Eq.trans (World.drewN_drewN _ _ _) (congrArg (World.drewN _) (Nat.add_assoc _ _ _))⟩))))
         go_ret2
         exact ⟨eS,dD⟩
        ·rw [if_neg c10] at H;have c10b0:=decide_eq_false c10;clear c10;have H':=Aside0.mk H;clear H;have p394:0≤(x6_1:Int):=pA;have q394:x6_1<(l0.length:Int):=pA;obtain ⟨ad394,e394,hx394_0,hx394_1,hx394_2,hx394_3,hx394_4⟩:=at_T43 HR0.out x6_1 p394 q394
         (try rw [← Nbq6.out] at hx394_3)
         cases e394
         replace p394:=eq_true p394;replace q394:=eq_true q394;have p395:0≤(x6_1:Int):=pA;have q395:x6_1<(l0.length:Int):=pA;obtain ⟨ad395,e395,hx395_0,hx395_1,hx395_2,hx395_3,hx395_4⟩:=at_T43 HR0.out x6_1 p395 q395
         (try rw [← Nbq6.out] at hx395_3)
         obtain rfl:ad394=ad395:=(by injection e395)
         replace p395:=eq_true p395;replace q395:=eq_true q395;have p396:0≤(x7_1:Int):=pA;have q396:x7_1<(l1.length:Int):=pA;obtain ⟨ad396,e396,hx396_0⟩:=Kd.at_string HR1.out x7_1 p396 q396;cases e396
         replace p396:=eq_true p396;replace q396:=eq_true q396;go_wp2_with (first|(go_at_call 168;(with_reducible refine (r10_Kid.calls k1 _ _ l0 ((rd_T43 l0 x6_1).f0) (rdOf ByteArray.empty l1 x7_1) t397 _ ?side1 ?side2 A9.out).mono ?_);(case side1=>exact cE);(case side2=>exact HC0.out);rintro e w' ⟨rfl,⟨nd,rfl⟩⟩;(try first|exact ⟨rfl,_,World.drewN_drewN _ _ _⟩|exact ⟨rfl,_,Eq.trans (World.drewN_drewN _ _ _) (congrArg (World.drewN _) (Nat.add_assoc _ _ _))⟩)))
         repeat (go_quiet (first|(go_at_call 168;(with_reducible refine (r10_Kid.calls k1 _ _ l0 ((rd_T43 l0 x6_1).f0) (rdOf ByteArray.empty l1 x7_1) t397 _ ?side1 ?side2 A9.out).mono ?_);(case side1=>exact cE);(case side2=>exact HC0.out);rintro e w' ⟨rfl,⟨nd,rfl⟩⟩;(try first|exact ⟨rfl,_,World.drewN_drewN _ _ _⟩|exact ⟨rfl,_,Eq.trans (World.drewN_drewN _ _ _) (congrArg (World.drewN _) (Nat.add_assoc _ _ _))⟩)));try go_wp2_with (first|(go_at_call 168;(with_reducible refine (r10_Kid.calls k1 _ _ l0 ((rd_T43 l0 x6_1).f0) (rdOf ByteArray.empty l1 x7_1) t397 _ ?side1 ?side2 A9.out).mono ?_);(case side1=>exact cE);(case side2=>exact HC0.out);rintro e w' ⟨rfl,⟨nd,rfl⟩⟩;(try first|exact ⟨rfl,_,World.drewN_drewN _ _ _⟩|exact ⟨rfl,_,Eq.trans (World.drewN_drewN _ _ _) (congrArg (World.drewN _) (Nat.add_assoc _ _ _))⟩))))
         go_roundg k1
         case measure=>have:=HK1.out;omega
         case rel=>exact ⟨(t397),(wrap64 (x7_1+1)),eS,eS,H',⟨by have:=HK1.out;omega⟩,dD⟩
       ·rw [if_neg c8] at H;exact absurd H (by simp)
      ·replace c7:=Bool.eq_false_iff.mpr c7;subst c7;replace H:=ifFF H;simp only [Option.some.injEq,Prod.mk.injEq] at H;obtain ⟨rfl,rfl⟩:=H;have p394:0≤(x6_1:Int):=pA;have q394:x6_1<(l0.length:Int):=pA;obtain ⟨ad394,e394,hx394_0,hx394_1,hx394_2,hx394_3,hx394_4⟩:=at_T43 HR0.out x6_1 p394 q394
       (try rw [← Nbq6.out] at hx394_3)
       cases e394
       replace p394:=eq_true p394;replace q394:=eq_true q394;go_wp2
       repeat (go_quiet (fail);try go_wp2)
       go_ret2
       exact ⟨eS,dD⟩
     ·rw [if_neg c5] at H;exact absurd H (by simp)
    ·rw [if_neg c4] at H;exact absurd H (by simp)
   ·rw [if_neg c3] at H;have c3b0:=decide_eq_false c3;clear c3;simp only [Option.some.injEq,Prod.mk.injEq] at H;obtain ⟨rfl,rfl⟩:=H;go_wp2
    repeat (go_quiet (fail);try go_wp2)
    go_ret2
    exact ⟨eS,dD⟩
def r10_Find.f (k:Nat) (l0:List (S43)) (a1:ByteArray):Option (Int×Int):=(r10_Right.f l0).bind fun t398=>(if t398=true then ((r10_Split.f k a1).bind fun bt399=>(if bt399.2=true then ((r10_Walk.f k l0 bt399.1).bind fun bt403=>(some (bt403.1,bt403.2))) else (some (0,9)))) else (some (0,1)))
theorem r10_Find.calls (k:Nat) (A0:Option Addr) (c0:Nat) (l0:List (S43)) (a1:ByteArray) (r1:Int) (r2:Int) (w:World) (hr0:Kd.C k43 w A0 l0.length l0) (hc0:l0.length≤c0) (h:r10_Find.f k l0 a1=some (r1,r2)) :
  Calls Tryz.prog 35 #[.slice A0 l0.length c0,.string a1] w fun e w'=>e=.returned (.tuple #[.int .i64 r1,.int .i64 r2])∧Below w.heap.size w w':=by
 have HR0:=Aside0.mk hr0;have HC0:=Aside0.mk hc0;clear hr0 hc0;have HB:=Aside0.mk (Below.refl w.heap.size w);have H:((r10_Right.f l0).bind fun t398=>(if t398=true then ((r10_Split.f k a1).bind fun bt399=>(if bt399.2=true then ((r10_Walk.f k l0 bt399.1).bind fun bt403=>(some (bt403.1,bt403.2))) else (some (0,9)))) else (some (0,1))))=some (r1,r2):=h
 clear h;replace H:=Option.bind_eq_some_iff.mp H;obtain ⟨t398,A30,H⟩:=H;replace H:(if t398=true then ((r10_Split.f k a1).bind fun bt399=>(if bt399.2=true then ((r10_Walk.f k l0 bt399.1).bind fun bt403=>(some (bt403.1,bt403.2))) else (some (0,9)))) else (some (0,1)))=some (r1,r2):=H
 have A3:=Aside0.mk A30;clear A30;by_cases c4:t398=true
 ·subst c4;replace H:=ifTT H;replace H:=Option.bind_eq_some_iff.mp H;obtain ⟨⟨t399,t400⟩,A50,H⟩:=H;replace H:(if t400=true then ((r10_Walk.f k l0 t399).bind fun bt403=>(some (bt403.1,bt403.2))) else (some (0,9)))=some (r1,r2):=H
  have A5:=Aside0.mk A50;clear A50;by_cases c6:t400=true
  ·subst c6;replace H:=ifTT H;replace H:=Option.bind_eq_some_iff.mp H;obtain ⟨⟨t403,t404⟩,A70,H⟩:=H;replace H:(some (t403,t404))=some (r1,r2):=H;have A7:=Aside0.mk A70;clear A70;simp only [Option.some.injEq,Prod.mk.injEq] at H;obtain ⟨rfl,rfl⟩:=H;go_enter Tryz.func35,Tryz.ntmps35;go_wp2_with (first|((with_reducible refine gate_callee (f:=99) rfl ?_);refine ca (some 9) Tryz.func99 #[.slice A0 l0.length c0] ?_;(with_reducible refine (r10_Right.calls _ _ l0 true _ ?side1 ?side2 A3.out).mono ?_);(case side1=>exact cE);(case side2=>exact HC0.out);rintro e w8 ⟨rfl,hb⟩;refine ⟨_,rfl,?_⟩;replace HB:=Aside0.mk (below_step bD hb);(try clear hb);(try clear hb2);(try clear hk);(try clear hi))|((with_reducible refine gate_callee (f:=111) rfl ?_);refine ca (some 13) Tryz.func111 #[.string a1] ?_;(with_reducible refine (r10_Split.calls k a1 t399 true _ A5.out).mono ?_);rintro e w9 ⟨v401,rfl,ho0,hb⟩;refine ⟨_,rfl,?_⟩;have HO402:=Aside0.mk (Kd.R_lower ho0 (below_size bD));replace HB:=Aside0.mk (below_step bD hb);(try clear hb);(try clear hb2);(try clear hk);(try clear hi);(try clear ho0);obtain ⟨Ao10,co10,eo10⟩:=Kd.R_slice HO402.out;subst eo10)|((with_reducible refine gate_callee (f:=112) rfl ?_);refine ca (some 20) Tryz.func112 #[.slice A0 l0.length c0,.slice Ao10 t399.length co10] ?_;(with_reducible refine (r10_Walk.calls k _ _ l0 _ _ t399 t403 t404 _ ?side1 ?side2 ?side3 ?side4 A7.out).mono ?_);(case side1=>exact cD);(case side2=>exact HC0.out);(case side3=>repeat (first|exact (Kd.R_reads' HO402.out).2.2|(with_reducible refine Kd.C_alloc ?_ _)|(with_reducible refine Kd.C_drewN ?_ _)|(with_reducible refine Kd.C_drew ?_)));(case side4=>exact (Kd.R_reads' HO402.out).2.1);rintro e w' ⟨rfl,⟨nd,rfl⟩⟩;refine ⟨_,rfl,?_⟩))
   go_ret2
   exact ⟨eE,bD⟩
  ·replace c6:=Bool.eq_false_iff.mpr c6;subst c6;replace H:=ifFF H;simp only [Option.some.injEq,Prod.mk.injEq] at H;obtain ⟨rfl,rfl⟩:=H;go_enter Tryz.func35,Tryz.ntmps35;go_wp2_with (first|((with_reducible refine gate_callee (f:=99) rfl ?_);refine ca (some 9) Tryz.func99 #[.slice A0 l0.length c0] ?_;(with_reducible refine (r10_Right.calls _ _ l0 true _ ?side1 ?side2 A3.out).mono ?_);(case side1=>exact cE);(case side2=>exact HC0.out);rintro e w11 ⟨rfl,hb⟩;refine ⟨_,rfl,?_⟩;replace HB:=Aside0.mk (below_step bD hb);(try clear hb);(try clear hb2);(try clear hk);(try clear hi))|((with_reducible refine gate_callee (f:=111) rfl ?_);refine ca (some 13) Tryz.func111 #[.string a1] ?_;(with_reducible refine (r10_Split.calls k a1 t399 false _ A5.out).mono ?_);rintro e w12 ⟨v401,rfl,ho0,hb⟩;refine ⟨_,rfl,?_⟩;have HO402:=Aside0.mk (Kd.R_lower ho0 (below_size bD));replace HB:=Aside0.mk (below_step bD hb);(try clear hb);(try clear hb2);(try clear hk);(try clear hi);(try clear ho0)))
   go_ret2
   exact ⟨eE,bD⟩
 ·replace c4:=Bool.eq_false_iff.mpr c4;subst c4;replace H:=ifFF H;simp only [Option.some.injEq,Prod.mk.injEq] at H;obtain ⟨rfl,rfl⟩:=H;go_enter Tryz.func35,Tryz.ntmps35;go_wp2_with (first|((with_reducible refine gate_callee (f:=99) rfl ?_);refine ca (some 9) Tryz.func99 #[.slice A0 l0.length c0] ?_;(with_reducible refine (r10_Right.calls _ _ l0 false _ ?side1 ?side2 A3.out).mono ?_);(case side1=>exact cE);(case side2=>exact HC0.out);rintro e w13 ⟨rfl,hb⟩;refine ⟨_,rfl,?_⟩;replace HB:=Aside0.mk (below_step bD hb);(try clear hb);(try clear hb2);(try clear hk);(try clear hi)))
  go_ret2
  exact ⟨eE,bD⟩
end
end Go.Proofs.YtikjfekagdcjmaaGreatDoor.Q
namespace Go.Proofs.YtikjfekagdcjmaaGreatDoor.Q
open Go.RowKit Go.Proofs.YtikjfekagdcjmaaGreatDoorW.PrintWords Go.Proofs.YtikjfekagdcjmaaGreatDoorW.PrintLast
theorem getN_cases (l:List S43) (id:Int):(getN l id = -1∧findI l id=none)∨(∃ p:Nat,∃ h:p<l.length,getN l id=(p:Int)∧findI l id=some l[p]∧l[p].f0=id):=by
 unfold getN findI;cases hf:l.findIdx? (fun x=>x.f0 == id) with
 | none =>
  left
  refine ⟨rfl,?_⟩;rw [List.findIdx?_eq_none_iff] at hf;rw [List.find?_eq_none];intro x hx;have:=hf x hx;simp_all
 | some p =>
  right
  rw [List.findIdx?_eq_some_iff_getElem] at hf;obtain ⟨h,h1,h2⟩:=hf;refine ⟨p,h,by simp [idxI],?_,by simpa using h1⟩
  rw [List.find?_eq_some_iff_getElem];exact ⟨h1,p,h,rfl,fun j hj=>by have:=h2 j hj;simpa using this⟩
def Up (l:List S43):Prop:=∀ (a b:Nat) (hab:a<b) (hb:b<l.length),(l[a]'(by omega)).f0<l[b].f0
theorem up_of_upB (l:List S43) (h:upB (-1) l=true):Up l:=by
 intro a b hab hb;have:=upB_lt l _ h a b hab hb;rwa [rd43_get _ _ (by omega),rd43_get _ _ hb] at this
theorem Up.inj {l:List S43} (h:Up l) {a b:Nat} (ha:a<l.length) (hb:b<l.length) (he:l[a].f0=l[b].f0):a=b:=by
 rcases Nat.lt_trichotomy a b with h1|h1|h1
 ·have:=h a b h1 hb;omega
 ·exact h1
 ·have:=h b a h1 ha;omega
theorem Up.find {l:List S43} (h:Up l) {a:Nat} (ha:a<l.length):findI l l[a].f0=some l[a]∧getN l l[a].f0=(a:Int):=by
 rcases getN_cases l l[a].f0 with ⟨h1,h2⟩|⟨p,hp,h1,h2,h3⟩
 ·unfold findI at h2;rw [List.find?_eq_none] at h2;have:=h2 l[a] (List.getElem_mem ha);simp at this
 ·have:=h.inj hp ha h3;subst this;exact ⟨h2,h1⟩
theorem filter_len_eq {l:List S43} (hp:0<l.length) (hr:l[0].f0=1) (hu:Up l) (d:Int):(kidsI l d).length=kidsN l d:=by
 unfold kidsI kidsN;obtain ⟨x,t,rfl⟩ : ∃ x t,l=x::t:=by cases l with|nil=>simp at hp|cons x t=>exact ⟨x,t,rfl⟩
 simp only [List.getElem_cons_zero] at hr;have h1:isKid d x=false:=by simp [isKid,hr]
 rw [List.filter_cons_of_neg (by simp [h1]),List.drop_one,List.tail_cons]
 congr 1
 apply List.filter_congr
 intro y hy;obtain ⟨b,hb,rfl⟩:=List.mem_iff_getElem.1 hy;have:=hu 0 (b+1) (by omega) (by simp;omega)
 simp only [List.getElem_cons_zero,List.getElem_cons_succ] at this;have h2:(t[b].f0 == 1)=false:=by rw [beq_eq_false_iff_ne];omega
 simp [isKid,h2]
theorem kid_cases {l:List S43} (hp:0<l.length) (hr:l[0].f0=1) (hu:Up l) (d:Int) (nm:ByteArray) :
  (kidN l d nm = -1∧kidI l d nm=none)∨(∃ p:Nat,∃ h:p<l.length,0<p∧kidN l d nm=(p:Int)∧kidI l d nm=some l[p]∧l[p].f1=d∧l[p].f2.toList=nm.toList):=by
 obtain ⟨x,t,rfl⟩ : ∃ x t,l=x::t:=by cases l with|nil=>simp at hp|cons x t=>exact ⟨x,t,rfl⟩
 simp only [List.getElem_cons_zero] at hr;have h1:isKid d x=false:=by simp [isKid,hr]
 have h2 : ∀ y∈t,(isKid d y&&y.f2.toList == nm.toList)=(y.f1 == d&&y.f2.toList == nm.toList):=by
  intro y hy;obtain ⟨b,hb,rfl⟩:=List.mem_iff_getElem.1 hy;have:=hu 0 (b+1) (by omega) (by simp;omega)
  simp only [List.getElem_cons_zero,List.getElem_cons_succ] at this;have h2:(t[b].f0 == 1)=false:=by rw [beq_eq_false_iff_ne];omega
  simp [isKid,h2]
 have h3:kidI (x::t) d nm=t.find? (fun y=>y.f1 == d&&y.f2.toList == nm.toList):=by
  unfold kidI;rw [List.find?_cons_of_neg (by simp [h1])]
  clear hu hp;induction t with
  | nil=>rfl
  | cons y t ih =>
   have hy:=h2 y (List.mem_cons_self ..);simp only [List.find?_cons];rw [hy,ih (fun z hz=>h2 z (List.mem_cons_of_mem _ hz))]
 have h4:kidN (x::t) d nm=idxI 1 (t.findIdx? (fun y=>y.f1 == d&&y.f2.toList == nm.toList)):=rfl;rw [h3,h4];cases hf:t.findIdx? (fun y=>y.f1 == d&&y.f2.toList == nm.toList) with
 | none =>
  left
  refine ⟨rfl,?_⟩;rw [List.findIdx?_eq_none_iff] at hf;rw [List.find?_eq_none];intro y hy;have:=hf y hy;simp_all
 | some p =>
  right
  rw [List.findIdx?_eq_some_iff_getElem] at hf;obtain ⟨h,h5,h6⟩:=hf;refine ⟨p+1,by simp;omega,by omega,by simp only [idxI];omega,?_,?_⟩
  ·rw [List.find?_eq_some_iff_getElem];exact ⟨h5,p,h,rfl,fun j hj=>(Bool.not_eq_true' _).mpr (Bool.eq_false_iff.mpr (h6 j hj))⟩
  ·simpa using h5
theorem depth_cases {l:List S43} (hp:0<l.length) (hr:l[0].f0=1) (hu:Up l) : ∀ (m a:Nat) (ha:a<l.length) (n:Int),n=7-(m:Int)→m≤7 →
  ((0≤depthI l m n l[a].f0)↔depthN l (m+1) (a:Int) n≤6):=by
 intro m;induction m with
 | zero =>
  intro a ha n hn hm;have h7:n=7:=by omega
  subst h7;simp only [depthI,depthN];constructor
  ·intro h;omega
  ·intro h;split at h <;> (try split at h) <;> (try split at h) <;> omega
 | succ m ih =>
  intro a ha n hn hm;rw [depthI,depthN,rd43_get _ _ ha];by_cases h1:l[a].f0=1
  ·rw [if_pos h1,if_pos h1];omega
  ·rw [if_neg h1,if_neg h1,(hu.find ha).1];simp only;rcases getN_cases l l[a].f1 with ⟨h2,h3⟩|⟨p,hp2,h2,h3,h4⟩
   ·rw [h2,if_pos (by omega)]
    have hne:l[a].f1≠1:=by
     intro he;rw [he,← hr,(hu.find hp).1] at h3;simp at h3
    cases m with
    | zero=>simp [depthI]
    | succ m =>
     rw [depthI,if_neg hne,h3];simp
   ·rw [h2,if_neg (by omega),if_neg (by omega),← h4]
    exact ih p hp2 (n+1) (by omega) (by omega)
theorem second_eq {l:List S43} (hp:0<l.length) (hr:l[0].f0=1) (hu:Up l) (j:Nat) (hj:j+1<l.length):secondN l j (rd_T43 l ((j+1:Nat):Int))=secondB l (rd_T43 l ((j+1:Nat):Int)):=by
 rw [rd43_get _ _ hj];unfold secondN secondB;rw [filter_len_eq hp hr hu];have hd:decide (0≤depthI l 7 0 l[j+1].f0) = !(decide (depthN l 8 ((j+1:Nat):Int) 0>6)):=by
  have:=depth_cases hp hr hu 7 (j+1) hj 0 (by omega) (by omega)
  rw [show 7+1=8 from rfl] at this
  by_cases h:0≤depthI l 7 0 l[j+1].f0
  ·have h2:=this.1 h;rw [decide_eq_true h,decide_eq_false (by omega)]
   rfl
  ·have h2 : ¬ depthN l 8 ((j+1:Nat):Int) 0≤6:=fun h3=>h (this.2 h3);rw [decide_eq_false h,decide_eq_true (by omega)]
   rfl
 rw [hd];have hk:(kidN l l[j+1].f1 l[j+1].f2 == ((j+1:Nat):Int))=((gI (kidI l l[j+1].f1 l[j+1].f2)).f0 == l[j+1].f0):=by
  have h0:=hu 0 (j+1) (by omega) hj
  rcases kid_cases hp hr hu l[j+1].f1 l[j+1].f2 with ⟨h1,h2⟩|⟨p,hp2,h1,h2,h3,h4⟩
  ·rw [h1,h2];have:(gI none).f0=0:=rfl;rw [this,beq_eq_false_iff_ne.2 (by omega),beq_eq_false_iff_ne.2 (by omega)]
  ·rw [h2,h3];have:(gI (some l[p]))=l[p]:=rfl;rw [this];by_cases he:p=j+1
   ·subst he;simp
   ·rw [beq_eq_false_iff_ne.2 (by omega),beq_eq_false_iff_ne.2 (fun hx=>he (hu.inj hp2 hj hx))]
 rw [hk];rcases getN_cases l l[j+1].f1 with ⟨h1,h2⟩|⟨p,hp2,h1,h2,h3⟩
 ·rw [h1,h2];simp
 ·rw [h1,h2,rd43_get _ _ hp2];have:(gI (some l[p]))=l[p]:=rfl;rw [this,decide_eq_false (by omega)]
  simp only [Option.isSome_some,Bool.not_false,Bool.true_and];cases l[p].f3 <;> cases ((gI (kidI l l[j+1].f1 l[j+1].f2)).f0 == l[j+1].f0) <;> cases decide (kidsN l l[j+1].f1≤12) <;> cases (!decide (depthN l 8 ((j+1:Nat):Int) 0>6)) <;> rfl
theorem first_eq {l:List S43} (hw:wfL l=true) (j:Nat) (hj:j+1<l.length):firstN l j=firstB l j:=by
 unfold firstN firstB;have h:=(wfI_iff _).1 (List.all_eq_true.1 hw _ (List.getElem_mem hj));rw [rd43_get _ _ hj];have:(l[j+1].f4 != 0)=decide (l[j+1].f4>0):=by
  by_cases h0:l[j+1].f4=0
  ·rw [h0];rfl
  ·rw [decide_eq_true (by omega)]
   simpa using h0
 rw [this]
theorem rightN_eq (l:List S43) (hw:wfL l=true):rightN l=rightB l:=by
 unfold rightN rightB;by_cases h1:(decide (1≤l.length)&&decide (l.length≤40)&&rootB (rd_T43 l 0))=true
 ·rw [h1,Bool.true_and,Bool.true_and];simp only [Bool.and_eq_true,decide_eq_true_eq] at h1;have hp:0<l.length:=by omega
  have hr:l[0].f0=1:=by
   have h2:=h1.2;rw [show (0:Int)=((0:Nat):Int) from rfl,rd43_get _ _ hp] at h2
   simp only [rootB,Bool.and_eq_true,beq_iff_eq] at h2;exact h2.1.1.1.1
  rw [Bool.eq_iff_iff];simp only [Bool.and_eq_true,List.all_eq_true,List.mem_range,bothN];constructor
  ·intro h;have hf : ∀ j,j<l.length-1→firstB l j=true:=fun j hj=>by rw [← first_eq hw j (by omega)];exact (h j hj).1
   have hu:=up_of_upB l (up_of_first l hw (fun j hj=>hf j (by omega)))
   exact ⟨hf,fun j hj=>by rw [← second_eq hp hr hu j (by omega)];exact (h j hj).2⟩
  ·intro h;have hu:=up_of_upB l (up_of_first l hw (fun j hj=>h.1 j (by omega)))
   exact fun j hj=>⟨by rw [first_eq hw j (by omega)];exact h.1 j hj,by rw [second_eq hp hr hu j (by omega)];exact h.2 j hj⟩
 ·rw [Bool.not_eq_true] at h1;rw [h1,Bool.false_and,Bool.false_and,Bool.false_and]
theorem kidN_range (l:List S43) (d:Int) (nm:ByteArray):kidN l d nm = -1∨∃ p:Nat,1≤p∧p<l.length∧kidN l d nm=(p:Int):=by
 unfold kidN;cases hf:(l.drop 1).findIdx? (fun x=>x.f1 == d&&x.f2.toList == nm.toList) with
 | none=>exact .inl rfl
 | some p =>
  rw [List.findIdx?_eq_some_iff_getElem] at hf;obtain ⟨h,_⟩:=hf;rw [List.length_drop] at h;exact .inr ⟨1+p,by omega,by omega,rfl⟩
def walkN (l:List S43):List ByteArray→Int→Int×Int
 | [],i=>(i,0)
 | n::ns,i=>if (rd_T43 l i).f3=true then (if kidN l (rd_T43 l i).f0 n<0 then (0,7) else walkN l ns (kidN l (rd_T43 l i).f0 n)) else (0,10)
theorem walkN_range (l:List S43) (hp:0<l.length) : ∀ (ns:List ByteArray) (i:Int),0≤i→i<(l.length:Int)→0≤(walkN l ns i).1∧(walkN l ns i).1<(l.length:Int)
 | [],i,h0,h1=>⟨h0,h1⟩
 | n::ns,i,h0,h1=>by
  rw [walkN];split
  ·split
   ·exact ⟨by simp,by simp;omega⟩
   ·rcases kidN_range l (rd_T43 l i).f0 n with h|⟨p,h2,h3,h4⟩
    ·omega
    ·exact walkN_range l hp ns _ (by omega) (by omega)
  ·exact ⟨by simp,by simp;omega⟩
theorem rdOf_at {α:Type} (d:α) (xs:List α) (j:Nat) (h:j<xs.length):rdOf d xs (j:Int)=xs[j]:=by
 simp [rdOf,List.getD_eq_getElem?_getD,List.getElem?_eq_getElem h]
theorem rwalk_loop (l:List S43) (hl:l.length≤1000) (hp:0<l.length) (ns:List ByteArray) (hn:ns.length≤1000) : ∀ (n k j:Nat) (i:Int),j+n=ns.length→l.length+n+1<k→0≤i→i<(l.length:Int) →
  r10_Walk.l0 k l ns i (j:Int)=some (walkN l (ns.drop j) i):=by
 intro n;induction n with
 | zero =>
  intro k j i hj hk h0 h1;obtain ⟨k,rfl⟩ : ∃ m,k=m+1:=⟨k-1,by omega⟩
  rw [r10_Walk.l0,if_neg (by omega),List.drop_eq_nil_of_le (by omega)]
  rfl
 | succ n ih =>
  intro k j i hj hk h0 h1;obtain ⟨k,rfl⟩ : ∃ m,k=m+1:=⟨k-1,by omega⟩
  rw [r10_Walk.l0,if_pos (by omega),if_pos h0,if_pos h1,List.drop_eq_getElem_cons (by omega),walkN]
  by_cases hd:(rd_T43 l i).f3=true
  ·rw [if_pos hd,if_pos hd,if_pos (by omega),rdOf_at _ _ _ (by omega),rkid_f l (by unfold maxLen;omega) hp _ _ k (by omega),Option.bind_some]
   by_cases hk2:kidN l (rd_T43 l i).f0 ns[j]<0
   ·rw [if_pos hk2,if_pos hk2]
   ·rw [if_neg hk2,if_neg hk2,wrap_in (by omega) (by omega),show ((j:Int)+1)=((j+1:Nat):Int) by omega]
    rcases kidN_range l (rd_T43 l i).f0 ns[j] with h|⟨p,h2,h3,h4⟩
    ·omega
    ·exact ih k (j+1) _ (by omega) (by omega) (by omega) (by omega)
  ·rw [if_neg hd,if_neg hd]
theorem rwalk_f (l:List S43) (hl:l.length≤1000) (hp:0<l.length) (ns:List ByteArray) (hn:ns.length≤1000) (k:Nat) (hk:l.length+ns.length+1<k):r10_Walk.f k l ns=some (walkN l ns 0):=by
 unfold r10_Walk.f;have:=rwalk_loop l hl hp ns hn ns.length k 0 0 (by omega) hk (by omega) (by omega)
 rwa [List.drop_zero] at this
def aboveN (l:List S43) (ns:List ByteArray):Int×Int :=
 if ns.length=0 then (0,8)
 else if (walkN l (ns.take (ns.length-1)) 0).2=0 then (if (rd_T43 l (walkN l (ns.take (ns.length-1)) 0).1).f3=true then ((walkN l (ns.take (ns.length-1)) 0).1,0) else (0,10))
 else (0,(walkN l (ns.take (ns.length-1)) 0).2)
theorem plc_at (l:List S43) (id:Int) (i:Nat) (hi:i≤l.length) (h1 : ∀ (j:Nat) (hj:j<i),(l[j]'(by omega)).f0<id) (h2 : ∀ h:i<l.length,¬ l[i].f0<id):plc l id=i:=by
 unfold plc;induction l generalizing i with
 | nil=>simp at hi;subst hi;rfl
 | cons y t ih =>
  cases i with
  | zero =>
   have:=h2 (by simp)
   simp only [List.getElem_cons_zero] at this;rw [List.takeWhile_cons_of_neg (by simpa using this)]
   rfl
  | succ i =>
   have h0:=h1 0 (by omega)
   simp only [List.getElem_cons_zero] at h0;rw [List.takeWhile_cons_of_pos (by simpa using h0),List.length_cons]
   have:=ih i (by simpa using hi) (fun j hj=>by have:=h1 (j+1) (by omega);simpa using this) (fun h=>by have:=h2 (by simp;omega);simpa using this)
   rw [this]
def withN (l:List S43) (x:S43):List S43:=l.take (plc l x.f0)++x::l.drop (plc l x.f0)
def outN (l:List S43) (i:Nat):List S43:=l.take i++l.drop (i+1)
end Go.Proofs.YtikjfekagdcjmaaGreatDoor.Q
namespace Go.Proofs
open Go.Shelf
def Tryz.sortOpen_ren:Go.Shelf.Ren:=⟨fun|6=>284|15=>134|14=>309|28=>212|29=>213|20=>328|21=>329|22=>330|23=>331|24=>332|25=>333|26=>334|27=>335|46=>353|47=>270|48=>271|49=>354|50=>355|57=>365|n=>n,fun|22=>26|24=>81|25=>288|3=>3|39=>223|0=>0|53=>24|55=>98|4=>4|46=>299|45=>298|50=>254|5=>5|9=>9|66=>346|70=>251|76=>382|77=>82|n=>n,fun|n=>n⟩
theorem Tryz.sortOpen:Go.Proofs.SlLaysF0.n6 Tryz.prog Tryz.sortOpen_ren:={
 mixed:=by kernel_rfl
 f6:=⟨Tryz.f284.name,by decide,Tryz.func284.trans (congrArg some (by kernel_rfl))⟩
 f14:=⟨Tryz.f309.name,by decide,Tryz.func309.trans (congrArg some (by kernel_rfl))⟩
 f15:=Tryz.func134.trans (congrArg some (by kernel_rfl))
 f20:=⟨Tryz.f328.name,by decide,Tryz.func328.trans (congrArg some (by kernel_rfl))⟩
 f21:=⟨Tryz.f329.name,by decide,Tryz.func329.trans (congrArg some (by kernel_rfl))⟩
 f22:=⟨Tryz.f330.name,by decide,Tryz.func330.trans (congrArg some (by kernel_rfl))⟩
 f23:=⟨Tryz.f331.name,by decide,Tryz.func331.trans (congrArg some (by kernel_rfl))⟩
 f24:=⟨Tryz.f332.name,by decide,Tryz.func332.trans (congrArg some (by kernel_rfl))⟩
 f25:=⟨Tryz.f333.name,by decide,Tryz.func333.trans (congrArg some (by kernel_rfl))⟩
 f26:=⟨Tryz.f334.name,by decide,Tryz.func334.trans (congrArg some (by kernel_rfl))⟩
 f27:=⟨Tryz.f335.name,by decide,Tryz.func335.trans (congrArg some (by kernel_rfl))⟩
 f28:=Tryz.func212.trans (congrArg some (by kernel_rfl))
 f29:=Tryz.func213.trans (congrArg some (by kernel_rfl))
 f46:=⟨Tryz.f353.name,by decide,Tryz.func353.trans (congrArg some (by kernel_rfl))⟩
 f47:=Tryz.func270.trans (congrArg some (by kernel_rfl))
 f48:=Tryz.func271.trans (congrArg some (by kernel_rfl))
 f49:=⟨Tryz.f354.name,by decide,Tryz.func354.trans (congrArg some (by kernel_rfl))⟩
 f50:=⟨Tryz.f355.name,by decide,Tryz.func355.trans (congrArg some (by kernel_rfl))⟩
 f57:=⟨Tryz.f365.name,by decide,Tryz.func365.trans (congrArg some (by kernel_rfl))⟩
 t0:=Tryz.underlying0
 a0:=Tryz.isAgg0
 z0:=Tryz.sizeOf0
 v0:=Tryz.zeroValue0
 t3:=Tryz.underlying3
 a3:=Tryz.isAgg3
 z3:=Tryz.sizeOf3
 v3:=Tryz.zeroValue3
 t4:=Tryz.underlying4
 a4:=Tryz.isAgg4
 z4:=Tryz.sizeOf4
 v4:=Tryz.zeroValue4
 t5:=Tryz.underlying5
 a5:=Tryz.isAgg5
 z5:=Tryz.sizeOf5
 v5:=Tryz.zeroValue5
 t9:=Tryz.underlying9
 a9:=Tryz.isAgg9
 z9:=Tryz.sizeOf9
 v9:=Tryz.zeroValue9
 t22:=Tryz.underlying26
 a22:=Tryz.isAgg26
 z22:=Tryz.sizeOf26
 v22:=Tryz.zeroValue26
 t25:=Tryz.underlying288
 a25:=Tryz.isAgg288
 z25:=Tryz.sizeOf288
 v25:=Tryz.zeroValue288
 t39:=Tryz.underlying223
 a39:=Tryz.isAgg223
 z39:=Tryz.sizeOf223
 v39:=Tryz.zeroValue223
 t45:=Tryz.underlying298
 a45:=Tryz.isAgg298
 z45:=Tryz.sizeOf298
 v45:=Tryz.zeroValue298
 t46:=Tryz.underlying299
 a46:=Tryz.isAgg299
 z46:=Tryz.sizeOf299
 v46:=Tryz.zeroValue299
 t50:=Tryz.underlying254
 a50:=Tryz.isAgg254
 z50:=Tryz.sizeOf254
 v50:=Tryz.zeroValue254
 t53:=Tryz.underlying24
 a53:=Tryz.isAgg24
 z53:=Tryz.sizeOf24
 v53:=Tryz.zeroValue24
 t55:=Tryz.underlying98
 a55:=Tryz.isAgg98
 z55:=Tryz.sizeOf98
 v55:=Tryz.zeroValue98
 t66:=Tryz.underlying346
 a66:=Tryz.isAgg346
 z66:=Tryz.sizeOf346
 v66:=Tryz.zeroValue346
 t70:=Tryz.underlying251
 a70:=Tryz.isAgg251
 z70:=Tryz.sizeOf251
 v70:=Tryz.zeroValue251
 t76:=Tryz.underlying382
 a76:=Tryz.isAgg382
 z76:=Tryz.sizeOf382
 v76:=Tryz.zeroValue382
 t77:=Tryz.underlying82
 a77:=Tryz.isAgg82
 z77:=Tryz.sizeOf82
 v77:=Tryz.zeroValue82 }
end Go.Proofs
namespace Go.Proofs.YtikjfekagdcjmaaGreatDoor.Q
open Go.RowKit Go.Proofs.YtikjfekagdcjmaaGreatDoorW.PrintWords Go.Proofs.YtikjfekagdcjmaaGreatDoorW.PrintLast Go.Proofs.YtikjfekagdcjmaaGreatDoorW.PrintMore
def idxL {α:Type} (p:α→Bool):Nat→List α→Int
 | _,[]=>-1
 | i,x::xs=>if p x=true then (i:Int) else idxL p (i+1) xs
theorem idxL_some {α:Type} (p:α→Bool) : ∀ (l:List α) (i n:Nat) (h:n<l.length),p l[n]=true→(∀ j (hj:j<n),p (l[j]'(by omega))=false)→idxL p i l=((i+n:Nat):Int)
 | x::xs,i,0,h,hp,_=>by
  show (if p x=true then (i:Int) else _)=_
  rw [if_pos (by simpa using hp)];rfl
 | x::xs,i,n+1,h,hp,hn=>by
  have h0:=hn 0 (by omega)
  show (if p x=true then (i:Int) else _)=_
  rw [if_neg (by simpa using h0),idxL_some p xs (i+1) n (by simpa using h) hp (fun j hj=>hn (j+1) (by omega))]
  omega
theorem idxL_none {α:Type} (p:α→Bool) : ∀ (l:List α) (i:Nat),(∀ j (hj:j<l.length),p l[j]=false)→idxL p i l = -1
 | [],_,_=>rfl
 | x::xs,i,h=>by
  have h0:=h 0 (by simp)
  show (if p x=true then (i:Int) else _)=_
  rw [if_neg (by simpa using h0),idxL_none p xs (i+1) (fun j hj=>h (j+1) (by simpa using hj))]
theorem idxL_any {α:Type} (p:α→Bool) : ∀ (l:List α) (i:Nat),decide (0≤idxL p i l)=l.any p
 | [],_=>rfl
 | x::xs,i=>by
  show decide (0≤if p x=true then (i:Int) else _)=_
  by_cases h:p x=true
  ·rw [if_pos h,List.any_cons,h,decide_eq_true (by omega)];rfl
  ·rw [if_neg h,List.any_cons,idxL_any p xs (i+1),Bool.eq_false_iff.2 h];rfl
end Go.Proofs.YtikjfekagdcjmaaGreatDoor.Q
