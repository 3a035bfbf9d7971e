/- Contracts and plain theory behind FlatRights. -/
import Derived.Outline
import Derived.BigQuiet
import Derived.Deep.QuietTactic
import Derived.Test.YtikjfekagdcjmaaGreatDoorCFlatRights5
set_option linter.unusedVariables false
set_option linter.unusedSimpArgs false
set_option maxHeartbeats 16000000
set_option maxRecDepth 100000
namespace Go.Proofs.YtikjfekagdcjmaaGreatDoor.Q
open Go.RowKit Go.Proofs.YtikjfekagdcjmaaGreatDoorW.PrintWords Go.Proofs.YtikjfekagdcjmaaGreatDoorW.PrintLast Go.Proofs.YtikjfekagdcjmaaGreatDoorW.PrintMore
theorem rname_q (s:ByteArray) (w:World):Calls Tryz.prog 167 #[.string s] w fun e w'=>e=.returned (.bool (isNameB s))∧∃ m,w'=w.drewN m :=
 (r10_Name.calls 11 s _ w (rname_f s 11 (by omega))).mono fun e w' hh=>⟨hh.1,hh.2.out⟩
theorem rget_c (A0:Option Addr) (c0:Nat) (l:List S43) (id:Int) (w:World) (hr0:Kd.C k43 w A0 l.length l) (hc0:l.length≤c0) (hl:l.length≤1000) :
  Calls Tryz.prog 60 #[.slice A0 l.length c0,.int .u32 id] w fun e w'=>e=.returned (.int .i64 (getN l id))∧Below w.heap.size w w' :=
 (r10_Get.calls (l.length+1) A0 c0 l id _ w hr0 hc0 (rget_f l (by unfold maxLen;omega) id _ (by omega))).mono fun e w' hh=>⟨hh.1,hh.2.below⟩
theorem rkid_c (A0:Option Addr) (c0:Nat) (l:List S43) (d:Int) (nm:ByteArray) (w:World) (hr0:Kd.C k43 w A0 l.length l) (hc0:l.length≤c0) (hl:l.length≤1000) (hp:0<l.length) :
  Calls Tryz.prog 168 #[.slice A0 l.length c0,.int .u32 d,.string nm] w fun e w'=>e=.returned (.int .i64 (kidN l d nm))∧Below w.heap.size w w' :=
 (r10_Kid.calls (l.length+1) A0 c0 l d nm _ w hr0 hc0 (rkid_f l (by unfold maxLen;omega) hp d nm _ (by omega))).mono fun e w' hh=>⟨hh.1,hh.2.below⟩
theorem rkids_c (A0:Option Addr) (c0:Nat) (l:List S43) (d:Int) (w:World) (hr0:Kd.C k43 w A0 l.length l) (hc0:l.length≤c0) (hl:l.length≤1000) (hp:0<l.length) :
  Calls Tryz.prog 169 #[.slice A0 l.length c0,.int .u32 d] w fun e w'=>e=.returned (.int .i64 (kidsN l d:Nat))∧Below w.heap.size w w' :=
 (r10_Kids.calls (l.length+1) A0 c0 l d _ w hr0 hc0 (rkids_f l hl hp d _ (by omega))).mono fun e w' hh=>⟨hh.1,hh.2.below⟩
theorem rdepth_c (A0:Option Addr) (c0:Nat) (l:List S43) (i:Int) (w:World) (hr0:Kd.C k43 w A0 l.length l) (hc0:l.length≤c0) (hl:l.length≤1000) (h0:0≤i) (h1:i<(l.length:Int)) :
  Calls Tryz.prog 170 #[.slice A0 l.length c0,.int .i64 i] w fun e w'=>e=.returned (.int .i64 (depthN l 8 i 0))∧Below w.heap.size w w' :=
 (r10_Depth.calls (l.length+9) A0 c0 l i _ w hr0 hc0 (rdepth_f l hl _ (by omega) i h0 h1)).mono fun e w' hh=>⟨hh.1,hh.2.below⟩
def firstN (l:List S43) (j:Nat):Bool :=
 !(decide ((rd_T43 l ((j+1:Nat):Int)).f0≤(rd_T43 l (j:Int)).f0))&&isNameB (rd_T43 l ((j+1:Nat):Int)).f2&&!(decide ((rd_T43 l ((j+1:Nat):Int)).f4>1024))&&!((rd_T43 l ((j+1:Nat):Int)).f3&&((rd_T43 l ((j+1:Nat):Int)).f4 != 0))
def secondN (l:List S43) (j:Nat) (x:S43):Bool :=
 !(decide (getN l x.f1<0))&&(rd_T43 l (getN l x.f1)).f3&&(kidN l x.f1 x.f2 == ((j+1:Nat):Int))&&decide (kidsN l x.f1≤12)&&!(decide (depthN l 8 ((j+1:Nat):Int) 0>6))
def bothN (l:List S43) (j:Nat):Bool:=firstN l j&&secondN l j (rd_T43 l ((j+1:Nat):Int))
def rightN (l:List S43):Bool :=
 decide (1≤l.length)&&decide (l.length≤40)&&rootB (rd_T43 l 0)&&(List.range (l.length-1)).all (bothN l)
def r10_Right.f (l:List S43):Option Bool:=if wfL l=true then some (rightN l) else none
theorem r10_Right.calls (A0:Option Addr) (c0:Nat) (l0:List S43) (r:Bool) (w:World) (hr0:Kd.C k43 w A0 l0.length l0) (hc0:l0.length≤c0) (h:r10_Right.f l0=some r) :
  Calls Tryz.prog 99 #[.slice A0 l0.length c0] w fun e w'=>e=.returned (.bool r)∧Below w.heap.size w w':=by
 unfold r10_Right.f at h;by_cases hwf:wfL l0=true
 ·rw [if_pos hwf] at h;cases h
  have HR0:=Aside0.mk hr0;have HC0:=Aside0.mk hc0;clear hr0 hc0;have hwf:=Aside0.mk hwf;by_cases H1:l0.length<1
  ·have hf:rightN l0=false:=by unfold rightN;rw [decide_eq_false (show ¬ 1≤l0.length by omega)];simp
   rw [hf];go_enter Tryz.func99,Tryz.ntmps99;go_wp2_with (fail)
   go_ret
   exact ⟨rfl,Below.refl _ _⟩
  by_cases H2:40<l0.length
  ·have hf:rightN l0=false:=by unfold rightN;rw [decide_eq_false (show ¬ l0.length≤40 by omega)];simp
   rw [hf];go_enter Tryz.func99,Tryz.ntmps99;go_wp2_with (fail)
   all_goals first|(go_ret;exact ⟨rfl,Below.refl _ _⟩)|(exfalso;omega)
  obtain ⟨ad,e,z0,z1,z2,z3,z4⟩:=at_T43 HR0.out 0 (by omega) (by omega)
  cases e
  have HCR:Aside0 (∀ j:Nat,j<l0.length→w.cell? (ad.add (j*5))=some (.int .u32 (rd_T43 l0 j).f0)∧w.cell? ⟨(ad.add (j*5)).block,(ad.add (j*5)).off+1,none⟩=some (.int .u32 (rd_T43 l0 j).f1)∧w.cell? ⟨(ad.add (j*5)).block,(ad.add (j*5)).off+2,none⟩=some (.string (rd_T43 l0 j).f2)∧w.cell? ⟨(ad.add (j*5)).block,(ad.add (j*5)).off+3,none⟩=some (.bool (rd_T43 l0 j).f3)∧w.cell? ⟨(ad.add (j*5)).block,(ad.add (j*5)).off+4,none⟩=some (.int .u32 (rd_T43 l0 j).f4)):=⟨fun j hj=>by
   obtain ⟨ad',e,q⟩:=at_T43 HR0.out (j:Int) (by omega) (by omega)
   cases e
   simpa only [Int.toNat_natCast] using q⟩
  rw [show ((0:Int)).toNat*5=0 from rfl,Addr.add_zero'] at z0 z1 z2 z3 z4
  have hcmp:(!((rd_T43 l0 0).f0 == 1)||(!((rd_T43 l0 0).f1 == 0)||(!((rd_T43 l0 0).f2.toList == [])||(!(rd_T43 l0 0).f3||!((rd_T43 l0 0).f4 == 0))))) = !rootB (rd_T43 l0 0):=by
   unfold rootB;simp [Bool.not_and,Bool.or_assoc]
  have hg1:(0<l0.length)=True:=eq_true (by omega)
  by_cases H3:rootB (rd_T43 l0 0)=false
  ·have hf:rightN l0=false:=by unfold rightN;rw [H3];simp
   rw [hf];clear hcmp;go_enter Tryz.func99,Tryz.ntmps99;go_wp2_with (fail)
   all_goals first|(go_ret;exact ⟨rfl,Below.refl _ _⟩)|skip
   exfalso
   have q0:(rd_T43 l0 0).f0=1:=by assumption
   have q1:(rd_T43 l0 0).f1=0:=by assumption
   have q2:(rd_T43 l0 0).f2.toList = []:=by assumption
   have q3 : ¬ (rd_T43 l0 0).f3=false:=by assumption
   have q4:(rd_T43 l0 0).f4=0:=by assumption
   unfold rootB at H3;rw [q0,q1,q2,q4] at H3;simp at H3
   exact q3 H3
  ·have H3':rootB (rd_T43 l0 0)=true:=by simpa using H3
   clear hcmp;have hrootb:=H3';unfold rootB at H3';simp only [Bool.and_eq_true,beq_iff_eq] at H3';obtain ⟨⟨⟨⟨q0,q1⟩,q2⟩,q3⟩,q4⟩:=H3';have hf:rightN l0=(List.range (l0.length-1)).all (bothN l0):=by
    unfold rightN;rw [hrootb,decide_eq_true (show 1≤l0.length by omega),decide_eq_true (show l0.length≤40 by omega)]
    simp
   go_enter Tryz.func99,Tryz.ntmps99;go_wp2_with (fail)
   have HF:=Aside0.mk hf;clear hf z0 z1 z2 z3 z4 q0 q1 q2 q3 q4;go_loopw [3] (fun v3 wr=>∃ j:Nat,j+1≤l0.length∧v3=.int .i64 (j+1:Nat)∧Aside0 (∀ j':Nat,j'<j→bothN l0 j'=true)∧Aside0 (Below w.heap.size w wr)) (fun v3 _=>l0.length-(intOf v3).toNat)
   case atStart=>exact ⟨0,by omega,rfl,⟨fun j hj=>by omega⟩,⟨Below.refl _ _⟩⟩
   case round =>
    obtain ⟨j,hi,rfl,HN,HB⟩:=hrel;by_cases hlt:j+1<l0.length
    ·obtain ⟨x0,x1,x2,x3,x4⟩:=HCR.out (j+1) hlt;obtain ⟨y0,_,_,_,_⟩:=HCR.out j (by omega)
     replace x0:=(HB.out.cell (World.block_lt_of_cell? w _ x0)).trans x0;replace x1:=(HB.out.cell (World.block_lt_of_cell? w _ x1)).trans x1;replace x2:=(HB.out.cell (World.block_lt_of_cell? w _ x2)).trans x2;replace x3:=(HB.out.cell (World.block_lt_of_cell? w _ x3)).trans x3;replace x4:=(HB.out.cell (World.block_lt_of_cell? w _ x4)).trans x4;replace y0:=(HB.out.cell (World.block_lt_of_cell? w _ y0)).trans y0;have HFF:Aside0 (bothN l0 j=false→rightN l0=false):=⟨fun hb=>by
      rw [HF.out,Bool.eq_false_iff];intro hc;have:=List.all_eq_true.1 hc j (List.mem_range.2 (by omega))
      rw [hb] at this;cases this⟩
     have HFJ:=Aside0.mk (show firstN l0 j=(!(decide ((rd_T43 l0 ((j+1:Nat):Int)).f0≤(rd_T43 l0 (j:Int)).f0))&&isNameB (rd_T43 l0 ((j+1:Nat):Int)).f2&&!(decide ((rd_T43 l0 ((j+1:Nat):Int)).f4>1024))&&!((rd_T43 l0 ((j+1:Nat):Int)).f3&&((rd_T43 l0 ((j+1:Nat):Int)).f4 != 0))) from rfl)
     have HSJ:=Aside0.mk (show ∀ x,secondN l0 j x=(!(decide (getN l0 x.f1<0))&&(rd_T43 l0 (getN l0 x.f1)).f3&&(kidN l0 x.f1 x.f2 == ((j+1:Nat):Int))&&decide (kidsN l0 x.f1≤12)&&!(decide (depthN l0 8 ((j+1:Nat):Int) 0>6))) from fun _=>rfl)
     have hw1:=wj1 j (by omega)
     have hw2:=wj2 j (by omega)
     have hg2:(j+1<l0.length)=True:=eq_true hlt;have hg3:(j<l0.length)=True:=eq_true (by omega)
     generalize hX:rd_T43 l0 ((j+1:Nat):Int)=x at x0 x1 x2 x3 x4 HFJ;have HX:=Aside0.mk hX;clear hX;generalize (rd_T43 l0 (j:Int)).f0=yy at y0 HFJ;go_upto_region 7 with (fail)
     have HB2:=Aside0.mk (below_alloc HB.out (.cells #[.int .u32 x.f0,.int .u32 x.f1,.string x.f2,.bool x.f3,.int .u32 x.f4] 43));have BK:=Aside0.mk (heap_alloc_new wr (.cells #[.int .u32 x.f0,.int .u32 x.f1,.string x.f2,.bool x.f3,.int .u32 x.f4] 43));have y0':=((below_alloc (Below.refl wr.heap.size wr) (.cells #[.int .u32 x.f0,.int .u32 x.f1,.string x.f2,.bool x.f3,.int .u32 x.f4] 43)).cell (World.block_lt_of_cell? _ _ y0)).trans y0;clear x0 x1 x2 x3 x4 y0 HB;generalize wr.alloc (.cells #[.int .u32 x.f0,.int .u32 x.f1,.string x.f2,.bool x.f3,.int .u32 x.f4] 43)=W at HB2 BK y0' ⊢;generalize wr.heap.size=g at BK ⊢;have k0:W.cell? ⟨g,0,none⟩=some (.int .u32 x.f0):=(blk_cell BK.out 0).trans rfl;have k1:W.cell? ⟨g,1,none⟩=some (.int .u32 x.f1):=(blk_cell BK.out 1).trans rfl;have k2:W.cell? ⟨g,2,none⟩=some (.string x.f2):=(blk_cell BK.out 2).trans rfl;have k3:W.cell? ⟨g,3,none⟩=some (.bool x.f3):=(blk_cell BK.out 3).trans rfl;have k4:W.cell? ⟨g,4,none⟩=some (.int .u32 x.f4):=(blk_cell BK.out 4).trans rfl;by_cases d1:x.f0≤yy
     ·have e1:decide (x.f0≤yy)=true:=decide_eq_true d1;have hR:=HFF.out (by unfold bothN;rw [HFJ.out];simp [d1])
      clear HFF HFJ HSJ;go_quiet ((go_at_call 167;exact Calls.quiet_of (rname_q _ _)))
      go_wp2_with (fail)
      (try rw [hR])
      go_ret
      exact ⟨rfl,pw_below_drewN HB2.out _⟩
     have e1:decide (x.f0≤yy)=false:=decide_eq_false d1;cases hn:isNameB x.f2
     ·have hR:=HFF.out (by unfold bothN;rw [HFJ.out];simp [hn])
      clear HFF HFJ HSJ;go_quiet ((go_at_call 167;exact Calls.quiet_of (rname_q _ _)))
      go_wp2_with (fail)
      (try rw [hR])
      go_ret
      exact ⟨rfl,pw_below_drewN HB2.out _⟩
     by_cases d3:1024<x.f4
     ·have e3:decide (1024<x.f4)=true:=decide_eq_true d3;have hR:=HFF.out (by unfold bothN;rw [HFJ.out];simp [d3])
      clear HFF HFJ HSJ;go_quiet ((go_at_call 167;exact Calls.quiet_of (rname_q _ _)))
      go_wp2_with (fail)
      (try rw [hR])
      go_ret
      exact ⟨rfl,pw_below_drewN HB2.out _⟩
     have e3:decide (1024<x.f4)=false:=decide_eq_false d3;by_cases d4:x.f3=true∧x.f4≠0
     ·have e4:x.f3=true:=d4.1;have e5:(x.f4 != 0)=true:=bne_iff_ne.2 d4.2;rw [e4] at k3;have hR:=HFF.out (by unfold bothN;rw [HFJ.out];simp [e4,d4.2])
      clear HFF HFJ HSJ;go_quiet ((go_at_call 167;exact Calls.quiet_of (rname_q _ _)))
      go_wp2_with (fail)
      (try rw [hR])
      go_ret
      exact ⟨rfl,pw_below_drewN HB2.out _⟩
     have hT1:firstN l0 j=true:=by
      rw [HFJ.out,e1,hn];cases e4:x.f3
      ·simp [d3]
      ·have:x.f4=0:=Classical.byContradiction fun hc=>d4 ⟨e4,hc⟩;simp [d3,this]
     cases d5:x.f3
     ·rw [d5] at k3;go_quiet ((go_at_call 167;exact Calls.quiet_of (rname_q _ _)))
      go_upto_region 10 with (go_at_call 60;refine (rget_c (some ad) c0 l0 x.f1 _ (Kd.C_below HR0.out (pw_below_drewN HB2.out _)) HC0.out (by omega)).mono ?_;rintro e w4 ⟨rfl,hb4⟩;have HB4:=Aside0.mk (below_step (pw_below_drewN HB2.out _) hb4);have BK4:=Aside0.mk (blk_below (blk_drewN BK.out _) hb4);clear hb4)
      clear k0 k1 k2 k3 k4 y0' HFJ BK HB2;have m1:w4.cell? ⟨g,1,none⟩=some (.int .u32 x.f1):=(blk_cell BK4.out 1).trans rfl;have m2:w4.cell? ⟨g,2,none⟩=some (.string x.f2):=(blk_cell BK4.out 2).trans rfl;have hrng:=getN_range l0 x.f1;by_cases n1:getN l0 x.f1<0
      ·have e1:decide (getN l0 x.f1<0)=true:=decide_eq_true n1;have hR:=HFF.out (by unfold bothN;rw [hT1,HX.out,HSJ.out];simp [n1])
       clear HFF HSJ;go_wp2_with (first|(go_at_call 168;refine (rkid_c (some ad) c0 l0 x.f1 x.f2 _ (Kd.C_below HR0.out HB4.out) HC0.out (by omega) (by omega)).mono ?_;rintro e w5 ⟨rfl,hb5⟩;have HB5:=Aside0.mk (below_step HB4.out hb5);have BK5:=Aside0.mk (blk_below BK4.out hb5);have m51:w5.cell? ⟨g,1,none⟩=some (.int .u32 x.f1):=(blk_cell BK5.out 1).trans rfl;clear hb5)|(go_at_call 169;refine (rkids_c (some ad) c0 l0 x.f1 _ (Kd.C_below HR0.out HB5.out) HC0.out (by omega) (by omega)).mono ?_;rintro e w6 ⟨rfl,hb6⟩;have HB6:=Aside0.mk (below_step HB5.out hb6);clear hb6)|(go_at_call 170;refine (rdepth_c (some ad) c0 l0 (((j+1:Nat)):Int) _ (Kd.C_below HR0.out HB6.out) HC0.out (by omega) (by omega) (by omega)).mono ?_;rintro e w7 ⟨rfl,hb7⟩;have HB7:=Aside0.mk (below_step HB6.out hb7);clear hb7))
       (try rw [hR])
       go_ret
       exact ⟨rfl,HB4.out⟩
      obtain ⟨P,hP⟩ : ∃ P:Nat,getN l0 x.f1=(P:Int):=⟨(getN l0 x.f1).toNat,by omega⟩
      rw [hP] at hrng n1;have HSJx:=Aside0.mk (HSJ.out x);rw [hP] at HSJx;rw [hP];clear HSJ hP;have HSJ:=HSJx;clear HSJx;have hP1:P<l0.length:=by omega
      have hP2:(P<l0.length)=True:=eq_true hP1;have eP:decide ((P:Int)<0)=false:=decide_eq_false (by omega)
      obtain ⟨_,_,_,u3,_⟩:=HCR.out P hP1;replace u3:=(HB4.out.cell (World.block_lt_of_cell? w _ u3)).trans u3;cases n2:(rd_T43 l0 (P:Int)).f3
      ·rw [n2] at u3;have hR:=HFF.out (by unfold bothN;rw [hT1,HX.out,HSJ.out];simp [n2])
       clear HFF HSJ;go_wp2_with (first|(go_at_call 168;refine (rkid_c (some ad) c0 l0 x.f1 x.f2 _ (Kd.C_below HR0.out HB4.out) HC0.out (by omega) (by omega)).mono ?_;rintro e w5 ⟨rfl,hb5⟩;have HB5:=Aside0.mk (below_step HB4.out hb5);have BK5:=Aside0.mk (blk_below BK4.out hb5);have m51:w5.cell? ⟨g,1,none⟩=some (.int .u32 x.f1):=(blk_cell BK5.out 1).trans rfl;clear hb5)|(go_at_call 169;refine (rkids_c (some ad) c0 l0 x.f1 _ (Kd.C_below HR0.out HB5.out) HC0.out (by omega) (by omega)).mono ?_;rintro e w6 ⟨rfl,hb6⟩;have HB6:=Aside0.mk (below_step HB5.out hb6);clear hb6)|(go_at_call 170;refine (rdepth_c (some ad) c0 l0 (((j+1:Nat)):Int) _ (Kd.C_below HR0.out HB6.out) HC0.out (by omega) (by omega) (by omega)).mono ?_;rintro e w7 ⟨rfl,hb7⟩;have HB7:=Aside0.mk (below_step HB6.out hb7);clear hb7))
       (try rw [hR])
       go_ret
       exact ⟨rfl,HB4.out⟩
      rw [n2] at u3;by_cases n3:kidN l0 x.f1 x.f2=((j+1:Nat):Int)
      rotate_left
      ·have e3:(kidN l0 x.f1 x.f2 != ((j+1:Nat):Int))=true:=bne_iff_ne.2 n3;have e3':(kidN l0 x.f1 x.f2 != (j:Int)+1)=true:=bne_iff_ne.2 (by omega)
       have hR:=HFF.out (by unfold bothN;rw [hT1,HX.out,HSJ.out,beq_eq_false_iff_ne.mpr n3];simp)
       clear HFF HSJ;go_wp2_with (first|(go_at_call 168;refine (rkid_c (some ad) c0 l0 x.f1 x.f2 _ (Kd.C_below HR0.out HB4.out) HC0.out (by omega) (by omega)).mono ?_;rintro e w5 ⟨rfl,hb5⟩;have HB5:=Aside0.mk (below_step HB4.out hb5);have BK5:=Aside0.mk (blk_below BK4.out hb5);have m51:w5.cell? ⟨g,1,none⟩=some (.int .u32 x.f1):=(blk_cell BK5.out 1).trans rfl;clear hb5)|(go_at_call 169;refine (rkids_c (some ad) c0 l0 x.f1 _ (Kd.C_below HR0.out HB5.out) HC0.out (by omega) (by omega)).mono ?_;rintro e w6 ⟨rfl,hb6⟩;have HB6:=Aside0.mk (below_step HB5.out hb6);clear hb6)|(go_at_call 170;refine (rdepth_c (some ad) c0 l0 (((j+1:Nat)):Int) _ (Kd.C_below HR0.out HB6.out) HC0.out (by omega) (by omega) (by omega)).mono ?_;rintro e w7 ⟨rfl,hb7⟩;have HB7:=Aside0.mk (below_step HB6.out hb7);clear hb7))
       (try rw [hR])
       go_ret
       exact ⟨rfl,HB5.out⟩
      have e3:(kidN l0 x.f1 x.f2 != ((j+1:Nat):Int))=false:=by rw [n3];exact bne_self_eq_false _
      have e3':(kidN l0 x.f1 x.f2 != (j:Int)+1)=false:=by rw [n3,show ((j+1:Nat):Int)=(j:Int)+1 by omega];exact bne_self_eq_false _
      have n3':=beq_iff_eq.mpr n3;have HN3:=Aside0.mk n3';clear n3 n3';by_cases n4:12<kidsN l0 x.f1
      ·have e4:decide ((12:Int)<(kidsN l0 x.f1:Nat))=true:=decide_eq_true (by omega)
       have hR:=HFF.out (by unfold bothN;rw [hT1,HX.out,HSJ.out];simp [Nat.not_le.mpr n4])
       clear HFF HSJ;go_wp2_with (first|(go_at_call 168;refine (rkid_c (some ad) c0 l0 x.f1 x.f2 _ (Kd.C_below HR0.out HB4.out) HC0.out (by omega) (by omega)).mono ?_;rintro e w5 ⟨rfl,hb5⟩;have HB5:=Aside0.mk (below_step HB4.out hb5);have BK5:=Aside0.mk (blk_below BK4.out hb5);have m51:w5.cell? ⟨g,1,none⟩=some (.int .u32 x.f1):=(blk_cell BK5.out 1).trans rfl;clear hb5)|(go_at_call 169;refine (rkids_c (some ad) c0 l0 x.f1 _ (Kd.C_below HR0.out HB5.out) HC0.out (by omega) (by omega)).mono ?_;rintro e w6 ⟨rfl,hb6⟩;have HB6:=Aside0.mk (below_step HB5.out hb6);clear hb6)|(go_at_call 170;refine (rdepth_c (some ad) c0 l0 (((j+1:Nat)):Int) _ (Kd.C_below HR0.out HB6.out) HC0.out (by omega) (by omega) (by omega)).mono ?_;rintro e w7 ⟨rfl,hb7⟩;have HB7:=Aside0.mk (below_step HB6.out hb7);clear hb7))
       (try rw [hR])
       go_ret
       exact ⟨rfl,HB6.out⟩
      have e4:decide ((12:Int)<(kidsN l0 x.f1:Nat))=false:=decide_eq_false (by omega)
      by_cases n5:6<depthN l0 8 ((j+1:Nat):Int) 0
      ·have e5:decide (6<depthN l0 8 ((j+1:Nat):Int) 0)=true:=decide_eq_true n5;have e5':decide (6<depthN l0 8 ((j:Int)+1) 0)=true:=e5;have hR:=HFF.out (by unfold bothN;rw [hT1,HX.out,HSJ.out,show decide (depthN l0 8 ((j+1:Nat):Int) 0>6)=true from e5];simp)
       clear HFF HSJ;go_wp2_with (first|(go_at_call 168;refine (rkid_c (some ad) c0 l0 x.f1 x.f2 _ (Kd.C_below HR0.out HB4.out) HC0.out (by omega) (by omega)).mono ?_;rintro e w5 ⟨rfl,hb5⟩;have HB5:=Aside0.mk (below_step HB4.out hb5);have BK5:=Aside0.mk (blk_below BK4.out hb5);have m51:w5.cell? ⟨g,1,none⟩=some (.int .u32 x.f1):=(blk_cell BK5.out 1).trans rfl;clear hb5)|(go_at_call 169;refine (rkids_c (some ad) c0 l0 x.f1 _ (Kd.C_below HR0.out HB5.out) HC0.out (by omega) (by omega)).mono ?_;rintro e w6 ⟨rfl,hb6⟩;have HB6:=Aside0.mk (below_step HB5.out hb6);clear hb6)|(go_at_call 170;refine (rdepth_c (some ad) c0 l0 (((j+1:Nat)):Int) _ (Kd.C_below HR0.out HB6.out) HC0.out (by omega) (by omega) (by omega)).mono ?_;rintro e w7 ⟨rfl,hb7⟩;have HB7:=Aside0.mk (below_step HB6.out hb7);clear hb7))
       (try rw [hR])
       go_ret
       exact ⟨rfl,HB7.out⟩
      have e5:decide (6<depthN l0 8 ((j+1:Nat):Int) 0)=false:=decide_eq_false n5;have e5':decide (6<depthN l0 8 ((j:Int)+1) 0)=false:=e5;have hT2:bothN l0 j=true:=by
       unfold bothN;rw [hT1,HX.out,HSJ.out,eP,n2,HN3.out,decide_eq_true (show kidsN l0 x.f1≤12 by omega)]
       rw [show decide (depthN l0 8 ((j+1:Nat):Int) 0>6)=false from e5]
       rfl
      clear HSJ HFF;go_wp2_with (first|(go_at_call 168;refine (rkid_c (some ad) c0 l0 x.f1 x.f2 _ (Kd.C_below HR0.out HB4.out) HC0.out (by omega) (by omega)).mono ?_;rintro e w5 ⟨rfl,hb5⟩;have HB5:=Aside0.mk (below_step HB4.out hb5);have BK5:=Aside0.mk (blk_below BK4.out hb5);have m51:w5.cell? ⟨g,1,none⟩=some (.int .u32 x.f1):=(blk_cell BK5.out 1).trans rfl;clear hb5)|(go_at_call 169;refine (rkids_c (some ad) c0 l0 x.f1 _ (Kd.C_below HR0.out HB5.out) HC0.out (by omega) (by omega)).mono ?_;rintro e w6 ⟨rfl,hb6⟩;have HB6:=Aside0.mk (below_step HB5.out hb6);clear hb6)|(go_at_call 170;refine (rdepth_c (some ad) c0 l0 (((j+1:Nat)):Int) _ (Kd.C_below HR0.out HB6.out) HC0.out (by omega) (by omega) (by omega)).mono ?_;rintro e w7 ⟨rfl,hb7⟩;have HB7:=Aside0.mk (below_step HB6.out hb7);clear hb7))
      refine ⟨⟨j+1,by omega,by go_num,⟨fun j' hj'=>?_⟩,HB7⟩,by simp [intOf];omega⟩
      rcases Nat.lt_or_ge j' j with h5|h5
      ·exact HN.out j' h5
      ·obtain rfl:j'=j:=by omega
       exact hT2
     ·rw [d5] at k3;have d6:x.f4=0:=Classical.byContradiction fun hc=>d4 ⟨d5,hc⟩;have e6:(x.f4 != 0)=false:=by rw [d6];rfl
      rw [d6] at k4;go_quiet ((go_at_call 167;exact Calls.quiet_of (rname_q _ _)))
      go_upto_region 10 with (go_at_call 60;refine (rget_c (some ad) c0 l0 x.f1 _ (Kd.C_below HR0.out (pw_below_drewN HB2.out _)) HC0.out (by omega)).mono ?_;rintro e w4 ⟨rfl,hb4⟩;have HB4:=Aside0.mk (below_step (pw_below_drewN HB2.out _) hb4);have BK4:=Aside0.mk (blk_below (blk_drewN BK.out _) hb4);clear hb4)
      clear k0 k1 k2 k3 k4 y0' HFJ BK HB2;have m1:w4.cell? ⟨g,1,none⟩=some (.int .u32 x.f1):=(blk_cell BK4.out 1).trans rfl;have m2:w4.cell? ⟨g,2,none⟩=some (.string x.f2):=(blk_cell BK4.out 2).trans rfl;have hrng:=getN_range l0 x.f1;by_cases n1:getN l0 x.f1<0
      ·have e1:decide (getN l0 x.f1<0)=true:=decide_eq_true n1;have hR:=HFF.out (by unfold bothN;rw [hT1,HX.out,HSJ.out];simp [n1])
       clear HFF HSJ;go_wp2_with (first|(go_at_call 168;refine (rkid_c (some ad) c0 l0 x.f1 x.f2 _ (Kd.C_below HR0.out HB4.out) HC0.out (by omega) (by omega)).mono ?_;rintro e w5 ⟨rfl,hb5⟩;have HB5:=Aside0.mk (below_step HB4.out hb5);have BK5:=Aside0.mk (blk_below BK4.out hb5);have m51:w5.cell? ⟨g,1,none⟩=some (.int .u32 x.f1):=(blk_cell BK5.out 1).trans rfl;clear hb5)|(go_at_call 169;refine (rkids_c (some ad) c0 l0 x.f1 _ (Kd.C_below HR0.out HB5.out) HC0.out (by omega) (by omega)).mono ?_;rintro e w6 ⟨rfl,hb6⟩;have HB6:=Aside0.mk (below_step HB5.out hb6);clear hb6)|(go_at_call 170;refine (rdepth_c (some ad) c0 l0 (((j+1:Nat)):Int) _ (Kd.C_below HR0.out HB6.out) HC0.out (by omega) (by omega) (by omega)).mono ?_;rintro e w7 ⟨rfl,hb7⟩;have HB7:=Aside0.mk (below_step HB6.out hb7);clear hb7))
       (try rw [hR])
       go_ret
       exact ⟨rfl,HB4.out⟩
      obtain ⟨P,hP⟩ : ∃ P:Nat,getN l0 x.f1=(P:Int):=⟨(getN l0 x.f1).toNat,by omega⟩
      rw [hP] at hrng n1;have HSJx:=Aside0.mk (HSJ.out x);rw [hP] at HSJx;rw [hP];clear HSJ hP;have HSJ:=HSJx;clear HSJx;have hP1:P<l0.length:=by omega
      have hP2:(P<l0.length)=True:=eq_true hP1;have eP:decide ((P:Int)<0)=false:=decide_eq_false (by omega)
      obtain ⟨_,_,_,u3,_⟩:=HCR.out P hP1;replace u3:=(HB4.out.cell (World.block_lt_of_cell? w _ u3)).trans u3;cases n2:(rd_T43 l0 (P:Int)).f3
      ·rw [n2] at u3;have hR:=HFF.out (by unfold bothN;rw [hT1,HX.out,HSJ.out];simp [n2])
       clear HFF HSJ;go_wp2_with (first|(go_at_call 168;refine (rkid_c (some ad) c0 l0 x.f1 x.f2 _ (Kd.C_below HR0.out HB4.out) HC0.out (by omega) (by omega)).mono ?_;rintro e w5 ⟨rfl,hb5⟩;have HB5:=Aside0.mk (below_step HB4.out hb5);have BK5:=Aside0.mk (blk_below BK4.out hb5);have m51:w5.cell? ⟨g,1,none⟩=some (.int .u32 x.f1):=(blk_cell BK5.out 1).trans rfl;clear hb5)|(go_at_call 169;refine (rkids_c (some ad) c0 l0 x.f1 _ (Kd.C_below HR0.out HB5.out) HC0.out (by omega) (by omega)).mono ?_;rintro e w6 ⟨rfl,hb6⟩;have HB6:=Aside0.mk (below_step HB5.out hb6);clear hb6)|(go_at_call 170;refine (rdepth_c (some ad) c0 l0 (((j+1:Nat)):Int) _ (Kd.C_below HR0.out HB6.out) HC0.out (by omega) (by omega) (by omega)).mono ?_;rintro e w7 ⟨rfl,hb7⟩;have HB7:=Aside0.mk (below_step HB6.out hb7);clear hb7))
       (try rw [hR])
       go_ret
       exact ⟨rfl,HB4.out⟩
      rw [n2] at u3;by_cases n3:kidN l0 x.f1 x.f2=((j+1:Nat):Int)
      rotate_left
      ·have e3:(kidN l0 x.f1 x.f2 != ((j+1:Nat):Int))=true:=bne_iff_ne.2 n3;have e3':(kidN l0 x.f1 x.f2 != (j:Int)+1)=true:=bne_iff_ne.2 (by omega)
       have hR:=HFF.out (by unfold bothN;rw [hT1,HX.out,HSJ.out,beq_eq_false_iff_ne.mpr n3];simp)
       clear HFF HSJ;go_wp2_with (first|(go_at_call 168;refine (rkid_c (some ad) c0 l0 x.f1 x.f2 _ (Kd.C_below HR0.out HB4.out) HC0.out (by omega) (by omega)).mono ?_;rintro e w5 ⟨rfl,hb5⟩;have HB5:=Aside0.mk (below_step HB4.out hb5);have BK5:=Aside0.mk (blk_below BK4.out hb5);have m51:w5.cell? ⟨g,1,none⟩=some (.int .u32 x.f1):=(blk_cell BK5.out 1).trans rfl;clear hb5)|(go_at_call 169;refine (rkids_c (some ad) c0 l0 x.f1 _ (Kd.C_below HR0.out HB5.out) HC0.out (by omega) (by omega)).mono ?_;rintro e w6 ⟨rfl,hb6⟩;have HB6:=Aside0.mk (below_step HB5.out hb6);clear hb6)|(go_at_call 170;refine (rdepth_c (some ad) c0 l0 (((j+1:Nat)):Int) _ (Kd.C_below HR0.out HB6.out) HC0.out (by omega) (by omega) (by omega)).mono ?_;rintro e w7 ⟨rfl,hb7⟩;have HB7:=Aside0.mk (below_step HB6.out hb7);clear hb7))
       (try rw [hR])
       go_ret
       exact ⟨rfl,HB5.out⟩
      have e3:(kidN l0 x.f1 x.f2 != ((j+1:Nat):Int))=false:=by rw [n3];exact bne_self_eq_false _
      have e3':(kidN l0 x.f1 x.f2 != (j:Int)+1)=false:=by rw [n3,show ((j+1:Nat):Int)=(j:Int)+1 by omega];exact bne_self_eq_false _
      have n3':=beq_iff_eq.mpr n3;have HN3:=Aside0.mk n3';clear n3 n3';by_cases n4:12<kidsN l0 x.f1
      ·have e4:decide ((12:Int)<(kidsN l0 x.f1:Nat))=true:=decide_eq_true (by omega)
       have hR:=HFF.out (by unfold bothN;rw [hT1,HX.out,HSJ.out];simp [Nat.not_le.mpr n4])
       clear HFF HSJ;go_wp2_with (first|(go_at_call 168;refine (rkid_c (some ad) c0 l0 x.f1 x.f2 _ (Kd.C_below HR0.out HB4.out) HC0.out (by omega) (by omega)).mono ?_;rintro e w5 ⟨rfl,hb5⟩;have HB5:=Aside0.mk (below_step HB4.out hb5);have BK5:=Aside0.mk (blk_below BK4.out hb5);have m51:w5.cell? ⟨g,1,none⟩=some (.int .u32 x.f1):=(blk_cell BK5.out 1).trans rfl;clear hb5)|(go_at_call 169;refine (rkids_c (some ad) c0 l0 x.f1 _ (Kd.C_below HR0.out HB5.out) HC0.out (by omega) (by omega)).mono ?_;rintro e w6 ⟨rfl,hb6⟩;have HB6:=Aside0.mk (below_step HB5.out hb6);clear hb6)|(go_at_call 170;refine (rdepth_c (some ad) c0 l0 (((j+1:Nat)):Int) _ (Kd.C_below HR0.out HB6.out) HC0.out (by omega) (by omega) (by omega)).mono ?_;rintro e w7 ⟨rfl,hb7⟩;have HB7:=Aside0.mk (below_step HB6.out hb7);clear hb7))
       (try rw [hR])
       go_ret
       exact ⟨rfl,HB6.out⟩
      have e4:decide ((12:Int)<(kidsN l0 x.f1:Nat))=false:=decide_eq_false (by omega)
      by_cases n5:6<depthN l0 8 ((j+1:Nat):Int) 0
      ·have e5:decide (6<depthN l0 8 ((j+1:Nat):Int) 0)=true:=decide_eq_true n5;have e5':decide (6<depthN l0 8 ((j:Int)+1) 0)=true:=e5;have hR:=HFF.out (by unfold bothN;rw [hT1,HX.out,HSJ.out,show decide (depthN l0 8 ((j+1:Nat):Int) 0>6)=true from e5];simp)
       clear HFF HSJ;go_wp2_with (first|(go_at_call 168;refine (rkid_c (some ad) c0 l0 x.f1 x.f2 _ (Kd.C_below HR0.out HB4.out) HC0.out (by omega) (by omega)).mono ?_;rintro e w5 ⟨rfl,hb5⟩;have HB5:=Aside0.mk (below_step HB4.out hb5);have BK5:=Aside0.mk (blk_below BK4.out hb5);have m51:w5.cell? ⟨g,1,none⟩=some (.int .u32 x.f1):=(blk_cell BK5.out 1).trans rfl;clear hb5)|(go_at_call 169;refine (rkids_c (some ad) c0 l0 x.f1 _ (Kd.C_below HR0.out HB5.out) HC0.out (by omega) (by omega)).mono ?_;rintro e w6 ⟨rfl,hb6⟩;have HB6:=Aside0.mk (below_step HB5.out hb6);clear hb6)|(go_at_call 170;refine (rdepth_c (some ad) c0 l0 (((j+1:Nat)):Int) _ (Kd.C_below HR0.out HB6.out) HC0.out (by omega) (by omega) (by omega)).mono ?_;rintro e w7 ⟨rfl,hb7⟩;have HB7:=Aside0.mk (below_step HB6.out hb7);clear hb7))
       (try rw [hR])
       go_ret
       exact ⟨rfl,HB7.out⟩
      have e5:decide (6<depthN l0 8 ((j+1:Nat):Int) 0)=false:=decide_eq_false n5;have e5':decide (6<depthN l0 8 ((j:Int)+1) 0)=false:=e5;have hT2:bothN l0 j=true:=by
       unfold bothN;rw [hT1,HX.out,HSJ.out,eP,n2,HN3.out,decide_eq_true (show kidsN l0 x.f1≤12 by omega)]
       rw [show decide (depthN l0 8 ((j+1:Nat):Int) 0>6)=false from e5]
       rfl
      clear HSJ HFF;go_wp2_with (first|(go_at_call 168;refine (rkid_c (some ad) c0 l0 x.f1 x.f2 _ (Kd.C_below HR0.out HB4.out) HC0.out (by omega) (by omega)).mono ?_;rintro e w5 ⟨rfl,hb5⟩;have HB5:=Aside0.mk (below_step HB4.out hb5);have BK5:=Aside0.mk (blk_below BK4.out hb5);have m51:w5.cell? ⟨g,1,none⟩=some (.int .u32 x.f1):=(blk_cell BK5.out 1).trans rfl;clear hb5)|(go_at_call 169;refine (rkids_c (some ad) c0 l0 x.f1 _ (Kd.C_below HR0.out HB5.out) HC0.out (by omega) (by omega)).mono ?_;rintro e w6 ⟨rfl,hb6⟩;have HB6:=Aside0.mk (below_step HB5.out hb6);clear hb6)|(go_at_call 170;refine (rdepth_c (some ad) c0 l0 (((j+1:Nat)):Int) _ (Kd.C_below HR0.out HB6.out) HC0.out (by omega) (by omega) (by omega)).mono ?_;rintro e w7 ⟨rfl,hb7⟩;have HB7:=Aside0.mk (below_step HB6.out hb7);clear hb7))
      refine ⟨⟨j+1,by omega,by go_num,⟨fun j' hj'=>?_⟩,HB7⟩,by simp [intOf];omega⟩
      rcases Nat.lt_or_ge j' j with h5|h5
      ·exact HN.out j' h5
      ·obtain rfl:j'=j:=by omega
       exact hT2
    ·have hlj:l0.length=j+1:=by omega
     have hT:rightN l0=true:=by
      rw [HF.out,hlj];exact List.all_eq_true.2 fun q hq=>HN.out q (by have:=List.mem_range.1 hq;omega)
     go_wp2_with (fail)
     (try rw [hT])
     go_ret
     exact ⟨rfl,HB.out⟩
 ·rw [if_neg hwf] at h;cases h
end Go.Proofs.YtikjfekagdcjmaaGreatDoor.Q
