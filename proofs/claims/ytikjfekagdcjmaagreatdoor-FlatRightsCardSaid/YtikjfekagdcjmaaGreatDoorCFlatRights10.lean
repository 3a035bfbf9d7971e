/- Contracts and plain theory behind FlatRights. -/
import Derived.Test.YtikjfekagdcjmaaGreatDoorCFlatRights2
import Derived.Test.YtikjfekagdcjmaaGreatDoorCFlatRights5
import Derived.Test.YtikjfekagdcjmaaGreatDoorCFlatRights8
import Derived.Test.YtikjfekagdcjmaaGreatDoorCFlatRights9
set_option linter.unusedVariables false
set_option linter.unusedSimpArgs false
set_option maxHeartbeats 16000000
set_option maxRecDepth 100000
namespace Go.Proofs.YtikjfekagdcjmaaGreatDoor.Q
open Go.RowKit Go.Proofs.YtikjfekagdcjmaaGreatDoorW.PrintWords Go.Proofs.YtikjfekagdcjmaaGreatDoorW.PrintLast Go.Proofs.YtikjfekagdcjmaaGreatDoorW.PrintMore
abbrev SI:=S43
abbrev vI (x:SI):Array Value:=#[.int .u32 x.f0,.int .u32 x.f1,.string x.f2,.bool x.f3,.int .u32 x.f4]
theorem rdI (l:List SI) (i:Nat) (h:i<l.length):rd_T43 l (i:Int)=l[i]:=by
 simp [rd_T43,List.getD_eq_getElem?_getD,List.getElem?_eq_getElem h]
theorem clo_body (x:B.T) (gn:Nat) (id:Int) (w:World) (h:w.cell? ⟨gn,0,none⟩=some (.int .u32 id)) :
  Calls Tryz.prog 187 #[.agg (B.v x),.pointer (some ⟨gn,0,none⟩)] w fun e w'=>e=.returned (.bool (x.f0 == id))∧Below w.heap.size w w':=by
 have HB:=Aside0.mk (below_alloc (Below.refl w.heap.size w) (.cells (B.v x) 87));have k1:(w.alloc (.cells (B.v x) 87)).cell? ⟨gn,0,none⟩=some (.int .u32 id):=Lib.cell?_alloc_some _ h;clear h;go_enter Tryz.func187,Tryz.ntmps187;go_wp2_with (fail)
 go_ret
 exact ⟨rfl,HB.out⟩
def bodyI (l:List B.T) (id:Int):Int:=idxL (fun x=>x.f0 == id) 0 l
theorem body_c (n:Int) (AT:Value) (AO:Value) (A3:Option Addr) (c3:Nat) (l:List B.T) (id:Int) (w:World) (hr:Kd.C k87 w A3 l.length l) (hl:l.length≤1000) (hT : ∃ A n c,AT=.slice A n c) (hO : ∃ A n c,AO=.slice A n c) :
  Calls Tryz.prog 114 #[.agg #[.int .u32 n,AT,AO,.slice A3 l.length c3],.int .u32 id] w fun e w'=>e=.returned (.int .i64 (bodyI l id))∧Below w.heap.size w w':=by
 obtain ⟨A1,n1,c1,rfl⟩:=hT;obtain ⟨A2,n2,c2,rfl⟩:=hO;have HB:=Aside0.mk (below_alloc (below_alloc (Below.refl w.heap.size w) (.cells #[.int .u32 n,.slice A1 n1 c1,.slice A2 n2 c2,.slice A3 l.length c3] 67)) (.cells #[.int .u32 id] 24));have BF:=Aside0.mk (blk_alloc (heap_alloc_new w (.cells #[.int .u32 n,.slice A1 n1 c1,.slice A2 n2 c2,.slice A3 l.length c3] 67)) (.cells #[.int .u32 id] 24));have BI:=Aside0.mk (heap_alloc_new (w.alloc (.cells #[.int .u32 n,.slice A1 n1 c1,.slice A2 n2 c2,.slice A3 l.length c3] 67)) (.cells #[.int .u32 id] 24));have hs:(w.alloc (.cells #[.int .u32 n,.slice A1 n1 c1,.slice A2 n2 c2,.slice A3 l.length c3] 67)).heap.size=w.heap.size+1:=by simp
 rw [hs] at BI;have HR:=Aside0.mk (Kd.C_alloc (Kd.C_alloc hr (.cells #[.int .u32 n,.slice A1 n1 c1,.slice A2 n2 c2,.slice A3 l.length c3] 67)) (.cells #[.int .u32 id] 24));clear hr hs;have hbi:bodyI l id=idxL (fun x=>x.f0 == id) 0 l:=rfl;have HBI:=Aside0.mk hbi;clear hbi;go_enter Tryz.func114,Tryz.ntmps114;go_upto_region 1 with (fail)
 generalize (w.alloc (.cells #[.int .u32 n,.slice A1 n1 c1,.slice A2 n2 c2,.slice A3 l.length c3] 67)).alloc (.cells #[.int .u32 id] 24)=w2 at BF BI HB HR ⊢;generalize w.heap.size+1=gi at BI ⊢;generalize w.heap.size=gf at BF ⊢;have f3:w2.cell? ⟨gf,3,none⟩=some (.slice A3 l.length c3):=(blk_cell BF.out 3).trans rfl;have HC:=Aside0.mk (B.idx A3 c3 l (fun x=>x.f0 == id) 187 #[.pointer (some ⟨gi,0,none⟩)] w2 (enters_of Tryz.func187 (by kernel_rfl) rfl) (fun W x hb=>clo_body x gi id W ((blk_cell (blk_below BI.out hb) 0).trans rfl)) HR.out hl)
 rw [← HBI.out] at HC;go_wp2_with (go_at_call 186;refine HC.out.mono ?_;rintro e w3 ⟨rfl,hb3⟩;have HB3:=Aside0.mk (below_step HB.out hb3);clear hb3)
 go_ret
 exact ⟨rfl,HB3.out⟩
def flat_body.f (a0_0:Int) (l0_1:List SI) (l0_2:List O.T) (l0_3:List B.T) (a1:Int):Option Int:=if l0_3.length≤1000 then some (bodyI l0_3 a1) else none
theorem flat_body.calls (a0_0:Int) (A0_1:Option Addr) (c0_1:Nat) (l0_1:List SI) (A0_2:Option Addr) (c0_2:Nat) (l0_2:List O.T) (A0_3:Option Addr) (c0_3:Nat) (l0_3:List B.T) (a1:Int) (r:Int) (w:World) (hr0_1:Kd.C k43 w A0_1 l0_1.length l0_1) (hc0_1:l0_1.length≤c0_1) (hr0_2:Kd.C k81 w A0_2 l0_2.length l0_2) (hc0_2:l0_2.length≤c0_2) (hr0_3:Kd.C k87 w A0_3 l0_3.length l0_3) (hc0_3:l0_3.length≤c0_3) (h:flat_body.f a0_0 l0_1 l0_2 l0_3 a1=some r) :
  Calls Tryz.prog 114 #[.agg #[.int .u32 a0_0,.slice A0_1 l0_1.length c0_1,.slice A0_2 l0_2.length c0_2,.slice A0_3 l0_3.length c0_3],.int .u32 a1] w fun e w'=>e=.returned (.int .i64 r)∧Below w.heap.size w w':=by
 unfold flat_body.f at h;by_cases hl:l0_3.length≤1000
 ·rw [if_pos hl] at h;cases h
  exact body_c a0_0 _ _ A0_3 c0_3 l0_3 a1 w hr0_3 hl ⟨_,_,_,rfl⟩ ⟨_,_,_,rfl⟩
 ·rw [if_neg hl] at h;cases h
def eqIB (x:SI) (y:B.T):Bool:=x.f0 == y.f0&&wrap64 x.f4 == (y.f1.size:Int)
theorem clo_eq (x:SI) (y:B.T) (w:World) :
  Calls Tryz.prog 118 #[.agg (vI x),.agg (B.v y)] w fun e w'=>e=.returned (.bool (eqIB x y))∧Below w.heap.size w w':=by
 have HB:=Aside0.mk (below_alloc (below_alloc (Below.refl w.heap.size w) (.cells (vI x) 43)) (.cells (B.v y) 87));have BX:=Aside0.mk (blk_alloc (heap_alloc_new w (.cells (vI x) 43)) (.cells (B.v y) 87));have BY:=Aside0.mk (heap_alloc_new (w.alloc (.cells (vI x) 43)) (.cells (B.v y) 87));have hs:(w.alloc (.cells (vI x) 43)).heap.size=w.heap.size+1:=by simp
 rw [hs] at BY;clear hs;have hq:eqIB x y=(x.f0 == y.f0&&wrap64 x.f4 == (y.f1.size:Int)):=rfl;have HQ:=Aside0.mk hq;clear hq;go_enter Tryz.func118,Tryz.ntmps118;go_upto_region 1 with (fail)
 generalize (w.alloc (.cells (vI x) 43)).alloc (.cells (B.v y) 87)=w2 at BX BY HB ⊢;generalize w.heap.size+1=gy at BY ⊢;generalize w.heap.size=gx at BX ⊢;have x0:w2.cell? ⟨gx,0,none⟩=some (.int .u32 x.f0):=(blk_cell BX.out 0).trans rfl;have x4:w2.cell? ⟨gx,4,none⟩=some (.int .u32 x.f4):=(blk_cell BX.out 4).trans rfl;have y0:w2.cell? ⟨gy,0,none⟩=some (.int .u32 y.f0):=(blk_cell BY.out 0).trans rfl;have y1:w2.cell? ⟨gy,1,none⟩=some (.string y.f1):=(blk_cell BY.out 1).trans rfl;by_cases h0:x.f0=y.f0
 ·have e0:(x.f0 == y.f0)=true:=beq_iff_eq.2 h0;have hr:=HQ.out;rw [e0,Bool.true_and] at hr;have HR:=Aside0.mk hr;clear HQ hr h0;go_wp2_with (fail)
  go_ret
  exact ⟨by rw [HR.out];rfl,HB.out⟩
 ·have e0:(x.f0 == y.f0)=false:=beq_eq_false_iff_ne.2 h0;have hr:=HQ.out;rw [e0,Bool.false_and] at hr;have HR:=Aside0.mk hr;clear HQ hr h0;go_wp2_with (fail)
  go_ret
  exact ⟨by rw [HR.out];rfl,HB.out⟩
def eqIBs:List SI→List B.T→Bool
 | [],[]=>true
 | x::xs,y::ys=>eqIB x y&&eqIBs xs ys
 | _,_=>false
theorem eqIBs_true : ∀ (xs:List SI) (ys:List B.T),xs.length=ys.length→(∀ j (h1:j<xs.length) (h2:j<ys.length),eqIB xs[j] ys[j]=true)→eqIBs xs ys=true
 | [],[],_,_=>rfl
 | [],_::_,h,_=>by simp at h
 | _::_,[],h,_=>by simp at h
 | x::xs,y::ys,h,hh=>by
  have h0:=hh 0 (by simp) (by simp)
  show (eqIB x y&&eqIBs xs ys)=true
  rw [eqIBs_true xs ys (by simpa using h) (fun j h1 h2=>hh (j+1) (by simpa using h1) (by simpa using h2)),show eqIB x y=true from h0]
  rfl
theorem eqIBs_false : ∀ (xs:List SI) (ys:List B.T) (j:Nat) (h1:j<xs.length) (h2:j<ys.length),eqIB xs[j] ys[j]=false→eqIBs xs ys=false
 | x::xs,y::ys,0,_,_,h=>by
  show (eqIB x y&&eqIBs xs ys)=false
  rw [show eqIB x y=false from h];rfl
 | x::xs,y::ys,j+1,h1,h2,h=>by
  show (eqIB x y&&eqIBs xs ys)=false
  rw [eqIBs_false xs ys j (by simpa using h1) (by simpa using h2) h,Bool.and_false]
theorem eqIBs_len : ∀ (xs:List SI) (ys:List B.T),eqIBs xs ys=true→xs.length=ys.length
 | [],[],_=>rfl
 | [],_::_,h=>by cases h
 | _::_,[],h=>by cases h
 | x::xs,y::ys,h=>by
  have h2:(eqIB x y&&eqIBs xs ys)=true:=h;rw [Bool.and_eq_true] at h2;simp [eqIBs_len xs ys h2.2]
theorem equal_c (A0:Option Addr) (c0:Nat) (l:List SI) (A1:Option Addr) (c1:Nat) (m:List B.T) (w:World) (hr0:Kd.C k43 w A0 l.length l) (hr1:Kd.C k87 w A1 m.length m) (hl:l.length≤1000) :
  Calls Tryz.prog 117 #[.slice A0 l.length c0,.slice A1 m.length c1,.func (.func 118) #[] #[]] w fun e w'=>e=.returned (.bool (eqIBs l m))∧Below w.heap.size w w':=by
 have HR0:=Aside0.mk hr0;have HR1:=Aside0.mk hr1;have HLE:=Aside0.mk (eqIBs_len l m);have HT:=Aside0.mk (eqIBs_true l m);have HF:=Aside0.mk (eqIBs_false l m);clear hr0 hr1;by_cases hlen:l.length=m.length
 rotate_left
 ·have hr:eqIBs l m=false:=by
   cases hq:eqIBs l m
   ·rfl
   ·exact absurd (HLE.out hq) hlen
  rw [hr];have e0:((l.length:Int) != (m.length:Int))=true:=bne_iff_ne.2 (by omega)
  clear hr hlen HT HF HLE;go_enter Tryz.func117,Tryz.ntmps117;go_wp2_with (fail)
  go_ret
  exact ⟨rfl,Below.refl _ _⟩
 have e0:((l.length:Int) != (m.length:Int))=false:=by rw [bne_eq_false_iff_eq];omega
 have HLM:=Aside0.mk hlen;clear hlen HLE;go_enter Tryz.func117,Tryz.ntmps117;go_wp2_with (fail)
 go_loopw [17] (fun v17 wr=>∃ i:Nat,i≤l.length∧v17=.int .i64 i∧Aside0 (∀ j (hj:j<i) (h1:j<l.length) (h2:j<m.length),eqIB l[j] m[j]=true)∧Aside0 (Below w.heap.size w wr)) (fun v17 _=>l.length-(intOf v17).toNat)
 case atStart=>exact ⟨0,Nat.zero_le _,rfl,⟨fun j hj=>absurd hj (Nat.not_lt_zero _)⟩,⟨Below.refl _ _⟩⟩
 case round =>
  clear e0;obtain ⟨i,hi,rfl,HN,HB⟩:=hrel;by_cases hlt:i<l.length
  ·have hltm:i<m.length:=by have:=HLM.out;omega
   obtain ⟨ad,e,x0,x1,x2,x3,x4⟩:=at_T43 (Kd.C_below HR0.out HB.out) (i:Int) (by omega) (by omega)
   cases e
   simp only [Int.toNat_natCast] at x0 x1 x2 x3 x4;have HX:=Aside0.mk (rdI l i hlt);have HY:=Aside0.mk (B.rdT m i hltm);generalize rd_T43 l (i:Int)=x at x0 x1 x2 x3 x4 HX;go_upto_region 6 with (fail)
   have BX:=Aside0.mk (heap_alloc_new wr (.cells (vI x) 43));have HB2:=Aside0.mk (below_alloc HB.out (.cells (vI x) 43));clear x0 x1 x2 x3 x4 HB;generalize wr.alloc (.cells (vI x) 43)=w2 at BX HB2 ⊢;generalize wr.heap.size=gx at BX ⊢;obtain ⟨ad1,e,y0,y1⟩:=at_T87 (Kd.C_below HR1.out HB2.out) (i:Int) (by omega) (by omega)
   cases e
   simp only [Int.toNat_natCast] at y0 y1;generalize rd_T87 m (i:Int)=y at y0 y1 HY;go_upto_region 7 with (fail)
   have BY:=Aside0.mk (heap_alloc_new w2 (.cells (B.v y) 87));have BX3:=Aside0.mk (blk_alloc BX.out (.cells (B.v y) 87));have HB3:=Aside0.mk (below_alloc HB2.out (.cells (B.v y) 87));clear y0 y1 HB2 BX;generalize w2.alloc (.cells (B.v y) 87)=w3 at BY BX3 HB3 ⊢;generalize w2.heap.size=gy at BY ⊢;have x0:w3.cell? ⟨gx,0,none⟩=some (.int .u32 x.f0):=(blk_cell BX3.out 0).trans rfl;have x1:w3.cell? ⟨gx,1,none⟩=some (.int .u32 x.f1):=(blk_cell BX3.out 1).trans rfl;have x2:w3.cell? ⟨gx,2,none⟩=some (.string x.f2):=(blk_cell BX3.out 2).trans rfl;have x3:w3.cell? ⟨gx,3,none⟩=some (.bool x.f3):=(blk_cell BX3.out 3).trans rfl;have x4:w3.cell? ⟨gx,4,none⟩=some (.int .u32 x.f4):=(blk_cell BX3.out 4).trans rfl;have y0:w3.cell? ⟨gy,0,none⟩=some (.int .u32 y.f0):=(blk_cell BY.out 0).trans rfl;have y1:w3.cell? ⟨gy,1,none⟩=some (.string y.f1):=(blk_cell BY.out 1).trans rfl;have HC:=Aside0.mk (clo_eq x y w3);cases hq:eqIB x y with
   | true =>
    have HC2:=HC.out;rw [hq] at HC2;have HQ:=Aside0.mk hq;have HC3:=Aside0.mk HC2;clear hq HC HC2;go_wp2_with (go_at_call 118;refine HC3.out.mono ?_;rintro e w4 ⟨rfl,hb4⟩;have HB4:=Aside0.mk (below_step HB3.out hb4);clear hb4)
    have HN2:Aside0 (∀ j (hj:j<i+1) (h1:j<l.length) (h2:j<m.length),eqIB l[j] m[j]=true):=⟨fun j hj h1 h2=>by
     rcases Nat.lt_or_ge j i with h5|h5
     ·exact HN.out j h5 h1 h2
     ·obtain rfl:j=i:=by omega
      rw [← HX.out,← HY.out];exact HQ.out⟩
    go_roundw
    case rel =>
     first|exact ⟨i+1,by omega,by go_num,HN2,HB4⟩|(refine ⟨_,_,_,_,_,_,_,_,_,_,_,_,_,_,_,_,_,_,_,_,?hrel2,rfl⟩;exact ⟨i+1,by omega,by go_num,HN2,HB4⟩)
    case measure=>simp [intOf];omega
   | false =>
    have HC2:=HC.out;rw [hq] at HC2;have HQ:=Aside0.mk hq;have HC3:=Aside0.mk HC2;clear hq HC HC2;go_wp2_with (go_at_call 118;refine HC3.out.mono ?_;rintro e w4 ⟨rfl,hb4⟩;have HB4:=Aside0.mk (below_step HB3.out hb4);clear hb4)
    go_ret
    exact ⟨by rw [HF.out i hlt hltm (by rw [← HX.out,← HY.out];exact HQ.out)];rfl,HB4.out⟩
  ·obtain rfl:i=l.length:=by omega
   go_wp2_with (fail)
   go_ret
   exact ⟨by rw [HT.out HLM.out (fun j h1 h2=>HN.out j h1 h1 h2)];rfl,HB.out⟩
def flat_eq.f (l:List SI) (m:List B.T):Option Bool:=if l.length≤1000 then some (eqIBs l m) else none
theorem flat_eq.calls (A0:Option Addr) (c0:Nat) (l0:List SI) (A1:Option Addr) (c1:Nat) (l1:List B.T) (r:Bool) (w:World) (hr0:Kd.C k43 w A0 l0.length l0) (hc0:l0.length≤c0) (hr1:Kd.C k87 w A1 l1.length l1) (hc1:l1.length≤c1) (h:flat_eq.f l0 l1=some r) :
  Calls Tryz.prog 117 #[.slice A0 l0.length c0,.slice A1 l1.length c1,.func (.func 118) #[] #[]] w fun e w'=>e=.returned (.bool r)∧Below w.heap.size w w':=by
 unfold flat_eq.f at h;by_cases hl:l0.length≤1000
 ·rw [if_pos hl] at h;cases h
  exact equal_c A0 c0 l0 A1 c1 l1 w hr0 hr1 hl
 ·rw [if_neg hl] at h;cases h
def badO (m:List B.T) (o:O.T):Bool:=decide (bodyI m o.f2<0)||decide (4≤o.f1)
theorem clo_bad (n:Int) (A1:Option Addr) (n1 c1:Nat) (A2:Option Addr) (n2 c2:Nat) (A3:Option Addr) (c3:Nat) (m:List B.T) (o:O.T) (gf:Nat) (w:World) (h:w.heap[gf]?=some (.cells #[.int .u32 n,.slice A1 n1 c1,.slice A2 n2 c2,.slice A3 m.length c3] 67 (0,0))) (hr:Kd.C k87 w A3 m.length m) (hm:m.length≤1000) :
  Calls Tryz.prog 120 #[.agg (O.v o),.pointer (some ⟨gf,0,none⟩)] w fun e w'=>e=.returned (.bool (badO m o))∧Below w.heap.size w w':=by
 have HB:=Aside0.mk (below_alloc (Below.refl w.heap.size w) (.cells (O.v o) 81));have BO:=Aside0.mk (heap_alloc_new w (.cells (O.v o) 81));have BF:=Aside0.mk (blk_alloc h (.cells (O.v o) 81));have HR:=Aside0.mk (Kd.C_alloc hr (.cells (O.v o) 81));have hq:badO m o=(decide (bodyI m o.f2<0)||decide (4≤o.f1)):=rfl
 have HQ:=Aside0.mk hq;clear h hr hq;go_enter Tryz.func120,Tryz.ntmps120;go_upto_region 1 with (fail)
 generalize w.alloc (.cells (O.v o) 81)=w2 at BO BF HB HR ⊢;generalize w.heap.size=go_ at BO ⊢;have o1:w2.cell? ⟨go_,1,none⟩=some (.int .u32 o.f1):=(blk_cell BO.out 1).trans rfl;have o2:w2.cell? ⟨go_,2,none⟩=some (.int .u32 o.f2):=(blk_cell BO.out 2).trans rfl;have f0:w2.cell? ⟨gf,0,none⟩=some (.int .u32 n):=(blk_cell BF.out 0).trans rfl;have f1:w2.cell? ⟨gf,1,none⟩=some (.slice A1 n1 c1):=(blk_cell BF.out 1).trans rfl;have f2:w2.cell? ⟨gf,2,none⟩=some (.slice A2 n2 c2):=(blk_cell BF.out 2).trans rfl;have f3:w2.cell? ⟨gf,3,none⟩=some (.slice A3 m.length c3):=(blk_cell BF.out 3).trans rfl;have HC:=Aside0.mk (body_c n (.slice A1 n1 c1) (.slice A2 n2 c2) A3 c3 m o.f2 w2 HR.out hm ⟨_,_,_,rfl⟩ ⟨_,_,_,rfl⟩);generalize bodyI m o.f2=b at HC HQ;by_cases hb:b<0
 ·have eb:decide (b<0)=true:=decide_eq_true hb;have hr:=HQ.out;rw [eb,Bool.true_or] at hr;have HR2:=Aside0.mk hr;clear hb hr HQ;go_wp2_with (go_at_call 114;refine HC.out.mono ?_;rintro e w3 ⟨rfl,hb3⟩;have HB3:=Aside0.mk (below_step HB.out hb3);clear hb3)
  go_ret
  exact ⟨by rw [HR2.out];rfl,HB3.out⟩
 ·have eb:decide (b<0)=false:=decide_eq_false hb;have hr:=HQ.out;rw [eb,Bool.false_or] at hr;have HR2:=Aside0.mk hr;clear hb hr HQ;go_wp2_with (go_at_call 114;refine HC.out.mono ?_;rintro e w3 ⟨rfl,hb3⟩;have HB3:=Aside0.mk (below_step HB.out hb3);have o13:w3.cell? ⟨go_,1,none⟩=some (.int .u32 o.f1):=(blk_cell (blk_below BO.out hb3) 1).trans rfl;clear hb3)
  go_ret
  exact ⟨by rw [HR2.out];rfl,HB3.out⟩
def flat_bad.f (l:List O.T) (n:Int) (lt:List SI) (lo:List O.T) (m:List B.T):Option Bool:=if l.length≤1000∧m.length≤1000 then some (l.any (badO m)) else none
theorem flat_bad.calls (A0:Option Addr) (c0:Nat) (l0:List O.T) (a1_0:Int) (A1_1:Option Addr) (c1_1:Nat) (l1_1:List SI) (A1_2:Option Addr) (c1_2:Nat) (l1_2:List O.T) (A1_3:Option Addr) (c1_3:Nat) (l1_3:List B.T) (r:Bool) (w:World) (hr0:Kd.C k81 w A0 l0.length l0) (hc0:l0.length≤c0) (hr1_1:Kd.C k43 w A1_1 l1_1.length l1_1) (hc1_1:l1_1.length≤c1_1) (hr1_2:Kd.C k81 w A1_2 l1_2.length l1_2) (hc1_2:l1_2.length≤c1_2) (hr1_3:Kd.C k87 w A1_3 l1_3.length l1_3) (hc1_3:l1_3.length≤c1_3) (h:flat_bad.f l0 a1_0 l1_1 l1_2 l1_3=some r)
  {g:Nat} (hbox:w.heap[g]?=some (.cells #[.int .u32 a1_0,.slice A1_1 l1_1.length c1_1,.slice A1_2 l1_2.length c1_2,.slice A1_3 l1_3.length c1_3] 67 (0,0))) :
  Calls Tryz.prog 119 #[.slice A0 l0.length c0,.func (.func 120) #[] #[.pointer (some ⟨g,0,none⟩)]] w fun e w'=>e=.returned (.bool r)∧Below w.heap.size w w':=by
 unfold flat_bad.f at h;by_cases hl:l0.length≤1000∧l1_3.length≤1000
 ·rw [if_pos hl] at h;cases h
  exact O.has A0 c0 l0 (badO l1_3) 120 _ w (enters_of Tryz.func120 (by kernel_rfl) rfl) (fun W x hb=>clo_bad a1_0 A1_1 _ c1_1 A1_2 _ c1_2 A1_3 c1_3 l1_3 x g W (blk_below hbox hb) (Kd.C_below hr1_3 hb) hl.2) hr0 hl.1
 ·rw [if_neg hl] at h;cases h
section
attribute [local go_sem] max2_int min2_int max_two min_two max_three min_three max_four min_four
mutual
def flat_Right.j0:Nat→Bool→Int→List (S43)→List (S81)→List (S87)→Option (Bool)
 | 0,_,_,_,_,_=>none
 | k+1,x30,x140000,x140001,x140002,x140003=>if x30=true then (some false) else (flat_Right.l0 k ([]:List (S43)) x140001 (x140001.length:Int) 0 x140000 x140001 x140002 x140003)
def flat_Right.l0:Nat→List (S43)→List (S43)→Int→Int→Int→List (S43)→List (S81)→List (S87)→Option (Bool)
 | 0,_,_,_,_,_,_,_,_=>none
 | k+1,x3,x32,x33,x34,x140000,x140001,x140002,x140003=>if x34<x33 then (if 0≤x34 then (if x34<(x32.length:Int) then (if ((rd_T43 x32 x34).f3=true) then (flat_Right.l0 k x3 x32 x33 (wrap64 (x34+1)) x140000 x140001 x140002 x140003) else (if x3.length<4398046511104 then (flat_Right.l0 k (x3++[(⟨(rd_T43 x32 x34).f0,(rd_T43 x32 x34).f1,(rd_T43 x32 x34).f2,(rd_T43 x32 x34).f3,(rd_T43 x32 x34).f4⟩:S43)]) x32 x33 (wrap64 (x34+1)) x140000 x140001 x140002 x140003) else (none))) else (none)) else (none)) else ((flat_eq.f x3 x140003).bind fun t148=>(if t148=true then ((flat_bad.f x140002 x140000 x140001 x140002 x140003).bind fun t149=>(some (!t149))) else (some false)))
end
def flat_Right.f (k:Nat) (a0_0:Int) (l0_1:List (S43)) (l0_2:List (S81)) (l0_3:List (S87)):Option (Bool):=(tree_Right.f l0_1).bind fun t140=>(if t140=true then ((share_Right.f k l0_2).bind fun t141=>(if t141=true then (if 0≤(wrap64 ((l0_1.length:Int)-1)) then (if (wrap64 ((l0_1.length:Int)-1))<(l0_1.length:Int) then (flat_Right.j0 k (decide (((rd_T43 l0_1 (wrap64 ((l0_1.length:Int)-1))).f0)≥a0_0)) a0_0 l0_1 l0_2 l0_3) else (none)) else (none)) else (flat_Right.j0 k true a0_0 l0_1 l0_2 l0_3))) else (flat_Right.j0 k true a0_0 l0_1 l0_2 l0_3))
def flat_Right.T1:Bool×List (List Nat×List Nat):=(true,[([],[]),([0],[0]),([1],[1]),([2],[2]),([3,2],[3]),([4],[4]),([5,4],[4,5]),([6,4,4],[4,6]),([7,4],[4,7]),([4,8],[4,8]),([9,7],[9]),([10],[10]),([11,10],[10,11]),([10],[10]),([13,10],[10,13]),([14,10],[10,14]),([15,10],[10,15]),([12,16,10],[10,12,16]),([17,10],[10,17]),([18,10],[10,18]),([10],[10]),([20,10],[10,20]),([19,21,10],[10,19,21]),([10,22],[10,22])])
def flat_Right.B1:List Nat:=[0,1,3,7,15,31,63,127,255,511,1023,2047,4095,2047,10239,26623,59391,131071,262143,524287,2047,1050623,4194303,8388607]
theorem flat_Right.tab1:rtab .any (opsOf Tryz.f37 1)=flat_Right.T1:=by kernel_rfl
theorem flat_Right.bits1:waitsOk flat_Right.T1.2 flat_Right.B1=true:=by kernel_rfl
theorem flat_Right.calls (k:Nat) (a0_0:Int) (A0_1:Option Addr) (c0_1:Nat) (l0_1:List (S43)) (A0_2:Option Addr) (c0_2:Nat) (l0_2:List (S81)) (A0_3:Option Addr) (c0_3:Nat) (l0_3:List (S87)) (r:Bool) (w:World) (hr0_1:Kd.C k43 w A0_1 l0_1.length l0_1) (hc0_1:l0_1.length≤c0_1) (hr0_2:Kd.C k81 w A0_2 l0_2.length l0_2) (hc0_2:l0_2.length≤c0_2) (hr0_3:Kd.C k87 w A0_3 l0_3.length l0_3) (hc0_3:l0_3.length≤c0_3) (h:flat_Right.f k a0_0 l0_1 l0_2 l0_3=some r) :
  Calls Tryz.prog 37 #[.agg #[.int .u32 a0_0,.slice A0_1 l0_1.length c0_1,.slice A0_2 l0_2.length c0_2,.slice A0_3 l0_3.length c0_3]] w fun e w'=>e=.returned (.bool r)∧Below w.heap.size w w':=by
 have hu67:=Tryz.underlying67;have hu43:=Tryz.underlying43;have HR0_1:=Aside0.mk hr0_1;have HC0_1:=Aside0.mk hc0_1;clear hr0_1 hc0_1;have HR0_2:=Aside0.mk hr0_2;have HC0_2:=Aside0.mk hc0_2;clear hr0_2 hc0_2;have HR0_3:=Aside0.mk hr0_3;have HC0_3:=Aside0.mk hc0_3;clear hr0_3 hc0_3;have HB:=Aside0.mk (Below.refl w.heap.size w);have H:((tree_Right.f l0_1).bind fun t140=>(if t140=true then ((share_Right.f k l0_2).bind fun t141=>(if t141=true then (if 0≤(wrap64 ((l0_1.length:Int)-1)) then (if (wrap64 ((l0_1.length:Int)-1))<(l0_1.length:Int) then (flat_Right.j0 k (decide (((rd_T43 l0_1 (wrap64 ((l0_1.length:Int)-1))).f0)≥a0_0)) a0_0 l0_1 l0_2 l0_3) else (none)) else (none)) else (flat_Right.j0 k true a0_0 l0_1 l0_2 l0_3))) else (flat_Right.j0 k true a0_0 l0_1 l0_2 l0_3)))=some r:=h
 clear h;have HC2:=Aside0.mk H;clear H;go_enter Tryz.func37,Tryz.ntmps37;go_upto_region 1 with (first|((with_reducible refine gate_dst (N:=1) rfl ?_);(try (refine gate_guard (by rfl) ?_;dsimp only));refine bx 1 #[.int .u32 a0_0,.slice A0_1 l0_1.length c0_1,.slice A0_2 l0_2.length c0_2,.slice A0_3 l0_3.length c0_3] 67 ?_;intro gb139 hg w3 hbox hb;have BK139:=Aside0.mk (hbox);have GW139:=Aside0.mk ((gG hg:w.heap.size≤gb139));have GE139:=Aside0.mk ((gG hg:w.heap.size≤gb139));replace HB:=Aside0.mk (below_step bD hb);clear hb hbox hg))
 (try simp only [Act.put,List.setIfInBounds_toArray,List.set_cons_zero,List.set_cons_succ])
 go_cut [30] (fun v30 wc=>∃ (kq:Nat) (x30_1:Bool),v30=.bool x30_1∧Aside0 (flat_Right.j0 kq x30_1 a0_0 l0_1 l0_2 l0_3=some r)∧Aside0 (kq≤k)∧Aside0 (wc.heap[gb139]?=some (.cells #[.int .u32 a0_0,(.slice A0_1 l0_1.length c0_1),(.slice A0_2 l0_2.length c0_2),(.slice A0_3 l0_3.length c0_3)] 67 (0,0)))∧Aside0 (Below w.heap.size w wc))
 case first =>
  have H:=HC2.out;clear HC2;replace H:=Option.bind_eq_some_iff.mp H;obtain ⟨t140,A40,H⟩:=H;replace H:(if t140=true then ((share_Right.f k l0_2).bind fun t141=>(if t141=true then (if 0≤(wrap64 ((l0_1.length:Int)-1)) then (if (wrap64 ((l0_1.length:Int)-1))<(l0_1.length:Int) then (flat_Right.j0 k (decide (((rd_T43 l0_1 (wrap64 ((l0_1.length:Int)-1))).f0)≥a0_0)) a0_0 l0_1 l0_2 l0_3) else (none)) else (none)) else (flat_Right.j0 k true a0_0 l0_1 l0_2 l0_3))) else (flat_Right.j0 k true a0_0 l0_1 l0_2 l0_3))=some r:=H
  have A4:=Aside0.mk A40;clear A40;by_cases c5:t140=true
  ·subst c5;replace H:=ifTT H;replace H:=Option.bind_eq_some_iff.mp H;obtain ⟨t141,A60,H⟩:=H;replace H:(if t141=true then (if 0≤(wrap64 ((l0_1.length:Int)-1)) then (if (wrap64 ((l0_1.length:Int)-1))<(l0_1.length:Int) then (flat_Right.j0 k (decide (((rd_T43 l0_1 (wrap64 ((l0_1.length:Int)-1))).f0)≥a0_0)) a0_0 l0_1 l0_2 l0_3) else (none)) else (none)) else (flat_Right.j0 k true a0_0 l0_1 l0_2 l0_3))=some r:=H
   have A6:=Aside0.mk A60;clear A60;by_cases c7:t141=true
   ·subst c7;replace H:=ifTT H;obtain ⟨ji8,hji8⟩ : ∃ j_:Int,(wrap64 ((l0_1.length:Int)-1))=j_:=⟨_,rfl⟩;replace H:(if 0≤(ji8) then (if (ji8)<(l0_1.length:Int) then (flat_Right.j0 k (decide (((rd_T43 l0_1 (ji8)).f0)≥a0_0)) a0_0 l0_1 l0_2 l0_3) else (none)) else (none))=some r:=by first|(rw [hji8] at H;exact H)|(simp only [hji8] at H ⊢;exact H)
    (try rw [hji8] at A4)
    (try rw [hji8] at A6)
    have hji8w:(IntKind.i64.wrap ((l0_1.length:Int)-1))=ji8:=(i64_w _).trans hji8;by_cases c9:0≤(ji8)
    ·rw [if_pos c9] at H;have c9b0:=decide_eq_true c9;clear c9
     (first|rw [c9b0]|(simp only [i64_w,i32_w];rw [c9b0])|skip)
     by_cases c10:(ji8)<(l0_1.length:Int)
     ·rw [if_pos c10] at H;have c10b0:=decide_eq_true c10;clear c10;have H':=Aside0.mk H;clear H;try go_wp2
      replace BK139:=Aside0.mk (blk_drew BK139.out);replace HB:=Aside0.mk (below_drew1 HB.out);have p142:0≤((ji8):Int):=pA;have q142:(ji8)<(l0_1.length:Int):=pA;obtain ⟨ad142,e142,hx142_0,hx142_1,hx142_2,hx142_3,hx142_4⟩:=at_T43 HR0_1.out (ji8) p142 q142;have hw142_4:=hx142_4;have hw142_3:=hx142_3;have hw142_2:=hx142_2;have hw142_1:=hx142_1;have hw142_0:=hx142_0;cases e142
      replace hx142_0:=cB hx142_0;replace hx142_1:=cB hx142_1;replace hx142_2:=cB hx142_2;replace hx142_3:=cB hx142_3;replace hx142_4:=cB hx142_4;replace p142:=eq_true p142;replace q142:=eq_true q142;refine rs 24 (fun w'=>w'.cell? ⟨gb139,0,none⟩=some (.int .u32 a0_0)∧w'.cell? ⟨gb139,1,none⟩=some (.slice (some ad142) l0_1.length c0_1)∧w'.cell? ⟨gb139,2,none⟩=some (.slice A0_2 l0_2.length c0_2)∧w'.cell? ⟨gb139,3,none⟩=some (.slice A0_3 l0_3.length c0_3)∧w'.cell? (ad142.add (((ji8)).toNat*5))=some (.int .u32 ((rd_T43 l0_1 (ji8)).f0))∧w'.cell? ⟨(ad142.add (((ji8)).toNat*5)).block,(ad142.add (((ji8)).toNat*5)).off+1,none⟩=some (.int .u32 ((rd_T43 l0_1 (ji8)).f1))∧w'.cell? ⟨(ad142.add (((ji8)).toNat*5)).block,(ad142.add (((ji8)).toNat*5)).off+2,none⟩=some (.string ((rd_T43 l0_1 (ji8)).f2))∧w'.cell? ⟨(ad142.add (((ji8)).toNat*5)).block,(ad142.add (((ji8)).toNat*5)).off+3,none⟩=some (.bool ((rd_T43 l0_1 (ji8)).f3))∧w'.cell? ⟨(ad142.add (((ji8)).toNat*5)).block,(ad142.add (((ji8)).toNat*5)).off+4,none⟩=some (.int .u32 ((rd_T43 l0_1 (ji8)).f4))) [] ⟨(blk_cell BK139.out 0).trans rfl,(blk_cell BK139.out 1).trans rfl,(blk_cell BK139.out 2).trans rfl,(blk_cell BK139.out 3).trans rfl,((HB.out.cell (bl hw142_0)).trans hw142_0),((HB.out.cell (bl hw142_1)).trans hw142_1),((HB.out.cell (bl hw142_2)).trans hw142_2),((HB.out.cell (bl hw142_3)).trans hw142_3),((HB.out.cell (bl hw142_4)).trans hw142_4)⟩ (fun hHeld=>?_);refine with_tabW flat_Right.tab1 flat_Right.bits1 (fun HT_ HW_=>?_);generalize w3.drew=w11 at BK139 HB hx142_0 hx142_1 hx142_2 hx142_3 hx142_4 hHeld ⊢;refine rp 0 (some 7) ?_;refine rt 1 (some 8) ?_;refine ro 2 (some 9) (fun K hK=>?_);refine cr Tryz.func115 #[.slice (some ad142) l0_1.length c0_1] ?_;with_reducible refine (tree_Right.calls _ _ l0_1 true _ ?side1 ?side2 A4.out).mono ?_
      (case side1=>exact cD)
      (case side2=>exact HC0_1.out)
      rintro e w12 ⟨rfl,hb⟩;refine ⟨_,rfl,?_⟩;replace BK139:=Aside0.mk (kb BK139 hb);replace HB:=Aside0.mk (below_step bD hb)
      (try clear hb)
      (try clear hb2)
      (try clear hk)
      (try clear hi)
      refine hK.out _ _ ⟨(blk_cell BK139.out 0).trans rfl,(blk_cell BK139.out 1).trans rfl,(blk_cell BK139.out 2).trans rfl,(blk_cell BK139.out 3).trans rfl,((HB.out.cell (bl hw142_0)).trans hw142_0),((HB.out.cell (bl hw142_1)).trans hw142_1),((HB.out.cell (bl hw142_2)).trans hw142_2),((HB.out.cell (bl hw142_3)).trans hw142_3),((HB.out.cell (bl hw142_4)).trans hw142_4)⟩ (fun hHeld=>?_);clear hK K;refine rn ?_;refine rp 3 (some 10) ?_;refine rp 4 (some 11) ?_;refine rp 5 (some 12) ?_;refine rt 6 (some 13) ?_;refine ro 7 (some 14) (fun K hK=>?_);refine cr Tryz.func116 #[.slice A0_2 l0_2.length c0_2] ?_;with_reducible refine (share_Right.calls k _ _ l0_2 true _ ?side1 ?side2 A6.out).mono ?_
      (case side1=>exact cD)
      (case side2=>exact HC0_2.out)
      rintro e w13 ⟨rfl,hb⟩;refine ⟨_,rfl,?_⟩;replace BK139:=Aside0.mk (kb BK139 hb);replace HB:=Aside0.mk (below_step bD hb)
      (try clear hb)
      (try clear hb2)
      (try clear hk)
      (try clear hi)
      refine hK.out _ _ ⟨(blk_cell BK139.out 0).trans rfl,(blk_cell BK139.out 1).trans rfl,(blk_cell BK139.out 2).trans rfl,(blk_cell BK139.out 3).trans rfl,((HB.out.cell (bl hw142_0)).trans hw142_0),((HB.out.cell (bl hw142_1)).trans hw142_1),((HB.out.cell (bl hw142_2)).trans hw142_2),((HB.out.cell (bl hw142_3)).trans hw142_3),((HB.out.cell (bl hw142_4)).trans hw142_4)⟩ (fun hHeld=>?_);clear hK K;refine rn ?_;refine rp 8 (some 15) ?_;refine rp 9 (some 16) ?_;refine rp 10 (some 17) ?_;refine rp 11 (some 18) ?_;refine rp 13 (some 20) ?_;refine rp 20 (some 27) ?_;refine rt 12 (some 19) ?_;refine rt 14 (some 21) ?_;refine rp 15 (some 22) ?_;refine rp 16 (some 23) ?_;refine rp 17 (some 24) ?_;refine rp 18 (some 25) ?_;refine rt 19 (some 26) ?_;refine rt 21 (some 28) ?_;refine rp 22 (some 29) ?_;refine rp 23 (some 30) ?_;refine done_ (done_of HT_.out (by kernel_rfl)) ?_
      try go_wp2
      go_meet
      case rel=>exact ⟨_,(decide (((rd_T43 l0_1 (ji8)).f0)≥a0_0)),(by first|rfl|(simp;done)|(simp only [← hji8] <;> (first|rfl|simp))|(simp [*];done)),H',⟨by first|omega|exact Nat.le_refl _⟩,⟨kD⟩,⟨bD⟩⟩
     ·rw [if_neg c10] at H;exact absurd H (by simp)
    ·rw [if_neg c9] at H;exact absurd H (by simp)
   ·replace c7:=Bool.eq_false_iff.mpr c7;subst c7;replace H:=ifFF H;have H':=Aside0.mk H;clear H;try go_wp2
    replace BK139:=Aside0.mk (blk_drew BK139.out);replace HB:=Aside0.mk (below_drew1 HB.out);refine rs 24 (fun w'=>w'.cell? ⟨gb139,0,none⟩=some (.int .u32 a0_0)∧w'.cell? ⟨gb139,1,none⟩=some (.slice A0_1 l0_1.length c0_1)∧w'.cell? ⟨gb139,2,none⟩=some (.slice A0_2 l0_2.length c0_2)∧w'.cell? ⟨gb139,3,none⟩=some (.slice A0_3 l0_3.length c0_3)) [] ⟨(blk_cell BK139.out 0).trans rfl,(blk_cell BK139.out 1).trans rfl,(blk_cell BK139.out 2).trans rfl,(blk_cell BK139.out 3).trans rfl⟩ (fun hHeld=>?_);refine with_tabW flat_Right.tab1 flat_Right.bits1 (fun HT_ HW_=>?_);generalize w3.drew=w14 at BK139 HB hHeld ⊢;refine rp 0 (some 7) ?_;refine rt 1 (some 8) ?_;refine ro 2 (some 9) (fun K hK=>?_);refine cr Tryz.func115 #[.slice A0_1 l0_1.length c0_1] ?_;with_reducible refine (tree_Right.calls _ _ l0_1 true _ ?side1 ?side2 A4.out).mono ?_
    (case side1=>exact cD)
    (case side2=>exact HC0_1.out)
    rintro e w15 ⟨rfl,hb⟩;refine ⟨_,rfl,?_⟩;replace BK139:=Aside0.mk (kb BK139 hb);replace HB:=Aside0.mk (below_step bD hb)
    (try clear hb)
    (try clear hb2)
    (try clear hk)
    (try clear hi)
    refine hK.out _ _ ⟨(blk_cell BK139.out 0).trans rfl,(blk_cell BK139.out 1).trans rfl,(blk_cell BK139.out 2).trans rfl,(blk_cell BK139.out 3).trans rfl⟩ (fun hHeld=>?_);clear hK K;refine rn ?_;refine rp 3 (some 10) ?_;refine rp 4 (some 11) ?_;refine rp 5 (some 12) ?_;refine rt 6 (some 13) ?_;refine ro 7 (some 14) (fun K hK=>?_);refine cr Tryz.func116 #[.slice A0_2 l0_2.length c0_2] ?_;with_reducible refine (share_Right.calls k _ _ l0_2 false _ ?side1 ?side2 A6.out).mono ?_
    (case side1=>exact cD)
    (case side2=>exact HC0_2.out)
    rintro e w16 ⟨rfl,hb⟩;refine ⟨_,rfl,?_⟩;replace BK139:=Aside0.mk (kb BK139 hb);replace HB:=Aside0.mk (below_step bD hb)
    (try clear hb)
    (try clear hb2)
    (try clear hk)
    (try clear hi)
    refine hK.out _ _ ⟨(blk_cell BK139.out 0).trans rfl,(blk_cell BK139.out 1).trans rfl,(blk_cell BK139.out 2).trans rfl,(blk_cell BK139.out 3).trans rfl⟩ (fun hHeld=>?_);clear hK K;refine rn ?_;refine rp 8 (some 15) ?_;refine rp 9 (some 16) ?_;refine rp 10 (some 17) ?_;refine rx 11 (some 18) ?_;refine rx 12 (some 19) ?_;refine rx 13 (some 20) ?_;refine rx 14 (some 21) ?_;refine rx 15 (some 22) ?_;refine rx 16 (some 23) ?_;refine rx 17 (some 24) ?_;refine rx 18 (some 25) ?_;refine rx 19 (some 26) ?_;refine rx 20 (some 27) ?_;refine rx 21 (some 28) ?_;refine rx 22 (some 29) ?_;refine rp 23 (some 30) ?_;refine done_ (done_of HT_.out (by kernel_rfl)) ?_
    try go_wp2
    go_meet
    case rel=>exact ⟨_,(true),eS,H',⟨by first|omega|exact Nat.le_refl _⟩,⟨kD⟩,⟨bD⟩⟩
  ·replace c5:=Bool.eq_false_iff.mpr c5;subst c5;replace H:=ifFF H;have H':=Aside0.mk H;clear H;try go_wp2
   replace BK139:=Aside0.mk (blk_drew BK139.out);replace HB:=Aside0.mk (below_drew1 HB.out);refine rs 24 (fun w'=>w'.cell? ⟨gb139,0,none⟩=some (.int .u32 a0_0)∧w'.cell? ⟨gb139,1,none⟩=some (.slice A0_1 l0_1.length c0_1)∧w'.cell? ⟨gb139,2,none⟩=some (.slice A0_2 l0_2.length c0_2)∧w'.cell? ⟨gb139,3,none⟩=some (.slice A0_3 l0_3.length c0_3)) [] ⟨(blk_cell BK139.out 0).trans rfl,(blk_cell BK139.out 1).trans rfl,(blk_cell BK139.out 2).trans rfl,(blk_cell BK139.out 3).trans rfl⟩ (fun hHeld=>?_);refine with_tabW flat_Right.tab1 flat_Right.bits1 (fun HT_ HW_=>?_);generalize w3.drew=w17 at BK139 HB hHeld ⊢;refine rp 0 (some 7) ?_;refine rt 1 (some 8) ?_;refine ro 2 (some 9) (fun K hK=>?_);refine cr Tryz.func115 #[.slice A0_1 l0_1.length c0_1] ?_;with_reducible refine (tree_Right.calls _ _ l0_1 false _ ?side1 ?side2 A4.out).mono ?_
   (case side1=>exact cD)
   (case side2=>exact HC0_1.out)
   rintro e w18 ⟨rfl,hb⟩;refine ⟨_,rfl,?_⟩;replace BK139:=Aside0.mk (kb BK139 hb);replace HB:=Aside0.mk (below_step bD hb)
   (try clear hb)
   (try clear hb2)
   (try clear hk)
   (try clear hi)
   refine hK.out _ _ ⟨(blk_cell BK139.out 0).trans rfl,(blk_cell BK139.out 1).trans rfl,(blk_cell BK139.out 2).trans rfl,(blk_cell BK139.out 3).trans rfl⟩ (fun hHeld=>?_);clear hK K;refine rn ?_;refine rp 3 (some 10) ?_;refine rp 4 (some 11) ?_;refine rx 5 (some 12) ?_;refine rx 6 (some 13) ?_;refine rx 7 (some 14) ?_;refine rx 8 (some 15) ?_;refine rp 9 (some 16) ?_;refine rp 10 (some 17) ?_;refine rx 11 (some 18) ?_;refine rx 12 (some 19) ?_;refine rx 13 (some 20) ?_;refine rx 14 (some 21) ?_;refine rx 15 (some 22) ?_;refine rx 16 (some 23) ?_;refine rx 17 (some 24) ?_;refine rx 18 (some 25) ?_;refine rx 19 (some 26) ?_;refine rx 20 (some 27) ?_;refine rx 21 (some 28) ?_;refine rx 22 (some 29) ?_;refine rp 23 (some 30) ?_;refine done_ (done_of HT_.out (by kernel_rfl)) ?_
   try go_wp2
   go_meet
   case rel=>exact ⟨_,(true),eS,H',⟨by first|omega|exact Nat.le_refl _⟩,⟨kD⟩,⟨bD⟩⟩
 case rest =>
  clear HC2
  (try clear c1;try clear p2;try clear c5;try clear c7;try clear c9;try clear c10;try clear c11)
  obtain ⟨kq,x30_1,rfl,HA,HJ1,BK139,HB⟩:=hcut;cases kq with
  | zero=>exact absurd HA.out (by simp [flat_Right.j0])
  | succ kj1 =>
   have H:=HA.out;clear HA;simp only [flat_Right.j0] at H;by_cases c19:x30_1=true
   ·subst c19;replace H:=ifTT H;obtain rfl:=Option.some.inj H;go_wp2
    go_ret
    exact ⟨eE,bD⟩
   ·replace c19:=Bool.eq_false_iff.mpr c19;subst c19;replace H:=ifFF H;have H':=Aside0.mk H;clear H;obtain ⟨hcz20_0,hcz20_1,hcz20_2,hcz20_3⟩:=cc4 BK139.out;obtain ⟨hfz20_0,hfz20_1,hfz20_2,hfz20_3⟩:=ff4 BK139.out;go_wp2
    go_loopg [3,34] kj1 (fun kq v3 v34 w'=>∃ (x3_2:List (S43)) (x34_2:Int),v34=.int .i64 x34_2∧Aside0 (flat_Right.l0 kq x3_2 l0_1 (l0_1.length:Int) x34_2 a0_0 l0_1 l0_2 l0_3=some r)∧Aside0 (kq≤kj1)∧Aside0 (Kd.R k43 43 w' w.heap.size (fun _=>True) v3 x3_2)∧Aside0 (w'.heap[gb139]?=some (.cells #[.int .u32 a0_0,(.slice A0_1 l0_1.length c0_1),(.slice A0_2 l0_2.length c0_2),(.slice A0_3 l0_3.length c0_3)] 67 (0,0)))∧Aside0 (Below w.heap.size w w'))
    case atStart=>exact ⟨(([]:List (S43))),(0),eS,H',⟨Nat.le_refl _⟩,⟨by first|exact Kd.R_nil _ _ _ _ _|exact Kd.N_nil _ _ _ _ _|exact Kd.V_nil _ _ _ _ _|exact Kd.Q_nil _ _ _ _ _|exact Kd.S_nil _ _ _ _ _⟩,⟨kD⟩,⟨bD⟩⟩
    case round =>
     clear H'
     (try clear c1;try clear p2;try clear c5;try clear c7;try clear c9;try clear c10;try clear c11;try clear c19;try clear hcz20_0;try clear hcz20_1;try clear hcz20_2;try clear hcz20_3;try clear hfz20_0;try clear hfz20_1;try clear hfz20_2;try clear hfz20_3;try clear p2)
     obtain ⟨x3_2,x34_2,rfl,HA,HK2,HO_3,BK139,HB⟩:=hrel;cases gk with
     | zero=>exact absurd HA.out (by simp [flat_Right.l0])
     | succ k2 =>
      have H:=HA.out;clear HA;simp only [flat_Right.l0] at H;by_cases c21:x34_2<(l0_1.length:Int)
      ·rw [if_pos c21] at H;have c21b0:=decide_eq_true c21;clear c21;by_cases c22:0≤x34_2
       ·rw [if_pos c22] at H;have c22b0:=decide_eq_true c22;clear c22;by_cases c23:x34_2<(l0_1.length:Int)
        ·rw [if_pos c23] at H;have c23b0:=decide_eq_true c23;clear c23;obtain ⟨bq24,hbq24⟩ : ∃ b_:Bool,b_=((rd_T43 l0_1 x34_2).f3):=⟨_,rfl⟩;replace H:(if (bq24=true) then (flat_Right.l0 k2 x3_2 l0_1 (l0_1.length:Int) (wrap64 (x34_2+1)) a0_0 l0_1 l0_2 l0_3) else (if x3_2.length<4398046511104 then (flat_Right.l0 k2 (x3_2++[(⟨(rd_T43 l0_1 x34_2).f0,(rd_T43 l0_1 x34_2).f1,(rd_T43 l0_1 x34_2).f2,bq24,(rd_T43 l0_1 x34_2).f4⟩:S43)]) l0_1 (l0_1.length:Int) (wrap64 (x34_2+1)) a0_0 l0_1 l0_2 l0_3) else (none)))=some r:=by rw [← hbq24] at H;exact H
         have Nbq24:=Aside0.mk hbq24;clear hbq24;by_cases c25:(bq24=true)
         ·subst c25;replace H:=ifTT H;have H':=Aside0.mk H;clear H;have p143:0≤(x34_2:Int):=pA;have q143:x34_2<(l0_1.length:Int):=pA;obtain ⟨ad143,e143,hx143_0,hx143_1,hx143_2,hx143_3,hx143_4⟩:=at_T43 HR0_1.out x34_2 p143 q143
          (try rw [← Nbq24.out] at hx143_3)
          cases e143
          replace hx143_0:=cB hx143_0;replace hx143_1:=cB hx143_1;replace hx143_2:=cB hx143_2;replace hx143_3:=cB hx143_3;replace hx143_4:=cB hx143_4;replace p143:=eq_true p143;replace q143:=eq_true q143;go_wp2_with (first|((with_reducible refine gate_dst (N:=5) rfl ?_);(try (refine gate_guard (by rfl) ?_;dsimp only));refine bx 5 #[.int .u32 0,.int .u32 0,.string (⟨#[]⟩:ByteArray),.bool false,.int .u32 0] 43 ?_;intro gb144 hg w26 hbox hb;have n0_:=Aside0.mk (Kd.R_below (Kd.R_elderB (by (with_reducible repeat (first|apply Kd.R_alloc|apply Kd.R_drewN|apply Kd.R_drew));exact HO_3.out) gb144 (Nat.le_of_eq hg.symm)) hb);have n1_:=Aside0.mk (kb BK139 hb);have n2_:=Aside0.mk (below_step bD hb);have n3_:=Aside0.mk (hbox);have n4_:=Aside0.mk ((gG hg:w.heap.size≤gb144));have n5_:=Aside0.mk ((gG hg:w.heap.size≤gb144));have n6_:=Aside0.mk ((gN BK139 hg));have n7_:=Aside0.mk ((gN' BK139 hg));clear HO_3;clear BK139;clear HB;have HO_3:=n0_;have BK139:=n1_;have HB:=n2_;have BK144:=n3_;have GW144:=n4_;have GE144:=n5_;have NB139_144:=n6_;have NB144_139:=n7_;clear n0_ n1_ n2_ n3_ n4_ n5_ n6_ n7_;clear hb hbox hg;have hnb27:=NB144_139.out;have hnc27:=NB139_144.out;obtain ⟨hcz28_0,hcz28_1,hcz28_2,hcz28_3,hcz28_4⟩:=cc5 BK144.out;obtain ⟨hfz28_0,hfz28_1,hfz28_2,hfz28_3,hfz28_4⟩:=ff5 BK144.out))
          go_roundg k2
          case measure=>have:=HJ1.out;have:=HK2.out;omega
          case rel=>exact ⟨(x3_2),(wrap64 (x34_2+1)),eS,H',⟨by have:=HJ1.out;have:=HK2.out;omega⟩,⟨by (with_reducible repeat (first|apply Kd.R_alloc|apply Kd.R_drewN|apply Kd.R_drew));exact Kd.R_mono (Kd.R_far (p:=⟨gb144,4,none⟩) (Kd.R_far (p:=⟨gb144,3,none⟩) (Kd.R_far (p:=⟨gb144,2,none⟩) (Kd.R_far (p:=⟨gb144,1,none⟩) (Kd.R_far (p:=⟨gb144,0,none⟩) (Kd.R_mono HO_3.out (fun k_ hk=>(⟨hk,hk.2⟩:_∧k_≠gb144))) (fun _ hk=>hk.2) (.int .u32 ((rd_T43 l0_1 x34_2).f0))) (fun _ hk=>hk.2) (.int .u32 ((rd_T43 l0_1 x34_2).f1))) (fun _ hk=>hk.2) (.string ((rd_T43 l0_1 x34_2).f2))) (fun _ hk=>hk.2) (.bool true)) (fun _ hk=>hk.2) (.int .u32 ((rd_T43 l0_1 x34_2).f4))) (fun _ hk=>trivial)⟩,⟨kF⟩,⟨bD⟩⟩
         ·replace c25:=Bool.eq_false_iff.mpr c25;subst c25;replace H:=ifFF H;by_cases c29:x3_2.length<4398046511104
          ·rw [if_pos c29] at H;have LMc29:=Aside0.mk c29;clear c29;obtain ⟨y145,hy145⟩ : ∃ y_:List (S43),y_=(x3_2++[(⟨(rd_T43 l0_1 x34_2).f0,(rd_T43 l0_1 x34_2).f1,(rd_T43 l0_1 x34_2).f2,false,(rd_T43 l0_1 x34_2).f4⟩:S43)]):=⟨_,rfl⟩;replace H:(flat_Right.l0 k2 y145 l0_1 (l0_1.length:Int) (wrap64 (x34_2+1)) a0_0 l0_1 l0_2 l0_3)=some r:=by first|(rw [hy145];with_reducible exact H)|(have H2_:=(Option.bind_some _ _).symm.trans H;rw [hy145];with_reducible exact H2_)|(have H2_:=(Option.bind_some _ _).symm.trans H;with_reducible exact H2_)|with_reducible exact H|(rw [hy145];exact H)|exact H
           have Ny145:=Aside0.mk hy145;clear hy145;have H':=Aside0.mk H;clear H;have p143:0≤(x34_2:Int):=pA;have q143:x34_2<(l0_1.length:Int):=pA;obtain ⟨ad143,e143,hx143_0,hx143_1,hx143_2,hx143_3,hx143_4⟩:=at_T43 HR0_1.out x34_2 p143 q143
           (try rw [← Nbq24.out] at hx143_3)
           cases e143
           replace hx143_0:=cB hx143_0;replace hx143_1:=cB hx143_1;replace hx143_2:=cB hx143_2;replace hx143_3:=cB hx143_3;replace hx143_4:=cB hx143_4;replace p143:=eq_true p143;replace q143:=eq_true q143;go_wp2_with (first|((with_reducible refine gate_dst (N:=5) rfl ?_);(try (refine gate_guard (by rfl) ?_;dsimp only));refine bx 5 #[.int .u32 0,.int .u32 0,.string (⟨#[]⟩:ByteArray),.bool false,.int .u32 0] 43 ?_;intro gb144 hg w30 hbox hb;have n0_:=Aside0.mk (Kd.R_below (Kd.R_elderB (by (with_reducible repeat (first|apply Kd.R_alloc|apply Kd.R_drewN|apply Kd.R_drew));exact HO_3.out) gb144 (Nat.le_of_eq hg.symm)) hb);have n1_:=Aside0.mk (kb BK139 hb);have n2_:=Aside0.mk (below_step bD hb);have n3_:=Aside0.mk (hbox);have n4_:=Aside0.mk ((gG hg:w.heap.size≤gb144));have n5_:=Aside0.mk ((gG hg:w.heap.size≤gb144));have n6_:=Aside0.mk ((gN BK139 hg));have n7_:=Aside0.mk ((gN' BK139 hg));clear HO_3;clear BK139;clear HB;have HO_3:=n0_;have BK139:=n1_;have HB:=n2_;have BK144:=n3_;have GW144:=n4_;have GE144:=n5_;have NB139_144:=n6_;have NB144_139:=n7_;clear n0_ n1_ n2_ n3_ n4_ n5_ n6_ n7_;clear hb hbox hg;have hnb31:=NB144_139.out;have hnc31:=NB139_144.out;obtain ⟨hcz32_0,hcz32_1,hcz32_2,hcz32_3,hcz32_4⟩:=cc5 BK144.out;obtain ⟨hfz32_0,hfz32_1,hfz32_2,hfz32_3,hfz32_4⟩:=ff5 BK144.out)|((with_reducible refine gate_builtin (b:=.append) (xs:=#[.tmp 41,.tmp 43]) rfl ?_);(try (refine gate_guard (by rfl) ?_;dsimp only));at_builtin;refine Kd.R_append k43 (w0:=w) w.heap.size rfl (.tmp 41) (.tmp 43) 25 43 (.agg #[(.int .u32 0),(.int .u32 0),(.string ⟨#[]⟩),(.bool false),(.int .u32 0)]) 32 rfl Tryz.underlying25 info43 rfl (by decide) (by omega) u3 x3_2 (⟨(rd_T43 l0_1 x34_2).f0,(rd_T43 l0_1 x34_2).f1,(rd_T43 l0_1 x34_2).f2,false,(rd_T43 l0_1 x34_2).f4⟩:S43) [.int .u32 ((rd_T43 l0_1 x34_2).f0),.int .u32 ((rd_T43 l0_1 x34_2).f1),.string ((rd_T43 l0_1 x34_2).f2),.bool false,.int .u32 ((rd_T43 l0_1 x34_2).f4)] (fun k_=>k_≠gb144) (fun _=>False) rfl (by first|(go_simp;done)|(go_simp;rfl)) ?aP (fun _ hk=>hk.elim) ?aF ?aO ?aB ?aS ?aL ?_;(case aP=>exact k43_mkM _ _ _ (⟨(rd_T43 l0_1 x34_2).f0,(rd_T43 l0_1 x34_2).f1,(rd_T43 l0_1 x34_2).f2,false,(rd_T43 l0_1 x34_2).f4⟩:S43));(case aB=>exact bD);(case aF=>exact (fun k_ hk=>Kd.freshB (g:=gb144) (o:=.cells #[.int .u32 ((rd_T43 l0_1 x34_2).f0),.int .u32 ((rd_T43 l0_1 x34_2).f1),.string ((rd_T43 l0_1 x34_2).f2),.bool false,.int .u32 ((rd_T43 l0_1 x34_2).f4)] 43 (0,0)) p5 k_ hk));(case aO=>exact (by (with_reducible repeat (first|apply Kd.R_alloc|apply Kd.R_drewN|apply Kd.R_drew));exact Kd.R_mono (Kd.R_far (p:=⟨gb144,4,none⟩) (Kd.R_far (p:=⟨gb144,3,none⟩) (Kd.R_far (p:=⟨gb144,2,none⟩) (Kd.R_far (p:=⟨gb144,1,none⟩) (Kd.R_far (p:=⟨gb144,0,none⟩) (Kd.R_mono HO_3.out (fun k_ hk=>(⟨hk,hk.2⟩:_∧k_≠gb144))) (fun _ hk=>hk.2) (.int .u32 ((rd_T43 l0_1 x34_2).f0))) (fun _ hk=>hk.2) (.int .u32 ((rd_T43 l0_1 x34_2).f1))) (fun _ hk=>hk.2) (.string ((rd_T43 l0_1 x34_2).f2))) (fun _ hk=>hk.2) (.bool false)) (fun _ hk=>hk.2) (.int .u32 ((rd_T43 l0_1 x34_2).f4))) (fun _ hk=>hk.1.2)));(case aS=>exact (below_size bD));(case aL=>have:=LMc29.out;omega);intro v146 w33 ho hb hg hat;rw [← Ny145.out] at ho;have n0_:=Aside0.mk (blk_grown (g:=gb139) (o:=.cells #[.int .u32 a0_0,.slice (some ad143) l0_1.length c0_1,.slice A0_2 l0_2.length c0_2,.slice A0_3 l0_3.length c0_3] 67 (0,0)) kF hg (Kd.R_ne HO_3.out BK139.out (by decide)));have n1_:=Aside0.mk (blk_grown (g:=gb144) (o:=.cells #[.int .u32 ((rd_T43 l0_1 x34_2).f0),.int .u32 ((rd_T43 l0_1 x34_2).f1),.string ((rd_T43 l0_1 x34_2).f2),.bool false,.int .u32 ((rd_T43 l0_1 x34_2).f4)] 43 (0,0)) p5 hg (Kd.R_away HO_3.out (fun _ hk=>hk.2)));have n2_:=Aside0.mk (hb);have n3_:=Aside0.mk (ho);clear BK139;clear BK144;clear HB;clear HO_3;have BK139:=n0_;have BK144:=n1_;have HB:=n2_;have HO147:=n3_;clear n0_ n1_ n2_ n3_;clear ho hb hg hat))
           go_roundg k2
           case measure=>have:=HJ1.out;have:=HK2.out;omega
           case rel=>exact ⟨(y145),(wrap64 (x34_2+1)),eS,H',⟨by have:=HJ1.out;have:=HK2.out;omega⟩,⟨by (with_reducible repeat (first|apply Kd.R_alloc|apply Kd.R_drewN|apply Kd.R_drew));exact Kd.R_mono HO147.out (fun _ hk=>trivial)⟩,⟨kD⟩,⟨bD⟩⟩
          ·rw [if_neg c29] at H;exact absurd H (by simp)
        ·rw [if_neg c23] at H;exact absurd H (by simp)
       ·rw [if_neg c22] at H;exact absurd H (by simp)
      ·rw [if_neg c21] at H;have c21b0:=decide_eq_false c21;clear c21;replace H:=Option.bind_eq_some_iff.mp H;obtain ⟨t148,A340,H⟩:=H;replace H:(if t148=true then ((flat_bad.f l0_2 a0_0 l0_1 l0_2 l0_3).bind fun t149=>(some (!t149))) else (some false))=some r:=H
       have A34:=Aside0.mk A340;clear A340;by_cases c35:t148=true
       ·subst c35;replace H:=ifTT H;replace H:=Option.bind_eq_some_iff.mp H;obtain ⟨t149,A360,H⟩:=H;replace H:(some (!t149))=some r:=H;have A36:=Aside0.mk A360;clear A360;obtain rfl:=Option.some.inj H;obtain ⟨hcz37_0,hcz37_1,hcz37_2,hcz37_3⟩:=cc4 BK139.out;obtain ⟨hfz37_0,hfz37_1,hfz37_2,hfz37_3⟩:=ff4 BK139.out;obtain ⟨Ao38,co38,eo38⟩:=Kd.R_slice HO_3.out;subst eo38;go_wp2_with (first|((with_reducible refine gate_callee (f:=117) rfl ?_);refine ca (some 49) Tryz.func117 #[.slice Ao38 x3_2.length co38,.slice A0_3 l0_3.length c0_3,.func (.func 118) #[] #[]] ?_;(with_reducible refine (flat_eq.calls _ _ x3_2 _ _ l0_3 true _ ?side1 ?side2 ?side3 ?side4 A34.out).mono ?_);(case side1=>repeat (first|exact (Kd.R_reads' HO_3.out).2.2|(with_reducible refine Kd.C_alloc ?_ _)|(with_reducible refine Kd.C_drewN ?_ _)|(with_reducible refine Kd.C_drew ?_)));(case side2=>exact (Kd.R_reads' HO_3.out).2.1);(case side3=>exact cD);(case side4=>exact HC0_3.out);rintro e w39 ⟨rfl,hb⟩;refine ⟨_,rfl,?_⟩;have n0_:=Aside0.mk (Kd.R_below (by (with_reducible repeat (first|apply Kd.R_alloc|apply Kd.R_drewN|apply Kd.R_drew));exact HO_3.out) hb);have n1_:=Aside0.mk (kb BK139 hb);have n2_:=Aside0.mk (below_step bD hb);clear HO_3;clear BK139;clear HB;have HO_3:=n0_;have BK139:=n1_;have HB:=n2_;clear n0_ n1_ n2_;(try clear hb);(try clear hb2);(try clear hk);(try clear hi);obtain ⟨hcz40_0,hcz40_1,hcz40_2,hcz40_3⟩:=cc4 BK139.out;obtain ⟨hfz40_0,hfz40_1,hfz40_2,hfz40_3⟩:=ff4 BK139.out)|(go_at_call 119;(with_reducible refine (flat_bad.calls _ _ l0_2 a0_0 ?v0_ ?v1_ l0_1 ?v2_ ?v3_ l0_2 ?v4_ ?v5_ l0_3 t149 _ ?side1 ?side2 ?side3 ?side4 ?side5 ?side6 ?side7 ?side8 A36.out ?sideB).mono ?_);(case sideB=>first|exact BK139.out|exact blk_drewN BK139.out _|exact blk_drew BK139.out);(case side1=>exact cD);(case side2=>exact HC0_2.out);(case side3=>exact cD);(case side4=>exact HC0_1.out);(case side5=>exact cD);(case side6=>exact HC0_2.out);(case side7=>exact cD);(case side8=>exact HC0_3.out);rintro e w41 ⟨rfl,hb⟩;have n0_:=Aside0.mk (Kd.R_below (by (with_reducible repeat (first|apply Kd.R_alloc|apply Kd.R_drewN|apply Kd.R_drew));exact HO_3.out) hb);have n1_:=Aside0.mk (kb BK139 hb);have n2_:=Aside0.mk (below_step bD hb);clear HO_3;clear BK139;clear HB;have HO_3:=n0_;have BK139:=n1_;have HB:=n2_;clear n0_ n1_ n2_;(try clear hb);(try clear hb2);(try clear hk);(try clear hi)))
        go_ret
        exact ⟨eE,bD⟩
       ·replace c35:=Bool.eq_false_iff.mpr c35;subst c35;replace H:=ifFF H;obtain rfl:=Option.some.inj H;obtain ⟨hcz42_0,hcz42_1,hcz42_2,hcz42_3⟩:=cc4 BK139.out;obtain ⟨hfz42_0,hfz42_1,hfz42_2,hfz42_3⟩:=ff4 BK139.out;obtain ⟨Ao43,co43,eo43⟩:=Kd.R_slice HO_3.out;subst eo43;go_wp2_with (first|((with_reducible refine gate_callee (f:=117) rfl ?_);refine ca (some 49) Tryz.func117 #[.slice Ao43 x3_2.length co43,.slice A0_3 l0_3.length c0_3,.func (.func 118) #[] #[]] ?_;(with_reducible refine (flat_eq.calls _ _ x3_2 _ _ l0_3 false _ ?side1 ?side2 ?side3 ?side4 A34.out).mono ?_);(case side1=>repeat (first|exact (Kd.R_reads' HO_3.out).2.2|(with_reducible refine Kd.C_alloc ?_ _)|(with_reducible refine Kd.C_drewN ?_ _)|(with_reducible refine Kd.C_drew ?_)));(case side2=>exact (Kd.R_reads' HO_3.out).2.1);(case side3=>exact cD);(case side4=>exact HC0_3.out);rintro e w44 ⟨rfl,hb⟩;refine ⟨_,rfl,?_⟩;have n0_:=Aside0.mk (Kd.R_below (by (with_reducible repeat (first|apply Kd.R_alloc|apply Kd.R_drewN|apply Kd.R_drew));exact HO_3.out) hb);have n1_:=Aside0.mk (kb BK139 hb);have n2_:=Aside0.mk (below_step bD hb);clear HO_3;clear BK139;clear HB;have HO_3:=n0_;have BK139:=n1_;have HB:=n2_;clear n0_ n1_ n2_;(try clear hb);(try clear hb2);(try clear hk);(try clear hi)))
        go_ret
        exact ⟨eE,bD⟩
end
end Go.Proofs.YtikjfekagdcjmaaGreatDoor.Q
