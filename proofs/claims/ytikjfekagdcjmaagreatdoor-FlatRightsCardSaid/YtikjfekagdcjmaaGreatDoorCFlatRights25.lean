/- Contracts and plain theory behind FlatRights. -/
import Derived.Test.YtikjfekagdcjmaaGreatDoorCFlatRights13
import Derived.Test.YtikjfekagdcjmaaGreatDoorCFlatRights24
set_option linter.unusedVariables false
set_option linter.unusedSimpArgs false
set_option maxHeartbeats 16000000
set_option maxRecDepth 100000
namespace Go.Proofs.YtikjfekagdcjmaaGreatDoor.Q
open Go.RowKit Go.Proofs.YtikjfekagdcjmaaGreatDoorW.PrintWords Go.Proofs.YtikjfekagdcjmaaGreatDoorW.PrintLast Go.Proofs.YtikjfekagdcjmaaGreatDoorW.PrintMore
def sameI:List SI→List SI→Bool
 | [],[]=>true
 | x::xs,y::ys=>x.f0 == y.f0&&x.f1 == y.f1&&x.f2.data.toList == y.f2.data.toList&&x.f3 == y.f3&&x.f4 == y.f4&&sameI xs ys
 | _,_=>false
theorem sameI_eq : ∀ xs ys:List SI,sameI xs ys=true→xs=ys
 | [],[],_=>rfl
 | [],_::_,h=>by cases h
 | _::_,[],h=>by cases h
 | x::xs,y::ys,h=>by
  obtain ⟨x0,x1,⟨x2⟩,x3,x4⟩:=x;obtain ⟨y0,y1,⟨y2⟩,y3,y4⟩:=y;simp only [sameI,Bool.and_eq_true,beq_iff_eq] at h;obtain ⟨⟨⟨⟨⟨rfl,rfl⟩,h2⟩,rfl⟩,rfl⟩,h3⟩:=h;have:=Array.toList_inj.1 h2;subst this;rw [sameI_eq xs ys h3]
def sameO:List O.T→List O.T→Bool
 | [],[]=>true
 | x::xs,y::ys=>eqO x y&&sameO xs ys
 | _,_=>false
theorem sameO_eq : ∀ xs ys:List O.T,sameO xs ys=true→xs=ys
 | [],[],_=>rfl
 | [],_::_,h=>by cases h
 | _::_,[],h=>by cases h
 | x::xs,y::ys,h=>by
  obtain ⟨x0,x1,x2,x3,x4⟩:=x;obtain ⟨y0,y1,y2,y3,y4⟩:=y;simp only [sameO,eqO,Bool.and_eq_true,beq_iff_eq] at h;obtain ⟨⟨rfl,rfl,rfl,rfl,rfl⟩,h3⟩:=h;rw [sameO_eq xs ys h3]
def sameB:List B.T→List B.T→Bool
 | [],[]=>true
 | x::xs,y::ys=>x.f0 == y.f0&&x.f1.data.toList == y.f1.data.toList&&sameB xs ys
 | _,_=>false
theorem sameB_eq : ∀ xs ys:List B.T,sameB xs ys=true→xs=ys
 | [],[],_=>rfl
 | [],_::_,h=>by cases h
 | _::_,[],h=>by cases h
 | x::xs,y::ys,h=>by
  obtain ⟨x0,⟨x1⟩⟩:=x;obtain ⟨y0,⟨y1⟩⟩:=y;simp only [sameB,Bool.and_eq_true,beq_iff_eq] at h;obtain ⟨⟨rfl,h2⟩,h3⟩:=h;have:=Array.toList_inj.1 h2;subst this;rw [sameB_eq xs ys h3]
theorem do_of {o:Option DoT} {n:Int} {tl:List SI} {ol:List O.T} {bl:List B.T} {e m h:Int} {d:ByteArray} (hq:(match o with|some (n',t',o',b',e',m',d',h')=>n' == n&&sameI t' tl&&sameO o' ol&&sameB b' bl&&e' == e&&m' == m&&d'.data.toList == d.data.toList&&h' == h|none=>false)=true):o=some (n,tl,ol,bl,e,m,d,h):=by
 match o,hq with
 | some (n',t',o',b',e',m',⟨d'⟩,h'),hq =>
  obtain ⟨d⟩:=d;simp only [Bool.and_eq_true,beq_iff_eq] at hq;obtain ⟨⟨⟨⟨⟨⟨⟨rfl,h1⟩,h2⟩,h3⟩,rfl⟩,rfl⟩,h4⟩,rfl⟩:=hq;rw [sameI_eq _ _ h1,sameO_eq _ _ h2,sameB_eq _ _ h3,Array.toList_inj.1 h4]
theorem at_of {o:Option (ByteArray×Int)} {e:Int} {d:ByteArray} (hq:(match o with|some (d',e')=>d'.data.toList == d.data.toList&&e' == e|none=>false)=true):o=some (d,e):=by
 match o,hq with
 | some (⟨d'⟩,e'),hq =>
  obtain ⟨d⟩:=d;simp only [Bool.and_eq_true,beq_iff_eq] at hq;obtain ⟨h4,rfl⟩:=hq;rw [Array.toList_inj.1 h4]
def alT0:List SI:=[⟨1,0,⟨#[]⟩,true,0⟩]
def alO0:List O.T:=[]
def alB0:List B.T:=[]
def alT1:List SI:=[⟨1,0,⟨#[]⟩,true,0⟩,⟨2,1,⟨#[97]⟩,false,0⟩]
def alO1:List O.T:=[⟨1,0,2,3,0⟩]
def alB1:List B.T:=[⟨2,⟨#[]⟩⟩]
def alT2:List SI:=[⟨1,0,⟨#[]⟩,true,0⟩,⟨2,1,⟨#[97]⟩,false,3⟩]
def alB2:List B.T:=[⟨2,⟨#[0,0,120]⟩⟩]
theorem alF1:flat_Do.f 2 alT0 alO0 alB0 1 1 ⟨#[47,97]⟩ ⟨#[]⟩ 3 0 true 0 0 0 ⟨#[]⟩=some (3,alT1,alO1,alB1,0,0,⟨#[]⟩,0):=do_of (by kernel_rfl)
theorem alF2:flat_Do.f 3 alT1 alO1 alB1 1 4 ⟨#[]⟩ ⟨#[]⟩ 0 0 false 0 2 0 ⟨#[120]⟩=some (3,alT2,alO1,alB2,0,1,⟨#[]⟩,0):=do_of (by kernel_rfl)
theorem alF3:flat_At.f 60 3 alT2 alO1 alB2 ⟨#[47,97]⟩=some (⟨#[0,0,120]⟩,0):=at_of (by kernel_rfl)
theorem alF4:flat_Right.f 60 3 alT2 alO1 alB2=some true:=by kernel_rfl
def w19_alive.f:Option Bool:=some true
theorem w19_alive.calls (r:Bool) (w:World) (h:w19_alive.f=some r):Calls Tryz.prog 28 #[] w fun e w'=>e=.returned (.bool r)∧Below w.heap.size w w':=by
 obtain rfl:true=r:=Option.some.inj h;clear h;have hi67:Aside0 ((Tryz.prog.info? 67).map (·.size)=some 4):=⟨by kernel_rfl⟩
 have hi73:Aside0 ((Tryz.prog.info? 73).map (·.size)=some 3):=⟨by kernel_rfl⟩
 have hz67 : ∀ w,(zeroValue 67).run Tryz.prog w=.ok (.agg #[.int .u32 0,.slice none 0 0,.slice none 0 0,.slice none 0 0]) w:=fun w=>by kernel_rfl
 have hz73 : ∀ w,(zeroValue 73).run Tryz.prog w=.ok (.agg #[.int .i64 0,.int .i64 0,.string ⟨#[]⟩]) w:=fun w=>by kernel_rfl
 have hz69 : ∀ w,(zeroValue 69).run Tryz.prog w=.ok (.agg #[.int .i64 0,.string ⟨#[]⟩,.string ⟨#[]⟩,.int .u32 0,.int .u32 0,.bool false,.int .i64 0,.int .i64 0,.int .i64 0,.string ⟨#[]⟩]) w:=fun w=>by kernel_rfl
 have hu73:=Tryz.underlying73;go_enter Tryz.func28,Tryz.ntmps28;go_upto_region 2 with (first
  | (go_at_call 39;go_loud (refine (flat_Fresh.calls 2 alT0 alO0 alB0 _ rfl).mono ?_;rintro e w1 ⟨v1,v2,v3,rfl,hT,hO,hD,hb⟩;obtain ⟨A11,c11,rfl,-,-⟩:=R_open hT;obtain ⟨A12,c12,rfl,-,-⟩:=R_open hO;obtain ⟨A13,c13,rfl,-,-⟩:=R_open hD;have HT1:=Aside0.mk (Kd.R_reads' hT).2.2;have HO1:=Aside0.mk (Kd.R_reads' hO).2.2;have HD1:=Aside0.mk (Kd.R_reads' hD).2.2;have LT1:=Aside0.mk (Kd.R_reads' hT).2.1;have LO1:=Aside0.mk (Kd.R_reads' hO).2.1;have LD1:=Aside0.mk (Kd.R_reads' hD).2.1;have HB1:=Aside0.mk hb;clear hT hO hD hb))
  | (go_at_call 31;go_loud (refine (doby 2 A11 c11 alT0 A12 c12 alO0 A13 c13 alB0 1 1 ⟨#[47,97]⟩ ⟨#[]⟩ 3 0 true 0 0 0 ⟨#[]⟩ 3 alT1 alO1 alB1 0 0 ⟨#[]⟩ 0 w1 HT1.out LT1.out HO1.out LO1.out HD1.out LD1.out alF1 (fun hlo _ _=>fcheckn_c 1 1 ⟨#[47,97]⟩ ⟨#[]⟩ 3 0 true 0 0 0 ⟨#[]⟩ hlo (by decide)) (fun rt h0 h1 hd _ _ hov=>fact1k rt h0 h1 1 ⟨#[47,97]⟩ ⟨#[]⟩ 3 0 true 0 0 0 ⟨#[]⟩ hd hov)).mono ?_;rintro e w2 ⟨v1,v2,v3,rfl,hT,hO,hD,hb⟩;obtain ⟨A21,c21,rfl,-,-⟩:=R_open hT;obtain ⟨A22,c22,rfl,-,-⟩:=R_open hO;obtain ⟨A23,c23,rfl,-,-⟩:=R_open hD;have HT2:=Aside0.mk (Kd.R_reads' hT).2.2;have HO2:=Aside0.mk (Kd.R_reads' hO).2.2;have HD2:=Aside0.mk (Kd.R_reads' hD).2.2;have LT2:=Aside0.mk (Kd.R_reads' hT).2.1;have LO2:=Aside0.mk (Kd.R_reads' hO).2.1;have LD2:=Aside0.mk (Kd.R_reads' hD).2.1;have HB2:=Aside0.mk (below_step HB1.out hb);have BF:=Aside0.mk (blk_alloc (heap_alloc_new w2 (.cells #[.int .u32 0,.slice none 0 0,.slice none 0 0,.slice none 0 0] 67)) (.cells #[.int .i64 0,.int .i64 0,.string ⟨#[]⟩] 73));have BR:=Aside0.mk (heap_alloc_new (w2.alloc (.cells #[.int .u32 0,.slice none 0 0,.slice none 0 0,.slice none 0 0] 67)) (.cells #[.int .i64 0,.int .i64 0,.string ⟨#[]⟩] 73));have hs1:(w2.alloc (.cells #[.int .u32 0,.slice none 0 0,.slice none 0 0,.slice none 0 0] 67)).heap.size=w2.heap.size+1:=(by simp);rw [hs1] at BR;clear hs1 hT hO hD hb HB1 HT1 LT1 HO1 LO1 HD1 LD1))
  | (refine wpList_store_row rfl 67 (.tmp 1) (.tmp 13) rfl (w2.heap.size) #[.int .u32 3,.slice A21 alT1.length c21,.slice A22 alO1.length c22,.slice A23 alB1.length c23] rfl rfl 67 _ BF.out hi67.out rfl ?kone ?_;(case kone=>simp [Value.oneCell']))|(refine wpList_store_row rfl 73 (.tmp 2) (.tmp 14) rfl (w2.heap.size+1) #[.int .i64 0,.int .i64 0,.string ⟨#[]⟩] rfl rfl 73 _ ((setRow_other _ _ _ _ (by omega)).trans BR.out) hi73.out rfl ?kone ?_;(case kone=>simp [Value.oneCell'])))
 have HW2:=Aside0.mk HB2.out.size;have BFa:=Aside0.mk ((setRow_other _ (w2.heap.size+1) w2.heap.size #[.int .i64 0,.int .i64 0,.string ⟨#[]⟩] (by omega)).trans (setRow_heap _ _ _ #[.int .u32 3,.slice A21 alT1.length c21,.slice A22 alO1.length c22,.slice A23 alB1.length c23] _ _ BF.out))
 have BRa:=Aside0.mk (setRow_heap _ (w2.heap.size+1) _ #[.int .i64 0,.int .i64 0,.string ⟨#[]⟩] _ _ ((setRow_other _ w2.heap.size (w2.heap.size+1) #[.int .u32 3,.slice A21 alT1.length c21,.slice A22 alO1.length c22,.slice A23 alB1.length c23] (by omega)).trans BR.out))
 have HBa:=Aside0.mk (below_setRow (below_setRow (below_alloc (below_alloc (Below.refl w2.heap.size w2) (.cells #[.int .u32 0,.slice none 0 0,.slice none 0 0,.slice none 0 0] 67)) (.cells #[.int .i64 0,.int .i64 0,.string ⟨#[]⟩] 73)) (Nat.le_refl _) #[.int .u32 3,.slice A21 alT1.length c21,.slice A22 alO1.length c22,.slice A23 alB1.length c23]) (Nat.le_succ _) #[.int .i64 0,.int .i64 0,.string ⟨#[]⟩]);have HTa:=Aside0.mk (Kd.C_below HT2.out HBa.out);have HOa:=Aside0.mk (Kd.C_below HO2.out HBa.out);have HDa:=Aside0.mk (Kd.C_below HD2.out HBa.out);have HB3:=Aside0.mk (below_step HB2.out HBa.out);clear HBa HT2 HO2 HD2 HB2 BF BR;generalize (((w2.alloc (.cells #[.int .u32 0,.slice none 0 0,.slice none 0 0,.slice none 0 0] 67)).alloc (.cells #[.int .i64 0,.int .i64 0,.string ⟨#[]⟩] 73)).setRow w2.heap.size #[.int .u32 3,.slice A21 alT1.length c21,.slice A22 alO1.length c22,.slice A23 alB1.length c23]).setRow (w2.heap.size+1) #[.int .i64 0,.int .i64 0,.string ⟨#[]⟩]=w3 at BFa BRa HTa HOa HDa HB3 ⊢;generalize w2.heap.size+1=gq at BRa ⊢;generalize w2.heap.size=gp at BFa HW2 ⊢;have f0:w3.cell? ⟨gp,0,none⟩=some (.int .u32 3):=(blk_cell BFa.out 0).trans rfl;have f1:w3.cell? ⟨gp,1,none⟩=some (.slice A21 alT1.length c21):=(blk_cell BFa.out 1).trans rfl;have f2:w3.cell? ⟨gp,2,none⟩=some (.slice A22 alO1.length c22):=(blk_cell BFa.out 2).trans rfl;have f3:w3.cell? ⟨gp,3,none⟩=some (.slice A23 alB1.length c23):=(blk_cell BFa.out 3).trans rfl;go_upto_region 3 with (first
  | (go_at_call 31;refine (doby 3 A21 c21 alT1 A22 c22 alO1 A23 c23 alB1 1 4 ⟨#[]⟩ ⟨#[]⟩ 0 0 false 0 2 0 ⟨#[120]⟩ 3 alT2 alO1 alB2 0 1 ⟨#[]⟩ 0 w3 HTa.out LT2.out HOa.out LO2.out HDa.out LD2.out alF2 (fun hlo _ _=>fcheck4_c 1 ⟨#[]⟩ ⟨#[]⟩ 0 0 false 0 2 0 ⟨#[120]⟩ hlo) (fun rt h0 h1 hd _ _ hov=>fact4k rt h0 h1 1 ⟨#[]⟩ ⟨#[]⟩ 0 0 false 0 2 0 ⟨#[120]⟩ hd hov)).mono ?_;rintro e w4 ⟨v1,v2,v3,rfl,hT,hO,hD,hb⟩;obtain ⟨A41,c41,rfl,-,-⟩:=R_open hT;obtain ⟨A42,c42,rfl,-,-⟩:=R_open hO;obtain ⟨A43,c43,rfl,-,-⟩:=R_open hD;have HT4:=Aside0.mk (Kd.R_reads' hT).2.2;have HO4:=Aside0.mk (Kd.R_reads' hO).2.2;have HD4:=Aside0.mk (Kd.R_reads' hD).2.2;have LT4:=Aside0.mk (Kd.R_reads' hT).2.1;have LO4:=Aside0.mk (Kd.R_reads' hO).2.1;have LD4:=Aside0.mk (Kd.R_reads' hD).2.1;have HB4:=Aside0.mk (below_step HB3.out hb);have BRb:=Aside0.mk (blk_below BRa.out hb);have BF:=Aside0.mk (blk_alloc (heap_alloc_new w4 (.cells #[.int .u32 0,.slice none 0 0,.slice none 0 0,.slice none 0 0] 67)) (.cells #[.int .i64 0,.int .i64 0,.string ⟨#[]⟩] 73));have BR:=Aside0.mk (heap_alloc_new (w4.alloc (.cells #[.int .u32 0,.slice none 0 0,.slice none 0 0,.slice none 0 0] 67)) (.cells #[.int .i64 0,.int .i64 0,.string ⟨#[]⟩] 73));have hs1:(w4.alloc (.cells #[.int .u32 0,.slice none 0 0,.slice none 0 0,.slice none 0 0] 67)).heap.size=w4.heap.size+1:=(by simp);rw [hs1] at BR;clear hs1 hT hO hD hb HB3 HTa LT2 HOa LO2 HDa LD2 BRa BFa)
  | (refine wpList_store_row rfl 67 (.tmp 4) (.tmp 20) rfl (w4.heap.size) #[.int .u32 3,.slice A41 alT2.length c41,.slice A42 alO1.length c42,.slice A43 alB2.length c43] rfl rfl 67 _ BF.out hi67.out rfl ?kone ?_;(case kone=>simp [Value.oneCell']))|(refine wpList_store_row rfl 73 (.tmp 5) (.tmp 21) rfl (w4.heap.size+1) #[.int .i64 0,.int .i64 1,.string ⟨#[]⟩] rfl rfl 73 _ ((setRow_other _ _ _ _ (by omega)).trans BR.out) hi73.out rfl ?kone ?_;(case kone=>simp [Value.oneCell'])))
 have BFc:=Aside0.mk ((setRow_other _ (w4.heap.size+1) w4.heap.size #[.int .i64 0,.int .i64 1,.string ⟨#[]⟩] (by omega)).trans (setRow_heap _ _ _ #[.int .u32 3,.slice A41 alT2.length c41,.slice A42 alO1.length c42,.slice A43 alB2.length c43] _ _ BF.out))
 have BRc:=Aside0.mk (setRow_heap _ (w4.heap.size+1) _ #[.int .i64 0,.int .i64 1,.string ⟨#[]⟩] _ _ ((setRow_other _ w4.heap.size (w4.heap.size+1) #[.int .u32 3,.slice A41 alT2.length c41,.slice A42 alO1.length c42,.slice A43 alB2.length c43] (by omega)).trans BR.out))
 have HBa:=Aside0.mk (below_setRow (below_setRow (below_alloc (below_alloc (Below.refl w4.heap.size w4) (.cells #[.int .u32 0,.slice none 0 0,.slice none 0 0,.slice none 0 0] 67)) (.cells #[.int .i64 0,.int .i64 0,.string ⟨#[]⟩] 73)) (Nat.le_refl _) #[.int .u32 3,.slice A41 alT2.length c41,.slice A42 alO1.length c42,.slice A43 alB2.length c43]) (Nat.le_succ _) #[.int .i64 0,.int .i64 1,.string ⟨#[]⟩]);have HTa:=Aside0.mk (Kd.C_below HT4.out HBa.out);have HOa:=Aside0.mk (Kd.C_below HO4.out HBa.out);have HDa:=Aside0.mk (Kd.C_below HD4.out HBa.out);have BRd:=Aside0.mk (blk_below BRb.out HBa.out);have HB5:=Aside0.mk (below_step HB4.out HBa.out);clear HBa HT4 HO4 HD4 HB4 BF BR BRb f0 f1 f2 f3;generalize (((w4.alloc (.cells #[.int .u32 0,.slice none 0 0,.slice none 0 0,.slice none 0 0] 67)).alloc (.cells #[.int .i64 0,.int .i64 0,.string ⟨#[]⟩] 73)).setRow w4.heap.size #[.int .u32 3,.slice A41 alT2.length c41,.slice A42 alO1.length c42,.slice A43 alB2.length c43]).setRow (w4.heap.size+1) #[.int .i64 0,.int .i64 1,.string ⟨#[]⟩]=w5 at BFc BRc BRd HTa HOa HDa HB5 ⊢;generalize w4.heap.size+1=gs at BRc ⊢;generalize w4.heap.size=gr at BFc ⊢;have f0:w5.cell? ⟨gr,0,none⟩=some (.int .u32 3):=(blk_cell BFc.out 0).trans rfl;have f1:w5.cell? ⟨gr,1,none⟩=some (.slice A41 alT2.length c41):=(blk_cell BFc.out 1).trans rfl;have f2:w5.cell? ⟨gr,2,none⟩=some (.slice A42 alO1.length c42):=(blk_cell BFc.out 2).trans rfl;have f3:w5.cell? ⟨gr,3,none⟩=some (.slice A43 alB2.length c43):=(blk_cell BFc.out 3).trans rfl;go_upto_region 4 with (go_at_call 36;refine (flat_At.calls 60 3 A41 c41 alT2 A42 c42 alO1 A43 c43 alB2 ⟨#[47,97]⟩ ⟨#[0,0,120]⟩ 0 w5 HTa.out LT4.out HOa.out LO4.out HDa.out LD4.out alF3).mono ?_;rintro e w6 ⟨rfl,hb⟩;have HB6:=Aside0.mk (below_step HB5.out hb);have HTb:=Aside0.mk (Kd.C_below HTa.out hb);have HOb:=Aside0.mk (Kd.C_below HOa.out hb);have HDb:=Aside0.mk (Kd.C_below HDa.out hb);have BFe:=Aside0.mk (blk_below BFc.out hb);have BRe:=Aside0.mk (blk_below BRc.out hb);have BRg:=Aside0.mk (blk_below BRd.out hb);clear hb HB5 HTa HOa HDa BFc BRc BRd)
 clear f0 f1 f2 f3;have f0:w6.cell? ⟨gr,0,none⟩=some (.int .u32 3):=(blk_cell BFe.out 0).trans rfl;have f1:w6.cell? ⟨gr,1,none⟩=some (.slice A41 alT2.length c41):=(blk_cell BFe.out 1).trans rfl;have f2:w6.cell? ⟨gr,2,none⟩=some (.slice A42 alO1.length c42):=(blk_cell BFe.out 2).trans rfl;have f3:w6.cell? ⟨gr,3,none⟩=some (.slice A43 alB2.length c43):=(blk_cell BFe.out 3).trans rfl;have q0:w6.cell? ⟨gq,0,none⟩=some (.int .i64 0):=(blk_cell BRg.out 0).trans rfl;have q1:w6.cell? ⟨gq,1,none⟩=some (.int .i64 0):=(blk_cell BRg.out 1).trans rfl;have q2:w6.cell? ⟨gq,2,none⟩=some (.string ⟨#[]⟩):=(blk_cell BRg.out 2).trans rfl;have s0:w6.cell? ⟨gs,0,none⟩=some (.int .i64 0):=(blk_cell BRe.out 0).trans rfl;have s1:w6.cell? ⟨gs,1,none⟩=some (.int .i64 1):=(blk_cell BRe.out 1).trans rfl;have s2:w6.cell? ⟨gs,2,none⟩=some (.string ⟨#[]⟩):=(blk_cell BRe.out 2).trans rfl;have HR:=Aside0.mk (flat_Right.calls 60 3 A41 c41 alT2 A42 c42 alO1 A43 c43 alB2 true w6 HTb.out LT4.out HOb.out LO4.out HDb.out LD4.out alF4);go_wp2_with (go_at_call 37;refine HR.out.mono ?_;rintro e w7 ⟨rfl,hb⟩;have HB7:=Aside0.mk (below_step HB6.out hb);clear hb)
 go_ret
 exact ⟨rfl,HB7.out⟩
end Go.Proofs.YtikjfekagdcjmaaGreatDoor.Q
