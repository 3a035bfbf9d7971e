/- Contracts and plain theory behind FlatRights. -/
import Derived.Test.YtikjfekagdcjmaaGreatDoorCFlatRights2
import Derived.Test.YtikjfekagdcjmaaGreatDoorCFlatRights8
set_option linter.unusedVariables false
set_option linter.unusedSimpArgs false
set_option maxHeartbeats 16000000
set_option maxRecDepth 100000
namespace Go.Proofs.YtikjfekagdcjmaaGreatDoor.Q
open Go.RowKit Go.Proofs.YtikjfekagdcjmaaGreatDoorW.PrintWords Go.Proofs.YtikjfekagdcjmaaGreatDoorW.PrintLast Go.Proofs.YtikjfekagdcjmaaGreatDoorW.PrintMore
theorem countP_snoc {α:Type} (p:α→Bool) (l:List α) (i:Nat) (h:i<l.length):(l.take (i+1)).countP p=(l.take i).countP p+(if p l[i]=true then 1 else 0):=by
 rw [List.take_add_one,List.getElem?_eq_getElem h,Option.toList_some,List.countP_append,List.countP_cons,List.countP_nil,Nat.zero_add]
theorem countP_le {α:Type} (p:α→Bool) (l:List α) (i:Nat):(l.take i).countP p≤l.length:=Nat.le_trans List.countP_le_length (by rw [List.length_take];omega)
theorem count_c (A0:Option Addr) (c0:Nat) (l:List O.T) (p:O.T→Bool) (g:Nat) (cb:Array Value) (w:World) (eg : ∀ args w,(callFunc g args).run Tryz.prog w=.ok (.enter g args) w)
  (hp:O.Pred g cb p w) (hr0:Kd.C k81 w A0 l.length l) (hl:l.length≤1000) :
  Calls Tryz.prog 261 #[.slice A0 l.length c0,.func (.func g) #[] cb] w fun e w'=>e=.returned (.int .i64 (l.countP p:Nat))∧Below w.heap.size w w':=by
 have HR0:=Aside0.mk hr0;have HP:=Aside0.mk hp;clear hr0 hp;go_enter Tryz.func261,Tryz.ntmps261;go_wp2_with (fail)
 go_loopw [5,10] (fun v5 v10 wr=>∃ i m:Nat,i≤l.length∧m≤l.length∧v10=.int .i64 i∧v5=.int .i64 m∧Aside0 ((l.take i).countP p=m)∧Aside0 (Below w.heap.size w wr)) (fun _ v10 _=>l.length-(intOf v10).toNat)
 case atStart=>exact ⟨0,0,Nat.zero_le _,Nat.zero_le _,rfl,rfl,⟨by simp⟩,⟨Below.refl _ _⟩⟩
 case round =>
  obtain ⟨i,m,hi,hm,rfl,rfl,HM,HB⟩:=hrel;by_cases hlt:i<l.length
  ·obtain ⟨ad,e,x0,x1,x2,x3,x4⟩:=at_T81 (Kd.C_below HR0.out HB.out) (i:Int) (by omega) (by omega)
   cases e
   simp only [Int.toNat_natCast] at x0 x1 x2 x3 x4;have HS:=Aside0.mk (show (l.take (i+1)).countP p=m+(if p (rd_T81 l (i:Int))=true then 1 else 0) by rw [countP_snoc p l i hlt,HM.out,O.rdT l i hlt])
   have HLE:=countP_le p l (i+1);have HC:=Aside0.mk (fun W hW=>HP.out W (rd_T81 l (i:Int)) hW);generalize rd_T81 l (i:Int)=x at x0 x1 x2 x3 x4 HS HC;have HLE2:=HLE;rw [HS.out] at HLE2;clear HLE HM;go_upto_region 5 with (fail)
   have BKx:=Aside0.mk (heap_alloc_new wr (.cells (O.v x) 81));have HB2:=Aside0.mk (below_alloc HB.out (.cells (O.v x) 81));clear x0 x1 x2 x3 x4 HB;generalize wr.alloc (.cells (O.v x) 81)=w2 at BKx HB2 ⊢;generalize wr.heap.size=gv at BKx ⊢;have y0:w2.cell? ⟨gv,0,none⟩=some (.int .u32 x.f0):=(blk_cell BKx.out 0).trans rfl;have y1:w2.cell? ⟨gv,1,none⟩=some (.int .u32 x.f1):=(blk_cell BKx.out 1).trans rfl;have y2:w2.cell? ⟨gv,2,none⟩=some (.int .u32 x.f2):=(blk_cell BKx.out 2).trans rfl;have y3:w2.cell? ⟨gv,3,none⟩=some (.int .u32 x.f3):=(blk_cell BKx.out 3).trans rfl;have y4:w2.cell? ⟨gv,4,none⟩=some (.int .u32 x.f4):=(blk_cell BKx.out 4).trans rfl;have HC2:=HC.out w2 HB2.out;clear HC;cases hq:p x with
   | true =>
    rw [hq] at HC2;have HS2:=HS.out;rw [if_pos hq] at HS2 HLE2;have HS3:=Aside0.mk HS2;clear HS HS2 hq;go_wp2_with (go_at_fn g;refine HC2.mono ?_;rintro e w1 ⟨rfl,hb1⟩;have HB1:=Aside0.mk (below_step HB2.out hb1);clear hb1)
    go_roundw
    case rel =>
     first|exact ⟨i+1,m+1,by omega,by omega,by go_num,by go_num,HS3,HB1⟩|(refine ⟨_,_,_,_,_,_,_,_,_,_,_,_,?hrel2,rfl⟩;exact ⟨i+1,m+1,by omega,by omega,by go_num,by go_num,HS3,HB1⟩)
    case measure=>simp [intOf];omega
   | false =>
    rw [hq] at HC2;have HS2:=HS.out;rw [if_neg (by rw [hq];decide),Nat.add_zero] at HS2
    have HS3:=Aside0.mk HS2;clear HS HS2 hq;go_wp2_with (go_at_fn g;refine HC2.mono ?_;rintro e w1 ⟨rfl,hb1⟩;have HB1:=Aside0.mk (below_step HB2.out hb1);clear hb1)
    go_roundw
    case rel =>
     first|exact ⟨i+1,m,by omega,by omega,by go_num,rfl,HS3,HB1⟩|(refine ⟨_,_,_,_,_,_,_,_,_,_,_,_,?hrel2,rfl⟩;exact ⟨i+1,m,by omega,by omega,by go_num,rfl,HS3,HB1⟩)
    case measure=>simp [intOf];omega
  ·obtain rfl:i=l.length:=by omega
   have HM2:=HM.out;rw [List.take_length] at HM2;have HM3:=Aside0.mk HM2;clear HM HM2;go_wp2_with (fail)
   go_ret
   exact ⟨by rw [HM3.out];rfl,HB.out⟩
theorem clo_at (j:Nat) (x:O.T) (gn:Nat) (id:Int) (w:World) (h:w.cell? ⟨gn,0,none⟩=some (.int .u32 id)):(w.alloc (.cells (O.v x) 81)).cell? ⟨gn,0,none⟩=some (.int .u32 id):=Lib.cell?_alloc_some _ h
theorem clo_mine (x:O.T) (gn:Nat) (id:Int) (w:World) (h:w.cell? ⟨gn,0,none⟩=some (.int .u32 id)) :
  Calls Tryz.prog 262 #[.agg (O.v x),.pointer (some ⟨gn,0,none⟩)] w fun e w'=>e=.returned (.bool (x.f0 == id))∧Below w.heap.size w w':=by
 have HB:=Aside0.mk (below_alloc (Below.refl w.heap.size w) (.cells (O.v x) 81));have k1:=clo_at 0 x gn id w h;clear h;go_enter Tryz.func262,Tryz.ntmps262;go_wp2_with (fail)
 go_ret
 exact ⟨rfl,HB.out⟩
theorem keep_cell {w W:World} {g:Nat} {v:Value} (hb:Below w.heap.size w W) (h:w.cell? ⟨g,0,none⟩=some v):W.cell? ⟨g,0,none⟩=some v:=(hb.cell (World.block_lt_of_cell? w _ h)).trans h
theorem mine_c (A0:Option Addr) (c0:Nat) (l:List O.T) (id:Int) (w:World) (hr0:Kd.C k81 w A0 l.length l) (hl:l.length≤1000) :
  Calls Tryz.prog 193 #[.slice A0 l.length c0,.int .u32 id] w fun e w'=>e=.returned (.int .i64 (l.countP fun x=>x.f0 == id:Nat))∧Below w.heap.size w w':=by
 have HB:=Aside0.mk (below_alloc (Below.refl w.heap.size w) (.cells #[.int .u32 id] 24));have HK:=Aside0.mk ((blk_cell (heap_alloc_new w (.cells #[.int .u32 id] 24)) 0).trans rfl);have HC:=Aside0.mk (count_c A0 c0 l (fun x=>x.f0 == id) 262 #[.pointer (some ⟨w.heap.size,0,none⟩)] (w.alloc (.cells #[.int .u32 id] 24)) (enters_of Tryz.func262 (by kernel_rfl) rfl) (fun W x hb=>clo_mine x _ id W (keep_cell hb HK.out)) (Kd.C_alloc hr0 _) hl)
 clear hr0;generalize l.countP (fun x=>x.f0 == id)=r at HC;go_enter Tryz.func193,Tryz.ntmps193;go_wp2_with (go_at_call 261;refine HC.out.mono ?_;rintro e w1 ⟨rfl,hb1⟩;have HB1:=Aside0.mk (below_step HB.out hb1);clear hb1)
 go_ret
 exact ⟨rfl,HB1.out⟩
def share_mine.f (l:List O.T) (id:Int):Option Int:=if l.length≤1000 then some (l.countP fun x=>x.f0 == id:Nat) else none
theorem share_mine.calls (A0:Option Addr) (c0:Nat) (l0:List O.T) (a1:Int) (r:Int) (w:World) (hr0:Kd.C k81 w A0 l0.length l0) (hc0:l0.length≤c0) (h:share_mine.f l0 a1=some r) :
  Calls Tryz.prog 193 #[.slice A0 l0.length c0,.int .u32 a1] w fun e w'=>e=.returned (.int .i64 r)∧Below w.heap.size w w':=by
 unfold share_mine.f at h;by_cases hl:l0.length≤1000
 ·rw [if_pos hl] at h;cases h
  exact mine_c A0 c0 l0 a1 w hr0 hl
 ·rw [if_neg hl] at h;cases h
section
attribute [local go_sem] max2_int min2_int max_two min_two max_three min_three max_four min_four
def share_clash.f (a0_0:Int) (a0_1:Int) (a0_2:Int) (a0_3:Int) (a0_4:Int) (a1_0:Int) (a1_1:Int) (a1_2:Int) (a1_3:Int) (a1_4:Int):Option (Bool):=if a0_2=a1_2 then (if (Go.bits .and .u32 a0_3 a1_4)=0 then (some ((Go.bits .and .u32 a1_3 a0_4) != 0)) else (some true)) else (some false)
theorem share_clash.calls (a0_0:Int) (a0_1:Int) (a0_2:Int) (a0_3:Int) (a0_4:Int) (a1_0:Int) (a1_1:Int) (a1_2:Int) (a1_3:Int) (a1_4:Int) (r:Bool) (w:World) (h:share_clash.f a0_0 a0_1 a0_2 a0_3 a0_4 a1_0 a1_1 a1_2 a1_3 a1_4=some r) :
  Calls Tryz.prog 196 #[.agg #[.int .u32 a0_0,.int .u32 a0_1,.int .u32 a0_2,.int .u32 a0_3,.int .u32 a0_4],.agg #[.int .u32 a1_0,.int .u32 a1_1,.int .u32 a1_2,.int .u32 a1_3,.int .u32 a1_4]] w fun e w'=>e=.returned (.bool r)∧Below w.heap.size w w':=by
 have hu81:=Tryz.underlying81;have HB:=Aside0.mk (Below.refl w.heap.size w);have H:(if a0_2=a1_2 then (if (Go.bits .and .u32 a0_3 a1_4)=0 then (some ((Go.bits .and .u32 a1_3 a0_4) != 0)) else (some true)) else (some false))=some r:=h
 clear h;by_cases c3:a0_2=a1_2
 ·rw [if_pos c3] at H;have c3b0:=qT c3;have c3b1:=nF c3;clear c3;by_cases c4:(Go.bits .and .u32 a0_3 a1_4)=0
  ·rw [if_pos c4] at H;have c4b0:=qT c4;have c4b1:=nF c4;clear c4;obtain rfl:=Option.some.inj H;go_enter Tryz.func196,Tryz.ntmps196;go_wp2_with (first|((with_reducible refine gate_dst (N:=2) rfl ?_);refine bx 2 #[.int .u32 a0_0,.int .u32 a0_1,.int .u32 a0_2,.int .u32 a0_3,.int .u32 a0_4] 81 ?_;intro gb971 hg w5 hbox hb;have BK971:=Aside0.mk (hbox);have GW971:=Aside0.mk ((gG hg:w.heap.size≤gb971));have GE971:=Aside0.mk ((gG hg:w.heap.size≤gb971));replace HB:=Aside0.mk (below_step bD hb);clear hb hbox hg)|((with_reducible refine gate_dst (N:=3) rfl ?_);refine bx 3 #[.int .u32 a1_0,.int .u32 a1_1,.int .u32 a1_2,.int .u32 a1_3,.int .u32 a1_4] 81 ?_;intro gb972 hg w6 hbox hb;have n0_:=Aside0.mk (kb BK971 hb);have n1_:=Aside0.mk (below_step bD hb);have n2_:=Aside0.mk (hbox);have n3_:=Aside0.mk ((gG hg:w.heap.size≤gb972));have n4_:=Aside0.mk ((gG hg:w.heap.size≤gb972));have n5_:=Aside0.mk ((gN BK971 hg));have n6_:=Aside0.mk ((gN' BK971 hg));clear BK971;clear HB;have BK971:=n0_;have HB:=n1_;have BK972:=n2_;have GW972:=n3_;have GE972:=n4_;have NB971_972:=n5_;have NB972_971:=n6_;clear n0_ n1_ n2_ n3_ n4_ n5_ n6_;clear hb hbox hg;have hnb7:=NB971_972.out;have hnc7:=NB972_971.out;obtain ⟨hcz8_0,hcz8_1,hcz8_2,hcz8_3,hcz8_4⟩:=cc5 BK971.out;obtain ⟨hfz8_0,hfz8_1,hfz8_2,hfz8_3,hfz8_4⟩:=ff5 BK971.out;obtain ⟨hcz9_0,hcz9_1,hcz9_2,hcz9_3,hcz9_4⟩:=cc5 BK972.out;obtain ⟨hfz9_0,hfz9_1,hfz9_2,hfz9_3,hfz9_4⟩:=ff5 BK972.out))
   go_ret
   exact ⟨eE,bD⟩
  ·rw [if_neg c4] at H;have c4b0:=qF c4;have c4b1:=nT c4;obtain rfl:=Option.some.inj H;go_enter Tryz.func196,Tryz.ntmps196;go_wp2_with (first|((with_reducible refine gate_dst (N:=2) rfl ?_);refine bx 2 #[.int .u32 a0_0,.int .u32 a0_1,.int .u32 a0_2,.int .u32 a0_3,.int .u32 a0_4] 81 ?_;intro gb971 hg w10 hbox hb;have BK971:=Aside0.mk (hbox);have GW971:=Aside0.mk ((gG hg:w.heap.size≤gb971));have GE971:=Aside0.mk ((gG hg:w.heap.size≤gb971));replace HB:=Aside0.mk (below_step bD hb);clear hb hbox hg)|((with_reducible refine gate_dst (N:=3) rfl ?_);refine bx 3 #[.int .u32 a1_0,.int .u32 a1_1,.int .u32 a1_2,.int .u32 a1_3,.int .u32 a1_4] 81 ?_;intro gb972 hg w11 hbox hb;have n0_:=Aside0.mk (kb BK971 hb);have n1_:=Aside0.mk (below_step bD hb);have n2_:=Aside0.mk (hbox);have n3_:=Aside0.mk ((gG hg:w.heap.size≤gb972));have n4_:=Aside0.mk ((gG hg:w.heap.size≤gb972));have n5_:=Aside0.mk ((gN BK971 hg));have n6_:=Aside0.mk ((gN' BK971 hg));clear BK971;clear HB;have BK971:=n0_;have HB:=n1_;have BK972:=n2_;have GW972:=n3_;have GE972:=n4_;have NB971_972:=n5_;have NB972_971:=n6_;clear n0_ n1_ n2_ n3_ n4_ n5_ n6_;clear hb hbox hg;have hnb12:=NB971_972.out;have hnc12:=NB972_971.out;obtain ⟨hcz13_0,hcz13_1,hcz13_2,hcz13_3,hcz13_4⟩:=cc5 BK971.out;obtain ⟨hfz13_0,hfz13_1,hfz13_2,hfz13_3,hfz13_4⟩:=ff5 BK971.out;obtain ⟨hcz14_0,hcz14_1,hcz14_2,hcz14_3,hcz14_4⟩:=cc5 BK972.out;obtain ⟨hfz14_0,hfz14_1,hfz14_2,hfz14_3,hfz14_4⟩:=ff5 BK972.out))
   go_ret
   exact ⟨eE,bD⟩
 ·rw [if_neg c3] at H;have c3b0:=qF c3;have c3b1:=nT c3;obtain rfl:=Option.some.inj H;go_enter Tryz.func196,Tryz.ntmps196;go_wp2_with (first|((with_reducible refine gate_dst (N:=2) rfl ?_);refine bx 2 #[.int .u32 a0_0,.int .u32 a0_1,.int .u32 a0_2,.int .u32 a0_3,.int .u32 a0_4] 81 ?_;intro gb971 hg w15 hbox hb;have BK971:=Aside0.mk (hbox);have GW971:=Aside0.mk ((gG hg:w.heap.size≤gb971));have GE971:=Aside0.mk ((gG hg:w.heap.size≤gb971));replace HB:=Aside0.mk (below_step bD hb);clear hb hbox hg)|((with_reducible refine gate_dst (N:=3) rfl ?_);refine bx 3 #[.int .u32 a1_0,.int .u32 a1_1,.int .u32 a1_2,.int .u32 a1_3,.int .u32 a1_4] 81 ?_;intro gb972 hg w16 hbox hb;have n0_:=Aside0.mk (kb BK971 hb);have n1_:=Aside0.mk (below_step bD hb);have n2_:=Aside0.mk (hbox);have n3_:=Aside0.mk ((gG hg:w.heap.size≤gb972));have n4_:=Aside0.mk ((gG hg:w.heap.size≤gb972));have n5_:=Aside0.mk ((gN BK971 hg));have n6_:=Aside0.mk ((gN' BK971 hg));clear BK971;clear HB;have BK971:=n0_;have HB:=n1_;have BK972:=n2_;have GW972:=n3_;have GE972:=n4_;have NB971_972:=n5_;have NB972_971:=n6_;clear n0_ n1_ n2_ n3_ n4_ n5_ n6_;clear hb hbox hg;have hnb17:=NB971_972.out;have hnc17:=NB972_971.out;obtain ⟨hcz18_0,hcz18_1,hcz18_2,hcz18_3,hcz18_4⟩:=cc5 BK971.out;obtain ⟨hfz18_0,hfz18_1,hfz18_2,hfz18_3,hfz18_4⟩:=ff5 BK971.out;obtain ⟨hcz19_0,hcz19_1,hcz19_2,hcz19_3,hcz19_4⟩:=cc5 BK972.out;obtain ⟨hfz19_0,hfz19_1,hfz19_2,hfz19_3,hfz19_4⟩:=ff5 BK972.out))
  go_ret
  exact ⟨eE,bD⟩
end
def clashB (x y:O.T):Bool:=decide (x.f2=y.f2)&&(decide (Go.bits .and .u32 x.f3 y.f4≠0)||decide (Go.bits .and .u32 y.f3 x.f4≠0))
theorem clash_f (x y:O.T):share_clash.f x.f0 x.f1 x.f2 x.f3 x.f4 y.f0 y.f1 y.f2 y.f3 y.f4=some (clashB x y):=by
 unfold share_clash.f clashB;by_cases h1:x.f2=y.f2
 ·rw [if_pos h1];by_cases h2:Go.bits .and .u32 x.f3 y.f4=0
  ·rw [if_pos h2];by_cases h3:Go.bits .and .u32 y.f3 x.f4=0 <;> simp [h1,h2,h3]
  ·rw [if_neg h2];simp [h1,h2]
 ·rw [if_neg h1];simp [h1]
theorem share_clash_c (x y:O.T) (w:World):Calls Tryz.prog 196 #[.agg (O.v x),.agg (O.v y)] w fun e w'=>e=.returned (.bool (clashB x y))∧Below w.heap.size w w' :=
 share_clash.calls x.f0 x.f1 x.f2 x.f3 x.f4 y.f0 y.f1 y.f2 y.f3 y.f4 (clashB x y) w (clash_f x y)
theorem clo_right (x y:O.T) (gn:Nat) (w:World) (h:w.heap[gn]?=some (.cells (O.v y) 81 (0,0))) :
  Calls Tryz.prog 195 #[.agg (O.v x),.pointer (some ⟨gn,0,none⟩)] w fun e w'=>e=.returned (.bool (clashB x y))∧Below w.heap.size w w':=by
 have HB:=Aside0.mk (below_alloc (Below.refl w.heap.size w) (.cells (O.v x) 81));have BKx:=Aside0.mk (heap_alloc_new w (.cells (O.v x) 81));have BKy:=Aside0.mk (blk_alloc h (.cells (O.v x) 81));have HC:=Aside0.mk (share_clash_c x y);clear h;go_enter Tryz.func195,Tryz.ntmps195;go_upto_region 1 with (fail)
 generalize w.alloc (.cells (O.v x) 81)=w2 at BKx BKy HB ⊢;generalize w.heap.size=gv at BKx ⊢;have x0:w2.cell? ⟨gv,0,none⟩=some (.int .u32 x.f0):=(blk_cell BKx.out 0).trans rfl;have x1:w2.cell? ⟨gv,1,none⟩=some (.int .u32 x.f1):=(blk_cell BKx.out 1).trans rfl;have x2:w2.cell? ⟨gv,2,none⟩=some (.int .u32 x.f2):=(blk_cell BKx.out 2).trans rfl;have x3:w2.cell? ⟨gv,3,none⟩=some (.int .u32 x.f3):=(blk_cell BKx.out 3).trans rfl;have x4:w2.cell? ⟨gv,4,none⟩=some (.int .u32 x.f4):=(blk_cell BKx.out 4).trans rfl;have y0:w2.cell? ⟨gn,0,none⟩=some (.int .u32 y.f0):=(blk_cell BKy.out 0).trans rfl;have y1:w2.cell? ⟨gn,1,none⟩=some (.int .u32 y.f1):=(blk_cell BKy.out 1).trans rfl;have y2:w2.cell? ⟨gn,2,none⟩=some (.int .u32 y.f2):=(blk_cell BKy.out 2).trans rfl;have y3:w2.cell? ⟨gn,3,none⟩=some (.int .u32 y.f3):=(blk_cell BKy.out 3).trans rfl;have y4:w2.cell? ⟨gn,4,none⟩=some (.int .u32 y.f4):=(blk_cell BKy.out 4).trans rfl;go_wp2_with (go_at_call 196;refine (HC.out _).mono ?_;rintro e w1 ⟨rfl,hb1⟩;have HB1:=Aside0.mk (below_step HB.out hb1);clear hb1)
 go_ret
 exact ⟨rfl,HB1.out⟩
theorem clo_add (x y:O.T) (gn:Nat) (w:World) (h:w.heap[gn]?=some (.cells (O.v y) 81 (0,0))) :
  Calls Tryz.prog 283 #[.agg (O.v x),.pointer (some ⟨gn,0,none⟩)] w fun e w'=>e=.returned (.bool (clashB x y))∧Below w.heap.size w w':=by
 have HB:=Aside0.mk (below_alloc (Below.refl w.heap.size w) (.cells (O.v x) 81));have BKx:=Aside0.mk (heap_alloc_new w (.cells (O.v x) 81));have BKy:=Aside0.mk (blk_alloc h (.cells (O.v x) 81));have HC:=Aside0.mk (share_clash_c x y);clear h;go_enter Tryz.func283,Tryz.ntmps283;go_upto_region 1 with (fail)
 generalize w.alloc (.cells (O.v x) 81)=w2 at BKx BKy HB ⊢;generalize w.heap.size=gv at BKx ⊢;have x0:w2.cell? ⟨gv,0,none⟩=some (.int .u32 x.f0):=(blk_cell BKx.out 0).trans rfl;have x1:w2.cell? ⟨gv,1,none⟩=some (.int .u32 x.f1):=(blk_cell BKx.out 1).trans rfl;have x2:w2.cell? ⟨gv,2,none⟩=some (.int .u32 x.f2):=(blk_cell BKx.out 2).trans rfl;have x3:w2.cell? ⟨gv,3,none⟩=some (.int .u32 x.f3):=(blk_cell BKx.out 3).trans rfl;have x4:w2.cell? ⟨gv,4,none⟩=some (.int .u32 x.f4):=(blk_cell BKx.out 4).trans rfl;have y0:w2.cell? ⟨gn,0,none⟩=some (.int .u32 y.f0):=(blk_cell BKy.out 0).trans rfl;have y1:w2.cell? ⟨gn,1,none⟩=some (.int .u32 y.f1):=(blk_cell BKy.out 1).trans rfl;have y2:w2.cell? ⟨gn,2,none⟩=some (.int .u32 y.f2):=(blk_cell BKy.out 2).trans rfl;have y3:w2.cell? ⟨gn,3,none⟩=some (.int .u32 y.f3):=(blk_cell BKy.out 3).trans rfl;have y4:w2.cell? ⟨gn,4,none⟩=some (.int .u32 y.f4):=(blk_cell BKy.out 4).trans rfl;go_wp2_with (go_at_call 196;refine (HC.out _).mono ?_;rintro e w1 ⟨rfl,hb1⟩;have HB1:=Aside0.mk (below_step HB.out hb1);clear hb1)
 go_ret
 exact ⟨rfl,HB1.out⟩
def anyF (l:List O.T) (a b c d e:Int):Option Bool:=if l.length≤1000 then some (l.any fun x=>clashB x ⟨a,b,c,d,e⟩) else none
def share_any.f (l:List O.T) (a b c d e:Int):Option Bool:=anyF l a b c d e
theorem share_any.calls (A0:Option Addr) (c0:Nat) (l0:List O.T) (a1_0 a1_1 a1_2 a1_3 a1_4:Int) (r:Bool) (w:World) (hr0:Kd.C k81 w A0 l0.length l0) (hc0:l0.length≤c0) (h:share_any.f l0 a1_0 a1_1 a1_2 a1_3 a1_4=some r)
  {g:Nat} (hbox:w.heap[g]?=some (.cells #[.int .u32 a1_0,.int .u32 a1_1,.int .u32 a1_2,.int .u32 a1_3,.int .u32 a1_4] 81 (0,0))) :
  Calls Tryz.prog 119 #[.slice A0 l0.length c0,.func (.func 195) #[] #[.pointer (some ⟨g,0,none⟩)]] w fun e w'=>e=.returned (.bool r)∧Below w.heap.size w w':=by
 unfold share_any.f anyF at h;by_cases hl:l0.length≤1000
 ·rw [if_pos hl] at h;cases h
  exact O.has A0 c0 l0 _ 195 _ w (enters_of Tryz.func195 (by kernel_rfl) rfl) (fun W x hb=>clo_right x ⟨a1_0,a1_1,a1_2,a1_3,a1_4⟩ g W (blk_below hbox hb)) hr0 hl
 ·rw [if_neg hl] at h;cases h
section
attribute [local go_sem] max2_int min2_int max_two min_two max_three min_three max_four min_four
mutual
def share_Right.l0:Nat→List (S81)→List (S81)→Int→Int→Option (Bool)
 | 0,_,_,_,_=>none
 | k+1,x0,x8,x9,x10=>if x10<x9 then (if 0≤x10 then (if x10<(x8.length:Int) then ((share_one.f ((rd_T81 x8 x10).f0) ((rd_T81 x8 x10).f1) ((rd_T81 x8 x10).f2) ((rd_T81 x8 x10).f3) ((rd_T81 x8 x10).f4)).bind fun t130=>(if t130=true then ((share_mine.f x0 ((rd_T81 x8 x10).f0)).bind fun t131=>(if t131>4 then (share_Right.j1 k x0 x10 x8 x9 x10 true ((rd_T81 x8 x10).f0) ((rd_T81 x8 x10).f1) ((rd_T81 x8 x10).f2) ((rd_T81 x8 x10).f3) ((rd_T81 x8 x10).f4)) else (if x10>0 then (if 0≤(wrap64 (x10-1)) then (if (wrap64 (x10-1))<(x0.length:Int) then ((share_order.f k ((rd_T81 x0 (wrap64 (x10-1))).f0) ((rd_T81 x0 (wrap64 (x10-1))).f1) ((rd_T81 x0 (wrap64 (x10-1))).f2) ((rd_T81 x0 (wrap64 (x10-1))).f3) ((rd_T81 x0 (wrap64 (x10-1))).f4) ((rd_T81 x8 x10).f0) ((rd_T81 x8 x10).f1) ((rd_T81 x8 x10).f2) ((rd_T81 x8 x10).f3) ((rd_T81 x8 x10).f4)).bind fun t133=>(share_Right.j1 k x0 x10 x8 x9 x10 (decide (t133≥0)) ((rd_T81 x8 x10).f0) ((rd_T81 x8 x10).f1) ((rd_T81 x8 x10).f2) ((rd_T81 x8 x10).f3) ((rd_T81 x8 x10).f4))) else (none)) else (none)) else (share_Right.j1 k x0 x10 x8 x9 x10 false ((rd_T81 x8 x10).f0) ((rd_T81 x8 x10).f1) ((rd_T81 x8 x10).f2) ((rd_T81 x8 x10).f3) ((rd_T81 x8 x10).f4))))) else (share_Right.j1 k x0 x10 x8 x9 x10 true ((rd_T81 x8 x10).f0) ((rd_T81 x8 x10).f1) ((rd_T81 x8 x10).f2) ((rd_T81 x8 x10).f3) ((rd_T81 x8 x10).f4)))) else (none)) else (none)) else (some true)
def share_Right.j1:Nat→List (S81)→Int→List (S81)→Int→Int→Bool→Int→Int→Int→Int→Int→Option (Bool)
 | 0,_,_,_,_,_,_,_,_,_,_,_=>none
 | k+1,x0,x3,x8,x9,x10,x38,x130000,x130001,x130002,x130003,x130004=>if x38=true then (some false) else (if 0≤x3 then (if x3≤(x0.length:Int) then ((share_any.f (x0.take (x3:Int).toNat) x130000 x130001 x130002 x130003 x130004).bind fun t138=>(if t138=true then (some false) else (share_Right.l0 k x0 x8 x9 (wrap64 (x10+1))))) else (none)) else (none))
end
def share_Right.f (k:Nat) (l0:List (S81)):Option (Bool):=if (l0.length:Int)>12 then (some false) else (share_Right.l0 k l0 l0 (l0.length:Int) 0)
def share_Right.T6:Bool×List (List Nat×List Nat):=(true,[([],[]),([0],[0]),([1],[1]),([2,1],[2]),([3],[3]),([3],[3]),([5,3],[3,5]),([4,6,3,3],[3,4,6]),([7,3],[3,7]),([3,8],[3,8]),([9,7],[9]),([10],[10]),([11,10],[10,11]),([12,10,10],[10,12]),([13],[13]),([13],[13]),([15,13],[13,15]),([14,16,13],[13,14,16]),([17,13],[13,17]),([13],[13]),([18,19,13,13],[13,18,19]),([20,13],[13,20]),([13,21,10],[10,13,21]),([10,22],[10,22])])
def share_Right.B6:List Nat:=[0,1,3,7,15,15,47,127,255,511,1023,2047,4095,8191,16383,16383,49151,131071,262143,16383,1048575,2097151,4194303,8388607]
theorem share_Right.tab6:rtab .any (opsOf Tryz.f116 6)=share_Right.T6:=by kernel_rfl
theorem share_Right.bits6:waitsOk share_Right.T6.2 share_Right.B6=true:=by kernel_rfl
theorem share_Right.calls (k:Nat) (A0:Option Addr) (c0:Nat) (l0:List (S81)) (r:Bool) (w:World) (hr0:Kd.C k81 w A0 l0.length l0) (hc0:l0.length≤c0) (h:share_Right.f k l0=some r) :
  Calls Tryz.prog 116 #[.slice A0 l0.length c0] w fun e w'=>e=.returned (.bool r)∧Below w.heap.size w w':=by
 have hu81:=Tryz.underlying81;have HR0:=Aside0.mk hr0;have HC0:=Aside0.mk hc0;clear hr0 hc0;have HB:=Aside0.mk (Below.refl w.heap.size w);have H:(if (l0.length:Int)>12 then (some false) else (share_Right.l0 k l0 l0 (l0.length:Int) 0))=some r:=h
 clear h;by_cases c2:(l0.length:Int)>12
 ·rw [if_pos c2] at H;have c2b0:=decide_eq_true c2;have c2b1:decide (12<l0.length)=true:=decide_eq_true (by omega)
  clear c2;obtain rfl:=Option.some.inj H;go_enter Tryz.func116,Tryz.ntmps116;go_wp2
  go_ret
  exact ⟨eE,bD⟩
 ·rw [if_neg c2] at H;have c2b0:=decide_eq_false c2;have c2b1:decide (12<l0.length)=false:=decide_eq_false (by omega)
  clear c2;have H':=Aside0.mk H;clear H;go_enter Tryz.func116,Tryz.ntmps116;go_wp2
  go_loopg [10] k (fun kq v10 w'=>∃ (x10_1:Int),v10=.int .i64 x10_1∧Aside0 (share_Right.l0 kq l0 l0 (l0.length:Int) x10_1=some r)∧Aside0 (kq≤k)∧Aside0 (Below w.heap.size w w'))
  case atStart=>exact ⟨(0),eS,H',⟨Nat.le_refl _⟩,⟨bD⟩⟩
  case round =>
   clear H'
   (try clear c1;try clear c2;try clear c2b0;try clear c2b1;try clear p2)
   obtain ⟨x10_1,rfl,HA,HK1,HB⟩:=hrel;cases gk with
   | zero=>exact absurd HA.out (by simp [share_Right.l0])
   | succ k1 =>
    have H:=HA.out;clear HA;simp only [share_Right.l0] at H;by_cases c3:x10_1<(l0.length:Int)
    ·rw [if_pos c3] at H;have c3b0:=decide_eq_true c3;clear c3;by_cases c4:0≤x10_1
     ·rw [if_pos c4] at H;have c4b0:=decide_eq_true c4;clear c4;by_cases c5:x10_1<(l0.length:Int)
      ·rw [if_pos c5] at H;have c5b0:=decide_eq_true c5;clear c5;have HC6:=Aside0.mk H;clear H;have p128:0≤(x10_1:Int):=pA;have q128:x10_1<(l0.length:Int):=pA;obtain ⟨ad128,e128,hx128_0,hx128_1,hx128_2,hx128_3,hx128_4⟩:=at_T81 HR0.out x10_1 p128 q128;cases e128
       replace hx128_0:=cB hx128_0;replace hx128_1:=cB hx128_1;replace hx128_2:=cB hx128_2;replace hx128_3:=cB hx128_3;replace hx128_4:=cB hx128_4;replace p128:=eq_true p128;replace q128:=eq_true q128;go_upto_region 6 with (first|((with_reducible refine gate_dst (N:=4) rfl ?_);refine bx 4 #[.int .u32 0,.int .u32 0,.int .u32 0,.int .u32 0,.int .u32 0] 81 ?_;intro gb129 hg w7 hbox hb;have BK129:=Aside0.mk (hbox);have GW129:=Aside0.mk ((gG hg:w.heap.size≤gb129));have GE129:=Aside0.mk ((gG hg:w.heap.size≤gb129));replace HB:=Aside0.mk (below_step bD hb);clear hb hbox hg;obtain ⟨hcz8_0,hcz8_1,hcz8_2,hcz8_3,hcz8_4⟩:=cc5 BK129.out;obtain ⟨hfz8_0,hfz8_1,hfz8_2,hfz8_3,hfz8_4⟩:=ff5 BK129.out))
       (try simp only [Act.put,List.setIfInBounds_toArray,List.set_cons_zero,List.set_cons_succ])
       go_cut [38] (fun v38 wc=>∃ (kq:Nat) (x38_5:Bool),v38=.bool x38_5∧Aside0 (share_Right.j1 kq l0 x10_1 l0 (l0.length:Int) x10_1 x38_5 ((rd_T81 l0 x10_1).f0) ((rd_T81 l0 x10_1).f1) ((rd_T81 l0 x10_1).f2) ((rd_T81 l0 x10_1).f3) ((rd_T81 l0 x10_1).f4)=some r)∧Aside0 (kq≤k1)∧Aside0 (wc.heap[gb129]?=some (.cells #[.int .u32 ((rd_T81 l0 x10_1).f0),.int .u32 ((rd_T81 l0 x10_1).f1),.int .u32 ((rd_T81 l0 x10_1).f2),.int .u32 ((rd_T81 l0 x10_1).f3),.int .u32 ((rd_T81 l0 x10_1).f4)] 81 (0,0)))∧Aside0 (Below w.heap.size w wc))
       case first =>
        have H:=HC6.out;clear HC6;replace H:=Option.bind_eq_some_iff.mp H;obtain ⟨t130,A90,H⟩:=H;replace H:(if t130=true then ((share_mine.f l0 ((rd_T81 l0 x10_1).f0)).bind fun t131=>(if t131>4 then (share_Right.j1 k1 l0 x10_1 l0 (l0.length:Int) x10_1 true ((rd_T81 l0 x10_1).f0) ((rd_T81 l0 x10_1).f1) ((rd_T81 l0 x10_1).f2) ((rd_T81 l0 x10_1).f3) ((rd_T81 l0 x10_1).f4)) else (if x10_1>0 then (if 0≤(wrap64 (x10_1-1)) then (if (wrap64 (x10_1-1))<(l0.length:Int) then ((share_order.f k1 ((rd_T81 l0 (wrap64 (x10_1-1))).f0) ((rd_T81 l0 (wrap64 (x10_1-1))).f1) ((rd_T81 l0 (wrap64 (x10_1-1))).f2) ((rd_T81 l0 (wrap64 (x10_1-1))).f3) ((rd_T81 l0 (wrap64 (x10_1-1))).f4) ((rd_T81 l0 x10_1).f0) ((rd_T81 l0 x10_1).f1) ((rd_T81 l0 x10_1).f2) ((rd_T81 l0 x10_1).f3) ((rd_T81 l0 x10_1).f4)).bind fun t133=>(share_Right.j1 k1 l0 x10_1 l0 (l0.length:Int) x10_1 (decide (t133≥0)) ((rd_T81 l0 x10_1).f0) ((rd_T81 l0 x10_1).f1) ((rd_T81 l0 x10_1).f2) ((rd_T81 l0 x10_1).f3) ((rd_T81 l0 x10_1).f4))) else (none)) else (none)) else (share_Right.j1 k1 l0 x10_1 l0 (l0.length:Int) x10_1 false ((rd_T81 l0 x10_1).f0) ((rd_T81 l0 x10_1).f1) ((rd_T81 l0 x10_1).f2) ((rd_T81 l0 x10_1).f3) ((rd_T81 l0 x10_1).f4))))) else (share_Right.j1 k1 l0 x10_1 l0 (l0.length:Int) x10_1 true ((rd_T81 l0 x10_1).f0) ((rd_T81 l0 x10_1).f1) ((rd_T81 l0 x10_1).f2) ((rd_T81 l0 x10_1).f3) ((rd_T81 l0 x10_1).f4)))=some r:=H
        have A9:=Aside0.mk A90;clear A90;by_cases c10:t130=true
        ·subst c10;replace H:=ifTT H;replace H:=Option.bind_eq_some_iff.mp H;obtain ⟨t131,A110,H⟩:=H;replace H:(if t131>4 then (share_Right.j1 k1 l0 x10_1 l0 (l0.length:Int) x10_1 true ((rd_T81 l0 x10_1).f0) ((rd_T81 l0 x10_1).f1) ((rd_T81 l0 x10_1).f2) ((rd_T81 l0 x10_1).f3) ((rd_T81 l0 x10_1).f4)) else (if x10_1>0 then (if 0≤(wrap64 (x10_1-1)) then (if (wrap64 (x10_1-1))<(l0.length:Int) then ((share_order.f k1 ((rd_T81 l0 (wrap64 (x10_1-1))).f0) ((rd_T81 l0 (wrap64 (x10_1-1))).f1) ((rd_T81 l0 (wrap64 (x10_1-1))).f2) ((rd_T81 l0 (wrap64 (x10_1-1))).f3) ((rd_T81 l0 (wrap64 (x10_1-1))).f4) ((rd_T81 l0 x10_1).f0) ((rd_T81 l0 x10_1).f1) ((rd_T81 l0 x10_1).f2) ((rd_T81 l0 x10_1).f3) ((rd_T81 l0 x10_1).f4)).bind fun t133=>(share_Right.j1 k1 l0 x10_1 l0 (l0.length:Int) x10_1 (decide (t133≥0)) ((rd_T81 l0 x10_1).f0) ((rd_T81 l0 x10_1).f1) ((rd_T81 l0 x10_1).f2) ((rd_T81 l0 x10_1).f3) ((rd_T81 l0 x10_1).f4))) else (none)) else (none)) else (share_Right.j1 k1 l0 x10_1 l0 (l0.length:Int) x10_1 false ((rd_T81 l0 x10_1).f0) ((rd_T81 l0 x10_1).f1) ((rd_T81 l0 x10_1).f2) ((rd_T81 l0 x10_1).f3) ((rd_T81 l0 x10_1).f4))))=some r:=H
         have A11:=Aside0.mk A110;clear A110;by_cases c12:t131>4
         ·rw [if_pos c12] at H;have c12b0:=decide_eq_true c12;clear c12
          (first|rw [c12b0]|(simp only [i64_w,i32_w];rw [c12b0])|skip)
          have H':=Aside0.mk H;clear H;try go_wp2
          have n0_:Aside0 ((((((w7.setCell ⟨gb129,0,none⟩ (.int .u32 ((rd_T81 l0 x10_1).f0))).setCell ⟨gb129,1,none⟩ (.int .u32 ((rd_T81 l0 x10_1).f1))).setCell ⟨gb129,2,none⟩ (.int .u32 ((rd_T81 l0 x10_1).f2))).setCell ⟨gb129,3,none⟩ (.int .u32 ((rd_T81 l0 x10_1).f3))).setCell ⟨gb129,4,none⟩ (.int .u32 ((rd_T81 l0 x10_1).f4))).heap[gb129]?=some (.cells #[.int .u32 ((rd_T81 l0 x10_1).f0),.int .u32 ((rd_T81 l0 x10_1).f1),.int .u32 ((rd_T81 l0 x10_1).f2),.int .u32 ((rd_T81 l0 x10_1).f3),.int .u32 ((rd_T81 l0 x10_1).f4)] 81 (0,0))):=⟨p5⟩;have n1_:Aside0 (Below w.heap.size w (((((w7.setCell ⟨gb129,0,none⟩ (.int .u32 ((rd_T81 l0 x10_1).f0))).setCell ⟨gb129,1,none⟩ (.int .u32 ((rd_T81 l0 x10_1).f1))).setCell ⟨gb129,2,none⟩ (.int .u32 ((rd_T81 l0 x10_1).f2))).setCell ⟨gb129,3,none⟩ (.int .u32 ((rd_T81 l0 x10_1).f3))).setCell ⟨gb129,4,none⟩ (.int .u32 ((rd_T81 l0 x10_1).f4)))):=⟨bD⟩
          (try clear BK129)
          (try clear HB)
          generalize (((((w7.setCell ⟨gb129,0,none⟩ (.int .u32 ((rd_T81 l0 x10_1).f0))).setCell ⟨gb129,1,none⟩ (.int .u32 ((rd_T81 l0 x10_1).f1))).setCell ⟨gb129,2,none⟩ (.int .u32 ((rd_T81 l0 x10_1).f2))).setCell ⟨gb129,3,none⟩ (.int .u32 ((rd_T81 l0 x10_1).f3))).setCell ⟨gb129,4,none⟩ (.int .u32 ((rd_T81 l0 x10_1).f4)))=w13 at n0_ n1_ ⊢;have BK129:=n0_;have HB:=n1_;clear n0_ n1_;replace BK129:=Aside0.mk (blk_drew BK129.out);replace HB:=Aside0.mk (below_drew1 HB.out);refine rs 24 (fun w'=>w'.cell? ⟨gb129,0,none⟩=some (.int .u32 ((rd_T81 l0 x10_1).f0))∧w'.cell? ⟨gb129,1,none⟩=some (.int .u32 ((rd_T81 l0 x10_1).f1))∧w'.cell? ⟨gb129,2,none⟩=some (.int .u32 ((rd_T81 l0 x10_1).f2))∧w'.cell? ⟨gb129,3,none⟩=some (.int .u32 ((rd_T81 l0 x10_1).f3))∧w'.cell? ⟨gb129,4,none⟩=some (.int .u32 ((rd_T81 l0 x10_1).f4))) [] ⟨(blk_cell BK129.out 0).trans rfl,(blk_cell BK129.out 1).trans rfl,(blk_cell BK129.out 2).trans rfl,(blk_cell BK129.out 3).trans rfl,(blk_cell BK129.out 4).trans rfl⟩ (fun hHeld=>?_);refine with_tabW share_Right.tab6 share_Right.bits6 (fun HT_ HW_=>?_);generalize w13.drew=w14 at BK129 HB hHeld ⊢;refine rt 0 (some 15) ?_;refine ro 1 (some 16) (fun K hK=>?_);refine cr Tryz.func192 #[.agg #[.int .u32 ((rd_T81 l0 x10_1).f0),.int .u32 ((rd_T81 l0 x10_1).f1),.int .u32 ((rd_T81 l0 x10_1).f2),.int .u32 ((rd_T81 l0 x10_1).f3),.int .u32 ((rd_T81 l0 x10_1).f4)]] ?_;with_reducible refine (share_one.calls ((rd_T81 l0 x10_1).f0) ((rd_T81 l0 x10_1).f1) ((rd_T81 l0 x10_1).f2) ((rd_T81 l0 x10_1).f3) ((rd_T81 l0 x10_1).f4) true _ A9.out).mono ?_
          rintro e w15 ⟨rfl,hb⟩;refine ⟨_,rfl,?_⟩;replace BK129:=Aside0.mk (kb BK129 hb);replace HB:=Aside0.mk (below_step bD hb)
          (try clear hb)
          (try clear hb2)
          (try clear hk)
          (try clear hi)
          refine hK.out _ _ ⟨(blk_cell BK129.out 0).trans rfl,(blk_cell BK129.out 1).trans rfl,(blk_cell BK129.out 2).trans rfl,(blk_cell BK129.out 3).trans rfl,(blk_cell BK129.out 4).trans rfl⟩ (fun hHeld=>?_);clear hK K;refine rn ?_;refine rp 2 (some 17) ?_;refine rp 3 (some 18) ?_;refine rp 4 (some 19) ?_;refine rp 5 (some 20) ?_;refine rt 6 (some 21) ?_;refine ro 7 (some 22) (fun K hK=>?_);refine cr Tryz.func193 #[.slice (some ad128) l0.length c0,.int .u32 ((rd_T81 l0 x10_1).f0)] ?_;with_reducible refine (share_mine.calls _ _ l0 ((rd_T81 l0 x10_1).f0) t131 _ ?side1 ?side2 A11.out).mono ?_
          (case side1=>exact cD)
          (case side2=>exact HC0.out)
          rintro e w16 ⟨rfl,hb⟩;refine ⟨_,rfl,?_⟩;replace BK129:=Aside0.mk (kb BK129 hb);replace HB:=Aside0.mk (below_step bD hb)
          (try clear hb)
          (try clear hb2)
          (try clear hk)
          (try clear hi)
          refine hK.out _ _ ⟨(blk_cell BK129.out 0).trans rfl,(blk_cell BK129.out 1).trans rfl,(blk_cell BK129.out 2).trans rfl,(blk_cell BK129.out 3).trans rfl,(blk_cell BK129.out 4).trans rfl⟩ (fun hHeld=>?_);clear hK K;refine rn ?_;refine rp 8 (some 23) ?_;refine rp 9 (some 24) ?_;refine rp 10 (some 25) ?_;refine rx 11 (some 26) ?_;refine rx 12 (some 27) ?_;refine rx 13 (some 28) ?_;refine rx 14 (some 29) ?_;refine rx 15 (some 30) ?_;refine rx 16 (some 31) ?_;refine rx 17 (some 32) ?_;refine rx 18 (some 33) ?_;refine rx 19 (some 34) ?_;refine rx 20 (some 35) ?_;refine rx 21 (some 36) ?_;refine rx 22 (some 37) ?_;refine rp 23 (some 38) ?_;refine done_ (done_of HT_.out (by kernel_rfl)) ?_
          try go_wp2
          go_meet
          case rel=>exact ⟨_,(true),eS,H',⟨by have:=HK1.out;first|omega|exact Nat.le_refl _⟩,⟨kD⟩,⟨bD⟩⟩
         ·rw [if_neg c12] at H;have c12b0:=decide_eq_false c12;clear c12
          (first|rw [c12b0]|(simp only [i64_w,i32_w];rw [c12b0])|skip)
          by_cases c17:x10_1>0
          ·rw [if_pos c17] at H;have c17b0:=decide_eq_true c17;clear c17;obtain ⟨ji18,hji18⟩ : ∃ j_:Int,(wrap64 (x10_1-1))=j_:=⟨_,rfl⟩;replace H:(if 0≤(ji18) then (if (ji18)<(l0.length:Int) then ((share_order.f k1 ((rd_T81 l0 (ji18)).f0) ((rd_T81 l0 (ji18)).f1) ((rd_T81 l0 (ji18)).f2) ((rd_T81 l0 (ji18)).f3) ((rd_T81 l0 (ji18)).f4) ((rd_T81 l0 x10_1).f0) ((rd_T81 l0 x10_1).f1) ((rd_T81 l0 x10_1).f2) ((rd_T81 l0 x10_1).f3) ((rd_T81 l0 x10_1).f4)).bind fun t133=>(share_Right.j1 k1 l0 x10_1 l0 (l0.length:Int) x10_1 (decide (t133≥0)) ((rd_T81 l0 x10_1).f0) ((rd_T81 l0 x10_1).f1) ((rd_T81 l0 x10_1).f2) ((rd_T81 l0 x10_1).f3) ((rd_T81 l0 x10_1).f4))) else (none)) else (none))=some r:=by first|(rw [hji18] at H;exact H)|(simp only [hji18] at H ⊢;exact H)
           (try rw [hji18] at A9)
           (try rw [hji18] at A11)
           have hji18w:(IntKind.i64.wrap (x10_1-1))=ji18:=(i64_w _).trans hji18;by_cases c19:0≤(ji18)
           ·rw [if_pos c19] at H;have c19b0:=decide_eq_true c19;clear c19;by_cases c20:(ji18)<(l0.length:Int)
            ·rw [if_pos c20] at H;have c20b0:=decide_eq_true c20;clear c20;replace H:=Option.bind_eq_some_iff.mp H;obtain ⟨t133,A210,H⟩:=H;replace H:(share_Right.j1 k1 l0 x10_1 l0 (l0.length:Int) x10_1 (decide (t133≥0)) ((rd_T81 l0 x10_1).f0) ((rd_T81 l0 x10_1).f1) ((rd_T81 l0 x10_1).f2) ((rd_T81 l0 x10_1).f3) ((rd_T81 l0 x10_1).f4))=some r:=H;have A21:=Aside0.mk A210;clear A210;have H':=Aside0.mk H;clear H;try go_wp2
             have n0_:Aside0 ((((((w7.setCell ⟨gb129,0,none⟩ (.int .u32 ((rd_T81 l0 x10_1).f0))).setCell ⟨gb129,1,none⟩ (.int .u32 ((rd_T81 l0 x10_1).f1))).setCell ⟨gb129,2,none⟩ (.int .u32 ((rd_T81 l0 x10_1).f2))).setCell ⟨gb129,3,none⟩ (.int .u32 ((rd_T81 l0 x10_1).f3))).setCell ⟨gb129,4,none⟩ (.int .u32 ((rd_T81 l0 x10_1).f4))).heap[gb129]?=some (.cells #[.int .u32 ((rd_T81 l0 x10_1).f0),.int .u32 ((rd_T81 l0 x10_1).f1),.int .u32 ((rd_T81 l0 x10_1).f2),.int .u32 ((rd_T81 l0 x10_1).f3),.int .u32 ((rd_T81 l0 x10_1).f4)] 81 (0,0))):=⟨p5⟩;have n1_:Aside0 (Below w.heap.size w (((((w7.setCell ⟨gb129,0,none⟩ (.int .u32 ((rd_T81 l0 x10_1).f0))).setCell ⟨gb129,1,none⟩ (.int .u32 ((rd_T81 l0 x10_1).f1))).setCell ⟨gb129,2,none⟩ (.int .u32 ((rd_T81 l0 x10_1).f2))).setCell ⟨gb129,3,none⟩ (.int .u32 ((rd_T81 l0 x10_1).f3))).setCell ⟨gb129,4,none⟩ (.int .u32 ((rd_T81 l0 x10_1).f4)))):=⟨bD⟩
             (try clear BK129)
             (try clear HB)
             generalize (((((w7.setCell ⟨gb129,0,none⟩ (.int .u32 ((rd_T81 l0 x10_1).f0))).setCell ⟨gb129,1,none⟩ (.int .u32 ((rd_T81 l0 x10_1).f1))).setCell ⟨gb129,2,none⟩ (.int .u32 ((rd_T81 l0 x10_1).f2))).setCell ⟨gb129,3,none⟩ (.int .u32 ((rd_T81 l0 x10_1).f3))).setCell ⟨gb129,4,none⟩ (.int .u32 ((rd_T81 l0 x10_1).f4)))=w22 at n0_ n1_ ⊢;have BK129:=n0_;have HB:=n1_;clear n0_ n1_;replace BK129:=Aside0.mk (blk_drew BK129.out);replace HB:=Aside0.mk (below_drew1 HB.out);have p132:0≤((ji18):Int):=pA;have q132:(ji18)<(l0.length:Int):=pA;obtain ⟨ad132,e132,hx132_0,hx132_1,hx132_2,hx132_3,hx132_4⟩:=at_T81 HR0.out (ji18) p132 q132;have hw132_4:=hx132_4;have hw132_3:=hx132_3;have hw132_2:=hx132_2;have hw132_1:=hx132_1;have hw132_0:=hx132_0;obtain rfl:ad128=ad132:=(by injection e132)
             replace hx132_0:=cB hx132_0;replace hx132_1:=cB hx132_1;replace hx132_2:=cB hx132_2;replace hx132_3:=cB hx132_3;replace hx132_4:=cB hx132_4;replace p132:=eq_true p132;replace q132:=eq_true q132;refine rs 24 (fun w'=>w'.cell? ⟨gb129,0,none⟩=some (.int .u32 ((rd_T81 l0 x10_1).f0))∧w'.cell? ⟨gb129,1,none⟩=some (.int .u32 ((rd_T81 l0 x10_1).f1))∧w'.cell? ⟨gb129,2,none⟩=some (.int .u32 ((rd_T81 l0 x10_1).f2))∧w'.cell? ⟨gb129,3,none⟩=some (.int .u32 ((rd_T81 l0 x10_1).f3))∧w'.cell? ⟨gb129,4,none⟩=some (.int .u32 ((rd_T81 l0 x10_1).f4))∧w'.cell? (ad128.add (((ji18)).toNat*5))=some (.int .u32 ((rd_T81 l0 (ji18)).f0))∧w'.cell? ⟨(ad128.add (((ji18)).toNat*5)).block,(ad128.add (((ji18)).toNat*5)).off+1,none⟩=some (.int .u32 ((rd_T81 l0 (ji18)).f1))∧w'.cell? ⟨(ad128.add (((ji18)).toNat*5)).block,(ad128.add (((ji18)).toNat*5)).off+2,none⟩=some (.int .u32 ((rd_T81 l0 (ji18)).f2))∧w'.cell? ⟨(ad128.add (((ji18)).toNat*5)).block,(ad128.add (((ji18)).toNat*5)).off+3,none⟩=some (.int .u32 ((rd_T81 l0 (ji18)).f3))∧w'.cell? ⟨(ad128.add (((ji18)).toNat*5)).block,(ad128.add (((ji18)).toNat*5)).off+4,none⟩=some (.int .u32 ((rd_T81 l0 (ji18)).f4))) [] ⟨(blk_cell BK129.out 0).trans rfl,(blk_cell BK129.out 1).trans rfl,(blk_cell BK129.out 2).trans rfl,(blk_cell BK129.out 3).trans rfl,(blk_cell BK129.out 4).trans rfl,((HB.out.cell (bl hw132_0)).trans hw132_0),((HB.out.cell (bl hw132_1)).trans hw132_1),((HB.out.cell (bl hw132_2)).trans hw132_2),((HB.out.cell (bl hw132_3)).trans hw132_3),((HB.out.cell (bl hw132_4)).trans hw132_4)⟩ (fun hHeld=>?_);refine with_tabW share_Right.tab6 share_Right.bits6 (fun HT_ HW_=>?_);generalize w22.drew=w23 at BK129 HB hx132_0 hx132_1 hx132_2 hx132_3 hx132_4 hHeld ⊢;refine rt 0 (some 15) ?_;refine ro 1 (some 16) (fun K hK=>?_);refine cr Tryz.func192 #[.agg #[.int .u32 ((rd_T81 l0 x10_1).f0),.int .u32 ((rd_T81 l0 x10_1).f1),.int .u32 ((rd_T81 l0 x10_1).f2),.int .u32 ((rd_T81 l0 x10_1).f3),.int .u32 ((rd_T81 l0 x10_1).f4)]] ?_;with_reducible refine (share_one.calls ((rd_T81 l0 x10_1).f0) ((rd_T81 l0 x10_1).f1) ((rd_T81 l0 x10_1).f2) ((rd_T81 l0 x10_1).f3) ((rd_T81 l0 x10_1).f4) true _ A9.out).mono ?_
             rintro e w24 ⟨rfl,hb⟩;refine ⟨_,rfl,?_⟩;replace BK129:=Aside0.mk (kb BK129 hb);replace HB:=Aside0.mk (below_step bD hb)
             (try clear hb)
             (try clear hb2)
             (try clear hk)
             (try clear hi)
             refine hK.out _ _ ⟨(blk_cell BK129.out 0).trans rfl,(blk_cell BK129.out 1).trans rfl,(blk_cell BK129.out 2).trans rfl,(blk_cell BK129.out 3).trans rfl,(blk_cell BK129.out 4).trans rfl,((HB.out.cell (bl hw132_0)).trans hw132_0),((HB.out.cell (bl hw132_1)).trans hw132_1),((HB.out.cell (bl hw132_2)).trans hw132_2),((HB.out.cell (bl hw132_3)).trans hw132_3),((HB.out.cell (bl hw132_4)).trans hw132_4)⟩ (fun hHeld=>?_);clear hK K;refine rn ?_;refine rp 2 (some 17) ?_;refine rp 3 (some 18) ?_;refine rp 4 (some 19) ?_;refine rp 5 (some 20) ?_;refine rt 6 (some 21) ?_;refine ro 7 (some 22) (fun K hK=>?_);refine cr Tryz.func193 #[.slice (some ad128) l0.length c0,.int .u32 ((rd_T81 l0 x10_1).f0)] ?_;with_reducible refine (share_mine.calls _ _ l0 ((rd_T81 l0 x10_1).f0) t131 _ ?side1 ?side2 A11.out).mono ?_
             (case side1=>exact cD)
             (case side2=>exact HC0.out)
             rintro e w25 ⟨rfl,hb⟩;refine ⟨_,rfl,?_⟩;replace BK129:=Aside0.mk (kb BK129 hb);replace HB:=Aside0.mk (below_step bD hb)
             (try clear hb)
             (try clear hb2)
             (try clear hk)
             (try clear hi)
             refine hK.out _ _ ⟨(blk_cell BK129.out 0).trans rfl,(blk_cell BK129.out 1).trans rfl,(blk_cell BK129.out 2).trans rfl,(blk_cell BK129.out 3).trans rfl,(blk_cell BK129.out 4).trans rfl,((HB.out.cell (bl hw132_0)).trans hw132_0),((HB.out.cell (bl hw132_1)).trans hw132_1),((HB.out.cell (bl hw132_2)).trans hw132_2),((HB.out.cell (bl hw132_3)).trans hw132_3),((HB.out.cell (bl hw132_4)).trans hw132_4)⟩ (fun hHeld=>?_);clear hK K;refine rn ?_;refine rp 8 (some 23) ?_;refine rp 9 (some 24) ?_;refine rp 10 (some 25) ?_;refine rp 11 (some 26) ?_;refine rp 12 (some 27) ?_;refine rp 13 (some 28) ?_;refine rp 14 (some 29) ?_;refine rp 15 (some 30) ?_;refine rp 16 (some 31) ?_;refine rp 17 (some 32) ?_;refine rt 18 (some 33) ?_;refine rt 19 (some 34) ?_;refine ro 20 (some 35) (fun K hK=>?_);refine goes_ Tryz.func194 (by kernel_rfl) rfl #[.agg #[.int .u32 ((rd_T81 l0 (ji18)).f0),.int .u32 ((rd_T81 l0 (ji18)).f1),.int .u32 ((rd_T81 l0 (ji18)).f2),.int .u32 ((rd_T81 l0 (ji18)).f3),.int .u32 ((rd_T81 l0 (ji18)).f4)],.agg #[.int .u32 ((rd_T81 l0 x10_1).f0),.int .u32 ((rd_T81 l0 x10_1).f1),.int .u32 ((rd_T81 l0 x10_1).f2),.int .u32 ((rd_T81 l0 x10_1).f3),.int .u32 ((rd_T81 l0 x10_1).f4)]] (by rfl) rfl rfl (by (try simp only [List.map_toArray,List.map_cons,List.map_nil]);first|done|(simp only [hji18];rfl)|rfl|(simp only [List.length_drop,List.length_take];rfl)) ?_
             with_reducible refine (share_order.calls k1 ((rd_T81 l0 (ji18)).f0) ((rd_T81 l0 (ji18)).f1) ((rd_T81 l0 (ji18)).f2) ((rd_T81 l0 (ji18)).f3) ((rd_T81 l0 (ji18)).f4) ((rd_T81 l0 x10_1).f0) ((rd_T81 l0 x10_1).f1) ((rd_T81 l0 x10_1).f2) ((rd_T81 l0 x10_1).f3) ((rd_T81 l0 x10_1).f4) t133 _ A21.out).mono ?_
             rintro e w26 ⟨rfl,hb⟩;refine ⟨_,rfl,?_⟩;replace BK129:=Aside0.mk (kb BK129 hb);replace HB:=Aside0.mk (below_step bD hb)
             (try clear hb)
             (try clear hb2)
             (try clear hk)
             (try clear hi)
             refine hK.out _ _ ⟨(blk_cell BK129.out 0).trans rfl,(blk_cell BK129.out 1).trans rfl,(blk_cell BK129.out 2).trans rfl,(blk_cell BK129.out 3).trans rfl,(blk_cell BK129.out 4).trans rfl,((HB.out.cell (bl hw132_0)).trans hw132_0),((HB.out.cell (bl hw132_1)).trans hw132_1),((HB.out.cell (bl hw132_2)).trans hw132_2),((HB.out.cell (bl hw132_3)).trans hw132_3),((HB.out.cell (bl hw132_4)).trans hw132_4)⟩ (fun hHeld=>?_);clear hK K;refine rn ?_;refine rp 21 (some 36) ?_;refine rp 22 (some 37) ?_;refine rp 23 (some 38) ?_;refine done_ (done_of HT_.out (by kernel_rfl)) ?_
             try go_wp2
             go_meet
             case rel=>exact ⟨_,(decide (t133≥0)),eS,H',⟨by have:=HK1.out;first|omega|exact Nat.le_refl _⟩,⟨kD⟩,⟨bD⟩⟩
            ·rw [if_neg c20] at H;exact absurd H (by simp)
           ·rw [if_neg c19] at H;exact absurd H (by simp)
          ·rw [if_neg c17] at H;have c17b0:=decide_eq_false c17;clear c17;have H':=Aside0.mk H;clear H;try go_wp2
           have n0_:Aside0 ((((((w7.setCell ⟨gb129,0,none⟩ (.int .u32 ((rd_T81 l0 x10_1).f0))).setCell ⟨gb129,1,none⟩ (.int .u32 ((rd_T81 l0 x10_1).f1))).setCell ⟨gb129,2,none⟩ (.int .u32 ((rd_T81 l0 x10_1).f2))).setCell ⟨gb129,3,none⟩ (.int .u32 ((rd_T81 l0 x10_1).f3))).setCell ⟨gb129,4,none⟩ (.int .u32 ((rd_T81 l0 x10_1).f4))).heap[gb129]?=some (.cells #[.int .u32 ((rd_T81 l0 x10_1).f0),.int .u32 ((rd_T81 l0 x10_1).f1),.int .u32 ((rd_T81 l0 x10_1).f2),.int .u32 ((rd_T81 l0 x10_1).f3),.int .u32 ((rd_T81 l0 x10_1).f4)] 81 (0,0))):=⟨p5⟩;have n1_:Aside0 (Below w.heap.size w (((((w7.setCell ⟨gb129,0,none⟩ (.int .u32 ((rd_T81 l0 x10_1).f0))).setCell ⟨gb129,1,none⟩ (.int .u32 ((rd_T81 l0 x10_1).f1))).setCell ⟨gb129,2,none⟩ (.int .u32 ((rd_T81 l0 x10_1).f2))).setCell ⟨gb129,3,none⟩ (.int .u32 ((rd_T81 l0 x10_1).f3))).setCell ⟨gb129,4,none⟩ (.int .u32 ((rd_T81 l0 x10_1).f4)))):=⟨bD⟩
           (try clear BK129)
           (try clear HB)
           generalize (((((w7.setCell ⟨gb129,0,none⟩ (.int .u32 ((rd_T81 l0 x10_1).f0))).setCell ⟨gb129,1,none⟩ (.int .u32 ((rd_T81 l0 x10_1).f1))).setCell ⟨gb129,2,none⟩ (.int .u32 ((rd_T81 l0 x10_1).f2))).setCell ⟨gb129,3,none⟩ (.int .u32 ((rd_T81 l0 x10_1).f3))).setCell ⟨gb129,4,none⟩ (.int .u32 ((rd_T81 l0 x10_1).f4)))=w27 at n0_ n1_ ⊢;have BK129:=n0_;have HB:=n1_;clear n0_ n1_;replace BK129:=Aside0.mk (blk_drew BK129.out);replace HB:=Aside0.mk (below_drew1 HB.out);refine rs 24 (fun w'=>w'.cell? ⟨gb129,0,none⟩=some (.int .u32 ((rd_T81 l0 x10_1).f0))∧w'.cell? ⟨gb129,1,none⟩=some (.int .u32 ((rd_T81 l0 x10_1).f1))∧w'.cell? ⟨gb129,2,none⟩=some (.int .u32 ((rd_T81 l0 x10_1).f2))∧w'.cell? ⟨gb129,3,none⟩=some (.int .u32 ((rd_T81 l0 x10_1).f3))∧w'.cell? ⟨gb129,4,none⟩=some (.int .u32 ((rd_T81 l0 x10_1).f4))) [] ⟨(blk_cell BK129.out 0).trans rfl,(blk_cell BK129.out 1).trans rfl,(blk_cell BK129.out 2).trans rfl,(blk_cell BK129.out 3).trans rfl,(blk_cell BK129.out 4).trans rfl⟩ (fun hHeld=>?_);refine with_tabW share_Right.tab6 share_Right.bits6 (fun HT_ HW_=>?_);generalize w27.drew=w28 at BK129 HB hHeld ⊢;refine rt 0 (some 15) ?_;refine ro 1 (some 16) (fun K hK=>?_);refine cr Tryz.func192 #[.agg #[.int .u32 ((rd_T81 l0 x10_1).f0),.int .u32 ((rd_T81 l0 x10_1).f1),.int .u32 ((rd_T81 l0 x10_1).f2),.int .u32 ((rd_T81 l0 x10_1).f3),.int .u32 ((rd_T81 l0 x10_1).f4)]] ?_;with_reducible refine (share_one.calls ((rd_T81 l0 x10_1).f0) ((rd_T81 l0 x10_1).f1) ((rd_T81 l0 x10_1).f2) ((rd_T81 l0 x10_1).f3) ((rd_T81 l0 x10_1).f4) true _ A9.out).mono ?_
           rintro e w29 ⟨rfl,hb⟩;refine ⟨_,rfl,?_⟩;replace BK129:=Aside0.mk (kb BK129 hb);replace HB:=Aside0.mk (below_step bD hb)
           (try clear hb)
           (try clear hb2)
           (try clear hk)
           (try clear hi)
           refine hK.out _ _ ⟨(blk_cell BK129.out 0).trans rfl,(blk_cell BK129.out 1).trans rfl,(blk_cell BK129.out 2).trans rfl,(blk_cell BK129.out 3).trans rfl,(blk_cell BK129.out 4).trans rfl⟩ (fun hHeld=>?_);clear hK K;refine rn ?_;refine rp 2 (some 17) ?_;refine rp 3 (some 18) ?_;refine rp 4 (some 19) ?_;refine rp 5 (some 20) ?_;refine rt 6 (some 21) ?_;refine ro 7 (some 22) (fun K hK=>?_);refine cr Tryz.func193 #[.slice (some ad128) l0.length c0,.int .u32 ((rd_T81 l0 x10_1).f0)] ?_;with_reducible refine (share_mine.calls _ _ l0 ((rd_T81 l0 x10_1).f0) t131 _ ?side1 ?side2 A11.out).mono ?_
           (case side1=>exact cD)
           (case side2=>exact HC0.out)
           rintro e w30 ⟨rfl,hb⟩;refine ⟨_,rfl,?_⟩;replace BK129:=Aside0.mk (kb BK129 hb);replace HB:=Aside0.mk (below_step bD hb)
           (try clear hb)
           (try clear hb2)
           (try clear hk)
           (try clear hi)
           refine hK.out _ _ ⟨(blk_cell BK129.out 0).trans rfl,(blk_cell BK129.out 1).trans rfl,(blk_cell BK129.out 2).trans rfl,(blk_cell BK129.out 3).trans rfl,(blk_cell BK129.out 4).trans rfl⟩ (fun hHeld=>?_);clear hK K;refine rn ?_;refine rp 8 (some 23) ?_;refine rp 9 (some 24) ?_;refine rp 10 (some 25) ?_;refine rp 11 (some 26) ?_;refine rp 12 (some 27) ?_;refine rp 13 (some 28) ?_;refine rx 14 (some 29) ?_;refine rx 15 (some 30) ?_;refine rx 16 (some 31) ?_;refine rx 17 (some 32) ?_;refine rx 18 (some 33) ?_;refine rx 19 (some 34) ?_;refine rx 20 (some 35) ?_;refine rx 21 (some 36) ?_;refine rp 22 (some 37) ?_;refine rp 23 (some 38) ?_;refine done_ (done_of HT_.out (by kernel_rfl)) ?_
           try go_wp2
           go_meet
           case rel=>exact ⟨_,(false),eS,H',⟨by have:=HK1.out;first|omega|exact Nat.le_refl _⟩,⟨kD⟩,⟨bD⟩⟩
        ·replace c10:=Bool.eq_false_iff.mpr c10;subst c10;replace H:=ifFF H;have H':=Aside0.mk H;clear H;try go_wp2
         have n0_:Aside0 ((((((w7.setCell ⟨gb129,0,none⟩ (.int .u32 ((rd_T81 l0 x10_1).f0))).setCell ⟨gb129,1,none⟩ (.int .u32 ((rd_T81 l0 x10_1).f1))).setCell ⟨gb129,2,none⟩ (.int .u32 ((rd_T81 l0 x10_1).f2))).setCell ⟨gb129,3,none⟩ (.int .u32 ((rd_T81 l0 x10_1).f3))).setCell ⟨gb129,4,none⟩ (.int .u32 ((rd_T81 l0 x10_1).f4))).heap[gb129]?=some (.cells #[.int .u32 ((rd_T81 l0 x10_1).f0),.int .u32 ((rd_T81 l0 x10_1).f1),.int .u32 ((rd_T81 l0 x10_1).f2),.int .u32 ((rd_T81 l0 x10_1).f3),.int .u32 ((rd_T81 l0 x10_1).f4)] 81 (0,0))):=⟨p5⟩;have n1_:Aside0 (Below w.heap.size w (((((w7.setCell ⟨gb129,0,none⟩ (.int .u32 ((rd_T81 l0 x10_1).f0))).setCell ⟨gb129,1,none⟩ (.int .u32 ((rd_T81 l0 x10_1).f1))).setCell ⟨gb129,2,none⟩ (.int .u32 ((rd_T81 l0 x10_1).f2))).setCell ⟨gb129,3,none⟩ (.int .u32 ((rd_T81 l0 x10_1).f3))).setCell ⟨gb129,4,none⟩ (.int .u32 ((rd_T81 l0 x10_1).f4)))):=⟨bD⟩
         (try clear BK129)
         (try clear HB)
         generalize (((((w7.setCell ⟨gb129,0,none⟩ (.int .u32 ((rd_T81 l0 x10_1).f0))).setCell ⟨gb129,1,none⟩ (.int .u32 ((rd_T81 l0 x10_1).f1))).setCell ⟨gb129,2,none⟩ (.int .u32 ((rd_T81 l0 x10_1).f2))).setCell ⟨gb129,3,none⟩ (.int .u32 ((rd_T81 l0 x10_1).f3))).setCell ⟨gb129,4,none⟩ (.int .u32 ((rd_T81 l0 x10_1).f4)))=w31 at n0_ n1_ ⊢;have BK129:=n0_;have HB:=n1_;clear n0_ n1_;replace BK129:=Aside0.mk (blk_drew BK129.out);replace HB:=Aside0.mk (below_drew1 HB.out);refine rs 24 (fun w'=>w'.cell? ⟨gb129,0,none⟩=some (.int .u32 ((rd_T81 l0 x10_1).f0))∧w'.cell? ⟨gb129,1,none⟩=some (.int .u32 ((rd_T81 l0 x10_1).f1))∧w'.cell? ⟨gb129,2,none⟩=some (.int .u32 ((rd_T81 l0 x10_1).f2))∧w'.cell? ⟨gb129,3,none⟩=some (.int .u32 ((rd_T81 l0 x10_1).f3))∧w'.cell? ⟨gb129,4,none⟩=some (.int .u32 ((rd_T81 l0 x10_1).f4))) [] ⟨(blk_cell BK129.out 0).trans rfl,(blk_cell BK129.out 1).trans rfl,(blk_cell BK129.out 2).trans rfl,(blk_cell BK129.out 3).trans rfl,(blk_cell BK129.out 4).trans rfl⟩ (fun hHeld=>?_);refine with_tabW share_Right.tab6 share_Right.bits6 (fun HT_ HW_=>?_);generalize w31.drew=w32 at BK129 HB hHeld ⊢;refine rt 0 (some 15) ?_;refine ro 1 (some 16) (fun K hK=>?_);refine cr Tryz.func192 #[.agg #[.int .u32 ((rd_T81 l0 x10_1).f0),.int .u32 ((rd_T81 l0 x10_1).f1),.int .u32 ((rd_T81 l0 x10_1).f2),.int .u32 ((rd_T81 l0 x10_1).f3),.int .u32 ((rd_T81 l0 x10_1).f4)]] ?_;with_reducible refine (share_one.calls ((rd_T81 l0 x10_1).f0) ((rd_T81 l0 x10_1).f1) ((rd_T81 l0 x10_1).f2) ((rd_T81 l0 x10_1).f3) ((rd_T81 l0 x10_1).f4) false _ A9.out).mono ?_
         rintro e w33 ⟨rfl,hb⟩;refine ⟨_,rfl,?_⟩;replace BK129:=Aside0.mk (kb BK129 hb);replace HB:=Aside0.mk (below_step bD hb)
         (try clear hb)
         (try clear hb2)
         (try clear hk)
         (try clear hi)
         refine hK.out _ _ ⟨(blk_cell BK129.out 0).trans rfl,(blk_cell BK129.out 1).trans rfl,(blk_cell BK129.out 2).trans rfl,(blk_cell BK129.out 3).trans rfl,(blk_cell BK129.out 4).trans rfl⟩ (fun hHeld=>?_);clear hK K;refine rn ?_;refine rp 2 (some 17) ?_;refine rp 3 (some 18) ?_;refine rx 4 (some 19) ?_;refine rx 5 (some 20) ?_;refine rx 6 (some 21) ?_;refine rx 7 (some 22) ?_;refine rx 8 (some 23) ?_;refine rp 9 (some 24) ?_;refine rp 10 (some 25) ?_;refine rx 11 (some 26) ?_;refine rx 12 (some 27) ?_;refine rx 13 (some 28) ?_;refine rx 14 (some 29) ?_;refine rx 15 (some 30) ?_;refine rx 16 (some 31) ?_;refine rx 17 (some 32) ?_;refine rx 18 (some 33) ?_;refine rx 19 (some 34) ?_;refine rx 20 (some 35) ?_;refine rx 21 (some 36) ?_;refine rx 22 (some 37) ?_;refine rp 23 (some 38) ?_;refine done_ (done_of HT_.out (by kernel_rfl)) ?_
         try go_wp2
         go_meet
         case rel=>exact ⟨_,(true),eS,H',⟨by have:=HK1.out;first|omega|exact Nat.le_refl _⟩,⟨kD⟩,⟨bD⟩⟩
       case rest =>
        clear HC6
        (try clear c1;try clear c2;try clear p2;try clear c10;try clear c17;try clear c17b0;try clear c19;try clear c20)
        obtain ⟨kq,x38_5,rfl,HA,HJ5,BK129,HB⟩:=hcut;cases kq with
        | zero=>exact absurd HA.out (by simp [share_Right.j1])
        | succ kj5 =>
         have H:=HA.out;clear HA;simp only [share_Right.j1] at H;by_cases c34:x38_5=true
         ·subst c34;replace H:=ifTT H;obtain rfl:=Option.some.inj H;go_wp2
          go_ret
          exact ⟨eE,bD⟩
         ·replace c34:=Bool.eq_false_iff.mpr c34;subst c34;replace H:=ifFF H;by_cases c35:0≤x10_1
          ·rw [if_pos c35] at H;have c35b0:=eq_true c35;have c35b1:=decide_eq_true c35;clear c35;by_cases c36:x10_1≤(l0.length:Int)
           ·rw [if_pos c36] at H;have c36b0:=eq_true c36;have c36b1:=decide_eq_true c36;clear c36;obtain ⟨y134,hy134⟩ : ∃ y_:List (S81),y_=(l0.take (x10_1:Int).toNat):=⟨_,rfl⟩;replace H:((share_any.f y134 ((rd_T81 l0 x10_1).f0) ((rd_T81 l0 x10_1).f1) ((rd_T81 l0 x10_1).f2) ((rd_T81 l0 x10_1).f3) ((rd_T81 l0 x10_1).f4)).bind fun t138=>(if t138=true then (some false) else (share_Right.l0 kj5 l0 l0 (l0.length:Int) (wrap64 (x10_1+1)))))=some r:=by first|(rw [hy134];with_reducible exact H)|(have H2_:=(Option.bind_some _ _).symm.trans H;rw [hy134];with_reducible exact H2_)|(have H2_:=(Option.bind_some _ _).symm.trans H;with_reducible exact H2_)|with_reducible exact H|(rw [hy134];exact H)|exact H
            have Ny134:=Aside0.mk hy134;clear hy134;replace H:=Option.bind_eq_some_iff.mp H;obtain ⟨t138,A370,H⟩:=H;replace H:(if t138=true then (some false) else (share_Right.l0 kj5 l0 l0 (l0.length:Int) (wrap64 (x10_1+1))))=some r:=H
            have A37:=Aside0.mk A370;clear A370;by_cases c38:t138=true
            ·subst c38;replace H:=ifTT H;obtain rfl:=Option.some.inj H;have q39:(x10_1:Int)≤((l0.length:Int):Int):=pA;obtain ⟨i039,hi039,_,hsz39,_⟩:=info_parts info81;have hroom39:l0.length≤c0:=HC0.out;have hC39:Kd.C k81 _ (some ad128) l0.length l0:=HR0.out;have hcut39:=cut_to (P:=Tryz.prog) 26 81 .i64 Tryz.underlying26 hi039 (some ad128) l0.length c0 x10_1 pA q39 hroom39;have hr39:=Kd.C_take (m:=(x10_1:Int).toNat) hC39 (by omega)
             have hy39:y134.length=(x10_1:Int).toNat:=(by rw [Ny134.out,List.length_take];omega)
             rw [← Ny134.out] at hr39;rw [← hy39] at hcut39;have HR137:=Aside0.mk hr39;have HC137:=Aside0.mk (show y134.length≤c0 from by omega)
             clear hr39 hC39 hroom39 hi039 hsz39;have KY39:=Aside0.mk hy39;clear hy39;replace q39:=eq_true q39;obtain ⟨hcz40_0,hcz40_1,hcz40_2,hcz40_3,hcz40_4⟩:=cc5 BK129.out;obtain ⟨hfz40_0,hfz40_1,hfz40_2,hfz40_3,hfz40_4⟩:=ff5 BK129.out;go_wp2_with (first|((with_reducible refine gate_callee (f:=119) rfl ?_);refine ca (some 43) Tryz.func119 #[.slice (some ad128) y134.length c0,.func (.func 195) #[] #[.pointer (some ⟨gb129,0,none⟩)]] ?_;(with_reducible refine (share_any.calls _ _ y134 ((rd_T81 l0 x10_1).f0) ((rd_T81 l0 x10_1).f1) ((rd_T81 l0 x10_1).f2) ((rd_T81 l0 x10_1).f3) ((rd_T81 l0 x10_1).f4) true _ ?side1 ?side2 A37.out ?sideB).mono ?_);(case sideB=>first|exact BK129.out|exact blk_drewN BK129.out _|exact blk_drew BK129.out);(case side1=>exact cD);(case side2=>exact HC137.out);rintro e w41 ⟨rfl,hb⟩;refine ⟨_,rfl,?_⟩;replace BK129:=Aside0.mk (kb BK129 hb);replace HB:=Aside0.mk (below_step bD hb);(try clear hb);(try clear hb2);(try clear hk);(try clear hi)))
             go_ret
             exact ⟨eE,bD⟩
            ·replace c38:=Bool.eq_false_iff.mpr c38;subst c38;replace H:=ifFF H;have H':=Aside0.mk H;clear H;have q42:(x10_1:Int)≤((l0.length:Int):Int):=pA;obtain ⟨i042,hi042,_,hsz42,_⟩:=info_parts info81;have hroom42:l0.length≤c0:=HC0.out;have hC42:Kd.C k81 _ (some ad128) l0.length l0:=HR0.out;have hcut42:=cut_to (P:=Tryz.prog) 26 81 .i64 Tryz.underlying26 hi042 (some ad128) l0.length c0 x10_1 pA q42 hroom42;have hr42:=Kd.C_take (m:=(x10_1:Int).toNat) hC42 (by omega)
             have hy42:y134.length=(x10_1:Int).toNat:=(by rw [Ny134.out,List.length_take];omega)
             rw [← Ny134.out] at hr42;rw [← hy42] at hcut42;have HR137:=Aside0.mk hr42;have HC137:=Aside0.mk (show y134.length≤c0 from by omega)
             clear hr42 hC42 hroom42 hi042 hsz42;have KY42:=Aside0.mk hy42;clear hy42;replace q42:=eq_true q42;obtain ⟨hcz43_0,hcz43_1,hcz43_2,hcz43_3,hcz43_4⟩:=cc5 BK129.out;obtain ⟨hfz43_0,hfz43_1,hfz43_2,hfz43_3,hfz43_4⟩:=ff5 BK129.out;go_wp2_with (first|((with_reducible refine gate_callee (f:=119) rfl ?_);refine ca (some 43) Tryz.func119 #[.slice (some ad128) y134.length c0,.func (.func 195) #[] #[.pointer (some ⟨gb129,0,none⟩)]] ?_;(with_reducible refine (share_any.calls _ _ y134 ((rd_T81 l0 x10_1).f0) ((rd_T81 l0 x10_1).f1) ((rd_T81 l0 x10_1).f2) ((rd_T81 l0 x10_1).f3) ((rd_T81 l0 x10_1).f4) false _ ?side1 ?side2 A37.out ?sideB).mono ?_);(case sideB=>first|exact BK129.out|exact blk_drewN BK129.out _|exact blk_drew BK129.out);(case side1=>exact cD);(case side2=>exact HC137.out);rintro e w44 ⟨rfl,hb⟩;refine ⟨_,rfl,?_⟩;replace BK129:=Aside0.mk (kb BK129 hb);replace HB:=Aside0.mk (below_step bD hb);(try clear hb);(try clear hb2);(try clear hk);(try clear hi)))
             go_roundg kj5
             case measure=>have:=HK1.out;have:=HJ5.out;omega
             case rel=>exact ⟨(wrap64 (x10_1+1)),eS,H',⟨by have:=HK1.out;have:=HJ5.out;omega⟩,⟨bD⟩⟩
           ·rw [if_neg c36] at H;exact absurd H (by simp)
          ·rw [if_neg c35] at H;exact absurd H (by simp)
      ·rw [if_neg c5] at H;exact absurd H (by simp)
     ·rw [if_neg c4] at H;exact absurd H (by simp)
    ·rw [if_neg c3] at H;have c3b0:=decide_eq_false c3;clear c3;obtain rfl:=Option.some.inj H;go_wp2
     go_ret
     exact ⟨eE,bD⟩
end
end Go.Proofs.YtikjfekagdcjmaaGreatDoor.Q
