/- Contracts and plain theory behind FlatRights. -/
import Derived.Shelf.Strings.Split
import Derived.Lib.IndexBytes
import Derived.Test.YtikjfekagdcjmaaGreatDoorCFlatRights2
import Derived.Test.YtikjfekagdcjmaaGreatDoorCFlatRights4
import Derived.Test.YtikjfekagdcjmaaGreatDoorCFlatRights5
set_option linter.unusedVariables false
set_option linter.unusedSimpArgs false
set_option maxHeartbeats 16000000
set_option maxRecDepth 100000
namespace Go.Proofs.YtikjfekagdcjmaaGreatDoor.Q
open Go.RowKit Go.Proofs.YtikjfekagdcjmaaGreatDoorW.PrintWords Go.Proofs.YtikjfekagdcjmaaGreatDoorW.PrintLast Go.Proofs.YtikjfekagdcjmaaGreatDoorW.PrintMore
theorem getD_at {α:Type} (l:List α) (d:α) {j:Nat} (h:j<l.length):l.getD j d=l[j]:=by simp [List.getD_eq_getElem?_getD,h]
def sl:ByteArray:=⟨#[47]⟩
def pieces (s:ByteArray):List ByteArray:=Lib.splitB sl 0 (Lib.countB s sl) s
theorem pieces_length (s:ByteArray):(pieces s).length=Lib.countB s sl+1:=Lib.splitB_all sl (by decide) 0 _ s rfl
theorem split57 (s:ByteArray) (w:World) (hs:s.size<4294967281) :
  Calls Tryz.prog 299 #[.string s,.string ⟨#[47]⟩] w fun e w'=>e=.returned (.slice (some ⟨w.heap.size,0,none⟩) (pieces s).length (pieces s).length)∧w'=w.alloc (.cells ((pieces s).map Value.string).toArray 9):=by
 have hle:=Lib.countB_le sl (by decide) s.size s (Nat.le_refl _)
 have hlen:=pieces_length s;have c:=Any.strings_genSplit_core Tryz.lays221 (by kernel_rfl) s sl 0 (-1) (Lib.countB s sl+1) w hs (by decide) (Nat.zero_le _)
  (fun x c hx=>(Tryz.strings_Index_one x 47 _).mono fun e w' hh=>⟨by rw [hh.1];show Ending.returned (Value.int .i64 _)=Ending.returned (Value.int .i64 (Lib.index x.data.toList [47]));rw [Lib.index_one],hh.2⟩)
  ((Tryz.strings_Count_one s 47 w).mono fun e w' hh=>⟨by rw [hh.1];show Ending.returned (Value.int .i64 _)=Ending.returned (Value.int .i64 ((Lib.count s.data.toList [47]:Nat):Int));rw [Lib.count_one];rfl,hh.2⟩)
  (by decide) (by decide) (by rw [if_pos (by decide)];omega)
 rw [Nat.add_sub_cancel] at c;change Calls Tryz.prog 320 _ w (fun e w'=>e=.returned (.slice (some ⟨w.heap.size,0,none⟩) (pieces s).length (Lib.countB s sl+1))∧w'=w.alloc (.cells (Lib.cellsOf (pieces s) (Lib.countB s sl+1)) 9)) at c
 rw [← hlen,Lib.cellsOf_full] at c;clear hlen hle;go_enter Tryz.func299,Tryz.ntmps299;go_wp2_with (go_at_call 320;refine c.mono ?_;rintro e w' ⟨rfl,hw⟩;rw [hw])
 go_ret
 exact ⟨rfl,rfl⟩
theorem idx69 (g c:Nat) (xs:List ByteArray) (w:World) (hl:xs.length≤1000) (hcell : ∀ i:Nat,i<xs.length→w.cell? ⟨g,1+i,none⟩=some (.string (xs.getD i ⟨#[]⟩))) :
  Calls Tryz.prog 321 #[.slice (some ⟨g,1,none⟩) xs.length c,.func (.func 188) #[] #[]] w fun e w'=>(∃ r:Int,e=.returned (.int .i64 r)∧decide (0≤r)=xs.any isNameB)∧Drawn0 w w':=by
 have HC:=Aside0.mk hcell;clear hcell;go_enter Tryz.func321,Tryz.ntmps321;go_wp2_with (fail)
 go_loopw [8] (fun v8 wr=>∃ i:Nat,i≤xs.length∧v8=.int .i64 i∧Aside0 (∀ j:Nat,j<i→isNameB (xs.getD j ⟨#[]⟩)=false)∧Aside0 (Drawn0 w wr)) (fun v8 _=>xs.length-(intOf v8).toNat)
 case atStart=>exact ⟨0,Nat.zero_le _,rfl,⟨fun j hj=>by omega⟩,⟨Drawn0.refl _⟩⟩
 case round =>
  obtain ⟨i,hi,rfl,HN,HB⟩:=hrel;by_cases hlt:i<xs.length
  ·obtain ⟨n0,hn0⟩:=HB.out.out;have hx:wr.cell? ⟨g,1+i,none⟩=some (.string (xs.getD i ⟨#[]⟩)):=by rw [hn0];exact HC.out i hlt
   clear hn0;have HX:=Aside0.mk (rfl:xs.getD i ⟨#[]⟩=xs.getD i ⟨#[]⟩);generalize hq:xs.getD i ⟨#[]⟩=q at hx HX;have HQ:=Aside0.mk hq;clear hq HX;go_wp2_with (go_at_call 188;refine (tree_isName.calls q _ _ rfl).mono ?_;rintro e w1 ⟨rfl,hb1⟩;have HB1:=Aside0.mk (drawn0_trans HB.out hb1);clear hb1)
   ·go_ret
    refine ⟨⟨_,rfl,?_⟩,HB1.out⟩;have hq2:isNameB q=true:=by assumption
    rw [decide_eq_true (by omega)]
    refine (List.any_eq_true.2 ⟨q,?_,hq2⟩).symm;rw [← HQ.out,getD_at _ _ hlt];exact List.getElem_mem _
   ·have hq2:isNameB q=false:=by assumption
    refine ⟨⟨i+1,by omega,by go_num,⟨fun j hj=>?_⟩,HB1⟩,by simp [intOf];omega⟩
    rcases Nat.lt_or_ge j i with h5|h5
    ·exact HN.out j h5
    ·obtain rfl:j=i:=by omega
     rw [HQ.out];exact hq2
  ·obtain rfl:i=xs.length:=by omega
   go_wp2_with (fail)
   go_ret
   refine ⟨⟨_,rfl,?_⟩,HB.out⟩;rw [decide_eq_false (by omega)]
   symm
   rw [List.any_eq_false];intro x hx;obtain ⟨j,hj,rfl⟩:=List.mem_iff_getElem.1 hx;have:=HN.out j hj;rw [getD_at _ _ hj] at this;simpa using this
theorem has58 (g n c:Nat) (xs:List ByteArray) (w:World) (hn:xs.length=n) (hl:xs.length≤1000) (hcell : ∀ i:Nat,i<xs.length→w.cell? ⟨g,1+i,none⟩=some (.string (xs.getD i ⟨#[]⟩))) :
  Calls Tryz.prog 300 #[.slice (some ⟨g,1,none⟩) n c,.func (.func 188) #[] #[]] w fun e w'=>e=.returned (.bool (xs.any isNameB))∧Drawn0 w w':=by
 subst hn;have HC:=Aside0.mk hcell;clear hcell;go_enter Tryz.func300,Tryz.ntmps300;go_wp2_with (go_at_call 321;refine (idx69 g c xs _ hl HC.out).mono ?_;rintro e w1 ⟨⟨r,rfl,hr⟩,hb1⟩;have HR:=Aside0.mk hr;have HB1:=Aside0.mk hb1;clear hr hb1)
 go_ret
 exact ⟨by rw [← HR.out];rfl,HB1.out⟩
def splitF (s:ByteArray):List ByteArray×Int :=
 if s.toList == [47] then ([],0)
 else if decide ((pieces s).length<2)||decide (7<(pieces s).length)||!(((pieces s).getD 0 ⟨#[]⟩).toList == [])||!((pieces s).tail.any isNameB) then ([],9)
 else if (pieces s).tail.all isNameB then ((pieces s).tail,0) else ([],9)
def tree_Split.f (s:ByteArray):Option (List ByteArray×Int):=if s.size≤100000 then some (splitF s) else none
theorem tree_Split.calls (s:ByteArray) (r1:List ByteArray) (r2:Int) (w:World) (h:tree_Split.f s=some (r1,r2)) :
  Calls Tryz.prog 259 #[.string s] w fun e w'=>(∃ A c,e=.returned (.tuple #[.slice A r1.length c,.int .i64 r2])∧r1.length≤c∧Kd.C Kd.string w' A r1.length r1)∧Below w.heap.size w w':=by
 unfold tree_Split.f at h;by_cases hd:s.size≤100000
 ·rw [if_pos hd] at h;have h:=Option.some.inj h;unfold splitF at h;cases c1:(s.toList == [47])
  ·rw [c1,if_neg (by decide)] at h
   have HH:=Aside0.mk h;clear h;go_enter Tryz.func259,Tryz.ntmps259;go_upto_region 4 with (go_at_call 299;refine (split57 s _ (by omega)).mono ?_;rintro e w' ⟨rfl,hw⟩;rw [hw])
   obtain ⟨L,hL⟩ : ∃ L,L=pieces s:=⟨_,rfl⟩;have HH2:=Aside0.mk (show (if (decide (L.length<2)||decide (7<L.length)||!((L.getD 0 ⟨#[]⟩).toList == [])||!(L.tail.any isNameB))=true then (([],9):List ByteArray×Int) else if L.tail.all isNameB=true then (L.tail,0) else ([],9))=(r1,r2) by rw [hL];exact HH.out)
   rw [← hL];clear HH hL;have BK:=heap_alloc_new w (.cells (L.map Value.string).toArray 9);have HB:=Aside0.mk (below_alloc (Below.refl w.heap.size w) (.cells (L.map Value.string).toArray 9));generalize w.alloc (.cells (L.map Value.string).toArray 9)=w1 at BK HB ⊢;have hcell:Aside0 (∀ i:Nat,i<L.length→w1.cell? ⟨w.heap.size,i,none⟩=some (.string (L.getD i ⟨#[]⟩))):=⟨fun i hi=>by rw [blk_cell BK i,getD_at _ _ hi];simp [hi]⟩
   clear BK;obtain ⟨g,hg⟩ : ∃ g,g=w.heap.size:=⟨_,rfl⟩;rw [← hg] at hcell ⊢;clear hg;by_cases n2:L.length<2
   ·have e1:decide ((L.length:Int)<2)=true:=decide_eq_true (by omega)
    have hr:=HH2.out;rw [decide_eq_true n2,Bool.true_or,Bool.true_or,Bool.true_or,if_pos rfl] at hr;cases hr
    go_wp2_with (first|(go_at_call 300;refine (has58 g _ _ L.tail _ htl (by rw [htl];omega) hct.out).mono ?_;rintro e w2 ⟨rfl,hb2⟩;have HB2:=Aside0.mk (below_step HB.out hb2.below);have HD2:=Aside0.mk hb2;clear hb2))
    go_ret2
    exact ⟨⟨_,_,rfl,Nat.le_refl _,Kd.C_nil _ _⟩,HB.out⟩
   ·have e1:decide ((L.length:Int)<2)=false:=decide_eq_false (by omega)
    by_cases n7:7<L.length
    ·have e2:decide ((7:Int)<(L.length:Int))=true:=decide_eq_true (by omega)
     have hr:=HH2.out;rw [decide_eq_true n7,Bool.or_true,Bool.true_or,Bool.true_or,if_pos rfl] at hr;cases hr
     go_wp2_with (first|(go_at_call 300;refine (has58 g _ _ L.tail _ htl (by rw [htl];omega) hct.out).mono ?_;rintro e w2 ⟨rfl,hb2⟩;have HB2:=Aside0.mk (below_step HB.out hb2.below);have HD2:=Aside0.mk hb2;clear hb2))
     go_ret2
     exact ⟨⟨_,_,rfl,Nat.le_refl _,Kd.C_nil _ _⟩,HB.out⟩
    ·have e2:decide ((7:Int)<(L.length:Int))=false:=decide_eq_false (by omega)
     have hc0:=hcell.out 0 (by omega)
     have hg1:(0<L.length)=True:=eq_true (by omega)
     have hg2 : ¬ (L.length=1):=by omega
     have hct:Aside0 (∀ i:Nat,i<L.tail.length→w1.cell? ⟨g,1+i,none⟩=some (.string (L.tail.getD i ⟨#[]⟩))):=⟨fun i hi=>by
      rw [List.length_tail] at hi;rw [hcell.out (1+i) (by omega),getD_at _ _ (by omega),getD_at _ _ (by rw [List.length_tail];omega)]
      simp [List.getElem_tail,Nat.add_comm]⟩
     have hHH:=HH2.out;rw [decide_eq_false n2,decide_eq_false n7] at hHH;have HH3:=Aside0.mk hHH;clear hHH HH2;have htl:L.tail.length=L.length-1:=List.length_tail;generalize L.getD 0 ⟨#[]⟩=q at hc0 HH3;cases c3:(q.toList == [])
     ·have hr:=HH3.out;rw [c3,if_pos (by rfl)] at hr
      cases hr
      go_wp2_with (first|(go_at_call 300;refine (has58 g _ _ L.tail _ htl (by rw [htl];omega) hct.out).mono ?_;rintro e w2 ⟨rfl,hb2⟩;have HB2:=Aside0.mk (below_step HB.out hb2.below);have HD2:=Aside0.mk hb2;clear hb2))
      go_ret2
      exact ⟨⟨_,_,rfl,Nat.le_refl _,Kd.C_nil _ _⟩,HB.out⟩
     ·have c3':q.toList = []:=by simpa using c3
      cases c4:L.tail.any isNameB
      ·have hr:=HH3.out;rw [c3,c4,if_pos (by rfl)] at hr
       cases hr
       go_wp2_with (first|(go_at_call 300;refine (has58 g _ _ L.tail _ htl (by rw [htl];omega) hct.out).mono ?_;rintro e w2 ⟨rfl,hb2⟩;have HB2:=Aside0.mk (below_step HB.out hb2.below);have HD2:=Aside0.mk hb2;clear hb2))
       go_ret2
       exact ⟨⟨_,_,rfl,Nat.le_refl _,Kd.C_nil _ _⟩,HB2.out⟩
      ·have hr:=HH3.out;rw [c3,c4,if_neg (by decide)] at hr
       have HR:=Aside0.mk hr;clear hr HH3;go_wp2_with (first|(go_at_call 300;refine (has58 g _ _ L.tail _ htl (by rw [htl];omega) hct.out).mono ?_;rintro e w2 ⟨rfl,hb2⟩;have HB2:=Aside0.mk (below_step HB.out hb2.below);have HD2:=Aside0.mk hb2;clear hb2))
       go_loopw [34] (fun v34 wr=>∃ i:Nat,i≤L.length-1∧v34=.int .i64 i∧Aside0 (∀ j:Nat,j<i→isNameB (L.tail.getD j ⟨#[]⟩)=true)∧Aside0 (Drawn0 w1 wr)) (fun v34 _=>L.length-(intOf v34).toNat)
       case atStart=>exact ⟨0,Nat.zero_le _,rfl,⟨fun j hj=>by omega⟩,HD2⟩
       case round =>
        clear HD2 HB2;obtain ⟨i,hi,rfl,HN,HD⟩:=hrel;by_cases hlt:i<L.length-1
        ·obtain ⟨n0,hn0⟩:=HD.out.out;have hx:wr.cell? ⟨g,1+i,none⟩=some (.string (L.tail.getD i ⟨#[]⟩)):=by rw [hn0];exact hct.out i (by omega)
         clear hn0;have HX:=Aside0.mk (rfl:L.tail.getD i ⟨#[]⟩=L.tail.getD i ⟨#[]⟩);generalize hq:L.tail.getD i ⟨#[]⟩=x at hx HX;have HQ:=Aside0.mk hq;clear hq HX;go_wp2_with (go_at_call 188;refine (tree_isName.calls x _ _ rfl).mono ?_;rintro e w3 ⟨rfl,hb3⟩;have HD3:=Aside0.mk (drawn0_trans HD.out hb3);clear hb3)
         ·have hn:(!isNameB x)=true:=by assumption
          have ha:L.tail.all isNameB=false:=by
           rw [Bool.eq_false_iff];intro hc;have h9:=List.all_eq_true.1 hc x (by rw [← HQ.out,getD_at _ _ (show i<L.tail.length by omega)];exact List.getElem_mem _)
           rw [h9] at hn;cases hn
          have hr:=HR.out;rw [ha,if_neg (by decide)] at hr
          cases hr
          go_ret2
          exact ⟨⟨_,_,rfl,Nat.le_refl _,Kd.C_nil _ _⟩,below_step HB.out HD3.out.below⟩
         ·have hn:(!isNameB x)=false:=by assumption
          refine ⟨⟨i+1,by omega,by go_num,⟨fun j hj=>?_⟩,HD3⟩,by simp [intOf];omega⟩
          rcases Nat.lt_or_ge j i with h5|h5
          ·exact HN.out j h5
          ·obtain rfl:j=i:=by omega
           rw [HQ.out];simpa using hn
        ·obtain rfl:i=L.length-1:=by omega
         have ha:L.tail.all isNameB=true:=by
          rw [List.all_eq_true];intro x hx;obtain ⟨j,hj,rfl⟩:=List.mem_iff_getElem.1 hx;have:=HN.out j (by omega)
          rwa [getD_at _ _ hj] at this
         have hr:=HR.out;rw [ha,if_pos rfl] at hr;cases hr
         go_wp2_with (fail)
         go_ret2
         (try rw [htl])
         refine ⟨⟨some ⟨g,1,none⟩,L.length-1,rfl,Nat.le_refl _,?_⟩,below_step HB.out HD.out.below⟩;refine Kd.C_of_reads (enc:=Value.string) (d:=(⟨#[]⟩:ByteArray)) ⟨htl,by omega,fun hpos=>⟨⟨g,1,none⟩,rfl,fun j hj=>?_⟩⟩
         rw [Addr.add_lit];exact (HD.out.below.cell (World.block_lt_of_cell? _ _ (hct.out j (by omega)))).trans (hct.out j (by omega))
  ·rw [c1,if_pos rfl] at h;cases h
   have c2:s.toList = [47]:=by simpa using c1
   go_enter Tryz.func259,Tryz.ntmps259;go_wp2_with (fail)
   go_ret2
   exact ⟨⟨_,_,rfl,Nat.le_refl _,Kd.C_nil _ _⟩,Below.refl _ _⟩
 ·rw [if_neg hd] at h;cases h
section
attribute [local go_sem] max2_int min2_int max_two min_two max_three min_three max_four min_four
def tree_walk.l0:Nat→List (S43)→List ByteArray→Int→Int→Int→Int→ByteArray→Bool→Int→Option (Int×Int×ByteArray×Bool×Int×Int)
 | 0,_,_,_,_,_,_,_,_,_=>none
 | k+1,x0,x14,x15,x16,x188000,x188001,x188002,x188003,x188004=>if x16<x15 then (if 0≤x16 then (if x16<(x14.length:Int) then (if x188003=true then ((tree_kid.f k x0 x188000 (rdOf ByteArray.empty x14 x16)).bind fun bt189=>(if bt189.2.2.2.2.2=true then (tree_walk.l0 k x0 x14 x15 (wrap64 (x16+1)) bt189.1 bt189.2.1 bt189.2.2.1 bt189.2.2.2.1 bt189.2.2.2.2.1) else (some (0,0,(⟨#[]⟩:ByteArray),false,0,7)))) else (some (0,0,(⟨#[]⟩:ByteArray),false,0,10))) else (none)) else (none)) else (some (x188000,x188001,x188002,x188003,x188004,0))
def tree_walk.f (k:Nat) (l0:List (S43)) (l1:List ByteArray):Option (Int×Int×ByteArray×Bool×Int×Int):=if 0<(l0.length:Int) then (tree_walk.l0 k l0 l1 (l1.length:Int) 0 ((rd_T43 l0 0).f0) ((rd_T43 l0 0).f1) ((rd_T43 l0 0).f2) ((rd_T43 l0 0).f3) ((rd_T43 l0 0).f4)) else (none)
theorem tree_walk.calls (k:Nat) (A0:Option Addr) (c0:Nat) (l0:List (S43)) (A1:Option Addr) (c1:Nat) (l1:List ByteArray) (r1:Int) (r2:Int) (r3:ByteArray) (r4:Bool) (r5:Int) (r6:Int) (w:World) (hr0:Kd.C k43 w A0 l0.length l0) (hc0:l0.length≤c0) (hr1:Kd.C Kd.string w A1 l1.length l1) (hc1:l1.length≤c1) (h:tree_walk.f k l0 l1=some (r1,r2,r3,r4,r5,r6)) :
  Calls Tryz.prog 185 #[.slice A0 l0.length c0,.slice A1 l1.length c1] w fun e w'=>e=.returned (.tuple #[.agg #[.int .u32 r1,.int .u32 r2,.string r3,.bool r4,.int .u32 r5],.int .i64 r6])∧Below w.heap.size w w':=by
 have hu43:=Tryz.underlying43;have HR0:=Aside0.mk hr0;have HC0:=Aside0.mk hc0;clear hr0 hc0;have HR1:=Aside0.mk hr1;have HC1:=Aside0.mk hc1;clear hr1 hc1;have HB:=Aside0.mk (Below.refl w.heap.size w);have H:(if 0<(l0.length:Int) then (tree_walk.l0 k l0 l1 (l1.length:Int) 0 ((rd_T43 l0 0).f0) ((rd_T43 l0 0).f1) ((rd_T43 l0 0).f2) ((rd_T43 l0 0).f3) ((rd_T43 l0 0).f4)) else (none))=some (r1,r2,r3,r4,r5,r6):=h
 clear h;by_cases c3:0<(l0.length:Int)
 ·rw [if_pos c3] at H;have c3b0:=decide_eq_true c3;have c3b1:decide (0<l0.length)=true:=decide_eq_true (by omega)
  clear c3;have H':=Aside0.mk H;clear H;go_enter Tryz.func185,Tryz.ntmps185;go_wp2_with (first|((with_reducible refine gate_dst (N:=4) rfl ?_);refine bx 4 #[.int .u32 0,.int .u32 0,.string (⟨#[]⟩:ByteArray),.bool false,.int .u32 0] 43 ?_;intro gb185 hg w4 hbox hb;have BK185:=Aside0.mk (hbox);have GW185:=Aside0.mk ((gG hg:w.heap.size≤gb185));have GE185:=Aside0.mk ((gG hg:w.heap.size≤gb185));replace HB:=Aside0.mk (below_step bD hb);clear hb hbox hg;have p186:0≤(0:Int):=(by omega);have q186:0<(l0.length:Int):=pA;obtain ⟨ad186,e186,hx186_0,hx186_1,hx186_2,hx186_3,hx186_4⟩:=at_T43 HR0.out 0 p186 q186;cases e186;have qi186:(0<l0.length)=True:=eq_true (by omega);(try rw [show ((0:Int)).toNat=0 from rfl] at hx186_0);(try rw [show 0*5=0 from rfl] at hx186_0);(try rw [Addr.add_zero'] at hx186_0);(try rw [show ((0:Int)).toNat=0 from rfl] at hx186_1);(try rw [show 0*5=0 from rfl] at hx186_1);(try rw [Addr.add_zero'] at hx186_1);(try rw [show ((0:Int)).toNat=0 from rfl] at hx186_2);(try rw [show 0*5=0 from rfl] at hx186_2);(try rw [Addr.add_zero'] at hx186_2);(try rw [show ((0:Int)).toNat=0 from rfl] at hx186_3);(try rw [show 0*5=0 from rfl] at hx186_3);(try rw [Addr.add_zero'] at hx186_3);(try rw [show ((0:Int)).toNat=0 from rfl] at hx186_4);(try rw [show 0*5=0 from rfl] at hx186_4);(try rw [Addr.add_zero'] at hx186_4);replace hx186_0:=cB hx186_0;replace hx186_1:=cB hx186_1;replace hx186_2:=cB hx186_2;replace hx186_3:=cB hx186_3;replace hx186_4:=cB hx186_4;replace p186:=eq_true p186;replace q186:=eq_true q186)|((with_reducible refine gate_dst (N:=6) rfl ?_);refine bx 6 #[.int .u32 0,.int .u32 0,.string (⟨#[]⟩:ByteArray),.bool false,.int .u32 0] 43 ?_;intro gb187 hg w5 hbox hb;have n0_:=Aside0.mk (kb BK185 hb);have n1_:=Aside0.mk (below_step bD hb);have n2_:=Aside0.mk (hbox);have n3_:=Aside0.mk ((gG hg:w.heap.size≤gb187));have n4_:=Aside0.mk ((gG hg:w.heap.size≤gb187));have n5_:=Aside0.mk ((gN BK185 hg));have n6_:=Aside0.mk ((gN' BK185 hg));clear BK185;clear HB;have BK185:=n0_;have HB:=n1_;have BK187:=n2_;have GW187:=n3_;have GE187:=n4_;have NB185_187:=n5_;have NB187_185:=n6_;clear n0_ n1_ n2_ n3_ n4_ n5_ n6_;clear hb hbox hg;have hnb6:=NB187_185.out;have hnc6:=NB185_187.out;obtain ⟨hcz7_0,hcz7_1,hcz7_2,hcz7_3,hcz7_4⟩:=cc5 BK187.out;obtain ⟨hfz7_0,hfz7_1,hfz7_2,hfz7_3,hfz7_4⟩:=ff5 BK187.out))
  go_loopg [16] k (fun kq v16 w'=>∃ (x16_1:Int) (x186000_1:Int) (x186001_1:Int) (x186002_1:ByteArray) (x186003_1:Bool) (x186004_1:Int) (x188000_1:Int) (x188001_1:Int) (x188002_1:ByteArray) (x188003_1:Bool) (x188004_1:Int),v16=.int .i64 x16_1∧Aside0 (tree_walk.l0 kq l0 l1 (l1.length:Int) x16_1 x188000_1 x188001_1 x188002_1 x188003_1 x188004_1=some (r1,r2,r3,r4,r5,r6))∧Aside0 (kq≤k)∧Aside0 (w'.heap[gb185]?=some (.cells #[.int .u32 x186000_1,.int .u32 x186001_1,.string x186002_1,.bool x186003_1,.int .u32 x186004_1] 43 (0,0)))∧Aside0 (w'.heap[gb187]?=some (.cells #[.int .u32 x188000_1,.int .u32 x188001_1,.string x188002_1,.bool x188003_1,.int .u32 x188004_1] 43 (0,0)))∧Aside0 (Below w.heap.size w w'))
  case atStart=>exact ⟨(0),(0),(0),((⟨#[]⟩:ByteArray)),(false),(0),((rd_T43 l0 0).f0),((rd_T43 l0 0).f1),((rd_T43 l0 0).f2),((rd_T43 l0 0).f3),((rd_T43 l0 0).f4),eS,H',⟨Nat.le_refl _⟩,⟨kF⟩,⟨p5⟩,⟨bD⟩⟩
  case round =>
   clear H'
   (try clear c1;try clear p1;try clear q1;try clear hx1;try clear qi1;try clear p2;try clear c3;try clear c3b0;try clear c3b1;try clear c6;try clear hcz7_0;try clear hcz7_1;try clear hcz7_2;try clear hcz7_3;try clear hcz7_4;try clear hfz7_0;try clear hfz7_1;try clear hfz7_2;try clear hfz7_3;try clear hfz7_4;try clear hx186_0;try clear hx186_1;try clear hx186_2;try clear hx186_3;try clear hx186_4;try clear p186;try clear q186)
   obtain ⟨x16_1,x186000_1,x186001_1,x186002_1,x186003_1,x186004_1,x188000_1,x188001_1,x188002_1,x188003_1,x188004_1,rfl,HA,HK1,BK185,BK187,HB⟩:=hrel;cases gk with
   | zero=>exact absurd HA.out (by simp [tree_walk.l0])
   | succ k1 =>
    have H:=HA.out;clear HA;simp only [tree_walk.l0] at H;by_cases c8:x16_1<(l1.length:Int)
    ·rw [if_pos c8] at H;have c8b0:=decide_eq_true c8;clear c8;by_cases c9:0≤x16_1
     ·rw [if_pos c9] at H;have c9b0:=decide_eq_true c9;clear c9;by_cases c10:x16_1<(l1.length:Int)
      ·rw [if_pos c10] at H;have c10b0:=decide_eq_true c10;clear c10;by_cases c11:x188003_1=true
       ·subst c11;replace H:=ifTT H;replace H:=Option.bind_eq_some_iff.mp H;obtain ⟨⟨t189,t190,t191,t192,t193,t194⟩,A120,H⟩:=H;replace H:(if t194=true then (tree_walk.l0 k1 l0 l1 (l1.length:Int) (wrap64 (x16_1+1)) t189 t190 t191 t192 t193) else (some (0,0,(⟨#[]⟩:ByteArray),false,0,7)))=some (r1,r2,r3,r4,r5,r6):=H
        have A12:=Aside0.mk A120;clear A120;by_cases c13:t194=true
        ·subst c13;replace H:=ifTT H;have H':=Aside0.mk H;clear H;have p188:0≤(x16_1:Int):=pA;have q188:x16_1<(l1.length:Int):=pA;obtain ⟨ad188,e188,hx188_0⟩:=Kd.at_string HR1.out x16_1 p188 q188;cases e188
         replace hx188_0:=cB hx188_0;replace p188:=eq_true p188;replace q188:=eq_true q188;have hnb14:=NB187_185.out;have hnc14:=NB185_187.out;obtain ⟨hcz15_0,hcz15_1,hcz15_2,hcz15_3,hcz15_4⟩:=cc5 BK187.out;obtain ⟨hfz15_0,hfz15_1,hfz15_2,hfz15_3,hfz15_4⟩:=ff5 BK187.out;go_wp2_with (first|((with_reducible refine gate_callee (f:=189) rfl ?_);refine ca (some 29) Tryz.func189 #[.slice (some ad186) l0.length c0,.int .u32 x188000_1,.string (rdOf ByteArray.empty l1 x16_1)] ?_;(with_reducible refine (tree_kid.calls k1 _ _ l0 x188000_1 (rdOf ByteArray.empty l1 x16_1) t189 t190 t191 t192 t193 true _ ?side1 ?side2 A12.out).mono ?_);(case side1=>exact cD);(case side2=>exact HC0.out);rintro e w16 ⟨rfl,hb⟩;refine ⟨_,rfl,?_⟩;replace BK185:=Aside0.mk (kb BK185 hb);replace BK187:=Aside0.mk (kb BK187 hb);replace HB:=Aside0.mk (below_step bD hb);(try clear hb);(try clear hb2);(try clear hk);(try clear hi))|((with_reducible refine gate_dst (N:=9) rfl ?_);refine bx 9 #[.int .u32 0,.int .u32 0,.string (⟨#[]⟩:ByteArray),.bool false,.int .u32 0] 43 ?_;intro gb195 hg w17 hbox hb;have n0_:=Aside0.mk (kb BK185 hb);have n1_:=Aside0.mk (kb BK187 hb);have n2_:=Aside0.mk (below_step bD hb);have n3_:=Aside0.mk (hbox);have n4_:=Aside0.mk ((gG hg:w.heap.size≤gb195));have n5_:=Aside0.mk ((gG hg:w.heap.size≤gb195));have n6_:=Aside0.mk ((gN BK185 hg));have n7_:=Aside0.mk ((gN' BK185 hg));have n8_:=Aside0.mk ((gN BK187 hg));have n9_:=Aside0.mk ((gN' BK187 hg));clear BK185;clear BK187;clear HB;have BK185:=n0_;have BK187:=n1_;have HB:=n2_;have BK195:=n3_;have GW195:=n4_;have GE195:=n5_;have NB185_195:=n6_;have NB195_185:=n7_;have NB187_195:=n8_;have NB195_187:=n9_;clear n0_ n1_ n2_ n3_ n4_ n5_ n6_ n7_ n8_ n9_;clear hb hbox hg;have hnb18:=NB195_185.out;have hnc18:=NB185_195.out;have hnb19:=NB195_187.out;have hnc19:=NB187_195.out;obtain ⟨hcz20_0,hcz20_1,hcz20_2,hcz20_3,hcz20_4⟩:=cc5 BK195.out;obtain ⟨hfz20_0,hfz20_1,hfz20_2,hfz20_3,hfz20_4⟩:=ff5 BK195.out;obtain ⟨hcz21_0,hcz21_1,hcz21_2,hcz21_3,hcz21_4⟩:=cc5 BK187.out;obtain ⟨hfz21_0,hfz21_1,hfz21_2,hfz21_3,hfz21_4⟩:=ff5 BK187.out))
         go_roundg k1
         case measure=>have:=HK1.out;omega
         case rel=>exact ⟨(wrap64 (x16_1+1)),(x186000_1),(x186001_1),(x186002_1),(x186003_1),(x186004_1),(t189),(t190),(t191),(t192),(t193),eS,H',⟨by have:=HK1.out;omega⟩,⟨kF⟩,⟨by (with_reducible repeat (first|refine blk_drewN ?_ _|refine blk_drew ?_|refine blk_alloc ?_ _));refine blk_put (cs:=#[.int .u32 t189,.int .u32 t190,.string t191,.bool t192,.int .u32 x188004_1]) ?_ 4 _ rfl;(with_reducible repeat (first|refine blk_drewN ?_ _|refine blk_drew ?_|refine blk_alloc ?_ _));refine blk_put (cs:=#[.int .u32 t189,.int .u32 t190,.string t191,.bool true,.int .u32 x188004_1]) ?_ 3 _ rfl;(with_reducible repeat (first|refine blk_drewN ?_ _|refine blk_drew ?_|refine blk_alloc ?_ _));refine blk_put (cs:=#[.int .u32 t189,.int .u32 t190,.string x188002_1,.bool true,.int .u32 x188004_1]) ?_ 2 _ rfl;(with_reducible repeat (first|refine blk_drewN ?_ _|refine blk_drew ?_|refine blk_alloc ?_ _));refine blk_put (cs:=#[.int .u32 t189,.int .u32 x188001_1,.string x188002_1,.bool true,.int .u32 x188004_1]) ?_ 1 _ rfl;(with_reducible repeat (first|refine blk_drewN ?_ _|refine blk_drew ?_|refine blk_alloc ?_ _));refine blk_put (cs:=#[.int .u32 x188000_1,.int .u32 x188001_1,.string x188002_1,.bool true,.int .u32 x188004_1]) ?_ 0 _ rfl;(with_reducible repeat (first|refine blk_drewN ?_ _|refine blk_drew ?_|refine blk_alloc ?_ _));refine blk_far ?_ NB187_195.out _;(with_reducible repeat (first|refine blk_drewN ?_ _|refine blk_drew ?_|refine blk_alloc ?_ _));refine blk_far ?_ NB187_195.out _;(with_reducible repeat (first|refine blk_drewN ?_ _|refine blk_drew ?_|refine blk_alloc ?_ _));refine blk_far ?_ NB187_195.out _;(with_reducible repeat (first|refine blk_drewN ?_ _|refine blk_drew ?_|refine blk_alloc ?_ _));refine blk_far ?_ NB187_195.out _;(with_reducible repeat (first|refine blk_drewN ?_ _|refine blk_drew ?_|refine blk_alloc ?_ _));refine blk_far ?_ NB187_195.out _;(with_reducible repeat (first|refine blk_drewN ?_ _|refine blk_drew ?_|refine blk_alloc ?_ _));exact BK187.out⟩,⟨bD⟩⟩
        ·replace c13:=Bool.eq_false_iff.mpr c13;subst c13;replace H:=ifFF H;simp only [Option.some.injEq,Prod.mk.injEq] at H;obtain ⟨rfl,rfl,rfl,rfl,rfl,rfl⟩:=H;have p188:0≤(x16_1:Int):=pA;have q188:x16_1<(l1.length:Int):=pA;obtain ⟨ad188,e188,hx188_0⟩:=Kd.at_string HR1.out x16_1 p188 q188;cases e188
         replace hx188_0:=cB hx188_0;replace p188:=eq_true p188;replace q188:=eq_true q188;have hnb22:=NB187_185.out;have hnc22:=NB185_187.out;obtain ⟨hcz23_0,hcz23_1,hcz23_2,hcz23_3,hcz23_4⟩:=cc5 BK187.out;obtain ⟨hfz23_0,hfz23_1,hfz23_2,hfz23_3,hfz23_4⟩:=ff5 BK187.out;go_wp2_with (first|((with_reducible refine gate_callee (f:=189) rfl ?_);refine ca (some 29) Tryz.func189 #[.slice (some ad186) l0.length c0,.int .u32 x188000_1,.string (rdOf ByteArray.empty l1 x16_1)] ?_;(with_reducible refine (tree_kid.calls k1 _ _ l0 x188000_1 (rdOf ByteArray.empty l1 x16_1) t189 t190 t191 t192 t193 false _ ?side1 ?side2 A12.out).mono ?_);(case side1=>exact cD);(case side2=>exact HC0.out);rintro e w24 ⟨rfl,hb⟩;refine ⟨_,rfl,?_⟩;replace BK185:=Aside0.mk (kb BK185 hb);replace BK187:=Aside0.mk (kb BK187 hb);replace HB:=Aside0.mk (below_step bD hb);(try clear hb);(try clear hb2);(try clear hk);(try clear hi))|((with_reducible refine gate_dst (N:=9) rfl ?_);refine bx 9 #[.int .u32 0,.int .u32 0,.string (⟨#[]⟩:ByteArray),.bool false,.int .u32 0] 43 ?_;intro gb195 hg w25 hbox hb;have n0_:=Aside0.mk (kb BK185 hb);have n1_:=Aside0.mk (kb BK187 hb);have n2_:=Aside0.mk (below_step bD hb);have n3_:=Aside0.mk (hbox);have n4_:=Aside0.mk ((gG hg:w.heap.size≤gb195));have n5_:=Aside0.mk ((gG hg:w.heap.size≤gb195));have n6_:=Aside0.mk ((gN BK185 hg));have n7_:=Aside0.mk ((gN' BK185 hg));have n8_:=Aside0.mk ((gN BK187 hg));have n9_:=Aside0.mk ((gN' BK187 hg));clear BK185;clear BK187;clear HB;have BK185:=n0_;have BK187:=n1_;have HB:=n2_;have BK195:=n3_;have GW195:=n4_;have GE195:=n5_;have NB185_195:=n6_;have NB195_185:=n7_;have NB187_195:=n8_;have NB195_187:=n9_;clear n0_ n1_ n2_ n3_ n4_ n5_ n6_ n7_ n8_ n9_;clear hb hbox hg;have hnb26:=NB195_185.out;have hnc26:=NB185_195.out;have hnb27:=NB195_187.out;have hnc27:=NB187_195.out;obtain ⟨hcz28_0,hcz28_1,hcz28_2,hcz28_3,hcz28_4⟩:=cc5 BK195.out;obtain ⟨hfz28_0,hfz28_1,hfz28_2,hfz28_3,hfz28_4⟩:=ff5 BK195.out;obtain ⟨hcz29_0,hcz29_1,hcz29_2,hcz29_3,hcz29_4⟩:=cc5 BK185.out;obtain ⟨hfz29_0,hfz29_1,hfz29_2,hfz29_3,hfz29_4⟩:=ff5 BK185.out))
         refine bodyPost_ret (results_ct rfl _ _ gb185 43 #[.int .u32 0,.int .u32 0,.string (⟨#[]⟩:ByteArray),.bool false,.int .u32 0] (0,0) _ rfl (by (with_reducible repeat (first|refine blk_drewN ?_ _|refine blk_drew ?_|refine blk_alloc ?_ _));refine blk_put (cs:=#[.int .u32 0,.int .u32 0,.string (⟨#[]⟩:ByteArray),.bool false,.int .u32 x186004_1]) ?_ 4 _ rfl;(with_reducible repeat (first|refine blk_drewN ?_ _|refine blk_drew ?_|refine blk_alloc ?_ _));refine blk_put (cs:=#[.int .u32 0,.int .u32 0,.string (⟨#[]⟩:ByteArray),.bool x186003_1,.int .u32 x186004_1]) ?_ 3 _ rfl;(with_reducible repeat (first|refine blk_drewN ?_ _|refine blk_drew ?_|refine blk_alloc ?_ _));refine blk_put (cs:=#[.int .u32 0,.int .u32 0,.string x186002_1,.bool x186003_1,.int .u32 x186004_1]) ?_ 2 _ rfl;(with_reducible repeat (first|refine blk_drewN ?_ _|refine blk_drew ?_|refine blk_alloc ?_ _));refine blk_put (cs:=#[.int .u32 0,.int .u32 x186001_1,.string x186002_1,.bool x186003_1,.int .u32 x186004_1]) ?_ 1 _ rfl;(with_reducible repeat (first|refine blk_drewN ?_ _|refine blk_drew ?_|refine blk_alloc ?_ _));refine blk_put (cs:=#[.int .u32 x186000_1,.int .u32 x186001_1,.string x186002_1,.bool x186003_1,.int .u32 x186004_1]) ?_ 0 _ rfl;(with_reducible repeat (first|refine blk_drewN ?_ _|refine blk_drew ?_|refine blk_alloc ?_ _));refine blk_far ?_ NB185_195.out _;(with_reducible repeat (first|refine blk_drewN ?_ _|refine blk_drew ?_|refine blk_alloc ?_ _));refine blk_far ?_ NB185_195.out _;(with_reducible repeat (first|refine blk_drewN ?_ _|refine blk_drew ?_|refine blk_alloc ?_ _));refine blk_far ?_ NB185_195.out _;(with_reducible repeat (first|refine blk_drewN ?_ _|refine blk_drew ?_|refine blk_alloc ?_ _));refine blk_far ?_ NB185_195.out _;(with_reducible repeat (first|refine blk_drewN ?_ _|refine blk_drew ?_|refine blk_alloc ?_ _));refine blk_far ?_ NB185_195.out _;(with_reducible repeat (first|refine blk_drewN ?_ _|refine blk_drew ?_|refine blk_alloc ?_ _));exact BK185.out) Tryz.underlying43 rfl (by kernel_rfl)) rfl ?_
         exact ⟨eE,bD⟩
       ·replace c11:=Bool.eq_false_iff.mpr c11;subst c11;replace H:=ifFF H;simp only [Option.some.injEq,Prod.mk.injEq] at H;obtain ⟨rfl,rfl,rfl,rfl,rfl,rfl⟩:=H;have p188:0≤(x16_1:Int):=pA;have q188:x16_1<(l1.length:Int):=pA;obtain ⟨ad188,e188,hx188_0⟩:=Kd.at_string HR1.out x16_1 p188 q188;cases e188
        replace hx188_0:=cB hx188_0;replace p188:=eq_true p188;replace q188:=eq_true q188;have hnb30:=NB187_185.out;have hnc30:=NB185_187.out;obtain ⟨hcz31_0,hcz31_1,hcz31_2,hcz31_3,hcz31_4⟩:=cc5 BK187.out;obtain ⟨hfz31_0,hfz31_1,hfz31_2,hfz31_3,hfz31_4⟩:=ff5 BK187.out;obtain ⟨hcz32_0,hcz32_1,hcz32_2,hcz32_3,hcz32_4⟩:=cc5 BK185.out;obtain ⟨hfz32_0,hfz32_1,hfz32_2,hfz32_3,hfz32_4⟩:=ff5 BK185.out;go_wp2
        refine bodyPost_ret (results_ct rfl _ _ gb185 43 #[.int .u32 0,.int .u32 0,.string (⟨#[]⟩:ByteArray),.bool false,.int .u32 0] (0,0) _ rfl p5 Tryz.underlying43 rfl (by kernel_rfl)) rfl ?_
        exact ⟨eE,bD⟩
      ·rw [if_neg c10] at H;exact absurd H (by simp)
     ·rw [if_neg c9] at H;exact absurd H (by simp)
    ·rw [if_neg c8] at H;have c8b0:=decide_eq_false c8;clear c8;simp only [Option.some.injEq,Prod.mk.injEq] at H;obtain ⟨rfl,rfl,rfl,rfl,rfl,rfl⟩:=H;have hnb33:=NB187_185.out;have hnc33:=NB185_187.out;obtain ⟨hcz34_0,hcz34_1,hcz34_2,hcz34_3,hcz34_4⟩:=cc5 BK187.out;obtain ⟨hfz34_0,hfz34_1,hfz34_2,hfz34_3,hfz34_4⟩:=ff5 BK187.out;obtain ⟨hcz35_0,hcz35_1,hcz35_2,hcz35_3,hcz35_4⟩:=cc5 BK185.out;obtain ⟨hfz35_0,hfz35_1,hfz35_2,hfz35_3,hfz35_4⟩:=ff5 BK185.out;go_wp2
     refine bodyPost_ret (results_ct rfl _ _ gb185 43 #[.int .u32 x188000_1,.int .u32 x188001_1,.string x188002_1,.bool x188003_1,.int .u32 x188004_1] (0,0) _ rfl p5 Tryz.underlying43 rfl (by kernel_rfl)) rfl ?_
     exact ⟨eE,bD⟩
 ·rw [if_neg c3] at H;exact absurd H (by simp)
end
end Go.Proofs.YtikjfekagdcjmaaGreatDoor.Q
