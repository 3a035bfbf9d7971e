/- Contracts and plain theory behind FlatRights. -/
import Derived.Deep.RegionLaw
import Derived.Shelf.Spec.SlicesInsertGrow
import Derived.Outline
import Derived.Lib.SliceRun
import Derived.Laws.CopyOwn
import Derived.Test.YtikjfekagdcjmaaGreatDoorCFlatRights2
set_option linter.unusedVariables false
set_option linter.unusedSimpArgs false
set_option maxHeartbeats 16000000
set_option maxRecDepth 100000
namespace Go.Proofs.YtikjfekagdcjmaaGreatDoor.Q
open Go.RowKit Go.Proofs.YtikjfekagdcjmaaGreatDoorW.PrintWords Go.Proofs.YtikjfekagdcjmaaGreatDoorW.PrintLast Go.Proofs.YtikjfekagdcjmaaGreatDoorW.PrintMore
theorem grow_cells (row:List Value) (l:List S43) (x:S43) (i G:Nat) (hi:i≤l.length) (hG:l.length+1≤G) (hsz:row.length=G*5) (hc:row.take (i*5)=flat (l.take i)) :
  let c1:=row.take (i*5)++c5 x++row.drop (i*5+(c5 x).length)
  let c2:=c1.take ((i+1)*5)++flat (l.drop i)++c1.drop ((i+1)*5+(flat (l.drop i)).length)
  c1.length=G*5∧c2.length=G*5∧c2.take ((l.length+1)*5)=flat (l.take i++x::l.drop i):=by
 intro c1 c2;have hdl:(flat (l.drop i)).length=(l.length-i)*5:=by rw [flat_length,List.length_drop]
 have h1:c1.length=G*5:=by simp only [c1,List.length_append,List.length_take,List.length_drop,hsz,c5_length];omega
 have h2:c2.length=G*5:=by simp only [c2,List.length_append,List.length_take,List.length_drop,h1,hdl];omega
 refine ⟨h1,h2,?_⟩;have htl:(flat (l.take i)).length=i*5:=by rw [flat_length,List.length_take,Nat.min_eq_left hi]
 have e1:c1.take ((i+1)*5)=flat (l.take i)++c5 x:=by
  simp only [c1];rw [hc];exact List.take_left' (by rw [List.length_append,htl,c5_length];omega)
 simp only [c2];rw [e1,flat_append,flat_cons];have hlen:(flat (l.take i)++c5 x++flat (l.drop i)).length=(l.length+1)*5:=by rw [List.length_append,List.length_append,htl,c5_length,hdl];omega
 rw [List.take_left' hlen,List.append_assoc]
theorem ins_grow (g cap gv vc:Nat) (cur:Array Value) (l:List S43) (x:S43) (i:Nat) (w:World) (hr:Row w g cap cur l) (hv:w.heap[gv]?=some (.cells (c5 x).toArray 43 (0,0))) (hi:i<l.length) (hroom:cap<l.length+1) (hl:l.length≤1000) :
  Calls Tryz.prog 311 #[.slice (some ⟨g,0,none⟩) l.length cap,.int .i64 i,.slice (some ⟨gv,0,none⟩) 1 vc] w fun e w'=>(∃ g' cap' cur',e=.returned (.slice (some ⟨g',0,none⟩) (l.length+1) cap')∧w.heap.size≤g'∧Row w' g' cap' cur' (l.take i++x::l.drop i))∧w.grownBy w' none:=by
 have hcap:cap=l.length:=by have:=hr.le;omega
 have hz2 : ¬ ((i:Int)=(l.length:Int)):=by omega
 have hz3:(cap:Int)<(l.length:Int)+1:=by omega
 obtain ⟨i0,hi0,hz0,hzs,hzb⟩ : ∃ i0,Tryz.prog.info? 43=some i0∧i0.zero=some (.agg #[.int .u32 0,.int .u32 0,.string ⟨#[]⟩,.bool false,.int .u32 0])∧i0.size=5∧i0.bytes=32:=⟨_,rfl,rfl,rfl,rfl⟩;have hs5:(Tryz.prog.info? 43).map (·.size)=some 5:=by kernel_rfl
 have htl:(flat (l.take i)).length=i*5:=by rw [flat_length,List.length_take,Nat.min_eq_left (by omega)]
 have hold:(Builtin.firstCells i0.size i (.slice (some ⟨g,0,none⟩) i cap)).run Tryz.prog w.drew=.ok (flat (l.take i)).toArray w.drew:=by
  rw [hzs];have h:=run_loadCells_list (P:=Tryz.prog) w.drew ⟨g,0,none⟩ (flat (l.take i)) (fun j v hj=>by
   have hjl:=(List.getElem?_eq_some_iff.1 hj).1;rw [htl] at hjl;rw [Addr.add_lit,Nat.zero_add];show w.cell? ⟨g,j,none⟩=some v
   rw [row_cell hr _ (by omega),← hj,← flat_take,List.getElem?_take,if_pos hjl])
  rw [htl] at h;exact h
 have hik:i+(l.length+1-i)=l.length+1:=by omega
 have hkk:(l.length:Int)+1-(i:Int)=((l.length+1-i:Nat):Int):=by omega
 obtain ⟨G,hG⟩ : ∃ G,G=grownCap w (l.length+1) cap 43:=⟨_,rfl⟩;have hGn:l.length+1≤G:=by rw [hG];exact grownCap_ge w _ _ _
 have hG63:G≤9223372036854775807:=by
  have:=grownCap_le_maxLen w (l.length+1) cap 43 (by unfold maxLen;omega)
  rw [← hG] at this;unfold maxLen at this;omega
 obtain ⟨ROW,hROW⟩ : ∃ ROW:Array Value,ROW=(flat (l.take i)).toArray++Builtin.zeroCells (Value.agg #[.int .u32 0,.int .u32 0,.string ⟨#[]⟩,.bool false,.int .u32 0]).cells (l.length+1-i)++Builtin.zeroCells (Value.agg #[.int .u32 0,.int .u32 0,.string ⟨#[]⟩,.bool false,.int .u32 0]).cells (G-(l.length+1)):=⟨_,rfl⟩;have hrz : ∀ ty,(Builtin.append_ #[25,3] ty #[.slice (some ⟨g,0,none⟩) i cap,.int .i64 ((l.length:Int)+1-(i:Int))]).run Tryz.prog w =
   .ok (.slice (some ⟨w.heap.size,0,none⟩) (l.length+1) G) (w.drew.alloc (.cells ROW 43)):=fun ty=>by
  have h:=Lib.run_append_grow_zeros w 25 3 ty 43 i0 _ .i64 .i64 Tryz.underlying25 (by kernel_rfl) hi0 hz0 (some ⟨g,0,none⟩) i cap (flat (l.take i)) hold (l.length+1-i) (by omega) (by omega) (by omega) (by omega) (by rw [hzb];omega) (by rw [hzb,hik];exact growslice_fits hroom (by omega))
  rw [hik,← hG,← hROW] at h;rw [hkk];exact h
 have hRs:ROW.size=G*5:=by
  rw [hROW];simp only [Array.size_append,List.size_toArray,htl,Builtin.zeroCells,Value.cells,Array.size_map,Array.size_range];simp
  omega
 have hRt:ROW.toList.take (i*5)=flat (l.take i):=by
  rw [hROW,Array.toList_append,Array.toList_append,List.append_assoc];exact List.take_left' htl
 obtain ⟨W1,hW1⟩ : ∃ W1,W1=w.drew.alloc (.cells ROW 43):=⟨_,rfl⟩;rw [← hW1] at hrz;obtain ⟨c1,hc1⟩ : ∃ c1,c1=ROW.toList.take (i*5)++c5 x++ROW.toList.drop (i*5+(c5 x).length):=⟨_,rfl⟩;obtain ⟨c2,hc2⟩ : ∃ c2,c2=c1.take ((i+1)*5)++flat (l.drop i)++c1.drop ((i+1)*5+(flat (l.drop i)).length):=⟨_,rfl⟩;obtain ⟨l1,l2,l3⟩:c1.length=G*5∧c2.length=G*5∧c2.take ((l.length+1)*5)=flat (l.take i++x::l.drop i):=by rw [hc2,hc1];exact grow_cells ROW.toList l x i G (by omega) hGn (by rw [Array.length_toList];exact hRs) hRt
 have hdl:(flat (l.drop i)).length=(l.length-i)*5:=by rw [flat_length,List.length_drop]
 have hgw:g<w.heap.size:=blk_lt hr.heap;have hvw:gv<w.heap.size:=blk_lt hv;have hN:W1.heap[w.heap.size]?=some (.cells ROW 43 (0,0)):=by rw [hW1];exact heap_alloc_new w.drew _
 have hV1:W1.heap[gv]?=some (.cells (c5 x).toArray 43 (0,0)):=by rw [hW1];exact blk_alloc (w:=w.drew) hv _
 have hG1:W1.heap[g]?=some (.cells cur 43 (0,0)):=by rw [hW1];exact blk_alloc (w:=w.drew) hr.heap _
 have hcp1:Aside0 (∀ ty dc,(Builtin.copy_ #[25,25] ty #[.slice (some ⟨w.heap.size,i*5,none⟩) (l.length+1-i) dc,.slice (some ⟨gv,0,none⟩) 1 vc]).run Tryz.prog W1=.ok (goInt 1) (W1.setRow w.heap.size c1.toArray)):=⟨fun ty dc=>by
  have h:=run_copy5 (P:=Tryz.prog) W1 25 25 ty 43 w.heap.size (i*5) (l.length+1-i) dc ⟨gv,0,none⟩ 1 vc ROW 43 (c5 x) Tryz.underlying25 hs5 hN (by rw [c5_length];simp only [Nat.min_def];split <;> omega)
   (fun j v hj=>by rw [Addr.add_lit,Nat.zero_add,blk_cell hV1];simpa using hj)
   (by rw [c5_length,hRs];omega) (fun v hv=>flat_one [x] v (by simpa [flat] using hv))
  rw [← hc1] at h;rw [h];congr 2
  simp only [Nat.min_def];split <;> omega⟩
 obtain ⟨W2,hW2⟩ : ∃ W2,W2=W1.setRow w.heap.size c1.toArray:=⟨_,rfl⟩;rw [← hW2] at hcp1;have hN2:W2.heap[w.heap.size]?=some (.cells c1.toArray 43 (0,0)):=by rw [hW2];exact setRow_heap _ _ _ _ _ _ hN
 have hG2:W2.heap[g]?=some (.cells cur 43 (0,0)):=by rw [hW2,setRow_other _ _ _ _ (by omega)];exact hG1
 have hcp2:Aside0 (∀ ty dc sc,(Builtin.copy_ #[25,25] ty #[.slice (some ⟨w.heap.size,(i+1)*5,none⟩) (l.length-i) dc,.slice (some ⟨g,i*5,none⟩) (l.length-i) sc]).run Tryz.prog W2.drew=.ok (goInt (l.length-i)) (W2.drew.setRow w.heap.size c2.toArray)):=⟨fun ty dc sc=>by
  have h:=run_copy5 (P:=Tryz.prog) W2.drew 25 25 ty 43 w.heap.size ((i+1)*5) (l.length-i) dc ⟨g,i*5,none⟩ (l.length-i) sc c1.toArray 43 (flat (l.drop i)) Tryz.underlying25 hs5 hN2 (by rw [hdl];congr 1;simp only [Nat.min_def];split <;> omega)
   (fun j v hj=>by
    rw [Addr.add_lit];show W2.cell? ⟨g,i*5+j,none⟩=some v
    have hjl:=(List.getElem?_eq_some_iff.1 hj).1;rw [hdl] at hjl;have hc:=row_cell hr (i*5+j) (by omega)
    rw [blk_cell hr.heap] at hc;rw [blk_cell hG2,hc,← List.getElem?_drop,flat_drop];exact hj)
   (by rw [hdl];simp only [List.size_toArray];omega) (fun v hv=>flat_one _ v hv)
  rw [List.toList_toArray,← hc2] at h;rw [h];congr 2
  simp only [Nat.min_def];split <;> omega⟩
 have hfin:Row (W2.drew.setRow w.heap.size c2.toArray) w.heap.size G c2.toArray (l.take i++x::l.drop i):=by
  have hlen:(l.take i++x::l.drop i).length=l.length+1:=by simp;omega
  exact ⟨setRow_heap _ _ _ _ _ _ hN2,by omega,hG63,by simpa using l2,by rw [hlen];simpa using l3⟩
 have hgr:w.grownBy (W2.drew.setRow w.heap.size c2.toArray) none:=by
  rw [hW2,hW1];exact ⟨rfl,rfl,rfl,by simp [World.setRow],fun k hk _=>by
   rw [setRow_other _ _ _ _ (by omega)]
   show ((w.drew.alloc (.cells ROW 43)).setRow w.heap.size c1.toArray).heap[k]?=_
   rw [setRow_other _ _ _ _ (by omega)]
   exact Below.heap_alloc w.drew _ k hk⟩
 have hw1:IntKind.i64.wrap ((i:Int)+1)=(i:Int)+1:=by rw [IntKind.wrap_i64];omega
 have hb1:(0:Int)≤(i:Int)+1:=by omega
 have htn:((i:Int)+1).toNat=i+1:=by omega
 have hb2 : ¬ (G=i+1):=by omega
 have hb3:(i:Int)+1≤(l.length:Int)+1:=by omega
 have hb5:(i:Int)≤(l.length:Int)+1:=by omega
 have hb6:(i:Int)≤(l.length:Int):=by omega
 have hb4 : ¬ (G=i):=by omega
 have hb7 : ¬ (cap=i):=by omega
 have hin:i≤l.length:=by omega
 have hin1:i≤l.length+1:=by omega
 have hb8:i≤cap:=by have:=hr.le;omega
 have HFIN:=Aside0.mk hfin;have HGR:=Aside0.mk hgr;have HRZ:=Aside0.mk hrz;clear hfin hgr hN hV1 hG1 hN2 hG2 hdl l1 l2 l3 hc1 hc2 hW1 hW2 hr hv hRs hRt hROW hrz hold htl hcap hG hi0 hz0 hzs hzb hkk hik;go_enter Tryz.func311,Tryz.ntmps311;go_wp2_with (first|((with_reducible refine gate_builtin (b:=.append) (xs:=#[.tmp 34,.tmp 39]) rfl ?_);(refine Lib.wpList_append_run _ rfl (.tmp 34) (.tmp 39) 25 3 rfl _ _ rfl rfl _ _ (HRZ.out _) ?_))|((with_reducible refine gate_builtin (b:=.copy) (xs:=#[.tmp 43,.tmp 44]) rfl ?_);(refine wpList_copy_runI _ rfl (.tmp 43) (.tmp 44) 25 25 rfl (.slice (some ⟨w.heap.size,i*5,none⟩) (l.length+1-i) (G-i)) (.slice (some ⟨gv,0,none⟩) 1 vc) rfl rfl (hcp1.out _ _) ?_)))
 go_region_law (refine step_copy_runI rfl _ _ 25 25 rfl (.slice (some ⟨w.heap.size,(i+1)*5,none⟩) (l.length-i) (G-(i+1))) (.slice (some ⟨g,i*5,none⟩) (l.length-i) (cap-i)) (by simp [Act.eval,Act.put]) (by simp [Act.eval,Act.put]) (hcp2.out _ _ _) ?_)
 go_wp2_with (fail)
 go_ret
 exact ⟨⟨_,_,_,rfl,Nat.le_refl _,HFIN.out⟩,HGR.out⟩
theorem ins_end (base g cap gv:Nat) (cur:Array Value) (l:List S43) (x:S43) (w:World) (hr:Row w g cap cur l) (hb:base≤g) (hv:w.heap[gv]?=some (.cells (c5 x).toArray 43 (0,0))) (hne:gv≠g) (hl:l.length≤1000) (hbw:base≤w.heap.size) :
  Calls Tryz.prog 311 #[.slice (some ⟨g,0,none⟩) l.length cap,.int .i64 l.length,.slice (some ⟨gv,0,none⟩) 1 1] w fun e w'=>∃ v2,e=.returned v2∧Kd.R k43 43 w' base (fun _=>True) v2 (l++[x])∧Below base w w':=by
 have HO:=Aside0.mk (R_of_row (base:=base) hr hb);have HRR:Aside0 (ReadsRow (k43.K w) 5 w (some ⟨gv,0,none⟩) 1 [x]):=⟨⟨rfl,by omega,fun _=>⟨⟨gv,0,none⟩,rfl,fun j p hj=>by
  have hj0:j=0:=by have:=(List.getElem?_eq_some_iff.1 hj).1;simpa using this
  subst hj0;cases hj
  refine ⟨c5 x,rfl,k43_mk w x,fun i u hu=>?_⟩;rw [Nat.zero_mul,Nat.zero_add,Addr.add_lit,Nat.zero_add,blk_cell hv];simpa using hu⟩⟩⟩
 have hle:=hr.le;clear hr hv;go_enter Tryz.func311,Tryz.ntmps311;go_wp2_with ((with_reducible refine gate_builtin (b:=.append) (xs:=#[.tmp 23,.tmp 24]) rfl ?_);at_builtin;refine Kd.R_append_rows k43 (w0:=w) base rfl (.tmp 23) (.tmp 24) 25 43 (.agg #[(.int .u32 0),(.int .u32 0),(.string ⟨#[]⟩),(.bool false),(.int .u32 0)]) 32 rfl Tryz.underlying25 info43 rfl (by decide) (by omega) _ l [x] _ _ _ (fun _=>True) (fun _=>False) rfl rfl HO.out HRR.out (fun y c hy=>by rw [k43_open hy];exact k43_mkM _ _ _ y) (fun _ h=>h.elim) (fun _ _=>trivial) (Below.refl base w) hbw (by omega) ?_;intro v2 w2 ho2 hb2 hg hat;have HO2:=Aside0.mk ho2;have HB2:=Aside0.mk hb2;clear ho2 hb2 hg hat)
 all_goals (go_ret;exact ⟨_,rfl,HO2.out,HB2.out⟩)
theorem ins_c (base gv:Nat) (v1:Value) (l:List S43) (x:S43) (i:Nat) (w:World) (HO:Kd.R k43 43 w base (fun _=>True) v1 l) (hpos:0<l.length) (hv:w.heap[gv]?=some (.cells (c5 x).toArray 43 (0,0))) (hne:some gv≠v1.ownBlock) (hi:i≤l.length) (hl:l.length≤1000) (hbw:base≤w.heap.size) :
  Calls Tryz.prog 311 #[v1,.int .i64 i,.slice (some ⟨gv,0,none⟩) 1 1] w fun e w'=>∃ v2,e=.returned v2∧Kd.R k43 43 w' base (fun _=>True) v2 (l.take i++x::l.drop i)∧Below base w w':=by
 obtain ⟨g,cap,cur,rfl,hb,hr⟩:=row_of_R HO hpos;have hne':gv≠g:=fun e=>hne (by rw [e];rfl)
 rcases Nat.lt_or_ge i l.length with h|h
 ·rcases Nat.lt_or_ge cap (l.length+1) with hc|hc
  ·refine (ins_grow g cap gv 1 cur l x i w hr hv h hc hl).mono fun e w' hh=>?_;obtain ⟨⟨g',cap',cur',he,hg',hr'⟩,hgr⟩:=hh;have hlen:(l.take i++x::l.drop i).length=l.length+1:=by simp;omega
   have hR:=R_of_row (base:=base) hr' (Nat.le_trans hbw hg');rw [hlen] at hR;exact ⟨_,he,hR,pw_below_grown (Below.refl base w) none hbw hgr (fun k hk=>by cases hk)⟩
  ·refine (ins_shift g cap gv 1 cur l x i w hr hv hne' h hc hl).mono fun e w' hh=>?_;obtain ⟨he,⟨cur',hr'⟩,hgr⟩:=hh;have hlen:(l.take i++x::l.drop i).length=l.length+1:=by simp;omega
   have hR:=R_of_row (base:=base) hr' hb;rw [hlen] at hR;exact ⟨_,he,hR,pw_below_grown (Below.refl base w) (some g) hbw hgr (fun k hk=>by cases hk;exact hb)⟩
 ·obtain rfl:i=l.length:=by omega
  rw [List.take_length,List.drop_length];exact ins_end base g cap gv cur l x w hr hb hv hne' hl hbw
def clone34.f (l:List S43):Option (List S43):=if l.length≤1000 then some l else none
theorem clone34.calls (A0:Option Addr) (c0:Nat) (l0:List S43) (r:List S43) (w:World) (hr0:Kd.C k43 w A0 l0.length l0) (hc0:l0.length≤c0) (h:clone34.f l0=some r) :
  Calls Tryz.prog 159 #[.slice A0 l0.length c0] w fun e w'=>∃ v0_:Value,e=.returned v0_∧Kd.R k43 43 w' w.heap.size (fun _=>True) v0_ r∧Below w.heap.size w w':=by
 unfold clone34.f at h;by_cases hl:l0.length≤1000
 ·rw [if_pos hl] at h;cases h
  have q22 : ∀ (w:World) (a:Option Addr) (n c n' c':Nat),(binOp .eql 25 (.slice a n c) (.slice none n' c')).run Tryz.prog w=.ok (.bool a.isNone) w:=fun w a n c n' c'=>Lib.run_eql_slice_nil w _ _ a n c n' c' Tryz.underlying25;have HR0:=Aside0.mk hr0;have HC0:=Aside0.mk hc0;cases A0 with
  | none =>
   have hn:l0.length=0:=by
    rcases Nat.eq_zero_or_pos l0.length with h|h
    ·exact h
    ·obtain ⟨ad,e,_⟩:=at_T43 hr0 0 (by omega) (by omega)
     cases e
   have hl0:=List.length_eq_zero_iff.1 hn;subst hl0;go_enter Tryz.func159,Tryz.ntmps159;go_wp2_with (fail)
   go_ret
   exact ⟨_,rfl,Kd.R_nil _ _ _ _ _,Below.refl _ _⟩
  | some ad =>
   clear hr0 hc0;go_enter Tryz.func159,Tryz.ntmps159;go_wp2_with (first|((with_reducible refine gate_dst (N:=5) rfl ?_);refine Kd.R_lit k43 _ 43 ?hg (N:=5) ?hd (xs:=([]:List (S43))) (inner:=[]) (ok:=fun _=>True) (okp:=fun _=>True) ?hr ?hp (fun _ hk=>hk) trivial (Below.refl _ _) (Nat.le_refl _) (by simp) ?_;(case hd=>rfl);(case hg=>rfl);(case hr=>first|(go_simp;done)|(go_simp;rfl));(case hp=>exact (Reps.none _ _));intro v1 w1 ho1 hb1 hg_ hnew_;have HO1:=Aside0.mk ho1;have HB1:=Aside0.mk hb1;clear ho1 hb1 hg_ hnew_)|((with_reducible refine gate_builtin (b:=.append) (xs:=#[.tmp 5,.tmp 6]) rfl ?_);at_builtin;refine Kd.R_append_rows k43 (w0:=w) w.heap.size rfl (.tmp 5) (.tmp 6) 25 43 (.agg #[(.int .u32 0),(.int .u32 0),(.string ⟨#[]⟩),(.bool false),(.int .u32 0)]) 32 rfl Tryz.underlying25 info43 rfl (by decide) (by omega) v1 ([]:List S43) l0 _ _ _ (fun _=>True) (fun _=>False) rfl rfl HO1.out (Kd.C_below HR0.out HB1.out) (fun _ _ h=>h) (fun _ h=>h.elim) (fun _ _=>trivial) HB1.out HB1.out.size (by simp;omega) ?_;intro v2 w2 ho2 hb2 hg hat;rw [List.nil_append] at ho2;have HO2:=Aside0.mk ho2;have HB2:=Aside0.mk hb2;clear ho2 hb2 hg hat))
   go_ret
   exact ⟨_,rfl,HO2.out,HB2.out⟩
 ·rw [if_neg hl] at h;cases h
theorem cmp65.calls (x:S43) (id:Int) (w:World) (h0:0≤x.f0) (h1:x.f0≤4294967295) (h2:0≤id) (h3:id≤4294967295) :
  Calls Tryz.prog 215 #[.agg #[.int .u32 x.f0,.int .u32 x.f1,.string x.f2,.bool x.f3,.int .u32 x.f4],.int .u32 id] w fun e w'=>e=.returned (.int .i64 (x.f0-id))∧Below w.heap.size w w':=by
 obtain ⟨y0,y1,y2,y3,y4⟩:=x;simp only at h0 h1 ⊢;go_enter Tryz.func215,Tryz.ntmps215;go_wp2
 go_ret
 exact ⟨rfl,below_alloc (Below.refl _ _) _⟩
theorem cmp63.calls (x:S43) (id:Int) (w:World) (h0:0≤x.f0) (h1:x.f0≤4294967295) (h2:0≤id) (h3:id≤4294967295) :
  Calls Tryz.prog 310 #[.agg #[.int .u32 x.f0,.int .u32 x.f1,.string x.f2,.bool x.f3,.int .u32 x.f4],.int .u32 id] w fun e w'=>e=.returned (.int .i64 (x.f0-id))∧Below w.heap.size w w':=by
 obtain ⟨y0,y1,y2,y3,y4⟩:=x;simp only at h0 h1 ⊢;go_enter Tryz.func310,Tryz.ntmps310;go_wp2
 go_ret
 exact ⟨rfl,below_alloc (Below.refl _ _) _⟩
def lowF (t:List S43) (id:Int):Nat→Nat→Nat→Option Nat
 | 0,_,_=>none
 | k+1,i,j=>if i<j then (if (rd_T43 t (((i+j) / 2:Nat):Int)).f0<id then lowF t id k ((i+j) / 2+1) j else lowF t id k i ((i+j) / 2)) else some i
theorem rd_T43_mem65 (l:List S43) (i:Nat) (h:i<l.length):rd_T43 l (i:Int)∈l:=by
 simp [rd_T43,List.getD_eq_getElem?_getD,List.getElem?_eq_getElem h]
theorem bsearch65.calls (k:Nat) (A0:Option Addr) (c0:Nat) (t:List S43) (id:Int) (r:Nat) (w:World) (hr0:Kd.C k43 w A0 t.length t) (hc0:t.length≤c0) (hlt1:t.length≤1000) (hid:0≤id∧id≤4294967295) (hwf : ∀ x∈t,0≤x.f0∧x.f0≤4294967295) (h:lowF t id k 0 t.length=some r) :
  Calls Tryz.prog 214 #[.slice A0 t.length c0,.int .u32 id,.func (.func 215) #[] #[]] w fun e w'=>e=.returned (.tuple #[.int .i64 r,.bool (decide (r<t.length)&&((rd_T43 t r).f0 == id))])∧Below w.heap.size w w':=by
 have hlen:=hr0.2.1;have HR0:=Aside0.mk hr0;have HC0:=Aside0.mk hc0;have HWF:=Aside0.mk hwf;have HH:=Aside0.mk h;obtain ⟨hi0,hi1⟩:=hid;clear hr0 hc0 hwf h;go_enter Tryz.func214,Tryz.ntmps214;go_wp2
 go_loopw [9,10] (fun v9 v10 wr=>∃ (i j q:Nat),i≤j∧j≤t.length∧v9=.int .i64 i∧v10=.int .i64 j∧Aside0 (lowF t id q i j=some r)∧Aside0 (Below w.heap.size w wr)) (fun v9 v10 _=>(intOf v10).toNat-(intOf v9).toNat)
 case atStart=>exact ⟨0,t.length,k,Nat.zero_le _,Nat.le_refl _,rfl,rfl,HH,⟨Below.refl _ _⟩⟩
 case round =>
  obtain ⟨i,j,q,hij,hj,rfl,rfl,HQ,HB⟩:=hrel;by_cases hlt:i<j
  ·obtain ⟨s,hs⟩ : ∃ s:Nat,s=i+j:=⟨_,rfl⟩;obtain ⟨m,hm⟩ : ∃ m:Nat,m=s / 2:=⟨_,rfl⟩;have s1:(i:Int)+(j:Int)=(s:Int):=by omega
   have s2:wrap64 (s:Int)=(s:Int):=by unfold wrap64;omega
   have s3:IntKind.u64.wrap (s:Int)=(s:Int):=by
    simp only [IntKind.wrap,IntKind.bits,IntKind.signed];simp
    omega
   have s4:(s:Int) / 2=(m:Int):=by omega
   have s5:wrap64 (m:Int)=(m:Int):=by unfold wrap64;omega
   have hmt:m<t.length:=by omega
   have hmj:m<j:=by omega
   have him:i≤m:=by omega
   have HX:=HWF.out _ (rd_T43_mem65 t m hmt);obtain ⟨ad,e,x0,x1,x2,x3,x4⟩:=at_T43 HR0.out m (by omega) (by omega)
   cases e
   simp only [Int.toNat_natCast] at x0 x1 x2 x3 x4;have keep : ∀ (a:Addr) (v:Value),w.cell? a=some v→wr.cell? a=some v:=fun a v h=>(HB.out.cell (World.block_lt_of_cell? w _ h)).trans h;replace x0:=keep _ _ x0;replace x1:=keep _ _ x1;replace x2:=keep _ _ x2;replace x3:=keep _ _ x3;replace x4:=keep _ _ x4;clear keep;have hq:=HQ.out;obtain ⟨q,rfl⟩ : ∃ p,q=p+1:=by
    cases q with
    | zero=>simp [lowF] at hq
    | succ p=>exact ⟨p,rfl⟩
   simp only [lowF] at hq;have e2:(i+j) / 2=m:=by omega
   rw [if_pos hlt,e2] at hq;clear hs hm e2;generalize hx:rd_T43 t (m:Int)=x at hq HX x0 x1 x2 x3 x4;obtain ⟨b0,b1⟩:=HX;by_cases hc:x.f0<id
   ·rw [if_pos hc] at hq;have HQ':=Aside0.mk hq;have hc':x.f0-id<0:=by omega
    clear hq hx;go_wp2_with (go_at_call 215;refine (cmp65.calls x id _ b0 b1 hi0 hi1).mono ?_;rintro e w1 ⟨rfl,hb1⟩;have HB1:=Aside0.mk hb1;clear hb1)
    go_roundw
    case rel=>exact ⟨m+1,j,q,by omega,hj,by go_num,rfl,HQ',⟨below_step HB.out HB1.out⟩⟩
    case measure=>simp [intOf];omega
   ·rw [if_neg hc] at hq;have HQ':=Aside0.mk hq;have hc' : ¬ x.f0-id<0:=by omega
    have hc2:decide (x.f0-id<0)=false:=decide_eq_false hc';clear hq hx;go_wp2_with (go_at_call 215;refine (cmp65.calls x id _ b0 b1 hi0 hi1).mono ?_;rintro e w1 ⟨rfl,hb1⟩;have HB1:=Aside0.mk hb1;clear hb1)
    go_roundw
    case rel=>exact ⟨i,m,q,him,by omega,rfl,rfl,HQ',⟨below_step HB.out HB1.out⟩⟩
    case measure=>simp [intOf];omega
  ·have hq:=HQ.out;obtain ⟨q,rfl⟩ : ∃ p,q=p+1:=by
    cases q with
    | zero=>simp [lowF] at hq
    | succ p=>exact ⟨p,rfl⟩
   simp only [lowF] at hq;rw [if_neg hlt] at hq;obtain rfl:=Option.some.inj hq;clear hq HQ;by_cases hin:i<t.length
   ·obtain ⟨ad,e,x0,x1,x2,x3,x4⟩:=at_T43 HR0.out i (by omega) (by omega)
    cases e
    simp only [Int.toNat_natCast] at x0 x1 x2 x3 x4;have keep : ∀ (a:Addr) (v:Value),w.cell? a=some v→wr.cell? a=some v:=fun a v h=>(HB.out.cell (World.block_lt_of_cell? w _ h)).trans h;replace x0:=keep _ _ x0;replace x1:=keep _ _ x1;replace x2:=keep _ _ x2;replace x3:=keep _ _ x3;replace x4:=keep _ _ x4;clear keep;have HX:=HWF.out _ (rd_T43_mem65 t i hin);have hin':decide (i<t.length)=true:=decide_eq_true hin;have EIN:=Aside0.mk hin';generalize hx:rd_T43 t (i:Int)=x at HX x0 x1 x2 x3 x4;obtain ⟨b0,b1⟩:=HX;have eqv:((x.f0-id) == (0:Int))=(x.f0 == id):=by
     rw [Bool.eq_iff_iff,beq_iff_eq,beq_iff_eq];omega
    have EQV:=Aside0.mk eqv;have HXE:=Aside0.mk hx;clear eqv hx;go_wp2_with (go_at_call 215;refine (cmp65.calls x id _ b0 b1 hi0 hi1).mono ?_;rintro e w1 ⟨rfl,hb1⟩;have HB1:=Aside0.mk hb1;clear hb1)
    go_ret2
    refine ⟨?_,below_step HB.out HB1.out⟩;rw [HXE.out,EIN.out,Bool.true_and,← EQV.out];rfl
   ·have hin':decide (i<t.length)=false:=decide_eq_false hin;have hin2:decide ((i:Int)<(t.length:Int))=false:=decide_eq_false (by omega)
    have EIN:=Aside0.mk hin';go_wp2
    go_ret2
    refine ⟨?_,HB.out⟩;rw [EIN.out,Bool.false_and];rfl
theorem rd_T43_mem63 (l:List S43) (i:Nat) (h:i<l.length):rd_T43 l (i:Int)∈l:=by
 simp [rd_T43,List.getD_eq_getElem?_getD,List.getElem?_eq_getElem h]
theorem bsearch63.calls (k:Nat) (A0:Option Addr) (c0:Nat) (t:List S43) (id:Int) (r:Nat) (w:World) (hr0:Kd.C k43 w A0 t.length t) (hc0:t.length≤c0) (hlt1:t.length≤1000) (hid:0≤id∧id≤4294967295) (hwf : ∀ x∈t,0≤x.f0∧x.f0≤4294967295) (h:lowF t id k 0 t.length=some r) :
  Calls Tryz.prog 214 #[.slice A0 t.length c0,.int .u32 id,.func (.func 310) #[] #[]] w fun e w'=>e=.returned (.tuple #[.int .i64 r,.bool (decide (r<t.length)&&((rd_T43 t r).f0 == id))])∧Below w.heap.size w w':=by
 have hlen:=hr0.2.1;have HR0:=Aside0.mk hr0;have HC0:=Aside0.mk hc0;have HWF:=Aside0.mk hwf;have HH:=Aside0.mk h;obtain ⟨hi0,hi1⟩:=hid;clear hr0 hc0 hwf h;go_enter Tryz.func214,Tryz.ntmps214;go_wp2
 go_loopw [9,10] (fun v9 v10 wr=>∃ (i j q:Nat),i≤j∧j≤t.length∧v9=.int .i64 i∧v10=.int .i64 j∧Aside0 (lowF t id q i j=some r)∧Aside0 (Below w.heap.size w wr)) (fun v9 v10 _=>(intOf v10).toNat-(intOf v9).toNat)
 case atStart=>exact ⟨0,t.length,k,Nat.zero_le _,Nat.le_refl _,rfl,rfl,HH,⟨Below.refl _ _⟩⟩
 case round =>
  obtain ⟨i,j,q,hij,hj,rfl,rfl,HQ,HB⟩:=hrel;by_cases hlt:i<j
  ·obtain ⟨s,hs⟩ : ∃ s:Nat,s=i+j:=⟨_,rfl⟩;obtain ⟨m,hm⟩ : ∃ m:Nat,m=s / 2:=⟨_,rfl⟩;have s1:(i:Int)+(j:Int)=(s:Int):=by omega
   have s2:wrap64 (s:Int)=(s:Int):=by unfold wrap64;omega
   have s3:IntKind.u64.wrap (s:Int)=(s:Int):=by
    simp only [IntKind.wrap,IntKind.bits,IntKind.signed];simp
    omega
   have s4:(s:Int) / 2=(m:Int):=by omega
   have s5:wrap64 (m:Int)=(m:Int):=by unfold wrap64;omega
   have hmt:m<t.length:=by omega
   have hmj:m<j:=by omega
   have him:i≤m:=by omega
   have HX:=HWF.out _ (rd_T43_mem63 t m hmt);obtain ⟨ad,e,x0,x1,x2,x3,x4⟩:=at_T43 HR0.out m (by omega) (by omega)
   cases e
   simp only [Int.toNat_natCast] at x0 x1 x2 x3 x4;have keep : ∀ (a:Addr) (v:Value),w.cell? a=some v→wr.cell? a=some v:=fun a v h=>(HB.out.cell (World.block_lt_of_cell? w _ h)).trans h;replace x0:=keep _ _ x0;replace x1:=keep _ _ x1;replace x2:=keep _ _ x2;replace x3:=keep _ _ x3;replace x4:=keep _ _ x4;clear keep;have hq:=HQ.out;obtain ⟨q,rfl⟩ : ∃ p,q=p+1:=by
    cases q with
    | zero=>simp [lowF] at hq
    | succ p=>exact ⟨p,rfl⟩
   simp only [lowF] at hq;have e2:(i+j) / 2=m:=by omega
   rw [if_pos hlt,e2] at hq;clear hs hm e2;generalize hx:rd_T43 t (m:Int)=x at hq HX x0 x1 x2 x3 x4;obtain ⟨b0,b1⟩:=HX;by_cases hc:x.f0<id
   ·rw [if_pos hc] at hq;have HQ':=Aside0.mk hq;have hc':x.f0-id<0:=by omega
    clear hq hx;go_wp2_with (go_at_call 310;refine (cmp63.calls x id _ b0 b1 hi0 hi1).mono ?_;rintro e w1 ⟨rfl,hb1⟩;have HB1:=Aside0.mk hb1;clear hb1)
    go_roundw
    case rel=>exact ⟨m+1,j,q,by omega,hj,by go_num,rfl,HQ',⟨below_step HB.out HB1.out⟩⟩
    case measure=>simp [intOf];omega
   ·rw [if_neg hc] at hq;have HQ':=Aside0.mk hq;have hc' : ¬ x.f0-id<0:=by omega
    have hc2:decide (x.f0-id<0)=false:=decide_eq_false hc';clear hq hx;go_wp2_with (go_at_call 310;refine (cmp63.calls x id _ b0 b1 hi0 hi1).mono ?_;rintro e w1 ⟨rfl,hb1⟩;have HB1:=Aside0.mk hb1;clear hb1)
    go_roundw
    case rel=>exact ⟨i,m,q,him,by omega,rfl,rfl,HQ',⟨below_step HB.out HB1.out⟩⟩
    case measure=>simp [intOf];omega
  ·have hq:=HQ.out;obtain ⟨q,rfl⟩ : ∃ p,q=p+1:=by
    cases q with
    | zero=>simp [lowF] at hq
    | succ p=>exact ⟨p,rfl⟩
   simp only [lowF] at hq;rw [if_neg hlt] at hq;obtain rfl:=Option.some.inj hq;clear hq HQ;by_cases hin:i<t.length
   ·obtain ⟨ad,e,x0,x1,x2,x3,x4⟩:=at_T43 HR0.out i (by omega) (by omega)
    cases e
    simp only [Int.toNat_natCast] at x0 x1 x2 x3 x4;have keep : ∀ (a:Addr) (v:Value),w.cell? a=some v→wr.cell? a=some v:=fun a v h=>(HB.out.cell (World.block_lt_of_cell? w _ h)).trans h;replace x0:=keep _ _ x0;replace x1:=keep _ _ x1;replace x2:=keep _ _ x2;replace x3:=keep _ _ x3;replace x4:=keep _ _ x4;clear keep;have HX:=HWF.out _ (rd_T43_mem63 t i hin);have hin':decide (i<t.length)=true:=decide_eq_true hin;have EIN:=Aside0.mk hin';generalize hx:rd_T43 t (i:Int)=x at HX x0 x1 x2 x3 x4;obtain ⟨b0,b1⟩:=HX;have eqv:((x.f0-id) == (0:Int))=(x.f0 == id):=by
     rw [Bool.eq_iff_iff,beq_iff_eq,beq_iff_eq];omega
    have EQV:=Aside0.mk eqv;have HXE:=Aside0.mk hx;clear eqv hx;go_wp2_with (go_at_call 310;refine (cmp63.calls x id _ b0 b1 hi0 hi1).mono ?_;rintro e w1 ⟨rfl,hb1⟩;have HB1:=Aside0.mk hb1;clear hb1)
    go_ret2
    refine ⟨?_,below_step HB.out HB1.out⟩;rw [HXE.out,EIN.out,Bool.true_and,← EQV.out];rfl
   ·have hin':decide (i<t.length)=false:=decide_eq_false hin;have hin2:decide ((i:Int)<(t.length:Int))=false:=decide_eq_false (by omega)
    have EIN:=Aside0.mk hin';go_wp2
    go_ret2
    refine ⟨?_,HB.out⟩;rw [EIN.out,Bool.false_and];rfl
def upB:Int→List S43→Bool
 | _,[]=>true
 | lo,x::t=>decide (lo<x.f0)&&decide (x.f0≤4294967295)&&upB x.f0 t
theorem upB_cons {lo:Int} {x:S43} {t:List S43} (h:upB lo (x::t)=true):lo<x.f0∧x.f0≤4294967295∧upB x.f0 t=true:=by
 simp only [upB,Bool.and_eq_true,decide_eq_true_eq] at h;exact ⟨h.1.1,h.1.2,h.2⟩
theorem upB_mem : ∀ (t:List S43) (lo:Int),upB lo t=true→∀ x∈t,lo<x.f0∧x.f0≤4294967295
 | [],lo,_,x,hx=>by cases hx
 | y::t,lo,h,x,hx=>by
  obtain ⟨h1,h2,h3⟩:=upB_cons h;rcases List.mem_cons.1 hx with rfl|hx
  ·exact ⟨h1,h2⟩
  ·have:=upB_mem t y.f0 h3 x hx;omega
theorem rd_cons0 (y:S43) (t:List S43):rd_T43 (y::t) ((0:Nat):Int)=y:=rfl
theorem rd_consS (y:S43) (t:List S43) (i:Nat):rd_T43 (y::t) ((i+1:Nat):Int)=rd_T43 t (i:Int):=by
 simp [rd_T43]
theorem upB_lt : ∀ (t:List S43) (lo:Int),upB lo t=true→∀ a b:Nat,a<b→b<t.length→(rd_T43 t (a:Int)).f0<(rd_T43 t (b:Int)).f0
 | [],lo,_,a,b,_,hb=>by simp at hb
 | y::t,lo,h,a,b,hab,hb=>by
  obtain ⟨_,_,h3⟩:=upB_cons h;obtain ⟨b,rfl⟩ : ∃ q,b=q+1:=⟨b-1,by omega⟩
  rw [rd_consS];have hb':b<t.length:=by simpa using hb
  rcases Nat.eq_zero_or_pos a with rfl|ha
  ·rw [rd_cons0];exact (upB_mem t _ h3 _ (rd_T43_mem65 t b hb')).1
  ·obtain ⟨a,rfl⟩ : ∃ q,a=q+1:=⟨a-1,by omega⟩
   rw [rd_consS];exact upB_lt t _ h3 a b (by omega) hb'
theorem lowF_spec (t:List S43) (id:Int) (hs : ∀ a b:Nat,a<b→b<t.length→(rd_T43 t (a:Int)).f0<(rd_T43 t (b:Int)).f0) : ∀ (d k i j:Nat),j-i≤d→d<k→i≤j→j≤t.length→(∀ x:Nat,x<i→(rd_T43 t (x:Int)).f0<id)→(∀ x:Nat,j≤x→x<t.length→id≤(rd_T43 t (x:Int)).f0) →
  ∃ r,lowF t id k i j=some r∧r≤t.length∧(∀ x:Nat,x<r→(rd_T43 t (x:Int)).f0<id)∧(∀ x:Nat,r≤x→x<t.length→id≤(rd_T43 t (x:Int)).f0):=by
 intro d;induction d with
 | zero =>
  intro k i j hd hk hij hj h1 h2;obtain ⟨k,rfl⟩ : ∃ m,k=m+1:=⟨k-1,by omega⟩
  exact ⟨i,by simp only [lowF];rw [if_neg (by omega)],by omega,h1,fun x hx=>h2 x (by omega)⟩
 | succ d ih =>
  intro k i j hd hk hij hj h1 h2;obtain ⟨k,rfl⟩ : ∃ m,k=m+1:=⟨k-1,by omega⟩
  simp only [lowF];by_cases hlt:i<j
  ·rw [if_pos hlt];by_cases hc:(rd_T43 t (((i+j) / 2:Nat):Int)).f0<id
   ·rw [if_pos hc];refine ih k _ _ (by omega) (by omega) (by omega) hj (fun x hx=>?_) h2
    rcases Nat.lt_or_ge x ((i+j) / 2) with h|h
    ·have:=hs x ((i+j) / 2) h (by omega);omega
    ·obtain rfl:x=(i+j) / 2:=by omega
     exact hc
   ·rw [if_neg hc];refine ih k _ _ (by omega) (by omega) (by omega) (by omega) h1 (fun x hx hx2=>?_)
    rcases Nat.lt_or_ge ((i+j) / 2) x with h|h
    ·have:=hs ((i+j) / 2) x h hx2;omega
    ·obtain rfl:x=(i+j) / 2:=by omega
     omega
  ·rw [if_neg hlt];exact ⟨i,rfl,by omega,h1,fun x hx=>h2 x (by omega)⟩
def findI (t:List S43) (id:Int):Option S43:=t.find? (fun x=>x.f0 == id)
theorem findI_at (t:List S43) (id:Int) (r:Nat) (h1 : ∀ x:Nat,x<r→(rd_T43 t (x:Int)).f0<id) (h2 : ∀ x:Nat,r≤x→x<t.length→id≤(rd_T43 t (x:Int)).f0) (hs : ∀ a b:Nat,a<b→b<t.length→(rd_T43 t (a:Int)).f0<(rd_T43 t (b:Int)).f0) :
  findI t id=if r<t.length∧(rd_T43 t (r:Int)).f0=id then some (rd_T43 t (r:Int)) else none:=by
 have rdm : ∀ (i:Nat) (hi:i<t.length),t[i]=rd_T43 t (i:Int):=fun i hi=>by simp [rd_T43,List.getD_eq_getElem?_getD,List.getElem?_eq_getElem hi]
 by_cases hc:r<t.length∧(rd_T43 t (r:Int)).f0=id
 ·rw [if_pos hc];unfold findI;rw [List.find?_eq_some_iff_getElem];exact ⟨by simpa using hc.2,r,hc.1,rdm r hc.1,fun j hj=>by rw [rdm j (by omega)];have:=h1 j hj;simp;omega⟩
 ·rw [if_neg hc];unfold findI;rw [List.find?_eq_none];intro x hx;obtain ⟨i,hi,rfl⟩:=List.mem_iff_getElem.1 hx;rw [rdm i hi];simp only [beq_iff_eq];intro he;rcases Nat.lt_or_ge i r with h|h
  ·have:=h1 i h;omega
  ·have h3:=h2 r (Nat.le_refl _) (by omega)
   rcases Nat.lt_or_ge r i with h4|h4
   ·have:=hs r i h4 hi;omega
   ·obtain rfl:i=r:=by omega
    exact hc ⟨hi,he⟩
def getDom (l0:List S43) (a1:Int):Bool:=decide (l0.length≤1000)&&decide (0≤a1)&&decide (a1≤4294967295)&&upB (-1) l0
def tree_get.f (l0:List S43) (a1:Int):Option (Int×Int×ByteArray×Bool×Int×Bool) :=
 if getDom l0 a1=true then some (match findI l0 a1 with
  | some x=>(x.f0,x.f1,x.f2,x.f3,x.f4,true)
  | none=>(0,0,⟨#[]⟩,false,0,false)) else none
theorem lt_alloc (w:World) (o:Obj):w.heap.size<(w.alloc o).heap.size:=(Array.getElem?_eq_some_iff.1 (heap_alloc_new w o)).1
theorem keep_alloc (w w1:World) (o:Obj) (h:Below (w.alloc o).heap.size (w.alloc o) w1) (a:Addr) (v:Value) (hc:w.cell? a=some v):w1.cell? a=some v:=by
 have h1:=(below_alloc (Below.refl w.heap.size w) o).cell (World.block_lt_of_cell? w _ hc);have h2:(w.alloc o).cell? a=some v:=h1.trans hc;exact (h.cell (World.block_lt_of_cell? _ _ h2)).trans h2
theorem tree_get.calls (A0:Option Addr) (c0:Nat) (l0:List S43) (a1:Int) (r1 r2:Int) (r3:ByteArray) (r4:Bool) (r5:Int) (r6:Bool) (w:World) (hr0:Kd.C k43 w A0 l0.length l0) (hc0:l0.length≤c0) (h:tree_get.f l0 a1=some (r1,r2,r3,r4,r5,r6)) :
  Calls Tryz.prog 137 #[.slice A0 l0.length c0,.int .u32 a1] w fun e w'=>e=.returned (.tuple #[.agg #[.int .u32 r1,.int .u32 r2,.string r3,.bool r4,.int .u32 r5],.bool r6])∧Below w.heap.size w w':=by
 unfold tree_get.f at h;by_cases hd:getDom l0 a1=true
 ·rw [if_pos hd] at h;have h':=Option.some.inj h;clear h;unfold getDom at hd;simp only [Bool.and_eq_true,decide_eq_true_eq] at hd;obtain ⟨⟨⟨hl,ha0⟩,ha1⟩,hup⟩:=hd;have hs:=upB_lt l0 _ hup;obtain ⟨r,hr,hrl,hlo,hhi⟩:=lowF_spec l0 a1 hs l0.length (l0.length+1) 0 l0.length (by omega) (by omega) (by omega) (Nat.le_refl _) (fun x hx=>by omega) (fun x hx hx2=>by omega)
  have hfi:=findI_at l0 a1 r hlo hhi hs;rw [hfi] at h';have HR:=Aside0.mk hr;have HWF:=Aside0.mk (show ∀ x∈l0,0≤x.f0∧x.f0≤4294967295 from fun x hx=>by have:=upB_mem l0 _ hup x hx;omega)
  have HR0:=Aside0.mk hr0;have HC0:=Aside0.mk hc0;have hlen:=hr0.2.1;clear hr hs hlo hhi hfi hup hr0 hc0;obtain ⟨fs,hu34'⟩ : ∃ fs,Tryz.prog.underlying 43=some (.struct fs):=⟨_,rfl⟩;have hu34:=Aside0.mk hu34';clear hu34';have hz34 : ∀ w,(zeroValue 43).run Tryz.prog w=.ok (.agg #[.int .u32 0,.int .u32 0,.string ⟨#[]⟩,.bool false,.int .u32 0]) w:=fun w=>by kernel_rfl
  by_cases hc:r<l0.length∧(rd_T43 l0 (r:Int)).f0=a1
  ·rw [if_pos hc] at h';simp only [Prod.mk.injEq] at h';obtain ⟨e1,e2,e3,e4,e5,e6⟩:=h';subst e1 e2 e3 e4 e5 e6;have EB:Aside0 ((decide (r<l0.length)&&((rd_T43 l0 (r:Int)).f0 == a1))=true):=⟨by rw [decide_eq_true hc.1,beq_iff_eq.mpr hc.2];rfl⟩
   have EBR:=EB;have hrl2:=hc.1;clear hc;obtain ⟨ad,e,x0,x1,x2,x3,x4⟩:=at_T43 HR0.out r (by omega) (by omega)
   cases e
   simp only [Int.toNat_natCast] at x0 x1 x2 x3 x4;generalize rd_T43 l0 (r:Int)=x at EB x0 x1 x2 x3 x4;have X0:=Aside0.mk x0;have X1:=Aside0.mk x1;have X2:=Aside0.mk x2;have X3:=Aside0.mk x3;have X4:=Aside0.mk x4;clear x0 x1 x2 x3 x4;go_enter Tryz.func137,Tryz.ntmps137;go_wp2_with (fail)
   go_at_call 214
   refine (bsearch65.calls (l0.length+1) (some ad) c0 l0 a1 r _ (Kd.C_alloc HR0.out _) HC0.out hl ⟨ha0,ha1⟩ HWF.out HR.out).mono ?_;rintro e w1 ⟨rfl,hb1⟩;have x0:=keep_alloc _ _ _ hb1 _ _ X0.out;have x1:=keep_alloc _ _ _ hb1 _ _ X1.out;have x2:=keep_alloc _ _ _ hb1 _ _ X2.out;have x3:=keep_alloc _ _ _ hb1 _ _ X3.out;have x4:=keep_alloc _ _ _ hb1 _ _ X4.out;have HZ:Aside0 (w1.heap[w.heap.size]?=some (.cells #[.int .u32 0,.int .u32 0,.string ⟨#[]⟩,.bool false,.int .u32 0] 43 (0,0))):=⟨(hb1.block _ (lt_alloc w _)).trans (heap_alloc_new w _)⟩;have hi34:Aside0 ((Tryz.prog.info? 43).map (·.size)=some 5):=⟨by kernel_rfl⟩
   have HB1:=Aside0.mk (below_step (below_alloc (Below.refl w.heap.size w) _) hb1);clear hb1;rw [EBR.out];dsimp only
   go_wp2_with ((refine wpList_store_row rfl 43 (.tmp 4) (.tmp 20) rfl w.heap.size #[.int .u32 x.f0,.int .u32 x.f1,.string x.f2,.bool x.f3,.int .u32 x.f4] rfl rfl 43 _ HZ.out hi34.out rfl ?hone ?_;(case hone=>simp [Value.oneCell'])))
   refine bodyPost_ret (results_ct rfl _ _ w.heap.size 43 #[.int .u32 x.f0,.int .u32 x.f1,.string x.f2,.bool x.f3,.int .u32 x.f4] (0,0) (.struct fs) rfl ?h1 hu34.out rfl hi34.out) rfl ⟨?hv,?h2⟩
   case hv=>rfl
   case h1=>exact setRow_heap _ _ _ _ _ _ HZ.out
   case h2=>exact below_setRow HB1.out (Nat.le_refl _) _
  ·rw [if_neg hc] at h';simp only [Prod.mk.injEq] at h';obtain ⟨e1,e2,e3,e4,e5,e6⟩:=h';subst e1 e2 e3 e4 e5 e6;have EBR:Aside0 ((decide (r<l0.length)&&((rd_T43 l0 (r:Int)).f0 == a1))=false):=⟨by rw [Bool.and_eq_false_iff];rw [Classical.not_and_iff_not_or_not] at hc;exact hc.imp (fun h=>decide_eq_false h) (fun h=>beq_eq_false_iff_ne.mpr h)⟩
   clear hc;go_enter Tryz.func137,Tryz.ntmps137;go_wp2_with (fail)
   go_at_call 214
   refine (bsearch65.calls (l0.length+1) A0 c0 l0 a1 r _ (Kd.C_alloc HR0.out _) HC0.out hl ⟨ha0,ha1⟩ HWF.out HR.out).mono ?_;rintro e w1 ⟨rfl,hb1⟩;have HZ:Aside0 (w1.heap[w.heap.size]?=some (.cells #[.int .u32 0,.int .u32 0,.string ⟨#[]⟩,.bool false,.int .u32 0] 43 (0,0))):=⟨(hb1.block _ (lt_alloc w _)).trans (heap_alloc_new w _)⟩;have hi34:Aside0 ((Tryz.prog.info? 43).map (·.size)=some 5):=⟨by kernel_rfl⟩
   have HB1:=Aside0.mk (below_step (below_alloc (Below.refl w.heap.size w) _) hb1);clear hb1;rw [EBR.out];dsimp only
   go_wp2_with (refine wpList_store_row rfl 43 (.tmp 4) (.tmp 16) rfl w.heap.size #[.int .u32 0,.int .u32 0,.string ⟨#[]⟩,.bool false,.int .u32 0] rfl rfl 43 _ HZ.out hi34.out rfl ?kone ?_;(case kone=>simp [Value.oneCell']))
   refine bodyPost_ret (results_ct rfl _ _ w.heap.size 43 #[.int .u32 0,.int .u32 0,.string ⟨#[]⟩,.bool false,.int .u32 0] (0,0) (.struct fs) rfl ?k1 hu34.out rfl hi34.out) rfl ⟨?kv,?k2⟩
   case kv=>rfl
   case k1=>exact setRow_heap _ _ _ _ _ _ HZ.out
   case k2=>exact below_setRow HB1.out (Nat.le_refl _) _
 ·rw [if_neg hd] at h;cases h
theorem set_cells (cur:List Value) (l:List S43) (x:S43) (p cap:Nat) (hp:p<l.length) (hcap:l.length≤cap) (hsz:cur.length=cap*5) (hc:cur.take (l.length*5)=flat l) :
  (cur.take (p*5)++c5 x++cur.drop (p*5+5)).length=cap*5∧(cur.take (p*5)++c5 x++cur.drop (p*5+5)).take (l.length*5)=flat (l.set p x):=by
 refine ⟨by simp only [List.length_append,List.length_take,List.length_drop,hsz,c5_length];omega,?_⟩
 have e1:cur.take (p*5)=flat (l.take p):=by rw [← flat_take,← hc,List.take_take,Nat.min_eq_left (by omega)]
 have e2:(cur.drop (p*5+5)).take ((l.length-(p+1))*5)=flat (l.drop (p+1)):=by
  rw [← flat_drop,← hc,List.drop_take];rw [show (p+1)*5=p*5+5 by omega]
  congr 1
  omega
 have hl1:(flat (l.take p)++c5 x).length=p*5+5:=by rw [List.length_append,flat_length,List.length_take,c5_length];omega
 rw [e1,List.take_append,List.take_of_length_le (by omega),hl1,show l.length*5-(p*5+5)=(l.length-(p+1))*5 by omega,e2]
 rw [List.set_eq_take_append_cons_drop,if_pos hp,flat_append,flat_cons,List.append_assoc]
theorem run_storeVar_at {P:Program} (w:World) (g o:Nat) (ty:TypeId) (cells cur:Array Value) (t:TypeId) (hg:w.heap[g]?=some (.cells cur t (0,0))) (hfit:o+cells.size≤cur.size) (hi:(P.info? ty).map (·.size)=some cells.size) (h1 : ∀ v∈cells.toList,v.oneCell'=true) :
  (storeVar ty ⟨g,o,none⟩ (.agg cells)).run P w=.ok () (w.setRow g (cur.toList.take o++cells.toList++cur.toList.drop (o+cells.size)).toArray):=by
 have:=run_storeCells_at P g o t cells.toList 0 cur w hg (by simpa using hfit) h1
 cases hq:P.info? ty with
 | none=>simp [hq] at hi
 | some i =>
  have hs:cells.size=i.size:=by simp [hq] at hi;omega
  simp only [Nat.add_zero,Array.length_toList] at this;simp [storeVar,sizeOf,typeInfo,hq,Value.cells,hs] at this ⊢
  exact this
theorem wpList_store_at {P:Program} {ops:Array Oper} {rest:List Oper} {op:Oper} {a:Act} {w:World} {Q:Exit→Act→World→Prop} (hgd:op.guard=none) (ty:TypeId) (x y:Operand) (ho:op.op=.store ty x y)
  (g o:Nat) (cells cur:Array Value) (t:TypeId) (hx:a.eval x=.pointer (some ⟨g,o,none⟩)) (hy:a.eval y=.agg cells)
  (hg:w.heap[g]?=some (.cells cur t (0,0))) (hfit:o+cells.size≤cur.size) (hi:(P.info? ty).map (·.size)=some cells.size) (h1 : ∀ v∈cells.toList,v.oneCell'=true)
  (h:wpList P ops Q rest (a.put op.dst undef) (w.setRow g (cur.toList.take o++cells.toList++cur.toList.drop (o+cells.size)).toArray)):wpList P ops Q (op::rest) a w :=
 wpList_plain hgd fun _ hK=>by
  unfold Oper.wp execOp;simp only [ho,hx,hy,Instr.storeAt,Instr.sureAddr,Sem.run_bind,Sem.run_pure,Result.andThen_ok,run_storeVar_at w g o ty cells cur t hg hfit hi h1];exact hK _ _ h
def plc (l:List S43) (id:Int):Nat:=(l.takeWhile (fun y=>decide (y.f0<id))).length
theorem plc_eq (l:List S43) (id:Int) (r:Nat) (hr:r≤l.length) (h1 : ∀ x:Nat,x<r→(rd_T43 l (x:Int)).f0<id) (h2 : ∀ x:Nat,r≤x→x<l.length→id≤(rd_T43 l (x:Int)).f0):plc l id=r:=by
 induction l generalizing r with
 | nil=>simp at hr;subst hr;rfl
 | cons y t ih =>
  unfold plc;rw [List.takeWhile_cons];rcases Nat.eq_zero_or_pos r with h0|h0
  ·subst h0;have:=h2 0 (Nat.le_refl _) (by simp)
   rw [show (rd_T43 (y::t) ((0:Nat):Int))=y from rfl] at this
   rw [if_neg (by simpa using this)]
   rfl
  ·have:=h1 0 h0;rw [show (rd_T43 (y::t) ((0:Nat):Int))=y from rfl] at this
   rw [if_pos (by simpa using this)]
   obtain ⟨r,rfl⟩ : ∃ q,r=q+1:=⟨r-1,by omega⟩
   have e : ∀ j:Nat,rd_T43 (y::t) ((j+1:Nat):Int)=rd_T43 t (j:Int):=fun j=>by simp only [rd_T43,Int.toNat_natCast];rfl
   have:=ih r (by simpa using hr) (fun j hj=>by have:=h1 (j+1) (by omega);rwa [e] at this) (fun j hj hj2=>by have:=h2 (j+1) (by omega) (by simpa using hj2);rwa [e] at this)
   unfold plc at this;rw [List.length_cons,this]
def putI (l:List S43) (x:S43):List S43 :=
 if plc l x.f0<l.length∧(rd_T43 l (plc l x.f0:Int)).f0=x.f0 then l.set (plc l x.f0) x else l.take (plc l x.f0)++x::l.drop (plc l x.f0)
def putDom (l:List S43) (id:Int):Bool:=decide (1≤l.length)&&decide (l.length≤900)&&upB (-1) l&&decide (0≤id)&&decide (id≤4294967295)
def tree_put.f (l0:List S43) (a1 a2:Int) (a3:ByteArray) (a4:Bool) (a5:Int):Option (List S43):=if putDom l0 a1=true then some (putI l0 ⟨a1,a2,a3,a4,a5⟩) else none
theorem tree_put.calls (A0:Option Addr) (c0:Nat) (l0:List S43) (a1 a2:Int) (a3:ByteArray) (a4:Bool) (a5:Int) (r:List S43) (w:World) (hr0:Kd.C k43 w A0 l0.length l0) (hc0:l0.length≤c0) (h:tree_put.f l0 a1 a2 a3 a4 a5=some r) :
  Calls Tryz.prog 285 #[.slice A0 l0.length c0,.agg #[.int .u32 a1,.int .u32 a2,.string a3,.bool a4,.int .u32 a5]] w fun e w'=>∃ v0_:Value,e=.returned v0_∧Kd.R k43 43 w' w.heap.size (fun _=>True) v0_ r∧Below w.heap.size w w':=by
 unfold tree_put.f at h;by_cases hd:putDom l0 a1=true
 ·rw [if_pos hd] at h;cases h
  unfold putDom at hd;simp only [Bool.and_eq_true,decide_eq_true_eq] at hd;obtain ⟨⟨⟨⟨hl1,hl⟩,hup⟩,ha0⟩,ha1⟩:=hd;have hs:=upB_lt l0 _ hup;obtain ⟨p,hp,hpl,hlo,hhi⟩:=lowF_spec l0 a1 hs l0.length (l0.length+1) 0 l0.length (by omega) (by omega) (by omega) (Nat.le_refl _) (fun x hx=>by omega) (fun x hx hx2=>by omega)
  have hpe:=plc_eq l0 a1 p hpl hlo hhi;have HPUT:=Aside0.mk (show putI l0 ⟨a1,a2,a3,a4,a5⟩=if p<l0.length∧(rd_T43 l0 (p:Int)).f0=a1 then l0.set p ⟨a1,a2,a3,a4,a5⟩ else l0.take p++⟨a1,a2,a3,a4,a5⟩::l0.drop p by unfold putI;rw [show plc l0 (S43.mk a1 a2 a3 a4 a5).f0=p from hpe])
  have HWF:=Aside0.mk (show ∀ x∈l0,0≤x.f0∧x.f0≤4294967295 from fun x hx=>by have:=upB_mem l0 _ hup x hx;omega)
  have HP:=Aside0.mk hp;have HR0:=Aside0.mk hr0;have HC0:=Aside0.mk hc0;clear hr0 hc0 hs hup hlo hhi hpe hp;generalize putI l0 ⟨a1,a2,a3,a4,a5⟩=res at HPUT ⊢;go_enter Tryz.func285,Tryz.ntmps285;go_upto_region 2 with (go_at_call 159;refine (clone34.calls A0 c0 l0 l0 _ (Kd.C_alloc HR0.out _) HC0.out (by unfold clone34.f;rw [if_pos (by omega)])).mono ?_;rintro e w1 ⟨v1,rfl,ho1,hb1⟩;have BK:=Aside0.mk (blk_below (heap_alloc_new w _) hb1);have HB1:=Aside0.mk (below_step (below_alloc (Below.refl w.heap.size w) _) hb1);have HO1:=Aside0.mk (Kd.R_lower ho1 (Nat.le_of_lt (lt_alloc w _)));have HNE:=Aside0.mk (show some w.heap.size≠v1.ownBlock from fun e_=>absurd (Kd.R_base ho1 _ e_.symm) (Nat.not_le.mpr (lt_alloc w _)));clear ho1 hb1)
  obtain ⟨g,cap,cur,rfl,hbg,hrow⟩:=row_of_R HO1.out (by omega)
  have hne:w.heap.size≠g:=fun e_=>HNE.out (by rw [e_];rfl)
  have HK:=Aside0.mk (Kd.R_reads' HO1.out).2.2;have HLE:=hrow.le;have k0:w1.cell? ⟨w.heap.size,0,none⟩=some (.int .u32 a1):=(blk_cell BK.out 0).trans rfl;have HROW:=Aside0.mk hrow;clear hrow HNE HO1;go_wp2_with (fail)
  go_at_call 214
  refine (bsearch63.calls (l0.length+1) (some ⟨g,0,none⟩) cap l0 a1 p _ HK.out HLE (by omega) ⟨ha0,ha1⟩ HWF.out HP.out).mono ?_
  rintro e w2 ⟨rfl,hb2⟩;have BK2:=Aside0.mk (blk_below BK.out hb2);have HROW2:=Aside0.mk (Row.mk (blk_below HROW.out.heap hb2) HROW.out.le HROW.out.max HROW.out.size HROW.out.cells);have HB2:=Aside0.mk (below_step HB1.out hb2);clear hb2 k0 HK HROW BK HB1;have m0:w2.cell? ⟨w.heap.size,0,none⟩=some (.int .u32 a1):=(blk_cell BK2.out 0).trans rfl;have m1:w2.cell? ⟨w.heap.size,1,none⟩=some (.int .u32 a2):=(blk_cell BK2.out 1).trans rfl;have m2:w2.cell? ⟨w.heap.size,2,none⟩=some (.string a3):=(blk_cell BK2.out 2).trans rfl;have m3:w2.cell? ⟨w.heap.size,3,none⟩=some (.bool a4):=(blk_cell BK2.out 3).trans rfl;have m4:w2.cell? ⟨w.heap.size,4,none⟩=some (.int .u32 a5):=(blk_cell BK2.out 4).trans rfl;by_cases hc:p<l0.length∧(rd_T43 l0 (p:Int)).f0=a1
  ·have hR:=HPUT.out;rw [if_pos hc] at hR;subst hR;rw [show (decide (p<l0.length)&&((rd_T43 l0 (p:Int)).f0 == a1))=true by rw [decide_eq_true hc.1,beq_iff_eq.mpr hc.2];rfl]
   have hp1:(p<l0.length)=True:=eq_true hc.1;have hi34:Aside0 ((Tryz.prog.info? 43).map (·.size)=some 5):=⟨by kernel_rfl⟩
   dsimp only
   have hfit:p*5+5≤cur.size:=by have:=HROW2.out.size;have:=HROW2.out.le;have:=hc.1;omega
   have hset:=Aside0.mk (set_cells cur.toList l0 ⟨a1,a2,a3,a4,a5⟩ p cap hc.1 HLE (by rw [Array.length_toList];exact HROW2.out.size) HROW2.out.cells)
   clear hc;go_wp2_with (refine wpList_store_at rfl 43 (.tmp 21) (.tmp 20) rfl g (p*5) #[.int .u32 a1,.int .u32 a2,.string a3,.bool a4,.int .u32 a5] cur 43 rfl rfl HROW2.out.heap hfit hi34.out ?hone ?_;(case hone=>exact fun v hv=>flat_one [⟨a1,a2,a3,a4,a5⟩] v (by simpa [flat,c5] using hv)))
   go_ret
   have hlen:(l0.set p ⟨a1,a2,a3,a4,a5⟩).length=l0.length:=List.length_set ..;have hR:Row (w2.setRow g (cur.toList.take (p*5)++c5 ⟨a1,a2,a3,a4,a5⟩++cur.toList.drop (p*5+5)).toArray) g cap (cur.toList.take (p*5)++c5 ⟨a1,a2,a3,a4,a5⟩++cur.toList.drop (p*5+5)).toArray (l0.set p ⟨a1,a2,a3,a4,a5⟩) :=
    ⟨setRow_heap _ _ _ _ _ _ HROW2.out.heap,by rw [hlen];exact HLE,HROW2.out.max,by simpa using hset.out.1,by rw [hlen];simpa using hset.out.2⟩
   have hRR:=R_of_row (base:=w.heap.size) hR hbg;rw [hlen] at hRR;refine ⟨.slice (some ⟨g,0,none⟩) l0.length cap,rfl,?_,below_setRow HB2.out hbg _⟩;simpa only [c5,List.append_assoc,List.cons_append,List.nil_append] using hRR
  ·have hR:=HPUT.out;rw [if_neg hc] at hR;subst hR;rw [show (decide (p<l0.length)&&((rd_T43 l0 (p:Int)).f0 == a1))=false by rw [Bool.and_eq_false_iff];rw [Classical.not_and_iff_not_or_not] at hc;exact hc.imp (fun h=>decide_eq_false h) (fun h=>beq_eq_false_iff_ne.mpr h)]
   clear hc HPUT;dsimp only
   go_wp2_with (fail)
   go_at_call 311
   have hgl:g<w2.heap.size:=blk_lt HROW2.out.heap;have hRA:=R_of_row (base:=w.heap.size) (Row.mk (blk_alloc HROW2.out.heap (.cells #[.int .u32 a1,.int .u32 a2,.string a3,.bool a4,.int .u32 a5] 43)) HROW2.out.le HROW2.out.max HROW2.out.size HROW2.out.cells) hbg;refine (ins_c w.heap.size w2.heap.size _ l0 ⟨a1,a2,a3,a4,a5⟩ p _ hRA (by omega) (heap_alloc_new w2 _) (fun e_=>by have:=Option.some.inj e_;simp only at this;omega) hpl (by omega) (below_alloc HB2.out _).size).mono ?_
   rintro e w3 ⟨v2,rfl,ho3,hb3⟩;have HO3:=Aside0.mk ho3;have HB3:=Aside0.mk ((below_alloc HB2.out _).trans hb3);clear ho3 hb3 hRA;go_wp2_with (fail)
   go_ret
   exact ⟨_,rfl,HO3.out,HB3.out⟩
 ·rw [if_neg hd] at h;cases h
section
attribute [local go_sem] max2_int min2_int max_two min_two max_three min_three max_four min_four
def r19_Body.l0:Nat→Int→Int→Int→List (S43)→List (S81)→List (S87)→Option (Int)
 | 0,_,_,_,_,_,_=>none
 | k+1,x1,x5,x310000,x310001,x310002,x310003=>if x5<(x310003.length:Int) then (if 0≤x5 then (if ((rd_T87 x310003 x5).f0)=x1 then (some x5) else (r19_Body.l0 k x1 (wrap64 (x5+1)) x310000 x310001 x310002 x310003)) else (none)) else (some (-1))
def r19_Body.f (k:Nat) (a0_0:Int) (l0_1:List (S43)) (l0_2:List (S81)) (l0_3:List (S87)) (a1:Int):Option (Int):=r19_Body.l0 k a1 0 a0_0 l0_1 l0_2 l0_3
theorem r19_Body.calls (k:Nat) (a0_0:Int) (A0_1:Option Addr) (c0_1:Nat) (l0_1:List (S43)) (A0_2:Option Addr) (c0_2:Nat) (l0_2:List (S81)) (A0_3:Option Addr) (c0_3:Nat) (l0_3:List (S87)) (a1:Int) (r:Int) (w:World) (hr0_1:Kd.C k43 w A0_1 l0_1.length l0_1) (hc0_1:l0_1.length≤c0_1) (hr0_2:Kd.C k81 w A0_2 l0_2.length l0_2) (hc0_2:l0_2.length≤c0_2) (hr0_3:Kd.C k87 w A0_3 l0_3.length l0_3) (hc0_3:l0_3.length≤c0_3) (h:r19_Body.f k a0_0 l0_1 l0_2 l0_3 a1=some r) :
  Calls Tryz.prog 41 #[.agg #[.int .u32 a0_0,.slice A0_1 l0_1.length c0_1,.slice A0_2 l0_2.length c0_2,.slice A0_3 l0_3.length c0_3],.int .u32 a1] w fun e w'=>e=.returned (.int .i64 r)∧Below w.heap.size w w':=by
 have hu67:=Tryz.underlying67;have HR0_1:=Aside0.mk hr0_1;have HC0_1:=Aside0.mk hc0_1;clear hr0_1 hc0_1;have HR0_2:=Aside0.mk hr0_2;have HC0_2:=Aside0.mk hc0_2;clear hr0_2 hc0_2;have HR0_3:=Aside0.mk hr0_3;have HC0_3:=Aside0.mk hc0_3;clear hr0_3 hc0_3;have HB:=Aside0.mk (Below.refl w.heap.size w);have H:(r19_Body.l0 k a1 0 a0_0 l0_1 l0_2 l0_3)=some r:=h;clear h;have H':=Aside0.mk H;clear H;go_enter Tryz.func41,Tryz.ntmps41;go_wp2_with (first|((with_reducible refine gate_dst (N:=2) rfl ?_);refine bx 2 #[.int .u32 a0_0,.slice A0_1 l0_1.length c0_1,.slice A0_2 l0_2.length c0_2,.slice A0_3 l0_3.length c0_3] 67 ?_;intro gb309 hg w3 hbox hb;have BK309:=Aside0.mk (hbox);have GW309:=Aside0.mk ((gG hg:w.heap.size≤gb309));have GE309:=Aside0.mk ((gG hg:w.heap.size≤gb309));replace HB:=Aside0.mk (below_step bD hb);clear hb hbox hg))
 go_loopg [5] k (fun kq v5 w'=>∃ (x5_1:Int),v5=.int .i64 x5_1∧Aside0 (r19_Body.l0 kq a1 x5_1 a0_0 l0_1 l0_2 l0_3=some r)∧Aside0 (kq≤k)∧Aside0 (w'.heap[gb309]?=some (.cells #[.int .u32 a0_0,(.slice A0_1 l0_1.length c0_1),(.slice A0_2 l0_2.length c0_2),(.slice A0_3 l0_3.length c0_3)] 67 (0,0)))∧Aside0 (Below w.heap.size w w'))
 case atStart=>exact ⟨(0),eS,H',⟨Nat.le_refl _⟩,⟨kD⟩,⟨bD⟩⟩
 case round =>
  clear H';try clear p2
  obtain ⟨x5_1,rfl,HA,HK1,BK309,HB⟩:=hrel;cases gk with
  | zero=>exact absurd HA.out (by simp [r19_Body.l0])
  | succ k1 =>
   have H:=HA.out;clear HA;simp only [r19_Body.l0] at H;by_cases c4:x5_1<(l0_3.length:Int)
   ·rw [if_pos c4] at H;have c4b0:=decide_eq_true c4;clear c4;by_cases c5:0≤x5_1
    ·rw [if_pos c5] at H;have c5b0:=decide_eq_true c5;clear c5;by_cases c6:((rd_T87 l0_3 x5_1).f0)=a1
     ·rw [if_pos c6] at H;have c6b0:=qT c6;have c6b1:=nF c6;clear c6;obtain rfl:=Option.some.inj H;obtain ⟨hcz7_0,hcz7_1,hcz7_2,hcz7_3⟩:=cc4 BK309.out;obtain ⟨hfz7_0,hfz7_1,hfz7_2,hfz7_3⟩:=ff4 BK309.out;have p310:0≤(x5_1:Int):=pA;have q310:x5_1<(l0_3.length:Int):=pA;obtain ⟨ad310,e310,hx310_0,hx310_1⟩:=at_T87 HR0_3.out x5_1 p310 q310;cases e310
      replace hx310_0:=cB hx310_0;replace hx310_1:=cB hx310_1;replace p310:=eq_true p310;replace q310:=eq_true q310;go_wp2
      go_ret
      exact ⟨eE,bD⟩
     ·rw [if_neg c6] at H;have c6b0:=qF c6;have c6b1:=nT c6;have H':=Aside0.mk H;clear H;obtain ⟨hcz8_0,hcz8_1,hcz8_2,hcz8_3⟩:=cc4 BK309.out;obtain ⟨hfz8_0,hfz8_1,hfz8_2,hfz8_3⟩:=ff4 BK309.out;have p310:0≤(x5_1:Int):=pA;have q310:x5_1<(l0_3.length:Int):=pA;obtain ⟨ad310,e310,hx310_0,hx310_1⟩:=at_T87 HR0_3.out x5_1 p310 q310;cases e310
      replace hx310_0:=cB hx310_0;replace hx310_1:=cB hx310_1;replace p310:=eq_true p310;replace q310:=eq_true q310;go_wp2
      go_roundg k1
      case measure=>have:=HK1.out;omega
      case rel=>exact ⟨(wrap64 (x5_1+1)),eS,H',⟨by have:=HK1.out;omega⟩,⟨kD⟩,⟨bD⟩⟩
    ·rw [if_neg c5] at H;exact absurd H (by simp)
   ·rw [if_neg c4] at H;have c4b0:=decide_eq_false c4;clear c4;obtain rfl:=Option.some.inj H;obtain ⟨hcz9_0,hcz9_1,hcz9_2,hcz9_3⟩:=cc4 BK309.out;obtain ⟨hfz9_0,hfz9_1,hfz9_2,hfz9_3⟩:=ff4 BK309.out;go_wp2
    go_ret
    exact ⟨eE,bD⟩
def r10_Get.l0:Nat→List (S43)→Int→Int→Option (Int)
 | 0,_,_,_=>none
 | k+1,x0,x1,x5=>if x5<(x0.length:Int) then (if 0≤x5 then (if ((rd_T43 x0 x5).f0)=x1 then (some x5) else (r10_Get.l0 k x0 x1 (wrap64 (x5+1)))) else (none)) else (some (-1))
def r10_Get.f (k:Nat) (l0:List (S43)) (a1:Int):Option (Int):=r10_Get.l0 k l0 a1 0
theorem r10_Get.calls (k:Nat) (A0:Option Addr) (c0:Nat) (l0:List (S43)) (a1:Int) (r:Int) (w:World) (hr0:Kd.C k43 w A0 l0.length l0) (hc0:l0.length≤c0) (h:r10_Get.f k l0 a1=some r) :
  Calls Tryz.prog 60 #[.slice A0 l0.length c0,.int .u32 a1] w fun e w'=>e=.returned (.int .i64 r)∧Drawn0 w w':=by
 have HR0:=Aside0.mk hr0;have HC0:=Aside0.mk hc0;clear hr0 hc0;have H:(r10_Get.l0 k l0 a1 0)=some r:=h;clear h;have H':=Aside0.mk H;clear H;go_enter Tryz.func60,Tryz.ntmps60;go_wp2
 go_loopg [5] k (fun kq v5 w'=>∃ (x5_1:Int),v5=.int .i64 x5_1∧Aside0 (r10_Get.l0 kq l0 a1 x5_1=some r)∧Aside0 (kq≤k)∧Drawn0 w w')
 case atStart=>exact ⟨(0),eS,H',⟨Nat.le_refl _⟩,dD⟩
 case round =>
  clear H';try clear p2
  obtain ⟨x5_1,rfl,HA,HK1,⟨m1,rfl⟩⟩:=hrel;cases gk with
  | zero=>exact absurd HA.out (by simp [r10_Get.l0])
  | succ k1 =>
   have H:=HA.out;clear HA;simp only [r10_Get.l0] at H;by_cases c3:x5_1<(l0.length:Int)
   ·rw [if_pos c3] at H;have c3b0:=decide_eq_true c3;clear c3;by_cases c4:0≤x5_1
    ·rw [if_pos c4] at H;have c4b0:=decide_eq_true c4;clear c4;by_cases c5:((rd_T43 l0 x5_1).f0)=a1
     ·rw [if_pos c5] at H;have c5b0:=qT c5;have c5b1:=nF c5;clear c5;obtain rfl:=Option.some.inj H;have p311:0≤(x5_1:Int):=pA;have q311:x5_1<(l0.length:Int):=pA;obtain ⟨ad311,e311,hx311_0,hx311_1,hx311_2,hx311_3,hx311_4⟩:=at_T43 HR0.out x5_1 p311 q311;cases e311
      replace p311:=eq_true p311;replace q311:=eq_true q311;go_wp2
      go_ret
      exact ⟨eS,dD⟩
     ·rw [if_neg c5] at H;have c5b0:=qF c5;have c5b1:=nT c5;have H':=Aside0.mk H;clear H;have p311:0≤(x5_1:Int):=pA;have q311:x5_1<(l0.length:Int):=pA;obtain ⟨ad311,e311,hx311_0,hx311_1,hx311_2,hx311_3,hx311_4⟩:=at_T43 HR0.out x5_1 p311 q311;cases e311
      replace p311:=eq_true p311;replace q311:=eq_true q311;go_wp2
      go_roundg k1
      case measure=>have:=HK1.out;omega
      case rel=>exact ⟨(wrap64 (x5_1+1)),eS,H',⟨by have:=HK1.out;omega⟩,dD⟩
    ·rw [if_neg c4] at H;exact absurd H (by simp)
   ·rw [if_neg c3] at H;have c3b0:=decide_eq_false c3;clear c3;obtain rfl:=Option.some.inj H;go_wp2
    go_ret
    exact ⟨eS,dD⟩
end
end Go.Proofs.YtikjfekagdcjmaaGreatDoor.Q
