/- Contracts and plain theory behind FlatRights. -/
import Derived.Test.YtikjfekagdcjmaaGreatDoorCFlatRights2
import Derived.Test.YtikjfekagdcjmaaGreatDoorCFlatRights19
set_option linter.unusedVariables false
set_option linter.unusedSimpArgs false
set_option maxHeartbeats 16000000
set_option maxRecDepth 100000
namespace Go.Proofs.YtikjfekagdcjmaaGreatDoor.Q
open Go.RowKit Go.Proofs.YtikjfekagdcjmaaGreatDoorW.PrintWords Go.Proofs.YtikjfekagdcjmaaGreatDoorW.PrintLast Go.Proofs.YtikjfekagdcjmaaGreatDoorW.PrintMore
structure Grown (w w':World):Prop where mk::(out : ∃ (q:Nat) (os:Array Obj),w'=Go.Sort.grow (w.drewN q) os)
theorem Grown.refl (w:World):Grown w w:=⟨⟨0,#[],by rw [Go.Sort.grow_empty];rfl⟩⟩
theorem Grown.alloc {w w':World} (h:Grown w w') (o:Obj):Grown w (w'.alloc o):=by
 obtain ⟨q,os,rfl⟩:=h.out;exact ⟨⟨q,os++#[o],by rw [Go.Sort.alloc_eq_grow,Go.Sort.grow_grow]⟩⟩
theorem Grown.drewN {w w':World} (h:Grown w w') (n:Nat):Grown w (w'.drewN n):=by
 obtain ⟨q,os,rfl⟩:=h.out;exact ⟨⟨q+n,os,by simp [Go.Sort.grow,World.drewN,Nat.add_assoc]⟩⟩
theorem Grown.drew {w w':World} (h:Grown w w'):Grown w w'.drew:=h.drewN 1
theorem two_ints {w:World} {g:Nat} {a b:Int} (h:w.heap[g]?=some (.cells #[.int .i64 a,.int .i64 b] 3 (0,0))):Kd.C (Kd.int .i64) w (some ⟨g,0,none⟩) 2 [a,b]:=by
 have:=(Kd.R_reads' (Kd.R_of_own (enc:=Value.int .i64) (h1:=fun _=>rfl) (e:=3) (w:=w) (base:=0) (ok:=fun _=>True) (v:=.slice (some ⟨g,0,none⟩) 2 2) (xs:=[a,b]) ⟨rfl,.inr ⟨g,2,_,rfl,Nat.zero_le _,h,Nat.le_refl _,by decide,rfl,rfl⟩⟩ (fun _ _=>trivial))).2.2
 exact this
theorem or_f (x y:O.T):cmp_Or_int.f 5 [cmp2 x.f0 y.f0,cmp2 x.f1 y.f1]=some (ordO x y):=by
 have h:=order_f x y 5 (by omega)
 unfold share_order.f at h;rw [compare_f,compare_f] at h;simp only [Option.bind_some] at h;cases hq:cmp_Or_int.f 5 [cmp2 x.f0 y.f0,cmp2 x.f1 y.f1] with
 | none=>rw [hq] at h;cases h
 | some r=>rw [hq] at h;simpa using h
theorem order_g (x y:O.T) (w:World):Calls Tryz.prog 194 #[.agg (O.v x),.agg (O.v y)] w fun e w'=>e=.returned (.int .i64 (ordO x y))∧Grown w w':=by
 have KA:=Aside0.mk (blk_alloc (heap_alloc_new w (.cells (O.v x) 81)) (.cells (O.v y) 81));have KB:=Aside0.mk (heap_alloc_new (w.alloc (.cells (O.v x) 81)) (.cells (O.v y) 81));have HG:=Aside0.mk (((Grown.refl w).alloc (.cells (O.v x) 81)).alloc (.cells (O.v y) 81));have hs:(w.alloc (.cells (O.v x) 81)).heap.size=w.heap.size+1:=by simp
 rw [hs] at KB;clear hs;go_enter Tryz.func194,Tryz.ntmps194;go_upto_region 1 with (fail)
 generalize (w.alloc (.cells (O.v x) 81)).alloc (.cells (O.v y) 81)=w2 at KA KB HG ⊢;generalize w.heap.size+1=gb at KB ⊢;generalize w.heap.size=ga at KA ⊢;have KAd:=Aside0.mk (blk_drew KA.out);have KBd:=Aside0.mk (blk_drew KB.out);have HGd:=Aside0.mk HG.out.drew;clear KA KB HG;refine rs 13 (fun w'=>w'.cell? ⟨ga,0,none⟩=some (.int .u32 x.f0)∧w'.cell? ⟨ga,1,none⟩=some (.int .u32 x.f1)∧w'.cell? ⟨gb,0,none⟩=some (.int .u32 y.f0)∧w'.cell? ⟨gb,1,none⟩=some (.int .u32 y.f1)) [] ⟨(blk_cell KAd.out 0).trans rfl,(blk_cell KAd.out 1).trans rfl,(blk_cell KBd.out 0).trans rfl,(blk_cell KBd.out 1).trans rfl⟩ (fun hHeld=>?_);generalize w2.drew=wd at KAd KBd HGd hHeld ⊢;refine rp 0 (some 5) ?_;refine rp 2 (some 7) ?_;refine rp 5 (some 10) ?_;refine rp 7 (some 12) ?_;refine rt 1 (some 6) ?_;refine rt 3 (some 8) ?_;refine rt 6 (some 11) ?_;refine rt 8 (some 13) ?_;refine ro 4 (some 9) (fun K hK=>?_);refine cr Tryz.func52 #[.int .u32 x.f0,.int .u32 y.f0] ?_;refine (cmp_Compare_uint32.calls x.f0 y.f0 (cmp2 x.f0 y.f0) wd (compare_f _ _)).mono ?_;rintro e w3 ⟨rfl,hb⟩;refine ⟨_,rfl,?_⟩;obtain ⟨q0,rfl⟩:=hb.out;have KA3:=Aside0.mk (blk_drewN KAd.out q0);have KB3:=Aside0.mk (blk_drewN KBd.out q0);have HG3:=Aside0.mk (HGd.out.drewN q0);clear hb;refine hK.out _ _ ⟨(blk_cell KA3.out 0).trans rfl,(blk_cell KA3.out 1).trans rfl,(blk_cell KB3.out 0).trans rfl,(blk_cell KB3.out 1).trans rfl⟩ (fun hHeld=>?_);clear hK K;refine rn ?_;generalize wd.drewN q0=w3 at KA3 KB3 HG3 hHeld ⊢;refine ro 9 (some 14) (fun K hK=>?_);refine cr Tryz.func52 #[.int .u32 x.f1,.int .u32 y.f1] ?_;refine (cmp_Compare_uint32.calls x.f1 y.f1 (cmp2 x.f1 y.f1) w3 (compare_f _ _)).mono ?_;rintro e w4 ⟨rfl,hb⟩;refine ⟨_,rfl,?_⟩;obtain ⟨q1,rfl⟩:=hb.out;have KA4:=Aside0.mk (blk_drewN KA3.out q1);have KB4:=Aside0.mk (blk_drewN KB3.out q1);have HG4:=Aside0.mk (HG3.out.drewN q1);clear hb;refine hK.out _ _ ⟨(blk_cell KA4.out 0).trans rfl,(blk_cell KA4.out 1).trans rfl,(blk_cell KB4.out 0).trans rfl,(blk_cell KB4.out 1).trans rfl⟩ (fun hHeld=>?_);clear hK K;refine rn ?_;generalize w3.drewN q1=w4 at KA4 KB4 HG4 hHeld ⊢;refine ro 10 (some 15) (fun K hK=>?_);refine value_ (v:=.slice (some ⟨w4.heap.size,0,none⟩) 2 2) (w1:=w4.alloc (.cells #[.int .i64 (cmp2 x.f0 y.f0),.int .i64 (cmp2 x.f1 y.f1)] 3)) (by rfl) rfl (by first|(go_simp;done)|(go_simp;rfl)) ?_
 have KA5:=Aside0.mk (blk_alloc KA4.out (.cells #[.int .i64 (cmp2 x.f0 y.f0),.int .i64 (cmp2 x.f1 y.f1)] 3));have KB5:=Aside0.mk (blk_alloc KB4.out (.cells #[.int .i64 (cmp2 x.f0 y.f0),.int .i64 (cmp2 x.f1 y.f1)] 3));have HG5:=Aside0.mk (HG4.out.alloc (.cells #[.int .i64 (cmp2 x.f0 y.f0),.int .i64 (cmp2 x.f1 y.f1)] 3));have KS5:=Aside0.mk (heap_alloc_new w4 (.cells #[.int .i64 (cmp2 x.f0 y.f0),.int .i64 (cmp2 x.f1 y.f1)] 3));refine hK.out _ _ ⟨(blk_cell KA5.out 0).trans rfl,(blk_cell KA5.out 1).trans rfl,(blk_cell KB5.out 0).trans rfl,(blk_cell KB5.out 1).trans rfl⟩ (fun hHeld=>?_);clear hK K;refine rn ?_;generalize w4.alloc (.cells #[.int .i64 (cmp2 x.f0 y.f0),.int .i64 (cmp2 x.f1 y.f1)] 3)=w5 at KA5 KB5 HG5 KS5 hHeld ⊢;generalize w4.heap.size=gs at KS5 ⊢;refine ro 11 (some 16) (fun K hK=>?_);refine cr Tryz.func51 #[.slice (some ⟨gs,0,none⟩) 2 2] ?_;refine (cmp_Or_int.calls 5 (some ⟨gs,0,none⟩) 2 [cmp2 x.f0 y.f0,cmp2 x.f1 y.f1] (ordO x y) w5 (two_ints KS5.out) (Nat.le_refl _) (or_f x y)).mono ?_;rintro e w6 ⟨rfl,hb⟩;refine ⟨_,rfl,?_⟩;obtain ⟨q2,rfl⟩:=hb.out;have KA6:=Aside0.mk (blk_drewN KA5.out q2);have KB6:=Aside0.mk (blk_drewN KB5.out q2);have HG6:=Aside0.mk (HG5.out.drewN q2);clear hb;refine hK.out _ _ ⟨(blk_cell KA6.out 0).trans rfl,(blk_cell KA6.out 1).trans rfl,(blk_cell KB6.out 0).trans rfl,(blk_cell KB6.out 1).trans rfl⟩ (fun hHeld=>?_);clear hK K;refine rn ?_;refine rp 12 (some 4) ?_;refine done_ (by kernel_rfl) ?_
 try go_wp2
 go_ret
 exact ⟨rfl,HG6.out⟩
theorem order_x (x y:O.T) (w:World):Calls Tryz.prog 194 #[.agg (O.v x),.agg (O.v y)] w fun e w'=>e=.returned (.int .i64 (ordO x y))∧∃ q os',w'=Go.Sort.grow (w.drewN q) os' :=
 (order_g x y w).mono fun _ _ h=>⟨h.1,h.2.out⟩
theorem cmp2_lt (a b:Int):cmp2 a b<0↔a<b:=by unfold cmp2;split <;> (try split) <;> omega
theorem cmp2_zero (a b:Int):cmp2 a b=0↔a=b:=by unfold cmp2;split <;> (try split) <;> omega
theorem ordO_lt (x y:O.T):ordO x y<0↔x.f0<y.f0∨x.f0=y.f0∧x.f1<y.f1:=by
 unfold ordO;by_cases h:cmp2 x.f0 y.f0=0
 ·rw [if_neg (by simpa using h),cmp2_lt]
  have:=(cmp2_zero _ _).1 h;omega
 ·rw [if_pos h,cmp2_lt];have : ¬ x.f0=y.f0:=fun e=>h ((cmp2_zero _ _).2 e);omega
theorem ordO_trans {x y z:O.T} (h1:ordO x y<0) (h2:ordO y z<0):ordO x z<0:=by
 rw [ordO_lt] at *;omega
theorem ltOf_ord (x y:O.T):ltOf ordO x y=decide (ordO x y<0):=rfl
theorem swoO:Go.Sort.SWO (ltOf ordO) where
 irrefl x:=by rw [ltOf_ord,decide_eq_false_iff_not,ordO_lt];omega
 trans x y z h1 h2:=by rw [ltOf_ord,decide_eq_true_eq] at *;exact ordO_trans h1 h2
 ntrans x y z h1 h2:=by rw [ltOf_ord,decide_eq_false_iff_not,ordO_lt] at *;omega
def UpO (l:List O.T):Prop:=∀ i j (hi:i<j) (hj:j<l.length),ordO (l[i]'(by omega)) l[j]<0
theorem rightO_at {l:List O.T} (h:rightO l=true) : ∀ i,i<l.length→okAt l i=true:=by
 unfold rightO at h;simp only [Bool.and_eq_true,List.all_eq_true] at h;exact fun i hi=>h.2 i (List.mem_range.2 hi)
theorem rightO_up {l:List O.T} (h:rightO l=true):UpO l:=by
 have h1 : ∀ i (hi:i+1<l.length),ordO (l[i]'(by omega)) l[i+1]<0:=by
  intro i hi;have:=rightO_at h (i+1) hi;unfold okAt at this;simp only [Bool.and_eq_true,Bool.or_eq_true,decide_eq_true_eq] at this;have h2:=this.1.2;rw [O.rdT l (i+1) hi,show (((i+1:Nat):Int)-1)=((i:Nat):Int) by omega,O.rdT l i (by omega)] at h2
  rcases h2 with h2|h2
  ·omega
  ·exact h2
 have h2 : ∀ d i (hj:i+d+1<l.length),ordO (l[i]'(by omega)) l[i+d+1]<0:=by
  intro d;induction d with
  | zero=>exact fun i hj=>h1 i hj
  | succ d ih=>exact fun i hj=>ordO_trans (ih i (by omega)) (h1 (i+d+1) hj)
 intro i j hi hj;have:=h2 (j-i-1) i (by omega)
 simpa only [show i+(j-i-1)+1=j by omega] using this
def insO (l:List O.T) (o:O.T):List O.T:=(l.filter fun x=>decide (ordO x o<0))++o::l.filter fun x=>!decide (ordO x o<0)
theorem UpO.pair {l:List O.T} (h:UpO l):l.Pairwise fun x y=>ordO x y<0:=by
 rw [List.pairwise_iff_getElem];intro i j hi hj hij;exact h i j hij hj
theorem findO_none {l:List O.T} {c h:Int} (hf:(findO l c h).2=false) : ∀ x∈l,¬ (x.f0=c∧x.f1=h):=by
 intro x hx;unfold findO at hf;cases hq:l.find? fun x=>x.f0 == c&&x.f1 == h with
 | some y=>rw [hq] at hf;cases hf
 | none =>
  have:=List.find?_eq_none.1 hq x hx;simpa using this
theorem insO_perm (l:List O.T) (o:O.T):(insO l o).Perm (l++[o]):=by
 unfold insO;refine (List.perm_middle).trans (List.Perm.trans ?_ (List.perm_append_singleton o l).symm);exact List.Perm.cons _ (List.filter_append_perm _ l)
theorem insO_sorted {l:List O.T} {o:O.T} (h:UpO l) (hn : ∀ x∈l,¬ (x.f0=o.f0∧x.f1=o.f1)):(insO l o).Pairwise fun x y=>ordO x y<0:=by
 have hp:=h.pair;have h3 : ∀ x∈l.filter (fun x=>!decide (ordO x o<0)),ordO o x<0:=by
  intro x hx;rw [List.mem_filter] at hx;have h1:=hn x hx.1;have h2 : ¬ ordO x o<0:=by simpa using hx.2
  rw [ordO_lt] at *;omega
 have h4 : ∀ x∈l.filter (fun x=>decide (ordO x o<0)),ordO x o<0:=by
  intro x hx;rw [List.mem_filter] at hx;simpa using hx.2
 unfold insO;rw [List.pairwise_append,List.pairwise_cons];refine ⟨hp.filter _,⟨h3,hp.filter _⟩,?_⟩;intro x hx y hy;rcases List.mem_cons.1 hy with rfl|hy
 ·exact h4 x hx
 ·exact ordO_trans (h4 x hx) (h3 y hy)
theorem sorted_ins {l l':List O.T} {o:O.T} (h:UpO l) (hn : ∀ x∈l,¬ (x.f0=o.f0∧x.f1=o.f1)) (hp:l'.Perm (l++[o])) (hs:l'.Pairwise fun x y=>ltOf ordO y x=false):l'=insO l o:=by
 have hi:=insO_sorted h hn;refine List.Perm.eq_of_pairwise (le:=fun x y=>ltOf ordO y x=false) ?_ hs (hi.imp fun {x y} hxy=>?_) (hp.trans (insO_perm l o).symm)
 ·intro a b ha hb h1 h2;rw [ltOf_ord,decide_eq_false_iff_not,ordO_lt] at h1 h2;have hk:a.f0=b.f0∧a.f1=b.f1:=by omega
  have ha':=(hp.trans (insO_perm l o).symm).mem_iff.1 ha;obtain ⟨i,hi1,rfl⟩:=List.mem_iff_getElem.1 ha';obtain ⟨j,hj1,rfl⟩:=List.mem_iff_getElem.1 hb;have hq:=List.pairwise_iff_getElem.1 hi;rcases Nat.lt_trichotomy i j with hij|hij|hij
  ·have:=hq i j hi1 hj1 hij;rw [ordO_lt] at this;omega
  ·subst hij;rfl
  ·have:=hq j i hj1 hi1 hij;rw [ordO_lt] at this;omega
 ·rw [ltOf_ord,decide_eq_false_iff_not];rw [ordO_lt] at *;omega
def addF (l:List O.T) (o:O.T):List O.T×Int :=
 if rightO l=true then (if oneB o=true then (if (findO l o.f0 o.f1).2=true then ([],8) else if l.length=12 then ([],16) else if mineN l o.f0=4 then ([],16) else if (l.any fun x=>clashB x o)=true then ([],13) else (insO l o,0)) else ([],1)) else ([],1)
theorem one_row {w:World} {g:Nat} {o:O.T} (h:w.heap[g]?=some (.cells (O.v o) 81 (0,0))):Kd.C k81 w (some ⟨g,0,none⟩) 1 [o] :=
 (Kd.R_reads' (O.R_of_row (base:=0) (xs:=[o]) (cap:=1) (cur:=O.v o) ⟨h,Nat.le_refl _,by decide,rfl,rfl⟩ (Nat.zero_le _))).2.2
theorem KM81 {w:World} {base:Nat} {x:O.T} {cs:List Value} (h:k81.K w x cs):k81.M w base (fun _=>False) x cs:=by
 rw [k81_open h];exact k81_mkM _ _ _ x
theorem add_c (A0:Option Addr) (c0:Nat) (l:List O.T) (o:O.T) (w:World) (hr0:Kd.C k81 w A0 l.length l) (hc0:l.length≤c0) (hl:l.length≤1000) :
  Calls Tryz.prog 242 #[.slice A0 l.length c0,.agg (O.v o)] w fun e w'=>∃ v,e=.returned (.tuple #[v,.int .i64 (addF l o).2])∧Kd.R k81 81 w' w.heap.size (fun _=>True) v (addF l o).1∧Below w.heap.size w w':=by
 have HB:=Aside0.mk (below_alloc (Below.refl w.heap.size w) (.cells (O.v o) 81));have BK:=Aside0.mk (heap_alloc_new w (.cells (O.v o) 81));have HR:=Aside0.mk (Kd.C_alloc hr0 (.cells (O.v o) 81));have HC0:=Aside0.mk hc0;have HRF:=Aside0.mk (right_f l 41 (by omega))
 have HL12:=Aside0.mk (fun h=>rightO_len (l:=l) h);have HUP:=Aside0.mk (fun h=>rightO_up (l:=l) h);have HFF:=Aside0.mk (find_f l o.f0 o.f1 1001 hl (by omega))
 have HFN:=Aside0.mk (fun h=>findO_none (l:=l) (c:=o.f0) (h:=o.f1) h);have HOF:=Aside0.mk (one_f o);have HMF:=Aside0.mk (mine_f l o.f0 hl);have had:addF l o=if rightO l=true then (if oneB o=true then (if (findO l o.f0 o.f1).2=true then ([],8) else if l.length=12 then ([],16) else if mineN l o.f0=4 then ([],16) else if (l.any fun x=>clashB x o)=true then ([],13) else (insO l o,0)) else ([],1)) else ([],1):=rfl
 have HAD:=Aside0.mk had;clear hr0 hc0 had;generalize addF l o=res at HAD;generalize rightO l=b at HRF HL12 HUP HAD;generalize oneB o=bo at HOF HAD;generalize findO l o.f0 o.f1=f at HFF HFN HAD;generalize hmn:mineN l o.f0=mn at HMF HAD;clear hmn;have HANY:=Aside0.mk (fun (g3:Nat) (W:World) (hbk:W.heap[g3]?=some (.cells (O.v o) 81 (0,0))) (hC:Kd.C k81 W A0 l.length l)=>O.has A0 c0 l (fun x=>clashB x o) 283 #[.pointer (some ⟨g3,0,none⟩)] W (enters_of Tryz.func283 (by kernel_rfl) rfl) (fun W2 x hb=>clo_add x o g3 W2 (blk_below hbk hb)) hC hl)
 generalize (l.any fun x=>clashB x o)=an at HANY HAD;obtain ⟨x,ok⟩:=f;simp only at HFF HFN HAD;go_enter Tryz.func242,Tryz.ntmps242;go_upto_region 1 with (fail)
 generalize w.alloc (.cells (O.v o) 81)=w1 at BK HB HR ⊢;generalize w.heap.size=g3 at BK ⊢;have o0:w1.cell? ⟨g3,0,none⟩=some (.int .u32 o.f0):=(blk_cell BK.out 0).trans rfl;have o1:w1.cell? ⟨g3,1,none⟩=some (.int .u32 o.f1):=(blk_cell BK.out 1).trans rfl;go_upto_block 0 with (go_at_call 124;refine (share_Find.calls 1001 A0 c0 l o.f0 o.f1 _ _ _ _ _ _ _ HR.out HC0.out HFF.out).mono ?_;rintro e w3 ⟨rfl,hb3⟩;have HB3:=Aside0.mk (below_step HB.out hb3);have BK3:=Aside0.mk (blk_below BK.out hb3);have HR3:=Aside0.mk (Kd.C_below HR.out hb3);clear hb3)
 clear o0 o1;have BK4:=Aside0.mk (blk_alloc BK3.out (.cells (O.v x) 81));have HB4:=Aside0.mk (below_alloc HB3.out (.cells (O.v x) 81));have HR4:=Aside0.mk (Kd.C_alloc HR3.out (.cells (O.v x) 81));clear HB HR BK HB3 HR3 BK3;generalize w3.alloc (.cells (O.v x) 81)=w4 at BK4 HB4 HR4 ⊢;generalize w3.heap.size=g6;have o0:w4.cell? ⟨g3,0,none⟩=some (.int .u32 o.f0):=(blk_cell BK4.out 0).trans rfl;have o1:w4.cell? ⟨g3,1,none⟩=some (.int .u32 o.f1):=(blk_cell BK4.out 1).trans rfl;have o2:w4.cell? ⟨g3,2,none⟩=some (.int .u32 o.f2):=(blk_cell BK4.out 2).trans rfl;have o3:w4.cell? ⟨g3,3,none⟩=some (.int .u32 o.f3):=(blk_cell BK4.out 3).trans rfl;have o4:w4.cell? ⟨g3,4,none⟩=some (.int .u32 o.f4):=(blk_cell BK4.out 4).trans rfl;cases b
 ·have hR:=HAD.out;rw [if_neg (by decide)] at hR
  subst hR;go_wp2_with (go_at_call 116;refine (share_Right.calls 41 A0 c0 l false _ HR4.out HC0.out HRF.out).mono ?_;rintro e w5 ⟨rfl,hb5⟩;have HB5:=Aside0.mk (below_step HB4.out hb5);clear hb5)
  go_ret2
  exact ⟨_,rfl,Kd.R_nil _ _ _ _ _,HB5.out⟩
 have hR0:=HAD.out;rw [if_pos rfl] at hR0;have HAD2:=Aside0.mk hR0;have hl12:=HL12.out rfl;have hup:=Aside0.mk (HUP.out rfl);clear HAD HL12 HUP hR0;cases bo
 ·have hR:=HAD2.out;rw [if_neg (by decide)] at hR
  subst hR;go_wp2_with (first|(go_at_call 116;refine (share_Right.calls 41 A0 c0 l true _ HR4.out HC0.out HRF.out).mono ?_;rintro e w5 ⟨rfl,hb5⟩;have HB5:=Aside0.mk (below_step HB4.out hb5);have BK5:=Aside0.mk (blk_below BK4.out hb5);have HR5:=Aside0.mk (Kd.C_below HR4.out hb5);have p0:w5.cell? ⟨g3,0,none⟩=some (.int .u32 o.f0):=(blk_cell BK5.out 0).trans rfl;have p1:w5.cell? ⟨g3,1,none⟩=some (.int .u32 o.f1):=(blk_cell BK5.out 1).trans rfl;have p2:w5.cell? ⟨g3,2,none⟩=some (.int .u32 o.f2):=(blk_cell BK5.out 2).trans rfl;have p3:w5.cell? ⟨g3,3,none⟩=some (.int .u32 o.f3):=(blk_cell BK5.out 3).trans rfl;have p4:w5.cell? ⟨g3,4,none⟩=some (.int .u32 o.f4):=(blk_cell BK5.out 4).trans rfl;clear hb5)|(go_at_call 192;refine (share_one.calls o.f0 o.f1 o.f2 o.f3 o.f4 false _ HOF.out).mono ?_;rintro e w6 ⟨rfl,hb6⟩;have HB6:=Aside0.mk (below_step HB5.out hb6);have BK6:=Aside0.mk (blk_below BK5.out hb6);have HR6:=Aside0.mk (Kd.C_below HR5.out hb6);have q0:w6.cell? ⟨g3,0,none⟩=some (.int .u32 o.f0):=(blk_cell BK6.out 0).trans rfl;clear hb6))
  go_ret2
  exact ⟨_,rfl,Kd.R_nil _ _ _ _ _,HB6.out⟩
 have hR1:=HAD2.out;rw [if_pos rfl] at hR1;have HAD3:=Aside0.mk hR1;clear HAD2 hR1;cases ok
 rotate_left
 ·have hR:=HAD3.out;rw [if_pos rfl] at hR;subst hR;go_wp2_with (first|(go_at_call 116;refine (share_Right.calls 41 A0 c0 l true _ HR4.out HC0.out HRF.out).mono ?_;rintro e w5 ⟨rfl,hb5⟩;have HB5:=Aside0.mk (below_step HB4.out hb5);have BK5:=Aside0.mk (blk_below BK4.out hb5);have HR5:=Aside0.mk (Kd.C_below HR4.out hb5);have p0:w5.cell? ⟨g3,0,none⟩=some (.int .u32 o.f0):=(blk_cell BK5.out 0).trans rfl;have p1:w5.cell? ⟨g3,1,none⟩=some (.int .u32 o.f1):=(blk_cell BK5.out 1).trans rfl;have p2:w5.cell? ⟨g3,2,none⟩=some (.int .u32 o.f2):=(blk_cell BK5.out 2).trans rfl;have p3:w5.cell? ⟨g3,3,none⟩=some (.int .u32 o.f3):=(blk_cell BK5.out 3).trans rfl;have p4:w5.cell? ⟨g3,4,none⟩=some (.int .u32 o.f4):=(blk_cell BK5.out 4).trans rfl;clear hb5)|(go_at_call 192;refine (share_one.calls o.f0 o.f1 o.f2 o.f3 o.f4 true _ HOF.out).mono ?_;rintro e w6 ⟨rfl,hb6⟩;have HB6:=Aside0.mk (below_step HB5.out hb6);have BK6:=Aside0.mk (blk_below BK5.out hb6);have HR6:=Aside0.mk (Kd.C_below HR5.out hb6);have q0:w6.cell? ⟨g3,0,none⟩=some (.int .u32 o.f0):=(blk_cell BK6.out 0).trans rfl;clear hb6))
  go_ret2
  exact ⟨_,rfl,Kd.R_nil _ _ _ _ _,HB6.out⟩
 have hR2:=HAD3.out;rw [if_neg (by decide)] at hR2
 have HAD4:=Aside0.mk hR2;have HFN2:=Aside0.mk (HFN.out rfl);clear HAD3 hR2 HFN;by_cases h12:l.length=12
 ·have hR:=HAD4.out;rw [if_pos h12] at hR;subst hR;have e12:((l.length:Int) == 12)=true:=beq_iff_eq.2 (by omega)
  have H12:=Aside0.mk h12;clear h12;go_wp2_with (first|(go_at_call 116;refine (share_Right.calls 41 A0 c0 l true _ HR4.out HC0.out HRF.out).mono ?_;rintro e w5 ⟨rfl,hb5⟩;have HB5:=Aside0.mk (below_step HB4.out hb5);have BK5:=Aside0.mk (blk_below BK4.out hb5);have HR5:=Aside0.mk (Kd.C_below HR4.out hb5);have p0:w5.cell? ⟨g3,0,none⟩=some (.int .u32 o.f0):=(blk_cell BK5.out 0).trans rfl;have p1:w5.cell? ⟨g3,1,none⟩=some (.int .u32 o.f1):=(blk_cell BK5.out 1).trans rfl;have p2:w5.cell? ⟨g3,2,none⟩=some (.int .u32 o.f2):=(blk_cell BK5.out 2).trans rfl;have p3:w5.cell? ⟨g3,3,none⟩=some (.int .u32 o.f3):=(blk_cell BK5.out 3).trans rfl;have p4:w5.cell? ⟨g3,4,none⟩=some (.int .u32 o.f4):=(blk_cell BK5.out 4).trans rfl;clear hb5)|(go_at_call 192;refine (share_one.calls o.f0 o.f1 o.f2 o.f3 o.f4 true _ HOF.out).mono ?_;rintro e w6 ⟨rfl,hb6⟩;have HB6:=Aside0.mk (below_step HB5.out hb6);have BK6:=Aside0.mk (blk_below BK5.out hb6);have HR6:=Aside0.mk (Kd.C_below HR5.out hb6);have q0:w6.cell? ⟨g3,0,none⟩=some (.int .u32 o.f0):=(blk_cell BK6.out 0).trans rfl;clear hb6))
  go_ret2
  exact ⟨_,rfl,Kd.R_nil _ _ _ _ _,HB6.out⟩
 have hR3:=HAD4.out;rw [if_neg h12] at hR3;have HAD5:=Aside0.mk hR3;have e12:((l.length:Int) == 12)=false:=beq_eq_false_iff_ne.2 (by omega)
 clear HAD4 hR3 h12;by_cases h4:mn=4
 ·have hR:=HAD5.out;rw [if_pos h4] at hR;subst hR;have e4:((mn:Int) == 4)=true:=beq_iff_eq.2 (by omega)
  have H4:=Aside0.mk h4;clear h4;go_wp2_with (first|(go_at_call 116;refine (share_Right.calls 41 A0 c0 l true _ HR4.out HC0.out HRF.out).mono ?_;rintro e w5 ⟨rfl,hb5⟩;have HB5:=Aside0.mk (below_step HB4.out hb5);have BK5:=Aside0.mk (blk_below BK4.out hb5);have HR5:=Aside0.mk (Kd.C_below HR4.out hb5);have p0:w5.cell? ⟨g3,0,none⟩=some (.int .u32 o.f0):=(blk_cell BK5.out 0).trans rfl;have p1:w5.cell? ⟨g3,1,none⟩=some (.int .u32 o.f1):=(blk_cell BK5.out 1).trans rfl;have p2:w5.cell? ⟨g3,2,none⟩=some (.int .u32 o.f2):=(blk_cell BK5.out 2).trans rfl;have p3:w5.cell? ⟨g3,3,none⟩=some (.int .u32 o.f3):=(blk_cell BK5.out 3).trans rfl;have p4:w5.cell? ⟨g3,4,none⟩=some (.int .u32 o.f4):=(blk_cell BK5.out 4).trans rfl;clear hb5)|(go_at_call 192;refine (share_one.calls o.f0 o.f1 o.f2 o.f3 o.f4 true _ HOF.out).mono ?_;rintro e w6 ⟨rfl,hb6⟩;have HB6:=Aside0.mk (below_step HB5.out hb6);have BK6:=Aside0.mk (blk_below BK5.out hb6);have HR6:=Aside0.mk (Kd.C_below HR5.out hb6);have q0:w6.cell? ⟨g3,0,none⟩=some (.int .u32 o.f0):=(blk_cell BK6.out 0).trans rfl;clear hb6)|(go_at_call 193;refine (share_mine.calls A0 c0 l o.f0 _ _ HR6.out HC0.out HMF.out).mono ?_;rintro e w7 ⟨rfl,hb7⟩;have HB7:=Aside0.mk (below_step HB6.out hb7);have BK7:=Aside0.mk (blk_below BK6.out hb7);have HR7:=Aside0.mk (Kd.C_below HR6.out hb7);clear hb7))
  go_ret2
  exact ⟨_,rfl,Kd.R_nil _ _ _ _ _,HB7.out⟩
 have hR4:=HAD5.out;rw [if_neg h4] at hR4;have HAD6:=Aside0.mk hR4;have e4:((mn:Int) == 4)=false:=beq_eq_false_iff_ne.2 (by omega)
 clear HAD5 hR4 h4;cases an
 rotate_left
 ·have hR:=HAD6.out;rw [if_pos rfl] at hR;subst hR;go_wp2_with (first|(go_at_call 116;refine (share_Right.calls 41 A0 c0 l true _ HR4.out HC0.out HRF.out).mono ?_;rintro e w5 ⟨rfl,hb5⟩;have HB5:=Aside0.mk (below_step HB4.out hb5);have BK5:=Aside0.mk (blk_below BK4.out hb5);have HR5:=Aside0.mk (Kd.C_below HR4.out hb5);have p0:w5.cell? ⟨g3,0,none⟩=some (.int .u32 o.f0):=(blk_cell BK5.out 0).trans rfl;have p1:w5.cell? ⟨g3,1,none⟩=some (.int .u32 o.f1):=(blk_cell BK5.out 1).trans rfl;have p2:w5.cell? ⟨g3,2,none⟩=some (.int .u32 o.f2):=(blk_cell BK5.out 2).trans rfl;have p3:w5.cell? ⟨g3,3,none⟩=some (.int .u32 o.f3):=(blk_cell BK5.out 3).trans rfl;have p4:w5.cell? ⟨g3,4,none⟩=some (.int .u32 o.f4):=(blk_cell BK5.out 4).trans rfl;clear hb5)|(go_at_call 192;refine (share_one.calls o.f0 o.f1 o.f2 o.f3 o.f4 true _ HOF.out).mono ?_;rintro e w6 ⟨rfl,hb6⟩;have HB6:=Aside0.mk (below_step HB5.out hb6);have BK6:=Aside0.mk (blk_below BK5.out hb6);have HR6:=Aside0.mk (Kd.C_below HR5.out hb6);have q0:w6.cell? ⟨g3,0,none⟩=some (.int .u32 o.f0):=(blk_cell BK6.out 0).trans rfl;clear hb6)|(go_at_call 193;refine (share_mine.calls A0 c0 l o.f0 _ _ HR6.out HC0.out HMF.out).mono ?_;rintro e w7 ⟨rfl,hb7⟩;have HB7:=Aside0.mk (below_step HB6.out hb7);have BK7:=Aside0.mk (blk_below BK6.out hb7);have HR7:=Aside0.mk (Kd.C_below HR6.out hb7);clear hb7)|(go_at_call 119;refine (HANY.out g3 _ BK7.out HR7.out).mono ?_;rintro e w8 ⟨rfl,hb8⟩;have HB8:=Aside0.mk (below_step HB7.out hb8);have BK8:=Aside0.mk (blk_below BK7.out hb8);have HR8:=Aside0.mk (Kd.C_below HR7.out hb8);clear hb8))
  go_ret2
  exact ⟨_,rfl,Kd.R_nil _ _ _ _ _,HB8.out⟩
 have hR5:=HAD6.out;rw [if_neg (by decide)] at hR5
 subst hR5;clear HAD6;go_upto_region 10 with (first|(go_at_call 116;refine (share_Right.calls 41 A0 c0 l true _ HR4.out HC0.out HRF.out).mono ?_;rintro e w5 ⟨rfl,hb5⟩;have HB5:=Aside0.mk (below_step HB4.out hb5);have BK5:=Aside0.mk (blk_below BK4.out hb5);have HR5:=Aside0.mk (Kd.C_below HR4.out hb5);have p0:w5.cell? ⟨g3,0,none⟩=some (.int .u32 o.f0):=(blk_cell BK5.out 0).trans rfl;have p1:w5.cell? ⟨g3,1,none⟩=some (.int .u32 o.f1):=(blk_cell BK5.out 1).trans rfl;have p2:w5.cell? ⟨g3,2,none⟩=some (.int .u32 o.f2):=(blk_cell BK5.out 2).trans rfl;have p3:w5.cell? ⟨g3,3,none⟩=some (.int .u32 o.f3):=(blk_cell BK5.out 3).trans rfl;have p4:w5.cell? ⟨g3,4,none⟩=some (.int .u32 o.f4):=(blk_cell BK5.out 4).trans rfl;clear hb5)|(go_at_call 192;refine (share_one.calls o.f0 o.f1 o.f2 o.f3 o.f4 true _ HOF.out).mono ?_;rintro e w6 ⟨rfl,hb6⟩;have HB6:=Aside0.mk (below_step HB5.out hb6);have BK6:=Aside0.mk (blk_below BK5.out hb6);have HR6:=Aside0.mk (Kd.C_below HR5.out hb6);have q0:w6.cell? ⟨g3,0,none⟩=some (.int .u32 o.f0):=(blk_cell BK6.out 0).trans rfl;clear hb6)|(go_at_call 193;refine (share_mine.calls A0 c0 l o.f0 _ _ HR6.out HC0.out HMF.out).mono ?_;rintro e w7 ⟨rfl,hb7⟩;have HB7:=Aside0.mk (below_step HB6.out hb7);have BK7:=Aside0.mk (blk_below BK6.out hb7);have HR7:=Aside0.mk (Kd.C_below HR6.out hb7);clear hb7)|(go_at_call 119;refine (HANY.out g3 _ BK7.out HR7.out).mono ?_;rintro e w8 ⟨rfl,hb8⟩;have HB8:=Aside0.mk (below_step HB7.out hb8);have BK8:=Aside0.mk (blk_below BK7.out hb8);have HR8:=Aside0.mk (Kd.C_below HR7.out hb8);clear hb8))
 have BKd:=Aside0.mk (blk_drew BK8.out);have HBd:=Aside0.mk (below_drew1 HB8.out);have HRd:=Aside0.mk (Kd.C_drew HR8.out);clear BK4 HB4 HR4 o0 o1 o2 o3 o4 HB5 BK5 HR5 p0 p1 p2 p3 p4 HB6 BK6 HR6 q0 HB7 BK7 HR7 HB8 BK8 HR8 e12 e4 HANY;refine rs 6 (fun w'=>w'.cell? ⟨g3,0,none⟩=some (.int .u32 o.f0)∧w'.cell? ⟨g3,1,none⟩=some (.int .u32 o.f1)∧w'.cell? ⟨g3,2,none⟩=some (.int .u32 o.f2)∧w'.cell? ⟨g3,3,none⟩=some (.int .u32 o.f3)∧w'.cell? ⟨g3,4,none⟩=some (.int .u32 o.f4)) [] ⟨(blk_cell BKd.out 0).trans rfl,(blk_cell BKd.out 1).trans rfl,(blk_cell BKd.out 2).trans rfl,(blk_cell BKd.out 3).trans rfl,(blk_cell BKd.out 4).trans rfl⟩ (fun hHeld=>?_);generalize w8.drew=wd at BKd HBd HRd hHeld ⊢;have HGS:=Aside0.mk (blk_lt BKd.out);refine rp 0 (some 44) ?_;refine rt 2 (some 46) ?_;refine two_ (i:=1) (j:=3) (Ni:=some 45) (Nj:=some 47) #[true,true,true,false,false,false] #[true,false,true,true,false,false] rfl rfl rfl rfl (by kernel_rfl) (by decide) (by decide) (fun K hK=>?_) (fun K hK=>?_)
 ·refine cr Tryz.func160 #[.slice A0 l.length c0] ?_;refine (O.clone.calls A0 c0 l l wd (Kd.C_below HRd.out (Below.refl _ _)) HC0.out (by unfold O.clone.f;rw [if_pos (by omega)])).mono ?_
  rintro e w6 ⟨v6,rfl,ho6,hb6⟩;refine ⟨_,rfl,?_⟩;have BK6:=Aside0.mk (blk_below BKd.out hb6);have HO6:=Aside0.mk ho6;have HB6:=Aside0.mk hb6;clear hb6 ho6;refine hK.out _ _ ⟨(blk_cell BK6.out 0).trans rfl,(blk_cell BK6.out 1).trans rfl,(blk_cell BK6.out 2).trans rfl,(blk_cell BK6.out 3).trans rfl,(blk_cell BK6.out 4).trans rfl⟩ (fun hHeld=>?_);clear hK K;refine rn ?_;refine ro 3 (some 47) (fun K hK=>?_);refine value_ (v:=.slice (some ⟨w6.heap.size,0,none⟩) 1 1) (w1:=w6.alloc (.cells #[.int .u32 o.f0,.int .u32 o.f1,.int .u32 o.f2,.int .u32 o.f3,.int .u32 o.f4] 81)) (by rfl) rfl (by first|(go_simp;done)|(go_simp;rfl)) ?_
  have HO7:=Aside0.mk (Kd.R_alloc HO6.out (.cells #[.int .u32 o.f0,.int .u32 o.f1,.int .u32 o.f2,.int .u32 o.f3,.int .u32 o.f4] 81));have HB7:=Aside0.mk (below_alloc HB6.out (.cells #[.int .u32 o.f0,.int .u32 o.f1,.int .u32 o.f2,.int .u32 o.f3,.int .u32 o.f4] 81));have BK7:=Aside0.mk (blk_alloc BK6.out (.cells #[.int .u32 o.f0,.int .u32 o.f1,.int .u32 o.f2,.int .u32 o.f3,.int .u32 o.f4] 81));have HL7:=Aside0.mk (one_row (heap_alloc_new w6 (.cells #[.int .u32 o.f0,.int .u32 o.f1,.int .u32 o.f2,.int .u32 o.f3,.int .u32 o.f4] 81)));refine hK.out _ _ ⟨(blk_cell BK7.out 0).trans rfl,(blk_cell BK7.out 1).trans rfl,(blk_cell BK7.out 2).trans rfl,(blk_cell BK7.out 3).trans rfl,(blk_cell BK7.out 4).trans rfl⟩ (fun hHeld=>?_);clear hK K;refine rn ?_;generalize w6.alloc (.cells #[.int .u32 o.f0,.int .u32 o.f1,.int .u32 o.f2,.int .u32 o.f3,.int .u32 o.f4] 81)=w7 at HO7 HB7 BK7 HL7 hHeld ⊢;generalize w6.heap.size=gl at HL7 ⊢;clear BK6 HO6 HB6;refine ro 4 (some 48) (fun K hK=>?_);refine Kd.R_append_rows_step k81 (w0:=wd) wd.heap.size (by rfl) (.tmp 45) (.tmp 47) 26 81 (.agg #[.int .u32 0,.int .u32 0,.int .u32 0,.int .u32 0,.int .u32 0]) 20 rfl Tryz.underlying26 O.info rfl (by decide) (by omega) v6 l [o] (some ⟨gl,0,none⟩) 1 1 (fun _=>True) (fun _=>False) rfl rfl HO7.out HL7.out (fun x cs h=>KM81 h) (fun _ h=>h.elim) (fun _ _=>trivial) HB7.out HB7.out.size (by omega) ?_
  intro v8 w8 ho8 hb8 hg_ hat_;have HO8:=Aside0.mk ho8;have HB8:=Aside0.mk hb8;have BK8:=Aside0.mk ((hb8.block _ HGS.out).trans BKd.out);clear hg_ hat_ ho8 hb8 HO7 HB7 HL7 BK7;refine hK.out _ _ ⟨(blk_cell BK8.out 0).trans rfl,(blk_cell BK8.out 1).trans rfl,(blk_cell BK8.out 2).trans rfl,(blk_cell BK8.out 3).trans rfl,(blk_cell BK8.out 4).trans rfl⟩ (fun hHeld=>?_);clear hK K;refine rn ?_;refine rp 5 (some 8) ?_;refine done_ (by kernel_rfl) ?_
  skip;have hll:(l++[o]).length≤1000∧0<(l++[o]).length:=by simp;omega
  generalize hL:l++[o]=L at HO8 hll;have HL:=Aside0.mk hL;obtain ⟨hll1,hll2⟩:=hll;clear hL;obtain ⟨g,cap,cur,rfl,hbg,hrow⟩:=O.row_of_R HO8.out hll2;have HROW:=Aside0.mk hrow;have HBG:=Aside0.mk hbg;clear hrow hbg;have hsort:=Aside0.mk (O.sort wd g cap cur L ordO 194 w8 (enters_of Tryz.func194 (by kernel_rfl) rfl) swoO (fun x y W=>order_x x y W) HROW.out hll1 HB8.out HBG.out)
  go_wp2_with (go_at_call 284;refine hsort.out.mono ?_;rintro e w9 ⟨rfl,⟨l9,cur9,hp9,hs9,hr9⟩,hb9,_⟩;have HP9:=Aside0.mk hp9;have HS9:=Aside0.mk hs9;have HR9:=Aside0.mk hr9;have HB9:=Aside0.mk hb9;clear hr9 hb9 hp9 hs9)
  go_ret2
  have h9:=sorted_ins hup.out HFN2.out (by rw [HL.out];exact HP9.out) HS9.out
  have hR9:=O.R_of_row HR9.out HBG.out;rw [HP9.out.length_eq] at hR9;rw [h9] at hR9;exact ⟨_,rfl,Kd.R_lower hR9 HBd.out.size,below_step HBd.out HB9.out⟩
 ·refine value_ (v:=.slice (some ⟨wd.heap.size,0,none⟩) 1 1) (w1:=wd.alloc (.cells #[.int .u32 o.f0,.int .u32 o.f1,.int .u32 o.f2,.int .u32 o.f3,.int .u32 o.f4] 81)) (by rfl) rfl (by first|(go_simp;done)|(go_simp;rfl)) ?_
  have HB6:=Aside0.mk (below_alloc (Below.refl wd.heap.size wd) (.cells #[.int .u32 o.f0,.int .u32 o.f1,.int .u32 o.f2,.int .u32 o.f3,.int .u32 o.f4] 81));have BK6:=Aside0.mk (blk_alloc BKd.out (.cells #[.int .u32 o.f0,.int .u32 o.f1,.int .u32 o.f2,.int .u32 o.f3,.int .u32 o.f4] 81));have HL6:=Aside0.mk (heap_alloc_new wd (.cells #[.int .u32 o.f0,.int .u32 o.f1,.int .u32 o.f2,.int .u32 o.f3,.int .u32 o.f4] 81));refine hK.out _ _ ⟨(blk_cell BK6.out 0).trans rfl,(blk_cell BK6.out 1).trans rfl,(blk_cell BK6.out 2).trans rfl,(blk_cell BK6.out 3).trans rfl,(blk_cell BK6.out 4).trans rfl⟩ (fun hHeld=>?_);clear hK K;refine rn ?_;generalize wd.alloc (.cells #[.int .u32 o.f0,.int .u32 o.f1,.int .u32 o.f2,.int .u32 o.f3,.int .u32 o.f4] 81)=w6 at HB6 BK6 HL6 hHeld ⊢;have HGL:=Aside0.mk (Nat.le_refl wd.heap.size);generalize hgl:wd.heap.size=gl at HL6 ⊢;clear hgl HGL;refine ro 1 (some 45) (fun K hK=>?_);refine cr Tryz.func160 #[.slice A0 l.length c0] ?_;refine (O.clone.calls A0 c0 l l w6 (Kd.C_below HRd.out HB6.out) HC0.out (by unfold O.clone.f;rw [if_pos (by omega)])).mono ?_
  rintro e w7 ⟨v6,rfl,ho6,hb6⟩;refine ⟨_,rfl,?_⟩;have HO7:=Aside0.mk (Kd.R_lower ho6 HB6.out.size);have HB7:=Aside0.mk (below_step HB6.out hb6);have BK7:=Aside0.mk (blk_below BK6.out hb6);have HL7:=Aside0.mk (one_row (blk_below HL6.out hb6));clear hb6 ho6 HB6 BK6 HL6;refine hK.out _ _ ⟨(blk_cell BK7.out 0).trans rfl,(blk_cell BK7.out 1).trans rfl,(blk_cell BK7.out 2).trans rfl,(blk_cell BK7.out 3).trans rfl,(blk_cell BK7.out 4).trans rfl⟩ (fun hHeld=>?_);clear hK K;refine rn ?_;refine ro 4 (some 48) (fun K hK=>?_);refine Kd.R_append_rows_step k81 (w0:=wd) wd.heap.size (by rfl) (.tmp 45) (.tmp 47) 26 81 (.agg #[.int .u32 0,.int .u32 0,.int .u32 0,.int .u32 0,.int .u32 0]) 20 rfl Tryz.underlying26 O.info rfl (by decide) (by omega) v6 l [o] (some ⟨gl,0,none⟩) 1 1 (fun _=>True) (fun _=>False) rfl rfl HO7.out HL7.out (fun x cs h=>KM81 h) (fun _ h=>h.elim) (fun _ _=>trivial) HB7.out HB7.out.size (by omega) ?_
  intro v8 w8 ho8 hb8 hg_ hat_;have HO8:=Aside0.mk ho8;have HB8:=Aside0.mk hb8;have BK8:=Aside0.mk ((hb8.block _ HGS.out).trans BKd.out);clear hg_ hat_ ho8 hb8 HO7 HB7 HL7 BK7;refine hK.out _ _ ⟨(blk_cell BK8.out 0).trans rfl,(blk_cell BK8.out 1).trans rfl,(blk_cell BK8.out 2).trans rfl,(blk_cell BK8.out 3).trans rfl,(blk_cell BK8.out 4).trans rfl⟩ (fun hHeld=>?_);clear hK K;refine rn ?_;refine rp 5 (some 8) ?_;refine done_ (by kernel_rfl) ?_
  skip;have hll:(l++[o]).length≤1000∧0<(l++[o]).length:=by simp;omega
  generalize hL:l++[o]=L at HO8 hll;have HL:=Aside0.mk hL;obtain ⟨hll1,hll2⟩:=hll;clear hL;obtain ⟨g,cap,cur,rfl,hbg,hrow⟩:=O.row_of_R HO8.out hll2;have HROW:=Aside0.mk hrow;have HBG:=Aside0.mk hbg;clear hrow hbg;have hsort:=Aside0.mk (O.sort wd g cap cur L ordO 194 w8 (enters_of Tryz.func194 (by kernel_rfl) rfl) swoO (fun x y W=>order_x x y W) HROW.out hll1 HB8.out HBG.out)
  go_wp2_with (go_at_call 284;refine hsort.out.mono ?_;rintro e w9 ⟨rfl,⟨l9,cur9,hp9,hs9,hr9⟩,hb9,_⟩;have HP9:=Aside0.mk hp9;have HS9:=Aside0.mk hs9;have HR9:=Aside0.mk hr9;have HB9:=Aside0.mk hb9;clear hr9 hb9 hp9 hs9)
  go_ret2
  have h9:=sorted_ins hup.out HFN2.out (by rw [HL.out];exact HP9.out) HS9.out
  have hR9:=O.R_of_row HR9.out HBG.out;rw [HP9.out.length_eq] at hR9;rw [h9] at hR9;exact ⟨_,rfl,Kd.R_lower hR9 HBd.out.size,below_step HBd.out HB9.out⟩
def share_Add.f (l:List O.T) (a b c d e:Int):Option (List O.T×Int):=if l.length≤1000 then some (addF l ⟨a,b,c,d,e⟩) else none
theorem share_Add.calls (A0:Option Addr) (c0:Nat) (l0:List O.T) (a1_0 a1_1 a1_2 a1_3 a1_4:Int) (r1:List O.T) (r2:Int) (w:World) (hr0:Kd.C k81 w A0 l0.length l0) (hc0:l0.length≤c0) (h:share_Add.f l0 a1_0 a1_1 a1_2 a1_3 a1_4=some (r1,r2)) :
  Calls Tryz.prog 242 #[.slice A0 l0.length c0,.agg #[.int .u32 a1_0,.int .u32 a1_1,.int .u32 a1_2,.int .u32 a1_3,.int .u32 a1_4]] w fun e w'=>∃ v0_:Value,e=.returned (.tuple #[v0_,.int .i64 r2])∧Kd.R k81 81 w' w.heap.size (fun _=>True) v0_ r1∧Below w.heap.size w w':=by
 unfold share_Add.f at h;by_cases hl:l0.length≤1000
 ·rw [if_pos hl] at h;have h':=Option.some.inj h;have hc:=add_c A0 c0 l0 ⟨a1_0,a1_1,a1_2,a1_3,a1_4⟩ w hr0 hc0 hl;rw [h'] at hc;exact hc
 ·rw [if_neg hl] at h;cases h
end Go.Proofs.YtikjfekagdcjmaaGreatDoor.Q
