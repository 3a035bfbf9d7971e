/- Contracts and plain theory behind FlatRights. -/
import Derived.Test.YtikjfekagdcjmaaGreatDoorCFlatRights2
import Derived.Test.YtikjfekagdcjmaaGreatDoorCFlatRights7
import Derived.Test.YtikjfekagdcjmaaGreatDoorCFlatRights8
import Derived.Test.YtikjfekagdcjmaaGreatDoorCFlatRights9
import Derived.Test.YtikjfekagdcjmaaGreatDoorCFlatRights16
import Derived.Test.YtikjfekagdcjmaaGreatDoorCFlatRights17
import Derived.Test.YtikjfekagdcjmaaGreatDoorCFlatRights18
set_option linter.unusedVariables false
set_option linter.unusedSimpArgs false
set_option maxHeartbeats 16000000
set_option maxRecDepth 100000
namespace Go.Proofs.YtikjfekagdcjmaaGreatDoor.Q
open Go.RowKit Go.Proofs.YtikjfekagdcjmaaGreatDoorW.PrintWords Go.Proofs.YtikjfekagdcjmaaGreatDoorW.PrintLast Go.Proofs.YtikjfekagdcjmaaGreatDoorW.PrintMore
def grownF (n:Int) (tl:List SI) (bl:List B.T) (path:ByteArray) (dir:Bool):Int×List SI×List B.T×Int :=
 if n=4294967295 then (n,tl,bl,16)
 else if (makeF tl path n dir).2≠0 then (n,tl,bl,(makeF tl path n dir).2)
 else (n+1,(makeF tl path n dir).1,if dir=true then bl else bl++[⟨n,⟨#[]⟩⟩],0)
theorem KMB {w:World} {base:Nat} {ok:Nat→Prop} {x:B.T} {cs:List Value} (h:k87.K w x cs):k87.M w base ok x cs:=by
 obtain rfl:=k87_open h;exact k87_mkM _ _ _ x
theorem B.one_row {w:World} {g:Nat} {x:B.T} (h:w.heap[g]?=some (.cells (B.v x) 87 (0,0))):Kd.C k87 w (some ⟨g,0,none⟩) 1 [x] :=
 (Kd.R_reads' (B.R_of_row (base:=0) (⟨h,Nat.le_refl _,by decide,rfl,rfl⟩:B.Row w g 1 (B.v x) [x]) (Nat.zero_le _))).2.2
theorem fgrown_c (base g:Nat) (n:Int) (vT vO vB:Value) (tl:List SI) (ol:List O.T) (bl:List B.T) (path:ByteArray) (dir:Bool) (w:World) (hf:FB w base g n vT vO vB tl ol bl) (hl:bl.length≤1000) (hn0:0≤n) (hn1:n≤4294967295) (hs:path.size≤100000) (hw:wfL tl=true) :
  Calls Tryz.prog 241 #[.pointer (some ⟨g,0,none⟩),.string path,.bool dir] w fun e w'=>e=.returned (.int .i64 (grownF n tl bl path dir).2.2.2)∧((grownF n tl bl path dir).2.2.2=0→∃ vT' vB',FB w' base g (grownF n tl bl path dir).1 vT' vO vB' (grownF n tl bl path dir).2.1 ol (grownF n tl bl path dir).2.2.1∧Kd.R k43 43 w' w.heap.size (fun _=>True) vT' (grownF n tl bl path dir).2.1)∧Fr base g w w':=by
 obtain ⟨A1,c1,rfl,hA1,hc1⟩:=R_open hf.rT;obtain ⟨A2,c2,rfl,-,-⟩:=R_open hf.rO;obtain ⟨A3,c3,rfl,-,-⟩:=R_open hf.rB;have hbs:base≤w.heap.size:=by have:=blk_lt hf.heap;have:=hf.le;omega
 have HBS:=Aside0.mk hbs;obtain ⟨res,hres⟩ : ∃ r,r=grownF n tl bl path dir:=⟨_,rfl⟩;rw [← hres];unfold grownF at hres;have HC:=Aside0.mk (fun (W:World) (hb:Below w.heap.size w W)=>tree_Make.calls A1 c1 tl path n dir (makeF tl path n dir).1 (makeF tl path n dir).2 W (Kd.C_below hA1 hb) hc1 (by unfold tree_Make.f;rw [if_pos ⟨hw,hs,hn0,hn1⟩]))
 generalize makeF tl path n dir=mk at HC hres;obtain ⟨m1,m2⟩:=mk;simp only at hres HC;generalize tl.length=n1 at hf HC;generalize ol.length=n2 at hf;have HL3:=Aside0.mk (Nat.le_refl bl.length);generalize hn3:bl.length=n3 at hf HL3 hl;have HN3:=Aside0.mk hn3;obtain ⟨f0,f1,f2,f3⟩:=hf.cells;have HF:=Aside0.mk hf;have HRES:=Aside0.mk hres;clear hf hA1 hc1 hbs hw hres hn3;by_cases hn:n=4294967295
 ·have hr:=HRES.out;rw [if_pos hn] at hr;subst hr;clear HRES HC;have hn2:=hn;subst hn2;go_enter Tryz.func241,Tryz.ntmps241;go_wp2_with (fail)
  go_ret
  exact ⟨rfl,Fr.refl _ _ _⟩
 ·have hr:=HRES.out;rw [if_neg hn] at hr;have HRES1:=Aside0.mk hr;have e0:(n == (4294967295:Int))=false:=beq_eq_false_iff_ne.2 hn;clear HRES hr;go_enter Tryz.func241,Tryz.ntmps241;go_upto_region 3 with (fail)
  have HFd:=Aside0.mk HF.out.drew;have HRd:=Aside0.mk (Fr.refl base g w).drew;have HCd:=Aside0.mk (HC.out w.drew ⟨rfl,rfl,rfl,Nat.le_refl _,fun _ _=>rfl⟩);have HN:=Aside0.mk hn;clear f0 f1 f2 f3 HF HC e0 hn;refine rs 16 (fun w'=>w'.cell? ⟨g,0,none⟩=some (.int .u32 n)∧w'.cell? ⟨g,1,none⟩=some (.slice A1 n1 c1)∧w'.cell? ⟨g,2,none⟩=some (.slice A2 n2 c2)∧w'.cell? ⟨g,3,none⟩=some (.slice A3 n3 c3)) [] HFd.out.cells (fun hHeld=>?_);generalize w.drew=wd at HFd HRd HCd hHeld ⊢;refine rp 0 (some 15) ?_;refine rp 1 (some 16) ?_;refine rp 2 (some 17) ?_;refine rt 3 (some 18) ?_;refine rp 4 (some 19) ?_;refine rp 5 (some 20) ?_;refine rp 6 (some 21) ?_;refine rp 7 (some 22) ?_;refine rt 8 (some 23) ?_;refine rp 9 (some 24) ?_;refine ro 10 (some 25) (fun K hK=>?_);refine cr Tryz.func282 #[.slice A1 n1 c1,.string path,.int .u32 n,.bool dir] ?_;refine HCd.out.mono ?_;rintro e wb ⟨vm,rfl,hom,hb⟩;obtain ⟨A4,c4,rfl,-,-⟩:=R_open hom;refine ⟨_,rfl,?_⟩;have HFb:=Aside0.mk (HFd.out.step hb);have HRb:=Aside0.mk (HRd.out.step hb);have HOM:=Aside0.mk (Kd.R_lower hom (Nat.le_trans HBS.out HRd.out.size));have HOW:=Aside0.mk (Kd.R_lower hom HRd.out.size);clear hb hom;refine hK.out _ _ HFb.out.cells (fun hHeld=>?_);clear hK K;refine rn ?_;clear HFd HRd HCd;refine rp 11 (some 14) ?_;refine rp 12 (some 26) ?_;refine rp 13 (some 27) ?_;refine rp 14 (some 7) ?_;refine rp 15 (some 8) ?_;refine done_ (by kernel_rfl) ?_
  skip;by_cases hm:m2=0
  ·have hr:=HRES1.out;rw [if_neg (by simpa using hm)] at hr
   have HRES2:=Aside0.mk hr;clear HRES1 hr;subst hm;obtain ⟨f0,f1,f2,f3⟩:=HFb.out.cells;have z1:=HFb.out.frozen 1;go_upto_region 7 with (fail)
   have HF2:=Aside0.mk (HFb.out.setT HOM.out);have HR2:=Aside0.mk (HRb.out.setG 1 (.slice A4 m1.length c4));have HOW2:=Aside0.mk (HFb.out.rset HOW.out 1 (.slice A4 m1.length c4));clear f0 f1 f2 f3 z1 HFb HRb HOM HOW hHeld;generalize wb.setCell ⟨g,1,none⟩ (.slice A4 m1.length c4)=wc at HF2 HR2 HOW2 ⊢;generalize m1.length=n4 at HF2 HOW2 ⊢;have hwr:IntKind.u32.wrap (n+1)=n+1:=by rw [IntKind.wrap_u32];have:=HN.out;omega
   cases dir with
   | true =>
    have hr:=HRES2.out;rw [if_pos rfl] at hr;subst hr;clear HRES2;obtain ⟨f0,f1,f2,f3⟩:=HF2.out.cells;have z0:=HF2.out.frozen 0;go_wp2_with (fail)
    go_ret
    exact ⟨rfl,⟨_,⟨_,HF2.out.setN (n+1)⟩,HF2.out.rset HOW2.out 0 _⟩,HR2.out.setG 0 _⟩
   | false =>
    have hr:=HRES2.out;rw [if_neg (by decide)] at hr
    subst hr;clear HRES2;go_upto_region 8 with (fail)
    have HFd:=Aside0.mk HF2.out.drew;have HRd:=Aside0.mk HR2.out.drew;have HOWd:=Aside0.mk (Kd.R_drew HOW2.out);clear HF2 HR2 HOW2;refine rs 15 (fun w'=>w'.cell? ⟨g,0,none⟩=some (.int .u32 n)∧w'.cell? ⟨g,1,none⟩=some (.slice A4 n4 c4)∧w'.cell? ⟨g,2,none⟩=some (.slice A2 n2 c2)∧w'.cell? ⟨g,3,none⟩=some (.slice A3 n3 c3)) [14] HFd.out.cells (fun hHeld=>?_);generalize wc.drew=wd at HFd HRd HOWd hHeld ⊢;refine rp 0 (some 37) ?_;refine rp 1 (some 38) ?_;refine rp 2 (some 39) ?_;refine rp 3 (some 40) ?_;refine rp 5 (some 42) ?_;refine rp 6 (some 43) ?_;refine rp 7 (some 44) ?_;refine rt 4 (some 41) ?_;refine rt 8 (some 45) ?_;refine rp 9 (some 46) ?_;refine ro 10 (some 47) (fun K hK=>?_);refine value_ (v:=.slice (some ⟨wd.heap.size,0,none⟩) 1 1) (w1:=wd.alloc (.cells #[.int .u32 n,.string ⟨#[]⟩] 87)) (by rfl) rfl (by first|(go_simp;done)|(go_simp;rfl)) ?_
    have HFe:=Aside0.mk (HFd.out.alloc (.cells #[.int .u32 n,.string ⟨#[]⟩] 87));have HRe:=Aside0.mk (HRd.out.alloc (.cells #[.int .u32 n,.string ⟨#[]⟩] 87));have HOWe:=Aside0.mk (Kd.R_alloc HOWd.out (.cells #[.int .u32 n,.string ⟨#[]⟩] 87));have HL:=Aside0.mk (B.one_row (x:=⟨n,⟨#[]⟩⟩) (heap_alloc_new wd (.cells #[.int .u32 n,.string ⟨#[]⟩] 87)));refine hK.out _ _ HFe.out.cells (fun hHeld=>?_);clear hK K;refine rn ?_;generalize wd.alloc (.cells #[.int .u32 n,.string ⟨#[]⟩] 87)=we at HFe HRe HL HOWe hHeld ⊢;generalize wd.heap.size=gl at HL ⊢;clear HFd HRd HOWd;refine ro 11 (some 48) (fun K hK=>?_);refine Kd.R_append_rows_step k87 (w0:=we) base (by rfl) (.tmp 41) (.tmp 47) 65 87 (.agg #[.int .u32 0,.string ⟨#[]⟩]) 24 rfl Tryz.underlying65 B.info rfl (by decide) (by omega) (.slice A3 n3 c3) bl [⟨n,⟨#[]⟩⟩] (some ⟨gl,0,none⟩) 1 1 (fun _=>True) (fun _=>False) rfl rfl HFe.out.rB HL.out (fun x cs h=>KMB h) (fun _ h=>h.elim) (fun _ _=>trivial) (Below.refl base we) (Nat.le_trans HBS.out HRe.out.size) (by have:=HN3.out;omega) ?_
    intro v8 w8 ho8 hb8 hg8 hat8;obtain ⟨A5,c5,rfl,-,-⟩:=R_open ho8;have HA:=Aside0.mk (HFe.out.appendB hg8 ho8);have HRf:=Aside0.mk (HRe.out.grown hg8 (own_body HFe.out.rB));have HOWf:=Aside0.mk (HFe.out.rgrown hg8 HOWe.out);clear hg8 hat8 ho8 hb8 HL HFe HRe HOWe;refine hK.out _ _ ⟨(blk_cell HA.out.1 0).trans rfl,(blk_cell HA.out.1 1).trans rfl,(blk_cell HA.out.1 2).trans rfl,(blk_cell HA.out.1 3).trans rfl⟩ (fun hHeld=>?_);clear hK K;refine rn ?_;refine rp 12 (some 49) ?_;refine rp 13 (some 50) ?_;refine rl 14 none (fun K hK=>?_);refine skip_ (by rfl) rfl (run_store_cell w8 65 (.tmp 50) (.tmp 48) rfl g 3 (.slice A5 (bl++[(⟨n,⟨#[]⟩⟩:B.T)]).length c5) _ 67 rfl rfl HA.out.1 (by simp) (by kernel_rfl) rfl rfl) ?_
    refine hK.out _ _ ?_;clear hK K;refine done_ (by kernel_rfl) ?_
    skip;have HF5:=Aside0.mk HA.out.2;have HR5:=Aside0.mk (HRf.out.setG 3 (.slice A5 (bl++[(⟨n,⟨#[]⟩⟩:B.T)]).length c5));have HOW5:=Aside0.mk (R_set HOWf.out HA.out.1 (by decide) 3 (.slice A5 (bl++[(⟨n,⟨#[]⟩⟩:B.T)]).length c5))
    clear HA HRf HOWf hHeld;generalize w8.setCell ⟨g,3,none⟩ (.slice A5 (bl++[(⟨n,⟨#[]⟩⟩:B.T)]).length c5)=w9 at HF5 HR5 HOW5 ⊢;generalize (bl++[(⟨n,⟨#[]⟩⟩:B.T)]).length=n5 at HF5 HOW5 ⊢;obtain ⟨f0,f1,f2,f3⟩:=HF5.out.cells;have z0:=HF5.out.frozen 0;go_wp2_with (fail)
    go_ret
    exact ⟨rfl,⟨_,⟨_,HF5.out.setN (n+1)⟩,HF5.out.rset HOW5.out 0 _⟩,HR5.out.setG 0 _⟩
  ·have hr:=HRES1.out;rw [if_pos hm] at hr;subst hr;clear HRES1;go_wp2_with (fail)
   go_ret
   exact ⟨rfl,HRb.out⟩
end Go.Proofs.YtikjfekagdcjmaaGreatDoor.Q
namespace Go.Proofs.YtikjfekagdcjmaaGreatDoor.Q
open Go.RowKit Go.Proofs.YtikjfekagdcjmaaGreatDoorW.PrintWords Go.Proofs.YtikjfekagdcjmaaGreatDoorW.PrintLast
def cmp2 (a b:Int):Int:=if a<b then -1 else if a>b then 1 else 0
def ordO (a b:O.T):Int:=if cmp2 a.f0 b.f0≠0 then cmp2 a.f0 b.f0 else cmp2 a.f1 b.f1
theorem compare_f (a b:Int):cmp_Compare_uint32.f a b=some (cmp2 a b):=by
 unfold cmp_Compare_uint32.f cmp_isNaN_uint32.f cmp2;simp only [Option.bind_some,bne_self_eq_false,Bool.false_eq_true,if_false];by_cases h:a<b
 ·rw [if_pos h,if_pos h]
 ·rw [if_neg h,if_neg h];by_cases h2:a>b
  ·rw [if_pos h2,if_pos h2]
  ·rw [if_neg h2,if_neg h2]
theorem order_f (a b:O.T) (k:Nat) (hk:4<k):share_order.f k a.f0 a.f1 a.f2 a.f3 a.f4 b.f0 b.f1 b.f2 b.f3 b.f4=some (ordO a b):=by
 unfold share_order.f;rw [compare_f,compare_f];simp only [Option.bind_some];obtain ⟨k,rfl⟩ : ∃ m,k=m+1+1+1:=⟨k-3,by omega⟩
 unfold cmp_Or_int.f ordO;generalize cmp2 a.f0 b.f0=x;generalize cmp2 a.f1 b.f1=y;by_cases h1:x=0
 ·by_cases h2:y=0
  ·subst h1;subst h2;simp [cmp_Or_int.l0,rd,wrap64]
  ·subst h1;simp [cmp_Or_int.l0,rd,wrap64,h2]
 ·simp [cmp_Or_int.l0,rd,wrap64,h1]
def oneB (o:O.T):Bool:=decide (0<o.f0)&&decide (0<o.f2)&&decide (1≤o.f3)&&decide (o.f3≤3)&&decide (o.f4≤3)
theorem one_f (o:O.T):share_one.f o.f0 o.f1 o.f2 o.f3 o.f4=some (oneB o):=by
 unfold share_one.f oneB;by_cases h1:o.f0>0 <;> by_cases h2:o.f2>0 <;> by_cases h3:o.f3≥1 <;> by_cases h4:o.f3≤3 <;> simp [h1,h2,h3,h4] <;> omega
def mineN (l:List O.T) (c:Int):Nat:=l.countP fun x=>x.f0 == c
def okAt (l:List O.T) (i:Nat):Bool :=
 oneB (rd_T81 l i)&&decide (mineN l (rd_T81 l i).f0≤4)&&(decide (i=0)||decide (ordO (rd_T81 l ((i:Int)-1)) (rd_T81 l i)<0))&&!((l.take i).any fun x=>clashB x (rd_T81 l i))
def rightO (l:List O.T):Bool:=decide (l.length≤12)&&(List.range l.length).all (okAt l)
theorem mine_f (l:List O.T) (c:Int) (hl:l.length≤1000):share_mine.f l c=some (mineN l c:Int):=by
 unfold share_mine.f mineN;rw [if_pos hl]
theorem any_f (l:List O.T) (y:O.T) (hl:l.length≤1000):share_any.f l y.f0 y.f1 y.f2 y.f3 y.f4=some (l.any fun x=>clashB x y):=by
 unfold share_any.f anyF;rw [if_pos hl]
theorem right_loop (l:List O.T) (hl:l.length≤12) : ∀ (n k i:Nat),i+n=l.length→2*n+6<k→share_Right.l0 k l l (l.length:Int) (i:Int)=some ((List.range' i n).all (okAt l)):=by
 intro n;induction n with
 | zero =>
  intro k i hi hk;obtain ⟨k,rfl⟩ : ∃ m,k=m+1:=⟨k-1,by omega⟩
  rw [share_Right.l0,if_neg (by omega)]
  rfl
 | succ n ih =>
  intro k i hi hk;obtain ⟨k,rfl⟩ : ∃ m,k=m+1+1:=⟨k-2,by omega⟩
  have hj : ∀ b,share_Right.j1 (k+1) l (i:Int) l (l.length:Int) (i:Int) b (rd_T81 l i).f0 (rd_T81 l i).f1 (rd_T81 l i).f2 (rd_T81 l i).f3 (rd_T81 l i).f4=some (!b&&(!((l.take i).any fun x=>clashB x (rd_T81 l i)))&&(List.range' (i+1) n).all (okAt l)):=by
   intro b;cases b
   ·rw [share_Right.j1,if_neg (by decide),if_pos (by omega),if_pos (by omega),Int.toNat_natCast,any_f _ _ (by rw [List.length_take];omega)]
    simp only [Option.bind_some];cases hc:((l.take i).any fun x=>clashB x (rd_T81 l i))
    ·rw [if_neg (by decide),wrap_in (by omega) (by omega),show ((i:Int)+1)=((i+1:Nat):Int) by omega,ih k (i+1) (by omega) (by omega)]
     simp
    ·rw [if_pos rfl];simp
   ·rw [share_Right.j1,if_pos rfl];simp
  have hr:(List.range' i (n+1)).all (okAt l)=(okAt l i&&(List.range' (i+1) n).all (okAt l)):=by
   rw [List.range'_succ,List.all_cons]
  rw [hr,share_Right.l0,if_pos (by omega),if_pos (by omega),if_pos (by omega),one_f]
  simp only [Option.bind_some];rw [show okAt l i=(oneB (rd_T81 l i)&&decide (mineN l (rd_T81 l i).f0≤4)&&(decide (i=0)||decide (ordO (rd_T81 l ((i:Int)-1)) (rd_T81 l i)<0))&&!((l.take i).any fun x=>clashB x (rd_T81 l i))) from rfl]
  cases h1:oneB (rd_T81 l i)
  ·rw [if_neg (by decide),hj]
   simp
  ·rw [if_pos rfl,mine_f _ _ (by omega)]
   simp only [Option.bind_some];by_cases h2:(mineN l (rd_T81 l i).f0:Int)>4
   ·rw [if_pos h2,hj];have : ¬ mineN l (rd_T81 l i).f0≤4:=by omega
    simp [this]
   ·rw [if_neg h2];have h2':mineN l (rd_T81 l i).f0≤4:=by omega
    by_cases h3:i=0
    ·subst h3;rw [if_neg (by omega),hj]
     have h2z:mineN l (rd_T81 l 0).f0≤4:=h2';simp [h2z]
    ·rw [if_pos (by omega),wrap_in (by omega) (by omega),if_pos (by omega),if_pos (by omega),order_f _ _ _ (by omega)]
     simp only [Option.bind_some];rw [hj];by_cases h4:ordO (rd_T81 l ((i:Int)-1)) (rd_T81 l i)<0
     ·rw [decide_eq_false (by omega)]
      simp [h2',h3,h4]
     ·rw [decide_eq_true (by omega)]
      simp [h2',h3,h4]
theorem right_f (l:List O.T) (k:Nat) (hk:40<k):share_Right.f k l=some (rightO l):=by
 unfold share_Right.f rightO;by_cases h:(l.length:Int)>12
 ·rw [if_pos h,decide_eq_false (by omega)]
  rfl
 ·rw [if_neg h,decide_eq_true (by omega)]
  have:=right_loop l (by omega) l.length k 0 (by omega) (by omega)
  rw [List.range_eq_range',Bool.true_and];exact this
def zO:O.T:=⟨0,0,0,0,0⟩
def findO (l:List O.T) (c h:Int):O.T×Bool :=
 match l.find? fun x=>x.f0 == c&&x.f1 == h with
 | some x=>(x,true)
 | none=>(zO,false)
theorem find_loop (l:List O.T) (c h:Int) (hl:l.length≤1000) : ∀ (n k i:Nat),i+n=l.length→n<k →
  share_Find.l0 k c h l (l.length:Int) (i:Int)=some ((findO (l.drop i) c h).1.f0,(findO (l.drop i) c h).1.f1,(findO (l.drop i) c h).1.f2,(findO (l.drop i) c h).1.f3,(findO (l.drop i) c h).1.f4,(findO (l.drop i) c h).2):=by
 intro n;induction n with
 | zero =>
  intro k i hi hk;obtain ⟨k,rfl⟩ : ∃ m,k=m+1:=⟨k-1,by omega⟩
  rw [share_Find.l0,if_neg (by omega),List.drop_eq_nil_of_le (by omega)]
  rfl
 | succ n ih =>
  intro k i hi hk;obtain ⟨k,rfl⟩ : ∃ m,k=m+1:=⟨k-1,by omega⟩
  have hx:rd_T81 l i=l[i]:=O.rdT l i (by omega)
  rw [share_Find.l0,if_pos (by omega),if_pos (by omega),if_pos (by omega),List.drop_eq_getElem_cons (by omega)]
  simp only [findO,List.find?_cons];rw [hx];by_cases h1:l[i].f0=c
  ·rw [if_pos h1];by_cases h2:l[i].f1=h
   ·rw [if_pos h2];simp [h1,h2]
   ·rw [if_neg h2,wrap_in (by omega) (by omega),show ((i:Int)+1)=((i+1:Nat):Int) by omega,ih k (i+1) (by omega) (by omega)]
    have e2:(l[i].f1 == h)=false:=beq_eq_false_iff_ne.2 h2;simp [h1,e2,findO]
  ·rw [if_neg h1,wrap_in (by omega) (by omega),show ((i:Int)+1)=((i+1:Nat):Int) by omega,ih k (i+1) (by omega) (by omega)]
   have e1:(l[i].f0 == c)=false:=beq_eq_false_iff_ne.2 h1;simp [e1,findO]
theorem find_f (l:List O.T) (c h:Int) (k:Nat) (hl:l.length≤1000) (hk:l.length<k):share_Find.f k l c h=some ((findO l c h).1.f0,(findO l c h).1.f1,(findO l c h).1.f2,(findO l c h).1.f3,(findO l c h).1.f4,(findO l c h).2):=by
 have:=find_loop l c h hl l.length k 0 (by omega) hk
 rw [List.drop_zero] at this;exact this
end Go.Proofs.YtikjfekagdcjmaaGreatDoor.Q
namespace Go.Proofs.YtikjfekagdcjmaaGreatDoor.Q
open Go.RowKit Go.Proofs.YtikjfekagdcjmaaGreatDoorW.PrintWords Go.Proofs.YtikjfekagdcjmaaGreatDoorW.PrintLast Go.Proofs.YtikjfekagdcjmaaGreatDoorW.PrintMore
section
attribute [local go_sem high] eqA81
def eqO (x y:O.T):Bool:=x.f0 == y.f0&&(x.f1 == y.f1&&(x.f2 == y.f2&&(x.f3 == y.f3&&x.f4 == y.f4)))
def dropF (l:List O.T) (c h:Int):List O.T×O.T×Int :=
 if rightO l=true then (if (findO l c h).2=true then (l.filter fun y=>!eqO y (findO l c h).1,(findO l c h).1,0) else ([],zO,14)) else ([],zO,1)
theorem rightO_len {l:List O.T} (h:rightO l=true):l.length≤12:=by
 unfold rightO at h;simp only [Bool.and_eq_true,decide_eq_true_eq] at h;exact h.1
end
def freeF (ol:List O.T) (user:Int):Int :=
 if (findO ol user 0).2=false then 0 else if (findO ol user 1).2=false then 1 else if (findO ol user 2).2=false then 2 else if (findO ol user 3).2=false then 3 else -1
theorem free_f (n:Int) (tl:List SI) (ol:List O.T) (bl:List B.T) (user:Int) (hl:ol.length≤12) (k:Nat) (hk:20<k):flat_free.f k n tl ol bl user=some (freeF ol user):=by
 obtain ⟨k,rfl⟩ : ∃ m,k=m+1+1+1+1+1:=⟨k-5,by omega⟩
 have hf : ∀ (j:Nat) (h:Int),12<j→share_Find.f j ol user h=some ((findO ol user h).1.f0,(findO ol user h).1.f1,(findO ol user h).1.f2,(findO ol user h).1.f3,(findO ol user h).1.f4,(findO ol user h).2):=fun j h hj=>find_f ol user h j (by omega) (by omega)
 unfold flat_free.f freeF;rw [flat_free.l0,if_pos (by decide),show (0:Int) % 4294967296=0 from rfl,hf _ _ (by omega)]
 simp only [Option.bind_some];rw [show wrap64 (0+1)=1 by unfold wrap64;decide]
 cases h0:(findO ol user 0).2
 ·rw [if_neg (by decide),if_pos rfl]
 rw [if_pos rfl,if_neg (by decide),flat_free.l0,if_pos (by decide),show (1:Int) % 4294967296=1 from rfl,hf _ _ (by omega)]
 simp only [Option.bind_some];rw [show wrap64 (1+1)=2 by unfold wrap64;decide]
 cases h1:(findO ol user 1).2
 ·rw [if_neg (by decide),if_pos rfl]
 rw [if_pos rfl,if_neg (by decide),flat_free.l0,if_pos (by decide),show (2:Int) % 4294967296=2 from rfl,hf _ _ (by omega)]
 simp only [Option.bind_some];rw [show wrap64 (2+1)=3 by unfold wrap64;decide]
 cases h2:(findO ol user 2).2
 ·rw [if_neg (by decide),if_pos rfl]
 rw [if_pos rfl,if_neg (by decide),flat_free.l0,if_pos (by decide),show (3:Int) % 4294967296=3 from rfl,hf _ _ (by omega)]
 simp only [Option.bind_some];rw [show wrap64 (3+1)=4 by unfold wrap64;decide]
 cases h3:(findO ol user 3).2
 ·rw [if_neg (by decide),if_pos rfl]
 rw [if_pos rfl,if_neg (by decide),flat_free.l0,if_neg (by decide)]
theorem Fr.setFresh {base g r:Nat} {a w:World} (h:Fr base g a w) (hr:a.heap.size≤r) (cs:Array Value):Fr base g a (w.setRow r cs) :=
 ⟨h.os,h.tape,h.output,by simpa using h.size,fun k hk hg hb=>(setRow_other w r k cs (by omega)).trans (h.keep k hk hg hb)⟩
def named1 (kind:Int):Bool:=kind == 1||kind == 6||kind == 7||kind == 8||kind == 9||kind == 10||kind == 11
def lenF (kind len:Int) (data:ByteArray):Int:=if kind=4 then data.size else len
def checkF (ol:List O.T) (user kind:Int) (path other:ByteArray) (fd off len:Int) (data:ByteArray):O.T×Int×Bool :=
 if named1 kind=true then
  (if (64<path.size∨kind=9∧64<other.size) then (zO,9,true) else (zO,16,kind == 1&&decide (freeF ol user<0)))
 else if fd<0∨4≤fd then (zO,14,true)
 else if (findO ol user fd).2=false then ((findO ol user fd).1,14,true)
 else if kind=2 then ((findO ol user fd).1,0,false)
 else if kind=3∧Go.bits .and .u32 (findO ol user fd).1.f3 1=0∨kind≠3∧Go.bits .and .u32 (findO ol user fd).1.f3 2=0 then ((findO ol user fd).1,22,true)
 else if lenF kind len data<0∨kind≠5∧off<0 then ((findO ol user fd).1,1,true)
 else if kind=5 then ((findO ol user fd).1,15,decide (1024<lenF kind len data))
 else if 64<lenF kind len data∨1024<off∨1024<off+lenF kind len data then ((findO ol user fd).1,15,true)
 else ((findO ol user fd).1,0,lenF kind len data == 0)
theorem check_name (n:Int) (A1:Option Addr) (c1:Nat) (tl:List SI) (A2:Option Addr) (c2:Nat) (ol:List O.T) (A3:Option Addr) (c3:Nat) (bl:List B.T) (user kind:Int) (path other:ByteArray) (acc deny:Int) (cr:Bool) (fd off len:Int) (data:ByteArray) (gc:Nat) (w:World)
  (hrT:Kd.C k43 w A1 tl.length tl) (hcT:tl.length≤c1) (hrO:Kd.C k81 w A2 ol.length ol) (hcO:ol.length≤c2) (hrB:Kd.C k87 w A3 bl.length bl) (hcB:bl.length≤c3) (hl:ol.length≤12)
  (hb:w.heap[gc]?=some (.cells #[.int .i64 kind,.string path,.string other,.int .u32 acc,.int .u32 deny,.bool cr,.int .i64 fd,.int .i64 off,.int .i64 len,.string data] 69 (0,0))) (hk:named1 kind=true) :
  Calls Tryz.prog 97 #[.agg #[.int .u32 n,.slice A1 tl.length c1,.slice A2 ol.length c2,.slice A3 bl.length c3],.int .u32 user,.pointer (some ⟨gc,0,none⟩)] w fun e w'=>e=.returned (.tuple #[.agg (O.v (checkF ol user kind path other fd off len data).1),.int .i64 (checkF ol user kind path other fd off len data).2.1,.bool (checkF ol user kind path other fd off len data).2.2])∧Below w.heap.size w w':=by
 have HB:=Aside0.mk (below_alloc (below_alloc (Below.refl w.heap.size w) (.cells #[.int .u32 n,.slice A1 tl.length c1,.slice A2 ol.length c2,.slice A3 bl.length c3] 67)) (.cells #[.int .u32 0,.int .u32 0,.int .u32 0,.int .u32 0,.int .u32 0] 81));have BF:=Aside0.mk (blk_alloc (heap_alloc_new w (.cells #[.int .u32 n,.slice A1 tl.length c1,.slice A2 ol.length c2,.slice A3 bl.length c3] 67)) (.cells #[.int .u32 0,.int .u32 0,.int .u32 0,.int .u32 0,.int .u32 0] 81));have BR:=Aside0.mk (heap_alloc_new (w.alloc (.cells #[.int .u32 n,.slice A1 tl.length c1,.slice A2 ol.length c2,.slice A3 bl.length c3] 67)) (.cells #[.int .u32 0,.int .u32 0,.int .u32 0,.int .u32 0,.int .u32 0] 81));have BC:=Aside0.mk (blk_alloc (blk_alloc hb (.cells #[.int .u32 n,.slice A1 tl.length c1,.slice A2 ol.length c2,.slice A3 bl.length c3] 67)) (.cells #[.int .u32 0,.int .u32 0,.int .u32 0,.int .u32 0,.int .u32 0] 81));have hs:(w.alloc (.cells #[.int .u32 n,.slice A1 tl.length c1,.slice A2 ol.length c2,.slice A3 bl.length c3] 67)).heap.size=w.heap.size+1:=by simp
 rw [hs] at BR;have HRT:=Aside0.mk hrT;have HRO:=Aside0.mk hrO;have HRB:=Aside0.mk hrB;have HCT:=Aside0.mk hcT;have HCO:=Aside0.mk hcO;have HCB:=Aside0.mk hcB;have HFR:=Aside0.mk (free_f n tl ol bl user hl 21 (by omega))
 obtain ⟨fs,hu81'⟩ : ∃ fs,Tryz.prog.underlying 81=some (.struct fs):=⟨_,rfl⟩;have hu81:=Aside0.mk hu81';have hi81:Aside0 ((Tryz.prog.info? 81).map (·.size)=some 5):=⟨by kernel_rfl⟩
 have hz81 : ∀ w,(zeroValue 81).run Tryz.prog w=.ok (.agg #[.int .u32 0,.int .u32 0,.int .u32 0,.int .u32 0,.int .u32 0]) w:=fun w=>by kernel_rfl
 obtain ⟨res,hres⟩ : ∃ r,r=checkF ol user kind path other fd off len data:=⟨_,rfl⟩;rw [← hres];unfold checkF at hres;rw [if_pos hk] at hres;have HRES:=Aside0.mk hres;have HK:=Aside0.mk hk;generalize freeF ol user=fr at HFR HRES;clear hrT hrO hrB hcT hcO hcB hb hs hu81' hres hk;go_enter Tryz.func97,Tryz.ntmps97;go_upto_region 1 with (fail)
 generalize (w.alloc (.cells #[.int .u32 n,.slice A1 tl.length c1,.slice A2 ol.length c2,.slice A3 bl.length c3] 67)).alloc (.cells #[.int .u32 0,.int .u32 0,.int .u32 0,.int .u32 0,.int .u32 0] 81)=w2 at HB BF BR BC ⊢;have HGR:=Aside0.mk (show w.heap.size≤w.heap.size+1 by omega)
 generalize w.heap.size+1=gr at BR HGR ⊢;have HGF:=Aside0.mk (show w.heap.size≤w.heap.size from Nat.le_refl _)
 generalize hgf:w.heap.size=gf at BF HGF ⊢;clear hgf;have k0:w2.cell? ⟨gc,0,none⟩=some (.int .i64 kind):=(blk_cell BC.out 0).trans rfl;have k1:w2.cell? ⟨gc,1,none⟩=some (.string path):=(blk_cell BC.out 1).trans rfl;have k2:w2.cell? ⟨gc,2,none⟩=some (.string other):=(blk_cell BC.out 2).trans rfl;have f0:w2.cell? ⟨gf,0,none⟩=some (.int .u32 n):=(blk_cell BF.out 0).trans rfl;have f1:w2.cell? ⟨gf,1,none⟩=some (.slice A1 tl.length c1):=(blk_cell BF.out 1).trans rfl;have f2:w2.cell? ⟨gf,2,none⟩=some (.slice A2 ol.length c2):=(blk_cell BF.out 2).trans rfl;have f3:w2.cell? ⟨gf,3,none⟩=some (.slice A3 bl.length c3):=(blk_cell BF.out 3).trans rfl;have hkk:kind=1∨kind=6∨kind=7∨kind=8∨kind=9∨kind=10∨kind=11:=by
  have:=HK.out;unfold named1 at this;simp only [Bool.or_eq_true,beq_iff_eq] at this;omega
 by_cases hp:64<path.size
 ·have hr:=HRES.out;rw [if_pos (Or.inl hp)] at hr;subst hr;clear HRES;rcases hkk with rfl|rfl|rfl|rfl|rfl|rfl|rfl
  all_goals
   go_wp2_with (refine wpList_store_row rfl 81 (.tmp 6) (.tmp 44) rfl gr #[.int .u32 0,.int .u32 0,.int .u32 0,.int .u32 0,.int .u32 0] rfl rfl 81 _ BR.out hi81.out rfl ?kone ?_;(case kone=>simp [Value.oneCell']))
   refine bodyPost_ret (results_ctt rfl _ _ gr 81 #[.int .u32 0,.int .u32 0,.int .u32 0,.int .u32 0,.int .u32 0] (0,0) (.struct fs) rfl ?k1 hu81.out rfl hi81.out) rfl ⟨rfl,?kb⟩
   case k1=>exact setRow_heap _ _ _ _ _ _ BR.out
   case kb=>exact below_setRow HB.out HGR.out _
 ·have hp' : ¬ (64<path.size):=hp;have hv:res=if (kind=9∧64<other.size) then (zO,9,true) else (zO,16,kind == 1&&decide (fr<0)):=by
   have hr:=HRES.out;by_cases h9:kind=9∧64<other.size
   ·rw [if_pos (Or.inr h9)] at hr;rw [if_pos h9];exact hr
   ·rw [if_neg (fun h=>h.elim hp' h9)] at hr;rw [if_neg h9];exact hr
  have HV0:=Aside0.mk hv;clear HRES hv;rcases hkk with rfl|rfl|rfl|rfl|rfl|rfl|rfl
  case inr.inr.inr.inr.inl =>
   by_cases ho:64<other.size
   ·have hv:=HV0.out;rw [if_pos ⟨rfl,ho⟩] at hv;subst hv;clear HV0;go_wp2_with (refine wpList_store_row rfl 81 (.tmp 6) (.tmp 44) rfl gr #[.int .u32 0,.int .u32 0,.int .u32 0,.int .u32 0,.int .u32 0] rfl rfl 81 _ BR.out hi81.out rfl ?kone ?_;(case kone=>simp [Value.oneCell']))
    refine bodyPost_ret (results_ctt rfl _ _ gr 81 #[.int .u32 0,.int .u32 0,.int .u32 0,.int .u32 0,.int .u32 0] (0,0) (.struct fs) rfl ?k1 hu81.out rfl hi81.out) rfl ⟨?ke,?kb⟩
    case ke=>rfl
    case k1=>exact setRow_heap _ _ _ _ _ _ BR.out
    case kb=>exact below_setRow HB.out HGR.out _
   ·have hv:=HV0.out;rw [if_neg (fun h=>ho h.2)] at hv;subst hv;clear HV0;go_wp2_with (refine wpList_store_row rfl 81 (.tmp 6) (.tmp 45) rfl gr #[.int .u32 0,.int .u32 0,.int .u32 0,.int .u32 0,.int .u32 0] rfl rfl 81 _ BR.out hi81.out rfl ?kone ?_;(case kone=>simp [Value.oneCell']))
    refine bodyPost_ret (results_ctt rfl _ _ gr 81 #[.int .u32 0,.int .u32 0,.int .u32 0,.int .u32 0,.int .u32 0] (0,0) (.struct fs) rfl ?k1 hu81.out rfl hi81.out) rfl ⟨?ke,?kb⟩
    case ke=>rfl
    case k1=>exact setRow_heap _ _ _ _ _ _ BR.out
    case kb=>exact below_setRow HB.out HGR.out _
  case inl =>
   have hv:=HV0.out;rw [if_neg (fun h=>absurd h.1 (by decide)),show ((1:Int) == 1)=true from rfl,Bool.true_and] at hv
   clear HV0;subst hv;go_wp2_with (first|(go_at_call 162;refine (flat_free.calls 21 n A1 c1 tl A2 c2 ol A3 c3 bl user fr _ (Kd.C_below HRT.out HB.out) HCT.out (Kd.C_below HRO.out HB.out) HCO.out (Kd.C_below HRB.out HB.out) HCB.out HFR.out).mono ?_;rintro e w3 ⟨rfl,hb3⟩;have HB3:=Aside0.mk (below_step HB.out hb3);have BR3:=Aside0.mk (blk_below BR.out hb3);clear hb3)|(refine wpList_store_row rfl 81 (.tmp 6) (.tmp 45) rfl gr #[.int .u32 0,.int .u32 0,.int .u32 0,.int .u32 0,.int .u32 0] rfl rfl 81 _ BR3.out hi81.out rfl ?kone ?_;(case kone=>simp [Value.oneCell'])))
   refine bodyPost_ret (results_ctt rfl _ _ gr 81 #[.int .u32 0,.int .u32 0,.int .u32 0,.int .u32 0,.int .u32 0] (0,0) (.struct fs) rfl ?k1 hu81.out rfl hi81.out) rfl ⟨?ke,?kb⟩
   case ke=>rfl
   case k1=>exact setRow_heap _ _ _ _ _ _ BR3.out
   case kb=>exact below_setRow HB3.out HGR.out _
  all_goals
   have hv:=HV0.out;rw [if_neg (fun h=>absurd h.1 (by decide))] at hv
   subst hv;clear HV0;go_wp2_with (refine wpList_store_row rfl 81 (.tmp 6) (.tmp 45) rfl gr #[.int .u32 0,.int .u32 0,.int .u32 0,.int .u32 0,.int .u32 0] rfl rfl 81 _ BR.out hi81.out rfl ?kone ?_;(case kone=>simp [Value.oneCell']))
   refine bodyPost_ret (results_ctt rfl _ _ gr 81 #[.int .u32 0,.int .u32 0,.int .u32 0,.int .u32 0,.int .u32 0] (0,0) (.struct fs) rfl ?k1 hu81.out rfl hi81.out) rfl ⟨?ke,?kb⟩
   case ke=>rfl
   case k1=>exact setRow_heap _ _ _ _ _ _ BR.out
   case kb=>exact below_setRow HB.out HGR.out _
end Go.Proofs.YtikjfekagdcjmaaGreatDoor.Q
