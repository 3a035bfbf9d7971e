/- Contracts and plain theory behind FlatRights. -/
import Derived.Test.YtikjfekagdcjmaaGreatDoorCFlatRights2
import Derived.Test.YtikjfekagdcjmaaGreatDoorCFlatRights19
import Derived.Test.YtikjfekagdcjmaaGreatDoorCFlatRights23
set_option linter.unusedVariables false
set_option linter.unusedSimpArgs false
set_option maxHeartbeats 16000000
set_option maxRecDepth 100000
namespace Go.Proofs.YtikjfekagdcjmaaGreatDoor.Q
open Go.RowKit Go.Proofs.YtikjfekagdcjmaaGreatDoorW.PrintWords Go.Proofs.YtikjfekagdcjmaaGreatDoorW.PrintLast Go.Proofs.YtikjfekagdcjmaaGreatDoorW.PrintMore
theorem checkF4 (ol:List O.T) (user:Int) (path other:ByteArray) (fd off len:Int) (data:ByteArray):checkF ol user 4 path other fd off len data =
 if fd<0∨4≤fd then (zO,14,true)
 else if (findO ol user fd).2=false then ((findO ol user fd).1,14,true)
 else if Go.bits .and .u32 (findO ol user fd).1.f3 2=0 then ((findO ol user fd).1,22,true)
 else if off<0 then ((findO ol user fd).1,1,true)
 else if 64<(data.size:Int)∨1024<off∨1024<off+(data.size:Int) then ((findO ol user fd).1,15,true)
 else ((findO ol user fd).1,0,(data.size:Int) == 0):=by
 unfold checkF lenF;rw [if_neg (show ¬ (named1 4=true) by decide)]
 simp [show ¬ ((data.size:Int)<0) by omega]
theorem check_fd4 (n:Int) (A1:Option Addr) (c1:Nat) (tl:List SI) (A2:Option Addr) (c2:Nat) (ol:List O.T) (A3:Option Addr) (c3:Nat) (bl:List B.T) (user:Int) (path other:ByteArray) (acc deny:Int) (cr:Bool) (fd off len:Int) (data:ByteArray) (gc:Nat) (w:World)
  (base:Nat) (hrO:Kd.R k81 81 w base (fun _=>True) (.slice A2 ol.length c2) ol) (hl:ol.length≤12)
  (hb:w.heap[gc]?=some (.cells #[.int .i64 4,.string path,.string other,.int .u32 acc,.int .u32 deny,.bool cr,.int .i64 fd,.int .i64 off,.int .i64 len,.string data] 69 (0,0))) :
  Calls Tryz.prog 97 #[.agg #[.int .u32 n,.slice A1 tl.length c1,.slice A2 ol.length c2,.slice A3 bl.length c3],.int .u32 user,.pointer (some ⟨gc,0,none⟩)] w fun e w'=>e=.returned (.tuple #[.agg (O.v (checkF ol user 4 path other fd off len data).1),.int .i64 (checkF ol user 4 path other fd off len data).2.1,.bool (checkF ol user 4 path other fd off len data).2.2])∧w'.heap[gc]?=some (.cells #[.int .i64 4,.string path,.string other,.int .u32 acc,.int .u32 deny,.bool cr,.int .i64 fd,.int .i64 off,.int .i64 (data.size:Int),.string data] 69 (0,0))∧Fr w.heap.size gc w w':=by
 have HFR:=Aside0.mk (Fr.of_below (base:=w.heap.size) (g:=gc) (below_alloc (below_alloc (Below.refl w.heap.size w) (.cells #[.int .u32 n,.slice A1 tl.length c1,.slice A2 ol.length c2,.slice A3 bl.length c3] 67)) (.cells #[.int .u32 0,.int .u32 0,.int .u32 0,.int .u32 0,.int .u32 0] 81)));have BF:=Aside0.mk (blk_alloc (heap_alloc_new w (.cells #[.int .u32 n,.slice A1 tl.length c1,.slice A2 ol.length c2,.slice A3 bl.length c3] 67)) (.cells #[.int .u32 0,.int .u32 0,.int .u32 0,.int .u32 0,.int .u32 0] 81));have BR:=Aside0.mk (heap_alloc_new (w.alloc (.cells #[.int .u32 n,.slice A1 tl.length c1,.slice A2 ol.length c2,.slice A3 bl.length c3] 67)) (.cells #[.int .u32 0,.int .u32 0,.int .u32 0,.int .u32 0,.int .u32 0] 81));have BC:=Aside0.mk (blk_alloc (blk_alloc hb (.cells #[.int .u32 n,.slice A1 tl.length c1,.slice A2 ol.length c2,.slice A3 bl.length c3] 67)) (.cells #[.int .u32 0,.int .u32 0,.int .u32 0,.int .u32 0,.int .u32 0] 81));have hs:(w.alloc (.cells #[.int .u32 n,.slice A1 tl.length c1,.slice A2 ol.length c2,.slice A3 bl.length c3] 67)).heap.size=w.heap.size+1:=by simp
 rw [hs] at BR;have HRO:=Aside0.mk (Kd.R_alloc (Kd.R_alloc hrO (.cells #[.int .u32 n,.slice A1 tl.length c1,.slice A2 ol.length c2,.slice A3 bl.length c3] 67)) (.cells #[.int .u32 0,.int .u32 0,.int .u32 0,.int .u32 0,.int .u32 0] 81));have HCO:=Aside0.mk (Kd.R_reads' hrO).2.1;have HGC:=Aside0.mk (blk_lt hb);obtain ⟨fs,hu81'⟩ : ∃ fs,Tryz.prog.underlying 81=some (.struct fs):=⟨_,rfl⟩;have hu81:=Aside0.mk hu81';have hi81:Aside0 ((Tryz.prog.info? 81).map (·.size)=some 5):=⟨by kernel_rfl⟩
 have hz81 : ∀ w,(zeroValue 81).run Tryz.prog w=.ok (.agg #[.int .u32 0,.int .u32 0,.int .u32 0,.int .u32 0,.int .u32 0]) w:=fun w=>by kernel_rfl
 obtain ⟨res,hres⟩ : ∃ r,r=checkF ol user 4 path other fd off len data:=⟨_,rfl⟩;rw [← hres];rw [checkF4] at hres;have HRES:=Aside0.mk hres;have HFF:=Aside0.mk (find_f ol user fd 41 (by omega) (by omega))
 generalize findO ol user fd=f at HFF HRES;obtain ⟨x,ok⟩:=f;dsimp only at HFF HRES
 clear hrO hb hs hu81' hres;go_enter Tryz.func97,Tryz.ntmps97;go_upto_region 1 with (fail)
 generalize (w.alloc (.cells #[.int .u32 n,.slice A1 tl.length c1,.slice A2 ol.length c2,.slice A3 bl.length c3] 67)).alloc (.cells #[.int .u32 0,.int .u32 0,.int .u32 0,.int .u32 0,.int .u32 0] 81)=w2 at HFR BF BR BC HRO ⊢;have HGR:=Aside0.mk (show w.heap.size≤w.heap.size+1 by omega)
 have HCR:=Aside0.mk (show gc≠w.heap.size+1 by have:=HGC.out;omega)
 generalize w.heap.size+1=gr at BR HGR HCR ⊢;have HCF:=Aside0.mk (show gc≠w.heap.size by have:=HGC.out;omega)
 have HGFL:=Aside0.mk (show w.heap.size≤gr from HGR.out)
 generalize hgf:w.heap.size=gf at BF HCF HGFL ⊢;clear hgf;have k0:w2.cell? ⟨gc,0,none⟩=some (.int .i64 4):=(blk_cell BC.out 0).trans rfl;have k6:w2.cell? ⟨gc,6,none⟩=some (.int .i64 fd):=(blk_cell BC.out 6).trans rfl;have k9:w2.cell? ⟨gc,9,none⟩=some (.string data):=(blk_cell BC.out 9).trans rfl;have k8:w2.cell? ⟨gc,8,none⟩=some (.int .i64 len):=(blk_cell BC.out 8).trans rfl;have z8:=blk_frozen BC.out 8;go_upto_region 14 with (fail)
 have BC3:=Aside0.mk (setCell_blk BC.out 8 (.int .i64 (data.size:Int)));have BF3:=Aside0.mk ((Below.heap_setCell w2 ⟨gc,8,none⟩ (.int .i64 (data.size:Int)) gf (Ne.symm HCF.out)).trans BF.out);have BR3:=Aside0.mk ((Below.heap_setCell w2 ⟨gc,8,none⟩ (.int .i64 (data.size:Int)) gr (Ne.symm HCR.out)).trans BR.out);have HFR3:=Aside0.mk (HFR.out.setG 8 (.int .i64 (data.size:Int)));have HRO3:=Aside0.mk (R_set HRO.out BC.out (by decide) 8 (.int .i64 (data.size:Int)))
 clear HFR BF BR BC HRO k0 k6 k8 k9 z8;have BC:=BC3;have BF:=BF3;have BR:=BR3;have HFR:=HFR3;have HRO:=HRO3;clear BC3 BF3 BR3 HFR3 HRO3;generalize w2.setCell ⟨gc,8,none⟩ (.int .i64 (data.size:Int))=w3 at HFR BF BR BC HRO ⊢;have k6:w3.cell? ⟨gc,6,none⟩=some (.int .i64 fd):=(blk_cell BC.out 6).trans rfl;by_cases h1:fd<0
 ·have hr:=HRES.out;rw [if_pos (Or.inl h1)] at hr;subst hr;clear HRES;go_wp2_with (refine wpList_store_row rfl 81 (.tmp 6) (.tmp 79) rfl gr #[.int .u32 0,.int .u32 0,.int .u32 0,.int .u32 0,.int .u32 0] rfl rfl 81 _ BR.out hi81.out rfl ?kone ?_;(case kone=>simp [Value.oneCell']))
  refine bodyPost_ret (results_ctt rfl _ _ gr 81 #[.int .u32 0,.int .u32 0,.int .u32 0,.int .u32 0,.int .u32 0] (0,0) (.struct fs) rfl ?k1 hu81.out rfl hi81.out) rfl ⟨?ke,?kc,?kb⟩
  case ke=>rfl
  case k1=>exact setRow_heap _ _ _ _ _ _ BR.out
  case kc=>exact (setRow_other _ _ _ _ HCR.out).trans BC.out
  case kb=>exact Fr.setFresh HFR.out HGR.out _
 by_cases h2:4≤fd
 ·have hr:=HRES.out;rw [if_pos (Or.inr h2)] at hr;subst hr;clear HRES;go_wp2_with (refine wpList_store_row rfl 81 (.tmp 6) (.tmp 79) rfl gr #[.int .u32 0,.int .u32 0,.int .u32 0,.int .u32 0,.int .u32 0] rfl rfl 81 _ BR.out hi81.out rfl ?kone ?_;(case kone=>simp [Value.oneCell']))
  refine bodyPost_ret (results_ctt rfl _ _ gr 81 #[.int .u32 0,.int .u32 0,.int .u32 0,.int .u32 0,.int .u32 0] (0,0) (.struct fs) rfl ?k1 hu81.out rfl hi81.out) rfl ⟨?ke,?kc,?kb⟩
  case ke=>rfl
  case k1=>exact setRow_heap _ _ _ _ _ _ BR.out
  case kc=>exact (setRow_other _ _ _ _ HCR.out).trans BC.out
  case kb=>exact Fr.setFresh HFR.out HGR.out _
 have hr:=HRES.out;rw [if_neg (fun h=>h.elim h1 h2)] at hr;have HRES1:=Aside0.mk hr;clear HRES hr;go_upto_region 16 with (fail)
 have hwr:fd % 4294967296=fd:=by omega
 have HFRd:=Aside0.mk HFR.out.drew;have BCd:=Aside0.mk (blk_drew BC.out);have BRd:=Aside0.mk (blk_drew BR.out);have BFd:=Aside0.mk (blk_drew BF.out);have HROd:=Aside0.mk (Kd.R_drew HRO.out);clear HFR BC BR BF HRO k6;refine rs 15 (fun w'=>w'.cell? ⟨gf,2,none⟩=some (.slice A2 ol.length c2)∧w'.cell? ⟨gc,6,none⟩=some (.int .i64 fd)) [] ⟨(blk_cell BFd.out 2).trans rfl,(blk_cell BCd.out 6).trans rfl⟩ (fun hHeld=>?_);generalize w3.drew=wd at HFRd BCd BRd BFd HROd hHeld ⊢;refine rp 0 (some 81) ?_;refine rp 2 (some 83) ?_;refine rp 3 (some 84) ?_;refine rp 4 (some 85) ?_;refine rp 5 (some 86) ?_;refine rt 1 (some 82) ?_;refine rt 6 (some 87) ?_;refine pure_ (i:=7) (N:=some 88) (v:=?_) (a':=?_) (fl 15 255) rfl rfl (by kernel_rfl) (fun _ _ _ h=>h) (Or.inl ⟨by rfl,?_⟩) ?_ ?_
 rotate_left
 ·intro w';go_simp;rw [IntKind.wrap_u32,hwr];try with_reducible rfl
 rotate_left
 ·simp only [Act.put,List.setIfInBounds_toArray,List.set_cons_zero,List.set_cons_succ,i64_w,i32_w];rfl
 refine two_ (i:=8) (j:=12) (Ni:=some 89) (Nj:=some 9) (fl 15 511) (fl 15 4351) rfl rfl rfl rfl (by kernel_rfl) (by decide) (by decide) (fun K hK=>?ordA) (fun K hK=>?ordB)
 case' ordA =>
  refine Q.cr Tryz.func124 #[.slice A2 ol.length c2,.int .u32 user,.int .u32 fd] ?_;refine (share_Find.calls 41 A2 c2 ol user fd _ _ _ _ _ _ wd (Kd.R_reads' HROd.out).2.2 HCO.out HFF.out).mono ?_;rintro e wa ⟨rfl,hb⟩;refine ⟨_,rfl,?_⟩;have HFRe:=Aside0.mk (HFRd.out.step hb);have BCe:=Aside0.mk (blk_below BCd.out hb);have BRe:=Aside0.mk (blk_below BRd.out hb);have BFe:=Aside0.mk (blk_below BFd.out hb);have HROe:=Aside0.mk (Kd.R_below HROd.out hb);clear hb;refine hK.out _ _ ⟨(blk_cell BFe.out 2).trans rfl,(blk_cell BCe.out 6).trans rfl⟩ (fun hHeld=>?_);clear hK K;refine rn ?_;clear HFRd BCd BRd BFd HROd;refine rp 9 (some 80) ?_;refine rp 10 (some 90) ?_;refine rp 11 (some 91) ?_;refine ro 12 (some 9) (fun K hK=>?_);refine value_ (v:=.pointer (some ⟨wa.heap.size,0,none⟩)) (w1:=wa.alloc (.cells #[.int .u32 0,.int .u32 0,.int .u32 0,.int .u32 0,.int .u32 0] 81)) (by rfl) rfl (by first|(go_simp;done)|(go_simp;rfl)) ?_
  have HFRf:=Aside0.mk (HFRe.out.alloc (.cells #[.int .u32 0,.int .u32 0,.int .u32 0,.int .u32 0,.int .u32 0] 81));have BCf:=Aside0.mk (blk_alloc BCe.out (.cells #[.int .u32 0,.int .u32 0,.int .u32 0,.int .u32 0,.int .u32 0] 81));have BRf:=Aside0.mk (blk_alloc BRe.out (.cells #[.int .u32 0,.int .u32 0,.int .u32 0,.int .u32 0,.int .u32 0] 81));have BFf:=Aside0.mk (blk_alloc BFe.out (.cells #[.int .u32 0,.int .u32 0,.int .u32 0,.int .u32 0,.int .u32 0] 81));have HROf:=Aside0.mk (Kd.R_alloc HROe.out (.cells #[.int .u32 0,.int .u32 0,.int .u32 0,.int .u32 0,.int .u32 0] 81));have BX:=Aside0.mk (heap_alloc_new wa (.cells #[.int .u32 0,.int .u32 0,.int .u32 0,.int .u32 0,.int .u32 0] 81));have HGO:=Aside0.mk (blk_lt BRe.out);refine hK.out _ _ ⟨(blk_cell BFf.out 2).trans rfl,(blk_cell BCf.out 6).trans rfl⟩ (fun hHeld=>?_);clear hK K;refine rn ?_;clear HFRe BCe BRe BFe HROe;generalize wa.alloc (.cells #[.int .u32 0,.int .u32 0,.int .u32 0,.int .u32 0,.int .u32 0] 81)=wf at HFRf BCf BRf BFf HROf BX hHeld ⊢;generalize wa.heap.size=go at BX HGO ⊢
 case' ordB =>
  refine value_ (v:=.pointer (some ⟨wd.heap.size,0,none⟩)) (w1:=wd.alloc (.cells #[.int .u32 0,.int .u32 0,.int .u32 0,.int .u32 0,.int .u32 0] 81)) (by rfl) rfl (by first|(go_simp;done)|(go_simp;rfl)) ?_
  have HFRe:=Aside0.mk (HFRd.out.alloc (.cells #[.int .u32 0,.int .u32 0,.int .u32 0,.int .u32 0,.int .u32 0] 81));have BCe:=Aside0.mk (blk_alloc BCd.out (.cells #[.int .u32 0,.int .u32 0,.int .u32 0,.int .u32 0,.int .u32 0] 81));have BRe:=Aside0.mk (blk_alloc BRd.out (.cells #[.int .u32 0,.int .u32 0,.int .u32 0,.int .u32 0,.int .u32 0] 81));have BFe:=Aside0.mk (blk_alloc BFd.out (.cells #[.int .u32 0,.int .u32 0,.int .u32 0,.int .u32 0,.int .u32 0] 81));have HROe:=Aside0.mk (Kd.R_alloc HROd.out (.cells #[.int .u32 0,.int .u32 0,.int .u32 0,.int .u32 0,.int .u32 0] 81));have BX0:=Aside0.mk (heap_alloc_new wd (.cells #[.int .u32 0,.int .u32 0,.int .u32 0,.int .u32 0,.int .u32 0] 81));have HGO:=Aside0.mk (blk_lt BRd.out);refine hK.out _ _ ⟨(blk_cell BFe.out 2).trans rfl,(blk_cell BCe.out 6).trans rfl⟩ (fun hHeld=>?_);clear hK K;refine rn ?_;clear HFRd BCd BRd BFd HROd;generalize wd.alloc (.cells #[.int .u32 0,.int .u32 0,.int .u32 0,.int .u32 0,.int .u32 0] 81)=wa at HFRe BCe BRe BFe HROe BX0 hHeld ⊢;generalize wd.heap.size=go at BX0 HGO ⊢;refine ro 8 (some 89) (fun K hK=>?_);refine Q.cr Tryz.func124 #[.slice A2 ol.length c2,.int .u32 user,.int .u32 fd] ?_;refine (share_Find.calls 41 A2 c2 ol user fd _ _ _ _ _ _ wa (Kd.R_reads' HROe.out).2.2 HCO.out HFF.out).mono ?_;rintro e wf ⟨rfl,hb⟩;refine ⟨_,rfl,?_⟩;have HFRf:=Aside0.mk (HFRe.out.step hb);have BCf:=Aside0.mk (blk_below BCe.out hb);have BRf:=Aside0.mk (blk_below BRe.out hb);have BFf:=Aside0.mk (blk_below BFe.out hb);have HROf:=Aside0.mk (Kd.R_below HROe.out hb);have BX:=Aside0.mk (blk_below BX0.out hb);clear hb BX0;refine hK.out _ _ ⟨(blk_cell BFf.out 2).trans rfl,(blk_cell BCf.out 6).trans rfl⟩ (fun hHeld=>?_);clear hK K;refine rn ?_;clear HFRe BCe BRe BFe HROe;refine rp 9 (some 80) ?_;refine rp 10 (some 90) ?_;refine rp 11 (some 91) ?_
 all_goals
  have HGF:=Aside0.mk (show gf<go by have:=HGO.out;have:=HGFL.out;omega)
  refine ro 13 none (fun K hK=>?_);refine skip_ (by rfl) rfl (run_store_full wf 81 (.tmp 9) (.tmp 90) rfl go #[.int .u32 x.f0,.int .u32 x.f1,.int .u32 x.f2,.int .u32 x.f3,.int .u32 x.f4] #[.int .u32 0,.int .u32 0,.int .u32 0,.int .u32 0,.int .u32 0] 81 rfl rfl BX.out rfl hi81.out (by simp [Value.oneCell'])) ?_
  refine hK.out _ _ ⟨(blk_cell ((setRow_other wf go gf _ (by have:=blk_lt BFf.out;have:=HGO.out;have:=HGF.out;omega)).trans BFf.out) 2).trans rfl,(blk_cell ((setRow_other wf go gc _ (by have:=HGC.out;have:=HGO.out;have:=HGR.out;omega)).trans BCf.out) 6).trans rfl⟩ (fun hHeld=>?_)
  clear hK K;refine rp 14 (some 10) ?_;refine done_ (by kernel_rfl) ?_
  skip;have BXg:=Aside0.mk (setRow_heap wf go _ #[.int .u32 x.f0,.int .u32 x.f1,.int .u32 x.f2,.int .u32 x.f3,.int .u32 x.f4] _ _ BX.out);have BCg:=Aside0.mk ((setRow_other wf go gc #[.int .u32 x.f0,.int .u32 x.f1,.int .u32 x.f2,.int .u32 x.f3,.int .u32 x.f4] (by have:=HGC.out;have:=HGO.out;have:=HGR.out;omega)).trans BCf.out)
  have BRg:=Aside0.mk ((setRow_other wf go gr #[.int .u32 x.f0,.int .u32 x.f1,.int .u32 x.f2,.int .u32 x.f3,.int .u32 x.f4] (by have:=HGO.out;omega)).trans BRf.out)
  have HFRg:=Aside0.mk (Fr.setFresh HFRf.out (show w.heap.size≤go by have:=HGO.out;have:=HGR.out;omega) #[.int .u32 x.f0,.int .u32 x.f1,.int .u32 x.f2,.int .u32 x.f3,.int .u32 x.f4])
  clear HFRf BCf BRf BFf HROf BX hHeld;generalize wf.setRow go #[.int .u32 x.f0,.int .u32 x.f1,.int .u32 x.f2,.int .u32 x.f3,.int .u32 x.f4]=wg at BXg BCg BRg HFRg ⊢;have o0:wg.cell? ⟨go,0,none⟩=some (.int .u32 x.f0):=(blk_cell BXg.out 0).trans rfl;have o1:wg.cell? ⟨go,1,none⟩=some (.int .u32 x.f1):=(blk_cell BXg.out 1).trans rfl;have o2:wg.cell? ⟨go,2,none⟩=some (.int .u32 x.f2):=(blk_cell BXg.out 2).trans rfl;have o3:wg.cell? ⟨go,3,none⟩=some (.int .u32 x.f3):=(blk_cell BXg.out 3).trans rfl;have o4:wg.cell? ⟨go,4,none⟩=some (.int .u32 x.f4):=(blk_cell BXg.out 4).trans rfl;have k0:wg.cell? ⟨gc,0,none⟩=some (.int .i64 4):=(blk_cell BCg.out 0).trans rfl;have k7:wg.cell? ⟨gc,7,none⟩=some (.int .i64 off):=(blk_cell BCg.out 7).trans rfl;have k8:wg.cell? ⟨gc,8,none⟩=some (.int .i64 (data.size:Int)):=(blk_cell BCg.out 8).trans rfl;cases ok with
  | false =>
   have hr:=HRES1.out
   (first|rw [if_pos rfl] at hr|rw [if_pos True.intro] at hr)
   subst hr;clear HRES1;go_wp2_with (refine wpList_store_row rfl 81 (.tmp 6) (.tmp 95) rfl gr #[.int .u32 x.f0,.int .u32 x.f1,.int .u32 x.f2,.int .u32 x.f3,.int .u32 x.f4] rfl rfl 81 _ BRg.out hi81.out rfl ?kone ?_;(case kone=>simp [Value.oneCell']))
   refine bodyPost_ret (results_ctt rfl _ _ gr 81 #[.int .u32 x.f0,.int .u32 x.f1,.int .u32 x.f2,.int .u32 x.f3,.int .u32 x.f4] (0,0) (.struct fs) rfl ?k1 hu81.out rfl hi81.out) rfl ⟨?ke,?kc,?kb⟩
   case ke=>rfl
   case k1=>exact setRow_heap _ _ _ _ _ _ BRg.out
   case kc=>exact (setRow_other _ _ _ _ HCR.out).trans BCg.out
   case kb=>exact Fr.setFresh HFRg.out HGR.out _
  | true =>
   have hr:=HRES1.out;rw [if_neg (by decide)] at hr
   have HRES2:=Aside0.mk hr;clear HRES1 hr;have HRES3:=Aside0.mk HRES2.out;clear HRES2;by_cases hm:Go.bits .and .u32 x.f3 2=0
   ·skip;have hr:=HRES3.out
    (first|rw [if_pos hm] at hr|rw [if_pos True.intro] at hr)
    subst hr;clear HRES3;go_wp2_with (refine wpList_store_row rfl 81 (.tmp 6) (.tmp 126) rfl gr #[.int .u32 x.f0,.int .u32 x.f1,.int .u32 x.f2,.int .u32 x.f3,.int .u32 x.f4] rfl rfl 81 _ BRg.out hi81.out rfl ?kone ?_;(case kone=>simp [Value.oneCell']))
    refine bodyPost_ret (results_ctt rfl _ _ gr 81 #[.int .u32 x.f0,.int .u32 x.f1,.int .u32 x.f2,.int .u32 x.f3,.int .u32 x.f4] (0,0) (.struct fs) rfl ?k1 hu81.out rfl hi81.out) rfl ⟨?ke,?kc,?kb⟩
    case ke=>rfl
    case k1=>exact setRow_heap _ _ _ _ _ _ BRg.out
    case kc=>exact (setRow_other _ _ _ _ HCR.out).trans BCg.out
    case kb=>exact Fr.setFresh HFRg.out HGR.out _
   have hr:=HRES3.out;rw [if_neg hm] at hr;have HRES4:=Aside0.mk hr;clear HRES3 hr;have em:(Go.bits .and .u32 x.f3 2 == 0)=false:=beq_eq_false_iff_ne.2 hm;have hn : ¬ (data.size:Int)<0:=by omega
   by_cases hf:off<0
   ·skip;have hr:=HRES4.out
    (first|rw [if_pos hf] at hr|rw [if_pos True.intro] at hr)
    subst hr;clear HRES4;go_wp2_with (refine wpList_store_row rfl 81 (.tmp 6) (.tmp 147) rfl gr #[.int .u32 x.f0,.int .u32 x.f1,.int .u32 x.f2,.int .u32 x.f3,.int .u32 x.f4] rfl rfl 81 _ BRg.out hi81.out rfl ?kone ?_;(case kone=>simp [Value.oneCell']))
    refine bodyPost_ret (results_ctt rfl _ _ gr 81 #[.int .u32 x.f0,.int .u32 x.f1,.int .u32 x.f2,.int .u32 x.f3,.int .u32 x.f4] (0,0) (.struct fs) rfl ?k1 hu81.out rfl hi81.out) rfl ⟨?ke,?kc,?kb⟩
    case ke=>rfl
    case k1=>exact setRow_heap _ _ _ _ _ _ BRg.out
    case kc=>exact (setRow_other _ _ _ _ HCR.out).trans BCg.out
    case kb=>exact Fr.setFresh HFRg.out HGR.out _
   have hr:=HRES4.out;rw [if_neg hf] at hr;have HRES5:=Aside0.mk hr;clear HRES4 hr;have HRES6:=Aside0.mk HRES5.out;clear HRES5;by_cases ha:64<(data.size:Int)
   ·skip;have hr:=HRES6.out
    (first|rw [if_pos (Or.inl ha)] at hr|rw [if_pos True.intro] at hr)
    subst hr;clear HRES6;go_upto_region 28 with (fail)
    have BXh:=Aside0.mk (blk_drew BXg.out);have BCh:=Aside0.mk (blk_drew BCg.out);have BRh:=Aside0.mk (blk_drew BRg.out);have HFRh:=Aside0.mk HFRg.out.drew;refine rs 25 (fun w'=>w'.cell? ⟨gc,7,none⟩=some (.int .i64 off)∧w'.cell? ⟨gc,8,none⟩=some (.int .i64 (data.size:Int))) [] ⟨k7,k8⟩ (fun hHeld=>?_);generalize wg.drew=wj at BXh BCh BRh HFRh hHeld ⊢;clear o0 o1 o2 o3 o4 k0 k7 k8 BXg BCg BRg HFRg;refine rp 0 (some 161) ?_;refine rp 1 (some 162) ?_;refine rp 2 (some 163) ?_;refine rt 3 (some 164) ?_;refine pure_ (i:=4) (N:=some 165) (v:=?_) (a':=?_) (fl 25 31) rfl rfl (by kernel_rfl) (fun _ _ _ h=>h) (Or.inl ⟨by rfl,?_⟩) ?_ ?_
    rotate_left
    ·intro w';go_simp;try rw [decide_eq_true ha]
     try with_reducible rfl
    rotate_left
    ·simp only [Act.put,List.setIfInBounds_toArray,List.set_cons_zero,List.set_cons_succ,i64_w,i32_w];rfl
    refine rp 5 (some 166) ?_;refine rx 6 (some 167) ?_;refine rx 7 (some 168) ?_;refine rx 8 (some 169) ?_;refine rx 9 (some 170) ?_;refine rx 10 (some 171) ?_;refine rp 11 (some 172) ?_;refine rp 12 (some 173) ?_;refine rx 13 (some 174) ?_;refine rx 14 (some 175) ?_;refine rx 15 (some 176) ?_;refine rx 16 (some 177) ?_;refine rx 17 (some 178) ?_;refine rx 18 (some 179) ?_;refine rx 19 (some 180) ?_;refine rx 20 (some 181) ?_;refine rx 21 (some 182) ?_;refine rx 22 (some 183) ?_;refine rp 23 (some 184) ?_;refine rp 24 (some 160) ?_;refine done_ (by kernel_rfl) ?_
    skip;have o0:wj.cell? ⟨go,0,none⟩=some (.int .u32 x.f0):=(blk_cell BXh.out 0).trans rfl;have o1:wj.cell? ⟨go,1,none⟩=some (.int .u32 x.f1):=(blk_cell BXh.out 1).trans rfl;have o2:wj.cell? ⟨go,2,none⟩=some (.int .u32 x.f2):=(blk_cell BXh.out 2).trans rfl;have o3:wj.cell? ⟨go,3,none⟩=some (.int .u32 x.f3):=(blk_cell BXh.out 3).trans rfl;have o4:wj.cell? ⟨go,4,none⟩=some (.int .u32 x.f4):=(blk_cell BXh.out 4).trans rfl;have k0:wj.cell? ⟨gc,0,none⟩=some (.int .i64 4):=(blk_cell BCh.out 0).trans rfl;have k7:wj.cell? ⟨gc,7,none⟩=some (.int .i64 off):=(blk_cell BCh.out 7).trans rfl;have k8:wj.cell? ⟨gc,8,none⟩=some (.int .i64 (data.size:Int)):=(blk_cell BCh.out 8).trans rfl;go_wp2_with (refine wpList_store_row rfl 81 (.tmp 6) (.tmp 185) rfl gr #[.int .u32 x.f0,.int .u32 x.f1,.int .u32 x.f2,.int .u32 x.f3,.int .u32 x.f4] rfl rfl 81 _ BRh.out hi81.out rfl ?kone ?_;(case kone=>simp [Value.oneCell']))
    refine bodyPost_ret (results_ctt rfl _ _ gr 81 #[.int .u32 x.f0,.int .u32 x.f1,.int .u32 x.f2,.int .u32 x.f3,.int .u32 x.f4] (0,0) (.struct fs) rfl ?k1 hu81.out rfl hi81.out) rfl ⟨?ke,?kc,?kb⟩
    case ke=>rfl
    case k1=>exact setRow_heap _ _ _ _ _ _ BRh.out
    case kc=>exact (setRow_other _ _ _ _ HCR.out).trans BCh.out
    case kb=>exact Fr.setFresh HFRh.out HGR.out _
   by_cases hb:1024<off
   ·skip;have hr:=HRES6.out
    (first|rw [if_pos (Or.inr (Or.inl hb))] at hr|rw [if_pos True.intro] at hr)
    subst hr;clear HRES6;go_upto_region 28 with (fail)
    have BXh:=Aside0.mk (blk_drew BXg.out);have BCh:=Aside0.mk (blk_drew BCg.out);have BRh:=Aside0.mk (blk_drew BRg.out);have HFRh:=Aside0.mk HFRg.out.drew;refine rs 25 (fun w'=>w'.cell? ⟨gc,7,none⟩=some (.int .i64 off)∧w'.cell? ⟨gc,8,none⟩=some (.int .i64 (data.size:Int))) [] ⟨k7,k8⟩ (fun hHeld=>?_);generalize wg.drew=wj at BXh BCh BRh HFRh hHeld ⊢;clear o0 o1 o2 o3 o4 k0 k7 k8 BXg BCg BRg HFRg;refine rp 0 (some 161) ?_;refine rp 1 (some 162) ?_;refine rp 2 (some 163) ?_;refine rt 3 (some 164) ?_;refine pure_ (i:=4) (N:=some 165) (v:=?_) (a':=?_) (fl 25 31) rfl rfl (by kernel_rfl) (fun _ _ _ h=>h) (Or.inl ⟨by rfl,?_⟩) ?_ ?_
    rotate_left
    ·intro w';go_simp;try rw [decide_eq_false ha]
     try with_reducible rfl
    rotate_left
    ·simp only [Act.put,List.setIfInBounds_toArray,List.set_cons_zero,List.set_cons_succ,i64_w,i32_w];rfl
    refine rp 5 (some 166) ?_;refine rp 6 (some 167) ?_;refine rp 7 (some 168) ?_;refine rp 8 (some 169) ?_;refine rt 9 (some 170) ?_;refine pure_ (i:=10) (N:=some 171) (v:=?_) (a':=?_) (fl 25 2047) rfl rfl (by kernel_rfl) (fun _ _ _ h=>h) (Or.inl ⟨by rfl,?_⟩) ?_ ?_
    rotate_left
    ·intro w';go_simp;try rw [decide_eq_true hb]
     try with_reducible rfl
    rotate_left
    ·simp only [Act.put,List.setIfInBounds_toArray,List.set_cons_zero,List.set_cons_succ,i64_w,i32_w];rfl
    refine rp 11 (some 172) ?_;refine rp 12 (some 173) ?_;refine rx 13 (some 174) ?_;refine rx 14 (some 175) ?_;refine rx 15 (some 176) ?_;refine rx 16 (some 177) ?_;refine rx 17 (some 178) ?_;refine rx 18 (some 179) ?_;refine rx 19 (some 180) ?_;refine rx 20 (some 181) ?_;refine rx 21 (some 182) ?_;refine rx 22 (some 183) ?_;refine rp 23 (some 184) ?_;refine rp 24 (some 160) ?_;refine done_ (by kernel_rfl) ?_
    skip;have o0:wj.cell? ⟨go,0,none⟩=some (.int .u32 x.f0):=(blk_cell BXh.out 0).trans rfl;have o1:wj.cell? ⟨go,1,none⟩=some (.int .u32 x.f1):=(blk_cell BXh.out 1).trans rfl;have o2:wj.cell? ⟨go,2,none⟩=some (.int .u32 x.f2):=(blk_cell BXh.out 2).trans rfl;have o3:wj.cell? ⟨go,3,none⟩=some (.int .u32 x.f3):=(blk_cell BXh.out 3).trans rfl;have o4:wj.cell? ⟨go,4,none⟩=some (.int .u32 x.f4):=(blk_cell BXh.out 4).trans rfl;have k0:wj.cell? ⟨gc,0,none⟩=some (.int .i64 4):=(blk_cell BCh.out 0).trans rfl;have k7:wj.cell? ⟨gc,7,none⟩=some (.int .i64 off):=(blk_cell BCh.out 7).trans rfl;have k8:wj.cell? ⟨gc,8,none⟩=some (.int .i64 (data.size:Int)):=(blk_cell BCh.out 8).trans rfl;go_wp2_with (refine wpList_store_row rfl 81 (.tmp 6) (.tmp 185) rfl gr #[.int .u32 x.f0,.int .u32 x.f1,.int .u32 x.f2,.int .u32 x.f3,.int .u32 x.f4] rfl rfl 81 _ BRh.out hi81.out rfl ?kone ?_;(case kone=>simp [Value.oneCell']))
    refine bodyPost_ret (results_ctt rfl _ _ gr 81 #[.int .u32 x.f0,.int .u32 x.f1,.int .u32 x.f2,.int .u32 x.f3,.int .u32 x.f4] (0,0) (.struct fs) rfl ?k1 hu81.out rfl hi81.out) rfl ⟨?ke,?kc,?kb⟩
    case ke=>rfl
    case k1=>exact setRow_heap _ _ _ _ _ _ BRh.out
    case kc=>exact (setRow_other _ _ _ _ HCR.out).trans BCh.out
    case kb=>exact Fr.setFresh HFRh.out HGR.out _
   have hwo:wrap64 (off+(data.size:Int))=off+(data.size:Int):=by unfold wrap64;omega
   by_cases hc:1024<off+(data.size:Int)
   ·skip;have hr:=HRES6.out
    (first|rw [if_pos (Or.inr (Or.inr hc))] at hr|rw [if_pos True.intro] at hr)
    subst hr;clear HRES6;go_upto_region 28 with (fail)
    have BXh:=Aside0.mk (blk_drew BXg.out);have BCh:=Aside0.mk (blk_drew BCg.out);have BRh:=Aside0.mk (blk_drew BRg.out);have HFRh:=Aside0.mk HFRg.out.drew;refine rs 25 (fun w'=>w'.cell? ⟨gc,7,none⟩=some (.int .i64 off)∧w'.cell? ⟨gc,8,none⟩=some (.int .i64 (data.size:Int))) [] ⟨k7,k8⟩ (fun hHeld=>?_);generalize wg.drew=wj at BXh BCh BRh HFRh hHeld ⊢;clear o0 o1 o2 o3 o4 k0 k7 k8 BXg BCg BRg HFRg;refine rp 0 (some 161) ?_;refine rp 1 (some 162) ?_;refine rp 2 (some 163) ?_;refine rt 3 (some 164) ?_;refine pure_ (i:=4) (N:=some 165) (v:=?_) (a':=?_) (fl 25 31) rfl rfl (by kernel_rfl) (fun _ _ _ h=>h) (Or.inl ⟨by rfl,?_⟩) ?_ ?_
    rotate_left
    ·intro w';go_simp;try rw [decide_eq_false ha]
     try with_reducible rfl
    rotate_left
    ·simp only [Act.put,List.setIfInBounds_toArray,List.set_cons_zero,List.set_cons_succ,i64_w,i32_w];rfl
    refine rp 5 (some 166) ?_;refine rp 6 (some 167) ?_;refine rp 7 (some 168) ?_;refine rp 8 (some 169) ?_;refine rt 9 (some 170) ?_;refine pure_ (i:=10) (N:=some 171) (v:=?_) (a':=?_) (fl 25 2047) rfl rfl (by kernel_rfl) (fun _ _ _ h=>h) (Or.inl ⟨by rfl,?_⟩) ?_ ?_
    rotate_left
    ·intro w';go_simp;try rw [decide_eq_false hb]
     try with_reducible rfl
    rotate_left
    ·simp only [Act.put,List.setIfInBounds_toArray,List.set_cons_zero,List.set_cons_succ,i64_w,i32_w];rfl
    refine rp 11 (some 172) ?_;refine rp 12 (some 173) ?_;refine rp 13 (some 174) ?_;refine rp 14 (some 175) ?_;refine rp 15 (some 176) ?_;refine rt 16 (some 177) ?_;refine rp 17 (some 178) ?_;refine rp 18 (some 179) ?_;refine rp 19 (some 180) ?_;refine rt 20 (some 181) ?_;refine pure_ (i:=21) (N:=some 182) (v:=?_) (a':=?_) (fl 25 4194303) rfl rfl (by kernel_rfl) (fun _ _ _ h=>h) (Or.inl ⟨by rfl,?_⟩) ?_ ?_
    rotate_left
    ·intro w';go_simp;rw [i64_w,hwo];try with_reducible rfl
    rotate_left
    ·simp only [Act.put,List.setIfInBounds_toArray,List.set_cons_zero,List.set_cons_succ,i64_w,i32_w];rfl
    refine rp 22 (some 183) ?_;refine rp 23 (some 184) ?_;refine rp 24 (some 160) ?_;refine done_ (by kernel_rfl) ?_
    skip;have o0:wj.cell? ⟨go,0,none⟩=some (.int .u32 x.f0):=(blk_cell BXh.out 0).trans rfl;have o1:wj.cell? ⟨go,1,none⟩=some (.int .u32 x.f1):=(blk_cell BXh.out 1).trans rfl;have o2:wj.cell? ⟨go,2,none⟩=some (.int .u32 x.f2):=(blk_cell BXh.out 2).trans rfl;have o3:wj.cell? ⟨go,3,none⟩=some (.int .u32 x.f3):=(blk_cell BXh.out 3).trans rfl;have o4:wj.cell? ⟨go,4,none⟩=some (.int .u32 x.f4):=(blk_cell BXh.out 4).trans rfl;have k0:wj.cell? ⟨gc,0,none⟩=some (.int .i64 4):=(blk_cell BCh.out 0).trans rfl;have k7:wj.cell? ⟨gc,7,none⟩=some (.int .i64 off):=(blk_cell BCh.out 7).trans rfl;have k8:wj.cell? ⟨gc,8,none⟩=some (.int .i64 (data.size:Int)):=(blk_cell BCh.out 8).trans rfl;go_wp2_with (refine wpList_store_row rfl 81 (.tmp 6) (.tmp 185) rfl gr #[.int .u32 x.f0,.int .u32 x.f1,.int .u32 x.f2,.int .u32 x.f3,.int .u32 x.f4] rfl rfl 81 _ BRh.out hi81.out rfl ?kone ?_;(case kone=>simp [Value.oneCell']))
    refine bodyPost_ret (results_ctt rfl _ _ gr 81 #[.int .u32 x.f0,.int .u32 x.f1,.int .u32 x.f2,.int .u32 x.f3,.int .u32 x.f4] (0,0) (.struct fs) rfl ?k1 hu81.out rfl hi81.out) rfl ⟨?ke,?kc,?kb⟩
    case ke=>rfl
    case k1=>exact setRow_heap _ _ _ _ _ _ BRh.out
    case kc=>exact (setRow_other _ _ _ _ HCR.out).trans BCh.out
    case kb=>exact Fr.setFresh HFRh.out HGR.out _
   ·skip;have hr:=HRES6.out;rw [if_neg (fun h=>h.elim ha (fun h=>h.elim hb hc))] at hr;subst hr;clear HRES6;go_upto_region 28 with (fail)
    have BXh:=Aside0.mk (blk_drew BXg.out);have BCh:=Aside0.mk (blk_drew BCg.out);have BRh:=Aside0.mk (blk_drew BRg.out);have HFRh:=Aside0.mk HFRg.out.drew;refine rs 25 (fun w'=>w'.cell? ⟨gc,7,none⟩=some (.int .i64 off)∧w'.cell? ⟨gc,8,none⟩=some (.int .i64 (data.size:Int))) [] ⟨k7,k8⟩ (fun hHeld=>?_);generalize wg.drew=wj at BXh BCh BRh HFRh hHeld ⊢;clear o0 o1 o2 o3 o4 k0 k7 k8 BXg BCg BRg HFRg;refine rp 0 (some 161) ?_;refine rp 1 (some 162) ?_;refine rp 2 (some 163) ?_;refine rt 3 (some 164) ?_;refine pure_ (i:=4) (N:=some 165) (v:=?_) (a':=?_) (fl 25 31) rfl rfl (by kernel_rfl) (fun _ _ _ h=>h) (Or.inl ⟨by rfl,?_⟩) ?_ ?_
    rotate_left
    ·intro w';go_simp;try rw [decide_eq_false ha]
     try with_reducible rfl
    rotate_left
    ·simp only [Act.put,List.setIfInBounds_toArray,List.set_cons_zero,List.set_cons_succ,i64_w,i32_w];rfl
    refine rp 5 (some 166) ?_;refine rp 6 (some 167) ?_;refine rp 7 (some 168) ?_;refine rp 8 (some 169) ?_;refine rt 9 (some 170) ?_;refine pure_ (i:=10) (N:=some 171) (v:=?_) (a':=?_) (fl 25 2047) rfl rfl (by kernel_rfl) (fun _ _ _ h=>h) (Or.inl ⟨by rfl,?_⟩) ?_ ?_
    rotate_left
    ·intro w';go_simp;try rw [decide_eq_false hb]
     try with_reducible rfl
    rotate_left
    ·simp only [Act.put,List.setIfInBounds_toArray,List.set_cons_zero,List.set_cons_succ,i64_w,i32_w];rfl
    refine rp 11 (some 172) ?_;refine rp 12 (some 173) ?_;refine rp 13 (some 174) ?_;refine rp 14 (some 175) ?_;refine rp 15 (some 176) ?_;refine rt 16 (some 177) ?_;refine rp 17 (some 178) ?_;refine rp 18 (some 179) ?_;refine rp 19 (some 180) ?_;refine rt 20 (some 181) ?_;refine pure_ (i:=21) (N:=some 182) (v:=?_) (a':=?_) (fl 25 4194303) rfl rfl (by kernel_rfl) (fun _ _ _ h=>h) (Or.inl ⟨by rfl,?_⟩) ?_ ?_
    rotate_left
    ·intro w';go_simp;rw [i64_w,hwo];try with_reducible rfl
    rotate_left
    ·simp only [Act.put,List.setIfInBounds_toArray,List.set_cons_zero,List.set_cons_succ,i64_w,i32_w];rfl
    refine rp 22 (some 183) ?_;refine rp 23 (some 184) ?_;refine rp 24 (some 160) ?_;refine done_ (by kernel_rfl) ?_
    skip;have o0:wj.cell? ⟨go,0,none⟩=some (.int .u32 x.f0):=(blk_cell BXh.out 0).trans rfl;have o1:wj.cell? ⟨go,1,none⟩=some (.int .u32 x.f1):=(blk_cell BXh.out 1).trans rfl;have o2:wj.cell? ⟨go,2,none⟩=some (.int .u32 x.f2):=(blk_cell BXh.out 2).trans rfl;have o3:wj.cell? ⟨go,3,none⟩=some (.int .u32 x.f3):=(blk_cell BXh.out 3).trans rfl;have o4:wj.cell? ⟨go,4,none⟩=some (.int .u32 x.f4):=(blk_cell BXh.out 4).trans rfl;have k0:wj.cell? ⟨gc,0,none⟩=some (.int .i64 4):=(blk_cell BCh.out 0).trans rfl;have k7:wj.cell? ⟨gc,7,none⟩=some (.int .i64 off):=(blk_cell BCh.out 7).trans rfl;have k8:wj.cell? ⟨gc,8,none⟩=some (.int .i64 (data.size:Int)):=(blk_cell BCh.out 8).trans rfl;go_upto_region 30 with (fail)
    have BXd:=Aside0.mk (blk_drew BXh.out);have BCd:=Aside0.mk (blk_drew BCh.out);have BRd:=Aside0.mk (blk_drew BRh.out);have HFRd:=Aside0.mk HFRh.out.drew;refine rs 9 (fun w'=>w'.cell? ⟨go,0,none⟩=some (.int .u32 x.f0)∧w'.cell? ⟨go,1,none⟩=some (.int .u32 x.f1)∧w'.cell? ⟨go,2,none⟩=some (.int .u32 x.f2)∧w'.cell? ⟨go,3,none⟩=some (.int .u32 x.f3)∧w'.cell? ⟨go,4,none⟩=some (.int .u32 x.f4)∧w'.cell? ⟨gc,8,none⟩=some (.int .i64 (data.size:Int))) [] ⟨o0,o1,o2,o3,o4,k8⟩ (fun hHeld=>?_);generalize wj.drew=wh at BXd BCd BRd HFRd hHeld ⊢;clear o0 o1 o2 o3 o4 k0 k7 k8;refine rt 0 (some 186) ?_;refine rp 1 (some 187) ?_;refine rp 2 (some 188) ?_;refine rp 3 (some 189) ?_;refine rt 4 (some 190) ?_;refine rp 5 (some 191) ?_;refine ro 6 none (fun K hK=>?_);refine skip_ (by rfl) rfl (run_store_full wh 81 (.tmp 6) (.tmp 186) rfl gr #[.int .u32 x.f0,.int .u32 x.f1,.int .u32 x.f2,.int .u32 x.f3,.int .u32 x.f4] #[.int .u32 0,.int .u32 0,.int .u32 0,.int .u32 0,.int .u32 0] 81 rfl rfl BRd.out rfl hi81.out (by simp [Value.oneCell'])) ?_
    have BRi:=Aside0.mk (setRow_heap wh gr _ #[.int .u32 x.f0,.int .u32 x.f1,.int .u32 x.f2,.int .u32 x.f3,.int .u32 x.f4] _ _ BRd.out);have BCi:=Aside0.mk ((setRow_other wh gr gc #[.int .u32 x.f0,.int .u32 x.f1,.int .u32 x.f2,.int .u32 x.f3,.int .u32 x.f4] HCR.out).trans BCd.out);have BXi:=Aside0.mk ((setRow_other wh gr go #[.int .u32 x.f0,.int .u32 x.f1,.int .u32 x.f2,.int .u32 x.f3,.int .u32 x.f4] (by have:=HGO.out;omega)).trans BXd.out)
    have HFRi:=Aside0.mk (Fr.setFresh HFRd.out HGR.out #[.int .u32 x.f0,.int .u32 x.f1,.int .u32 x.f2,.int .u32 x.f3,.int .u32 x.f4]);refine hK.out _ _ ⟨(blk_cell BXi.out 0).trans rfl,(blk_cell BXi.out 1).trans rfl,(blk_cell BXi.out 2).trans rfl,(blk_cell BXi.out 3).trans rfl,(blk_cell BXi.out 4).trans rfl,(blk_cell BCi.out 8).trans rfl⟩ (fun hHeld=>?_);clear hK K;clear BXd BCd BRd HFRd;generalize wh.setRow gr #[.int .u32 x.f0,.int .u32 x.f1,.int .u32 x.f2,.int .u32 x.f3,.int .u32 x.f4]=wi at BRi BCi BXi HFRi hHeld ⊢;refine rp 7 (some 7) ?_;refine rp 8 (some 8) ?_;refine done_ (by kernel_rfl) ?_
    try go_wp2
    refine bodyPost_ret (results_ctt rfl _ _ gr 81 #[.int .u32 x.f0,.int .u32 x.f1,.int .u32 x.f2,.int .u32 x.f3,.int .u32 x.f4] (0,0) (.struct fs) rfl BRi.out hu81.out rfl hi81.out) rfl ⟨?ke,BCi.out,HFRi.out⟩
    case ke=>first|rfl|(simp;done)
def bAt (bl:List B.T) (id:Int):B.T:=bl.getD (bodyI bl id).toNat ⟨0,⟨#[]⟩⟩
def bSet (bl:List B.T) (id:Int) (s:ByteArray):List B.T:=bl.set (bodyI bl id).toNat ⟨(bAt bl id).f0,s⟩
theorem bAt_eq {bl:List B.T} {id:Int} {i:Nat} (hi:i<bl.length) (h:bodyI bl id=i):bAt bl id=bl[i]:=by
 unfold bAt;rw [h,Int.toNat_natCast,List.getD_eq_getElem?_getD,List.getElem?_eq_getElem hi];rfl
theorem bSet_eq {bl:List B.T} {id:Int} {i:Nat} (hi:i<bl.length) (h:bodyI bl id=i) (s:ByteArray):bSet bl id s=bl.set i ⟨bl[i].f0,s⟩:=by
 unfold bSet;rw [bAt_eq hi h,h,Int.toNat_natCast]
abbrev ActT:=Int×Int×ByteArray×Int×List SI×List O.T×List B.T
def actF (n:Int) (tl:List SI) (ol:List O.T) (bl:List B.T) (user kind:Int) (path other:ByteArray) (acc deny:Int) (cr:Bool) (off len:Int) (data:ByteArray) (o:O.T):ActT :=
 if kind=1 then ((openF n tl ol bl user path acc deny cr).2.2.2.2.1,(openF n tl ol bl user path acc deny cr).2.2.2.2.2,⟨#[]⟩,(openF n tl ol bl user path acc deny cr).1,(openF n tl ol bl user path acc deny cr).2.1,(openF n tl ol bl user path acc deny cr).2.2.1,(openF n tl ol bl user path acc deny cr).2.2.2.1)
 else if kind=2 then ((dropF ol user o.f1).2.2,0,⟨#[]⟩,n,tl,(dropF ol user o.f1).1,bl)
 else if kind=3 then (0,((readD (bAt bl o.f2).f1 off len).size:Int),readD (bAt bl o.f2).f1 off len,n,tl,ol,bl)
 else if kind=4 then (0,len,⟨#[]⟩,n,(resizeF tl o.f2 (max ((bAt bl o.f2).f1.size:Int) (off+len))).1,ol,bSet bl o.f2 (layD (sizeD (bAt bl o.f2).f1 (max ((bAt bl o.f2).f1.size:Int) (off+len))) off data))
 else if kind=5 then (0,0,⟨#[]⟩,n,(resizeF tl o.f2 len).1,ol,bSet bl o.f2 (sizeD (bAt bl o.f2).f1 len))
 else if kind=6 then ((grownF n tl bl path true).2.2.2,0,⟨#[]⟩,(grownF n tl bl path true).1,(grownF n tl bl path true).2.1,ol,(grownF n tl bl path true).2.2.1)
 else if kind=7 then (rmE (remF tl path false).2.2 (ol.countP fun y=>y.f2 == (remF tl path false).2.1.f0),0,⟨#[]⟩,n,(remF tl path false).1,ol,bl.eraseIdx (bodyI bl (remF tl path false).2.1.f0).toNat)
 else if kind=8 then ((remF tl path true).2.2,0,⟨#[]⟩,n,(remF tl path true).1,ol,bl)
 else if kind=9 then (((tree_Rename.f tl path other).getD ([],1)).2,0,⟨#[]⟩,n,((tree_Rename.f tl path other).getD ([],1)).1,ol,bl)
 else if kind=10 then ((listF tl path).2,0,joinB (listF tl path).1,n,tl,ol,bl)
 else ((findF tl path).2,wrap64 (findF tl path).1.f4,if (findF tl path).1.f3=true then ⟨#[100]⟩ else ⟨#[102]⟩,n,tl,ol,bl)
abbrev DoT:=Int×List SI×List O.T×List B.T×Int×Int×ByteArray×Int
def doF (n:Int) (tl:List SI) (ol:List O.T) (bl:List B.T) (user kind:Int) (path other:ByteArray) (acc deny:Int) (cr:Bool) (fd off len:Int) (data:ByteArray):DoT :=
 if rightF n tl ol bl=false∨user=0∨kind<1∨11<kind then (0,[],[],[],0,0,⟨#[]⟩,1)
 else if (checkF ol user kind path other fd off len data).2.2=true then (n,tl,ol,bl,(checkF ol user kind path other fd off len data).2.1,0,⟨#[]⟩,0)
 else if (actF n tl ol bl user kind path other acc deny cr off (lenF kind len data) data (checkF ol user kind path other fd off len data).1).1≠0 then (n,tl,ol,bl,(actF n tl ol bl user kind path other acc deny cr off (lenF kind len data) data (checkF ol user kind path other fd off len data).1).1,0,⟨#[]⟩,0)
 else ((actF n tl ol bl user kind path other acc deny cr off (lenF kind len data) data (checkF ol user kind path other fd off len data).1).2.2.2.1,(actF n tl ol bl user kind path other acc deny cr off (lenF kind len data) data (checkF ol user kind path other fd off len data).1).2.2.2.2.1,(actF n tl ol bl user kind path other acc deny cr off (lenF kind len data) data (checkF ol user kind path other fd off len data).1).2.2.2.2.2.1,(actF n tl ol bl user kind path other acc deny cr off (lenF kind len data) data (checkF ol user kind path other fd off len data).1).2.2.2.2.2.2,
  0,(actF n tl ol bl user kind path other acc deny cr off (lenF kind len data) data (checkF ol user kind path other fd off len data).1).2.1,(actF n tl ol bl user kind path other acc deny cr off (lenF kind len data) data (checkF ol user kind path other fd off len data).1).2.2.1,0)
section
variable {ol:List O.T} {user kind:Int} {path other:ByteArray} {fd off len:Int} {data:ByteArray}
theorem check_named (hk:named1 kind=true) (h:(checkF ol user kind path other fd off len data).2.2=false):path.size≤64∧(kind=9→other.size≤64)∧(kind=1→0≤freeF ol user):=by
 unfold checkF at h;rw [if_pos hk] at h;split at h
 ·cases h
 ·rename_i hc
  refine ⟨Nat.le_of_not_lt fun hp=>hc (Or.inl hp),fun h9=>Nat.le_of_not_lt fun hp=>hc (Or.inr ⟨h9,hp⟩),fun h1=>?_⟩;subst h1;simpa using h
structure FdOk (ol:List O.T) (user kind:Int) (fd off len:Int) (data:ByteArray):Prop where
 fd0:0≤fd
 fd1:fd<4
 there:(findO ol user fd).2=true
 r:kind=3→Go.bits .and .u32 (findO ol user fd).1.f3 1≠0
 wr:kind≠2→kind≠3→Go.bits .and .u32 (findO ol user fd).1.f3 2≠0
 l0:kind≠2→0≤lenF kind len data
 o0:kind≠2→kind≠5→0≤off∧lenF kind len data≤64∧off≤1024∧off+lenF kind len data≤1024∧lenF kind len data≠0
 l5:kind=5→lenF kind len data≤1024
theorem check_fd (hk:named1 kind=false) (h:(checkF ol user kind path other fd off len data).2.2=false):FdOk ol user kind fd off len data∧(checkF ol user kind path other fd off len data).1=(findO ol user fd).1:=by
 unfold checkF at h ⊢;rw [if_neg (by rw [hk];decide)] at h ⊢
 by_cases h1:fd<0∨4≤fd
 ·rw [if_pos h1] at h;cases h
 rw [if_neg h1] at h ⊢;by_cases h2:(findO ol user fd).2=false
 ·rw [if_pos h2] at h;cases h
 rw [if_neg h2] at h ⊢;have h2':(findO ol user fd).2=true:=by simpa using h2
 by_cases h3:kind=2
 ·rw [if_pos h3];exact ⟨⟨by omega,by omega,h2',fun e=>by omega,fun e=>absurd h3 e,fun e=>absurd h3 e,fun e=>absurd h3 e,fun e=>by omega⟩,rfl⟩
 rw [if_neg h3] at h ⊢;by_cases h4:kind=3∧Go.bits .and .u32 (findO ol user fd).1.f3 1=0∨kind≠3∧Go.bits .and .u32 (findO ol user fd).1.f3 2=0
 ·rw [if_pos h4] at h;cases h
 rw [if_neg h4] at h ⊢;by_cases h5:lenF kind len data<0∨kind≠5∧off<0
 ·rw [if_pos h5] at h;cases h
 rw [if_neg h5] at h ⊢;have a1:kind=3→Go.bits .and .u32 (findO ol user fd).1.f3 1≠0:=fun e e2=>h4 (Or.inl ⟨e,e2⟩);have a2:kind≠2→kind≠3→Go.bits .and .u32 (findO ol user fd).1.f3 2≠0:=fun _ e e2=>h4 (Or.inr ⟨e,e2⟩);have a3:0≤lenF kind len data:=by
  rcases Int.lt_or_le (lenF kind len data) 0 with e|e
  ·exact absurd (Or.inl e) h5
  ·exact e
 by_cases h6:kind=5
 ·rw [if_pos h6] at h ⊢;exact ⟨⟨by omega,by omega,h2',a1,a2,fun _=>a3,fun _ e=>absurd h6 e,fun _=>by simpa using h⟩,rfl⟩
 rw [if_neg h6] at h ⊢;have a4:0≤off:=by
  rcases Int.lt_or_le off 0 with e|e
  ·exact absurd (Or.inr ⟨h6,e⟩) h5
  ·exact e
 by_cases h7:64<lenF kind len data∨1024<off∨1024<off+lenF kind len data
 ·rw [if_pos h7] at h;cases h
 rw [if_neg h7] at h ⊢;have h8:lenF kind len data≠0:=by simpa using h
 exact ⟨⟨by omega,by omega,h2',a1,a2,fun _=>a3,fun _ _=>⟨a4,by omega,by omega,by omega,h8⟩,fun e=>absurd e h6⟩,rfl⟩
end
theorem freeF_le (ol:List O.T) (user:Int):freeF ol user≤3:=by
 unfold freeF;repeat (split;omega)
 omega
theorem grown_wf {n:Int} {tl:List SI} {bl:List B.T} {path:ByteArray} {dir:Bool} (hw:wfL tl=true) (h0:0≤n) (h1:n≤4294967295) (h:(grownF n tl bl path dir).2.2.2=0):wfL (grownF n tl bl path dir).2.1=true:=by
 unfold grownF at h ⊢;by_cases hn:n=4294967295
 ·rw [if_pos hn] at h;exact absurd h (by simp)
 rw [if_neg hn] at h ⊢;by_cases hm:(makeF tl path n dir).2≠0
 ·rw [if_pos hm] at h;exact absurd h hm
 rw [if_neg hm];rcases make_met hw path n dir h0 h1 with ⟨h2,-⟩|⟨-,a,p,nm,-,-,-,hp,-,hi⟩
 ·exact absurd h2 hm
 ·exact hi.wf
theorem fcheckn_c {n:Int} {tl:List SI} {ol:List O.T} {bl:List B.T} (user kind:Int) (path other:ByteArray) (acc deny:Int) (cr:Bool) (fd off len:Int) (data:ByteArray) (hlo:ol.length≤12) (h:named1 kind=true) (W:World) (gc:Nat) (B1:Option Addr) (d1:Nat) (B2:Option Addr) (d2:Nat) (B3:Option Addr) (d3:Nat)
  (hT:Kd.C k43 W B1 tl.length tl) (hT':tl.length≤d1) (hO:Kd.C k81 W B2 ol.length ol) (hO':ol.length≤d2) (hR : ∃ b,Kd.R k81 81 W b (fun _=>True) (.slice B2 ol.length d2) ol) (hB:Kd.C k87 W B3 bl.length bl) (hB':bl.length≤d3)
  (hb:W.heap[gc]?=some (.cells #[.int .i64 kind,.string path,.string other,.int .u32 acc,.int .u32 deny,.bool cr,.int .i64 fd,.int .i64 off,.int .i64 len,.string data] 69 (0,0))) :
  Calls Tryz.prog 97 #[.agg #[.int .u32 n,.slice B1 tl.length d1,.slice B2 ol.length d2,.slice B3 bl.length d3],.int .u32 user,.pointer (some ⟨gc,0,none⟩)] W fun e w'=>e=.returned (.tuple #[.agg (O.v (checkF ol user kind path other fd off len data).1),.int .i64 (checkF ol user kind path other fd off len data).2.1,.bool (checkF ol user kind path other fd off len data).2.2])∧w'.heap[gc]?=some (.cells #[.int .i64 kind,.string path,.string other,.int .u32 acc,.int .u32 deny,.bool cr,.int .i64 fd,.int .i64 off,.int .i64 (lenF kind len data),.string data] 69 (0,0))∧Fr W.heap.size gc W w':=by
 obtain ⟨b,hR⟩:=hR;refine (check_name n B1 d1 tl B2 d2 ol B3 d3 bl user kind path other acc deny cr fd off len data gc W hT hT' hO hO' hB hB' hlo hb h).mono ?_;rintro e w' ⟨rfl,hbel⟩;refine ⟨rfl,?_,Fr.of_below hbel⟩;rw [show lenF kind len data=len by
  unfold lenF;rw [if_neg];rintro rfl;revert h
  decide]
 exact blk_below hb hbel
theorem fcheck4_c {n:Int} {tl:List SI} {ol:List O.T} {bl:List B.T} (user:Int) (path other:ByteArray) (acc deny:Int) (cr:Bool) (fd off len:Int) (data:ByteArray) (hlo:ol.length≤12) (W:World) (gc:Nat) (B1:Option Addr) (d1:Nat) (B2:Option Addr) (d2:Nat) (B3:Option Addr) (d3:Nat)
  (hT:Kd.C k43 W B1 tl.length tl) (hT':tl.length≤d1) (hO:Kd.C k81 W B2 ol.length ol) (hO':ol.length≤d2) (hR : ∃ b,Kd.R k81 81 W b (fun _=>True) (.slice B2 ol.length d2) ol) (hB:Kd.C k87 W B3 bl.length bl) (hB':bl.length≤d3)
  (hb:W.heap[gc]?=some (.cells #[.int .i64 4,.string path,.string other,.int .u32 acc,.int .u32 deny,.bool cr,.int .i64 fd,.int .i64 off,.int .i64 len,.string data] 69 (0,0))) :
  Calls Tryz.prog 97 #[.agg #[.int .u32 n,.slice B1 tl.length d1,.slice B2 ol.length d2,.slice B3 bl.length d3],.int .u32 user,.pointer (some ⟨gc,0,none⟩)] W fun e w'=>e=.returned (.tuple #[.agg (O.v (checkF ol user 4 path other fd off len data).1),.int .i64 (checkF ol user 4 path other fd off len data).2.1,.bool (checkF ol user 4 path other fd off len data).2.2])∧w'.heap[gc]?=some (.cells #[.int .i64 4,.string path,.string other,.int .u32 acc,.int .u32 deny,.bool cr,.int .i64 fd,.int .i64 off,.int .i64 (lenF 4 len data),.string data] 69 (0,0))∧Fr W.heap.size gc W w':=by
 obtain ⟨b,hR⟩:=hR;exact check_fd4 n B1 d1 tl B2 d2 ol B3 d3 bl user path other acc deny cr fd off len data gc W b hR hlo hb
theorem fact1k {n:Int} {tl:List SI} {ol:List O.T} {bl:List B.T} (h:Rt n tl ol bl) (hn0:0≤n) (hn1:n≤4294967295) (user:Int) (path other:ByteArray) (acc deny:Int) (cr:Bool) (fd off len:Int) (data:ByteArray) (hd:data.size≤100000)
  (hc:(checkF ol user 1 path other fd off len data).2.2=false) (W:World) (base g:Nat) (vT vO vB:Value) (hf:FB W base g n vT vO vB tl ol bl) :
  Calls Tryz.prog 98 #[.pointer (some ⟨g,0,none⟩),.int .u32 user,.agg #[.int .i64 1,.string path,.string other,.int .u32 acc,.int .u32 deny,.bool cr,.int .i64 fd,.int .i64 off,.int .i64 (lenF 1 len data),.string data],.agg (O.v (checkF ol user 1 path other fd off len data).1)] W fun e w'=>e=.returned (.agg #[.int .i64 (actF n tl ol bl user 1 path other acc deny cr off (lenF 1 len data) data (checkF ol user 1 path other fd off len data).1).1,.int .i64 (actF n tl ol bl user 1 path other acc deny cr off (lenF 1 len data) data (checkF ol user 1 path other fd off len data).1).2.1,.string (actF n tl ol bl user 1 path other acc deny cr off (lenF 1 len data) data (checkF ol user 1 path other fd off len data).1).2.2.1])∧OkFB (actF n tl ol bl user 1 path other acc deny cr off (lenF 1 len data) data (checkF ol user 1 path other fd off len data).1).1 w' base g (actF n tl ol bl user 1 path other acc deny cr off (lenF 1 len data) data (checkF ol user 1 path other fd off len data).1).2.2.2.1 (actF n tl ol bl user 1 path other acc deny cr off (lenF 1 len data) data (checkF ol user 1 path other fd off len data).1).2.2.2.2.1 (actF n tl ol bl user 1 path other acc deny cr off (lenF 1 len data) data (checkF ol user 1 path other fd off len data).1).2.2.2.2.2.1 (actF n tl ol bl user 1 path other acc deny cr off (lenF 1 len data) data (checkF ol user 1 path other fd off len data).1).2.2.2.2.2.2∧Fr base g W w':=by
 obtain ⟨L1,L2,L3⟩:=h.len;have hw:=h.tr.wf;have hk:=check_named (by decide) hc
 exact fact1_c base g n vT vO vB tl ol bl user _ _ _ _ _ _ _ _ path other acc deny cr fd off len data W hf (by omega) L2 (fun W' vT' vO' vB' hf'=>fopen_c base g n vT' vO' vB' tl ol bl user 1 path other acc deny cr fd off len data W' hf' (by omega) L2 hn0 hn1 (by omega) hw (fun e=>grown_wf hw hn0 hn1 e) (hk.2.2 rfl) (freeF_le ol user))
theorem fact4k {n:Int} {tl:List SI} {ol:List O.T} {bl:List B.T} (h:Rt n tl ol bl) (hn0:0≤n) (hn1:n≤4294967295) (user:Int) (path other:ByteArray) (acc deny:Int) (cr:Bool) (fd off len:Int) (data:ByteArray) (hd:data.size≤100000)
  (hc:(checkF ol user 4 path other fd off len data).2.2=false) (W:World) (base g:Nat) (vT vO vB:Value) (hf:FB W base g n vT vO vB tl ol bl) :
  Calls Tryz.prog 98 #[.pointer (some ⟨g,0,none⟩),.int .u32 user,.agg #[.int .i64 4,.string path,.string other,.int .u32 acc,.int .u32 deny,.bool cr,.int .i64 fd,.int .i64 off,.int .i64 (lenF 4 len data),.string data],.agg (O.v (checkF ol user 4 path other fd off len data).1)] W fun e w'=>e=.returned (.agg #[.int .i64 (actF n tl ol bl user 4 path other acc deny cr off (lenF 4 len data) data (checkF ol user 4 path other fd off len data).1).1,.int .i64 (actF n tl ol bl user 4 path other acc deny cr off (lenF 4 len data) data (checkF ol user 4 path other fd off len data).1).2.1,.string (actF n tl ol bl user 4 path other acc deny cr off (lenF 4 len data) data (checkF ol user 4 path other fd off len data).1).2.2.1])∧OkFB (actF n tl ol bl user 4 path other acc deny cr off (lenF 4 len data) data (checkF ol user 4 path other fd off len data).1).1 w' base g (actF n tl ol bl user 4 path other acc deny cr off (lenF 4 len data) data (checkF ol user 4 path other fd off len data).1).2.2.2.1 (actF n tl ol bl user 4 path other acc deny cr off (lenF 4 len data) data (checkF ol user 4 path other fd off len data).1).2.2.2.2.1 (actF n tl ol bl user 4 path other acc deny cr off (lenF 4 len data) data (checkF ol user 4 path other fd off len data).1).2.2.2.2.2.1 (actF n tl ol bl user 4 path other acc deny cr off (lenF 4 len data) data (checkF ol user 4 path other fd off len data).1).2.2.2.2.2.2∧Fr base g W w':=by
 obtain ⟨L1,L2,L3⟩:=h.len;have hw:=h.tr.wf;obtain ⟨hq,ho⟩:=check_fd (by decide) hc
 have hm:=findO_mem hq.there;obtain ⟨i,hi,hb,-,i0,i1⟩:=h.open_ hm.1;rw [ho];generalize (findO ol user fd).1=o at hb i0 i1 ⊢;have hs:=h.size hi;have h3:=hq.o0 (by decide) (by decide)
 have h4:=hq.l0 (by decide)
 unfold actF;simp only [Int.reduceEq,if_false,if_true];rw [bAt_eq hi hb,bSet_eq hi hb];exact fact4_c base g n vT vO vB tl ol bl user o i path other acc deny cr fd off (lenF 4 len data) data W hf (by omega) L2 hi hb h3.1 (by omega) h4 (by omega) (by omega) (by omega) hd hw i0 i1
def okD (n:Int) (tl:List SI) (ol:List O.T) (bl:List B.T) (data:ByteArray):Bool :=
 wfL tl&&decide (tl.length≤1000)&&decide (ol.length≤1000)&&decide (bl.length≤1000)&&decide (0≤n)&&decide (n≤4294967295)&&decide (data.size≤100000)
def flat_Do.f (a0_0:Int) (l0_1:List SI) (l0_2:List O.T) (l0_3:List B.T) (a1 a2_0:Int) (a2_1 a2_2:ByteArray) (a2_3 a2_4:Int) (a2_5:Bool) (a2_6 a2_7 a2_8:Int) (a2_9:ByteArray):Option DoT :=
 if okD a0_0 l0_1 l0_2 l0_3 a2_9=true then some (doF a0_0 l0_1 l0_2 l0_3 a1 a2_0 a2_1 a2_2 a2_3 a2_4 a2_5 a2_6 a2_7 a2_8 a2_9) else none
theorem doby (a0_0:Int) (A0_1:Option Addr) (c0_1:Nat) (l0_1:List SI) (A0_2:Option Addr) (c0_2:Nat) (l0_2:List O.T) (A0_3:Option Addr) (c0_3:Nat) (l0_3:List B.T) (a1 a2_0:Int) (a2_1 a2_2:ByteArray) (a2_3 a2_4:Int) (a2_5:Bool) (a2_6 a2_7 a2_8:Int) (a2_9:ByteArray) (r1:Int) (r2:List SI) (r3:List O.T) (r4:List B.T) (r5 r6:Int) (r7:ByteArray) (r8:Int) (w:World) (hr0_1:Kd.C k43 w A0_1 l0_1.length l0_1) (hc0_1:l0_1.length≤c0_1) (hr0_2:Kd.C k81 w A0_2 l0_2.length l0_2) (hc0_2:l0_2.length≤c0_2) (hr0_3:Kd.C k87 w A0_3 l0_3.length l0_3) (hc0_3:l0_3.length≤c0_3) (h:flat_Do.f a0_0 l0_1 l0_2 l0_3 a1 a2_0 a2_1 a2_2 a2_3 a2_4 a2_5 a2_6 a2_7 a2_8 a2_9=some (r1,r2,r3,r4,r5,r6,r7,r8))
  (hck:l0_2.length≤12→1≤a2_0→a2_0≤11→∀ (W:World) (gc:Nat) (B1:Option Addr) (d1:Nat) (B2:Option Addr) (d2:Nat) (B3:Option Addr) (d3:Nat),Kd.C k43 W B1 l0_1.length l0_1→l0_1.length≤d1→Kd.C k81 W B2 l0_2.length l0_2→l0_2.length≤d2→(∃ b,Kd.R k81 81 W b (fun _=>True) (.slice B2 l0_2.length d2) l0_2)→Kd.C k87 W B3 l0_3.length l0_3→l0_3.length≤d3→W.heap[gc]?=some (.cells #[.int .i64 a2_0,.string a2_1,.string a2_2,.int .u32 a2_3,.int .u32 a2_4,.bool a2_5,.int .i64 a2_6,.int .i64 a2_7,.int .i64 a2_8,.string a2_9] 69 (0,0)) →
   Calls Tryz.prog 97 #[.agg #[.int .u32 a0_0,.slice B1 l0_1.length d1,.slice B2 l0_2.length d2,.slice B3 l0_3.length d3],.int .u32 a1,.pointer (some ⟨gc,0,none⟩)] W fun e w'=>e=.returned (.tuple #[.agg (O.v (checkF l0_2 a1 a2_0 a2_1 a2_2 a2_6 a2_7 a2_8 a2_9).1),.int .i64 (checkF l0_2 a1 a2_0 a2_1 a2_2 a2_6 a2_7 a2_8 a2_9).2.1,.bool (checkF l0_2 a1 a2_0 a2_1 a2_2 a2_6 a2_7 a2_8 a2_9).2.2])∧w'.heap[gc]?=some (.cells #[.int .i64 a2_0,.string a2_1,.string a2_2,.int .u32 a2_3,.int .u32 a2_4,.bool a2_5,.int .i64 a2_6,.int .i64 a2_7,.int .i64 (lenF a2_0 a2_8 a2_9),.string a2_9] 69 (0,0))∧Fr W.heap.size gc W w')
  (hac:Rt a0_0 l0_1 l0_2 l0_3→0≤a0_0→a0_0≤4294967295→a2_9.size≤100000→1≤a2_0→a2_0≤11→(checkF l0_2 a1 a2_0 a2_1 a2_2 a2_6 a2_7 a2_8 a2_9).2.2=false→∀ (W:World) (base g:Nat) (vT vO vB:Value),FB W base g a0_0 vT vO vB l0_1 l0_2 l0_3 →
   Calls Tryz.prog 98 #[.pointer (some ⟨g,0,none⟩),.int .u32 a1,.agg #[.int .i64 a2_0,.string a2_1,.string a2_2,.int .u32 a2_3,.int .u32 a2_4,.bool a2_5,.int .i64 a2_6,.int .i64 a2_7,.int .i64 (lenF a2_0 a2_8 a2_9),.string a2_9],.agg (O.v (checkF l0_2 a1 a2_0 a2_1 a2_2 a2_6 a2_7 a2_8 a2_9).1)] W fun e w'=>e=.returned (.agg #[.int .i64 (actF a0_0 l0_1 l0_2 l0_3 a1 a2_0 a2_1 a2_2 a2_3 a2_4 a2_5 a2_7 (lenF a2_0 a2_8 a2_9) a2_9 (checkF l0_2 a1 a2_0 a2_1 a2_2 a2_6 a2_7 a2_8 a2_9).1).1,.int .i64 (actF a0_0 l0_1 l0_2 l0_3 a1 a2_0 a2_1 a2_2 a2_3 a2_4 a2_5 a2_7 (lenF a2_0 a2_8 a2_9) a2_9 (checkF l0_2 a1 a2_0 a2_1 a2_2 a2_6 a2_7 a2_8 a2_9).1).2.1,.string (actF a0_0 l0_1 l0_2 l0_3 a1 a2_0 a2_1 a2_2 a2_3 a2_4 a2_5 a2_7 (lenF a2_0 a2_8 a2_9) a2_9 (checkF l0_2 a1 a2_0 a2_1 a2_2 a2_6 a2_7 a2_8 a2_9).1).2.2.1])∧OkFB (actF a0_0 l0_1 l0_2 l0_3 a1 a2_0 a2_1 a2_2 a2_3 a2_4 a2_5 a2_7 (lenF a2_0 a2_8 a2_9) a2_9 (checkF l0_2 a1 a2_0 a2_1 a2_2 a2_6 a2_7 a2_8 a2_9).1).1 w' base g (actF a0_0 l0_1 l0_2 l0_3 a1 a2_0 a2_1 a2_2 a2_3 a2_4 a2_5 a2_7 (lenF a2_0 a2_8 a2_9) a2_9 (checkF l0_2 a1 a2_0 a2_1 a2_2 a2_6 a2_7 a2_8 a2_9).1).2.2.2.1 (actF a0_0 l0_1 l0_2 l0_3 a1 a2_0 a2_1 a2_2 a2_3 a2_4 a2_5 a2_7 (lenF a2_0 a2_8 a2_9) a2_9 (checkF l0_2 a1 a2_0 a2_1 a2_2 a2_6 a2_7 a2_8 a2_9).1).2.2.2.2.1 (actF a0_0 l0_1 l0_2 l0_3 a1 a2_0 a2_1 a2_2 a2_3 a2_4 a2_5 a2_7 (lenF a2_0 a2_8 a2_9) a2_9 (checkF l0_2 a1 a2_0 a2_1 a2_2 a2_6 a2_7 a2_8 a2_9).1).2.2.2.2.2.1 (actF a0_0 l0_1 l0_2 l0_3 a1 a2_0 a2_1 a2_2 a2_3 a2_4 a2_5 a2_7 (lenF a2_0 a2_8 a2_9) a2_9 (checkF l0_2 a1 a2_0 a2_1 a2_2 a2_6 a2_7 a2_8 a2_9).1).2.2.2.2.2.2∧Fr base g W w') :
  Calls Tryz.prog 31 #[.agg #[.int .u32 a0_0,.slice A0_1 l0_1.length c0_1,.slice A0_2 l0_2.length c0_2,.slice A0_3 l0_3.length c0_3],.int .u32 a1,.agg #[.int .i64 a2_0,.string a2_1,.string a2_2,.int .u32 a2_3,.int .u32 a2_4,.bool a2_5,.int .i64 a2_6,.int .i64 a2_7,.int .i64 a2_8,.string a2_9]] w fun e w'=>∃ v1_ v2_ v3_:Value,e=.returned (.tuple #[.agg #[.int .u32 r1,v1_,v2_,v3_],.agg #[.int .i64 r5,.int .i64 r6,.string r7],.int .i64 r8])∧Kd.R k43 43 w' w.heap.size (fun _=>True) v1_ r2∧Kd.R k81 81 w' w.heap.size (fun _=>True) v2_ r3∧Kd.R k87 87 w' w.heap.size (fun _=>True) v3_ r4∧Below w.heap.size w w':=by
 unfold flat_Do.f at h;by_cases hok:okD a0_0 l0_1 l0_2 l0_3 a2_9=true
 rotate_left
 ·rw [if_neg hok] at h;cases h
 rw [if_pos hok] at h;replace h:=Option.some.inj h;unfold okD at hok;simp only [Bool.and_eq_true,decide_eq_true_eq] at hok;obtain ⟨⟨⟨⟨⟨⟨hw,hl⟩,hlo⟩,hlb⟩,hn0⟩,hn1⟩,hd⟩:=hok;have hrt:=frightF a0_0 l0_1 l0_2 l0_3 hw hl hlo hlb 1006 (by omega)
 unfold doF at h;by_cases hno:rightF a0_0 l0_1 l0_2 l0_3=false∨a1=0∨a2_0<1∨11<a2_0
 ·rw [if_pos hno] at h;simp only [Prod.mk.injEq] at h;obtain ⟨rfl,rfl,rfl,rfl,rfl,rfl,rfl,rfl⟩:=h;refine (fdo0_c a0_0 A0_1 c0_1 l0_1 A0_2 c0_2 l0_2 A0_3 c0_3 l0_3 a1 a2_0 a2_1 a2_2 a2_3 a2_4 a2_5 a2_6 a2_7 a2_8 a2_9 w hr0_1 hc0_1 hr0_2 hc0_2 hr0_3 hc0_3 1006 _ hrt hno).mono ?_;rintro e w' ⟨rfl,hb⟩;exact ⟨_,_,_,rfl,Kd.R_nil _ _ _ _ _,Kd.R_nil _ _ _ _ _,Kd.R_nil _ _ _ _ _,hb⟩
 ·rw [if_neg hno] at h;simp only [not_or,Bool.not_eq_false] at hno;obtain ⟨h1,h2,h3,h4⟩:=hno;have rt:=(rt_iff hw).1 h1;rw [h1] at hrt;have L:=rt.len;have hcl:flat_clone.f a0_0 l0_1 l0_2 l0_3=some (a0_0,l0_1,l0_2,l0_3):=by
   unfold flat_clone.f clone34.f O.clone.f B.clone.f;rw [if_pos (by omega),if_pos (by omega),if_pos (by omega)]
   rfl
  have hch : ∀ x:DoT,x=(r1,r2,r3,r4,r5,r6,r7,r8)→r8=0→(x.1,x.2.1,x.2.2.1,x.2.2.2.1,x.2.2.2.2.1,x.2.2.2.2.2.1,x.2.2.2.2.2.2.1)=(r1,r2,r3,r4,r5,r6,r7):=fun x e _=>by rw [e]
  have h8:r8=0:=by
   have:=congrArg (fun x:DoT=>x.2.2.2.2.2.2.2) h;simp only at this;rw [← this];split
   ·rfl
   ·split <;> rfl
  subst h8;generalize hcf:checkF l0_2 a1 a2_0 a2_1 a2_2 a2_6 a2_7 a2_8 a2_9=cf at h;generalize haf:actF a0_0 l0_1 l0_2 l0_3 a1 a2_0 a2_1 a2_2 a2_3 a2_4 a2_5 a2_7 (lenF a2_0 a2_8 a2_9) a2_9 cf.1=af at h;refine (fdo_c a0_0 A0_1 c0_1 l0_1 A0_2 c0_2 l0_2 A0_3 c0_3 l0_3 a1 a2_0 a2_1 a2_2 a2_3 a2_4 a2_5 a2_6 a2_7 a2_8 a2_9 w hr0_1 hc0_1 hr0_2 hc0_2 hr0_3 hc0_3 1006 hrt h2 (by omega) (by omega) hcl cf.1 cf.2.1 cf.2.2 (lenF a2_0 a2_8 a2_9) ?_ af.1 af.2.1 af.2.2.1 af.2.2.2.1 af.2.2.2.2.1 af.2.2.2.2.2.1 af.2.2.2.2.2.2 ?_ r1 r2 r3 r4 r5 r6 r7 ?_).mono ?_
  ·intro W gc B1 d1 B2 d2 B3 d3 x1 x2 x3 x4 x5 x6 x7 x8;rw [← hcf];exact hck L.2.1 (by omega) (by omega) W gc B1 d1 B2 d2 B3 d3 x1 x2 x3 x4 x5 x6 x7 x8
  ·intro hov W base g vT vO vB hf;rw [← haf,← hcf];exact hac rt hn0 hn1 hd (by omega) (by omega) (by rw [hcf];exact hov) W base g vT vO vB hf
  ·by_cases ho:cf.2.2=true
   ·rw [if_pos ho] at h ⊢;exact hch _ h rfl
   ·rw [if_neg ho] at h ⊢;by_cases he:af.1≠0
    ·rw [if_pos he] at h ⊢;exact hch _ h rfl
    ·rw [if_neg he] at h ⊢;have he0:af.1=0:=by simpa using he
     rw [he0];exact hch _ h rfl
  ·rintro e w' ⟨v1,v2,v3,rfl,q1,q2,q3,q4⟩;exact ⟨v1,v2,v3,rfl,q1,q2,q3,q4⟩
end Go.Proofs.YtikjfekagdcjmaaGreatDoor.Q
