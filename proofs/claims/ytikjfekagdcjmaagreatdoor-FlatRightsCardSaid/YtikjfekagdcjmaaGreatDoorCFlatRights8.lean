/- Contracts and plain theory behind FlatRights. -/
import Derived.Outline
import Derived.Lib.SliceRun
import Derived.Shelf.Abstract
import Derived.Laws.CopyOwn
import Derived.Sort.Grow
import Derived.Shelf.SlSortCmp.NoneTotal
import Derived.Test.YtikjfekagdcjmaaGreatDoorCFlatRights2
import Derived.Test.YtikjfekagdcjmaaGreatDoorCFlatRights3
import Derived.Test.YtikjfekagdcjmaaGreatDoorCFlatRights7
set_option linter.unusedVariables false
set_option linter.unusedSimpArgs false
set_option maxHeartbeats 16000000
set_option maxRecDepth 100000
namespace Go.Proofs.YtikjfekagdcjmaaGreatDoor.Q
open Go.RowKit Go.Proofs.YtikjfekagdcjmaaGreatDoorW.PrintWords Go.Proofs.YtikjfekagdcjmaaGreatDoorW.PrintLast Go.Proofs.YtikjfekagdcjmaaGreatDoorW.PrintMore
namespace O
abbrev T:=S81
abbrev v (x:T):Array Value:=#[.int .u32 x.f0,.int .u32 x.f1,.int .u32 x.f2,.int .u32 x.f3,.int .u32 x.f4]
def zT:T:=⟨0,0,0,0,0⟩
def c (x:T):List Value:=[.int .u32 x.f0,.int .u32 x.f1,.int .u32 x.f2,.int .u32 x.f3,.int .u32 x.f4]
def flat (xs:List T):List Value:=xs.flatMap c
theorem rdT (l:List T) (i:Nat) (h:i<l.length):rd_T81 l (i:Int)=l[i]:=by
 simp [rd_T81,List.getD_eq_getElem?_getD,List.getElem?_eq_getElem h]
def Pred (g:Nat) (cb:Array Value) (p:T→Bool) (w:World):Prop :=
 ∀ (W:World) (x:T),Below w.heap.size w W→Calls Tryz.prog g (#[.agg (v x)]++cb) W fun e w'=>e=.returned (.bool (p x))∧Below W.heap.size W w'
theorem c_length (x:T):(c x).length=5:=rfl
theorem flat_nil:flat [] = []:=rfl
theorem flat_cons (x:T) (xs:List T):flat (x::xs)=c x++flat xs:=rfl
theorem flat_append (a b:List T):flat (a++b)=flat a++flat b:=List.flatMap_append
theorem flat_length : ∀ xs:List T,(flat xs).length=xs.length*5
 | []=>rfl
 | x::xs=>by rw [flat_cons,List.length_append,c_length,flat_length xs,List.length_cons];omega
theorem flat_drop : ∀ (xs:List T) (j:Nat),(flat xs).drop (j*5)=flat (xs.drop j)
 | xs,0=>by simp
 | [],j+1=>by simp [flat_nil]
 | x::xs,j+1=>by
  rw [flat_cons,List.drop_succ_cons,← flat_drop xs j,show (j+1)*5=(c x).length+j*5 by rw [c_length];omega,List.drop_append,List.drop_eq_nil_of_le (by omega),List.nil_append,Nat.add_sub_cancel_left]
theorem flat_take : ∀ (xs:List T) (j:Nat),(flat xs).take (j*5)=flat (xs.take j)
 | xs,0=>by simp [flat_nil]
 | [],j+1=>by simp [flat_nil]
 | x::xs,j+1=>by
  rw [flat_cons,List.take_succ_cons,flat_cons,← flat_take xs j,show (j+1)*5=(c x).length+j*5 by rw [c_length];omega,List.take_append,List.take_of_length_le (by omega),Nat.add_sub_cancel_left]
theorem flat_at (xs:List T) (j:Nat) (x:T) (h:xs[j]?=some x):((flat xs).drop (j*5)).take 5=c x:=by
 rw [flat_drop];have hj:j<xs.length:=(List.getElem?_eq_some_iff.1 h).1;rw [List.drop_eq_getElem_cons hj,flat_cons];have:xs[j]=x:=(List.getElem?_eq_some_iff.1 h).2;rw [this];exact List.take_left' (c_length x)
theorem flat_reps {R:T→List Value→Prop} (h : ∀ p,R p (c p)) (xs:List T):Reps R 5 xs (flat xs) :=
 ⟨flat_length xs,fun j p hj=>by rw [flat_at xs j p hj];exact h p⟩
theorem reps_flat {R:T→List Value→Prop} (h : ∀ p cs,R p cs→cs=c p) : ∀ (xs:List T) (cs:List Value),Reps R 5 xs cs→cs=flat xs
 | [],cs,hr=>by
  have:cs.length=0:=by simpa using hr.1
  rw [List.length_eq_zero_iff.1 this,flat_nil]
 | x::xs,cs,hr=>by
  have h0:=h _ _ (hr.2 0 x rfl);rw [Nat.zero_mul,List.drop_zero] at h0;have ih:=reps_flat h xs (cs.drop 5) ⟨by have:=hr.1;simp only [List.length_cons] at this;rw [List.length_drop];omega,fun j p hj=>by
   have:=hr.2 (j+1) p (by simpa using hj)
   rw [List.drop_drop];rwa [show 5+j*5=(j+1)*5 by omega]⟩
  rw [flat_cons,← ih,← h0,List.take_append_drop]
theorem flat_one (xs:List T) : ∀ u∈flat xs,u.oneCell'=true:=by
 intro u hu;obtain ⟨x,_,hx⟩:=List.mem_flatMap.1 hu;simp only [c,List.mem_cons,List.not_mem_nil,or_false] at hx;rcases hx with rfl|rfl|rfl|rfl|rfl <;> rfl
structure Row (w:World) (g cap:Nat) (cur:Array Value) (xs:List T):Prop where
 heap:w.heap[g]?=some (.cells cur 81 (0,0))
 le:xs.length≤cap
 max:cap≤9223372036854775807
 size:cur.size=cap*5
 cells:cur.toList.take (xs.length*5)=flat xs
theorem row_of_R {w:World} {base:Nat} {ok:Nat→Prop} {u:Value} {xs:List T} (h:Kd.R k81 81 w base ok u xs) (hp:0<xs.length) : ∃ g cap cur,u=.slice (some ⟨g,0,none⟩) xs.length cap∧base≤g∧Row w g cap cur xs:=by
 obtain ⟨_,inner,hown,hrep⟩:=h;have hf:=reps_flat (fun p cs hM=>k81_openM hM) xs inner hrep;obtain ⟨h1,h2⟩:=hown;rcases h2 with ⟨_,h0⟩|⟨g,cap,cur,hv,hb,hg,hle,hmax,hsz,hc⟩
 ·omega
 ·exact ⟨g,cap,cur,hv,hb,hg,hle,by unfold maxLen at hmax;exact hmax,hsz,by rw [← hf];exact hc⟩
theorem R_of_row {w:World} {base g cap:Nat} {cur:Array Value} {xs:List T} (h:Row w g cap cur xs) (hb:base≤g):Kd.R k81 81 w base (fun _=>True) (.slice (some ⟨g,0,none⟩) xs.length cap) xs :=
 ⟨fun _ _=>trivial,flat xs,⟨flat_length xs,.inr ⟨g,cap,cur,rfl,hb,h.heap,h.le,by unfold maxLen;exact h.max,h.size,h.cells⟩⟩,flat_reps (fun p=>k81_mkM _ _ _ p) xs⟩
theorem set_cells (cur:List Value) (l:List T) (x:T) (p cap:Nat) (hp:p<l.length) (hcap:l.length≤cap) (hsz:cur.length=cap*5) (hc:cur.take (l.length*5)=flat l) :
  (cur.take (p*5)++c x++cur.drop (p*5+5)).length=cap*5∧(cur.take (p*5)++c x++cur.drop (p*5+5)).take (l.length*5)=flat (l.set p x):=by
 refine ⟨by simp only [List.length_append,List.length_take,List.length_drop,hsz,c_length];omega,?_⟩
 have e1:cur.take (p*5)=flat (l.take p):=by rw [← flat_take,← hc,List.take_take,Nat.min_eq_left (by omega)]
 have e2:(cur.drop (p*5+5)).take ((l.length-(p+1))*5)=flat (l.drop (p+1)):=by
  rw [← flat_drop,← hc,List.drop_take];rw [show (p+1)*5=p*5+5 by omega]
  congr 1
  omega
 have hl1:(flat (l.take p)++c x).length=p*5+5:=by rw [List.length_append,flat_length,List.length_take,c_length];omega
 rw [e1,List.take_append,List.take_of_length_le (by omega),hl1,show l.length*5-(p*5+5)=(l.length-(p+1))*5 by omega,e2]
 rw [List.set_eq_take_append_cons_drop,if_pos hp,flat_append,flat_cons,List.append_assoc]
theorem idx (A0:Option Addr) (c0:Nat) (l:List T) (p:T→Bool) (g:Nat) (cb:Array Value) (w:World) (eg : ∀ args w,(callFunc g args).run Tryz.prog w=.ok (.enter g args) w)
  (hp:Pred g cb p w) (hr0:Kd.C k81 w A0 l.length l) (hl:l.length≤1000) :
  Calls Tryz.prog 197 #[.slice A0 l.length c0,.func (.func g) #[] cb] w fun e w'=>e=.returned (.int .i64 (idxL p 0 l))∧Below w.heap.size w w':=by
 have HR0:=Aside0.mk hr0;have HP:=Aside0.mk hp;clear hr0 hp;go_enter Tryz.func197,Tryz.ntmps197;go_wp2_with (fail)
 go_loopw [5,8] (fun _ v8 wr=>∃ i:Nat,i≤l.length∧v8=.int .i64 i∧Aside0 (∀ j (hj:j<i) (h2:j<l.length),p l[j]=false)∧Aside0 (Below w.heap.size w wr)) (fun _ v8 _=>l.length-(intOf v8).toNat)
 case atStart=>exact ⟨0,Nat.zero_le _,rfl,⟨fun j hj=>absurd hj (Nat.not_lt_zero _)⟩,⟨Below.refl _ _⟩⟩
 case round =>
  obtain ⟨i,hi,rfl,HN,HB⟩:=hrel;by_cases hlt:i<l.length
  ·obtain ⟨ad,e,x0,x1,x2,x3,x4⟩:=at_T81 (Kd.C_below HR0.out HB.out) (i:Int) (by omega) (by omega)
   cases e
   simp only [Int.toNat_natCast] at x0 x1 x2 x3 x4;have HX:=Aside0.mk (rdT l i hlt);have HC:=Aside0.mk (HP.out wr (rd_T81 l (i:Int)) HB.out);generalize rd_T81 l (i:Int)=x at x0 x1 x2 x3 x4 HX HC;cases hq:p x with
   | true =>
    have HC2:=HC.out;rw [hq] at HC2;have HQ:=Aside0.mk hq;clear hq HC;go_wp2_with (go_at_fn g;refine HC2.mono ?_;rintro e w1 ⟨rfl,hb1⟩;have HB1:=Aside0.mk hb1;clear hb1)
    go_ret
    refine ⟨?_,below_step HB.out HB1.out⟩;rw [idxL_some p l 0 i hlt (by rw [← HX.out];exact HQ.out) (fun j hj=>HN.out j hj (by omega)),Nat.zero_add]
    rfl
   | false =>
    have HC2:=HC.out;rw [hq] at HC2;have HQ:=Aside0.mk hq;clear hq HC;go_wp2_with (go_at_fn g;refine HC2.mono ?_;rintro e w1 ⟨rfl,hb1⟩;have HB1:=Aside0.mk (below_step HB.out hb1);clear hb1)
    refine ⟨⟨i+1,by omega,by go_num,⟨fun j hj h2=>?_⟩,HB1⟩,by simp [intOf];omega⟩
    rcases Nat.lt_or_ge j i with h5|h5
    ·exact HN.out j h5 h2
    ·obtain rfl:j=i:=by omega
     rw [← HX.out];exact HQ.out
  ·obtain rfl:i=l.length:=by omega
   go_wp2_with (fail)
   go_ret
   exact ⟨by rw [idxL_none p l 0 (fun j hj=>HN.out j hj hj)];rfl,HB.out⟩
theorem has (A0:Option Addr) (c0:Nat) (l:List T) (p:T→Bool) (g:Nat) (cb:Array Value) (w:World) (eg : ∀ args w,(callFunc g args).run Tryz.prog w=.ok (.enter g args) w)
  (hp:Pred g cb p w) (hr0:Kd.C k81 w A0 l.length l) (hl:l.length≤1000) :
  Calls Tryz.prog 119 #[.slice A0 l.length c0,.func (.func g) #[] cb] w fun e w'=>e=.returned (.bool (l.any p))∧Below w.heap.size w w':=by
 have HI:=Aside0.mk (idx A0 c0 l p g cb w eg hp hr0 hl);have HE:=Aside0.mk (idxL_any p l 0);clear hr0 hp;generalize idxL p 0 l=r at HI HE;go_enter Tryz.func119,Tryz.ntmps119;go_wp2_with (go_at_call 197;refine HI.out.mono ?_;rintro e w1 ⟨rfl,hb1⟩;have HB1:=Aside0.mk hb1;clear hb1)
 go_ret
 exact ⟨by rw [← HE.out];rfl,HB1.out⟩
def clone.f (l:List T):Option (List T):=if l.length≤1000 then some l else none
theorem info:(Tryz.prog.info? 81).map (fun i=>(i.zero,i.size,i.bytes))=some (some (.agg #[.int .u32 0,.int .u32 0,.int .u32 0,.int .u32 0,.int .u32 0]),5,20):=by kernel_rfl
theorem clone.calls (A0:Option Addr) (c0:Nat) (l0:List T) (r:List T) (w:World) (hr0:Kd.C k81 w A0 l0.length l0) (hc0:l0.length≤c0) (h:clone.f l0=some r) :
  Calls Tryz.prog 160 #[.slice A0 l0.length c0] w fun e w'=>∃ v0_:Value,e=.returned v0_∧Kd.R k81 81 w' w.heap.size (fun _=>True) v0_ r∧Below w.heap.size w w':=by
 unfold clone.f at h;by_cases hl:l0.length≤1000
 ·rw [if_pos hl] at h;cases h
  have q22 : ∀ (w:World) (a:Option Addr) (n c n' c':Nat),(binOp .eql 26 (.slice a n c) (.slice none n' c')).run Tryz.prog w=.ok (.bool a.isNone) w:=fun w a n c n' c'=>Lib.run_eql_slice_nil w _ _ a n c n' c' Tryz.underlying26;have HR0:=Aside0.mk hr0;have HC0:=Aside0.mk hc0;cases A0 with
  | none =>
   have hn:l0.length=0:=by
    rcases Nat.eq_zero_or_pos l0.length with h|h
    ·exact h
    ·obtain ⟨ad,e,_⟩:=at_T81 hr0 0 (by omega) (by omega)
     cases e
   have hl0:=List.length_eq_zero_iff.1 hn;subst hl0;go_enter Tryz.func160,Tryz.ntmps160;go_wp2_with (fail)
   go_ret
   exact ⟨_,rfl,Kd.R_nil _ _ _ _ _,Below.refl _ _⟩
  | some ad =>
   clear hr0 hc0;go_enter Tryz.func160,Tryz.ntmps160;go_wp2_with (first|((with_reducible refine gate_dst (N:=5) rfl ?_);refine Kd.R_lit k81 _ 81 ?hg (N:=5) ?hd (xs:=([]:List T)) (inner:=[]) (ok:=fun _=>True) (okp:=fun _=>True) ?hr ?hp (fun _ hk=>hk) trivial (Below.refl _ _) (Nat.le_refl _) (by simp) ?_;(case hd=>rfl);(case hg=>rfl);(case hr=>first|(go_simp;done)|(go_simp;rfl));(case hp=>exact (Reps.none _ _));intro v1 w1 ho1 hb1 hg_ hnew_;have HO1:=Aside0.mk ho1;have HB1:=Aside0.mk hb1;clear ho1 hb1 hg_ hnew_)|((with_reducible refine gate_builtin (b:=.append) (xs:=#[.tmp 5,.tmp 6]) rfl ?_);at_builtin;refine Kd.R_append_rows k81 (w0:=w) w.heap.size rfl (.tmp 5) (.tmp 6) 26 81 (.agg #[.int .u32 0,.int .u32 0,.int .u32 0,.int .u32 0,.int .u32 0]) 20 rfl Tryz.underlying26 info rfl (by decide) (by omega) v1 ([]:List T) l0 _ _ _ (fun _=>True) (fun _=>False) rfl rfl HO1.out (Kd.C_below HR0.out HB1.out) (fun _ _ h=>h) (fun _ h=>h.elim) (fun _ _=>trivial) HB1.out HB1.out.size (by simp;omega) ?_;intro v2 w2 ho2 hb2 hg hat;rw [List.nil_append] at ho2;have HO2:=Aside0.mk ho2;have HB2:=Aside0.mk hb2;clear ho2 hb2 hg hat))
   go_ret
   exact ⟨_,rfl,HO2.out,HB2.out⟩
 ·rw [if_neg hl] at h;cases h
instance:Inhabited T:=⟨zT⟩
open Go.Sort hiding Below in
theorem flatK_list (xs:List T):(flatK c 5 xs.toArray).toList=flat xs:=by
 apply List.ext_getElem?
 intro j;by_cases hj:j<xs.length*5
 ·have hq:j / 5<xs.length:=by omega
  have hf:=flat_at xs (j / 5) _ (List.getElem?_eq_getElem hq);have h2:(flat xs)[j]?=(c xs[j / 5])[j % 5]?:=by
   rw [← hf,List.getElem?_take,if_pos (by omega),List.getElem?_drop,show j / 5*5+j % 5=j by omega]
  have h3:j<(flatK c 5 xs.toArray).toList.length:=by simpa using hj
  rw [h2,List.getElem?_eq_getElem h3,List.getElem?_eq_getElem (l:=c xs[j / 5]) (by rw [c_length];omega)]
  have h4:=get_flatK c 5 xs.toArray j (by simpa using hj)
  rw [getElem!_pos _ j (by simpa using hj)] at h4
  rw [Array.getElem_toList,h4];congr 1
  rw [getElem!_pos xs.toArray _ (by simpa using hq)]
  simp only [List.getElem_toArray];exact getElem!_pos _ _ (by rw [c_length];omega)
 ·rw [List.getElem?_eq_none (by simpa using hj),List.getElem?_eq_none (by rw [flat_length];omega)]
open Go.Sort hiding Below in
theorem Row.holdsK {w:World} {g cap:Nat} {cur:Array Value} {xs:List T} (h:Row w g cap cur xs):HoldsK c 5 w g 0 xs.toArray:=by
 intro j hj;have hj':j<xs.length*5:=by simpa using hj
 have hl:=h.le;have hs:=h.size;have hlt:j<cur.size:=by have:=Nat.mul_le_mul_right 5 hl;omega
 refine ⟨?_,by simp [World.frozen?,h.heap]⟩
 have h1:(cur.toList.take (xs.length*5))[j]?=(flat xs)[j]?:=by rw [h.cells]
 rw [List.getElem?_take_of_lt hj',← flatK_list] at h1;simp only [World.cell?,h.heap,Nat.zero_add,Option.isSome_none,Bool.false_eq_true,if_false];rw [← Array.getElem?_toList,h1];rw [List.getElem?_eq_getElem (by simpa using hj')]
 simp [getElem!_pos (flatK c 5 xs.toArray) j hj]
open Go.Sort hiding Below in
theorem Row.sorted {w:World} {g cap n:Nat} {os:Array Obj} {cur:Array Value} {xs ys:List T} (h:Row w g cap cur xs) (hl:ys.length=xs.length) :
  ∃ cur',Row (sortWorldK c 5 w g 0 n ys.toArray os) g cap cur' ys:=by
 have hg:g<w.heap.size:=(Array.getElem?_eq_some_iff.1 h.heap).1;have hle:=h.le;have hs:=h.size;refine ⟨putCells id 0 (flatK c 5 ys.toArray) cur,?_,by omega,h.max,by simp [putCells,hs],?_⟩
 ·unfold sortWorldK;rw [heap_grow_old _ _ (by simpa [putRowK,putRow,mapBlock,Sort.ahead] using hg)]
  simp [putRowK,putRow,mapBlock,Sort.ahead,Array.getElem?_modify,h.heap,onCells]
 ·rw [← flatK_list];apply List.ext_getElem?
  intro j;by_cases hj:j<ys.length*5
  ·have hjc:j<cur.size:=by rw [hs];have:=Nat.mul_le_mul_right 5 hle;omega
   have hjf:j<(flatK c 5 ys.toArray).size:=by simpa using hj
   rw [List.getElem?_take_of_lt hj,Array.getElem?_toList,Array.getElem?_toList];simp [putCells,hj,hjc,hjf,getElem!_pos (flatK c 5 ys.toArray) j hjf]
  ·rw [List.getElem?_take_eq_none (by omega),List.getElem?_eq_none (by simpa using hj)]
open Go.Sort hiding Below in
theorem sorted_keep {w:World} {g n:Nat} {os:Array Obj} (ys:List T) (k:Nat) (hk:k<w.heap.size) (hne:k≠g):(sortWorldK c 5 w g 0 n ys.toArray os).heap[k]?=w.heap[k]?:=by
 unfold sortWorldK;rw [heap_grow_old _ _ (by simpa [putRowK,putRow,mapBlock,Sort.ahead] using hk)]
 have:g≠k:=fun e=>hne e.symm;simp [putRowK,putRow,mapBlock,Sort.ahead,Array.getElem?_modify,this]
open Go.Sort hiding Below in
theorem sorted_below {W0 w:World} {g n:Nat} {os:Array Obj} (ys:List T) (hB:Below W0.heap.size W0 w) (hg:W0.heap.size≤g):Below W0.heap.size W0 (sortWorldK c 5 w g 0 n ys.toArray os):=by
 have hgr:w.grownBy (sortWorldK c 5 w g 0 n ys.toArray os) (some g):=by
  refine ⟨rfl,rfl,rfl,by simp [sortWorldK,putRowK,putRow,mapBlock,Sort.ahead,grow],fun k hk hne=>sorted_keep ys k hk (fun e=>hne (by rw [e]))⟩
 exact hB.grown hgr hB.size (by intro k hk;injection hk with hk;omega)
theorem sort (W0:World) (g cap:Nat) (cur:Array Value) (l:List T) (cf:T→T→Int) (gf:Nat) (w:World) (eg : ∀ args w,(callFunc gf args).run Tryz.prog w=.ok (.enter gf args) w)
  (hO:Go.Sort.SWO (ltOf cf))
  (hcmp : ∀ (x y:T) (W:World),Calls Tryz.prog gf #[.agg (v x),.agg (v y)] W fun e w'=>e=.returned (.int .i64 (cf x y))∧∃ q os',w'=Go.Sort.grow (W.drewN q) os')
  (hrow:Row w g cap cur l) (hl:l.length≤1000) (hB:Below W0.heap.size W0 w) (hg:W0.heap.size≤g) :
  Calls Tryz.prog 284 #[.slice (some ⟨g,0,none⟩) l.length cap,.func (.func gf) #[] #[]] w fun e w'=>e=.returned (.tuple #[])∧(∃ l' cur',l'.Perm l∧l'.Pairwise (fun x y=>ltOf cf y x=false)∧Row w' g cap cur' l')∧Below W0.heap.size W0 w'∧(∀ (b:Nat) (o:Obj),b≠g→w.heap[b]?=some o→w'.heap[b]?=some o):=by
 have h:=AnyQ.slices_SortFunc Tryz.sortOpen 5 (by intro w;kernel_rfl) (by intro w;kernel_rfl) c (fun _=>rfl) (fun x u hu=>flat_one [x] u (by simpa [flat] using hu)) cf hO gf #[] g 0 cap l.toArray w eg (fun m os dk _ x y=>hcmp x y _) hrow.holdsK (Array.getElem?_eq_some_iff.1 hrow.heap).1 (by simp;omega)
 refine h.mono fun e w' hh=>⟨hh.1,?_⟩;obtain ⟨d',n,os,hp,hs,rfl⟩:=hh.2;obtain ⟨hsz,_,hperm⟩:=hp;have e1:d'.extract 0 l.toArray.size=d':=by rw [← hsz];exact Array.extract_size
 rw [e1,Array.extract_size] at hperm;refine ⟨?_,sorted_below d'.toList hB hg,fun b o hb ho=>(sorted_keep d'.toList b (Array.getElem?_eq_some_iff.1 ho).1 hb).trans ho⟩;obtain ⟨cur',hr⟩:=hrow.sorted (n:=n) (os:=os) (ys:=d'.toList) (by simpa using hsz)
 refine ⟨d'.toList,cur',by simpa using hperm,?_,hr⟩
 rw [List.pairwise_iff_getElem];intro i j hi hj hij;have hj':j<d'.size:=by simpa using hj
 have:=hs i j (Nat.zero_le _) hij (by rw [← hsz];exact hj')
 rw [getElem!_pos d' i (by omega),getElem!_pos d' j hj'] at this
 simpa using this
end O
end Go.Proofs.YtikjfekagdcjmaaGreatDoor.Q
namespace Go.Proofs.YtikjfekagdcjmaaGreatDoor.Q
open Go.RowKit Go.Proofs.YtikjfekagdcjmaaGreatDoorW.PrintWords Go.Proofs.YtikjfekagdcjmaaGreatDoorW.PrintLast Go.Proofs.YtikjfekagdcjmaaGreatDoorW.PrintMore
namespace B
abbrev T:=S87
abbrev v (x:T):Array Value:=#[.int .u32 x.f0,.string x.f1]
def zT:T:=⟨0,⟨#[]⟩⟩
def c (x:T):List Value:=[.int .u32 x.f0,.string x.f1]
def flat (xs:List T):List Value:=xs.flatMap c
theorem rdT (l:List T) (i:Nat) (h:i<l.length):rd_T87 l (i:Int)=l[i]:=by
 simp [rd_T87,List.getD_eq_getElem?_getD,List.getElem?_eq_getElem h]
def Pred (g:Nat) (cb:Array Value) (p:T→Bool) (w:World):Prop :=
 ∀ (W:World) (x:T),Below w.heap.size w W→Calls Tryz.prog g (#[.agg (v x)]++cb) W fun e w'=>e=.returned (.bool (p x))∧Below W.heap.size W w'
theorem c_length (x:T):(c x).length=2:=rfl
theorem flat_nil:flat [] = []:=rfl
theorem flat_cons (x:T) (xs:List T):flat (x::xs)=c x++flat xs:=rfl
theorem flat_append (a b:List T):flat (a++b)=flat a++flat b:=List.flatMap_append
theorem flat_length : ∀ xs:List T,(flat xs).length=xs.length*2
 | []=>rfl
 | x::xs=>by rw [flat_cons,List.length_append,c_length,flat_length xs,List.length_cons];omega
theorem flat_drop : ∀ (xs:List T) (j:Nat),(flat xs).drop (j*2)=flat (xs.drop j)
 | xs,0=>by simp
 | [],j+1=>by simp [flat_nil]
 | x::xs,j+1=>by
  rw [flat_cons,List.drop_succ_cons,← flat_drop xs j,show (j+1)*2=(c x).length+j*2 by rw [c_length];omega,List.drop_append,List.drop_eq_nil_of_le (by omega),List.nil_append,Nat.add_sub_cancel_left]
theorem flat_take : ∀ (xs:List T) (j:Nat),(flat xs).take (j*2)=flat (xs.take j)
 | xs,0=>by simp [flat_nil]
 | [],j+1=>by simp [flat_nil]
 | x::xs,j+1=>by
  rw [flat_cons,List.take_succ_cons,flat_cons,← flat_take xs j,show (j+1)*2=(c x).length+j*2 by rw [c_length];omega,List.take_append,List.take_of_length_le (by omega),Nat.add_sub_cancel_left]
theorem flat_at (xs:List T) (j:Nat) (x:T) (h:xs[j]?=some x):((flat xs).drop (j*2)).take 2=c x:=by
 rw [flat_drop];have hj:j<xs.length:=(List.getElem?_eq_some_iff.1 h).1;rw [List.drop_eq_getElem_cons hj,flat_cons];have:xs[j]=x:=(List.getElem?_eq_some_iff.1 h).2;rw [this];exact List.take_left' (c_length x)
theorem flat_reps {R:T→List Value→Prop} (h : ∀ p,R p (c p)) (xs:List T):Reps R 2 xs (flat xs) :=
 ⟨flat_length xs,fun j p hj=>by rw [flat_at xs j p hj];exact h p⟩
theorem reps_flat {R:T→List Value→Prop} (h : ∀ p cs,R p cs→cs=c p) : ∀ (xs:List T) (cs:List Value),Reps R 2 xs cs→cs=flat xs
 | [],cs,hr=>by
  have:cs.length=0:=by simpa using hr.1
  rw [List.length_eq_zero_iff.1 this,flat_nil]
 | x::xs,cs,hr=>by
  have h0:=h _ _ (hr.2 0 x rfl);rw [Nat.zero_mul,List.drop_zero] at h0;have ih:=reps_flat h xs (cs.drop 2) ⟨by have:=hr.1;simp only [List.length_cons] at this;rw [List.length_drop];omega,fun j p hj=>by
   have:=hr.2 (j+1) p (by simpa using hj)
   rw [List.drop_drop];rwa [show 2+j*2=(j+1)*2 by omega]⟩
  rw [flat_cons,← ih,← h0,List.take_append_drop]
theorem flat_one (xs:List T) : ∀ u∈flat xs,u.oneCell'=true:=by
 intro u hu;obtain ⟨x,_,hx⟩:=List.mem_flatMap.1 hu;simp only [c,List.mem_cons,List.not_mem_nil,or_false] at hx;rcases hx with rfl|rfl <;> rfl
structure Row (w:World) (g cap:Nat) (cur:Array Value) (xs:List T):Prop where
 heap:w.heap[g]?=some (.cells cur 87 (0,0))
 le:xs.length≤cap
 max:cap≤9223372036854775807
 size:cur.size=cap*2
 cells:cur.toList.take (xs.length*2)=flat xs
theorem row_of_R {w:World} {base:Nat} {ok:Nat→Prop} {u:Value} {xs:List T} (h:Kd.R k87 87 w base ok u xs) (hp:0<xs.length) : ∃ g cap cur,u=.slice (some ⟨g,0,none⟩) xs.length cap∧base≤g∧Row w g cap cur xs:=by
 obtain ⟨_,inner,hown,hrep⟩:=h;have hf:=reps_flat (fun p cs hM=>k87_openM hM) xs inner hrep;obtain ⟨h1,h2⟩:=hown;rcases h2 with ⟨_,h0⟩|⟨g,cap,cur,hv,hb,hg,hle,hmax,hsz,hc⟩
 ·omega
 ·exact ⟨g,cap,cur,hv,hb,hg,hle,by unfold maxLen at hmax;exact hmax,hsz,by rw [← hf];exact hc⟩
theorem R_of_row {w:World} {base g cap:Nat} {cur:Array Value} {xs:List T} (h:Row w g cap cur xs) (hb:base≤g):Kd.R k87 87 w base (fun _=>True) (.slice (some ⟨g,0,none⟩) xs.length cap) xs :=
 ⟨fun _ _=>trivial,flat xs,⟨flat_length xs,.inr ⟨g,cap,cur,rfl,hb,h.heap,h.le,by unfold maxLen;exact h.max,h.size,h.cells⟩⟩,flat_reps (fun p=>k87_mkM _ _ _ p) xs⟩
theorem set_cells (cur:List Value) (l:List T) (x:T) (p cap:Nat) (hp:p<l.length) (hcap:l.length≤cap) (hsz:cur.length=cap*2) (hc:cur.take (l.length*2)=flat l) :
  (cur.take (p*2)++c x++cur.drop (p*2+2)).length=cap*2∧(cur.take (p*2)++c x++cur.drop (p*2+2)).take (l.length*2)=flat (l.set p x):=by
 refine ⟨by simp only [List.length_append,List.length_take,List.length_drop,hsz,c_length];omega,?_⟩
 have e1:cur.take (p*2)=flat (l.take p):=by rw [← flat_take,← hc,List.take_take,Nat.min_eq_left (by omega)]
 have e2:(cur.drop (p*2+2)).take ((l.length-(p+1))*2)=flat (l.drop (p+1)):=by
  rw [← flat_drop,← hc,List.drop_take];rw [show (p+1)*2=p*2+2 by omega]
  congr 1
  omega
 have hl1:(flat (l.take p)++c x).length=p*2+2:=by rw [List.length_append,flat_length,List.length_take,c_length];omega
 rw [e1,List.take_append,List.take_of_length_le (by omega),hl1,show l.length*2-(p*2+2)=(l.length-(p+1))*2 by omega,e2]
 rw [List.set_eq_take_append_cons_drop,if_pos hp,flat_append,flat_cons,List.append_assoc]
theorem idx (A0:Option Addr) (c0:Nat) (l:List T) (p:T→Bool) (g:Nat) (cb:Array Value) (w:World) (eg : ∀ args w,(callFunc g args).run Tryz.prog w=.ok (.enter g args) w)
  (hp:Pred g cb p w) (hr0:Kd.C k87 w A0 l.length l) (hl:l.length≤1000) :
  Calls Tryz.prog 186 #[.slice A0 l.length c0,.func (.func g) #[] cb] w fun e w'=>e=.returned (.int .i64 (idxL p 0 l))∧Below w.heap.size w w':=by
 have HR0:=Aside0.mk hr0;have HP:=Aside0.mk hp;clear hr0 hp;go_enter Tryz.func186,Tryz.ntmps186;go_wp2_with (fail)
 go_loopw [5,8] (fun _ v8 wr=>∃ i:Nat,i≤l.length∧v8=.int .i64 i∧Aside0 (∀ j (hj:j<i) (h2:j<l.length),p l[j]=false)∧Aside0 (Below w.heap.size w wr)) (fun _ v8 _=>l.length-(intOf v8).toNat)
 case atStart=>exact ⟨0,Nat.zero_le _,rfl,⟨fun j hj=>absurd hj (Nat.not_lt_zero _)⟩,⟨Below.refl _ _⟩⟩
 case round =>
  obtain ⟨i,hi,rfl,HN,HB⟩:=hrel;by_cases hlt:i<l.length
  ·obtain ⟨ad,e,x0,x1⟩:=at_T87 (Kd.C_below HR0.out HB.out) (i:Int) (by omega) (by omega)
   cases e
   simp only [Int.toNat_natCast] at x0 x1;have HX:=Aside0.mk (rdT l i hlt);have HC:=Aside0.mk (HP.out wr (rd_T87 l (i:Int)) HB.out);generalize rd_T87 l (i:Int)=x at x0 x1 HX HC;cases hq:p x with
   | true =>
    have HC2:=HC.out;rw [hq] at HC2;have HQ:=Aside0.mk hq;clear hq HC;go_wp2_with (go_at_fn g;refine HC2.mono ?_;rintro e w1 ⟨rfl,hb1⟩;have HB1:=Aside0.mk hb1;clear hb1)
    go_ret
    refine ⟨?_,below_step HB.out HB1.out⟩;rw [idxL_some p l 0 i hlt (by rw [← HX.out];exact HQ.out) (fun j hj=>HN.out j hj (by omega)),Nat.zero_add]
    rfl
   | false =>
    have HC2:=HC.out;rw [hq] at HC2;have HQ:=Aside0.mk hq;clear hq HC;go_wp2_with (go_at_fn g;refine HC2.mono ?_;rintro e w1 ⟨rfl,hb1⟩;have HB1:=Aside0.mk (below_step HB.out hb1);clear hb1)
    refine ⟨⟨i+1,by omega,by go_num,⟨fun j hj h2=>?_⟩,HB1⟩,by simp [intOf];omega⟩
    rcases Nat.lt_or_ge j i with h5|h5
    ·exact HN.out j h5 h2
    ·obtain rfl:j=i:=by omega
     rw [← HX.out];exact HQ.out
  ·obtain rfl:i=l.length:=by omega
   go_wp2_with (fail)
   go_ret
   exact ⟨by rw [idxL_none p l 0 (fun j hj=>HN.out j hj hj)];rfl,HB.out⟩
def clone.f (l:List T):Option (List T):=if l.length≤1000 then some l else none
theorem info:(Tryz.prog.info? 87).map (fun i=>(i.zero,i.size,i.bytes))=some (some (.agg #[.int .u32 0,.string ⟨#[]⟩]),2,24):=by kernel_rfl
theorem clone.calls (A0:Option Addr) (c0:Nat) (l0:List T) (r:List T) (w:World) (hr0:Kd.C k87 w A0 l0.length l0) (hc0:l0.length≤c0) (h:clone.f l0=some r) :
  Calls Tryz.prog 161 #[.slice A0 l0.length c0] w fun e w'=>∃ v0_:Value,e=.returned v0_∧Kd.R k87 87 w' w.heap.size (fun _=>True) v0_ r∧Below w.heap.size w w':=by
 unfold clone.f at h;by_cases hl:l0.length≤1000
 ·rw [if_pos hl] at h;cases h
  have q22 : ∀ (w:World) (a:Option Addr) (n c n' c':Nat),(binOp .eql 65 (.slice a n c) (.slice none n' c')).run Tryz.prog w=.ok (.bool a.isNone) w:=fun w a n c n' c'=>Lib.run_eql_slice_nil w _ _ a n c n' c' Tryz.underlying65;have HR0:=Aside0.mk hr0;have HC0:=Aside0.mk hc0;cases A0 with
  | none =>
   have hn:l0.length=0:=by
    rcases Nat.eq_zero_or_pos l0.length with h|h
    ·exact h
    ·obtain ⟨ad,e,_⟩:=at_T87 hr0 0 (by omega) (by omega)
     cases e
   have hl0:=List.length_eq_zero_iff.1 hn;subst hl0;go_enter Tryz.func161,Tryz.ntmps161;go_wp2_with (fail)
   go_ret
   exact ⟨_,rfl,Kd.R_nil _ _ _ _ _,Below.refl _ _⟩
  | some ad =>
   clear hr0 hc0;go_enter Tryz.func161,Tryz.ntmps161;go_wp2_with (first|((with_reducible refine gate_dst (N:=5) rfl ?_);refine Kd.R_lit k87 _ 87 ?hg (N:=5) ?hd (xs:=([]:List T)) (inner:=[]) (ok:=fun _=>True) (okp:=fun _=>True) ?hr ?hp (fun _ hk=>hk) trivial (Below.refl _ _) (Nat.le_refl _) (by simp) ?_;(case hd=>rfl);(case hg=>rfl);(case hr=>first|(go_simp;done)|(go_simp;rfl));(case hp=>exact (Reps.none _ _));intro v1 w1 ho1 hb1 hg_ hnew_;have HO1:=Aside0.mk ho1;have HB1:=Aside0.mk hb1;clear ho1 hb1 hg_ hnew_)|((with_reducible refine gate_builtin (b:=.append) (xs:=#[.tmp 5,.tmp 6]) rfl ?_);at_builtin;refine Kd.R_append_rows k87 (w0:=w) w.heap.size rfl (.tmp 5) (.tmp 6) 65 87 (.agg #[.int .u32 0,.string ⟨#[]⟩]) 24 rfl Tryz.underlying65 info rfl (by decide) (by omega) v1 ([]:List T) l0 _ _ _ (fun _=>True) (fun _=>False) rfl rfl HO1.out (Kd.C_below HR0.out HB1.out) (fun _ _ h=>h) (fun _ h=>h.elim) (fun _ _=>trivial) HB1.out HB1.out.size (by simp;omega) ?_;intro v2 w2 ho2 hb2 hg hat;rw [List.nil_append] at ho2;have HO2:=Aside0.mk ho2;have HB2:=Aside0.mk hb2;clear ho2 hb2 hg hat))
   go_ret
   exact ⟨_,rfl,HO2.out,HB2.out⟩
 ·rw [if_neg hl] at h;cases h
end B
end Go.Proofs.YtikjfekagdcjmaaGreatDoor.Q
namespace Go.Proofs.YtikjfekagdcjmaaGreatDoor.Q
open Go.RowKit Go.Proofs.YtikjfekagdcjmaaGreatDoorW.PrintWords Go.Proofs.YtikjfekagdcjmaaGreatDoorW.PrintLast Go.Proofs.YtikjfekagdcjmaaGreatDoorW.PrintMore
section
attribute [local go_sem] max2_int min2_int max_two min_two max_three min_three max_four min_four
def flat_clone.f (a0_0:Int) (l0_1:List (S43)) (l0_2:List (S81)) (l0_3:List (S87)):Option (Int×(List (S43))×(List (S81))×(List (S87))):=(clone34.f l0_1).bind fun t152=>((O.clone.f l0_2).bind fun t155=>((B.clone.f l0_3).bind fun t158=>(some (a0_0,t152,t155,t158))))
def flat_clone.T1:Bool×List (List Nat×List Nat):=(true,[([],[]),([0],[0]),([1],[1]),([],[]),([3],[3]),([4,2],[4]),([],[]),([6],[6]),([7,5],[7]),([0,1,2,3,4,6,7],[]),([9,2,8,0,1,2,3,4,6,7],[2,9]),([0,1,2,3,4,5,6,7,9,10],[]),([11,5,10,0,1,2,3,4,5,6,7,9,10],[5,11]),([0,1,2,3,4,5,6,7,8,9,10,11,12],[]),([13,8,12,0,1,2,3,4,5,6,7,8,9,10,11,12],[8,13])])
def flat_clone.B1:List Nat:=[0,1,3,0,8,31,0,64,255,223,1023,2047,4095,8191,16383]
theorem flat_clone.tab1:rtab .any (opsOf Tryz.f96 1)=flat_clone.T1:=by kernel_rfl
theorem flat_clone.bits1:waitsOk flat_clone.T1.2 flat_clone.B1=true:=by kernel_rfl
theorem flat_clone.calls (a0_0:Int) (A0_1:Option Addr) (c0_1:Nat) (l0_1:List (S43)) (A0_2:Option Addr) (c0_2:Nat) (l0_2:List (S81)) (A0_3:Option Addr) (c0_3:Nat) (l0_3:List (S87)) (r1:Int) (r2:List (S43)) (r3:List (S81)) (r4:List (S87)) (w:World) (hr0_1:Kd.C k43 w A0_1 l0_1.length l0_1) (hc0_1:l0_1.length≤c0_1) (hr0_2:Kd.C k81 w A0_2 l0_2.length l0_2) (hc0_2:l0_2.length≤c0_2) (hr0_3:Kd.C k87 w A0_3 l0_3.length l0_3) (hc0_3:l0_3.length≤c0_3) (h:flat_clone.f a0_0 l0_1 l0_2 l0_3=some (r1,r2,r3,r4)) :
  Calls Tryz.prog 96 #[.agg #[.int .u32 a0_0,.slice A0_1 l0_1.length c0_1,.slice A0_2 l0_2.length c0_2,.slice A0_3 l0_3.length c0_3]] w fun e w'=>∃ v1_ v2_ v3_:Value,e=.returned (.agg #[.int .u32 r1,v1_,v2_,v3_])∧Kd.R k43 43 w' w.heap.size (fun _=>True) v1_ r2∧Kd.R k81 81 w' w.heap.size (fun _=>True) v2_ r3∧Kd.R k87 87 w' w.heap.size (fun _=>True) v3_ r4∧Below w.heap.size w w':=by
 have hu67:=Tryz.underlying67;have HR0_1:=Aside0.mk hr0_1;have HC0_1:=Aside0.mk hc0_1;clear hr0_1 hc0_1;have HR0_2:=Aside0.mk hr0_2;have HC0_2:=Aside0.mk hc0_2;clear hr0_2 hc0_2;have HR0_3:=Aside0.mk hr0_3;have HC0_3:=Aside0.mk hc0_3;clear hr0_3 hc0_3;have HB:=Aside0.mk (Below.refl w.heap.size w);have H:((clone34.f l0_1).bind fun t152=>((O.clone.f l0_2).bind fun t155=>((B.clone.f l0_3).bind fun t158=>(some (a0_0,t152,t155,t158)))))=some (r1,r2,r3,r4):=h;clear h;replace H:=Option.bind_eq_some_iff.mp H;obtain ⟨t152,A20,H⟩:=H;replace H:((O.clone.f l0_2).bind fun t155=>((B.clone.f l0_3).bind fun t158=>(some (a0_0,t152,t155,t158))))=some (r1,r2,r3,r4):=H;have A2:=Aside0.mk A20;clear A20;replace H:=Option.bind_eq_some_iff.mp H;obtain ⟨t155,A30,H⟩:=H;replace H:((B.clone.f l0_3).bind fun t158=>(some (a0_0,t152,t155,t158)))=some (r1,r2,r3,r4):=H;have A3:=Aside0.mk A30;clear A30;replace H:=Option.bind_eq_some_iff.mp H;obtain ⟨t158,A40,H⟩:=H;replace H:(some (a0_0,t152,t155,t158))=some (r1,r2,r3,r4):=H;have A4:=Aside0.mk A40;clear A40;simp only [Option.some.injEq,Prod.mk.injEq] at H;obtain ⟨rfl,rfl,rfl,rfl⟩:=H;go_enter Tryz.func96,Tryz.ntmps96;try go_wp2_with (first|((with_reducible refine gate_dst (N:=1) rfl ?_);refine bx 1 #[.int .u32 a0_0,.slice A0_1 l0_1.length c0_1,.slice A0_2 l0_2.length c0_2,.slice A0_3 l0_3.length c0_3] 67 ?_;intro gb150 hg w5 hbox hb;have BK150:=Aside0.mk (hbox);have GW150:=Aside0.mk ((gG hg:w.heap.size≤gb150));have GE150:=Aside0.mk ((gG hg:w.heap.size≤gb150));replace HB:=Aside0.mk (below_step bD hb);clear hb hbox hg)|((with_reducible refine gate_dst (N:=2) rfl ?_);refine bx 2 #[.int .u32 0,.slice none 0 0,.slice none 0 0,.slice none 0 0] 67 ?_;intro gb151 hg w6 hbox hb;have n0_:=Aside0.mk (kb BK150 hb);have n1_:=Aside0.mk (below_step bD hb);have n2_:=Aside0.mk (hbox);have n3_:=Aside0.mk ((gG hg:w.heap.size≤gb151));have n4_:=Aside0.mk ((gG hg:w.heap.size≤gb151));have n5_:=Aside0.mk ((gN BK150 hg));have n6_:=Aside0.mk ((gN' BK150 hg));clear BK150;clear HB;have BK150:=n0_;have HB:=n1_;have BK151:=n2_;have GW151:=n3_;have GE151:=n4_;have NB150_151:=n5_;have NB151_150:=n6_;clear n0_ n1_ n2_ n3_ n4_ n5_ n6_;clear hb hbox hg))
 replace BK150:=Aside0.mk (blk_drew BK150.out);replace BK151:=Aside0.mk (blk_drew BK151.out);replace HB:=Aside0.mk (below_drew1 HB.out);refine rs 15 (fun w'=>w'.cell? ⟨gb150,0,none⟩=some (.int .u32 a0_0)∧w'.cell? ⟨gb150,1,none⟩=some (.slice A0_1 l0_1.length c0_1)∧w'.cell? ⟨gb150,2,none⟩=some (.slice A0_2 l0_2.length c0_2)∧w'.cell? ⟨gb150,3,none⟩=some (.slice A0_3 l0_3.length c0_3)) [10,12,14] ⟨(blk_cell BK150.out 0).trans rfl,(blk_cell BK150.out 1).trans rfl,(blk_cell BK150.out 2).trans rfl,(blk_cell BK150.out 3).trans rfl⟩ (fun hHeld=>?_);refine with_tabW flat_clone.tab1 flat_clone.bits1 (fun HT_ HW_=>?_);generalize w6.drew=w7 at BK150 BK151 HB hHeld ⊢;refine rp 0 (some 3) ?_;refine rp 3 (some 6) ?_;refine rp 6 (some 9) ?_;refine rt 1 (some 4) ?_;refine rt 4 (some 7) ?_;refine rt 7 (some 10) ?_;refine ro 2 (some 5) (fun K hK=>?_);refine cr Tryz.func159 #[.slice A0_1 l0_1.length c0_1] ?_;with_reducible refine (clone34.calls _ _ l0_1 t152 _ ?side1 ?side2 A2.out).mono ?_
 (case side1=>exact cD)
 (case side2=>exact HC0_1.out)
 rintro e w8 ⟨v153,rfl,ho0,hb⟩;refine ⟨_,rfl,?_⟩;have HO154:=Aside0.mk (Kd.R_lower ho0 (below_size bD));replace BK150:=Aside0.mk (kb BK150 hb);replace BK151:=Aside0.mk (kb BK151 hb);replace HB:=Aside0.mk (below_step bD hb)
 (try clear hb)
 (try clear hb2)
 (try clear hk)
 (try clear hi)
 (try clear ho0)
 refine hK.out _ _ ⟨(blk_cell BK150.out 0).trans rfl,(blk_cell BK150.out 1).trans rfl,(blk_cell BK150.out 2).trans rfl,(blk_cell BK150.out 3).trans rfl⟩ (fun hHeld=>?_);clear hK K;refine rn ?_;refine rp 9 (some 12) ?_;refine ro 5 (some 8) (fun K hK=>?_);refine cr Tryz.func160 #[.slice A0_2 l0_2.length c0_2] ?_;with_reducible refine (O.clone.calls _ _ l0_2 t155 _ ?side1 ?side2 A3.out).mono ?_
 (case side1=>exact cD)
 (case side2=>exact HC0_2.out)
 rintro e w9 ⟨v156,rfl,ho0,hb⟩;refine ⟨_,rfl,?_⟩;replace HO154:=Aside0.mk (Kd.R_below (by (with_reducible repeat (first|apply Kd.R_alloc|apply Kd.R_drewN|apply Kd.R_drew));exact HO154.out) hb);have HO157:=Aside0.mk (Kd.R_lower ho0 (below_size bD));replace BK150:=Aside0.mk (kb BK150 hb);replace BK151:=Aside0.mk (kb BK151 hb);replace HB:=Aside0.mk (below_step bD hb)
 (try clear hb)
 (try clear hb2)
 (try clear hk)
 (try clear hi)
 (try clear ho0)
 refine hK.out _ _ ⟨(blk_cell BK150.out 0).trans rfl,(blk_cell BK150.out 1).trans rfl,(blk_cell BK150.out 2).trans rfl,(blk_cell BK150.out 3).trans rfl⟩ (fun hHeld=>?_);clear hK K;refine rn ?_;refine ro 8 (some 11) (fun K hK=>?_);refine cr Tryz.func161 #[.slice A0_3 l0_3.length c0_3] ?_;with_reducible refine (B.clone.calls _ _ l0_3 t158 _ ?side1 ?side2 A4.out).mono ?_
 (case side1=>exact cD)
 (case side2=>exact HC0_3.out)
 rintro e w10 ⟨v159,rfl,ho0,hb⟩;refine ⟨_,rfl,?_⟩;replace HO154:=Aside0.mk (Kd.R_below (by (with_reducible repeat (first|apply Kd.R_alloc|apply Kd.R_drewN|apply Kd.R_drew));exact HO154.out) hb);replace HO157:=Aside0.mk (Kd.R_below (by (with_reducible repeat (first|apply Kd.R_alloc|apply Kd.R_drewN|apply Kd.R_drew));exact HO157.out) hb);have HO160:=Aside0.mk (Kd.R_lower ho0 (below_size bD));replace BK150:=Aside0.mk (kb BK150 hb);replace BK151:=Aside0.mk (kb BK151 hb);replace HB:=Aside0.mk (below_step bD hb)
 (try clear hb)
 (try clear hb2)
 (try clear hk)
 (try clear hi)
 (try clear ho0)
 obtain ⟨Ao11,co11,eo11⟩:=Kd.R_slice HO154.out
 (first|subst eo11|(injection eo11 with f1_ f2_ f3_;have f4_:=f1_.symm;have f5_:=f3_.symm;clear f1_ f2_ f3_;subst f4_;subst f5_))
 obtain ⟨Ao13,co13,eo13⟩:=Kd.R_slice HO157.out
 (first|subst eo13|(injection eo13 with f1_ f2_ f3_;have f4_:=f1_.symm;have f5_:=f3_.symm;clear f1_ f2_ f3_;subst f4_;subst f5_))
 obtain ⟨Ao15,co15,eo15⟩:=Kd.R_slice HO160.out
 (first|subst eo15|(injection eo15 with f1_ f2_ f3_;have f4_:=f1_.symm;have f5_:=f3_.symm;clear f1_ f2_ f3_;subst f4_;subst f5_))
 refine hK.out _ _ ⟨(blk_cell BK150.out 0).trans rfl,(blk_cell BK150.out 1).trans rfl,(blk_cell BK150.out 2).trans rfl,(blk_cell BK150.out 3).trans rfl⟩ (fun hHeld=>?_);clear hK K;refine rn ?_;refine rl 10 none (fun K hK=>?_);have hs12:w10.cell? ⟨gb150,1,none⟩=some (.slice A0_1 l0_1.length c0_1):=(blk_cell BK150.out 1).trans rfl;have hfs12:=blk_frozen BK150.out 1;have hns12_1:=NB151_150.out;have hms12_1:=NB150_151.out;refine skip_ (w1:=?_) (by rfl) rfl ?_ ?_
 rotate_left
 ·go_simp;rfl
 refine hK.out _ _ ?_;clear hK K;refine rp 11 (some 13) ?_;refine rl 12 none (fun K hK=>?_);have hs14:w10.cell? ⟨gb150,2,none⟩=some (.slice A0_2 l0_2.length c0_2):=(blk_cell BK150.out 2).trans rfl;have hfs14:=blk_frozen BK150.out 2;have hns14_1:=NB151_150.out;have hms14_1:=NB150_151.out;refine skip_ (w1:=?_) (by rfl) rfl ?_ ?_
 rotate_left
 ·go_simp;rfl
 refine hK.out _ _ ?_;clear hK K;refine rp 13 (some 14) ?_;refine rl 14 none (fun K hK=>?_);have hs16:w10.cell? ⟨gb150,3,none⟩=some (.slice A0_3 l0_3.length c0_3):=(blk_cell BK150.out 3).trans rfl;have hfs16:=blk_frozen BK150.out 3;have hns16_1:=NB151_150.out;have hms16_1:=NB150_151.out;refine skip_ (w1:=?_) (by rfl) rfl ?_ ?_
 rotate_left
 ·go_simp;rfl
 refine hK.out _ _ ?_;clear hK K;refine done_ (done_of HT_.out (by kernel_rfl)) ?_
 have hnb17:=NB150_151.out;have hnc17:=NB151_150.out;obtain ⟨hcz18_0,hcz18_1,hcz18_2,hcz18_3⟩:=cc4 BK150.out;obtain ⟨hfz18_0,hfz18_1,hfz18_2,hfz18_3⟩:=ff4 BK150.out;obtain ⟨hcz19_0,hcz19_1,hcz19_2,hcz19_3⟩:=cc4 BK151.out;obtain ⟨hfz19_0,hfz19_1,hfz19_2,hfz19_3⟩:=ff4 BK151.out;try go_wp2
 refine bodyPost_ret (results_cell_row rfl _ _ gb151 67 #[.int .u32 a0_0,.slice Ao11 t152.length co11,.slice Ao13 t155.length co13,.slice Ao15 t158.length co15] (0,0) _ rfl (by (with_reducible repeat (first|refine blk_drewN ?_ _|refine blk_drew ?_|refine blk_alloc ?_ _));refine blk_put (cs:=#[.int .u32 a0_0,.slice Ao11 t152.length co11,.slice Ao13 t155.length co13,.slice none 0 0]) ?_ 3 _ rfl;(with_reducible repeat (first|refine blk_drewN ?_ _|refine blk_drew ?_|refine blk_alloc ?_ _));refine blk_put (cs:=#[.int .u32 a0_0,.slice Ao11 t152.length co11,.slice none 0 0,.slice none 0 0]) ?_ 2 _ rfl;(with_reducible repeat (first|refine blk_drewN ?_ _|refine blk_drew ?_|refine blk_alloc ?_ _));refine blk_put (cs:=#[.int .u32 a0_0,.slice none 0 0,.slice none 0 0,.slice none 0 0]) ?_ 1 _ rfl;(with_reducible repeat (first|refine blk_drewN ?_ _|refine blk_drew ?_|refine blk_alloc ?_ _));refine blk_put (cs:=#[.int .u32 0,.slice none 0 0,.slice none 0 0,.slice none 0 0]) ?_ 0 _ rfl;(with_reducible repeat (first|refine blk_drewN ?_ _|refine blk_drew ?_|refine blk_alloc ?_ _));refine blk_far ?_ NB151_150.out _;(with_reducible repeat (first|refine blk_drewN ?_ _|refine blk_drew ?_|refine blk_alloc ?_ _));refine blk_far ?_ NB151_150.out _;(with_reducible repeat (first|refine blk_drewN ?_ _|refine blk_drew ?_|refine blk_alloc ?_ _));refine blk_far ?_ NB151_150.out _;(with_reducible repeat (first|refine blk_drewN ?_ _|refine blk_drew ?_|refine blk_alloc ?_ _));exact BK151.out) Tryz.underlying67 rfl (by kernel_rfl)) rfl ?_
 exact ⟨_,_,_,eE,by (with_reducible repeat (first|apply Kd.R_alloc|apply Kd.R_drewN|apply Kd.R_drew));exact Kd.R_mono (Kd.R_far (p:=⟨gb151,3,none⟩) (Kd.R_far (p:=⟨gb151,2,none⟩) (Kd.R_far (p:=⟨gb151,1,none⟩) (Kd.R_far (p:=⟨gb151,0,none⟩) (Kd.R_far (p:=⟨gb150,3,none⟩) (Kd.R_far (p:=⟨gb150,2,none⟩) (Kd.R_far (p:=⟨gb150,1,none⟩) (Kd.R_types (Kd.R_types HO154.out BK150.out (by decide)) BK151.out (by decide)) (fun _ hk=>hk.1.2) (.slice Ao11 t152.length co11)) (fun _ hk=>hk.1.2) (.slice Ao13 t155.length co13)) (fun _ hk=>hk.1.2) (.slice Ao15 t158.length co15)) (fun _ hk=>hk.2) (.int .u32 a0_0)) (fun _ hk=>hk.2) (.slice Ao11 t152.length co11)) (fun _ hk=>hk.2) (.slice Ao13 t155.length co13)) (fun _ hk=>hk.2) (.slice Ao15 t158.length co15)) (fun _ hk=>trivial),by (with_reducible repeat (first|apply Kd.R_alloc|apply Kd.R_drewN|apply Kd.R_drew));exact Kd.R_mono (Kd.R_far (p:=⟨gb151,3,none⟩) (Kd.R_far (p:=⟨gb151,2,none⟩) (Kd.R_far (p:=⟨gb151,1,none⟩) (Kd.R_far (p:=⟨gb151,0,none⟩) (Kd.R_far (p:=⟨gb150,3,none⟩) (Kd.R_far (p:=⟨gb150,2,none⟩) (Kd.R_far (p:=⟨gb150,1,none⟩) (Kd.R_types (Kd.R_types HO157.out BK150.out (by decide)) BK151.out (by decide)) (fun _ hk=>hk.1.2) (.slice Ao11 t152.length co11)) (fun _ hk=>hk.1.2) (.slice Ao13 t155.length co13)) (fun _ hk=>hk.1.2) (.slice Ao15 t158.length co15)) (fun _ hk=>hk.2) (.int .u32 a0_0)) (fun _ hk=>hk.2) (.slice Ao11 t152.length co11)) (fun _ hk=>hk.2) (.slice Ao13 t155.length co13)) (fun _ hk=>hk.2) (.slice Ao15 t158.length co15)) (fun _ hk=>trivial),by (with_reducible repeat (first|apply Kd.R_alloc|apply Kd.R_drewN|apply Kd.R_drew));exact Kd.R_mono (Kd.R_far (p:=⟨gb151,3,none⟩) (Kd.R_far (p:=⟨gb151,2,none⟩) (Kd.R_far (p:=⟨gb151,1,none⟩) (Kd.R_far (p:=⟨gb151,0,none⟩) (Kd.R_far (p:=⟨gb150,3,none⟩) (Kd.R_far (p:=⟨gb150,2,none⟩) (Kd.R_far (p:=⟨gb150,1,none⟩) (Kd.R_types (Kd.R_types HO160.out BK150.out (by decide)) BK151.out (by decide)) (fun _ hk=>hk.1.2) (.slice Ao11 t152.length co11)) (fun _ hk=>hk.1.2) (.slice Ao13 t155.length co13)) (fun _ hk=>hk.1.2) (.slice Ao15 t158.length co15)) (fun _ hk=>hk.2) (.int .u32 a0_0)) (fun _ hk=>hk.2) (.slice Ao11 t152.length co11)) (fun _ hk=>hk.2) (.slice Ao13 t155.length co13)) (fun _ hk=>hk.2) (.slice Ao15 t158.length co15)) (fun _ hk=>trivial),bD⟩
def share_Find.l0:Nat→Int→Int→List (S81)→Int→Int→Option (Int×Int×Int×Int×Int×Bool)
 | 0,_,_,_,_,_=>none
 | k+1,x1,x2,x10,x11,x12=>if x12<x11 then (if 0≤x12 then (if x12<(x10.length:Int) then (if ((rd_T81 x10 x12).f0)=x1 then (if ((rd_T81 x10 x12).f1)=x2 then (some ((rd_T81 x10 x12).f0,(rd_T81 x10 x12).f1,(rd_T81 x10 x12).f2,(rd_T81 x10 x12).f3,(rd_T81 x10 x12).f4,true)) else (share_Find.l0 k x1 x2 x10 x11 (wrap64 (x12+1)))) else (share_Find.l0 k x1 x2 x10 x11 (wrap64 (x12+1)))) else (none)) else (none)) else (some (0,0,0,0,0,false))
def share_Find.f (k:Nat) (l0:List (S81)) (a1:Int) (a2:Int):Option (Int×Int×Int×Int×Int×Bool):=share_Find.l0 k a1 a2 l0 (l0.length:Int) 0
theorem share_Find.calls (k:Nat) (A0:Option Addr) (c0:Nat) (l0:List (S81)) (a1:Int) (a2:Int) (r1:Int) (r2:Int) (r3:Int) (r4:Int) (r5:Int) (r6:Bool) (w:World) (hr0:Kd.C k81 w A0 l0.length l0) (hc0:l0.length≤c0) (h:share_Find.f k l0 a1 a2=some (r1,r2,r3,r4,r5,r6)) :
  Calls Tryz.prog 124 #[.slice A0 l0.length c0,.int .u32 a1,.int .u32 a2] w fun e w'=>e=.returned (.tuple #[.agg #[.int .u32 r1,.int .u32 r2,.int .u32 r3,.int .u32 r4,.int .u32 r5],.bool r6])∧Below w.heap.size w w':=by
 have hu81:=Tryz.underlying81;have HR0:=Aside0.mk hr0;have HC0:=Aside0.mk hc0;clear hr0 hc0;have HB:=Aside0.mk (Below.refl w.heap.size w);have H:(share_Find.l0 k a1 a2 l0 (l0.length:Int) 0)=some (r1,r2,r3,r4,r5,r6):=h;clear h;have H':=Aside0.mk H;clear H;go_enter Tryz.func124,Tryz.ntmps124;go_wp2_with (first|((with_reducible refine gate_dst (N:=6) rfl ?_);refine bx 6 #[.int .u32 0,.int .u32 0,.int .u32 0,.int .u32 0,.int .u32 0] 81 ?_;intro gb161 hg w4 hbox hb;have BK161:=Aside0.mk (hbox);have GW161:=Aside0.mk ((gG hg:w.heap.size≤gb161));have GE161:=Aside0.mk ((gG hg:w.heap.size≤gb161));replace HB:=Aside0.mk (below_step bD hb);clear hb hbox hg))
 go_loopg [12] k (fun kq v12 w'=>∃ (x12_1:Int) (x162000_1:Int) (x162001_1:Int) (x162002_1:Int) (x162003_1:Int) (x162004_1:Int),v12=.int .i64 x12_1∧Aside0 (share_Find.l0 kq a1 a2 l0 (l0.length:Int) x12_1=some (r1,r2,r3,r4,r5,r6))∧Aside0 (kq≤k)∧Aside0 (w'.heap[gb161]?=some (.cells #[.int .u32 x162000_1,.int .u32 x162001_1,.int .u32 x162002_1,.int .u32 x162003_1,.int .u32 x162004_1] 81 (0,0)))∧Aside0 (Below w.heap.size w w'))
 case atStart=>exact ⟨(0),(0),(0),(0),(0),(0),eS,H',⟨Nat.le_refl _⟩,⟨kD⟩,⟨bD⟩⟩
 case round =>
  clear H'
  (try clear c1;try clear p2)
  obtain ⟨x12_1,x162000_1,x162001_1,x162002_1,x162003_1,x162004_1,rfl,HA,HK1,BK161,HB⟩:=hrel;cases gk with
  | zero=>exact absurd HA.out (by simp [share_Find.l0])
  | succ k1 =>
   have H:=HA.out;clear HA;simp only [share_Find.l0] at H;by_cases c5:x12_1<(l0.length:Int)
   ·rw [if_pos c5] at H;have c5b0:=decide_eq_true c5;clear c5;by_cases c6:0≤x12_1
    ·rw [if_pos c6] at H;have c6b0:=decide_eq_true c6;clear c6;by_cases c7:x12_1<(l0.length:Int)
     ·rw [if_pos c7] at H;have c7b0:=decide_eq_true c7;clear c7;by_cases c8:((rd_T81 l0 x12_1).f0)=a1
      ·rw [if_pos c8] at H;have c8b0:=qT c8;have c8b1:=nF c8;clear c8;by_cases c9:((rd_T81 l0 x12_1).f1)=a2
       ·rw [if_pos c9] at H;have c9b0:=qT c9;have c9b1:=nF c9;clear c9;simp only [Option.some.injEq,Prod.mk.injEq] at H;obtain ⟨rfl,rfl,rfl,rfl,rfl,rfl⟩:=H;have p162:0≤(x12_1:Int):=pA;have q162:x12_1<(l0.length:Int):=pA;obtain ⟨ad162,e162,hx162_0,hx162_1,hx162_2,hx162_3,hx162_4⟩:=at_T81 HR0.out x12_1 p162 q162;cases e162
        replace hx162_0:=cB hx162_0;replace hx162_1:=cB hx162_1;replace hx162_2:=cB hx162_2;replace hx162_3:=cB hx162_3;replace hx162_4:=cB hx162_4;replace p162:=eq_true p162;replace q162:=eq_true q162;go_wp2_with (first|((with_reducible refine gate_dst (N:=9) rfl ?_);refine bx 9 #[.int .u32 0,.int .u32 0,.int .u32 0,.int .u32 0,.int .u32 0] 81 ?_;intro gb163 hg w10 hbox hb;have n0_:=Aside0.mk (kb BK161 hb);have n1_:=Aside0.mk (below_step bD hb);have n2_:=Aside0.mk (hbox);have n3_:=Aside0.mk ((gG hg:w.heap.size≤gb163));have n4_:=Aside0.mk ((gG hg:w.heap.size≤gb163));have n5_:=Aside0.mk ((gN BK161 hg));have n6_:=Aside0.mk ((gN' BK161 hg));clear BK161;clear HB;have BK161:=n0_;have HB:=n1_;have BK163:=n2_;have GW163:=n3_;have GE163:=n4_;have NB161_163:=n5_;have NB163_161:=n6_;clear n0_ n1_ n2_ n3_ n4_ n5_ n6_;clear hb hbox hg;have hnb11:=NB163_161.out;have hnc11:=NB161_163.out;obtain ⟨hcz12_0,hcz12_1,hcz12_2,hcz12_3,hcz12_4⟩:=cc5 BK163.out;obtain ⟨hfz12_0,hfz12_1,hfz12_2,hfz12_3,hfz12_4⟩:=ff5 BK163.out;obtain ⟨hcz13_0,hcz13_1,hcz13_2,hcz13_3,hcz13_4⟩:=cc5 BK161.out;obtain ⟨hfz13_0,hfz13_1,hfz13_2,hfz13_3,hfz13_4⟩:=ff5 BK161.out))
        refine bodyPost_ret (results_ct rfl _ _ gb161 81 #[.int .u32 ((rd_T81 l0 x12_1).f0),.int .u32 ((rd_T81 l0 x12_1).f1),.int .u32 ((rd_T81 l0 x12_1).f2),.int .u32 ((rd_T81 l0 x12_1).f3),.int .u32 ((rd_T81 l0 x12_1).f4)] (0,0) _ rfl (by (with_reducible repeat (first|refine blk_drewN ?_ _|refine blk_drew ?_|refine blk_alloc ?_ _));refine blk_put (cs:=#[.int .u32 ((rd_T81 l0 x12_1).f0),.int .u32 ((rd_T81 l0 x12_1).f1),.int .u32 ((rd_T81 l0 x12_1).f2),.int .u32 ((rd_T81 l0 x12_1).f3),.int .u32 x162004_1]) ?_ 4 _ rfl;(with_reducible repeat (first|refine blk_drewN ?_ _|refine blk_drew ?_|refine blk_alloc ?_ _));refine blk_put (cs:=#[.int .u32 ((rd_T81 l0 x12_1).f0),.int .u32 ((rd_T81 l0 x12_1).f1),.int .u32 ((rd_T81 l0 x12_1).f2),.int .u32 x162003_1,.int .u32 x162004_1]) ?_ 3 _ rfl;(with_reducible repeat (first|refine blk_drewN ?_ _|refine blk_drew ?_|refine blk_alloc ?_ _));refine blk_put (cs:=#[.int .u32 ((rd_T81 l0 x12_1).f0),.int .u32 ((rd_T81 l0 x12_1).f1),.int .u32 x162002_1,.int .u32 x162003_1,.int .u32 x162004_1]) ?_ 2 _ rfl;(with_reducible repeat (first|refine blk_drewN ?_ _|refine blk_drew ?_|refine blk_alloc ?_ _));refine blk_put (cs:=#[.int .u32 ((rd_T81 l0 x12_1).f0),.int .u32 x162001_1,.int .u32 x162002_1,.int .u32 x162003_1,.int .u32 x162004_1]) ?_ 1 _ rfl;(with_reducible repeat (first|refine blk_drewN ?_ _|refine blk_drew ?_|refine blk_alloc ?_ _));refine blk_put (cs:=#[.int .u32 x162000_1,.int .u32 x162001_1,.int .u32 x162002_1,.int .u32 x162003_1,.int .u32 x162004_1]) ?_ 0 _ rfl;(with_reducible repeat (first|refine blk_drewN ?_ _|refine blk_drew ?_|refine blk_alloc ?_ _));refine blk_far ?_ NB161_163.out _;(with_reducible repeat (first|refine blk_drewN ?_ _|refine blk_drew ?_|refine blk_alloc ?_ _));refine blk_far ?_ NB161_163.out _;(with_reducible repeat (first|refine blk_drewN ?_ _|refine blk_drew ?_|refine blk_alloc ?_ _));refine blk_far ?_ NB161_163.out _;(with_reducible repeat (first|refine blk_drewN ?_ _|refine blk_drew ?_|refine blk_alloc ?_ _));refine blk_far ?_ NB161_163.out _;(with_reducible repeat (first|refine blk_drewN ?_ _|refine blk_drew ?_|refine blk_alloc ?_ _));refine blk_far ?_ NB161_163.out _;(with_reducible repeat (first|refine blk_drewN ?_ _|refine blk_drew ?_|refine blk_alloc ?_ _));exact BK161.out) Tryz.underlying81 rfl (by kernel_rfl)) rfl ?_
        exact ⟨eE,bD⟩
       ·rw [if_neg c9] at H;have c9b0:=qF c9;have c9b1:=nT c9;have H':=Aside0.mk H;clear H;have p162:0≤(x12_1:Int):=pA;have q162:x12_1<(l0.length:Int):=pA;obtain ⟨ad162,e162,hx162_0,hx162_1,hx162_2,hx162_3,hx162_4⟩:=at_T81 HR0.out x12_1 p162 q162;cases e162
        replace hx162_0:=cB hx162_0;replace hx162_1:=cB hx162_1;replace hx162_2:=cB hx162_2;replace hx162_3:=cB hx162_3;replace hx162_4:=cB hx162_4;replace p162:=eq_true p162;replace q162:=eq_true q162;go_wp2_with (first|((with_reducible refine gate_dst (N:=9) rfl ?_);refine bx 9 #[.int .u32 0,.int .u32 0,.int .u32 0,.int .u32 0,.int .u32 0] 81 ?_;intro gb163 hg w14 hbox hb;have n0_:=Aside0.mk (kb BK161 hb);have n1_:=Aside0.mk (below_step bD hb);have n2_:=Aside0.mk (hbox);have n3_:=Aside0.mk ((gG hg:w.heap.size≤gb163));have n4_:=Aside0.mk ((gG hg:w.heap.size≤gb163));have n5_:=Aside0.mk ((gN BK161 hg));have n6_:=Aside0.mk ((gN' BK161 hg));clear BK161;clear HB;have BK161:=n0_;have HB:=n1_;have BK163:=n2_;have GW163:=n3_;have GE163:=n4_;have NB161_163:=n5_;have NB163_161:=n6_;clear n0_ n1_ n2_ n3_ n4_ n5_ n6_;clear hb hbox hg;have hnb15:=NB163_161.out;have hnc15:=NB161_163.out;obtain ⟨hcz16_0,hcz16_1,hcz16_2,hcz16_3,hcz16_4⟩:=cc5 BK163.out;obtain ⟨hfz16_0,hfz16_1,hfz16_2,hfz16_3,hfz16_4⟩:=ff5 BK163.out))
        go_roundg k1
        case measure=>have:=HK1.out;omega
        case rel=>exact ⟨(wrap64 (x12_1+1)),(x162000_1),(x162001_1),(x162002_1),(x162003_1),(x162004_1),eS,H',⟨by have:=HK1.out;omega⟩,⟨kF⟩,⟨bD⟩⟩
      ·rw [if_neg c8] at H;have c8b0:=qF c8;have c8b1:=nT c8;have H':=Aside0.mk H;clear H;have p162:0≤(x12_1:Int):=pA;have q162:x12_1<(l0.length:Int):=pA;obtain ⟨ad162,e162,hx162_0,hx162_1,hx162_2,hx162_3,hx162_4⟩:=at_T81 HR0.out x12_1 p162 q162;cases e162
       replace hx162_0:=cB hx162_0;replace hx162_1:=cB hx162_1;replace hx162_2:=cB hx162_2;replace hx162_3:=cB hx162_3;replace hx162_4:=cB hx162_4;replace p162:=eq_true p162;replace q162:=eq_true q162;go_wp2_with (first|((with_reducible refine gate_dst (N:=9) rfl ?_);refine bx 9 #[.int .u32 0,.int .u32 0,.int .u32 0,.int .u32 0,.int .u32 0] 81 ?_;intro gb163 hg w17 hbox hb;have n0_:=Aside0.mk (kb BK161 hb);have n1_:=Aside0.mk (below_step bD hb);have n2_:=Aside0.mk (hbox);have n3_:=Aside0.mk ((gG hg:w.heap.size≤gb163));have n4_:=Aside0.mk ((gG hg:w.heap.size≤gb163));have n5_:=Aside0.mk ((gN BK161 hg));have n6_:=Aside0.mk ((gN' BK161 hg));clear BK161;clear HB;have BK161:=n0_;have HB:=n1_;have BK163:=n2_;have GW163:=n3_;have GE163:=n4_;have NB161_163:=n5_;have NB163_161:=n6_;clear n0_ n1_ n2_ n3_ n4_ n5_ n6_;clear hb hbox hg;have hnb18:=NB163_161.out;have hnc18:=NB161_163.out;obtain ⟨hcz19_0,hcz19_1,hcz19_2,hcz19_3,hcz19_4⟩:=cc5 BK163.out;obtain ⟨hfz19_0,hfz19_1,hfz19_2,hfz19_3,hfz19_4⟩:=ff5 BK163.out))
       go_roundg k1
       case measure=>have:=HK1.out;omega
       case rel=>exact ⟨(wrap64 (x12_1+1)),(x162000_1),(x162001_1),(x162002_1),(x162003_1),(x162004_1),eS,H',⟨by have:=HK1.out;omega⟩,⟨kF⟩,⟨bD⟩⟩
     ·rw [if_neg c7] at H;exact absurd H (by simp)
    ·rw [if_neg c6] at H;exact absurd H (by simp)
   ·rw [if_neg c5] at H;have c5b0:=decide_eq_false c5;clear c5;simp only [Option.some.injEq,Prod.mk.injEq] at H;obtain ⟨rfl,rfl,rfl,rfl,rfl,rfl⟩:=H;obtain ⟨hcz20_0,hcz20_1,hcz20_2,hcz20_3,hcz20_4⟩:=cc5 BK161.out;obtain ⟨hfz20_0,hfz20_1,hfz20_2,hfz20_3,hfz20_4⟩:=ff5 BK161.out;go_wp2
    refine bodyPost_ret (results_ct rfl _ _ gb161 81 #[.int .u32 0,.int .u32 0,.int .u32 0,.int .u32 0,.int .u32 0] (0,0) _ rfl p5 Tryz.underlying81 rfl (by kernel_rfl)) rfl ?_
    exact ⟨eE,bD⟩
def flat_free.l0:Nat→Int→Int→Int→List (S43)→List (S81)→List (S87)→Option (Int)
 | 0,_,_,_,_,_,_=>none
 | k+1,x1,x8,x165000,x165001,x165002,x165003=>if x8<4 then ((share_Find.f k x165002 x1 ((x8) % 4294967296)).bind fun bt165=>(if bt165.2.2.2.2.2=true then (flat_free.l0 k x1 (wrap64 (x8+1)) x165000 x165001 x165002 x165003) else (some x8))) else (some (-1))
def flat_free.f (k:Nat) (a0_0:Int) (l0_1:List (S43)) (l0_2:List (S81)) (l0_3:List (S87)) (a1:Int):Option (Int):=flat_free.l0 k a1 0 a0_0 l0_1 l0_2 l0_3
theorem flat_free.calls (k:Nat) (a0_0:Int) (A0_1:Option Addr) (c0_1:Nat) (l0_1:List (S43)) (A0_2:Option Addr) (c0_2:Nat) (l0_2:List (S81)) (A0_3:Option Addr) (c0_3:Nat) (l0_3:List (S87)) (a1:Int) (r:Int) (w:World) (hr0_1:Kd.C k43 w A0_1 l0_1.length l0_1) (hc0_1:l0_1.length≤c0_1) (hr0_2:Kd.C k81 w A0_2 l0_2.length l0_2) (hc0_2:l0_2.length≤c0_2) (hr0_3:Kd.C k87 w A0_3 l0_3.length l0_3) (hc0_3:l0_3.length≤c0_3) (h:flat_free.f k a0_0 l0_1 l0_2 l0_3 a1=some r) :
  Calls Tryz.prog 162 #[.agg #[.int .u32 a0_0,.slice A0_1 l0_1.length c0_1,.slice A0_2 l0_2.length c0_2,.slice A0_3 l0_3.length c0_3],.int .u32 a1] w fun e w'=>e=.returned (.int .i64 r)∧Below w.heap.size w w':=by
 have hu67:=Tryz.underlying67;have hu81:=Tryz.underlying81;have HR0_1:=Aside0.mk hr0_1;have HC0_1:=Aside0.mk hc0_1;clear hr0_1 hc0_1;have HR0_2:=Aside0.mk hr0_2;have HC0_2:=Aside0.mk hc0_2;clear hr0_2 hc0_2;have HR0_3:=Aside0.mk hr0_3;have HC0_3:=Aside0.mk hc0_3;clear hr0_3 hc0_3;have HB:=Aside0.mk (Below.refl w.heap.size w);have H:(flat_free.l0 k a1 0 a0_0 l0_1 l0_2 l0_3)=some r:=h;clear h;have H':=Aside0.mk H;clear H;go_enter Tryz.func162,Tryz.ntmps162;go_wp2_with (first|((with_reducible refine gate_dst (N:=2) rfl ?_);refine bx 2 #[.int .u32 a0_0,.slice A0_1 l0_1.length c0_1,.slice A0_2 l0_2.length c0_2,.slice A0_3 l0_3.length c0_3] 67 ?_;intro gb164 hg w3 hbox hb;have BK164:=Aside0.mk (hbox);have GW164:=Aside0.mk ((gG hg:w.heap.size≤gb164));have GE164:=Aside0.mk ((gG hg:w.heap.size≤gb164));replace HB:=Aside0.mk (below_step bD hb);clear hb hbox hg))
 go_loopg [8] k (fun kq v8 w'=>∃ (x8_1:Int),v8=.int .i64 x8_1∧Aside0 (flat_free.l0 kq a1 x8_1 a0_0 l0_1 l0_2 l0_3=some r)∧Aside0 (kq≤k)∧Aside0 (w'.heap[gb164]?=some (.cells #[.int .u32 a0_0,(.slice A0_1 l0_1.length c0_1),(.slice A0_2 l0_2.length c0_2),(.slice A0_3 l0_3.length c0_3)] 67 (0,0)))∧Aside0 (Below w.heap.size w w'))
 case atStart=>exact ⟨(0),eS,H',⟨Nat.le_refl _⟩,⟨kD⟩,⟨bD⟩⟩
 case round =>
  clear H'
  (try clear c1;try clear p2)
  obtain ⟨x8_1,rfl,HA,HK1,BK164,HB⟩:=hrel;cases gk with
  | zero=>exact absurd HA.out (by simp [flat_free.l0])
  | succ k1 =>
   have H:=HA.out;clear HA;simp only [flat_free.l0] at H;by_cases c4:x8_1<4
   ·rw [if_pos c4] at H;have c4b0:=decide_eq_true c4;clear c4;replace H:=Option.bind_eq_some_iff.mp H;obtain ⟨⟨t165,t166,t167,t168,t169,t170⟩,A50,H⟩:=H;replace H:(if t170=true then (flat_free.l0 k1 a1 (wrap64 (x8_1+1)) a0_0 l0_1 l0_2 l0_3) else (some x8_1))=some r:=H
    have A5:=Aside0.mk A50;clear A50;by_cases c6:t170=true
    ·subst c6;replace H:=ifTT H;have H':=Aside0.mk H;clear H;obtain ⟨hcz7_0,hcz7_1,hcz7_2,hcz7_3⟩:=cc4 BK164.out;obtain ⟨hfz7_0,hfz7_1,hfz7_2,hfz7_3⟩:=ff4 BK164.out;go_wp2_with (first|((with_reducible refine gate_callee (f:=124) rfl ?_);refine ca (some 17) Tryz.func124 #[.slice A0_2 l0_2.length c0_2,.int .u32 a1,.int .u32 ((x8_1) % 4294967296)] ?_;(with_reducible refine (share_Find.calls k1 _ _ l0_2 a1 ((x8_1) % 4294967296) t165 t166 t167 t168 t169 true _ ?side1 ?side2 A5.out).mono ?_);(case side1=>exact cD);(case side2=>exact HC0_2.out);rintro e w8 ⟨rfl,hb⟩;refine ⟨_,rfl,?_⟩;replace BK164:=Aside0.mk (kb BK164 hb);replace HB:=Aside0.mk (below_step bD hb);(try clear hb);(try clear hb2);(try clear hk);(try clear hi))|((with_reducible refine gate_dst (N:=6) rfl ?_);refine bx 6 #[.int .u32 0,.int .u32 0,.int .u32 0,.int .u32 0,.int .u32 0] 81 ?_;intro gb171 hg w9 hbox hb;have n0_:=Aside0.mk (kb BK164 hb);have n1_:=Aside0.mk (below_step bD hb);have n2_:=Aside0.mk (hbox);have n3_:=Aside0.mk ((gG hg:w.heap.size≤gb171));have n4_:=Aside0.mk ((gG hg:w.heap.size≤gb171));have n5_:=Aside0.mk ((gN BK164 hg));have n6_:=Aside0.mk ((gN' BK164 hg));clear BK164;clear HB;have BK164:=n0_;have HB:=n1_;have BK171:=n2_;have GW171:=n3_;have GE171:=n4_;have NB164_171:=n5_;have NB171_164:=n6_;clear n0_ n1_ n2_ n3_ n4_ n5_ n6_;clear hb hbox hg;have hnb10:=NB171_164.out;have hnc10:=NB164_171.out;obtain ⟨hcz11_0,hcz11_1,hcz11_2,hcz11_3,hcz11_4⟩:=cc5 BK171.out;obtain ⟨hfz11_0,hfz11_1,hfz11_2,hfz11_3,hfz11_4⟩:=ff5 BK171.out))
     go_roundg k1
     case measure=>have:=HK1.out;omega
     case rel=>exact ⟨(wrap64 (x8_1+1)),eS,H',⟨by have:=HK1.out;omega⟩,⟨kF⟩,⟨bD⟩⟩
    ·replace c6:=Bool.eq_false_iff.mpr c6;subst c6;replace H:=ifFF H;obtain rfl:=Option.some.inj H;obtain ⟨hcz12_0,hcz12_1,hcz12_2,hcz12_3⟩:=cc4 BK164.out;obtain ⟨hfz12_0,hfz12_1,hfz12_2,hfz12_3⟩:=ff4 BK164.out;go_wp2_with (first|((with_reducible refine gate_callee (f:=124) rfl ?_);refine ca (some 17) Tryz.func124 #[.slice A0_2 l0_2.length c0_2,.int .u32 a1,.int .u32 ((x8_1) % 4294967296)] ?_;(with_reducible refine (share_Find.calls k1 _ _ l0_2 a1 ((x8_1) % 4294967296) t165 t166 t167 t168 t169 false _ ?side1 ?side2 A5.out).mono ?_);(case side1=>exact cD);(case side2=>exact HC0_2.out);rintro e w13 ⟨rfl,hb⟩;refine ⟨_,rfl,?_⟩;replace BK164:=Aside0.mk (kb BK164 hb);replace HB:=Aside0.mk (below_step bD hb);(try clear hb);(try clear hb2);(try clear hk);(try clear hi))|((with_reducible refine gate_dst (N:=6) rfl ?_);refine bx 6 #[.int .u32 0,.int .u32 0,.int .u32 0,.int .u32 0,.int .u32 0] 81 ?_;intro gb171 hg w14 hbox hb;have n0_:=Aside0.mk (kb BK164 hb);have n1_:=Aside0.mk (below_step bD hb);have n2_:=Aside0.mk (hbox);have n3_:=Aside0.mk ((gG hg:w.heap.size≤gb171));have n4_:=Aside0.mk ((gG hg:w.heap.size≤gb171));have n5_:=Aside0.mk ((gN BK164 hg));have n6_:=Aside0.mk ((gN' BK164 hg));clear BK164;clear HB;have BK164:=n0_;have HB:=n1_;have BK171:=n2_;have GW171:=n3_;have GE171:=n4_;have NB164_171:=n5_;have NB171_164:=n6_;clear n0_ n1_ n2_ n3_ n4_ n5_ n6_;clear hb hbox hg;have hnb15:=NB171_164.out;have hnc15:=NB164_171.out;obtain ⟨hcz16_0,hcz16_1,hcz16_2,hcz16_3,hcz16_4⟩:=cc5 BK171.out;obtain ⟨hfz16_0,hfz16_1,hfz16_2,hfz16_3,hfz16_4⟩:=ff5 BK171.out))
     go_ret
     exact ⟨eE,bD⟩
   ·rw [if_neg c4] at H;have c4b0:=decide_eq_false c4;clear c4;obtain rfl:=Option.some.inj H;go_wp2
    go_ret
    exact ⟨eE,bD⟩
end
end Go.Proofs.YtikjfekagdcjmaaGreatDoor.Q
