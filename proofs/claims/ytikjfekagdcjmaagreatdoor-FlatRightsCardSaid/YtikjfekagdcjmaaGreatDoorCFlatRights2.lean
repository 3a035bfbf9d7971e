/- Contracts and plain theory behind FlatRights. -/
import Derived.Test.YtikjfekagdcjmaaGreatDoorProg
import Derived.Below
import Derived.Deep.Draws
import Derived.Deep.AppendLies
import Derived.Maps.AppendAt
import Derived.OwnWalk
import Derived.Laws.BytesArg
import Derived.Laws.MakeOwn
import Derived.Laws.OwnMore
import Derived.Deep.OwnRows
import Derived.Tactics
import Derived.Lib.ConvBytes
import Derived.Laws.Slices
import Derived.WalkKit
import Derived.KernelRfl
import Derived.RowKit3
import Derived.Deep.LoopGhost
import Derived.Deep.QuietTactic
import Derived.BigQuiet
import Derived.WideLaws
import Derived.Deep.DeepCutAuto
import Derived.Deep.CutBlock
import Derived.Deep.RegionHeld3
import Derived.Laws.Rows
import Derived.Lib.AppendStr
import Derived.ArgAppend
import Derived.Laws.IdiomCopy
import Derived.OrdersHeld
import Derived.Laws.BitsLemmas
import Derived.RowKit
import Derived.Outline
import Derived.Laws.CopyRow
import Derived.Lib.AppendZerosOnto
import Derived.Lib.Overlaps
import Derived.Shelf.Spec.SlicesInsert
import Derived.Deep.RegionLaw
import Derived.Test.YtikjfekagdcjmaaGreatDoorCFlatRights0
import Derived.Test.YtikjfekagdcjmaaGreatDoorCFlatRights1
set_option linter.unusedVariables false
set_option linter.unusedSimpArgs false
set_option maxHeartbeats 16000000
set_option maxRecDepth 100000
namespace Go.Proofs.YtikjfekagdcjmaaGreatDoor.Q
open Go.RowKit Go.Proofs.YtikjfekagdcjmaaGreatDoorW.PrintWords Go.Proofs.YtikjfekagdcjmaaGreatDoorW.PrintLast Go.Proofs.YtikjfekagdcjmaaGreatDoorW.PrintMore
section
attribute [local go_sem] max2_int min2_int max_two min_two max_three min_three max_four min_four
def errW:Option Int→Value
 | none=>.nilIface
 | some c=>.iface 0 (.int .i64 c)
theorem errW_none:errW none=.nilIface:=rfl
theorem errW_some (c:Int):errW (some c)=.iface 0 (.int .i64 c):=rfl
theorem info9:(Tryz.prog.info? 9).map (fun i=>(i.zero,i.size,i.bytes))=some (some (.string ⟨#[]⟩),1,16):=by kernel_rfl
theorem info43:(Tryz.prog.info? 43).map (fun i=>(i.zero,i.size,i.bytes))=some (some (.agg #[(.int .u32 0),(.int .u32 0),(.string ⟨#[]⟩),(.bool false),(.int .u32 0)]),5,32):=by kernel_rfl
theorem info81:(Tryz.prog.info? 81).map (fun i=>(i.zero,i.size,i.bytes))=some (some (.agg #[(.int .u32 0),(.int .u32 0),(.int .u32 0),(.int .u32 0),(.int .u32 0)]),5,20):=by kernel_rfl
structure S43 where
 f0:Int
 f1:Int
 f2:ByteArray
 f3:Bool
 f4:Int
def z43:S43:=⟨(0:Int),(0:Int),(⟨#[]⟩:ByteArray),false,(0:Int)⟩
def k43:Kd S43:=Kd.iso (Kd.pair (Kd.int .u32) (Kd.pair (Kd.int .u32) (Kd.pair Kd.string (Kd.pair Kd.bool (Kd.int .u32))))) (fun x:S43=>(x.f0,x.f1,x.f2,x.f3,x.f4))
theorem k43_open {w:World} {x:S43} {cs:List Value} (h:k43.K w x cs):cs = [.int .u32 x.f0,.int .u32 x.f1,.string x.f2,.bool x.f3,.int .u32 x.f4]:=by
 obtain ⟨_,_,rfl,rfl,⟨_,_,rfl,rfl,⟨_,_,rfl,rfl,⟨_,_,rfl,rfl,rfl⟩⟩⟩⟩:=h;exact rfl
theorem k43_openM {w:World} {base:Nat} {ok:Nat→Prop} {x:S43} {cs:List Value} (h:k43.M w base ok x cs):cs = [.int .u32 x.f0,.int .u32 x.f1,.string x.f2,.bool x.f3,.int .u32 x.f4]:=by
 obtain ⟨_,_,rfl,rfl,⟨_,_,rfl,rfl,⟨_,_,rfl,rfl,⟨_,_,rfl,rfl,rfl⟩⟩⟩⟩:=h;exact rfl
theorem k43_mk (w:World) (x:S43)  : k43.K w x [.int .u32 x.f0,.int .u32 x.f1,.string x.f2,.bool x.f3,.int .u32 x.f4]:=⟨[.int .u32 x.f0],[.int .u32 x.f1,.string x.f2,.bool x.f3,.int .u32 x.f4],rfl,rfl,⟨[.int .u32 x.f1],[.string x.f2,.bool x.f3,.int .u32 x.f4],rfl,rfl,⟨[.string x.f2],[.bool x.f3,.int .u32 x.f4],rfl,rfl,⟨[.bool x.f3],[.int .u32 x.f4],rfl,rfl,rfl⟩⟩⟩⟩
theorem k43_mkM (w:World) (base:Nat) (ok:Nat→Prop) (x:S43)  : k43.M w base ok x [.int .u32 x.f0,.int .u32 x.f1,.string x.f2,.bool x.f3,.int .u32 x.f4]:=⟨[.int .u32 x.f0],[.int .u32 x.f1,.string x.f2,.bool x.f3,.int .u32 x.f4],rfl,rfl,⟨[.int .u32 x.f1],[.string x.f2,.bool x.f3,.int .u32 x.f4],rfl,rfl,⟨[.string x.f2],[.bool x.f3,.int .u32 x.f4],rfl,rfl,⟨[.bool x.f3],[.int .u32 x.f4],rfl,rfl,rfl⟩⟩⟩⟩
def rd_T43 (xs:List S43) (i:Int):S43:=xs.getD i.toNat z43
theorem at_T43 {w:World} {A:Option Addr} {n:Nat} {xs:List S43} (h:Kd.C k43 w A n xs) (i:Int) (h0:0≤i) (h1:i<n) : ∃ ad ,A=some ad∧w.cell? (ad.add (i.toNat*5))=some (.int .u32 (rd_T43 xs i).f0)∧w.cell? ⟨(ad.add (i.toNat*5)).block,(ad.add (i.toNat*5)).off+1,none⟩=some (.int .u32 (rd_T43 xs i).f1)∧w.cell? ⟨(ad.add (i.toNat*5)).block,(ad.add (i.toNat*5)).off+2,none⟩=some (.string (rd_T43 xs i).f2)∧w.cell? ⟨(ad.add (i.toNat*5)).block,(ad.add (i.toNat*5)).off+3,none⟩=some (.bool (rd_T43 xs i).f3)∧w.cell? ⟨(ad.add (i.toNat*5)).block,(ad.add (i.toNat*5)).off+4,none⟩=some (.int .u32 (rd_T43 xs i).f4):=by
 obtain ⟨ad,c,e,_,hK,hc0⟩:=Kd.C_get h z43 i h0 h1;have hc : ∀ j u,c[j]?=some u→w.cell? (ad.add (i.toNat*5+j))=some u:=hc0;obtain rfl:=k43_open hK;exact ⟨ad,e,hc 0 _ rfl,by rw [← add_field _ _ 1 (by omega)];exact hc 1 _ rfl,by rw [← add_field _ _ 2 (by omega)];exact hc 2 _ rfl,by rw [← add_field _ _ 3 (by omega)];exact hc 3 _ rfl,by rw [← add_field _ _ 4 (by omega)];exact hc 4 _ rfl⟩
structure S81 where
 f0:Int
 f1:Int
 f2:Int
 f3:Int
 f4:Int
def z81:S81:=⟨(0:Int),(0:Int),(0:Int),(0:Int),(0:Int)⟩
def k81:Kd S81:=Kd.iso (Kd.pair (Kd.int .u32) (Kd.pair (Kd.int .u32) (Kd.pair (Kd.int .u32) (Kd.pair (Kd.int .u32) (Kd.int .u32))))) (fun x:S81=>(x.f0,x.f1,x.f2,x.f3,x.f4))
theorem k81_open {w:World} {x:S81} {cs:List Value} (h:k81.K w x cs):cs = [.int .u32 x.f0,.int .u32 x.f1,.int .u32 x.f2,.int .u32 x.f3,.int .u32 x.f4]:=by
 obtain ⟨_,_,rfl,rfl,⟨_,_,rfl,rfl,⟨_,_,rfl,rfl,⟨_,_,rfl,rfl,rfl⟩⟩⟩⟩:=h;exact rfl
theorem k81_openM {w:World} {base:Nat} {ok:Nat→Prop} {x:S81} {cs:List Value} (h:k81.M w base ok x cs):cs = [.int .u32 x.f0,.int .u32 x.f1,.int .u32 x.f2,.int .u32 x.f3,.int .u32 x.f4]:=by
 obtain ⟨_,_,rfl,rfl,⟨_,_,rfl,rfl,⟨_,_,rfl,rfl,⟨_,_,rfl,rfl,rfl⟩⟩⟩⟩:=h;exact rfl
theorem k81_mkM (w:World) (base:Nat) (ok:Nat→Prop) (x:S81)  : k81.M w base ok x [.int .u32 x.f0,.int .u32 x.f1,.int .u32 x.f2,.int .u32 x.f3,.int .u32 x.f4]:=⟨[.int .u32 x.f0],[.int .u32 x.f1,.int .u32 x.f2,.int .u32 x.f3,.int .u32 x.f4],rfl,rfl,⟨[.int .u32 x.f1],[.int .u32 x.f2,.int .u32 x.f3,.int .u32 x.f4],rfl,rfl,⟨[.int .u32 x.f2],[.int .u32 x.f3,.int .u32 x.f4],rfl,rfl,⟨[.int .u32 x.f3],[.int .u32 x.f4],rfl,rfl,rfl⟩⟩⟩⟩
def rd_T81 (xs:List S81) (i:Int):S81:=xs.getD i.toNat z81
theorem at_T81 {w:World} {A:Option Addr} {n:Nat} {xs:List S81} (h:Kd.C k81 w A n xs) (i:Int) (h0:0≤i) (h1:i<n) : ∃ ad ,A=some ad∧w.cell? (ad.add (i.toNat*5))=some (.int .u32 (rd_T81 xs i).f0)∧w.cell? ⟨(ad.add (i.toNat*5)).block,(ad.add (i.toNat*5)).off+1,none⟩=some (.int .u32 (rd_T81 xs i).f1)∧w.cell? ⟨(ad.add (i.toNat*5)).block,(ad.add (i.toNat*5)).off+2,none⟩=some (.int .u32 (rd_T81 xs i).f2)∧w.cell? ⟨(ad.add (i.toNat*5)).block,(ad.add (i.toNat*5)).off+3,none⟩=some (.int .u32 (rd_T81 xs i).f3)∧w.cell? ⟨(ad.add (i.toNat*5)).block,(ad.add (i.toNat*5)).off+4,none⟩=some (.int .u32 (rd_T81 xs i).f4):=by
 obtain ⟨ad,c,e,_,hK,hc0⟩:=Kd.C_get h z81 i h0 h1;have hc : ∀ j u,c[j]?=some u→w.cell? (ad.add (i.toNat*5+j))=some u:=hc0;obtain rfl:=k81_open hK;exact ⟨ad,e,hc 0 _ rfl,by rw [← add_field _ _ 1 (by omega)];exact hc 1 _ rfl,by rw [← add_field _ _ 2 (by omega)];exact hc 2 _ rfl,by rw [← add_field _ _ 3 (by omega)];exact hc 3 _ rfl,by rw [← add_field _ _ 4 (by omega)];exact hc 4 _ rfl⟩
structure S87 where
 f0:Int
 f1:ByteArray
def z87:S87:=⟨(0:Int),(⟨#[]⟩:ByteArray)⟩
def k87:Kd S87:=Kd.iso (Kd.pair (Kd.int .u32) Kd.string) (fun x:S87=>(x.f0,x.f1))
theorem k87_open {w:World} {x:S87} {cs:List Value} (h:k87.K w x cs):cs = [.int .u32 x.f0,.string x.f1]:=by
 obtain ⟨_,_,rfl,rfl,rfl⟩:=h;exact rfl
theorem k87_openM {w:World} {base:Nat} {ok:Nat→Prop} {x:S87} {cs:List Value} (h:k87.M w base ok x cs):cs = [.int .u32 x.f0,.string x.f1]:=by
 obtain ⟨_,_,rfl,rfl,rfl⟩:=h;exact rfl
theorem k87_mkM (w:World) (base:Nat) (ok:Nat→Prop) (x:S87)  : k87.M w base ok x [.int .u32 x.f0,.string x.f1]:=⟨[.int .u32 x.f0],[.string x.f1],rfl,rfl,rfl⟩
def rd_T87 (xs:List S87) (i:Int):S87:=xs.getD i.toNat z87
theorem at_T87 {w:World} {A:Option Addr} {n:Nat} {xs:List S87} (h:Kd.C k87 w A n xs) (i:Int) (h0:0≤i) (h1:i<n) : ∃ ad ,A=some ad∧w.cell? (ad.add (i.toNat*2))=some (.int .u32 (rd_T87 xs i).f0)∧w.cell? ⟨(ad.add (i.toNat*2)).block,(ad.add (i.toNat*2)).off+1,none⟩=some (.string (rd_T87 xs i).f1):=by
 obtain ⟨ad,c,e,_,hK,hc0⟩:=Kd.C_get h z87 i h0 h1;have hc : ∀ j u,c[j]?=some u→w.cell? (ad.add (i.toNat*2+j))=some u:=hc0;obtain rfl:=k87_open hK;exact ⟨ad,e,hc 0 _ rfl,by rw [← add_field _ _ 1 (by omega)];exact hc 1 _ rfl⟩
structure S133 where
 f0:Int
 f1:Int
 f2:Int
 f3:Int
end
def fl (n m:Nat):Array Bool:=((List.range n).map fun i=>m.testBit i).toArray
section
variable {P:Program} {ops:Array Oper} {Q:Exit→Act→World→Prop} {S:World→Prop} {ds:List Nat} {md:Region.Mode} {oi:Oper} {v:Value} {fuel:Nat} {l:Array Bool} {a a':Act} {w:World}
theorem rp (i:Nat) (N:Option Tmp) (h:wpAnyLast P md ops Q S ds fuel (l.setIfInBounds i true) a' w) (hi:ops[i]?=some oi:=by rfl) (hN:oi.dst=N:=by rfl)
  (hc:anyB md ops l (l.setIfInBounds i true) i=true:=by kernel_rfl) (hQ : ∀ c a w,Q (.panic c) (a.put oi.dst v) w→Q (.panic c) a w:=by exact fun _ _ _ h=>h)
  (hy:Yields P ops oi v a:=by exact Or.inl ⟨by rfl,by intro w';go_simp;with_reducible rfl⟩)
  (ha:a.put N v=a':=by simp only [Act.put,List.setIfInBounds_toArray,List.set_cons_zero,List.set_cons_succ,i64_w,i32_w];rfl):wpAnyLast P md ops Q S ds (fuel+1) l a w :=
 pure_ _ hi hN hc hQ hy ha h
theorem rx (i:Nat) (N:Option Tmp) (h:wpAnyLast P md ops Q S ds fuel (l.setIfInBounds i true) a' w) (hi:ops[i]?=some oi:=by rfl) (hN:oi.dst=N:=by rfl)
  (hc:anyB md ops l (l.setIfInBounds i true) i=true:=by kernel_rfl) (hQ : ∀ c a w,Q (.panic c) (a.put oi.dst undef) w→Q (.panic c) a w:=by exact fun _ _ _ h=>h)
  (hy:Yields P ops oi undef a:=by exact Or.inr ⟨by rfl,by rfl⟩)
  (ha:a.put N undef=a':=by simp only [Act.put,List.setIfInBounds_toArray,List.set_cons_zero,List.set_cons_succ,i64_w,i32_w];rfl):wpAnyLast P md ops Q S ds (fuel+1) l a w :=
 pure_ _ hi hN hc hQ hy ha h
theorem rt (i:Nat) (N:Option Tmp) (h:wpAnyLast P md ops Q S ds fuel (l.setIfInBounds i true) a' w) (hi:ops[i]?=some oi:=by rfl) (hN:oi.dst=N:=by rfl)
  (hc:takeB md ops ds l (l.setIfInBounds i true) i=true:=by kernel_rfl) (hQ : ∀ c a w,Q (.panic c) (a.put oi.dst v) w→Q (.panic c) a w:=by exact fun _ _ _ h=>h)
  (hy:YieldsIf P ops S oi v a:=by exact Or.inl ⟨by rfl,by intro w' hs;(repeat (obtain ⟨_,hs⟩:=hs));go_simp;with_reducible rfl⟩)
  (hS:S w:=by exact hHeld)
  (ha:a.put N v=a':=by simp only [Act.put,List.setIfInBounds_toArray,List.set_cons_zero,List.set_cons_succ,i64_w,i32_w];rfl):wpAnyLast P md ops Q S ds (fuel+1) l a w :=
 take_ _ hi hN hc hQ hy hS ha h
theorem rn (h:wpAnyLast P md ops Q S ds fuel l a' w) (ha:a=a':=by simp only [Act.put,List.setIfInBounds_toArray,List.set_cons_zero,List.set_cons_succ,i64_w,i32_w];rfl):wpAnyLast P md ops Q S ds fuel l a w:=norm_ ha h
theorem ro (i:Nat) (N:Option Tmp)
  (h : ∀ K:Act→World→Prop,Shut (∀ a' w',S w'→(S w'→wpAnyLast P md ops Q S ds fuel (l.setIfInBounds i true) a' w')→K a' w')→if Region.wanted oi (yielded ops a.tmps)=true then Oper.wp P oi a w K Q else K (a.put N undef) w)
  (hi:ops[i]?=some oi:=by rfl) (hN:oi.dst=N:=by rfl) (hc:readyB md ops l (l.setIfInBounds i true) i=true:=by kernel_rfl) (hd:i ∉ ds:=by decide):wpAnyLast P md ops Q S ds (fuel+1) l a w :=
 one_ _ hi hN hc hd h
theorem rl (i:Nat) (N:Option Tmp)
  (h : ∀ K:Act→World→Prop,Shut (∀ a' w',wpAnyLast P md ops Q S ds fuel (l.setIfInBounds i true) a' w'→K a' w')→if Region.wanted oi (yielded ops a.tmps)=true then Oper.wp P oi a w K Q else K (a.put N undef) w)
  (hi:ops[i]?=some oi:=by rfl) (hN:oi.dst=N:=by rfl) (hc:readyB md ops l (l.setIfInBounds i true) i=true:=by kernel_rfl) (hd:i∈ds:=by decide):wpAnyLast P md ops Q S ds (fuel+1) l a w :=
 last_ _ hi hN hc hd h
theorem rs (n:Nat) {id:Nat} (S:World→Prop) (ds:List Nat) (hS:S w.drew) (h:S w.drew→wpAnyLast P .any ops Q S ds n (Array.replicate n false) a w.drew) (hm:P.follows .mixedOrders=true:=by kernel_rfl) (hn:ops.size=n:=by rfl):(Code.region id ops true).wp P Q a w :=
 start_ _ hm hn rfl hS h
end
theorem ifTT {α:Type} {a b r:α} {i:Decidable (true=true)} (h : @ite α (true=true) i a b=r):a=r:=(if_pos rfl).symm.trans h
theorem ifFF {α:Type} {a b r:α} {i:Decidable (false=true)} (h : @ite α (false=true) i a b=r):b=r:=(if_neg (fun h=>Bool.noConfusion h)).symm.trans h
theorem outA {p:Prop} (h:Aside0 p):p:=h.out
theorem below_setA {w W:World} {g j:Nat} {v:Value} (h:Below w.heap.size w W) (hg:Aside0 (w.heap.size≤g)):Below w.heap.size w (W.setCell ⟨g,j,none⟩ v):=below_set h hg.out
theorem bD {B:Nat} {w0 w:World} (h:Below B w0 w:=by repeat (first|(with_reducible first|exact HB.out|apply below_alloc|apply pw_below_drewN|apply below_drew1)|(refine below_setA ?_ ?_;rotate_left;assumption)|exact HB.out)):Below B w0 w:=h
theorem gG {w W:World} {g:Nat} (hg:g=W.heap.size) (h:Below w.heap.size w W:=by repeat (first|(with_reducible first|exact HB.out|apply below_alloc|apply pw_below_drewN|apply below_drew1)|(refine below_setA ?_ ?_;rotate_left;assumption)|exact HB.out)):w.heap.size≤g:=hg ▸ h.size
theorem kD {w:World} {g:Nat} {o:Obj} (h:w.heap[g]?=some o:=by (with_reducible repeat (first|refine blk_drewN ?_ _|refine blk_drew ?_|refine blk_alloc ?_ _));exact outA (by first|(with_reducible assumption)|assumption)):w.heap[g]?=some o:=h
theorem kb {w0 W w1:World} {g:Nat} {o:Obj} (k:Aside0 (w0.heap[g]?=some o)) (hb:Below W.heap.size W w1) (h:W.heap[g]?=some o:=by (with_reducible repeat (first|refine blk_drewN ?_ _|refine blk_drew ?_|refine blk_alloc ?_ _));exact outA (by first|(with_reducible assumption)|assumption)):w1.heap[g]?=some o:=blk_below h hb
theorem gN {w0 W:World} {g g':Nat} {o:Obj} (k:Aside0 (w0.heap[g]?=some o)) (hg:g'=W.heap.size) (h:W.heap[g]?=some o:=by (with_reducible repeat (first|refine blk_drewN ?_ _|refine blk_drew ?_|refine blk_alloc ?_ _));exact outA (by first|(with_reducible assumption)|assumption)):g≠g':=by rw [hg];exact Nat.ne_of_lt (blk_lt h)
theorem gN' {w0 W:World} {g g':Nat} {o:Obj} (k:Aside0 (w0.heap[g]?=some o)) (hg:g'=W.heap.size) (h:W.heap[g]?=some o:=by (with_reducible repeat (first|refine blk_drewN ?_ _|refine blk_drew ?_|refine blk_alloc ?_ _));exact outA (by first|(with_reducible assumption)|assumption)):g'≠g:=by rw [hg];exact Nat.ne_of_gt (blk_lt h)
theorem cB {w w1:World} {p:Addr} {v:Value} (h:w.cell? p=some v) (hb:Below w.heap.size w w1:=by exact HB.out):w1.cell? p=some v:=(hb.cell (World.block_lt_of_cell? w _ h)).trans h
theorem bl {w:World} {p:Addr} {v:Value} (h:w.cell? p=some v):p.block<w.heap.size:=World.block_lt_of_cell? w _ h
theorem pA {p:Prop} [Decidable p] (h:decide p=true:=by first|(with_reducible assumption)|assumption):p:=of_decide_eq_true h
theorem eE {p:Prop} (h:p:=by first|rfl|(simp [errW_none,errW_some] <;> rfl)|(simp [*,errW_none,errW_some] <;> rfl)):p:=h
theorem eS {p:Prop} (h:p:=by first|rfl|(simp;done)|(simp [*];done)):p:=h
theorem dD {w w':World} (h:Drawn0 w w':=by repeat (first|exact Drawn0.refl _|apply Drawn0.step)):Drawn0 w w':=h
section
variable {α:Type} {a b:α} [BEq α] [LawfulBEq α]
theorem qT (h:a=b):(a == b)=true:=beq_iff_eq.mpr h
theorem qF (h : ¬ a=b):(a == b)=false:=beq_eq_false_iff_ne.mpr h
theorem nF (h:a=b):(a != b)=false:=bne_eq_false_iff_eq.mpr h
theorem nT (h : ¬ a=b):(a != b)=true:=bne_iff_ne.mpr h
end
section
variable {w:World} {g:Nat} {t:TypeId} {x0 x1 x2 x3 x4 x5 x6 x7 x8 x9:Value}
theorem cc4 (h:w.heap[g]?=some (.cells #[x0,x1,x2,x3] t (0,0))):w.cell? ⟨g,0,none⟩=some x0∧w.cell? ⟨g,1,none⟩=some x1∧w.cell? ⟨g,2,none⟩=some x2∧w.cell? ⟨g,3,none⟩=some x3:=⟨(blk_cell h 0).trans rfl,(blk_cell h 1).trans rfl,(blk_cell h 2).trans rfl,(blk_cell h 3).trans rfl⟩
theorem ff4 {cs:Array Value} (h:w.heap[g]?=some (.cells cs t (0,0))):w.frozen? ⟨g,0,none⟩=false∧w.frozen? ⟨g,1,none⟩=false∧w.frozen? ⟨g,2,none⟩=false∧w.frozen? ⟨g,3,none⟩=false:=⟨blk_frozen h 0,blk_frozen h 1,blk_frozen h 2,blk_frozen h 3⟩
theorem cc5 (h:w.heap[g]?=some (.cells #[x0,x1,x2,x3,x4] t (0,0))):w.cell? ⟨g,0,none⟩=some x0∧w.cell? ⟨g,1,none⟩=some x1∧w.cell? ⟨g,2,none⟩=some x2∧w.cell? ⟨g,3,none⟩=some x3∧w.cell? ⟨g,4,none⟩=some x4:=⟨(blk_cell h 0).trans rfl,(blk_cell h 1).trans rfl,(blk_cell h 2).trans rfl,(blk_cell h 3).trans rfl,(blk_cell h 4).trans rfl⟩
theorem ff5 {cs:Array Value} (h:w.heap[g]?=some (.cells cs t (0,0))):w.frozen? ⟨g,0,none⟩=false∧w.frozen? ⟨g,1,none⟩=false∧w.frozen? ⟨g,2,none⟩=false∧w.frozen? ⟨g,3,none⟩=false∧w.frozen? ⟨g,4,none⟩=false:=⟨blk_frozen h 0,blk_frozen h 1,blk_frozen h 2,blk_frozen h 3,blk_frozen h 4⟩
end
section
variable {P:Program} {ops:Array Oper} {Q:Exit→Act→World→Prop} {rest:List Oper} {oi o:Oper} {a:Act} {w W:World}
theorem ca (N:Option Tmp) {f:FuncId} {fn:Func} {ar:Array Operand} {ts:Array TypeId} (hf:P.funcs[f]?=some fn) (args:Array Value)
  (h:Calls P f args w fun e w'=>∃ v,e=.returned v∧wpList P ops Q rest (a.put N v) w')
  (hd : oi.dst = N := by rfl) (hg : oi.guard = none := by rfl) (hname : (fn.name == "runtime.NumGoroutine") = false := by kernel_rfl) (hb : fn.body.isSome = true := by rfl)
  (hop:oi.op=.call { callee:=.value (.func f),args:=ar,argTypes:=ts }:=by rfl)
  (hargs:ar.map a.eval=args:=by (try simp only [List.map_toArray,List.map_cons,List.map_nil]);first|done|rfl|(simp only [List.length_drop,List.length_take];rfl)):wpList P ops Q (oi::rest) a w :=
 goesL_ N hd hg hf hname hb args hop hargs h
theorem cr {N:Option Tmp} {K:Act→World→Prop} {f:FuncId} {fn:Func} {ar:Array Operand} {ts:Array TypeId} (hf:P.funcs[f]?=some fn) (args:Array Value)
  (h : Calls P f args w fun e w' => ∃ v, e = .returned v ∧ K (a.put N v) w') (hname : (fn.name == "runtime.NumGoroutine") = false := by kernel_rfl) (hb : fn.body.isSome = true := by rfl)
  (hw:Region.wanted oi (yielded ops a.tmps)=true:=by rfl) (hN:oi.dst=N:=by rfl) (hop:oi.op=.call { callee:=.value (.func f),args:=ar,argTypes:=ts }:=by rfl)
  (hargs:ar.map a.eval=args:=by (try simp only [List.map_toArray,List.map_cons,List.map_nil]);first|done|rfl|(simp only [List.length_drop,List.length_take];rfl)):if Region.wanted oi (yielded ops a.tmps)=true then Oper.wp P oi a w K Q else K (a.put N undef) w :=
 goes_ hf hname hb args hw hN hop hargs h
theorem bx (N:Tmp) (cs:Array Value) (t:TypeId) (h : ∀ g,g=W.heap.size→∀ w1,w1.heap[g]?=some (.cells cs t (0,0))→Below W.heap.size W w1→wpList P ops Q rest (a.put o.dst (.pointer (some ⟨g,0,none⟩))) w1)
  (hd:o.dst=some N:=by rfl) (hgd:o.guard=none:=by rfl) (hrun:(execOp a.eval o).run P W=.ok (.value (.pointer (some ⟨W.heap.size,0,none⟩))) (W.alloc (.cells cs t (0,0))):=by first|(go_simp;done)|(go_simp;rfl)):wpList P ops Q (o::rest) a W :=
 box_event hgd hd hrun h
end
section
variable {α:Type} {d:Kd α} {w0 w:World} {A:Option Addr} {n:Nat} {xs:List α}
theorem cD (h:Kd.C d w A n xs:=by repeat (first|exact (Kd.C_below (outA (by first|(with_reducible assumption)|assumption)) HB.out)|(with_reducible refine Kd.C_alloc ?_ _)|(with_reducible refine Kd.C_drewN ?_ _)|(with_reducible refine Kd.C_drew ?_))):Kd.C d w A n xs:=h
theorem cE (h:Kd.C d w A n xs:=by repeat (first|exact (outA (by first|(with_reducible assumption)|assumption))|(with_reducible refine Kd.C_alloc ?_ _)|(with_reducible refine Kd.C_drewN ?_ _)|(with_reducible refine Kd.C_drew ?_))):Kd.C d w A n xs:=h
end
theorem blk_farA {w:World} {g g' i:Nat} {t:TypeId} {cs:Array Value} {u:Value} (h:w.heap[g]?=some (.cells cs t (0,0))) (hp:Aside0 (g≠g')):(w.setCell ⟨g',i,none⟩ u).heap[g]?=some (.cells cs t (0,0)):=blk_far h hp.out u
theorem kF {w:World} {g:Nat} {o:Obj} (h:w.heap[g]?=some o:=by
  repeat' first
   | (with_reducible refine blk_drewN ?_ _)
   | (with_reducible refine blk_drew ?_)
   | (with_reducible refine blk_alloc ?_ _)
   | (refine blk_farA ?_ ?_;rotate_left;assumption)
   | exact outA (by first|(with_reducible assumption)|assumption)):w.heap[g]?=some o:=h
section
variable {w:World} {g:Nat} {t:TypeId} {x0 x1 x2 x3 x4 y0 y1 y2 y3 y4:Value}
theorem pq2 (h:w.heap[g]?=some (.cells #[y0,y1] t (0,0))):((w.setCell ⟨g,0,none⟩ x0).setCell ⟨g,1,none⟩ x1).heap[g]?=some (.cells #[x0,x1] t (0,0)):=(blk_put (blk_put h 0 x0 rfl) 1 x1 rfl)
theorem p2 {o:Obj} (h:w.heap[g]?=some o:=by (with_reducible repeat (first|refine blk_drewN ?_ _|refine blk_drew ?_|refine blk_alloc ?_ _));exact pq2 kD):w.heap[g]?=some o:=h
theorem pq3 (h:w.heap[g]?=some (.cells #[y0,y1,y2] t (0,0))):(((w.setCell ⟨g,0,none⟩ x0).setCell ⟨g,1,none⟩ x1).setCell ⟨g,2,none⟩ x2).heap[g]?=some (.cells #[x0,x1,x2] t (0,0)):=(blk_put (blk_put (blk_put h 0 x0 rfl) 1 x1 rfl) 2 x2 rfl)
theorem p3 {o:Obj} (h:w.heap[g]?=some o:=by (with_reducible repeat (first|refine blk_drewN ?_ _|refine blk_drew ?_|refine blk_alloc ?_ _));exact pq3 kD):w.heap[g]?=some o:=h
theorem pq4 (h:w.heap[g]?=some (.cells #[y0,y1,y2,y3] t (0,0))):((((w.setCell ⟨g,0,none⟩ x0).setCell ⟨g,1,none⟩ x1).setCell ⟨g,2,none⟩ x2).setCell ⟨g,3,none⟩ x3).heap[g]?=some (.cells #[x0,x1,x2,x3] t (0,0)):=(blk_put (blk_put (blk_put (blk_put h 0 x0 rfl) 1 x1 rfl) 2 x2 rfl) 3 x3 rfl)
theorem p4 {o:Obj} (h:w.heap[g]?=some o:=by (with_reducible repeat (first|refine blk_drewN ?_ _|refine blk_drew ?_|refine blk_alloc ?_ _));exact pq4 kD):w.heap[g]?=some o:=h
theorem pq5 (h:w.heap[g]?=some (.cells #[y0,y1,y2,y3,y4] t (0,0))):(((((w.setCell ⟨g,0,none⟩ x0).setCell ⟨g,1,none⟩ x1).setCell ⟨g,2,none⟩ x2).setCell ⟨g,3,none⟩ x3).setCell ⟨g,4,none⟩ x4).heap[g]?=some (.cells #[x0,x1,x2,x3,x4] t (0,0)):=(blk_put (blk_put (blk_put (blk_put (blk_put h 0 x0 rfl) 1 x1 rfl) 2 x2 rfl) 3 x3 rfl) 4 x4 rfl)
theorem p5 {o:Obj} (h:w.heap[g]?=some o:=by (with_reducible repeat (first|refine blk_drewN ?_ _|refine blk_drew ?_|refine blk_alloc ?_ _));exact pq5 kD):w.heap[g]?=some o:=h
end
section
variable {w:World} {g:Nat} {t:TypeId} {x0 x1 x2 x3 x4 x5 x6 x7 x8 x9:Value} {r:List Value}
end
section
attribute [local go_sem] max2_int min2_int max_two min_two max_three min_three max_four min_four
def share_one.f (a0_0:Int) (a0_1:Int) (a0_2:Int) (a0_3:Int) (a0_4:Int):Option (Bool):=if a0_0>0 then (if a0_2>0 then (if a0_3≥1 then (if a0_3≤3 then (some (decide (a0_4≤3))) else (some false)) else (some false)) else (some false)) else (some false)
theorem share_one.calls (a0_0:Int) (a0_1:Int) (a0_2:Int) (a0_3:Int) (a0_4:Int) (r:Bool) (w:World) (h:share_one.f a0_0 a0_1 a0_2 a0_3 a0_4=some r) :
  Calls Tryz.prog 192 #[.agg #[.int .u32 a0_0,.int .u32 a0_1,.int .u32 a0_2,.int .u32 a0_3,.int .u32 a0_4]] w fun e w'=>e=.returned (.bool r)∧Below w.heap.size w w':=by
 have hu81:=Tryz.underlying81;have HB:=Aside0.mk (Below.refl w.heap.size w);have H:(if a0_0>0 then (if a0_2>0 then (if a0_3≥1 then (if a0_3≤3 then (some (decide (a0_4≤3))) else (some false)) else (some false)) else (some false)) else (some false))=some r:=h
 clear h;by_cases c2:a0_0>0
 ·rw [if_pos c2] at H;have c2b0:=decide_eq_true c2;clear c2;by_cases c3:a0_2>0
  ·rw [if_pos c3] at H;have c3b0:=decide_eq_true c3;clear c3;by_cases c4:a0_3≥1
   ·rw [if_pos c4] at H;have c4b0:=decide_eq_true c4;clear c4;by_cases c5:a0_3≤3
    ·rw [if_pos c5] at H;have c5b0:=decide_eq_true c5;clear c5;obtain rfl:=Option.some.inj H;go_enter Tryz.func192,Tryz.ntmps192;go_wp2_with (first|((with_reducible refine gate_dst (N:=1) rfl ?_);refine bx 1 #[.int .u32 a0_0,.int .u32 a0_1,.int .u32 a0_2,.int .u32 a0_3,.int .u32 a0_4] 81 ?_;intro gb116 hg w6 hbox hb;have BK116:=Aside0.mk (hbox);have GW116:=Aside0.mk ((gG hg:w.heap.size≤gb116));have GE116:=Aside0.mk ((gG hg:w.heap.size≤gb116));replace HB:=Aside0.mk (below_step bD hb);clear hb hbox hg;obtain ⟨hcz7_0,hcz7_1,hcz7_2,hcz7_3,hcz7_4⟩:=cc5 BK116.out;obtain ⟨hfz7_0,hfz7_1,hfz7_2,hfz7_3,hfz7_4⟩:=ff5 BK116.out))
     go_ret
     exact ⟨eE,bD⟩
    ·rw [if_neg c5] at H;have c5b0:=decide_eq_false c5;clear c5;obtain rfl:=Option.some.inj H;go_enter Tryz.func192,Tryz.ntmps192;go_wp2_with (first|((with_reducible refine gate_dst (N:=1) rfl ?_);refine bx 1 #[.int .u32 a0_0,.int .u32 a0_1,.int .u32 a0_2,.int .u32 a0_3,.int .u32 a0_4] 81 ?_;intro gb116 hg w8 hbox hb;have BK116:=Aside0.mk (hbox);have GW116:=Aside0.mk ((gG hg:w.heap.size≤gb116));have GE116:=Aside0.mk ((gG hg:w.heap.size≤gb116));replace HB:=Aside0.mk (below_step bD hb);clear hb hbox hg;obtain ⟨hcz9_0,hcz9_1,hcz9_2,hcz9_3,hcz9_4⟩:=cc5 BK116.out;obtain ⟨hfz9_0,hfz9_1,hfz9_2,hfz9_3,hfz9_4⟩:=ff5 BK116.out))
     go_ret
     exact ⟨eE,bD⟩
   ·rw [if_neg c4] at H;have c4b0:=decide_eq_false c4;clear c4;obtain rfl:=Option.some.inj H;go_enter Tryz.func192,Tryz.ntmps192;go_wp2_with (first|((with_reducible refine gate_dst (N:=1) rfl ?_);refine bx 1 #[.int .u32 a0_0,.int .u32 a0_1,.int .u32 a0_2,.int .u32 a0_3,.int .u32 a0_4] 81 ?_;intro gb116 hg w10 hbox hb;have BK116:=Aside0.mk (hbox);have GW116:=Aside0.mk ((gG hg:w.heap.size≤gb116));have GE116:=Aside0.mk ((gG hg:w.heap.size≤gb116));replace HB:=Aside0.mk (below_step bD hb);clear hb hbox hg;obtain ⟨hcz11_0,hcz11_1,hcz11_2,hcz11_3,hcz11_4⟩:=cc5 BK116.out;obtain ⟨hfz11_0,hfz11_1,hfz11_2,hfz11_3,hfz11_4⟩:=ff5 BK116.out))
    go_ret
    exact ⟨eE,bD⟩
  ·rw [if_neg c3] at H;have c3b0:=decide_eq_false c3;clear c3;obtain rfl:=Option.some.inj H;go_enter Tryz.func192,Tryz.ntmps192;go_wp2_with (first|((with_reducible refine gate_dst (N:=1) rfl ?_);refine bx 1 #[.int .u32 a0_0,.int .u32 a0_1,.int .u32 a0_2,.int .u32 a0_3,.int .u32 a0_4] 81 ?_;intro gb116 hg w12 hbox hb;have BK116:=Aside0.mk (hbox);have GW116:=Aside0.mk ((gG hg:w.heap.size≤gb116));have GE116:=Aside0.mk ((gG hg:w.heap.size≤gb116));replace HB:=Aside0.mk (below_step bD hb);clear hb hbox hg;obtain ⟨hcz13_0,hcz13_1,hcz13_2,hcz13_3,hcz13_4⟩:=cc5 BK116.out;obtain ⟨hfz13_0,hfz13_1,hfz13_2,hfz13_3,hfz13_4⟩:=ff5 BK116.out))
   go_ret
   exact ⟨eE,bD⟩
 ·rw [if_neg c2] at H;have c2b0:=decide_eq_false c2;clear c2;obtain rfl:=Option.some.inj H;go_enter Tryz.func192,Tryz.ntmps192;go_wp2_with (first|((with_reducible refine gate_dst (N:=1) rfl ?_);refine bx 1 #[.int .u32 a0_0,.int .u32 a0_1,.int .u32 a0_2,.int .u32 a0_3,.int .u32 a0_4] 81 ?_;intro gb116 hg w14 hbox hb;have BK116:=Aside0.mk (hbox);have GW116:=Aside0.mk ((gG hg:w.heap.size≤gb116));have GE116:=Aside0.mk ((gG hg:w.heap.size≤gb116));replace HB:=Aside0.mk (below_step bD hb);clear hb hbox hg;obtain ⟨hcz15_0,hcz15_1,hcz15_2,hcz15_3,hcz15_4⟩:=cc5 BK116.out;obtain ⟨hfz15_0,hfz15_1,hfz15_2,hfz15_3,hfz15_4⟩:=ff5 BK116.out))
  go_ret
  exact ⟨eE,bD⟩
end
section
attribute [local go_sem] max2_int min2_int max_two min_two max_three min_three max_four min_four
def cmp_Or_int.l0:Nat→Int→List Int→Int→Int→Option (Int)
 | 0,_,_,_,_=>none
 | k+1,x3,x6,x7,x8=>if x8<x7 then (if 0≤x8 then (if x8<(x6.length:Int) then (if (rd x6 x8)=x3 then (cmp_Or_int.l0 k x3 x6 x7 (wrap64 (x8+1))) else (some (rd x6 x8))) else (none)) else (none)) else (some x3)
def cmp_Or_int.f (k:Nat) (l0:List Int):Option (Int):=cmp_Or_int.l0 k 0 l0 (l0.length:Int) 0
theorem cmp_Or_int.calls (k:Nat) (A0:Option Addr) (c0:Nat) (l0:List Int) (r:Int) (w:World) (hr0:Kd.C (Kd.int .i64) w A0 l0.length l0) (hc0:l0.length≤c0) (h:cmp_Or_int.f k l0=some r) :
  Calls Tryz.prog 51 #[.slice A0 l0.length c0] w fun e w'=>e=.returned (.int .i64 r)∧Drawn0 w w':=by
 have HR0:=Aside0.mk hr0;have HC0:=Aside0.mk hc0;clear hr0 hc0;have H:(cmp_Or_int.l0 k 0 l0 (l0.length:Int) 0)=some r:=h;clear h;have H':=Aside0.mk H;clear H;go_enter Tryz.func51,Tryz.ntmps51;go_wp2
 go_loopg [8] k (fun kq v8 w'=>∃ (x8_1:Int),v8=.int .i64 x8_1∧Aside0 (cmp_Or_int.l0 kq 0 l0 (l0.length:Int) x8_1=some r)∧Aside0 (kq≤k)∧Drawn0 w w')
 case atStart=>exact ⟨(0),eS,H',⟨Nat.le_refl _⟩,dD⟩
 case round =>
  clear H';obtain ⟨x8_1,rfl,HA,HK1,⟨m1,rfl⟩⟩:=hrel;cases gk with
  | zero=>exact absurd HA.out (by simp [cmp_Or_int.l0])
  | succ k1 =>
   have H:=HA.out;clear HA;simp only [cmp_Or_int.l0] at H;by_cases c2:x8_1<(l0.length:Int)
   ·rw [if_pos c2] at H;have c2b0:=decide_eq_true c2;clear c2;by_cases c3:0≤x8_1
    ·rw [if_pos c3] at H;have c3b0:=decide_eq_true c3;clear c3;by_cases c4:x8_1<(l0.length:Int)
     ·rw [if_pos c4] at H;have c4b0:=decide_eq_true c4;clear c4;by_cases c5:(rd l0 x8_1)=0
      ·rw [if_pos c5] at H;have c5b0:=qT c5;have c5b1:=nF c5;clear c5;have H':=Aside0.mk H;clear H;have p117:0≤(x8_1:Int):=pA;have q117:x8_1<(l0.length:Int):=pA;obtain ⟨ad117,e117,hx117_0⟩:=Kd.at_int HR0.out x8_1 p117 q117;cases e117
       replace p117:=eq_true p117;replace q117:=eq_true q117;go_wp2
       go_roundg k1
       case measure=>have:=HK1.out;omega
       case rel=>exact ⟨(wrap64 (x8_1+1)),eS,H',⟨by have:=HK1.out;omega⟩,dD⟩
      ·rw [if_neg c5] at H;have c5b0:=qF c5;have c5b1:=nT c5;obtain rfl:=Option.some.inj H;have p117:0≤(x8_1:Int):=pA;have q117:x8_1<(l0.length:Int):=pA;obtain ⟨ad117,e117,hx117_0⟩:=Kd.at_int HR0.out x8_1 p117 q117;cases e117
       replace p117:=eq_true p117;replace q117:=eq_true q117;go_wp2
       go_ret
       exact ⟨eS,dD⟩
     ·rw [if_neg c4] at H;exact absurd H (by simp)
    ·rw [if_neg c3] at H;exact absurd H (by simp)
   ·rw [if_neg c2] at H;have c2b0:=decide_eq_false c2;clear c2;obtain rfl:=Option.some.inj H;go_wp2
    go_ret
    exact ⟨eS,dD⟩
def cmp_isNaN_uint32.f (a0:Int):Option (Bool):=some (a0 != a0)
theorem cmp_isNaN_uint32.calls (a0:Int) (r:Bool) (w:World) (h:cmp_isNaN_uint32.f a0=some r) :
  Calls Tryz.prog 135 #[.int .u32 a0] w fun e w'=>e=.returned (.bool r)∧Drawn0 w w':=by
 have H:(some (a0 != a0))=some r:=h;clear h;obtain rfl:=Option.some.inj H;go_enter Tryz.func135,Tryz.ntmps135;go_wp2
 go_ret
 exact ⟨eS,dD⟩
def cmp_Compare_uint32.f (a0:Int) (a1:Int):Option (Int):=(cmp_isNaN_uint32.f a0).bind fun t118=>((cmp_isNaN_uint32.f a1).bind fun t119=>(if t118=true then (if t119=true then (some 0) else (some (-1))) else (if t119=true then (some 1) else (if a0<a1 then (some (-1)) else (if a0>a1 then (some 1) else (some 0))))))
theorem cmp_Compare_uint32.calls (a0:Int) (a1:Int) (r:Int) (w:World) (h:cmp_Compare_uint32.f a0 a1=some r) :
  Calls Tryz.prog 52 #[.int .u32 a0,.int .u32 a1] w fun e w'=>e=.returned (.int .i64 r)∧Drawn0 w w':=by
 have H:((cmp_isNaN_uint32.f a0).bind fun t118=>((cmp_isNaN_uint32.f a1).bind fun t119=>(if t118=true then (if t119=true then (some 0) else (some (-1))) else (if t119=true then (some 1) else (if a0<a1 then (some (-1)) else (if a0>a1 then (some 1) else (some 0)))))))=some r:=h
 clear h;replace H:=Option.bind_eq_some_iff.mp H;obtain ⟨t118,A30,H⟩:=H;replace H:((cmp_isNaN_uint32.f a1).bind fun t119=>(if t118=true then (if t119=true then (some 0) else (some (-1))) else (if t119=true then (some 1) else (if a0<a1 then (some (-1)) else (if a0>a1 then (some 1) else (some 0))))))=some r:=H
 have A3:=Aside0.mk A30;clear A30;replace H:=Option.bind_eq_some_iff.mp H;obtain ⟨t119,A40,H⟩:=H;replace H:(if t118=true then (if t119=true then (some 0) else (some (-1))) else (if t119=true then (some 1) else (if a0<a1 then (some (-1)) else (if a0>a1 then (some 1) else (some 0)))))=some r:=H
 have A4:=Aside0.mk A40;clear A40;by_cases c5:t118=true
 ·subst c5;replace H:=ifTT H;by_cases c6:t119=true
  ·subst c6;replace H:=ifTT H;obtain rfl:=Option.some.inj H;go_enter Tryz.func52,Tryz.ntmps52;go_wp2_with (first|((with_reducible refine gate_callee (f:=135) rfl ?_);refine ca (some 8) Tryz.func135 #[.int .u32 a0] ?_;(with_reducible refine (cmp_isNaN_uint32.calls a0 true _ A3.out).mono ?_);rintro e w' ⟨rfl,⟨nd,rfl⟩⟩;refine ⟨_,rfl,?_⟩)|((with_reducible refine gate_callee (f:=135) rfl ?_);refine ca (some 10) Tryz.func135 #[.int .u32 a1] ?_;(with_reducible refine (cmp_isNaN_uint32.calls a1 true _ A4.out).mono ?_);rintro e w' ⟨rfl,⟨nd,rfl⟩⟩;refine ⟨_,rfl,?_⟩))
   go_ret
   exact ⟨eS,dD⟩
  ·replace c6:=Bool.eq_false_iff.mpr c6;subst c6;replace H:=ifFF H;obtain rfl:=Option.some.inj H;go_enter Tryz.func52,Tryz.ntmps52;go_wp2_with (first|((with_reducible refine gate_callee (f:=135) rfl ?_);refine ca (some 8) Tryz.func135 #[.int .u32 a0] ?_;(with_reducible refine (cmp_isNaN_uint32.calls a0 true _ A3.out).mono ?_);rintro e w' ⟨rfl,⟨nd,rfl⟩⟩;refine ⟨_,rfl,?_⟩)|((with_reducible refine gate_callee (f:=135) rfl ?_);refine ca (some 10) Tryz.func135 #[.int .u32 a1] ?_;(with_reducible refine (cmp_isNaN_uint32.calls a1 false _ A4.out).mono ?_);rintro e w' ⟨rfl,⟨nd,rfl⟩⟩;refine ⟨_,rfl,?_⟩))
   go_ret
   exact ⟨eS,dD⟩
 ·replace c5:=Bool.eq_false_iff.mpr c5;subst c5;replace H:=ifFF H;by_cases c7:t119=true
  ·subst c7;replace H:=ifTT H;obtain rfl:=Option.some.inj H;go_enter Tryz.func52,Tryz.ntmps52;go_wp2_with (first|((with_reducible refine gate_callee (f:=135) rfl ?_);refine ca (some 8) Tryz.func135 #[.int .u32 a0] ?_;(with_reducible refine (cmp_isNaN_uint32.calls a0 false _ A3.out).mono ?_);rintro e w' ⟨rfl,⟨nd,rfl⟩⟩;refine ⟨_,rfl,?_⟩)|((with_reducible refine gate_callee (f:=135) rfl ?_);refine ca (some 10) Tryz.func135 #[.int .u32 a1] ?_;(with_reducible refine (cmp_isNaN_uint32.calls a1 true _ A4.out).mono ?_);rintro e w' ⟨rfl,⟨nd,rfl⟩⟩;refine ⟨_,rfl,?_⟩))
   go_ret
   exact ⟨eS,dD⟩
  ·replace c7:=Bool.eq_false_iff.mpr c7;subst c7;replace H:=ifFF H;by_cases c8:a0<a1
   ·rw [if_pos c8] at H;have c8b0:=decide_eq_true c8;clear c8;obtain rfl:=Option.some.inj H;go_enter Tryz.func52,Tryz.ntmps52;go_wp2_with (first|((with_reducible refine gate_callee (f:=135) rfl ?_);refine ca (some 8) Tryz.func135 #[.int .u32 a0] ?_;(with_reducible refine (cmp_isNaN_uint32.calls a0 false _ A3.out).mono ?_);rintro e w' ⟨rfl,⟨nd,rfl⟩⟩;refine ⟨_,rfl,?_⟩)|((with_reducible refine gate_callee (f:=135) rfl ?_);refine ca (some 10) Tryz.func135 #[.int .u32 a1] ?_;(with_reducible refine (cmp_isNaN_uint32.calls a1 false _ A4.out).mono ?_);rintro e w' ⟨rfl,⟨nd,rfl⟩⟩;refine ⟨_,rfl,?_⟩))
    go_ret
    exact ⟨eS,dD⟩
   ·rw [if_neg c8] at H;have c8b0:=decide_eq_false c8;clear c8;by_cases c9:a0>a1
    ·rw [if_pos c9] at H;have c9b0:=decide_eq_true c9;clear c9;obtain rfl:=Option.some.inj H;go_enter Tryz.func52,Tryz.ntmps52;go_wp2_with (first|((with_reducible refine gate_callee (f:=135) rfl ?_);refine ca (some 8) Tryz.func135 #[.int .u32 a0] ?_;(with_reducible refine (cmp_isNaN_uint32.calls a0 false _ A3.out).mono ?_);rintro e w' ⟨rfl,⟨nd,rfl⟩⟩;refine ⟨_,rfl,?_⟩)|((with_reducible refine gate_callee (f:=135) rfl ?_);refine ca (some 10) Tryz.func135 #[.int .u32 a1] ?_;(with_reducible refine (cmp_isNaN_uint32.calls a1 false _ A4.out).mono ?_);rintro e w' ⟨rfl,⟨nd,rfl⟩⟩;refine ⟨_,rfl,?_⟩))
     go_ret
     exact ⟨eS,dD⟩
    ·rw [if_neg c9] at H;have c9b0:=decide_eq_false c9;clear c9;obtain rfl:=Option.some.inj H;go_enter Tryz.func52,Tryz.ntmps52;go_wp2_with (first|((with_reducible refine gate_callee (f:=135) rfl ?_);refine ca (some 8) Tryz.func135 #[.int .u32 a0] ?_;(with_reducible refine (cmp_isNaN_uint32.calls a0 false _ A3.out).mono ?_);rintro e w' ⟨rfl,⟨nd,rfl⟩⟩;refine ⟨_,rfl,?_⟩)|((with_reducible refine gate_callee (f:=135) rfl ?_);refine ca (some 10) Tryz.func135 #[.int .u32 a1] ?_;(with_reducible refine (cmp_isNaN_uint32.calls a1 false _ A4.out).mono ?_);rintro e w' ⟨rfl,⟨nd,rfl⟩⟩;refine ⟨_,rfl,?_⟩))
     go_ret
     exact ⟨eS,dD⟩
def share_order.f (k:Nat) (a0_0:Int) (a0_1:Int) (a0_2:Int) (a0_3:Int) (a0_4:Int) (a1_0:Int) (a1_1:Int) (a1_2:Int) (a1_3:Int) (a1_4:Int):Option (Int):=(cmp_Compare_uint32.f a0_0 a1_0).bind fun t122=>((cmp_Compare_uint32.f a0_1 a1_1).bind fun t123=>((cmp_Or_int.f k (([t122,t123]:List Int))).bind fun t127=>(some t127)))
def share_order.T1:Bool×List (List Nat×List Nat):=(true,[([],[]),([0],[0]),([],[]),([2],[2]),([1,3],[1,3]),([],[]),([5],[5]),([],[]),([7],[7]),([6,8,4],[6,8]),([4,9],[4,9]),([10,9],[10]),([11,11,0,1,2,3,4,5,6,7,8,9,10,11],[11])])
def share_order.B1:List Nat:=[0,1,0,4,15,0,32,0,128,511,1023,2047,4095]
theorem share_order.tab1:rtab .any (opsOf Tryz.f194 1)=share_order.T1:=by kernel_rfl
theorem share_order.bits1:waitsOk share_order.T1.2 share_order.B1=true:=by kernel_rfl
theorem share_order.calls (k:Nat) (a0_0:Int) (a0_1:Int) (a0_2:Int) (a0_3:Int) (a0_4:Int) (a1_0:Int) (a1_1:Int) (a1_2:Int) (a1_3:Int) (a1_4:Int) (r:Int) (w:World) (h:share_order.f k a0_0 a0_1 a0_2 a0_3 a0_4 a1_0 a1_1 a1_2 a1_3 a1_4=some r) :
  Calls Tryz.prog 194 #[.agg #[.int .u32 a0_0,.int .u32 a0_1,.int .u32 a0_2,.int .u32 a0_3,.int .u32 a0_4],.agg #[.int .u32 a1_0,.int .u32 a1_1,.int .u32 a1_2,.int .u32 a1_3,.int .u32 a1_4]] w fun e w'=>e=.returned (.int .i64 r)∧Below w.heap.size w w':=by
 have hu81:=Tryz.underlying81;have HB:=Aside0.mk (Below.refl w.heap.size w);have H:((cmp_Compare_uint32.f a0_0 a1_0).bind fun t122=>((cmp_Compare_uint32.f a0_1 a1_1).bind fun t123=>((cmp_Or_int.f k (([t122,t123]:List Int))).bind fun t127=>(some t127))))=some r:=h;clear h;replace H:=Option.bind_eq_some_iff.mp H;obtain ⟨t122,A30,H⟩:=H;replace H:((cmp_Compare_uint32.f a0_1 a1_1).bind fun t123=>((cmp_Or_int.f k (([t122,t123]:List Int))).bind fun t127=>(some t127)))=some r:=H;have A3:=Aside0.mk A30;clear A30;replace H:=Option.bind_eq_some_iff.mp H;obtain ⟨t123,A40,H⟩:=H;replace H:((cmp_Or_int.f k (([t122,t123]:List Int))).bind fun t127=>(some t127))=some r:=H;have A4:=Aside0.mk A40;clear A40;obtain ⟨y124,hy124⟩ : ∃ y_:List Int,y_=(([t122,t123]:List Int)):=⟨_,rfl⟩;replace H:((cmp_Or_int.f k y124).bind fun t127=>(some t127))=some r:=by first|(rw [hy124];with_reducible exact H)|(have H2_:=(Option.bind_some _ _).symm.trans H;rw [hy124];with_reducible exact H2_)|(have H2_:=(Option.bind_some _ _).symm.trans H;with_reducible exact H2_)|with_reducible exact H|(rw [hy124];exact H)|exact H
 have Ny124:=Aside0.mk hy124;clear hy124;replace H:=Option.bind_eq_some_iff.mp H;obtain ⟨t127,A50,H⟩:=H;replace H:(some t127)=some r:=H;have A5:=Aside0.mk A50;clear A50;obtain rfl:=Option.some.inj H;go_enter Tryz.func194,Tryz.ntmps194;try go_wp2_with (first|((with_reducible refine gate_dst (N:=2) rfl ?_);refine bx 2 #[.int .u32 a0_0,.int .u32 a0_1,.int .u32 a0_2,.int .u32 a0_3,.int .u32 a0_4] 81 ?_;intro gb120 hg w6 hbox hb;have BK120:=Aside0.mk (hbox);have GW120:=Aside0.mk ((gG hg:w.heap.size≤gb120));have GE120:=Aside0.mk ((gG hg:w.heap.size≤gb120));replace HB:=Aside0.mk (below_step bD hb);clear hb hbox hg)|((with_reducible refine gate_dst (N:=3) rfl ?_);refine bx 3 #[.int .u32 a1_0,.int .u32 a1_1,.int .u32 a1_2,.int .u32 a1_3,.int .u32 a1_4] 81 ?_;intro gb121 hg w7 hbox hb;have n0_:=Aside0.mk (kb BK120 hb);have n1_:=Aside0.mk (below_step bD hb);have n2_:=Aside0.mk (hbox);have n3_:=Aside0.mk ((gG hg:w.heap.size≤gb121));have n4_:=Aside0.mk ((gG hg:w.heap.size≤gb121));have n5_:=Aside0.mk ((gN BK120 hg));have n6_:=Aside0.mk ((gN' BK120 hg));clear BK120;clear HB;have BK120:=n0_;have HB:=n1_;have BK121:=n2_;have GW121:=n3_;have GE121:=n4_;have NB120_121:=n5_;have NB121_120:=n6_;clear n0_ n1_ n2_ n3_ n4_ n5_ n6_;clear hb hbox hg))
 replace BK120:=Aside0.mk (blk_drew BK120.out);replace BK121:=Aside0.mk (blk_drew BK121.out);replace HB:=Aside0.mk (below_drew1 HB.out);refine rs 13 (fun w'=>w'.cell? ⟨gb120,0,none⟩=some (.int .u32 a0_0)∧w'.cell? ⟨gb120,1,none⟩=some (.int .u32 a0_1)∧w'.cell? ⟨gb120,2,none⟩=some (.int .u32 a0_2)∧w'.cell? ⟨gb120,3,none⟩=some (.int .u32 a0_3)∧w'.cell? ⟨gb120,4,none⟩=some (.int .u32 a0_4)∧w'.cell? ⟨gb121,0,none⟩=some (.int .u32 a1_0)∧w'.cell? ⟨gb121,1,none⟩=some (.int .u32 a1_1)∧w'.cell? ⟨gb121,2,none⟩=some (.int .u32 a1_2)∧w'.cell? ⟨gb121,3,none⟩=some (.int .u32 a1_3)∧w'.cell? ⟨gb121,4,none⟩=some (.int .u32 a1_4)) [] ⟨(blk_cell BK120.out 0).trans rfl,(blk_cell BK120.out 1).trans rfl,(blk_cell BK120.out 2).trans rfl,(blk_cell BK120.out 3).trans rfl,(blk_cell BK120.out 4).trans rfl,(blk_cell BK121.out 0).trans rfl,(blk_cell BK121.out 1).trans rfl,(blk_cell BK121.out 2).trans rfl,(blk_cell BK121.out 3).trans rfl,(blk_cell BK121.out 4).trans rfl⟩ (fun hHeld=>?_);refine with_tabW share_order.tab1 share_order.bits1 (fun HT_ HW_=>?_);generalize w7.drew=w8 at BK120 BK121 HB hHeld ⊢;refine rp 0 (some 5) ?_;refine rp 2 (some 7) ?_;refine rp 5 (some 10) ?_;refine rp 7 (some 12) ?_;refine rt 1 (some 6) ?_;refine rt 3 (some 8) ?_;refine rt 6 (some 11) ?_;refine rt 8 (some 13) ?_;refine ro 4 (some 9) (fun K hK=>?_);refine cr Tryz.func52 #[.int .u32 a0_0,.int .u32 a1_0] ?_;with_reducible refine (cmp_Compare_uint32.calls a0_0 a1_0 t122 _ A3.out).mono ?_
 rintro e w' ⟨rfl,⟨nd,rfl⟩⟩;refine ⟨_,rfl,?_⟩;refine hK.out _ _ ⟨(blk_cell BK120.out 0).trans rfl,(blk_cell BK120.out 1).trans rfl,(blk_cell BK120.out 2).trans rfl,(blk_cell BK120.out 3).trans rfl,(blk_cell BK120.out 4).trans rfl,(blk_cell BK121.out 0).trans rfl,(blk_cell BK121.out 1).trans rfl,(blk_cell BK121.out 2).trans rfl,(blk_cell BK121.out 3).trans rfl,(blk_cell BK121.out 4).trans rfl⟩ (fun hHeld=>?_);clear hK K;refine rn ?_;refine ro 9 (some 14) (fun K hK=>?_);refine cr Tryz.func52 #[.int .u32 a0_1,.int .u32 a1_1] ?_;with_reducible refine (cmp_Compare_uint32.calls a0_1 a1_1 t123 _ A4.out).mono ?_
 rintro e w' ⟨rfl,⟨nd,rfl⟩⟩;refine ⟨_,rfl,?_⟩;refine hK.out _ _ ⟨(blk_cell BK120.out 0).trans rfl,(blk_cell BK120.out 1).trans rfl,(blk_cell BK120.out 2).trans rfl,(blk_cell BK120.out 3).trans rfl,(blk_cell BK120.out 4).trans rfl,(blk_cell BK121.out 0).trans rfl,(blk_cell BK121.out 1).trans rfl,(blk_cell BK121.out 2).trans rfl,(blk_cell BK121.out 3).trans rfl,(blk_cell BK121.out 4).trans rfl⟩ (fun hHeld=>?_);clear hK K;refine rn ?_;refine ro 10 (some 15) (fun K hK=>?_);refine Kd.R_lit_step (Kd.int .i64) _ 3 ?hg (N:=15) ?hd (xs:=([t122,t123]:List Int)) (inner:=[.int .i64 t122,.int .i64 t123]) (ok:=fun _=>True) (okp:=fun _=>True) ?hr ?hp (fun _ hk=>hk) trivial (Below.refl _ _) (Nat.le_refl _) (by simp) ?_;(case hd=>rfl);(case hg=>rfl);(case hr=>first|(go_simp;done)|(go_simp;rfl));(case hp=>exact (Reps.one (show Kd.M (Kd.int .i64) _ _ _ t122 [.int .i64 t122] from rfl) (Reps.one (show Kd.M (Kd.int .i64) _ _ _ t123 [.int .i64 t123] from rfl) (Reps.none _ _))))
 intro v125 w9 ho10 hb hg_ hnew_;clear hg_ hnew_
 (first|rw [← Ny124.out] at ho10|(simp only [Int.reduceToNat] at ho10;rw [← Ny124.out] at ho10))
 have HO126:=Aside0.mk (Kd.R_lower ho10 (below_size bD));replace BK120:=Aside0.mk (kb BK120 hb);replace BK121:=Aside0.mk (kb BK121 hb);replace HB:=Aside0.mk (below_step bD hb);clear hb ho10;obtain ⟨Ao11,co11,eo11⟩:=Kd.R_slice HO126.out
 (first|subst eo11|(injection eo11 with f1_ f2_ f3_;have f4_:=f1_.symm;have f5_:=f3_.symm;clear f1_ f2_ f3_;subst f4_;subst f5_))
 refine hK.out _ _ ⟨(blk_cell BK120.out 0).trans rfl,(blk_cell BK120.out 1).trans rfl,(blk_cell BK120.out 2).trans rfl,(blk_cell BK120.out 3).trans rfl,(blk_cell BK120.out 4).trans rfl,(blk_cell BK121.out 0).trans rfl,(blk_cell BK121.out 1).trans rfl,(blk_cell BK121.out 2).trans rfl,(blk_cell BK121.out 3).trans rfl,(blk_cell BK121.out 4).trans rfl⟩ (fun hHeld=>?_);clear hK K;refine rn ?_;refine ro 11 (some 16) (fun K hK=>?_);refine cr Tryz.func51 #[.slice Ao11 y124.length co11] ?_;with_reducible refine (cmp_Or_int.calls k _ _ y124 t127 _ ?side1 ?side2 A5.out).mono ?_
 (case side1=>repeat (first|exact (Kd.R_reads' HO126.out).2.2|(with_reducible refine Kd.C_alloc ?_ _)|(with_reducible refine Kd.C_drewN ?_ _)|(with_reducible refine Kd.C_drew ?_)))
 (case side2=>exact (Kd.R_reads' HO126.out).2.1)
 rintro e w' ⟨rfl,⟨nd,rfl⟩⟩;refine ⟨_,rfl,?_⟩;refine hK.out _ _ ⟨(blk_cell BK120.out 0).trans rfl,(blk_cell BK120.out 1).trans rfl,(blk_cell BK120.out 2).trans rfl,(blk_cell BK120.out 3).trans rfl,(blk_cell BK120.out 4).trans rfl,(blk_cell BK121.out 0).trans rfl,(blk_cell BK121.out 1).trans rfl,(blk_cell BK121.out 2).trans rfl,(blk_cell BK121.out 3).trans rfl,(blk_cell BK121.out 4).trans rfl⟩ (fun hHeld=>?_);clear hK K;refine rn ?_;refine rp 12 (some 4) ?_;refine done_ (done_of HT_.out (by kernel_rfl)) ?_
 try go_wp2
 go_ret
 exact ⟨eE,bD⟩
end
def c5 (x:S43):List Value:=[.int .u32 x.f0,.int .u32 x.f1,.string x.f2,.bool x.f3,.int .u32 x.f4]
def flat (xs:List S43):List Value:=xs.flatMap c5
theorem c5_length (x:S43):(c5 x).length=5:=rfl
theorem flat_nil:flat [] = []:=rfl
theorem flat_cons (x:S43) (xs:List S43):flat (x::xs)=c5 x++flat xs:=rfl
theorem flat_append (a b:List S43):flat (a++b)=flat a++flat b:=List.flatMap_append
theorem flat_length : ∀ xs:List S43,(flat xs).length=xs.length*5
 | []=>rfl
 | x::xs=>by rw [flat_cons,List.length_append,c5_length,flat_length xs,List.length_cons];omega
theorem flat_drop : ∀ (xs:List S43) (j:Nat),(flat xs).drop (j*5)=flat (xs.drop j)
 | xs,0=>by simp
 | [],j+1=>by simp [flat_nil]
 | x::xs,j+1=>by
  rw [flat_cons,List.drop_succ_cons,← flat_drop xs j,show (j+1)*5=(c5 x).length+j*5 by rw [c5_length];omega,List.drop_append,List.drop_eq_nil_of_le (by omega),List.nil_append,Nat.add_sub_cancel_left]
theorem flat_take : ∀ (xs:List S43) (j:Nat),(flat xs).take (j*5)=flat (xs.take j)
 | xs,0=>by simp [flat_nil]
 | [],j+1=>by simp [flat_nil]
 | x::xs,j+1=>by
  rw [flat_cons,List.take_succ_cons,flat_cons,← flat_take xs j,show (j+1)*5=(c5 x).length+j*5 by rw [c5_length];omega,List.take_append,List.take_of_length_le (by omega),Nat.add_sub_cancel_left]
theorem flat_at (xs:List S43) (j:Nat) (x:S43) (h:xs[j]?=some x):((flat xs).drop (j*5)).take 5=c5 x:=by
 rw [flat_drop];have hj:j<xs.length:=(List.getElem?_eq_some_iff.1 h).1;rw [List.drop_eq_getElem_cons hj,flat_cons];have:xs[j]=x:=(List.getElem?_eq_some_iff.1 h).2;rw [this];exact List.take_left' (c5_length x)
theorem flat_reps {R:S43→List Value→Prop} (h : ∀ p,R p (c5 p)) (xs:List S43):Reps R 5 xs (flat xs) :=
 ⟨flat_length xs,fun j p hj=>by rw [flat_at xs j p hj];exact h p⟩
theorem reps_flat {R:S43→List Value→Prop} (h : ∀ p c,R p c→c=c5 p) : ∀ (xs:List S43) (cs:List Value),Reps R 5 xs cs→cs=flat xs
 | [],cs,hr=>by
  have:cs.length=0:=by simpa using hr.1
  rw [List.length_eq_zero_iff.1 this,flat_nil]
 | x::xs,cs,hr=>by
  have h0:=h _ _ (hr.2 0 x rfl);rw [Nat.zero_mul,List.drop_zero] at h0;have ih:=reps_flat h xs (cs.drop 5) ⟨by have:=hr.1;simp only [List.length_cons] at this;rw [List.length_drop];omega,fun j p hj=>by
   have:=hr.2 (j+1) p (by simpa using hj)
   rw [List.drop_drop];rwa [show 5+j*5=(j+1)*5 by omega]⟩
  rw [flat_cons,← ih,← h0,List.take_append_drop]
structure Row (w:World) (g cap:Nat) (cur:Array Value) (xs:List S43):Prop where
 heap:w.heap[g]?=some (.cells cur 43 (0,0))
 le:xs.length≤cap
 max:cap≤9223372036854775807
 size:cur.size=cap*5
 cells:cur.toList.take (xs.length*5)=flat xs
theorem row_of_R {w:World} {base:Nat} {ok:Nat→Prop} {v:Value} {xs:List S43} (h:Kd.R k43 43 w base ok v xs) (hp:0<xs.length) : ∃ g cap cur,v=.slice (some ⟨g,0,none⟩) xs.length cap∧base≤g∧Row w g cap cur xs:=by
 obtain ⟨_,inner,hown,hrep⟩:=h;have hf:=reps_flat (fun p c hM=>k43_openM hM) xs inner hrep;obtain ⟨h1,h2⟩:=hown;rcases h2 with ⟨_,h0⟩|⟨g,cap,cur,hv,hb,hg,hle,hmax,hsz,hc⟩
 ·omega
 ·exact ⟨g,cap,cur,hv,hb,hg,hle,by unfold maxLen at hmax;exact hmax,hsz,by rw [← hf];exact hc⟩
theorem R_of_row {w:World} {base g cap:Nat} {cur:Array Value} {xs:List S43} (h:Row w g cap cur xs) (hb:base≤g):Kd.R k43 43 w base (fun _=>True) (.slice (some ⟨g,0,none⟩) xs.length cap) xs :=
 ⟨fun _ _=>trivial,flat xs,⟨flat_length xs,.inr ⟨g,cap,cur,rfl,hb,h.heap,h.le,by unfold maxLen;exact h.max,h.size,h.cells⟩⟩,flat_reps (fun p=>k43_mkM _ _ _ p) xs⟩
theorem run_copy5 {P:Program} (w:World) (dT sT ty elem:TypeId) (g o dLen dCap:Nat) (a:Addr) (sLen sCap:Nat) (cur:Array Value) (t:TypeId) (cs:List Value)
  (hu:P.underlying dT=some (.slice elem)) (hs:(P.info? elem).map (·.size)=some 5)
  (hg:w.heap[g]?=some (.cells cur t (0,0))) (hn:cs.length=Nat.min sLen dLen*5)
  (hsrc : ∀ j v,cs[j]?=some v→w.cell? (a.add j)=some v) (hfit:o+cs.length≤cur.size) (h1 : ∀ v∈cs,v.oneCell'=true) :
  (Builtin.copy_ #[dT,sT] ty #[.slice (some ⟨g,o,none⟩) dLen dCap,.slice (some a) sLen sCap]).run P w =
   .ok (goInt (Nat.min sLen dLen)) (w.setRow g (cur.toList.take o++cs++cur.toList.drop (o+cs.length)).toArray):=by
 have hl:=run_loadCells_list (P:=P) w a cs hsrc;have hst:=run_storeCells_at P g o t cs 0 cur w hg (by simpa using hfit) h1
 cases hq:P.info? elem with
 | none=>simp [hq] at hs
 | some i =>
  have hi:i.size=5:=by simpa [hq] using hs
  simp [Builtin.copy_,run_underlying hu,Builtin.lenOf,Builtin.firstCells,sizeOf,typeInfo,hq,hi,← hn,hl,hst]
theorem flat_one : ∀ (xs:List S43) (v:Value),v∈flat xs→v.oneCell'=true
 | [],v,h=>by cases h
 | x::xs,v,h=>by
  rw [flat_cons] at h;rcases List.mem_append.1 h with h|h
  ·simp only [c5,List.mem_cons,List.not_mem_nil,or_false] at h;rcases h with rfl|rfl|rfl|rfl|rfl <;> rfl
  ·exact flat_one xs v h
theorem row_cell {w:World} {g cap:Nat} {cur:Array Value} {xs:List S43} (h:Row w g cap cur xs) (k:Nat) (hk:k<xs.length*5):w.cell? ⟨g,k,none⟩=(flat xs)[k]?:=by
 rw [blk_cell h.heap,← h.cells,List.getElem?_take,if_pos hk];simp
theorem shift_cells (cur:List Value) (l:List S43) (x:S43) (i cap:Nat) (hi:i≤l.length) (hcap:l.length+1≤cap) (hsz:cur.length=cap*5) (hc:cur.take (l.length*5)=flat l) :
  let c1:=cur.take ((i+1)*5)++flat (l.drop i)++cur.drop ((i+1)*5+(flat (l.drop i)).length)
  let c2:=c1.take (i*5)++c5 x++c1.drop (i*5+5)
  c1.length=cap*5∧c2.length=cap*5∧c2.take ((l.length+1)*5)=flat (l.take i++x::l.drop i):=by
 intro c1 c2;have hdl:(flat (l.drop i)).length=(l.length-i)*5:=by rw [flat_length,List.length_drop]
 have h1:c1.length=cap*5:=by simp only [c1,List.length_append,List.length_take,List.length_drop,hsz,hdl];omega
 have h2:c2.length=cap*5:=by simp only [c2,List.length_append,List.length_take,List.length_drop,h1,c5_length];omega
 refine ⟨h1,h2,?_⟩;have e1:c1.take (i*5)=flat (l.take i):=by
  simp only [c1];rw [List.append_assoc,List.take_append_of_le_length (by rw [List.length_take,hsz];omega),List.take_take,Nat.min_eq_left (by omega),← flat_take,← hc,List.take_take,Nat.min_eq_left (by omega)]
 have e2:c1.drop (i*5+5)=flat (l.drop i)++cur.drop ((i+1)*5+(flat (l.drop i)).length):=by
  simp only [c1];rw [List.append_assoc,List.drop_append,List.drop_eq_nil_of_le (by rw [List.length_take];omega),List.nil_append,List.length_take,hsz,Nat.min_eq_left (by omega),show i*5+5-(i+1)*5=0 by omega,List.drop_zero]
 simp only [c2];rw [e1,e2,flat_append,flat_cons,List.append_assoc,← List.append_assoc (c5 x),← List.append_assoc,List.take_append,List.length_append,List.length_append,c5_length,flat_length,flat_length,List.length_take,List.length_drop];rw [List.take_of_length_le (by simp only [List.length_append,c5_length,flat_length,List.length_take,List.length_drop];omega)]
 rw [show (l.length+1)*5-(min i l.length*5+(5+(l.length-i)*5))=0 by omega,List.take_zero,List.append_nil]
theorem ins_shift (g cap gv vc:Nat) (cur:Array Value) (l:List S43) (x:S43) (i:Nat) (w:World) (hr:Row w g cap cur l) (hv:w.heap[gv]?=some (.cells (c5 x).toArray 43 (0,0))) (hne:gv≠g) (hi:i<l.length) (hroom:l.length+1≤cap) (hl:l.length≤1000) :
  Calls Tryz.prog 311 #[.slice (some ⟨g,0,none⟩) l.length cap,.int .i64 i,.slice (some ⟨gv,0,none⟩) 1 vc] w fun e w'=>e=.returned (.slice (some ⟨g,0,none⟩) (l.length+1) cap)∧(∃ cur',Row w' g cap cur' (l.take i++x::l.drop i))∧w.grownBy w' (some g):=by
 have hcap63:=hr.max;have hsc:=shift_cells cur.toList l x i cap (by omega) hroom (by rw [Array.length_toList];exact hr.size) hr.cells
 have hz2 : ¬ ((i:Int)=(l.length:Int)):=by omega
 have hz3 : ¬ ((cap:Int)<(l.length:Int)+1):=by omega
 have hov : ∀ lb cb,(callFunc 336 #[.slice (some ⟨gv,0,none⟩) 1 vc,.slice (some ⟨g,(i+1)*5,none⟩) lb cb]).run Tryz.prog w=.ok (.value (.bool false)) w:=fun lb cb=>by
  rw [run_callFunc_extern Tryz.func336 (by kernel_rfl) (by kernel_rfl) (by kernel_rfl) (e:=Extern.SlicesOverlaps.overlaps #[25,25] #[4]) (by kernel_rfl),
   Lib.run_overlaps_apart w 25 4 43 Tryz.underlying25 5 (by intro w;kernel_rfl) ⟨gv,0,none⟩ ⟨g,(i+1)*5,none⟩ 1 vc lb cb hne 43 43 5 (cap*5) (by simp [World.shape?,hv,c5]) (by simp [World.shape?,hr.heap,hr.size]) (by omega) (blk_frozen hv 0) (blk_frozen hv 5)]
  rfl
 have hdl:(flat (l.drop i)).length=(l.length-i)*5:=by rw [flat_length,List.length_drop]
 have hs5:(Tryz.prog.info? 43).map (·.size)=some 5:=by kernel_rfl
 obtain ⟨c1,hc1⟩ : ∃ c1,c1=cur.toList.take ((i+1)*5)++flat (l.drop i)++cur.toList.drop ((i+1)*5+(flat (l.drop i)).length):=⟨_,rfl⟩;obtain ⟨c2,hc2⟩ : ∃ c2,c2=c1.take (i*5)++c5 x++c1.drop (i*5+5):=⟨_,rfl⟩;obtain ⟨l1,l2,l3⟩:c1.length=cap*5∧c2.length=cap*5∧c2.take ((l.length+1)*5)=flat (l.take i++x::l.drop i):=by rw [hc2,hc1];exact hsc
 have hcp1:Aside0 (∀ ty dc sc,(Builtin.copy_ #[25,25] ty #[.slice (some ⟨g,(i+1)*5,none⟩) (l.length-i) dc,.slice (some ⟨g,i*5,none⟩) (l.length+1-i) sc]).run Tryz.prog w.drew=.ok (goInt (l.length-i)) (w.drew.setRow g c1.toArray)):=⟨fun ty dc sc=>by
  have h:=run_copy5 (P:=Tryz.prog) w.drew 25 25 ty 43 g ((i+1)*5) (l.length-i) dc ⟨g,i*5,none⟩ (l.length+1-i) sc cur 43 (flat (l.drop i)) Tryz.underlying25 hs5 hr.heap (by rw [hdl];congr 1;simp only [Nat.min_def];split <;> omega)
   (fun j v hj=>by
    rw [Addr.add_lit];show w.cell? ⟨g,i*5+j,none⟩=some v
    have hjl:=(List.getElem?_eq_some_iff.1 hj).1;rw [hdl] at hjl;rw [row_cell hr _ (by omega),← List.getElem?_drop,flat_drop]
    exact hj)
   (by rw [hdl,hr.size];omega) (fun v hv=>flat_one _ v hv)
  rw [← hc1] at h;rw [h];congr 2
  simp only [Nat.min_def];split <;> omega⟩
 have hW1:(w.drew.setRow g c1.toArray).heap[g]?=some (.cells c1.toArray 43 (0,0)):=setRow_heap _ _ _ _ _ _ hr.heap;have hV1:(w.drew.setRow g c1.toArray).heap[gv]?=some (.cells (c5 x).toArray 43 (0,0)):=(setRow_other _ _ _ _ hne).trans hv;obtain ⟨W1,hWW⟩ : ∃ W1,W1=w.drew.setRow g c1.toArray:=⟨_,rfl⟩;rw [← hWW] at hcp1 hW1 hV1;have hcp2:Aside0 (∀ ty dc,(Builtin.copy_ #[25,25] ty #[.slice (some ⟨g,i*5,none⟩) (l.length+1-i) dc,.slice (some ⟨gv,0,none⟩) 1 vc]).run Tryz.prog W1=.ok (goInt 1) (W1.setRow g c2.toArray)):=⟨fun ty dc=>by
  have h:=run_copy5 (P:=Tryz.prog) W1 25 25 ty 43 g (i*5) (l.length+1-i) dc ⟨gv,0,none⟩ 1 vc c1.toArray 43 (c5 x) Tryz.underlying25 hs5 hW1 (by rw [c5_length];simp only [Nat.min_def];split <;> omega)
   (fun j v hj=>by rw [Addr.add_lit,Nat.zero_add,blk_cell hV1];simpa using hj)
   (by rw [c5_length];simp only [List.size_toArray];omega) (fun v hv=>flat_one [x] v (by simpa [flat] using hv))
  rw [List.toList_toArray,c5_length,← hc2] at h;rw [h];congr 2
  simp only [Nat.min_def];split <;> omega⟩
 have hfin:Row (W1.setRow g c2.toArray) g cap c2.toArray (l.take i++x::l.drop i):=by
  have hlen:(l.take i++x::l.drop i).length=l.length+1:=by simp;omega
  exact ⟨setRow_heap _ _ _ _ _ _ hW1,by omega,hcap63,by simpa using l2,by rw [hlen];simpa using l3⟩
 have hgr:w.grownBy (W1.setRow g c2.toArray) (some g):=by
  rw [hWW];exact ⟨rfl,rfl,rfl,by simp [World.setRow],fun k _ hk=>by
   have hk':k≠g:=fun e=>hk (by rw [e])
   rw [setRow_other _ _ _ _ hk',setRow_other _ _ _ _ hk'];rfl⟩
 have hw1:IntKind.i64.wrap ((i:Int)+1)=(i:Int)+1:=by rw [IntKind.wrap_i64];omega
 have hb1:(0:Int)≤(i:Int)+1:=by omega
 have htn:((i:Int)+1).toNat=i+1:=by omega
 have hb2 : ¬ (cap=i+1):=by omega
 have hb3:(i:Int)+1≤(l.length:Int)+1:=by omega
 have hb5:(i:Int)≤(l.length:Int)+1:=by omega
 have hb6:(i:Int)≤(l.length:Int):=by omega
 have hb4 : ¬ (cap=i):=by omega
 have hin:i≤l.length:=by omega
 have hin1:i≤l.length+1:=by omega
 have HFIN:=Aside0.mk hfin;have HGR:=Aside0.mk hgr;clear hfin hgr hsc hW1 hV1 hdl l1 l2 l3 hc1 hc2 hWW hr hv;go_enter Tryz.func311,Tryz.ntmps311;go_wp2_with (fail)
 go_region_law (refine step_copy_runI rfl _ _ 25 25 rfl (.slice (some ⟨g,(i+1)*5,none⟩) (l.length-i) (cap-(i+1))) (.slice (some ⟨g,i*5,none⟩) (l.length+1-i) (cap-i)) (by simp [Act.eval,Act.put]) (by simp [Act.eval,Act.put]) (hcp1.out _ _ _) ?_)
 go_wp2_with ((with_reducible refine gate_builtin (b:=.copy) (xs:=#[.tmp 80,.tmp 81]) rfl ?_);(refine wpList_copy_runI _ rfl (.tmp 80) (.tmp 81) 25 25 rfl (.slice (some ⟨g,i*5,none⟩) (l.length+1-i) (cap-i)) (.slice (some ⟨gv,0,none⟩) 1 vc) rfl rfl (hcp2.out _ _) ?_))
 all_goals go_ways
 all_goals (go_ret;exact ⟨rfl,⟨_,HFIN.out⟩,HGR.out⟩)
end Go.Proofs.YtikjfekagdcjmaaGreatDoor.Q
