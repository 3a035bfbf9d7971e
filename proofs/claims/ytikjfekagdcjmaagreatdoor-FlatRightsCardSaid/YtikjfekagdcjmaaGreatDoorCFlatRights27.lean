/- Contracts and plain theory behind FlatRights. -/
import Derived.Test.YtikjfekagdcjmaaGreatDoorCFlatRights2
import Derived.Test.YtikjfekagdcjmaaGreatDoorCFlatRights3
import Derived.Test.YtikjfekagdcjmaaGreatDoorCFlatRights4
import Derived.Test.YtikjfekagdcjmaaGreatDoorCFlatRights6
import Derived.Test.YtikjfekagdcjmaaGreatDoorCFlatRights7
import Derived.Test.YtikjfekagdcjmaaGreatDoorCFlatRights13
import Derived.Test.YtikjfekagdcjmaaGreatDoorCFlatRights14
import Derived.Test.YtikjfekagdcjmaaGreatDoorCFlatRights15
import Derived.Test.YtikjfekagdcjmaaGreatDoorCFlatRights16
import Derived.Test.YtikjfekagdcjmaaGreatDoorCFlatRights17
import Derived.Test.YtikjfekagdcjmaaGreatDoorCFlatRights18
import Derived.Test.YtikjfekagdcjmaaGreatDoorCFlatRights23
import Derived.Test.YtikjfekagdcjmaaGreatDoorCFlatRights24
import Derived.Test.YtikjfekagdcjmaaGreatDoorCFlatRights26
set_option linter.unusedVariables false
set_option linter.unusedSimpArgs false
set_option maxHeartbeats 16000000
set_option maxRecDepth 100000
namespace Go.Proofs.YtikjfekagdcjmaaGreatDoor.Q
open Go.RowKit Go.Proofs.YtikjfekagdcjmaaGreatDoorW.PrintWords Go.Proofs.YtikjfekagdcjmaaGreatDoorW.PrintLast Go.Proofs.YtikjfekagdcjmaaGreatDoorW.PrintMore
theorem w1 {i:Nat} (h:i≤1000000):wrap64 ((i:Int)+1)=((i+1:Nat):Int):=by unfold wrap64;omega
def cmpL (n m:Nat) (ne:Nat→Bool):Bool:=decide (n=m)&&(List.range' 0 n).all fun j=>!ne j
theorem cmp_loop (g:Nat→Int→Option Bool) (ne:Nat→Bool) (n:Nat) (hn:n≤1000) (h0 : ∀ (k i:Nat),i<n→g (k+1) i=if ne i=true then some false else g k (wrap64 (i+1))) (h1 : ∀ k,g (k+1) n=some true) : ∀ (d k i:Nat),i+d=n→d<k→g k (i:Int)=some ((List.range' i d).all fun j=>!ne j)
 | 0,k,i,h,hk=>by
  obtain ⟨k,rfl⟩ : ∃ m,k=m+1:=⟨k-1,by omega⟩
  obtain rfl:i=n:=by omega
  rw [h1];rfl
 | d+1,k,i,h,hk=>by
  obtain ⟨k,rfl⟩ : ∃ m,k=m+1:=⟨k-1,by omega⟩
  rw [h0 k i (by omega),w1 (by omega),cmp_loop g ne n hn h0 h1 d k (i+1) (by omega) (by omega)]
  rw [List.range'_succ,List.all_cons];cases ne i <;> simp
def neI (x y:SI):Bool:=(!(x.f0 == y.f0)||(!(x.f1 == y.f1)||(!((x.f2.toList) == (y.f2.toList))||(!(x.f3 == y.f3)||(!(x.f4 == y.f4))))))
def neO (x y:O.T):Bool:=(!(x.f0 == y.f0)||(!(x.f1 == y.f1)||(!(x.f2 == y.f2)||(!(x.f3 == y.f3)||(!(x.f4 == y.f4))))))
def neB (x y:B.T):Bool:=(!(x.f0 == y.f0)||(!((x.f1.toList) == (y.f1.toList))))
def sameT (l m:List SI):Bool:=cmpL l.length m.length fun j=>neI (rd_T43 l j) (rd_T43 m j)
def sameP (l m:List O.T):Bool:=cmpL l.length m.length fun j=>neO (rd_T81 l j) (rd_T81 m j)
def sameD (l m:List B.T):Bool:=cmpL l.length m.length fun j=>neB (rd_T87 l j) (rd_T87 m j)
theorem sameT_r (l m:List SI) (hl:l.length≤1000) (k:Nat) (hk:l.length<k):r10_Same.f k l m=some (sameT l m):=by
 unfold r10_Same.f sameT cmpL;by_cases h:l.length=m.length
 ·rw [if_pos (by omega),decide_eq_true h,Bool.true_and]
  exact cmp_loop (fun k i=>r10_Same.l0 k l m i) _ l.length hl (fun k i hi=>by simp only [r10_Same.l0];rw [if_pos (by omega),if_pos (by omega),if_pos (by omega)];rfl) (fun k=>by simp only [r10_Same.l0];rw [if_neg (by omega)]) l.length k 0 (by omega) hk
 ·rw [if_neg (by omega),decide_eq_false h,Bool.false_and]
theorem sameP_r (l m:List O.T) (hl:l.length≤1000) (k:Nat) (hk:l.length<k):r11_Same.f k l m=some (sameP l m):=by
 unfold r11_Same.f sameP cmpL;by_cases h:l.length=m.length
 ·rw [if_pos (by omega),decide_eq_true h,Bool.true_and]
  exact cmp_loop (fun k i=>r11_Same.l0 k l m i) _ l.length hl (fun k i hi=>by simp only [r11_Same.l0];rw [if_pos (by omega),if_pos (by omega),if_pos (by omega)];rfl) (fun k=>by simp only [r11_Same.l0];rw [if_neg (by omega)]) l.length k 0 (by omega) hk
 ·rw [if_neg (by omega),decide_eq_false h,Bool.false_and]
theorem sameT_f (l m:List SI) (hl:l.length≤1000) (k:Nat) (hk:l.length<k):api_Inode_92.f k l m=some (sameT l m):=by
 unfold api_Inode_92.f sameT cmpL;by_cases h:l.length=m.length
 ·rw [if_pos (by omega),decide_eq_true h,Bool.true_and]
  exact cmp_loop (fun k i=>api_Inode_92.l0 k l m l.length i) _ l.length hl (fun k i hi=>by simp only [api_Inode_92.l0];rw [if_pos (by omega),if_pos (by omega),if_pos (by omega),if_pos (by omega)];rfl) (fun k=>by simp only [api_Inode_92.l0];rw [if_neg (by omega)]) l.length k 0 (by omega) hk
 ·rw [if_neg (by omega),decide_eq_false h,Bool.false_and]
theorem sameP_f (l m:List O.T) (hl:l.length≤1000) (k:Nat) (hk:l.length<k):api_Open_93.f k l m=some (sameP l m):=by
 unfold api_Open_93.f sameP cmpL;by_cases h:l.length=m.length
 ·rw [if_pos (by omega),decide_eq_true h,Bool.true_and]
  exact cmp_loop (fun k i=>api_Open_93.l0 k l m l.length i) _ l.length hl (fun k i hi=>by simp only [api_Open_93.l0];rw [if_pos (by omega),if_pos (by omega),if_pos (by omega),if_pos (by omega)];rfl) (fun k=>by simp only [api_Open_93.l0];rw [if_neg (by omega)]) l.length k 0 (by omega) hk
 ·rw [if_neg (by omega),decide_eq_false h,Bool.false_and]
theorem sameD_f (l m:List B.T) (hl:l.length≤1000) (k:Nat) (hk:l.length<k):api_Body_121.f k l m=some (sameD l m):=by
 unfold api_Body_121.f sameD cmpL;by_cases h:l.length=m.length
 ·rw [if_pos (by omega),decide_eq_true h,Bool.true_and]
  exact cmp_loop (fun k i=>api_Body_121.l0 k l m l.length i) _ l.length hl (fun k i hi=>by simp only [api_Body_121.l0];rw [if_pos (by omega),if_pos (by omega),if_pos (by omega),if_pos (by omega)];rfl) (fun k=>by simp only [api_Body_121.l0];rw [if_neg (by omega)]) l.length k 0 (by omega) hk
 ·rw [if_neg (by omega),decide_eq_false h,Bool.false_and]
def sameS (n:Int) (tl:List SI) (ol:List O.T) (bl:List B.T) (n':Int) (tl':List SI) (ol':List O.T) (bl':List B.T):Bool:=decide (n=n')&&sameT tl tl'&&sameP ol ol'&&sameD bl bl'
theorem sameS_f (n:Int) (tl:List SI) (ol:List O.T) (bl:List B.T) (n':Int) (tl':List SI) (ol':List O.T) (bl':List B.T) (h1:tl.length≤1000) (h2:ol.length≤1000) (h3:bl.length≤1000) (k:Nat) (hk:1000<k):flat_Same.f k n tl ol bl n' tl' ol' bl'=some (sameS n tl ol bl n' tl' ol' bl'):=by
 unfold flat_Same.f sameS;rw [sameT_f tl tl' h1 k (by omega),sameP_f ol ol' h2 k (by omega),sameD_f bl bl' h3 k (by omega)]
 simp only [Option.bind_some];by_cases h:n=n'
 ·rw [if_pos h,decide_eq_true h];cases sameT tl tl' <;> cases sameP ol ol' <;> simp
 ·rw [if_neg h,decide_eq_false h];simp
theorem sameS_r (n:Int) (tl:List SI) (ol:List O.T) (bl:List B.T) (n':Int) (tl':List SI) (ol':List O.T) (bl':List B.T) (h1:tl.length≤1000) (h2:ol.length≤1000) (h3:bl.length≤1000) (k:Nat) (hk:1002<k):r19_Same.f k n tl ol bl n' tl' ol' bl'=some (sameS n tl ol bl n' tl' ol' bl'):=by
 obtain ⟨k,rfl⟩ : ∃ m,k=m+1:=⟨k-1,by omega⟩
 unfold r19_Same.f sameS;rw [sameT_r tl tl' h1 (k+1) (by omega),sameP_r ol ol' h2 (k+1) (by omega)]
 simp only [Option.bind_some];by_cases h:n=n'
 ·rw [if_pos h,decide_eq_true h];cases sameT tl tl'
  ·simp [r19_Same.j0]
  ·cases sameP ol ol'
   ·simp [r19_Same.j0]
   ·rw [if_pos rfl,if_pos rfl,r19_Same.j0];unfold sameD cmpL;by_cases hb:bl.length=bl'.length
    ·rw [show ((bl.length:Int) != (bl'.length:Int))=false by rw [bne_eq_false_iff_eq];omega,if_neg (by decide),decide_eq_true hb]
     simp only [Bool.true_and];exact cmp_loop (fun k i=>r19_Same.l0 k i n tl ol bl n' tl' ol' bl') _ bl.length h3 (fun k i hi=>by simp only [r19_Same.l0];rw [if_pos (by omega),if_pos (by omega),if_pos (by omega)];rfl) (fun k=>by simp only [r19_Same.l0];rw [if_neg (by omega)]) bl.length k 0 (by omega) (by omega)
    ·rw [show ((bl.length:Int) != (bl'.length:Int))=true by rw [bne_iff_ne];omega,if_pos rfl,decide_eq_false hb]
     simp
 ·rw [if_neg h,decide_eq_false h];simp [r19_Same.j0]
theorem great_loop1 (n:Int) (tl:List SI) (ol:List O.T) (bl:List B.T) (hl:bl.length≤60) : ∀ (d k i:Nat),i+d=bl.length→d<k→(∀ j (hj:j<i) (hl:j<bl.length),bl[j].f1.size≤3000) →
  r19_Great.l1 k (i:Int) n tl ol bl=some true∨r19_Great.l1 k (i:Int) n tl ol bl=some false∧∀ x∈bl,x.f1.size≤3000
 | 0,k,i,h,hk,ha=>by
  obtain ⟨k,rfl⟩ : ∃ m,k=m+1:=⟨k-1,by omega⟩
  right
  refine ⟨by simp only [r19_Great.l1];rw [if_neg (by omega)],fun x hx=>?_⟩
  obtain ⟨j,hj,rfl⟩:=List.getElem_of_mem hx;exact ha j (by omega) hj
 | d+1,k,i,h,hk,ha=>by
  obtain ⟨k,rfl⟩ : ∃ m,k=m+1:=⟨k-1,by omega⟩
  simp only [r19_Great.l1];rw [if_pos (by omega),if_pos (by omega),B.rdT bl i (by omega)]
  by_cases hb:((bl[i]'(by omega)).f1.size:Int)>3000
  ·rw [if_pos hb];exact .inl rfl
  ·rw [if_neg hb,w1 (by omega)]
   exact great_loop1 n tl ol bl hl d k (i+1) (by omega) (by omega) (fun j hj hl=>by
    rcases Nat.lt_or_ge j i with h5|h5
    ·exact ha j h5 hl
    ·obtain rfl:j=i:=by omega
     omega)
theorem great_loop0 (n:Int) (tl:List SI) (ol:List O.T) (bl:List B.T) (hl:bl.length≤60) (hlt:tl.length≤60) : ∀ (d k i:Nat),i+d=tl.length→d+100<k→(∀ j (hj:j<i) (hl:j<tl.length),tl[j].f2.size≤200) →
  r19_Great.l0 k (i:Int) n tl ol bl=some true∨r19_Great.l0 k (i:Int) n tl ol bl=some false∧(∀ x∈bl,x.f1.size≤3000)∧∀ x∈tl,x.f2.size≤200
 | 0,k,i,h,hk,ha=>by
  obtain ⟨k,rfl⟩ : ∃ m,k=m+1:=⟨k-1,by omega⟩
  simp only [r19_Great.l0];rw [if_neg (by omega)]
  rcases great_loop1 n tl ol bl hl bl.length k 0 (by omega) (by omega) (fun j hj=>absurd hj (Nat.not_lt_zero _)) with h1|⟨h1,h2⟩
  ·exact .inl h1
  ·refine .inr ⟨h1,h2,fun x hx=>?_⟩;obtain ⟨j,hj,rfl⟩:=List.getElem_of_mem hx;exact ha j (by omega) hj
 | d+1,k,i,h,hk,ha=>by
  obtain ⟨k,rfl⟩ : ∃ m,k=m+1:=⟨k-1,by omega⟩
  simp only [r19_Great.l0];rw [if_pos (by omega),if_pos (by omega),rdI tl i (by omega)]
  by_cases hb:((tl[i]'(by omega)).f2.size:Int)>200
  ·rw [if_pos hb];exact .inl rfl
  ·rw [if_neg hb,w1 (by omega)]
   exact great_loop0 n tl ol bl hl hlt d k (i+1) (by omega) (by omega) (fun j hj hl=>by
    rcases Nat.lt_or_ge j i with h5|h5
    ·exact ha j h5 hl
    ·obtain rfl:j=i:=by omega
     omega)
structure Small (tl:List SI) (ol:List O.T) (bl:List B.T):Prop where
 t:tl.length≤60
 o:ol.length≤30
 b:bl.length≤60
 nm : ∀ x∈tl,x.f2.size≤200
 d : ∀ x∈bl,x.f1.size≤3000
theorem great_f (n:Int) (tl:List SI) (ol:List O.T) (bl:List B.T) (k:Nat) (hk:200<k):r19_Great.f k n tl ol bl=some true∨r19_Great.f k n tl ol bl=some false∧Small tl ol bl:=by
 obtain ⟨k,rfl⟩ : ∃ m,k=m+1:=⟨k-1,by omega⟩
 unfold r19_Great.f;simp only [r19_Great.j0];by_cases h1:(tl.length:Int)>60
 ·rw [if_pos h1];exact .inl rfl
 rw [if_neg h1];by_cases h2:(ol.length:Int)>30
 ·rw [if_pos h2];exact .inl rfl
 rw [if_neg h2];by_cases h3:(bl.length:Int)>60
 ·rw [decide_eq_true h3];exact .inl rfl
 rw [decide_eq_false h3,if_neg (by decide)]
 rcases great_loop0 n tl ol bl (by omega) (by omega) tl.length k 0 (by omega) (by omega) (fun j hj=>absurd hj (Nat.not_lt_zero _)) with h4|⟨h4,h5,h6⟩
 ·exact .inl h4
 ·exact .inr ⟨h4,by omega,by omega,by omega,h6,h5⟩
def wfO (o:O.T):Bool:=decide (0≤o.f0)&&decide (o.f0≤4294967295)&&decide (0≤o.f1)&&decide (o.f1≤4294967295)&&decide (0≤o.f2)&&decide (o.f2≤4294967295)&&decide (0≤o.f3)&&decide (o.f3≤4294967295)&&decide (0≤o.f4)&&decide (o.f4≤4294967295)
theorem wfO_iff (o:O.T):wfO o=true↔0≤o.f0∧o.f0≤4294967295∧0≤o.f1∧o.f1≤4294967295∧0≤o.f2∧o.f2≤4294967295∧0≤o.f3∧o.f3≤4294967295∧0≤o.f4∧o.f4≤4294967295:=by
 unfold wfO;simp only [Bool.and_eq_true,decide_eq_true_eq,and_assoc]
def wfP (ol:List O.T):Bool:=ol.all wfO
theorem rone_f (o:O.T) (h:wfO o=true):r11_One.f o.f0 o.f1 o.f2 o.f3 o.f4=some (oneB o):=by
 rw [wfO_iff] at h;unfold r11_One.f oneB;by_cases h0:o.f0=0
 ·rw [if_pos h0,decide_eq_false (show ¬ 0<o.f0 by omega)];rfl
 rw [if_neg h0,decide_eq_true (show 0<o.f0 by omega)]
 by_cases h2:o.f2=0
 ·rw [if_pos h2,decide_eq_false (show ¬ 0<o.f2 by omega)];rfl
 rw [if_neg h2,decide_eq_true (show 0<o.f2 by omega)]
 by_cases h3:o.f3≥1
 ·rw [if_pos h3,decide_eq_true (show 1≤o.f3 by omega)]
  by_cases h4:o.f3≤3
  ·rw [if_pos h4,decide_eq_true h4];simp
  ·rw [if_neg h4,decide_eq_false h4];simp
 ·rw [if_neg h3,decide_eq_false (show ¬ 1≤o.f3 by omega)];simp
theorem bit_eq (a b:Int) (ha:0≤a) (ha3:a≤3) (hb:0≤b) (hb3:b≤3):bitB a b=decide (Go.bits .and .u32 a b≠0):=by
 have h1:a=0∨a=1∨a=2∨a=3:=by omega
 have h2:b=0∨b=1∨b=2∨b=3:=by omega
 rcases h1 with rfl|rfl|rfl|rfl <;> rcases h2 with rfl|rfl|rfl|rfl <;> decide
theorem oneB_iff (o:O.T):oneB o=true↔0<o.f0∧0<o.f2∧1≤o.f3∧o.f3≤3∧o.f4≤3:=by
 unfold oneB;simp only [Bool.and_eq_true,decide_eq_true_eq,and_assoc]
theorem rclash_f (x y:O.T) (hx:wfO x=true) (hy:wfO y=true) (ox:oneB x=true) (oy:oneB y=true):r11_Clash.f x.f0 x.f1 x.f2 x.f3 x.f4 y.f0 y.f1 y.f2 y.f3 y.f4=some (clashB x y):=by
 rw [wfO_iff] at hx hy;rw [oneB_iff] at ox oy;unfold r11_Clash.f clashB r11_bit.f;by_cases h:x.f2=y.f2
 ·rw [if_pos h,decide_eq_true h,if_pos ⟨hx.2.2.2.2.2.2.1,by omega,hy.2.2.2.2.2.2.2.2.1,by omega⟩,if_pos ⟨hy.2.2.2.2.2.2.1,by omega,hx.2.2.2.2.2.2.2.2.1,by omega⟩,bit_eq x.f3 y.f4 (by omega) (by omega) (by omega) (by omega),bit_eq y.f3 x.f4 (by omega) (by omega) (by omega) (by omega)]
  simp only [Option.bind_some,Bool.true_and];cases decide (Go.bits .and .u32 x.f3 y.f4≠0) <;> simp
 ·rw [if_neg h,decide_eq_false h];rfl
theorem rmine_loop (l:List O.T) (c:Int) (hl:l.length≤1000) : ∀ (d k i m:Nat),i+d=l.length→d<k→m≤i→r11_Mine.l0 k l c (m:Int) (i:Int)=some ((m+(l.drop i).countP fun x=>x.f0 == c:Nat):Int)
 | 0,k,i,m,h,hk,hm=>by
  obtain ⟨k,rfl⟩ : ∃ m,k=m+1:=⟨k-1,by omega⟩
  simp only [r11_Mine.l0];rw [if_neg (by omega),List.drop_of_length_le (by omega)]
  simp
 | d+1,k,i,m,h,hk,hm=>by
  obtain ⟨k,rfl⟩ : ∃ m,k=m+1:=⟨k-1,by omega⟩
  simp only [r11_Mine.l0];rw [if_pos (by omega),if_pos (by omega),O.rdT l i (by omega),w1 (show m≤1000000 by omega),w1 (show i≤1000000 by omega),List.drop_eq_getElem_cons (show i<l.length by omega),List.countP_cons]
  by_cases hc:(l[i]'(by omega)).f0=c
  ·rw [if_pos hc,rmine_loop l c hl d k (i+1) (m+1) (by omega) (by omega) (by omega),if_pos (by rw [beq_iff_eq];exact hc)]
   congr 1
   omega
  ·rw [if_neg hc,rmine_loop l c hl d k (i+1) m (by omega) (by omega) (by omega),if_neg (by rw [beq_iff_eq];exact hc)]
   simp
theorem rmine_f (l:List O.T) (c:Int) (hl:l.length≤1000) (k:Nat) (hk:l.length<k):r11_Mine.f k l c=some (mineN l c:Int):=by
 have:=rmine_loop l c hl l.length k 0 0 (by omega) hk (by omega)
 rw [Nat.zero_add,List.drop_zero] at this;exact this
theorem rless_f (x y:O.T):r11_Less.f x.f0 x.f1 x.f2 x.f3 x.f4 y.f0 y.f1 y.f2 y.f3 y.f4=some (decide (ordO x y<0)):=by
 unfold r11_Less.f;have:=ordO_lt x y;by_cases h:x.f0<y.f0
 ·rw [if_pos h,decide_eq_true (this.2 (Or.inl h))]
 rw [if_neg h];by_cases h2:x.f0=y.f0
 ·rw [if_pos h2];by_cases h3:x.f1<y.f1
  ·rw [decide_eq_true h3,decide_eq_true (this.2 (Or.inr ⟨h2,h3⟩))]
  ·rw [decide_eq_false h3,decide_eq_false (fun e=>by have:=this.1 e;omega)]
 ·rw [if_neg h2,decide_eq_false (fun e=>by have:=this.1 e;omega)]
theorem rright_in (l:List O.T) (hl:l.length≤12) (hw:wfP l=true) (i:Nat) (hi:i<l.length) (hone : ∀ j (hj:j≤i),oneB (l[j]'(by omega))=true) (k0:Nat) (tail:Option Bool) : ∀ (d k j:Nat),j+d=i→d<k→(∀ m,m+d+1=k→r11_Right.l0 m l (wrap64 ((i:Int)+1))=tail) →
  r11_Right.l1 k l (i:Int) (j:Int)=if ((List.range' j d).any fun q=>clashB (rd_T81 l q) (rd_T81 l i))=true then some false else tail
 | 0,k,j,h,hk,ht=>by
  obtain ⟨k,rfl⟩ : ∃ m,k=m+1:=⟨k-1,by omega⟩
  simp only [r11_Right.l1];rw [if_neg (by omega),ht k (by omega)]
  rfl
 | d+1,k,j,h,hk,ht=>by
  obtain ⟨k,rfl⟩ : ∃ m,k=m+1:=⟨k-1,by omega⟩
  have wx : ∀ q (hq:q<l.length),wfO l[q]=true:=fun q hq=>List.all_eq_true.1 hw _ (List.getElem_mem hq);simp only [r11_Right.l1];rw [if_pos (by omega),if_pos (by omega),if_pos (by omega),if_pos (by omega),if_pos (by omega),List.range'_succ,List.any_cons]
  rw [O.rdT l i hi,O.rdT l j (by omega),rclash_f _ _ (wx j (by omega)) (wx i hi) (hone j (by omega)) (hone i (by omega)),Option.bind_some]
  cases hc:clashB (l[j]'(by omega)) l[i]
  ·rw [if_neg (by decide),w1 (by omega),rright_in l hl hw i hi hone k0 tail d k (j+1) (by omega) (by omega) (fun m hm=>ht m (by omega)),Bool.false_or,O.rdT l i hi]
  ·rw [if_pos rfl,Bool.true_or,if_pos rfl]
theorem take_any (l:List O.T) (i:Nat) (hi:i≤l.length) (p:O.T→Bool):(l.take i).any p=(List.range' 0 i).any fun q=>p (rd_T81 l q):=by
 rw [Bool.eq_iff_iff,List.any_eq_true,List.any_eq_true];constructor
 ·rintro ⟨x,hx,hp⟩;obtain ⟨j,hj,rfl⟩:=List.getElem_of_mem hx;rw [List.length_take] at hj;refine ⟨j,by simp;omega,?_⟩
  rw [O.rdT l j (by omega)]
  rw [List.getElem_take] at hp;exact hp
 ·rintro ⟨q,hq,hp⟩;simp at hq
  rw [O.rdT l q (by omega)] at hp
  exact ⟨_,List.mem_iff_getElem.2 ⟨q,by rw [List.length_take];omega,by rw [List.getElem_take]⟩,hp⟩
theorem rright_loop (l:List O.T) (hl:l.length≤12) (hw:wfP l=true) : ∀ (d k i:Nat),i+d=l.length→20*d+20<k→(∀ j (hj:j<i) (h:j<l.length),oneB l[j]=true)→r11_Right.l0 k l (i:Int)=some ((List.range' i d).all (okAt l))
 | 0,k,i,h,hk,ho=>by
  obtain ⟨k,rfl⟩ : ∃ m,k=m+1:=⟨k-1,by omega⟩
  simp only [r11_Right.l0];rw [if_neg (by omega)]
  rfl
 | d+1,k,i,h,hk,ho=>by
  obtain ⟨k,rfl⟩ : ∃ m,k=m+1+1:=⟨k-2,by omega⟩
  have hi:i<l.length:=by omega
  have wx : ∀ q (hq:q<l.length),wfO l[q]=true:=fun q hq=>List.all_eq_true.1 hw _ (List.getElem_mem hq);have hr:rd_T81 l (i:Int)=l[i]:=O.rdT l i hi;simp only [r11_Right.l0];rw [if_pos (by omega),if_pos (by omega),List.range'_succ,List.all_cons]
  rw [show okAt l i=(oneB (rd_T81 l (i:Int))&&decide (mineN l (rd_T81 l (i:Int)).f0≤4)&&(decide (i=0)||decide (ordO (rd_T81 l ((i:Int)-1)) (rd_T81 l (i:Int))<0))&&!((l.take i).any fun x=>clashB x (rd_T81 l (i:Int)))) from rfl]
  rw [hr,rone_f _ (wx i hi),Option.bind_some];cases h1:oneB l[i] with
  | false =>
   rw [if_neg (by decide),r11_Right.j1,if_pos rfl]
   simp
  | true =>
   rw [if_pos rfl,rmine_f l _ (by omega) (k+1) (by omega),Option.bind_some]
   by_cases h2:(mineN l l[i].f0:Int)>4
   ·rw [if_pos h2,r11_Right.j1,if_pos rfl,decide_eq_false (show ¬ mineN l l[i].f0≤4 by omega)]
    simp
   ·rw [if_neg h2,decide_eq_true (show mineN l l[i].f0≤4 by omega)]
    have ho' : ∀ j (hj:j≤i),oneB (l[j]'(by omega))=true:=fun j hj=>by
     rcases Nat.lt_or_ge j i with h5|h5
     ·exact ho j h5 (by omega)
     ·obtain rfl:j=i:=by omega
      exact h1
    have hin:=rright_in l hl hw i hi ho' 0 (some ((List.range' (i+1) d).all (okAt l))) i k 0 (by omega) (by omega) (fun m hm=>by
     rw [w1 (by omega)]
     exact rright_loop l hl hw d m (i+1) (by omega) (by omega) (fun j hj hj2=>ho' j (by omega)))
    rw [show ((0:Nat):Int)=0 from rfl] at hin
    have hta:=take_any l i (by omega) fun x=>clashB x l[i]
    rw [hr] at hin;rw [← hta] at hin;by_cases h3:(i:Int)>0
    ·rw [if_pos h3,show wrap64 ((i:Int)-1)=(i:Int)-1 by unfold wrap64;omega,if_pos (by omega),if_pos (by omega),rless_f,Option.bind_some,decide_eq_false (show ¬ i=0 by omega)]
     cases h4:decide (ordO (rd_T81 l ((i:Int)-1)) l[i]<0)
     ·rw [r11_Right.j1,Bool.not_false,if_pos rfl];simp
     ·rw [r11_Right.j1,Bool.not_true,if_neg (by decide),hin]
      cases (l.take i).any fun x=>clashB x l[i] <;> simp
    ·rw [if_neg h3,r11_Right.j1,if_neg (by decide),hin,decide_eq_true (show i=0 by omega)]
     cases (l.take i).any fun x=>clashB x l[i] <;> simp
theorem rrightO_f (l:List O.T) (hw:wfP l=true) (k:Nat) (hk:300<k):r11_Right.f k l=some (rightO l):=by
 unfold r11_Right.f rightO;by_cases h:(l.length:Int)>12
 ·rw [if_pos h,decide_eq_false (by omega),Bool.false_and]
 ·rw [if_neg h,decide_eq_true (by omega),Bool.true_and,List.range_eq_range']
  exact rright_loop l (by omega) hw l.length k 0 (by omega) (by omega) (fun j hj=>absurd hj (Nat.not_lt_zero _))
theorem rbody_loop (n:Int) (tl:List SI) (ol:List O.T) (bl:List B.T) (id:Int) (hl:bl.length≤1000) : ∀ (d k i:Nat),i+d=bl.length→d<k→r19_Body.l0 k id (i:Int) n tl ol bl=some (idxL (fun x=>x.f0 == id) i (bl.drop i))
 | 0,k,i,h,hk=>by
  obtain ⟨k,rfl⟩ : ∃ m,k=m+1:=⟨k-1,by omega⟩
  simp only [r19_Body.l0];rw [if_neg (by omega),List.drop_of_length_le (by omega)]
  rfl
 | d+1,k,i,h,hk=>by
  obtain ⟨k,rfl⟩ : ∃ m,k=m+1:=⟨k-1,by omega⟩
  simp only [r19_Body.l0];rw [if_pos (by omega),if_pos (by omega),B.rdT bl i (by omega),w1 (by omega),List.drop_eq_getElem_cons (show i<bl.length by omega),idxL,rbody_loop n tl ol bl id hl d k (i+1) (by omega) (by omega)]
  by_cases hc:(bl[i]'(by omega)).f0=id
  ·rw [if_pos hc,if_pos (by rw [beq_iff_eq];exact hc)]
  ·rw [if_neg hc,if_neg (by rw [beq_iff_eq];exact hc)]
theorem rbody_f (n:Int) (tl:List SI) (ol:List O.T) (bl:List B.T) (id:Int) (hl:bl.length≤1000) (k:Nat) (hk:bl.length<k):r19_Body.f k n tl ol bl id=some (bodyI bl id) :=
 rbody_loop n tl ol bl id hl bl.length k 0 (by omega) hk
theorem rr_loop1 (n:Int) (tl:List SI) (ol:List O.T) (bl:List B.T) (hl:ol.length≤12) (hlb:bl.length≤1000) : ∀ (d k i:Nat),i+d=ol.length→d+1001<k→r19_Right.l1 k (i:Int) n tl ol bl=some (!((ol.drop i).any (badO bl)))
 | 0,k,i,h,hk=>by
  obtain ⟨k,rfl⟩ : ∃ m,k=m+1:=⟨k-1,by omega⟩
  simp only [r19_Right.l1];rw [if_neg (by omega),List.drop_of_length_le (by omega)]
  rfl
 | d+1,k,i,h,hk=>by
  obtain ⟨k,rfl⟩ : ∃ m,k=m+1:=⟨k-1,by omega⟩
  simp only [r19_Right.l1];rw [if_pos (by omega),if_pos (by omega),O.rdT ol i (by omega),rbody_f n tl ol bl _ hlb k (by omega),Option.bind_some,w1 (by omega),List.drop_eq_getElem_cons (show i<ol.length by omega),List.any_cons,rr_loop1 n tl ol bl hl hlb d k (i+1) (by omega) (by omega)]
  unfold badO;by_cases h1:bodyI bl (ol[i]'(by omega)).f2<0
  ·rw [if_pos h1,decide_eq_true h1];simp
  rw [if_neg h1,decide_eq_false h1];by_cases h2:(ol[i]'(by omega)).f1>3
  ·rw [if_pos h2,decide_eq_true (show 4≤(ol[i]'(by omega)).f1 by omega)];simp
  ·rw [if_neg h2,decide_eq_false (show ¬ 4≤(ol[i]'(by omega)).f1 by omega)];simp
theorem rr_loop0 (n:Int) (tl:List SI) (ol:List O.T) (bl:List B.T) (hlt:tl.length≤1000) (hl:ol.length≤12) (hlb:bl.length≤1000) : ∀ (d k i c:Nat),i+d=tl.length→d+2000<k→c≤bl.length→c≤i →
  r19_Right.l0 k (c:Int) (i:Int) n tl ol bl=some (((tl.drop i).all fun x=>decide (x.f0<n))&&eqIBs (files (tl.drop i)) (bl.drop c)&&!(ol.any (badO bl)))
 | 0,k,i,c,h,hk,hc,hci=>by
  obtain ⟨k,rfl⟩ : ∃ m,k=m+1:=⟨k-1,by omega⟩
  simp only [r19_Right.l0];rw [if_neg (by omega),List.drop_of_length_le (show tl.length≤i by omega)]
  by_cases h1:c=bl.length
  ·subst h1;rw [if_pos rfl,List.drop_length];have:=rr_loop1 n tl ol bl hl hlb ol.length k 0 (by omega) (by omega)
   rw [List.drop_zero] at this;rw [show (0:Int)=((0:Nat):Int) from rfl,this]
   simp [files,eqIBs]
  ·rw [if_neg (by omega),List.drop_eq_getElem_cons (show c<bl.length by omega)]
   rw [show eqIBs (files []) ((bl[c]'(by omega))::bl.drop (c+1))=false from rfl]
   simp
 | d+1,k,i,c,h,hk,hc,hci=>by
  obtain ⟨k,rfl⟩ : ∃ m,k=m+1:=⟨k-1,by omega⟩
  have hi:i<tl.length:=by omega
  simp only [r19_Right.l0];rw [if_pos (by omega),if_pos (by omega),rdI tl i hi,List.drop_eq_getElem_cons hi,List.all_cons]
  by_cases h1:tl[i].f0≥n
  ·rw [if_pos h1,decide_eq_false (show ¬ tl[i].f0<n by omega)];simp
  rw [if_neg h1,decide_eq_true (show tl[i].f0<n by omega),Bool.true_and,w1 (show i≤1000000 by omega)]
  cases h3:tl[i].f3 with
  | true =>
   rw [if_pos rfl,rr_loop0 n tl ol bl hlt hl hlb d k (i+1) c (by omega) (by omega) hc (by omega)]
   rw [show files (tl[i]::tl.drop (i+1))=files (tl.drop (i+1)) by unfold files;rw [List.filter_cons_of_neg (by simp [h3])]]
  | false =>
   rw [if_neg (by decide)]
   rw [show files (tl[i]::tl.drop (i+1))=tl[i]::files (tl.drop (i+1)) by unfold files;rw [List.filter_cons_of_pos (by simp [h3])]]
   by_cases h4:(c:Int)≥(bl.length:Int)
   ·rw [if_pos h4,List.drop_of_length_le (show bl.length≤c by omega)]
    simp [eqIBs]
   ·rw [if_neg h4,if_pos (by omega),if_pos (by omega),B.rdT bl c (by omega),w1 (show c≤1000000 by omega),List.drop_eq_getElem_cons (show c<bl.length by omega)]
    rw [show ∀ xs ys,eqIBs (tl[i]::xs) ((bl[c]'(by omega))::ys)=(eqIB tl[i] (bl[c]'(by omega))&&eqIBs xs ys) from fun _ _=>rfl]
    unfold eqIB;by_cases h5:(bl[c]'(by omega)).f0=tl[i].f0
    ·rw [if_pos h5,show (tl[i].f0 == (bl[c]'(by omega)).f0)=true from beq_iff_eq.2 h5.symm]
     by_cases h6:((bl[c]'(by omega)).f1.size:Int)=wrap64 tl[i].f4
     ·rw [if_pos h6,show (wrap64 tl[i].f4 == ((bl[c]'(by omega)).f1.size:Int))=true from beq_iff_eq.2 h6.symm,rr_loop0 n tl ol bl hlt hl hlb d k (i+1) (c+1) (by omega) (by omega) (by omega) (by omega)]
      simp
     ·rw [if_neg h6,show (wrap64 tl[i].f4 == ((bl[c]'(by omega)).f1.size:Int))=false from beq_eq_false_iff_ne.2 (fun e=>h6 e.symm)]
      simp
    ·rw [if_neg h5,show (tl[i].f0 == (bl[c]'(by omega)).f0)=false from beq_eq_false_iff_ne.2 (fun e=>h5 e.symm)]
     simp
theorem rrightF (n:Int) (tl:List SI) (ol:List O.T) (bl:List B.T) (hw:wfL tl=true) (hp:wfP ol=true) (hl:tl.length≤1000) (hlb:bl.length≤1000) (k:Nat) (hk:4000<k):r19_Right.f k n tl ol bl=some (rightF n tl ol bl):=by
 obtain ⟨k,rfl⟩ : ∃ m,k=m+1:=⟨k-1,by omega⟩
 unfold r19_Right.f r10_Right.f rightF;rw [if_pos hw,Option.bind_some,rightN_eq tl hw];simp only [r19_Right.j0];cases h1:rightB tl with
 | false=>rw [if_neg (by decide)];simp
 | true =>
  have t:=tr_of hw h1;have hpos:=t.pos;rw [if_pos rfl,rrightO_f ol hp (k+1) (by omega),Option.bind_some]
  cases h2:rightO ol with
  | false=>simp
  | true =>
   rw [Bool.not_true,if_neg (by decide)]
   have:=rr_loop0 n tl ol bl hl (rightO_len h2) hlb tl.length k 0 0 (by omega) (by omega) (by omega) (by omega)
   rw [List.drop_zero,List.drop_zero] at this;rw [show (0:Int)=((0:Nat):Int) from rfl,this]
   have ha:(tl.all fun x=>decide (x.f0<n)) = !(decide ((rd_T43 tl ((tl.length:Int)-1)).f0≥n)):=by
    rw [show ((tl.length:Int)-1)=((tl.length-1:Nat):Int) by omega,rdI tl (tl.length-1) (by omega),Bool.eq_iff_iff,List.all_eq_true,Bool.not_eq_true',decide_eq_false_iff_not]
    constructor
    ·intro h;have:=h _ (List.getElem_mem (show tl.length-1<tl.length by omega))
     rw [decide_eq_true_eq] at this;omega
    ·intro h x hx;obtain ⟨i,hi,rfl⟩:=List.getElem_of_mem hx;rw [decide_eq_true_eq];rcases Nat.lt_or_ge i (tl.length-1) with h6|h6
     ·have:=t.up i (tl.length-1) h6 (by omega)
      omega
     ·obtain rfl:i=tl.length-1:=by omega
      omega
   rw [ha];simp
end Go.Proofs.YtikjfekagdcjmaaGreatDoor.Q
namespace Go.Proofs.YtikjfekagdcjmaaGreatDoor.Q
open Go.RowKit Go.Proofs.YtikjfekagdcjmaaGreatDoorW.PrintWords Go.Proofs.YtikjfekagdcjmaaGreatDoorW.PrintLast
def findN (l:List S43) (s:ByteArray):Int×Int:=if rightB l=true then (if (splitF s).2=0 then walkN l (splitF s).1 0 else (0,9)) else (0,1)
theorem rfind_f (l:List S43) (hw:wfL l=true) (hl:l.length≤100) (s:ByteArray) (hs:s.size≤1000) (K:Nat) (hK:5000<K):r10_Find.f K l s=some (findN l s):=by
 unfold r10_Find.f findN r10_Right.f;rw [if_pos hw,rightN_eq l hw,Option.bind_some];cases hr:rightB l with
 | false=>rfl
 | true =>
 have t:=tr_of hw hr;simp only [if_true];rw [rsplit_f s (by omega) K (by omega)]
 simp only [Option.bind_some];have hls:=splitF_len s;by_cases h1:(splitF s).2=0
 ·rw [if_pos (by rw [h1];rfl),if_pos h1,rwalk_f l (by omega) t.pos _ (by omega) K (by omega)]
  rfl
 ·rw [if_neg (by simpa using h1),if_neg h1]
theorem find_rel {l:List S43} (hw:wfL l=true) (s:ByteArray):(findF l s).2=(findN l s).2∧((findN l s).2≠0→(findF l s).1=zI)∧((findN l s).2=0→Tr l∧∃ q,∃ hq:q<l.length,(findN l s).1=(q:Int)∧(findF l s).1=l[q]):=by
 unfold findF findN beginF;cases hr:rightB l with
 | false =>
  refine ⟨rfl,fun _=>rfl,fun h=>?_⟩;cases h
 | true =>
 have t:=tr_of hw hr;simp only [if_true];rcases split_err s with h1|h1
 ·rw [if_pos h1,if_pos h1];obtain ⟨q,hq,w1,w2⟩:=walk_rel0 t (splitF s).1;refine ⟨w1,fun h=>?_,fun h=>?_⟩
  ·rw [← w1] at h;revert h
   generalize (splitF s).1=ns;generalize rd_T43 l 0=y;intro h;clear w1 w2;induction ns generalizing y with
   | nil=>exact absurd rfl h
   | cons n ns ih =>
    rw [walkI] at h ⊢;split
    ·rename_i h3
     rw [if_pos h3] at h;cases hk:kidI l y.f0 n with
     | none=>rfl
     | some z =>
      rw [hk] at h;exact ih z h
    ·rfl
  ·obtain ⟨w3,w4⟩:=w2 h;exact ⟨t,q,hq,w3,w4⟩
 ·rw [h1,if_neg (by decide),if_neg (by decide)]
  refine ⟨rfl,fun _=>rfl,fun h=>?_⟩;cases h
end Go.Proofs.YtikjfekagdcjmaaGreatDoor.Q
namespace Go.Proofs.YtikjfekagdcjmaaGreatDoor.Q
open Go.RowKit Go.Proofs.YtikjfekagdcjmaaGreatDoorW.PrintWords Go.Proofs.YtikjfekagdcjmaaGreatDoorW.PrintLast Go.Proofs.YtikjfekagdcjmaaGreatDoorW.PrintMore
abbrev WfF (n:Int) (tl:List SI) (ol:List O.T) (bl:List B.T):Prop :=
 (Lit.int .u32 n).wf=true∧(tl.length≤maxLen∧∀ x∈tl,(Lit.int .u32 x.f0).wf=true∧(Lit.int .u32 x.f1).wf=true∧x.f2.size≤maxLen∧True∧(Lit.int .u32 x.f4).wf=true) ∧
 (ol.length≤maxLen∧∀ x∈ol,(Lit.int .u32 x.f0).wf=true∧(Lit.int .u32 x.f1).wf=true∧(Lit.int .u32 x.f2).wf=true∧(Lit.int .u32 x.f3).wf=true∧(Lit.int .u32 x.f4).wf=true) ∧
 (bl.length≤maxLen∧∀ x∈bl,(Lit.int .u32 x.f0).wf=true∧x.f1.size≤maxLen)
theorem WfF.t {n:Int} {tl:List SI} {ol:List O.T} {bl:List B.T} (h:WfF n tl ol bl):wfL tl=true:=wfL_of tl h.2.1.2
theorem WfF.n {n:Int} {tl:List SI} {ol:List O.T} {bl:List B.T} (h:WfF n tl ol bl):0≤n∧n≤4294967295:=u32_of h.1
theorem WfF.o {n:Int} {tl:List SI} {ol:List O.T} {bl:List B.T} (h:WfF n tl ol bl):wfP ol=true:=by
 unfold wfP;rw [List.all_eq_true];intro x hx;have:=h.2.2.1.2 x hx;rw [wfO_iff];have a:=u32_of this.1;have b:=u32_of this.2.1;have c:=u32_of this.2.2.1;have d:=u32_of this.2.2.2.1;have e:=u32_of this.2.2.2.2;exact ⟨a.1,a.2,b.1,b.2,c.1,c.2,d.1,d.2,e.1,e.2⟩
theorem nil_toList:(⟨#[]⟩:ByteArray).toList = []:=by unfold ByteArray.toList;rw [ByteArray.toList.loop];rfl
def atF (n:Int) (tl:List SI) (ol:List O.T) (bl:List B.T) (s:ByteArray):ByteArray×Int :=
 if rightF n tl ol bl=true then
  (if (findF tl s).2=0 then (if (findF tl s).1.f3=true then (⟨#[]⟩,11) else ((bAt bl (findF tl s).1.f0).f1,0)) else (⟨#[]⟩,(findF tl s).2))
 else (⟨#[]⟩,1)
theorem find_mem {l:List SI} {s:ByteArray} (hw:wfL l=true) (h:(findF l s).2=0):(findF l s).1∈l:=by
 obtain ⟨-,k,hk,e⟩:=find_at hw h;rw [← e];exact List.getElem_mem hk
theorem at_f (n:Int) (tl:List SI) (ol:List O.T) (bl:List B.T) (s:ByteArray) (hw:wfL tl=true) (hl:tl.length≤1000) (hlo:ol.length≤1000) (hlb:bl.length≤1000) (hs:s.size≤100000) (k:Nat) (hk:1005<k):flat_At.f k n tl ol bl s=some (atF n tl ol bl s):=by
 unfold flat_At.f atF;rw [frightF n tl ol bl hw hl hlo hlb k hk,Option.bind_some];by_cases hr:rightF n tl ol bl=true
 rotate_left
 ·rw [if_neg hr,if_neg hr]
 have rt:=(rt_iff hw).1 hr;rw [if_pos hr,if_pos hr];unfold tree_Find.f flat_body.f;rw [if_pos ⟨hw,hs⟩,Option.bind_some,if_pos hlb];by_cases h1:(findF tl s).2=0
 ·rw [if_pos h1,if_pos h1];by_cases h2:(findF tl s).1.f3=true
  ·rw [if_pos h2,if_pos h2]
  ·rw [if_neg h2,if_neg h2,Option.bind_some];obtain ⟨i,hi,hb,-⟩:=rt.body (find_mem hw h1) (by simpa using h2)
   rw [hb,if_pos (by omega),if_pos (by omega),bAt_eq hi hb,B.rdT bl i hi]
 ·rw [if_neg h1,if_neg h1]
end Go.Proofs.YtikjfekagdcjmaaGreatDoor.Q
namespace Go.Proofs.YtikjfekagdcjmaaGreatDoor.Q.Pure
open Go.RowKit Go.Proofs.YtikjfekagdcjmaaGreatDoorW.PrintWords Go.Proofs.YtikjfekagdcjmaaGreatDoorW.PrintLast Go.Proofs.YtikjfekagdcjmaaGreatDoor.Q
theorem alive_t:w19_alive.f=some true:=rfl
theorem fresh_same:sameS 2 [⟨1,0,⟨#[]⟩,true,0⟩] [] [] 2 [⟨1,0,⟨#[]⟩,true,0⟩] [] []=true:=by
 unfold sameS sameT sameP sameD cmpL neI;simp
theorem FlatRights (a0_0:Int) (l0_1:List SI) (l0_2:List O.T) (l0_3:List B.T) (a1_0:Int) (l1_1:List SI) (l1_2:List O.T) (l1_3:List B.T) (a2:ByteArray) (h0:WfF a0_0 l0_1 l0_2 l0_3) (h1:WfF a1_0 l1_1 l1_2 l1_3) (h2:a2.size≤maxLen) :
  ∃ k,w19_FlatRights.f k a0_0 l0_1 l0_2 l0_3 a1_0 l1_1 l1_2 l1_3 a2=some true:=by
 refine ⟨7001,?_⟩;have hw:=h0.t;unfold w19_FlatRights.f;rw [alive_t];simp only [Option.bind_some,if_true];have hj : ∀ m,w19_FlatRights.j0 (m+1) a2 true a0_0 l0_1 l0_2 l0_3 a1_0 l1_1 l1_2 l1_3=some true:=fun m=>by
  rw [w19_FlatRights.j0,if_pos rfl,alive_t];rfl
 rcases great_f a0_0 l0_1 l0_2 l0_3 7001 (by omega) with hg|⟨hg,sm⟩
 ·rw [hg];simp only [Option.bind_some,if_true];exact hj 7000
 rw [hg];simp only [Option.bind_some,Bool.false_eq_true,if_false];rcases great_f a1_0 l1_1 l1_2 l1_3 7001 (by omega) with hg2|⟨hg2,sm2⟩
 ·rw [hg2];simp only [Option.bind_some,if_true];exact hj 7000
 rw [hg2];simp only [Option.bind_some,Bool.false_eq_true,if_false];by_cases hp:(a2.size:Int)>500
 ·rw [decide_eq_true hp];exact hj 7000
 rw [decide_eq_false hp,w19_FlatRights.j0,if_neg (by decide)]
 have s1:=sm.t;have s2:=sm.o;have s3:=sm.b;rw [rrightF a0_0 l0_1 l0_2 l0_3 hw h0.o (by omega) (by omega) 7000 (by omega),at_f a0_0 l0_1 l0_2 l0_3 a2 hw (by omega) (by omega) (by omega) (by omega) 7000 (by omega),frightF a0_0 l0_1 l0_2 l0_3 hw (by omega) (by omega) (by omega) 7000 (by omega),sameS_f a0_0 l0_1 l0_2 l0_3 a1_0 l1_1 l1_2 l1_3 (by omega) (by omega) (by omega) 7000 (by omega),sameS_r a0_0 l0_1 l0_2 l0_3 a1_0 l1_1 l1_2 l1_3 (by omega) (by omega) (by omega) 7000 (by omega),alive_t]
 unfold flat_Fresh.f r19_Fresh.f;simp only [Option.bind_some,if_true,bne_self_eq_false,Bool.false_eq_true,if_false];rw [sameS_r 2 _ [] [] 2 _ [] [] (by decide) (by decide) (by decide) 7000 (by omega)]
 rw [fresh_same];simp only [Option.bind_some,Bool.not_true];rw [w19_FlatRights.j1,if_neg (by decide)]
 unfold atF;cases hr:rightF a0_0 l0_1 l0_2 l0_3 with
 | false =>
  simp only [Bool.false_eq_true,if_false];rw [if_pos nil_toList];rfl
 | true =>
  have rt:=(rt_iff hw).1 hr;simp only [if_true];rw [rfind_f l0_1 hw (by omega) a2 (by omega) 6999 (by omega)]
  simp only [Option.bind_some];obtain ⟨f1,-,f2⟩:=find_rel hw a2;by_cases he:(findN l0_1 a2).2=0
  ·obtain ⟨t,q,hq,e1,e2⟩:=f2 he;rw [if_pos he,f1,if_pos he,e1,if_pos (by omega),if_pos (by omega),rdI l0_1 q hq,e2]
   by_cases hd:l0_1[q].f3=true
   ·rw [if_pos hd,if_pos hd,if_pos nil_toList];rfl
   ·rw [if_neg hd,if_neg hd];simp only [if_true];obtain ⟨i,hi,hb,-⟩:=rt.body (List.getElem_mem hq) (by simpa using hd)
    rw [rbody_f a0_0 l0_1 l0_2 l0_3 _ (by omega) 6999 (by omega),Option.bind_some,hb,if_pos (by omega),if_pos (by omega),bAt_eq hi hb,B.rdT l0_3 i hi]
    simp
  ·rw [if_neg he,f1,if_neg he,if_pos nil_toList];simp
end Go.Proofs.YtikjfekagdcjmaaGreatDoor.Q.Pure
