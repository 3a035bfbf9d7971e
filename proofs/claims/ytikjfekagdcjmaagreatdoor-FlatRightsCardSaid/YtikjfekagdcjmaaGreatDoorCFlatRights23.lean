/- Contracts and plain theory behind FlatRights. -/
import Derived.Test.YtikjfekagdcjmaaGreatDoorCFlatRights18
import Derived.Test.YtikjfekagdcjmaaGreatDoorCFlatRights20
import Derived.Test.YtikjfekagdcjmaaGreatDoorCFlatRights22
set_option linter.unusedVariables false
set_option linter.unusedSimpArgs false
set_option maxHeartbeats 16000000
set_option maxRecDepth 100000
namespace Go.Proofs.YtikjfekagdcjmaaGreatDoor.Q
open Go.RowKit Go.Proofs.YtikjfekagdcjmaaGreatDoorW.PrintWords Go.Proofs.YtikjfekagdcjmaaGreatDoorW.PrintLast
theorem kidsN_count (l:List S43) (d:Int):kidsN l d=(l.drop 1).countP (fun x=>x.f1 == d):=by
 unfold kidsN;rw [List.countP_eq_length_filter]
theorem kids_set {l:List S43} {k:Nat} (h0:0<k) (hk:k<l.length) (x:S43) (d:Int) :
  kidsN (l.set k x) d=(kidsN l d-(if l[k].f1=d then 1 else 0))+(if x.f1=d then 1 else 0):=by
 rw [kidsN_count,kidsN_count,List.drop_set,if_neg (by omega),List.countP_set (by simp;omega)]
 have:(l.drop 1)[k-1]'(by simp;omega)=l[k]:=by
  rw [List.getElem_drop];congr 1
  omega
 rw [this];simp only [beq_iff_eq]
theorem kids_pos {l:List S43} {i:Nat} (h0:0<i) (hi:i<l.length):0<kidsN l l[i].f1:=by
 rw [kidsN_count];apply List.countP_pos_iff.2
 refine ⟨l[i],?_,by simp⟩
 rw [List.mem_iff_getElem];exact ⟨i-1,by simp;omega,by rw [List.getElem_drop];congr 1;omega⟩
theorem Tr.kids12 {l:List S43} (t:Tr l) {i:Nat} (h0:0<i) (hi:i<l.length):kidsN l l[i].f1≤12:=by
 have:=((second_iff l l[i]).1 (t.second' hi h0)).2.2.2;rwa [filter_len_eq t.pos t.r0.1 t.up] at this
theorem Tr.kids_any {l:List S43} (t:Tr l) (d:Int):kidsN l d≤12:=by
 rcases Nat.eq_zero_or_pos (kidsN l d) with h|h
 ·omega
 ·rw [kidsN_count] at h;obtain ⟨y,hy,h2⟩:=List.countP_pos_iff.1 h;obtain ⟨i,hi,rfl⟩:=List.mem_iff_getElem.1 hy;rw [List.getElem_drop] at h2;have hi2:1+i<l.length:=by rw [List.length_drop] at hi;omega
  have:=t.kids12 (i:=1+i) (by omega) hi2
  rwa [beq_iff_eq.1 h2] at this
structure Spot (l:List S43) (k p:Nat) (nm:ByteArray):Prop where
 hk:k<l.length
 h0:0<k
 hp:p<l.length
 dir:l[p].f3=true
 name:isNameB nm=true
 free : ∀ (i:Nat) (hi:i<l.length),0<i→l[i].f1=l[p].f0→l[i].f2.toList=nm.toList→i=k
 room:l[p].f0=l[k].f1∨kidsN l l[p].f0≠12
theorem Spot.keys {l:List S43} (t:Tr l) {k p:Nat} {nm:ByteArray} (s:Spot l k p nm):Keys (l.set k (moved (l[k]'s.hk) (l[p]'s.hp) nm)):=by
 have hk:=s.hk;have hp:=s.hp;intro i j hi hj h1 h2 h3 h4;have hi':i<l.length:=by simpa using hi
 have hj':j<l.length:=by simpa using hj
 rw [List.getElem_set,List.getElem_set] at h3 h4;by_cases ei:k=i
 ·by_cases ej:k=j
  ·omega
  ·rw [if_pos ei,if_neg ej] at h3 h4;have:=s.free j hj' h2 h3.symm h4.symm;omega
 ·by_cases ej:k=j
  ·rw [if_neg ei,if_pos ej] at h3 h4;have:=s.free i hi' h1 h3 h4;omega
  ·rw [if_neg ei,if_neg ej] at h3 h4;exact t.keys i j hi' hj' h1 h2 h3 h4
theorem wfI_moved {x p:S43} {nm:ByteArray} (hx:wfI x=true) (hp:wfI p=true):wfI (moved x p nm)=true:=by
 rw [wfI_iff] at *;exact ⟨hx.1,hx.2.1,hp.1,hp.2.1,hx.2.2.2.2.1,hx.2.2.2.2.2⟩
theorem wfL_at {l:List S43} (h:wfL l=true) {i:Nat} (hi:i<l.length):wfI l[i]=true:=List.all_eq_true.1 h _ (List.getElem_mem hi)
theorem wfL_set {l:List S43} (h:wfL l=true) {k:Nat} {x:S43} (hx:wfI x=true):wfL (l.set k x)=true:=by
 unfold wfL;rw [List.all_eq_true];intro y hy;rcases List.mem_or_eq_of_mem_set hy with h1|rfl
 ·exact List.all_eq_true.1 h y h1
 ·exact hx
theorem rdS (l:List S43) (i:Nat) (hi:i<l.length):rd_T43 l (i:Int)=l[i]:=rd43_get l i hi
theorem Spot.right {l:List S43} (t:Tr l) {k p:Nat} {nm:ByteArray} (s:Spot l k p nm) :
  rightB (l.set k (moved (l[k]'s.hk) (l[p]'s.hp) nm))=true↔∀ i:Nat,i<l.length→depthN (l.set k (moved (l[k]'s.hk) (l[p]'s.hp) nm)) 8 (i:Int) 0≤6:=by
 have hk:=s.hk;have hp:=s.hp;have h0:=s.h0;have hf0:(moved l[k] l[p] nm).f0=l[k].f0:=rfl;have hf3:(moved l[k] l[p] nm).f3=l[k].f3:=rfl;have hf4:(moved l[k] l[p] nm).f4=l[k].f4:=rfl;have hkeys:=s.keys t;have hu:=set_up t.up hk hf0;have hw:wfL (l.set k (moved l[k] l[p] nm))=true:=wfL_set t.wf (wfI_moved (wfL_at t.wf hk) (wfL_at t.wf hp));obtain ⟨o,ho⟩ : ∃ o,o=l.set k (moved l[k] l[p] nm):=⟨_,rfl⟩;have hlen:o.length=l.length:=by rw [ho];simp
 have hpos:0<o.length:=by rw [hlen];exact t.pos
 have hr0:o[0].f0=1:=by
  simp only [ho];rw [set_f0 hk hf0];exact t.r0.1
 rw [← ho] at hkeys hu hw ⊢;constructor
 ·intro h i hi;have t2:=tr_of hw h;have hd:=depth_cases t2.pos t2.r0.1 t2.up 7 i (by omega) 0 (by omega) (by omega)
  exact hd.1 (t2.depth (by omega))
 ·intro h;refine right_of hpos (by rw [hlen];exact t.le) ?_ ?_ ?_
  ·have:rd_T43 o 0=rd_T43 l 0:=by
    rw [show (0:Int)=((0:Nat):Int) from rfl,rdS _ _ hpos,rdS _ _ t.pos]
    simp only [ho];rw [List.getElem_set,if_neg (by omega)]
   rw [this];exact t.root
  ·intro j hj;have hj':j+1<l.length:=by omega
   have hf:=t.first j hj';unfold firstB at hf ⊢;rw [rdS _ _ hj',rdS _ _ (show j<l.length by omega)] at hf
   rw [rdS _ _ hj,rdS _ _ (show j<o.length by omega)]
   have e1:o[j+1].f0=l[j+1].f0:=by simp only [ho];rw [set_f0 hk hf0]
   have e2:o[j].f0=l[j].f0:=by simp only [ho];rw [set_f0 hk hf0]
   have e3:o[j+1].f3=l[j+1].f3:=by simp only [ho];rw [set_f3 hk hf3]
   have e4:o[j+1].f4=l[j+1].f4:=by simp only [ho];rw [set_f4 hk hf4]
   have e5:isNameB o[j+1].f2=true:=by
    simp only [ho];rw [List.getElem_set];split
    ·exact s.name
    ·simp only [Bool.and_eq_true] at hf;exact hf.1.1.2
   rw [e1,e2,e3,e4,e5];simp only [Bool.and_eq_true] at hf ⊢;exact ⟨⟨⟨hf.1.1.1,trivial⟩,hf.1.2⟩,hf.2⟩
  ·intro j hj;have hj':j+1<l.length:=by omega
   have hg : ∀ id,getN o id=getN l id:=fun id=>by rw [ho];exact set_getN t.up hk hf0 id
   have hdir : ∀ (q:Nat) (hq:q<l.length),(o[q]'(by omega)).f3=l[q].f3:=fun q hq=>by simp only [ho];rw [set_f3 hk hf3]
   have hid : ∀ (q:Nat) (hq:q<l.length),(o[q]'(by omega)).f0=l[q].f0:=fun q hq=>by simp only [ho];rw [set_f0 hk hf0]
   rw [second_iff];refine ⟨?_,?_,?_,?_⟩
   ·have hq : ∃ q,∃ hq:q<l.length,o[j+1].f1=l[q].f0∧l[q].f3=true:=by
     by_cases e:k=j+1
     ·refine ⟨p,hp,?_,s.dir⟩;simp only [ho];rw [List.getElem_set,if_pos e];rfl
     ·obtain ⟨q,hq,_,_,h3,h4⟩:=t.par hj' (by omega)
      refine ⟨q,hq,?_,h4⟩;simp only [ho];rw [List.getElem_set,if_neg e,h3]
    obtain ⟨q,hq,h1,h2⟩:=hq;have hq':q<o.length:=by omega
    have:=hu.find hq';rw [hid q hq,← h1] at this;exact ⟨q,hq',this.2,this.1,by rw [hid q hq,h1],by rw [hdir q hq,h2]⟩
   ·rw [(kid_at hpos hr0 hu hkeys hj (by omega) rfl rfl).1]
    rfl
   ·have hd:=depth_cases hpos hr0 hu 7 (j+1) hj 0 (by omega) (by omega)
    exact hd.2 (h (j+1) hj')
   ·rw [filter_len_eq hpos hr0 hu];have hks : ∀ d,kidsN o d=(kidsN l d-(if l[k].f1=d then 1 else 0))+(if l[p].f0=d then 1 else 0):=fun d=>by rw [ho];exact kids_set h0 hk _ d
    rw [hks];have h12:=t.kids_any o[j+1].f1;have hkp:=kids_pos h0 hk;by_cases e1:l[k].f1=o[j+1].f1
    ·rw [e1] at hkp;rw [if_pos e1];split <;> omega
    ·rw [if_neg e1];by_cases e2:l[p].f0=o[j+1].f1
     ·rw [if_pos e2];rcases s.room with h3|h3
      ·exact absurd (h3 ▸ e2) (by rw [h3] at e2;exact fun _=>e1 e2)
      ·rw [e2] at h3;omega
     ·rw [if_neg e2];omega
theorem split_names {s:ByteArray} (h:(splitF s).2=0) : ∀ x∈(splitF s).1,isNameB x=true:=by
 unfold splitF at h ⊢;split
 ·intro x hx;cases hx
 ·rename_i h1
  rw [if_neg h1] at h;split
  ·intro x hx;cases hx
  ·rename_i h2
   rw [if_neg h2] at h;split
   ·rename_i h3
    exact fun x hx=>List.all_eq_true.1 h3 x hx
   ·intro x hx;cases hx
theorem split_err (s:ByteArray):(splitF s).2=0∨(splitF s).2=9:=by
 unfold splitF;split
 ·exact .inl rfl
 ·split
  ·exact .inr rfl
  ·split
   ·exact .inl rfl
   ·exact .inr rfl
theorem put_new {l:List S43} (x:S43) (h:findI l x.f0=none):putI l x=withN l x:=by
 unfold putI withN;rw [if_neg];rintro ⟨h1,h2⟩;rw [rdS _ _ h1] at h2;unfold findI at h;rw [List.find?_eq_none] at h;exact h _ (List.getElem_mem h1) (by simp [h2])
theorem above_at {l:List S43} (t:Tr l) (b:List ByteArray) (h:(aboveN l b).2=0):b.length≠0∧∃ p,∃ hp:p<l.length,aboveN l b=((p:Int),0)∧l[p].f3=true∧aboveI l b=⟨l[p],b.getD (b.length-1) ⟨#[]⟩,0⟩:=by
 obtain ⟨e1,e2⟩:=above_rel t b;obtain ⟨hne,p,hp,e3,e4,e5,e6⟩:=e2 h;refine ⟨hne,p,hp,Prod.ext e3 h,e5,?_⟩;have h7:(aboveI l b).e=0:=by rw [e1,h]
 rw [← e4,← e6,← h7]
theorem bytes_inj {a b:ByteArray} (h:a.toList=b.toList):a=b:=by
 rw [ByteArray.toList_eq,ByteArray.toList_eq] at h;exact ByteArray.ext (Array.ext' h)
theorem walk_of_above {l:List S43} {a:List ByteArray} {q:Nat} (h:aboveN l a=((q:Int),0)) (hp:0<l.length):a.length≠0∧∃ hq:q<l.length,walkN l (a.take (a.length-1)) 0=((q:Int),0)∧l[q].f3=true:=by
 unfold aboveN at h;by_cases h0:a.length=0
 ·rw [if_pos h0] at h;have:=(Prod.mk.injEq ..).mp h;omega
 ·rw [if_neg h0] at h;have hr:=walkN_range l hp (a.take (a.length-1)) 0 (by omega) (by omega)
  by_cases h2:(walkN l (a.take (a.length-1)) 0).2=0
  ·rw [if_pos h2] at h;by_cases h3:(rd_T43 l (walkN l (a.take (a.length-1)) 0).1).f3=true
   ·rw [if_pos h3] at h;have h4:=((Prod.mk.injEq ..).mp h).1;rw [h4] at hr h3;have hq:q<l.length:=by omega
    rw [rdS _ _ hq] at h3;exact ⟨h0,hq,Prod.ext h4 h2,h3⟩
   ·rw [if_neg h3] at h;have:=(Prod.mk.injEq ..).mp h;omega
  ·rw [if_neg h2] at h;exact absurd ((Prod.mk.injEq ..).mp h).2 h2
inductive Anc (l:List S43) (k:Nat):Nat→Prop
 | refl:Anc l k k
 | up (i q:Nat) (hi:i<l.length) (h0:i≠0) (hq:getN l l[i].f1=(q:Int)) (h:Anc l k q):Anc l k i
inductive Lev (l:List S43):Nat→Nat→Prop
 | zero:Lev l 0 0
 | step (i q d:Nat) (hi:i<l.length) (h0:i≠0) (hq:getN l l[i].f1=(q:Int)) (h:Lev l q d):Lev l i (d+1)
theorem Lev.uniq {l:List S43} {i d:Nat} (h:Lev l i d) : ∀ {d':Nat},Lev l i d'→d=d':=by
 induction h with
 | zero =>
  intro d' h';cases h' with
  | zero=>rfl
  | step _ q d hi h0 hq h=>exact absurd rfl h0
 | step i q d hi h0 hq h ih =>
  intro d' h';cases h' with
  | zero=>exact absurd rfl h0
  | step _ q' d'' hi' h0' hq' h'' =>
   have:q'=q:=by omega
   subst this;rw [ih h'']
theorem Anc.lev {l:List S43} {k i:Nat} (h:Anc l k i) : ∀ {d d':Nat},Lev l i d→Lev l k d'→d'≤d:=by
 induction h with
 | refl =>
  intro d d' h1 h2;rw [h1.uniq h2];exact Nat.le_refl _
 | up i q hi h0 hq h ih =>
  intro d d' h1 h2;cases h1 with
  | zero=>exact absurd rfl h0
  | step _ q' d'' hi' h0' hq' h'' =>
   have:q'=q:=by omega
   subst this;have:=ih h'' h2;omega
theorem lev_of {l:List S43} (t:Tr l) : ∀ (m:Nat) (n:Int) (i:Nat) (hi:i<l.length),0≤n→0≤depthI l m n l[i].f0→∃ d,Lev l i d:=by
 intro m;induction m with
 | zero=>intro n i hi hn h;simp [depthI] at h
 | succ m ih =>
  intro n i hi hn h;rw [depthI] at h;by_cases h0:i=0
  ·subst h0;exact ⟨0,.zero⟩
  ·rw [if_neg (fun h1=>h0 ((t.r1 hi).1 h1)),(t.up.find hi).1] at h;obtain ⟨p,hp,h3,h4,h5,h6⟩:=t.par hi (by omega)
   simp only at h;rw [← h5] at h;obtain ⟨d,hd⟩:=ih (n+1) p hp (by omega) h
   exact ⟨d+1,.step i p d hi h0 h3 hd⟩
theorem Tr.lev {l:List S43} (t:Tr l) {i:Nat} (hi:i<l.length) : ∃ d,Lev l i d:=lev_of t 7 0 i hi (by omega) (t.depth hi)
structure Ins (l:List S43) (x:S43) (p:Nat) (o:List S43):Prop where
 t:Tr l
 wx:wfI x=true
 hp:p<l.length
 dir:l[p].f3=true
 par:x.f1=l[p].f0
 new:findI l x.f0=none
 big:1<x.f0
 free:kidI l x.f1 x.f2=none
 ho:o=withN l x
 nmx:isNameB x.f2=true
 sz:x.f4=0
 lev : ∃ d,d≤5∧Lev l p d
 room:(kidsI l x.f1).length≠12
 max:l.length≠40
theorem find_app {α:Type} (f:α→Bool) (a b:List α) (x:α) (h:f x=false):(a++x::b).find? f=(a++b).find? f:=by
 rw [List.find?_append,List.find?_append,List.find?_cons_of_neg (by simp [h])]
theorem find_app_some {α:Type} (f:α→Bool) (a b:List α) (x:α) (h:f x=true) (hn:(a++b).find? f=none):(a++x::b).find? f=some x:=by
 rw [List.find?_append] at hn ⊢;rw [List.find?_cons_of_pos h];cases ha:a.find? f with
 | none=>rfl
 | some y=>rw [ha] at hn;cases hn
theorem Ins.findOld {l o:List S43} {x:S43} {p:Nat} (h:Ins l x p o) (id:Int) (hne:id≠x.f0):findI o id=findI l id:=by
 unfold findI;rw [h.ho,withN,find_app _ _ _ _ (by rw [beq_eq_false_iff_ne];exact fun e=>hne e.symm),List.take_append_drop]
theorem Ins.findNew {l o:List S43} {x:S43} {p:Nat} (h:Ins l x p o):findI o x.f0=some x:=by
 unfold findI;rw [h.ho,withN];exact find_app_some _ _ _ _ (by simp) (by rw [List.take_append_drop];exact h.new)
theorem Ins.someOld {l o:List S43} {x:S43} {p:Nat} (h:Ins l x p o) {id:Int} {y:S43} (hf:findI l id=some y):id≠x.f0∧findI o id=some y:=by
 have hne:id≠x.f0:=by
  rintro rfl;rw [h.new] at hf;cases hf
 exact ⟨hne,by rw [h.findOld id hne,hf]⟩
theorem Ins.kidOld {l o:List S43} {x:S43} {p:Nat} (h:Ins l x p o) (d:Int) (nm:ByteArray) (hne : ¬ (d=x.f1∧nm.toList=x.f2.toList)):kidI o d nm=kidI l d nm:=by
 unfold kidI;rw [h.ho,withN,find_app _ _ _ _ ?_,List.take_append_drop];rw [Bool.and_eq_false_iff];by_cases e:d=x.f1
 ·right
  rw [beq_eq_false_iff_ne];exact fun e2=>hne ⟨e,e2.symm⟩
 ·left
  unfold isKid;rw [beq_eq_false_iff_ne.2 (fun e2=>e e2.symm),Bool.false_and]
theorem Ins.kidSome {l o:List S43} {x:S43} {p:Nat} (h:Ins l x p o) {d:Int} {nm:ByteArray} {y:S43} (hk:kidI l d nm=some y):kidI o d nm=some y:=by
 rw [h.kidOld d nm,hk];rintro ⟨e1,e2⟩;rw [e1,kidI_congr l _ e2,h.free] at hk;cases hk
theorem Ins.kidNew {l o:List S43} {x:S43} {p:Nat} (h:Ins l x p o) {nm:ByteArray} (hn:nm.toList=x.f2.toList):kidI o x.f1 nm=some x:=by
 rw [kidI_congr o _ hn];unfold kidI;rw [h.ho,withN];have:=h.big;refine find_app_some _ _ _ _ ?_ (by rw [List.take_append_drop];exact h.free)
 unfold isKid;rw [beq_eq_false_iff_ne.2 (show x.f0≠1 by omega)]
 simp
theorem Ins.mem {l o:List S43} {x:S43} {p:Nat} (h:Ins l x p o) {y:S43} (hy:y∈o):y=x∨y∈l:=by
 rw [h.ho,withN,List.mem_append,List.mem_cons] at hy;rcases hy with hy|rfl|hy
 ·exact .inr (List.mem_of_mem_take hy)
 ·exact .inl rfl
 ·exact .inr (List.mem_of_mem_drop hy)
theorem Ins.len {l o:List S43} {x:S43} {p:Nat} (h:Ins l x p o):o.length=l.length+1:=by
 rw [h.ho,withN];simp only [List.length_append,List.length_cons,List.length_take,List.length_drop];have:plc l x.f0≤l.length:=by
  unfold plc;exact (List.takeWhile_prefix _).length_le
 omega
theorem plc_le (l:List S43) (id:Int):plc l id≤l.length:=by
 unfold plc;exact (List.takeWhile_prefix _).length_le
theorem plc_lo (l:List S43) (id:Int) {j:Nat} (hj:j<plc l id) : ∃ h:j<l.length,l[j].f0<id:=by
 have hl:j<l.length:=Nat.lt_of_lt_of_le hj (plc_le l id);refine ⟨hl,?_⟩;unfold plc at hj;have h1:(l.takeWhile (fun y=>decide (y.f0<id)))[j]=l[j]:=by
  have:=(List.takeWhile_prefix (l:=l) (fun y=>decide (y.f0<id))).getElem hj;exact this
 have h2:=List.all_eq_true.1 (List.all_takeWhile (l:=l) (p:=fun y=>decide (y.f0<id))) _ (List.getElem_mem hj);rw [h1] at h2;simpa using h2
theorem plc_hi (l:List S43) (id:Int) (h:plc l id<l.length) : ¬ l[plc l id].f0<id:=by
 induction l with
 | nil=>simp at h
 | cons y t ih =>
  by_cases hy:y.f0<id
  ·have e:plc (y::t) id=plc t id+1:=by unfold plc;rw [List.takeWhile_cons_of_pos (by simpa using hy),List.length_cons]
   simp only [e,List.getElem_cons_succ];exact ih (by rw [e] at h;simpa using h)
  ·have e:plc (y::t) id=0:=by unfold plc;rw [List.takeWhile_cons_of_neg (by simpa using hy)];rfl
   simp only [e,List.getElem_cons_zero];exact hy
theorem Ins.ne {l o:List S43} {x:S43} {p:Nat} (h:Ins l x p o) {y:S43} (hy:y∈l):y.f0≠x.f0:=by
 have:=h.new;unfold findI at this;rw [List.find?_eq_none] at this;intro e;exact this y hy (by simp [e])
theorem Ins.pos {l o:List S43} {x:S43} {p:Nat} (h:Ins l x p o):0<plc l x.f0:=by
 rcases Nat.eq_zero_or_pos (plc l x.f0) with h0|h0
 ·exfalso
  have:=plc_hi l x.f0 (by rw [h0];exact h.t.pos)
  simp only [h0] at this;have h1:=h.t.r0.1;have h2:=h.big;omega
 ·exact h0
theorem ins_get (l:List S43) (x:S43) (i:Nat) (hi:i≤l.length) (j:Nat):(l.take i++x::l.drop i)[j]?=if j<i then l[j]? else if j=i then some x else l[j-1]?:=by
 rw [List.getElem?_append,List.length_take,Nat.min_eq_left hi];by_cases h1:j<i
 ·rw [if_pos h1,if_pos h1,List.getElem?_take,if_pos h1]
 ·rw [if_neg h1,if_neg h1];by_cases h2:j=i
  ·subst h2;rw [if_pos rfl,Nat.sub_self,List.getElem?_cons_zero]
  ·rw [if_neg h2];obtain ⟨m,hm⟩ : ∃ m,j-i=m+1:=⟨j-i-1,by omega⟩
   rw [hm,List.getElem?_cons_succ,List.getElem?_drop];congr 1
   omega
theorem Ins.get {l o:List S43} {x:S43} {p:Nat} (h:Ins l x p o) {j:Nat} (hj:j<o.length):(j<plc l x.f0∧∃ h1:j<l.length,o[j]=l[j])∨(j=plc l x.f0∧o[j]=x)∨(plc l x.f0<j∧∃ h1:j-1<l.length,o[j]=l[j-1]):=by
 have hlen:=h.len;have hle:=plc_le l x.f0;have hg:=ins_get l x (plc l x.f0) hle j;have e:o[j]?=(l.take (plc l x.f0)++x::l.drop (plc l x.f0))[j]?:=by rw [h.ho];rfl
 rw [← e,List.getElem?_eq_getElem hj] at hg;by_cases h1:j<plc l x.f0
 ·rw [if_pos h1,List.getElem?_eq_getElem (show j<l.length by omega)] at hg
  exact .inl ⟨h1,by omega,Option.some.inj hg⟩
 ·rw [if_neg h1] at hg;by_cases h2:j=plc l x.f0
  ·rw [if_pos h2] at hg;exact .inr (.inl ⟨h2,Option.some.inj hg⟩)
  ·rw [if_neg h2,List.getElem?_eq_getElem (show j-1<l.length by omega)] at hg
   exact .inr (.inr ⟨by omega,by omega,Option.some.inj hg⟩)
theorem Ins.up {l o:List S43} {x:S43} {p:Nat} (h:Ins l x p o):Up o:=by
 intro a b hab hb;have hle:=plc_le l x.f0;have lo : ∀ (j:Nat) (hj:j<l.length),j<plc l x.f0→l[j].f0<x.f0:=fun j hj h1=>(plc_lo l x.f0 h1).2;have hi : ∀ (j:Nat) (hj:j<l.length),plc l x.f0≤j→x.f0<l[j].f0:=by
  intro j hj h1;have h2:=plc_hi l x.f0 (by omega)
  have h3:=h.ne (List.getElem_mem (show plc l x.f0<l.length by omega))
  rcases Nat.lt_or_ge (plc l x.f0) j with h4|h4
  ·have:=h.t.up _ _ h4 hj;omega
  ·have e:plc l x.f0=j:=by omega
   simp only [e] at h2 h3;omega
 rcases h.get (show a<o.length by omega) with ⟨a1,a2,a3⟩|⟨a1,a3⟩|⟨a1,a2,a3⟩ <;> rcases h.get hb with ⟨b1,b2,b3⟩|⟨b1,b3⟩|⟨b1,b2,b3⟩ <;> rw [a3,b3]
 ·exact h.t.up a b hab b2
 ·exact lo a a2 a1
 ·exact h.t.up a (b-1) (by omega) b2
 ·omega
 ·omega
 ·exact hi (b-1) b2 (by omega)
 ·omega
 ·omega
 ·exact h.t.up (a-1) (b-1) (by omega) b2
theorem Ins.zero {l o:List S43} {x:S43} {p:Nat} (h:Ins l x p o) : ∃ h0:0<o.length,o[0]=l[0]'h.t.pos:=by
 have hlen:=h.len;have hp:=h.pos;refine ⟨by omega,?_⟩
 rcases h.get (show 0<o.length by omega) with ⟨a1,a2,a3⟩|⟨a1,a3⟩|⟨a1,a2,a3⟩
 ·exact a3
 ·omega
 ·omega
theorem Ins.old {l o:List S43} {x:S43} {p:Nat} (h:Ins l x p o) {j:Nat} (hj:j+1<o.length):o[j+1]=x∨∃ m,∃ hm:m+1<l.length,o[j+1]=l[m+1]:=by
 have hp:=h.pos;rcases h.get hj with ⟨a1,a2,a3⟩|⟨a1,a3⟩|⟨a1,a2,a3⟩
 ·exact .inr ⟨j,a2,a3⟩
 ·exact .inl a3
 ·obtain ⟨m,rfl⟩ : ∃ m,j=m+1:=⟨j-1,by omega⟩
  exact .inr ⟨m,a2,a3⟩
theorem Ins.depthOld {l o:List S43} {x:S43} {p:Nat} (h:Ins l x p o) : ∀ (m:Nat) (n id:Int),0≤depthI l m n id→depthI o m n id=depthI l m n id:=by
 intro m;induction m with
 | zero=>intro n id _;rfl
 | succ m ih =>
  intro n id h1;rw [depthI] at h1;rw [depthI,depthI];by_cases h2:id=1
  ·rw [if_pos h2,if_pos h2]
  ·rw [if_neg h2] at h1;rw [if_neg h2,if_neg h2];cases hf:findI l id with
   | none=>rw [hf] at h1;simp at h1
   | some y =>
    rw [hf] at h1;rw [(h.someOld hf).2];exact ih (n+1) y.f1 h1
theorem lev_depth {l:List S43} (t:Tr l) {i d:Nat} (h:Lev l i d) : ∀ (hi:i<l.length) (m:Nat) (n:Int),d<m→depthI l m n l[i].f0=n+(d:Int):=by
 induction h with
 | zero =>
  intro hi m n hm;obtain ⟨m,rfl⟩ : ∃ q,m=q+1:=⟨m-1,by omega⟩
  rw [t.r0.1,depthI,if_pos rfl];omega
 | step i q d hi' h0 hq h ih =>
  intro hi m n hm;obtain ⟨m,rfl⟩ : ∃ q,m=q+1:=⟨m-1,by omega⟩
  obtain ⟨p,hp,h3,h4,h5,h6⟩:=t.par hi (by omega)
  have:p=q:=by omega
  subst this;rw [depthI,if_neg (fun h1=>h0 ((t.r1 hi).1 h1)),(t.up.find hi).1];simp only;rw [← h5,ih hp m (n+1) (by omega)]
  omega
theorem walk_lev {l:List S43} (t:Tr l) : ∀ (ns:List ByteArray) (i:Nat) (hi:i<l.length) (e:Nat),Lev l i e→∀ j:Nat,walkN l ns (i:Int)=((j:Int),0)→Lev l j (e+ns.length)
 | [],i,hi,e,h,j,hw=>by
  rw [walkN] at hw;have:=((Prod.mk.injEq ..).mp hw).1;have:i=j:=by omega
  subst this;exact h
 | n::ns,i,hi,e,h,j,hw=>by
  rw [walkN,rdS _ _ hi] at hw;by_cases h3:l[i].f3=true
  ·rw [if_pos h3] at hw;rcases kid_cases t.pos t.r0.1 t.up l[i].f0 n with ⟨h1,h2⟩|⟨q,hq,h1,h2,h4,h5,h6⟩
   ·rw [h1,if_pos (by omega)] at hw
    have:=(Prod.mk.injEq ..).mp hw;omega
   ·rw [h2,if_neg (by omega)] at hw
    have hg:getN l l[q].f1=(i:Int):=by rw [h5];exact (t.up.find hi).2
    have:=walk_lev t ns q hq (e+1) (Lev.step q i e hq (by omega) hg h) j hw
    rw [List.length_cons,show e+(ns.length+1)=e+1+ns.length by omega]
    exact this
  ·rw [if_neg h3] at hw;have:=(Prod.mk.injEq ..).mp hw;omega
theorem Ins.kids {l o:List S43} {x:S43} {p:Nat} (h:Ins l x p o) (d:Int):(kidsI o d).length=(kidsI l d).length+(if isKid d x=true then 1 else 0):=by
 unfold kidsI;have e:(l.filter (isKid d)).length=((l.take (plc l x.f0)).filter (isKid d)).length+((l.drop (plc l x.f0)).filter (isKid d)).length:=by
  rw [← List.length_append,← List.filter_append,List.take_append_drop]
 rw [e,h.ho,withN,List.filter_append,List.length_append,List.filter_cons];split
 ·rw [List.length_cons];omega
 ·omega
theorem Tr.kidsI12 {l:List S43} (t:Tr l) (d:Int):(kidsI l d).length≤12:=by
 rw [filter_len_eq t.pos t.r0.1 t.up];exact t.kids_any d
theorem Ins.right {l o:List S43} {x:S43} {p:Nat} (h:Ins l x p o):rightB o=true:=by
 have hlen:=h.len;have hbig:=h.big;obtain ⟨h0,hz⟩:=h.zero;have hpo:=h.hp;refine right_of h0 (by have:=h.t.le;have:=h.max;omega) ?_ ?_ ?_
 ·have:rd_T43 o 0=rd_T43 l 0:=by
   rw [show (0:Int)=((0:Nat):Int) from rfl,rdS _ _ h0,rdS _ _ h.t.pos,hz]
  rw [this];exact h.t.root
 ·intro j hj;have hu:=h.up j (j+1) (by omega) hj
  unfold firstB;rw [rdS _ _ hj,rdS _ _ (show j<o.length by omega),decide_eq_false (by omega)]
  rcases h.old hj with e|⟨m,hm,e⟩
  ·rw [e,h.nmx,h.sz];simp
  ·rw [e];have hf:=h.t.first m hm;unfold firstB at hf;rw [rdS _ _ hm] at hf;simp only [Bool.and_eq_true] at hf ⊢;exact ⟨⟨⟨rfl,hf.1.1.2⟩,hf.1.2⟩,hf.2⟩
 ·intro j hj;have par : ∀ (q:Nat) (hq:q<l.length) (d:Int),l[q].f0=d→l[q].f3=true→∃ p,∃ hp:p<o.length,getN o d=(p:Int)∧findI o d=some o[p]∧o[p].f0=d∧o[p].f3=true:=by
   intro q hq d h1 h2;have hf:=(h.t.up.find hq).1;rw [h1] at hf;have hf2:=(h.someOld hf).2;rcases getN_cases o d with ⟨g1,g2⟩|⟨p',hp',g1,g2,g3⟩
   ·rw [g2] at hf2;cases hf2
   ·refine ⟨p',hp',g1,g2,g3,?_⟩;rw [g2] at hf2;rw [Option.some.inj hf2];exact h2
  rw [second_iff];rcases h.old hj with e|⟨m,hm,e⟩
  ·rw [e];refine ⟨par p hpo x.f1 h.par.symm h.dir,?_,?_,?_⟩
   ·rw [h.kidNew rfl];rfl
   ·rw [depthI,if_neg (by omega),h.findNew]
    simp only;obtain ⟨d,hd,hlev⟩:=h.lev;have h1:=lev_depth h.t hlev hpo 6 (0+1) (by omega)
    rw [h.par,h.depthOld 6 (0+1) _ (by rw [h1];omega),h1]
    omega
   ·rw [h.kids];have h1:=h.t.kidsI12 x.f1;have h2:=h.room;split <;> omega
  ·have hs:=(second_iff l l[m+1]).1 (h.t.second m hm);obtain ⟨⟨q,hq,g1,g2,g3,g4⟩,s2,s3,s4⟩:=hs;rw [e];refine ⟨par q hq _ g3 g4,?_,?_,?_⟩
   ·cases hk:kidI l l[m+1].f1 l[m+1].f2 with
    | none =>
     rw [hk] at s2;have h1:=h.t.up 0 (m+1) (by omega) hm
     have h2:=h.t.r0.1;have:(gI none).f0=0:=rfl;omega
    | some y =>
     rw [hk] at s2;rw [h.kidSome hk];exact s2
   ·rw [h.depthOld 7 0 _ s3];exact s3
   ·rw [h.kids];by_cases hk:isKid l[m+1].f1 x=true
    ·rw [if_pos hk];unfold isKid at hk;simp only [Bool.and_eq_true,beq_iff_eq] at hk;rw [← hk.1];have h1:=h.t.kidsI12 x.f1;have h2:=h.room;omega
    ·rw [if_neg hk];exact s4
theorem Ins.wf {l o:List S43} {x:S43} {p:Nat} (h:Ins l x p o):wfL o=true:=by
 unfold wfL;rw [List.all_eq_true];intro y hy;rcases h.mem hy with rfl|hy
 ·exact h.wx
 ·exact List.all_eq_true.1 h.t.wf y hy
theorem Ins.out {l o:List S43} {x:S43} {p:Nat} (h:Ins l x p o):outI o x.f0=l:=by
 have hle:=plc_le l x.f0;have hlen:=h.len;have hx:o[plc l x.f0]'(by omega)=x:=by
  rcases h.get (show plc l x.f0<o.length by omega) with ⟨a1,_⟩|⟨_,a3⟩|⟨a1,_⟩
  ·omega
  ·exact a3
  ·omega
 have hg:=(h.up.find (show plc l x.f0<o.length by omega)).2
 rw [hx] at hg;unfold outI;rw [hg,Int.toNat_natCast];unfold outN;rw [h.ho,withN];have e1:(l.take (plc l x.f0)++x::l.drop (plc l x.f0)).take (plc l x.f0)=l.take (plc l x.f0):=by
  rw [List.take_append_of_le_length (by rw [List.length_take];omega),List.take_take,Nat.min_self]
 have e2:(l.take (plc l x.f0)++x::l.drop (plc l x.f0)).drop (plc l x.f0+1)=l.drop (plc l x.f0):=by
  rw [show l.take (plc l x.f0)++x::l.drop (plc l x.f0)=(l.take (plc l x.f0)++[x])++l.drop (plc l x.f0) by simp]
  exact List.drop_left' (by rw [List.length_append,List.length_take];simp;omega)
 rw [e1,e2,List.take_append_drop]
theorem make_met {l:List S43} (hw:wfL l=true) (s:ByteArray) (id:Int) (dir:Bool) (h0:0≤id) (hid:id≤4294967295):((makeF l s id dir).2≠0∧(makeF l s id dir).1 = []) ∨
  ((makeF l s id dir).2=0∧∃ a p nm,splitF s=(a,0)∧a.length≠0∧nm=a.getD (a.length-1) ⟨#[]⟩∧(∃ hp:p<l.length,walkI l (a.take (a.length-1)) (rd_T43 l 0)=(l[p],0)∧Ins l ⟨id,l[p].f0,nm,dir,0⟩ p (makeF l s id dir).1)):=by
 unfold makeF;by_cases hb:(beginF l s).2=0
 rotate_left
 ·rw [if_neg hb];exact .inl ⟨hb,rfl⟩
 rw [if_pos hb];have hr:=begin_ok hb;have t:=tr_of hw hr;have hbs:beginF l s=splitF s:=by unfold beginF;rw [if_pos hr]
 rw [hbs] at hb ⊢;have hsn:=split_names hb;have hls:=splitF_len s;obtain ⟨a,ea,hsa⟩ : ∃ a ea,splitF s=(a,ea):=⟨_,_,rfl⟩;rw [hsa] at hb hsn hls ⊢;simp only at hb hsn hls ⊢;subst hb;obtain ⟨e1,_⟩:=above_rel t a;by_cases h2:(aboveN l a).2=0
 rotate_left
 ·rw [if_neg (by rw [e1];exact h2),e1]
  exact .inl ⟨h2,rfl⟩
 obtain ⟨hne,p,hp,A,dp,AI⟩:=above_at t a h2;obtain ⟨_,hp',W,_⟩:=walk_of_above A t.pos;rw [AI];simp only [if_true];have hnm:isNameB (a.getD (a.length-1) ⟨#[]⟩)=true:=by
  rw [getD_at _ _ (by omega)]
  exact hsn _ (List.getElem_mem _)
 by_cases h3:(kidI l l[p].f0 (a.getD (a.length-1) ⟨#[]⟩)).isSome=true
 ·rw [if_pos h3];exact .inl ⟨by simp,rfl⟩
 rw [if_neg h3];by_cases h4:l.length=40
 ·rw [if_pos h4];exact .inl ⟨by simp,rfl⟩
 rw [if_neg h4];by_cases h5:(kidsI l l[p].f0).length=12
 ·rw [if_pos h5];exact .inl ⟨by simp,rfl⟩
 rw [if_neg h5];by_cases h6:id≤1
 ·rw [if_pos h6];exact .inl ⟨by simp,rfl⟩
 rw [if_neg h6];by_cases h7:(findI l id).isSome=true
 ·rw [if_pos h7];exact .inl ⟨by simp,rfl⟩
 rw [if_neg h7];have hn:findI l id=none:=by simpa using h7
 have hwp:=(wfI_iff _).1 (wfL_at hw hp);have hlev:=walk_lev t (a.take (a.length-1)) 0 t.pos 0 .zero p W;rw [List.length_take] at hlev;obtain ⟨q,hq,w1,w2⟩:=walk_rel0 t (a.take (a.length-1));rw [W] at w1 w2;obtain ⟨w3,w4⟩:=w2 rfl;have:q=p:=by simp only at w3;omega
 subst this;refine .inr ⟨rfl,a,q,_,rfl,hne,rfl,hp,Prod.ext w4 w1,?_⟩;exact { t:=t,wx:=by rw [wfI_iff];exact ⟨h0,hid,hwp.1,hwp.2.1,by simp,by simp⟩,hp:=hp,dir:=dp,par:=rfl,new:=hn,big:=by simp only;omega,free:=by simpa using h3,ho:=put_new _ hn,nmx:=hnm,sz:=rfl,lev:=⟨_,by omega,hlev⟩,room:=h5,max:=h4 }
end Go.Proofs.YtikjfekagdcjmaaGreatDoor.Q
namespace Go.Proofs.YtikjfekagdcjmaaGreatDoor.Q
open Go.RowKit Go.Proofs.YtikjfekagdcjmaaGreatDoorW.PrintWords Go.Proofs.YtikjfekagdcjmaaGreatDoorW.PrintLast Go.Proofs.YtikjfekagdcjmaaGreatDoorW.PrintMore
def files (tl:List SI):List SI:=tl.filter fun x=>!x.f3
def rightF (n:Int) (tl:List SI) (ol:List O.T) (bl:List B.T):Bool :=
 rightB tl&&rightO ol&&!(decide ((rd_T43 tl ((tl.length:Int)-1)).f0≥n))&&eqIBs (files tl) bl&&!(ol.any (badO bl))
theorem bodyI_cases (bl:List B.T) (id:Int):bodyI bl id = -1∧(∀ j (hj:j<bl.length),bl[j].f0≠id)∨∃ i:Nat,∃ hi:i<bl.length,bodyI bl id=i∧bl[i].f0=id:=by
 have h:=idxL_any (fun x:B.T=>x.f0 == id) bl 0;cases ha:bl.any fun x=>x.f0 == id with
 | false =>
  left
  have hn : ∀ j (hj:j<bl.length),(bl[j].f0 == id)=false:=fun j hj=>by
   have:=List.any_eq_false.1 ha bl[j] (List.getElem_mem hj);simpa using this
  exact ⟨idxL_none _ bl 0 hn,fun j hj=>by simpa using hn j hj⟩
 | true =>
  right
  obtain ⟨i,hi⟩ : ∃ i,bl.findIdx? (fun x=>x.f0 == id)=some i:=by
   cases hf:bl.findIdx? (fun x=>x.f0 == id) with
   | none =>
    rw [List.findIdx?_eq_none_iff] at hf;obtain ⟨x,hx,hp⟩:=List.any_eq_true.1 ha;rw [hf x hx] at hp;cases hp
   | some i=>exact ⟨i,rfl⟩
  obtain ⟨h1,h2,h3⟩:=List.findIdx?_eq_some_iff_getElem.1 hi;refine ⟨i,h1,?_,by simpa using h2⟩
  have:=idxL_some (fun x:B.T=>x.f0 == id) bl 0 i h1 h2 (fun j hj=>by simpa using h3 j hj)
  rw [Nat.zero_add] at this;exact this
theorem eqIBs_at : ∀ (xs:List SI) (ys:List B.T),eqIBs xs ys=true→∀ j (h1:j<xs.length) (h2:j<ys.length),eqIB xs[j] ys[j]=true
 | [],_,_,j,h1,_=>absurd h1 (Nat.not_lt_zero _)
 | _::_,[],h,_,_,_=>by cases h
 | x::xs,y::ys,h,j,h1,h2=>by
  have h':(eqIB x y&&eqIBs xs ys)=true:=h;rw [Bool.and_eq_true] at h';cases j with
  | zero=>exact h'.1
  | succ j=>exact eqIBs_at xs ys h'.2 j (by simpa using h1) (by simpa using h2)
theorem eqIB_iff (x:SI) (y:B.T):eqIB x y=true↔x.f0=y.f0∧wrap64 x.f4=(y.f1.size:Int):=by
 unfold eqIB;rw [Bool.and_eq_true,beq_iff_eq,beq_iff_eq]
structure Rt (n:Int) (tl:List SI) (ol:List O.T) (bl:List B.T):Prop where
 tr:Tr tl
 rb:rightB tl=true
 ro:rightO ol=true
 lt : ∀ x∈tl,x.f0<n
 eq:eqIBs (files tl) bl=true
 op : ∀ o∈ol,0≤bodyI bl o.f2∧o.f1<4
theorem rt_iff {n:Int} {tl:List SI} {ol:List O.T} {bl:List B.T} (hw:wfL tl=true):rightF n tl ol bl=true↔Rt n tl ol bl:=by
 unfold rightF;simp only [Bool.and_eq_true,Bool.not_eq_true',decide_eq_false_iff_not,List.any_eq_false,ge_iff_le,Int.not_le];constructor
 ·rintro ⟨⟨⟨⟨h1,h2⟩,h3⟩,h4⟩,h5⟩;have t:=tr_of hw h1;refine ⟨t,h1,h2,?_,h4,?_⟩
  ·intro x hx;obtain ⟨i,hi,rfl⟩:=List.getElem_of_mem hx;have hp:=t.pos;rw [show ((tl.length:Int)-1)=((tl.length-1:Nat):Int) by omega,rdI tl (tl.length-1) (by omega)] at h3
   rcases Nat.lt_or_ge i (tl.length-1) with h6|h6
   ·have:=t.up i (tl.length-1) h6 (by omega)
    omega
   ·obtain rfl:i=tl.length-1:=by omega
    exact h3
  ·intro o ho;have:=h5 o ho;unfold badO at this;simp only [Bool.or_eq_true,decide_eq_true_eq,not_or] at this;omega
 ·rintro ⟨t,h1,h2,h3,h4,h5⟩;have hp:=t.pos;refine ⟨⟨⟨⟨h1,h2⟩,?_⟩,h4⟩,?_⟩
  ·rw [show ((tl.length:Int)-1)=((tl.length-1:Nat):Int) by omega,rdI tl (tl.length-1) (by omega)]
   exact h3 _ (List.getElem_mem _)
  ·intro o ho;unfold badO;simp only [Bool.or_eq_true,decide_eq_true_eq,not_or];have:=h5 o ho;omega
section
variable {n:Int} {tl:List SI} {ol:List O.T} {bl:List B.T}
theorem Tr.f4 {l:List SI} (t:Tr l) {x:SI} (hx:x∈l):0≤x.f4∧x.f4≤1024∧x.f2.size≤8:=by
 obtain ⟨i,hi,rfl⟩:=List.getElem_of_mem hx;have hw:=(wfI_iff _).1 (wfL_at t.wf hi);cases i with
 | zero =>
  have h:=t.root;rw [show (0:Int)=((0:Nat):Int) from rfl,rdI l 0 hi] at h
  unfold rootB at h;simp only [Bool.and_eq_true,beq_iff_eq] at h;refine ⟨hw.2.2.2.2.1,by omega,?_⟩
  have h2:=h.1.1.2;have h3:l[0].f2=⟨#[]⟩:=bytes_inj (by rw [h2];unfold ByteArray.toList;rw [ByteArray.toList.loop];rfl)
  rw [h3];decide
 | succ i =>
  have h:=t.first i hi;unfold firstB at h;rw [rdI l (i+1) hi] at h;simp only [Bool.and_eq_true,Bool.not_eq_true',decide_eq_false_iff_not] at h;have h2:=h.1.1.2;unfold isNameB at h2;simp only [Bool.and_eq_true,decide_eq_true_eq] at h2;refine ⟨hw.2.2.2.2.1,by omega,by omega⟩
theorem Rt.len (h:Rt n tl ol bl):tl.length≤40∧ol.length≤12∧bl.length≤40:=by
 refine ⟨h.tr.le,rightO_len h.ro,?_⟩;rw [← eqIBs_len _ _ h.eq];exact Nat.le_trans (List.length_filter_le _ _) h.tr.le
theorem Rt.file (h:Rt n tl ol bl) {i:Nat} (hi:i<bl.length) : ∃ x,x∈tl∧x.f3=false∧x.f0=bl[i].f0∧x.f4=(bl[i].f1.size:Int):=by
 have hl:=eqIBs_len _ _ h.eq;have hq:=(eqIB_iff _ _).1 (eqIBs_at _ _ h.eq i (by omega) hi)
 have hm:(files tl)[i]'(by omega)∈files tl:=List.getElem_mem _
 have hm2:=List.mem_filter.1 hm;have h4:=h.tr.f4 hm2.1;refine ⟨_,hm2.1,by simpa using hm2.2,hq.1,?_⟩
 rw [← hq.2];unfold wrap64;omega
theorem Rt.size (h:Rt n tl ol bl) {i:Nat} (hi:i<bl.length):bl[i].f1.size≤1024:=by
 obtain ⟨x,hx,-,-,h4⟩:=h.file hi;have:=h.tr.f4 hx;omega
theorem Rt.body (h:Rt n tl ol bl) {x:SI} (hx:x∈tl) (hd:x.f3=false) : ∃ i:Nat,∃ hi:i<bl.length,bodyI bl x.f0=i∧bl[i].f0=x.f0∧x.f4=(bl[i].f1.size:Int):=by
 have hl:=eqIBs_len _ _ h.eq;have hm:x∈files tl:=List.mem_filter.2 ⟨hx,by simpa using hd⟩
 obtain ⟨j,hj,hjx⟩:=List.getElem_of_mem hm;have hq:=(eqIB_iff _ _).1 (eqIBs_at _ _ h.eq j hj (by omega))
 rcases bodyI_cases bl x.f0 with ⟨-,h2⟩|⟨i,hi,h1,h2⟩
 ·exact absurd (by rw [← hq.1,hjx]) (h2 j (by omega))
 ·obtain ⟨y,hy,-,hy0,hy4⟩:=h.file hi;obtain ⟨a,ha,rfl⟩:=List.getElem_of_mem hx;obtain ⟨b,hb,rfl⟩:=List.getElem_of_mem hy;obtain rfl:=h.tr.up.inj hb ha (by rw [hy0,h2])
  exact ⟨i,hi,h1,h2,hy4⟩
theorem Rt.open_ (h:Rt n tl ol bl) {o:O.T} (ho:o∈ol) : ∃ i:Nat,∃ hi:i<bl.length,bodyI bl o.f2=i∧bl[i].f0=o.f2∧0≤o.f2∧o.f2≤4294967295:=by
 have:=h.op o ho;rcases bodyI_cases bl o.f2 with ⟨h1,-⟩|⟨i,hi,h1,h2⟩
 ·omega
 ·refine ⟨i,hi,h1,h2,?_⟩;obtain ⟨x,hx,-,hx0,-⟩:=h.file hi;obtain ⟨a,ha,rfl⟩:=List.getElem_of_mem hx;have hw:=(wfI_iff _).1 (wfL_at h.tr.wf ha);rw [← h2,← hx0];exact ⟨hw.1,hw.2.1⟩
end
theorem findO_mem {l:List O.T} {c h:Int} (hf:(findO l c h).2=true):(findO l c h).1∈l∧(findO l c h).1.f0=c∧(findO l c h).1.f1=h:=by
 unfold findO at hf ⊢;split at hf
 ·rename_i o ho
  have h1:=List.find?_some ho;have h2:=List.mem_of_find?_eq_some ho;simp only [Bool.and_eq_true,beq_iff_eq] at h1;exact ⟨h2,h1.1,h1.2⟩
 ·cases hf
theorem files_loop (tl:List SI) (ol:List O.T) (bl:List B.T) (n:Int) (hl:tl.length≤1000) (hlo:ol.length≤1000) (hlb:bl.length≤1000) : ∀ (d k i:Nat),i+d=tl.length→d<k →
  flat_Right.l0 k (files (tl.take i)) tl (tl.length:Int) (i:Int) n tl ol bl=some (if eqIBs (files tl) bl=true then !(ol.any (badO bl)) else false)
 | 0,k,i,h,hk=>by
  obtain ⟨k,rfl⟩ : ∃ m,k=m+1:=⟨k-1,by omega⟩
  simp only [flat_Right.l0];rw [if_neg (by omega),List.take_of_length_le (by omega)]
  unfold flat_eq.f flat_bad.f;rw [if_pos (show (files tl).length≤1000 from Nat.le_trans (List.length_filter_le _ _) hl),Option.bind_some]
  cases he:eqIBs (files tl) bl
  ·rw [if_neg (by decide),if_neg (by decide)]
  ·rw [if_pos rfl,if_pos rfl,if_pos ⟨hlo,hlb⟩,Option.bind_some]
 | d+1,k,i,h,hk=>by
  obtain ⟨k,rfl⟩ : ∃ m,k=m+1:=⟨k-1,by omega⟩
  have hi:i<tl.length:=by omega
  simp only [flat_Right.l0];have hlen:(files (tl.take i)).length≤i:=Nat.le_trans (List.length_filter_le _ _) (by simp;omega)
  have ht:files (tl.take (i+1))=files (tl.take i)++if tl[i].f3=true then [] else [tl[i]]:=by
   rw [List.take_succ_eq_append_getElem hi];unfold files;rw [List.filter_append];cases h3:tl[i].f3 <;> simp [h3]
  rw [if_pos (by omega),if_pos (by omega),if_pos (by omega),rdI tl i hi,show wrap64 ((i:Int)+1)=((i+1:Nat):Int) by unfold wrap64;omega]
  have ih:=files_loop tl ol bl n hl hlo hlb d k (i+1) (by omega) (by omega)
  rw [ht] at ih;cases h3:tl[i].f3
  ·rw [if_neg (by decide),if_pos (by omega)]
   rw [h3,if_neg (by decide)] at ih
   rw [← ih];congr 2
   rw [← h3]
  ·rw [if_pos rfl];rw [h3,if_pos rfl,List.append_nil] at ih;exact ih
theorem frightF (n:Int) (tl:List SI) (ol:List O.T) (bl:List B.T) (hw:wfL tl=true) (hl:tl.length≤1000) (hlo:ol.length≤1000) (hlb:bl.length≤1000) (k:Nat) (hk:1005<k):flat_Right.f k n tl ol bl=some (rightF n tl ol bl):=by
 obtain ⟨k,rfl⟩ : ∃ m,k=m+1:=⟨k-1,by omega⟩
 unfold flat_Right.f tree_Right.f rightF;rw [if_pos hw,Option.bind_some];cases h1:rightB tl with
 | false=>rw [if_neg (by decide)];simp [flat_Right.j0]
 | true =>
  have t:=tr_of hw h1;have hp:=t.pos;rw [if_pos rfl,right_f ol (k+1) (by omega),Option.bind_some]
  cases h2:rightO ol with
  | false=>rw [if_neg (by decide)];simp [flat_Right.j0]
  | true =>
   rw [if_pos rfl,wrap_in (by omega) (by omega),if_pos (by omega),if_pos (by omega),flat_Right.j0]
   by_cases h3:(rd_T43 tl ((tl.length:Int)-1)).f0≥n
   ·rw [decide_eq_true h3,if_pos rfl];simp
   ·rw [decide_eq_false h3,if_neg (by decide)]
    have:=files_loop tl ol bl n hl hlo hlb tl.length k 0 (by omega) (by omega)
    rw [List.take_zero,show files [] = [] from rfl] at this
    rw [show ((0:Nat):Int)=0 from rfl] at this
    rw [this];cases eqIBs (files tl) bl <;> simp
end Go.Proofs.YtikjfekagdcjmaaGreatDoor.Q
