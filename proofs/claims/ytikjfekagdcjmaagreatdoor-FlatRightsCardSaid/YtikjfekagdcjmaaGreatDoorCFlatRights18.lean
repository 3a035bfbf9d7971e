/- Contracts and plain theory behind FlatRights. -/
import Derived.Lib.IndexLaws
import Derived.Lib.CutLaws
import Derived.Lib.CountLaws
import Derived.Laws.CopyOwn
import Derived.Shelf.Strings.Builder1
import Derived.Shelf.Strings.Builder2
import Derived.Shelf.Strings.OnBuilder
import Derived.Shelf.Small.Utf8
import Derived.Shelf.Small.Bits
import Derived.Shelf.Small.Strs
import Derived.Shelf.Strings.BuilderF
import Derived.Shelf.Utf8.RuneCount
import Derived.Shelf.Strconv.Itoa0
import Derived.Shelf.Strings.Search1
import Derived.Shelf.Strings.Search2
import Derived.Shelf.Strings.Search3
import Derived.Shelf.Strings.Count
import Derived.Shelf.LaysM
import Derived.Shelf.Strings.Shaped
import Derived.Shelf.Strings.Prefix
import Derived.Shelf.Strings.Split
import Derived.Shelf.Strings.SplitShaped
import Derived.Shelf.Unicode.Decode
import Derived.Shelf.Strings.Runes
import Derived.Shelf.Strings.RuneCount
import Derived.Shelf.Strings.AsciiSet
import Derived.Shelf.Strings.Explode
import Derived.Shelf.Bits.Mul64
import Derived.Shelf.Strings.Repeat
import Derived.Shelf.Unicode.DecodeSlow
import Derived.Shelf.Unicode.DecodeAny
import Derived.Shelf.Unicode.DecodeLast
import Derived.Ground.Names2Prog
import Derived.Shelf.Slices.SearchI
import Derived.Test.YtikjfekagdcjmaaGreatDoorProg
import Derived.Test.YtikjfekagdcjmaaGreatDoorCFlatRights2
import Derived.Test.YtikjfekagdcjmaaGreatDoorCFlatRights5
import Derived.Test.YtikjfekagdcjmaaGreatDoorCFlatRights7
import Derived.Test.YtikjfekagdcjmaaGreatDoorCFlatRights10
import Derived.Test.YtikjfekagdcjmaaGreatDoorCFlatRights11
import Derived.Test.YtikjfekagdcjmaaGreatDoorCFlatRights16
import Derived.Test.YtikjfekagdcjmaaGreatDoorCFlatRights17
set_option linter.unusedVariables false
set_option linter.unusedSimpArgs false
set_option maxHeartbeats 16000000
set_option maxRecDepth 100000
namespace Go.Proofs.YtikjfekagdcjmaaGreatDoor.Q
open Go.RowKit Go.Proofs.YtikjfekagdcjmaaGreatDoorW.PrintWords Go.Proofs.YtikjfekagdcjmaaGreatDoorW.PrintLast
theorem ix_eq (s:ByteArray):Lib.indexB s sl=Lib.indexByte s.data.toList 47:=Lib.index_one _ _
theorem bt_opt (s:ByteArray) (j:Nat) (h:j<s.size):(bt s (j:Int)=47↔s.data.toList[j]?=some 47):=by
 have hj:j<s.data.toList.length:=by rw [Array.length_toList];exact h
 unfold bt;rw [dif_pos (show ((j:Int)).toNat<s.size from h),List.getElem?_eq_getElem hj]
 have he:s.data.toList[j]=s[j]:=rfl;rw [he];simp only [Int.toNat_natCast,Option.some.injEq];constructor
 ·intro h2;apply UInt8.toNat_inj.1
  have:(47:UInt8).toNat=47:=rfl;rw [this];omega
 ·intro h2;rw [h2];rfl
theorem ix_none (s:ByteArray) (h:Lib.indexB s sl = -1) (j:Nat) (hj:j<s.size) : ¬ bt s (j:Int)=47:=by
 rw [ix_eq] at h;intro h2;exact Lib.indexByte_none h j ((bt_opt s j hj).1 h2)
theorem ix_some (s:ByteArray) (p:Nat) (h:Lib.indexB s sl=p):p<s.size∧bt s (p:Int)=47∧∀ j:Nat,j<p→¬ bt s (j:Int)=47:=by
 rw [ix_eq] at h;obtain ⟨h1,h2⟩:=Lib.indexByte_some h;have hp:p<s.size:=by
  obtain ⟨h3,_⟩:=List.getElem?_eq_some_iff.1 h1;rw [Array.length_toList] at h3;exact h3
 exact ⟨hp,(bt_opt s p hp).2 h1,fun j hj h3=>h2 j hj ((bt_opt s j (by omega)).1 h3)⟩
theorem bt_ext (s:ByteArray) (a j:Nat) (h:a+j<s.size):bt (s.extract a s.size) (j:Int)=bt s ((a+j:Nat):Int):=by
 unfold bt;have h1:((j:Int)).toNat<(s.extract a s.size).size:=by rw [ByteArray.size_extract];simp only [Int.toNat_natCast];omega
 rw [dif_pos h1,dif_pos (show (((a+j:Nat):Int)).toNat<s.size from h)]
 simp only [Int.toNat_natCast];rw [ByteArray.getElem_extract]
theorem ext_ext (s:ByteArray) (a b c:Nat) (h:a+c≤s.size):(s.extract a s.size).extract b c=s.extract (a+b) (a+c):=by
 rw [ByteArray.extract_extract];congr 1
 omega
theorem pieces_miss (s:ByteArray) (h:Lib.indexB s sl = -1):pieces s = [s]:=Lib.splitB_miss sl 0 _ s h
theorem pieces_hit (s:ByteArray) (p:Nat) (h:Lib.indexB s sl=p):pieces s=s.extract 0 p::pieces (s.extract (p+1) s.size):=by
 unfold pieces;rw [Lib.countB_hit s sl p (by decide) h,Nat.add_comm 1,Lib.splitB_hit sl 0 _ s p h]
 rfl
def rfin (o:List ByteArray):List ByteArray×Bool:=if (o.length:Int)<1 then ([],false) else if (o.length:Int)>6 then ([],false) else (o,true)
theorem l1_step (s:ByteArray) (out:List ByteArray) (i:Nat) (hs:s.size≤100000) (k j:Nat) (hj:j<s.size) (hn : ¬ bt s (j:Int)=47) :
  r10_Split.l1 (k+1) s out (i:Int) (j:Int)=r10_Split.l1 k s out (i:Int) ((j+1:Nat):Int):=by
 rw [r10_Split.l1,if_pos (by omega),if_pos (by omega),if_neg hn,wrap_in (by omega) (by omega)]
 rfl
theorem l1_go (s:ByteArray) (out:List ByteArray) (i:Nat) (hs:s.size≤100000) : ∀ (d k j:Nat),j+d≤s.size→(∀ x:Nat,j≤x→x<j+d→¬ bt s (x:Int)=47) →
  r10_Split.l1 (k+d) s out (i:Int) (j:Int)=r10_Split.l1 k s out (i:Int) ((j+d:Nat):Int):=by
 intro d;induction d with
 | zero=>intro k j _ _;rfl
 | succ d ih =>
  intro k j h1 h2;rw [show k+(d+1)=(k+d)+1 by omega,l1_step s out i hs _ j (by omega) (h2 j (by omega) (by omega)),ih k (j+1) (by omega) (fun x h3 h4=>h2 x (by omega) (by omega))]
  congr 1
  omega
theorem l1_end (s:ByteArray) (out:List ByteArray) (i:Nat) (hs:s.size≤100000) (ho:out.length≤100000) (k j:Nat) (hk:10<k) (hij:i+1≤j) (hj:j≤s.size) (hn:j<s.size→bt s (j:Int)=47) :
  r10_Split.l1 (k+1) s out (i:Int) (j:Int)=if isNameB (s.extract (i+1) j)=true then r10_Split.l0 k s (out++[s.extract (i+1) j]) (j:Int) else some ([],false):=by
 have e1:(wrap64 ((i:Int)+1))=((i+1:Nat):Int):=by rw [wrap_in (by omega) (by omega)];rfl
 have e2:(((i+1:Nat):Int)).toNat=i+1:=rfl;have e3:((j:Int)).toNat=j:=rfl;rw [r10_Split.l1];by_cases h:j<s.size
 ·rw [if_pos (by omega),if_pos (by omega),if_pos (hn h),e1,e2,e3,if_pos (by omega),if_pos (by omega),if_pos (by omega),rname_f _ _ hk,Option.bind_some]
  by_cases hb:isNameB (s.extract (i+1) j)=true
  ·rw [if_pos hb,if_pos (by omega),if_pos hb]
  ·rw [if_neg hb,if_neg hb]
 ·rw [if_neg (by omega),e1,e2,e3,if_pos (by omega),if_pos (by omega),if_pos (by omega),rname_f _ _ hk,Option.bind_some]
  by_cases hb:isNameB (s.extract (i+1) j)=true
  ·rw [if_pos hb,if_pos (by omega),if_pos hb]
  ·rw [if_neg hb,if_neg hb]
theorem l0_end (s:ByteArray) (out:List ByteArray) (k:Nat):r10_Split.l0 (k+1) s out (s.size:Int)=some (rfin out):=by
 rw [r10_Split.l0,if_neg (by omega)]
 unfold rfin;split
 ·rfl
 ·split <;> rfl
theorem l0_cut (s:ByteArray) (hs:s.size≤100000) : ∀ (n k i:Nat) (out:List ByteArray),s.size-i≤n→i<s.size→bt s (i:Int)=47→out.length≤i→2*(s.size-i)+13≤k →
  r10_Split.l0 k s out (i:Int)=some (if (pieces (s.extract (i+1) s.size)).all isNameB=true then rfin (out++pieces (s.extract (i+1) s.size)) else ([],false)):=by
 intro n;induction n with
 | zero=>intro k i out h1 h2;omega
 | succ n ih =>
  intro k i out h1 h2 h3 h4 h5;obtain ⟨k,rfl⟩ : ∃ m,k=m+1:=⟨k-1,by omega⟩
  rw [r10_Split.l0,if_pos (by omega),if_pos (by omega),if_pos h3]
  have e1:(wrap64 ((i:Int)+1))=((i+1:Nat):Int):=by rw [wrap_in (by omega) (by omega)];rfl
  rw [e1];have hsz:(s.extract (i+1) s.size).size=s.size-(i+1):=by rw [ByteArray.size_extract];omega
  rcases Lib.indexB_cases (s.extract (i+1) s.size) sl with hx|⟨p,hx,_⟩
  ·rw [pieces_miss _ hx];have hg : ∀ x:Nat,i+1≤x→x<(i+1)+(s.size-(i+1))→¬ bt s (x:Int)=47:=by
    intro x h6 h7 h8;have:=ix_none _ hx (x-(i+1)) (by rw [hsz];omega)
    rw [bt_ext _ _ _ (by omega),show i+1+(x-(i+1))=x by omega] at this
    exact this h8
   obtain ⟨q,hq⟩ : ∃ q,k=(q+1+1)+(s.size-(i+1)):=⟨k-2-(s.size-(i+1)),by omega⟩
   rw [hq,l1_go s out i hs (s.size-(i+1)) (q+1+1) (i+1) (by omega) hg,show i+1+(s.size-(i+1))=s.size by omega,
    l1_end s out i hs (by omega) (q+1) s.size (by omega) (by omega) (by omega) (fun h=>by omega)]
   simp only [List.all_cons,List.all_nil,Bool.and_true];by_cases hb:isNameB (s.extract (i+1) s.size)=true
   ·rw [if_pos hb,if_pos hb,l0_end]
   ·rw [if_neg hb,if_neg hb]
  ·obtain ⟨h6,h7,h8⟩:=ix_some _ p hx;rw [hsz] at h6;have hg : ∀ x:Nat,i+1≤x→x<(i+1)+p→¬ bt s (x:Int)=47:=by
    intro x h9 h10 h11;have:=h8 (x-(i+1)) (by omega)
    rw [bt_ext _ _ _ (by omega),show i+1+(x-(i+1))=x by omega] at this
    exact this h11
   rw [bt_ext _ _ _ (by omega)] at h7
   rw [pieces_hit _ p hx,ext_ext _ _ _ _ (by omega),hsz,ext_ext _ _ _ _ (by omega)]
   rw [show i+1+0=i+1 by omega,show i+1+(s.size-(i+1))=s.size by omega,show i+1+(p+1)=(i+1+p)+1 by omega]
   obtain ⟨q,hq⟩ : ∃ q,k=(q+1)+p:=⟨k-1-p,by omega⟩
   rw [hq,l1_go s out i hs p (q+1) (i+1) (by omega) hg,l1_end s out i hs (by omega) q (i+1+p) (by omega) (by omega) (by omega) (fun _=>h7)]
   rw [List.all_cons];by_cases hb:isNameB (s.extract (i+1) (i+1+p))=true
   ·rw [if_pos hb,hb,Bool.true_and,ih q (i+1+p) _ (by omega) (by omega) h7 (by rw [List.length_append];simp;omega) (by omega),List.append_assoc]
    rfl
   ·rw [Bool.not_eq_true] at hb;rw [hb,Bool.false_and,if_neg (by decide),if_neg (by decide)]
theorem pieces_ne (s:ByteArray):1≤(pieces s).length:=by rw [pieces_length];omega
theorem split_val (q:List ByteArray) (hne:1≤q.length):some (if q.all isNameB=true then rfin q else ([],false)) =
  some ((if (decide (7<q.length+1)||!q.any isNameB)=true then (([]:List ByteArray),(9:Int)) else if q.all isNameB=true then (q,0) else ([],9)).1,(if (decide (7<q.length+1)||!q.any isNameB)=true then (([]:List ByteArray),(9:Int)) else if q.all isNameB=true then (q,0) else ([],9)).2 == 0):=by
 by_cases ha:q.all isNameB=true
 ·have hany:q.any isNameB=true:=by
   obtain ⟨x,t,rfl⟩ : ∃ x t,q=x::t:=by cases q with|nil=>simp at hne|cons x t=>exact ⟨x,t,rfl⟩
   rw [List.all_cons,Bool.and_eq_true] at ha;rw [List.any_cons,ha.1,Bool.true_or]
  rw [if_pos ha,if_pos ha,hany,Bool.not_true,Bool.or_false];unfold rfin;rw [if_neg (by omega)]
  by_cases h6:q.length>6
  ·rw [if_pos (by omega),if_pos (by rw [decide_eq_true_eq];omega)]
   rfl
  ·rw [if_neg (by omega),if_neg (by rw [decide_eq_true_eq];omega)]
   rfl
 ·rw [if_neg ha,if_neg ha];split <;> rfl
theorem rsplit_f (s:ByteArray) (hs:s.size≤100000) (k:Nat) (hk:2*s.size+13≤k):r10_Split.f k s=some ((splitF s).1,(splitF s).2 == 0):=by
 unfold r10_Split.f splitF;by_cases h0:s.toList = [47]
 ·rw [if_pos h0,if_pos (by rw [h0];rfl)]
  rfl
 ·rw [if_neg h0,if_neg (by simpa using h0)]
  by_cases hz:s.size=0
  ·obtain ⟨k,rfl⟩ : ∃ m,k=m+1:=⟨k-1,by omega⟩
   have hx:Lib.indexB s sl = -1:=by
    rcases Lib.indexB_cases s sl with hx|⟨p,hx,_⟩
    ·exact hx
    ·have:=(ix_some s p hx).1;omega
   rw [pieces_miss s hx];have:=l0_end s [] k;rw [hz] at this;rw [show (0:Int)=((0:Nat):Int) from rfl,this]
   rfl
  ·by_cases hb:bt s ((0:Nat):Int)=47
   ·rw [show (0:Int)=((0:Nat):Int) from rfl,l0_cut s hs s.size k 0 [] (by omega) (by omega) hb (by simp) (by omega)]
    have hx:Lib.indexB s sl=((0:Nat):Int):=by
     rcases Lib.indexB_cases s sl with hx|⟨p,hx,_⟩
     ·exact absurd hb (ix_none s hx 0 (by omega))
     ·rcases Nat.eq_zero_or_pos p with rfl|hp
      ·exact hx
      ·exact absurd hb ((ix_some s p hx).2.2 0 hp)
    rw [pieces_hit s 0 hx,List.nil_append];have hne:=pieces_ne (s.extract (0+1) s.size);generalize pieces (s.extract (0+1) s.size)=q at *;have e0:(s.extract 0 0).toList = []:=by
     rw [Lib.extract_toList];simp
    simp only [List.length_cons,List.getD_cons_zero,List.tail_cons,e0,beq_self_eq_true,Bool.not_true,Bool.or_false];rw [decide_eq_false (show ¬ q.length+1<2 by omega),Bool.false_or]
    exact split_val q hne
   ·obtain ⟨k,rfl⟩ : ∃ m,k=m+1:=⟨k-1,by omega⟩
    rw [r10_Split.l0,if_pos (by omega),if_pos (by omega),if_neg (show ¬ bt s 0=47 from hb)]
    rcases Lib.indexB_cases s sl with hx|⟨p,hx,_⟩
    ·rw [pieces_miss s hx];rfl
    ·have hp:=ix_some s p hx;have hp0:0<p:=by
      rcases Nat.eq_zero_or_pos p with rfl|hp0
      ·exact absurd hp.2.1 hb
      ·exact hp0
     rw [pieces_hit s p hx];have e0:((s.extract 0 p).toList == [])=false:=by
      rw [beq_eq_false_iff_ne];intro h;have:(s.extract 0 p).toList.length=0:=by rw [h];rfl
      rw [Lib.extract_toList,List.drop_zero,List.length_take,Array.length_toList] at this;have hsz:s.data.size=s.size:=rfl;omega
     simp only [List.getD_cons_zero,e0,Bool.not_false,Bool.or_true,Bool.true_or];rfl
theorem Up.plc {l:List S43} (h:Up l) {p:Nat} (hp:p<l.length):plc l l[p].f0=p :=
 plc_at l _ p (by omega) (fun j hj=>h j p hj hp) (fun _=>by omega)
theorem wfL_of (l:List S43) (h : ∀ x∈l,(Lit.int .u32 x.f0).wf=true∧(Lit.int .u32 x.f1).wf=true∧x.f2.size≤maxLen∧True∧(Lit.int .u32 x.f4).wf=true):wfL l=true:=by
 unfold wfL;rw [List.all_eq_true];intro x hx;obtain ⟨h1,h2,_,_,h3⟩:=h x hx;rw [wfI_iff];simp only [Lit.wf,IntKind.min,IntKind.max,IntKind.signed,IntKind.bits,Bool.and_eq_true,decide_eq_true_eq] at h1 h2 h3;simp at h1 h2 h3
 omega
theorem u32_of {a:Int} (h:(Lit.int .u32 a).wf=true):0≤a∧a≤4294967295:=by
 simp only [Lit.wf,IntKind.min,IntKind.max,IntKind.signed,IntKind.bits,Bool.and_eq_true,decide_eq_true_eq] at h;simp at h
 omega
structure Tr (l:List S43):Prop where
 pos:0<l.length
 le:l.length≤40
 root:rootB (rd_T43 l 0)=true
 up:Up l
 upb:upB (-1) l=true
 wf:wfL l=true
 first : ∀ j:Nat,j+1<l.length→firstB l j=true
 second : ∀ (j:Nat) (h:j+1<l.length),secondB l l[j+1]=true
theorem tr_of {l:List S43} (hw:wfL l=true) (h:rightB l=true):Tr l:=by
 have hu:=right_up h hw;have h2:=h;unfold rightB at h2;simp only [Bool.and_eq_true,decide_eq_true_eq,List.all_eq_true,List.mem_range] at h2;exact ⟨by omega,h2.1.1.1.2,h2.1.1.2,up_of_upB l hu,hu,hw,fun j hj=>h2.1.2 j (by omega),fun j hj=>by have:=h2.2 j (by omega);rwa [rd43_get _ _ hj] at this⟩
theorem right_of {l:List S43} (hp:0<l.length) (hle:l.length≤40) (hroot:rootB (rd_T43 l 0)=true) (h1 : ∀ j:Nat,j+1<l.length→firstB l j=true) (h2 : ∀ (j:Nat) (h:j+1<l.length),secondB l l[j+1]=true):rightB l=true:=by
 unfold rightB;simp only [Bool.and_eq_true,decide_eq_true_eq,List.all_eq_true,List.mem_range];exact ⟨⟨⟨⟨by omega,hle⟩,hroot⟩,fun j hj=>h1 j (by omega)⟩,fun j hj=>by rw [rd43_get _ _ (show j+1<l.length by omega)];exact h2 j (by omega)⟩
theorem second_iff (l:List S43) (x:S43):secondB l x=true↔((∃ p,∃ hp:p<l.length,getN l x.f1=(p:Int)∧findI l x.f1=some l[p]∧l[p].f0=x.f1∧l[p].f3=true)∧(gI (kidI l x.f1 x.f2)).f0=x.f0∧0≤depthI l 7 0 x.f0∧(kidsI l x.f1).length≤12):=by
 unfold secondB;simp only [Bool.and_eq_true,decide_eq_true_eq,beq_iff_eq];constructor
 ·rintro ⟨⟨⟨⟨h1,h2⟩,h3⟩,h4⟩,h5⟩;refine ⟨?_,h3,h4,h5⟩;rcases getN_cases l x.f1 with ⟨h6,h7⟩|⟨p,hp,h6,h7,h8⟩
  ·rw [h7] at h1;cases h1
  ·rw [h7] at h2;exact ⟨p,hp,h6,h7,h8,h2⟩
 ·rintro ⟨⟨p,hp,h6,h7,h8,h9⟩,h3,h4,h5⟩;rw [h7];exact ⟨⟨⟨⟨rfl,h9⟩,h3⟩,h4⟩,h5⟩
theorem Tr.r0 {l:List S43} (t:Tr l):(l[0]'t.pos).f0=1∧(l[0]'t.pos).f3=true:=by
 have h:=t.root;rw [show (0:Int)=((0:Nat):Int) from rfl,rd43_get _ _ t.pos] at h
 simp only [rootB,Bool.and_eq_true,beq_iff_eq] at h;exact ⟨h.1.1.1.1,h.1.2⟩
theorem Tr.r1 {l:List S43} (t:Tr l) {i:Nat} (hi:i<l.length):l[i].f0=1↔i=0:=by
 constructor
 ·intro h;exact t.up.inj hi t.pos (by rw [h,t.r0.1])
 ·rintro rfl;exact t.r0.1
theorem kidI_congr (l:List S43) (d:Int) {a b:ByteArray} (h:a.toList=b.toList):kidI l d a=kidI l d b:=by
 unfold kidI;rw [h]
def Keys (l:List S43):Prop:=∀ (i j:Nat) (hi:i<l.length) (hj:j<l.length),0<i→0<j→l[i].f1=l[j].f1→l[i].f2.toList=l[j].f2.toList→i=j
theorem Tr.second' {l:List S43} (t:Tr l) {i:Nat} (hi:i<l.length) (h0:0<i):secondB l l[i]=true:=by
 obtain ⟨j,rfl⟩ : ∃ j,i=j+1:=⟨i-1,by omega⟩
 exact t.second j hi
theorem Tr.keys {l:List S43} (t:Tr l):Keys l:=by
 have key : ∀ (i:Nat) (hi:i<l.length),0<i→kidI l l[i].f1 l[i].f2=some l[i]:=by
  intro i hi h0;have h:=((second_iff l l[i]).1 (t.second' hi h0)).2.1;rcases kid_cases t.pos t.r0.1 t.up l[i].f1 l[i].f2 with ⟨h1,h2⟩|⟨p,hp,h1,h2,h3,h4⟩
  ·rw [h2] at h;have:(gI none).f0=0:=rfl;have h5:=t.up 0 i h0 hi;have:=t.r0.1;omega
  ·rw [h3] at h;have:p=i:=t.up.inj hp hi h;subst this;exact h3
 intro i j hi hj h1 h2 h3 h4;have a:=key i hi h1;have b:=key j hj h2;rw [h3,kidI_congr l _ h4,b] at a;have:=Option.some.inj a;exact t.up.inj hi hj (by rw [this])
theorem kid_at {l:List S43} (hp:0<l.length) (hr:l[0].f0=1) (hu:Up l) (hk:Keys l) {i:Nat} (hi:i<l.length) (h0:0<i) {d:Int} {nm:ByteArray} (hd:l[i].f1=d) (hn:l[i].f2.toList=nm.toList):kidI l d nm=some l[i]∧kidN l d nm=(i:Int):=by
 rcases kid_cases hp hr hu d nm with ⟨h1,h2⟩|⟨p,hp2,h1,h2,h3,h4,h5⟩
 ·unfold kidI at h2;rw [List.find?_eq_none] at h2;have h6:=hu 0 i h0 hi;have:=h2 l[i] (List.getElem_mem hi);exfalso
  apply this
  unfold isKid;rw [hd,hn,beq_eq_false_iff_ne.2 (show l[i].f0≠1 by omega)]
  simp
 ·have:p=i:=hk p i hp2 hi h1 h0 (by rw [h4,hd]) (by rw [h5,hn])
  subst this;exact ⟨h3,h2⟩
theorem walk_rel {l:List S43} (hp:0<l.length) (hr:l[0].f0=1) (hu:Up l) : ∀ (ns:List ByteArray) (i:Nat) (hi:i<l.length),∃ q,∃ hq:q<l.length,(walkI l ns l[i]).2=(walkN l ns (i:Int)).2∧((walkN l ns (i:Int)).2=0→(walkN l ns (i:Int)).1=(q:Int)∧(walkI l ns l[i]).1=l[q])
 | [],i,hi=>⟨i,hi,rfl,fun _=>⟨rfl,rfl⟩⟩
 | n::ns,i,hi=>by
  rw [walkI,walkN,rd43_get _ _ hi];by_cases hd:l[i].f3=true
  ·rw [if_pos hd,if_pos hd];rcases kid_cases hp hr hu l[i].f0 n with ⟨h1,h2⟩|⟨p,hp2,h1,h2,h3,h4⟩
   ·rw [h1,h2];exact ⟨i,hi,rfl,fun h=>by cases h⟩
   ·rw [h2,h3,if_neg (by omega)]
    exact walk_rel hp hr hu ns p hp2
  ·rw [if_neg hd,if_neg hd];exact ⟨i,hi,rfl,fun h=>by cases h⟩
theorem walk_rel0 {l:List S43} (t:Tr l) (ns:List ByteArray) : ∃ q,∃ hq:q<l.length,(walkI l ns (rd_T43 l 0)).2=(walkN l ns 0).2∧((walkN l ns 0).2=0→(walkN l ns 0).1=(q:Int)∧(walkI l ns (rd_T43 l 0)).1=l[q]):=by
 have:=walk_rel t.pos t.r0.1 t.up ns 0 t.pos;rwa [← rd43_get _ _ t.pos] at this
theorem above_rel {l:List S43} (t:Tr l) (ns:List ByteArray):(aboveI l ns).e=(aboveN l ns).2∧((aboveN l ns).2=0→ns.length≠0∧∃ q,∃ hq:q<l.length,(aboveN l ns).1=(q:Int)∧(aboveI l ns).p=l[q]∧l[q].f3=true∧(aboveI l ns).name=ns.getD (ns.length-1) ⟨#[]⟩):=by
 unfold aboveI aboveN;by_cases h:ns.length=0
 ·rw [if_pos h,if_pos h];exact ⟨rfl,fun h=>by cases h⟩
 ·rw [if_neg h,if_neg h];obtain ⟨q,hq,h1,h2⟩:=walk_rel0 t (ns.take (ns.length-1));rw [h1];by_cases h3:(walkN l (ns.take (ns.length-1)) 0).2=0
  ·obtain ⟨h4,h5⟩:=h2 h3;rw [if_pos h3,h4,h5,rd43_get _ _ hq,if_pos h3];by_cases h6:l[q].f3=true
   ·rw [if_pos h6,if_pos h6];exact ⟨rfl,fun _=>⟨h,q,hq,rfl,rfl,h6,rfl⟩⟩
   ·rw [if_neg h6,if_neg h6];exact ⟨rfl,fun h=>by cases h⟩
  ·rw [if_neg h3,if_neg h3];exact ⟨rfl,fun h7=>absurd h7 h3⟩
theorem Tr.par {l:List S43} (t:Tr l) {i:Nat} (hi:i<l.length) (h0:0<i) : ∃ p,∃ hp:p<l.length,getN l l[i].f1=(p:Int)∧findI l l[i].f1=some l[p]∧l[p].f0=l[i].f1∧l[p].f3=true :=
 ((second_iff l l[i]).1 (t.second' hi h0)).1
theorem Tr.depth {l:List S43} (t:Tr l) {i:Nat} (hi:i<l.length):0≤depthI l 7 0 l[i].f0:=by
 by_cases h0:i=0
 ·rw [(t.r1 hi).2 h0];simp [depthI]
 ·exact ((second_iff l l[i]).1 (t.second' hi (by omega))).2.2.1
theorem set_f0 {l:List S43} {k:Nat} (hk:k<l.length) {x:S43} (h:x.f0=l[k].f0) {i:Nat} (hi:i<(l.set k x).length):(l.set k x)[i].f0=(l[i]'(by simpa using hi)).f0:=by
 rw [List.getElem_set];split
 ·rename_i he
  subst he;exact h
 ·rfl
theorem set_f3 {l:List S43} {k:Nat} (hk:k<l.length) {x:S43} (h:x.f3=l[k].f3) {i:Nat} (hi:i<(l.set k x).length):(l.set k x)[i].f3=(l[i]'(by simpa using hi)).f3:=by
 rw [List.getElem_set];split
 ·rename_i he
  subst he;exact h
 ·rfl
theorem set_f4 {l:List S43} {k:Nat} (hk:k<l.length) {x:S43} (h:x.f4=l[k].f4) {i:Nat} (hi:i<(l.set k x).length):(l.set k x)[i].f4=(l[i]'(by simpa using hi)).f4:=by
 rw [List.getElem_set];split
 ·rename_i he
  subst he;exact h
 ·rfl
theorem set_up {l:List S43} (hu:Up l) {k:Nat} (hk:k<l.length) {x:S43} (h:x.f0=l[k].f0):Up (l.set k x):=by
 intro a b hab hb;rw [set_f0 hk h,set_f0 hk h];exact hu a b hab (by simpa using hb)
theorem set_getN {l:List S43} (hu:Up l) {k:Nat} (hk:k<l.length) {x:S43} (h:x.f0=l[k].f0) (id:Int):getN (l.set k x) id=getN l id:=by
 rcases getN_cases l id with ⟨h1,h2⟩|⟨p,hp,h1,h2,h3⟩
 ·rcases getN_cases (l.set k x) id with ⟨h4,h5⟩|⟨q,hq,h4,h5,h6⟩
  ·rw [h1,h4]
  ·rw [set_f0 hk h] at h6;have:=(hu.find (show q<l.length by simpa using hq)).1
   rw [h6,h2] at this;cases this
 ·have hp':p<(l.set k x).length:=by simpa using hp
  have:=((set_up hu hk h).find hp').2;rw [set_f0 hk h,h3] at this;rw [this,h1]
end Go.Proofs.YtikjfekagdcjmaaGreatDoor.Q
namespace Go.Proofs.YtikjfekagdcjmaaGreatDoor.Q
open Go.RowKit Go.Proofs.YtikjfekagdcjmaaGreatDoorW.PrintWords Go.Proofs.YtikjfekagdcjmaaGreatDoorW.PrintLast Go.Proofs.YtikjfekagdcjmaaGreatDoorW.PrintMore
theorem run_store_at {P:Program} {oi:Oper} {a:Act} (w:World) (ty:TypeId) (x y:Operand) (ho:oi.op=.store ty x y) (g o:Nat) (cells cur:Array Value) (t:TypeId) (hx:a.eval x=.pointer (some ⟨g,o,none⟩)) (hy:a.eval y=.agg cells)
  (hg:w.heap[g]?=some (.cells cur t (0,0))) (hfit:o+cells.size≤cur.size) (hi:(P.info? ty).map (·.size)=some cells.size) (h1 : ∀ v∈cells.toList,v.oneCell'=true) :
  (execOp a.eval oi).run P w=.ok .skip (w.setRow g (cur.toList.take o++cells.toList++cur.toList.drop (o+cells.size)).toArray):=by
 unfold execOp;simp only [ho,hx,hy,Instr.storeAt,Instr.sureAddr,Sem.run_bind,Sem.run_pure,Result.andThen_ok,run_storeVar_at w g o ty cells cur t hg hfit hi h1]
def outI (l:List S43) (id:Int):List S43:=outN l (getN l id).toNat
def remF (l:List S43) (s:ByteArray) (dir:Bool):List S43×S43×Int :=
  if (findF l s).2=0 then
    (if (findF l s).1.f0=1 then ([],zI,21)
     else if dir=true∧(findF l s).1.f3=false then ([],zI,10)
     else if dir=true∧0<(kidsI l (findF l s).1.f0).length then ([],zI,24)
     else if dir=false∧(findF l s).1.f3=true then ([],zI,11)
     else (outI l (findF l s).1.f0,(findF l s).1,0))
  else ([],zI,(findF l s).2)
theorem find_at {l:List S43} {s:ByteArray} (hw:wfL l=true) (h:(findF l s).2=0):Tr l∧∃ k,∃ hk:k<l.length,l[k]=(findF l s).1:=by
 unfold findF at h ⊢;by_cases hb:(beginF l s).2=0
 ·rw [if_pos hb] at h ⊢;have t:=tr_of hw (begin_ok hb);refine ⟨t,?_⟩;obtain ⟨q,hq,h1,h2⟩:=walk_rel0 t (beginF l s).1;rw [h1] at h;exact ⟨q,hq,(h2 h).2.symm⟩
 ·rw [if_neg hb] at h;exact absurd h hb
theorem setCell_blk {w:World} {g:Nat} {cur:Array Value} {t:TypeId} {fr:Nat×Nat} (h:w.heap[g]?=some (.cells cur t fr)) (j:Nat) (u:Value):(w.setCell ⟨g,j,none⟩ u).heap[g]?=some (.cells (cur.setIfInBounds j u) t fr):=by
 rw [Go.Sort.setCell_eq];have hlt:g<w.heap.size:=(Array.getElem?_eq_some_iff.1 h).1;have hv:w.heap[g]=.cells cur t fr:=(Array.getElem?_eq_some_iff.1 h).2;unfold Go.Sort.mapBlock;simp only [Array.getElem?_modify,if_pos,Array.getElem?_eq_getElem hlt,hv,Option.map_some];rfl
section
variable {α:Type} {d:Kd α} {e base:Nat} {w:World} {v:Value} {xs:List α}
theorem R_open (h:Kd.R d e w base (fun _=>True) v xs) : ∃ A c,v=.slice A xs.length c∧Kd.C d w A xs.length xs∧xs.length≤c:=by
 obtain ⟨A,c,rfl⟩:=Kd.R_slice h;have:=Kd.R_reads' h;exact ⟨A,c,rfl,this.2.2,this.2.1⟩
theorem R_set (h:Kd.R d e w base (fun _=>True) v xs) {g t:Nat} {cs:Array Value} (hb:w.heap[g]?=some (.cells cs t (0,0))) (ht : ∀ q,q∈e::d.E→q≠t) (j:Nat) (u:Value):Kd.R d e (w.setCell ⟨g,j,none⟩ u) base (fun _=>True) v xs :=
 Kd.R_mono (Kd.R_far (Kd.R_types h hb ht) (p:=⟨g,j,none⟩) (fun k hk=>hk.2) u) (fun _ _=>trivial)
theorem R_setRow (h:Kd.R d e w base (fun _=>True) v xs) {g t:Nat} {cs:Array Value} (hb:w.heap[g]?=some (.cells cs t (0,0))) (ht : ∀ q,q∈e::d.E→q≠t) (cs':Array Value):Kd.R d e (w.setRow g cs') base (fun _=>True) v xs :=
 Kd.R_mono (Kd.R_step (Kd.R_types h hb ht) (fun k hk _=>setRow_other w g k cs' hk.2)) (fun _ _=>trivial)
end
theorem run_store_cell {P:Program} {oi:Oper} {a:Act} (w:World) (ty:TypeId) (x y:Operand) (ho:oi.op=.store ty x y) (g o:Nat) (u:Value) (cur:Array Value) (t:TypeId) (hx:a.eval x=.pointer (some ⟨g,o,none⟩)) (hy:a.eval y=u)
  (hg:w.heap[g]?=some (.cells cur t (0,0))) (hfit:o<cur.size) (hi:(P.info? ty).map (·.size)=some 1) (hu:u.cells.toList = [u]) (h1:u.oneCell'=true) :
  (execOp a.eval oi).run P w=.ok .skip (w.setCell ⟨g,o,none⟩ u):=by
 unfold execOp;have h:=run_store_run (P:=P) (w:=w) (g:=g) (o:=o) ty u [u] hg hu (by simpa using hi) (by simp;omega) (by simpa using h1)
 simp only [ho,hx,hy,Sem.run_bind,Sem.run_pure,Result.andThen_ok,h];rfl
theorem run_store_full {P:Program} {oi:Oper} {a:Act} (w:World) (ty:TypeId) (x y:Operand) (ho:oi.op=.store ty x y) (g:Nat) (cells cur:Array Value) (t:TypeId) (hx:a.eval x=.pointer (some ⟨g,0,none⟩)) (hy:a.eval y=.agg cells)
  (hg:w.heap[g]?=some (.cells cur t (0,0))) (hfit:cells.size=cur.size) (hi:(P.info? ty).map (·.size)=some cells.size) (h1 : ∀ v∈cells.toList,v.oneCell'=true) :
  (execOp a.eval oi).run P w=.ok .skip (w.setRow g cells):=by
 rw [run_store_at w ty x y ho g 0 cells cur t hx hy hg (by omega) hi h1]
 have e:(cur.toList.take 0++cells.toList++cur.toList.drop (0+cells.size))=cells.toList:=by
  rw [List.take_zero,List.nil_append,List.drop_eq_nil_of_le (by rw [Array.length_toList];omega),List.append_nil]
 rw [e]
def OnOk (e:Int) (p:Prop):Prop:=e=0→p
structure FB (w:World) (base g:Nat) (n:Int) (vT vO vB:Value) (tl:List SI) (ol:List O.T) (bl:List B.T):Prop where
 le:base≤g
 heap:w.heap[g]?=some (.cells #[.int .u32 n,vT,vO,vB] 67 (0,0))
 rT:Kd.R k43 43 w base (fun _=>True) vT tl
 rO:Kd.R k81 81 w base (fun _=>True) vO ol
 rB:Kd.R k87 87 w base (fun _=>True) vB bl
structure Fr (base g:Nat) (w w':World):Prop where
 os:w'.os=w.os
 tape:w'.tape=w.tape
 output:w'.output=w.output
 size:w.heap.size≤w'.heap.size
 keep : ∀ k,k<w.heap.size→k≠g→(base≤k→∀ cs fr,w.heap[k]?≠some (.cells cs 87 fr))→w'.heap[k]?=w.heap[k]?
theorem Fr.refl (base g:Nat) (w:World):Fr base g w w:=⟨rfl,rfl,rfl,Nat.le_refl _,fun _ _ _ _=>rfl⟩
theorem Fr.trans {base g:Nat} {a b c:World} (h:Fr base g a b) (k:Fr base g b c):Fr base g a c :=
 ⟨k.os.trans h.os,k.tape.trans h.tape,k.output.trans h.output,Nat.le_trans h.size k.size,fun i hi hg hb=>by
  have h1:=h.keep i hi hg hb;exact (k.keep i (Nat.lt_of_lt_of_le hi h.size) hg (fun hbi=>by rw [h1];exact hb hbi)).trans h1⟩
theorem Fr.of_below {base g:Nat} {w w':World} (h:Below w.heap.size w w'):Fr base g w w':=⟨h.os,h.tape,h.output,h.size,fun k hk _ _=>h.block k hk⟩
theorem Fr.step {base g:Nat} {a w w':World} (h:Fr base g a w) (k:Below w.heap.size w w'):Fr base g a w':=h.trans (Fr.of_below k)
theorem Fr.drew {base g:Nat} {a w:World} (h:Fr base g a w):Fr base g a w.drew:=h.trans ⟨rfl,rfl,rfl,Nat.le_refl _,fun _ _ _ _=>rfl⟩
theorem Fr.alloc {base g:Nat} {a w:World} (h:Fr base g a w) (o:Obj):Fr base g a (w.alloc o):=h.step (below_alloc (Below.refl _ _) o)
theorem Fr.below {base g:Nat} {w w':World} (h:Fr base g w w') (hg:base≤g) (hb:base≤w.heap.size):Below base w w' :=
 ⟨h.os,h.tape,h.output,h.size,fun k hk=>h.keep k (by omega) (by omega) (fun hk2=>by omega)⟩
theorem Fr.blk {base g k t:Nat} {cs:Array Value} {w w':World} (h:Fr base g w w') (hk:w.heap[k]?=some (.cells cs t (0,0))) (hg:k≠g) (ht:t≠87):w'.heap[k]?=some (.cells cs t (0,0)) :=
 (h.keep k (blk_lt hk) hg (fun _ cs' fr' e=>by rw [hk] at e;injection e with e;injection e with _ e _;exact ht e)).trans hk
theorem Fr.setG {base g:Nat} {a w:World} (h:Fr base g a w) (j:Nat) (u:Value):Fr base g a (w.setCell ⟨g,j,none⟩ u) :=
 h.trans ⟨rfl,rfl,rfl,by simp [World.setCell],fun k hk hg _=>Below.heap_setCell w ⟨g,j,none⟩ u k hg⟩
theorem Fr.setB {base g b:Nat} {a w:World} {cs:Array Value} (h:Fr base g a w) (hb:w.heap[b]?=some (.cells cs 87 (0,0))) (hle:base≤b) (j:Nat) (u:Value):Fr base g a (w.setCell ⟨b,j,none⟩ u) :=
 h.trans ⟨rfl,rfl,rfl,by simp [World.setCell],fun k hk hg hh=>Below.heap_setCell w ⟨b,j,none⟩ u k (fun e=>by subst e;exact hh hle _ _ hb)⟩
theorem Fr.grown {base g:Nat} {a w w':World} {row:Option Nat} (h:Fr base g a w) (hg:w.grownBy w' row) (hrow : ∀ k,row=some k→base≤k∧∃ cs,w.heap[k]?=some (.cells cs 87 (0,0))):Fr base g a w' :=
 h.trans ⟨hg.os,hg.tape,hg.output,hg.size,fun k hk hne hh=>hg.block k hk (fun e=>by
  obtain ⟨hb,cs,hc⟩:=hrow k e.symm;exact hh hb cs _ hc)⟩
section
variable {w w1:World} {base g:Nat} {n:Int} {vT vO vB:Value} {tl:List SI} {ol:List O.T} {bl:List B.T}
theorem FB.step (h:FB w base g n vT vO vB tl ol bl) (hb:Below w.heap.size w w1):FB w1 base g n vT vO vB tl ol bl :=
 ⟨h.le,blk_below h.heap hb,Kd.R_below h.rT hb,Kd.R_below h.rO hb,Kd.R_below h.rB hb⟩
theorem FB.drew (h:FB w base g n vT vO vB tl ol bl):FB w.drew base g n vT vO vB tl ol bl:=h.step ⟨rfl,rfl,rfl,Nat.le_refl _,fun _ _=>rfl⟩
theorem FB.alloc (h:FB w base g n vT vO vB tl ol bl) (o:Obj):FB (w.alloc o) base g n vT vO vB tl ol bl:=h.step (below_alloc (Below.refl _ _) o)
theorem FB.setN (h:FB w base g n vT vO vB tl ol bl) (m:Int):FB (w.setCell ⟨g,0,none⟩ (.int .u32 m)) base g m vT vO vB tl ol bl :=
 ⟨h.le,(setCell_blk h.heap 0 _).trans rfl,R_set h.rT h.heap (by decide) _ _,R_set h.rO h.heap (by decide) _ _,R_set h.rB h.heap (by decide) _ _⟩
theorem FB.setT (h:FB w base g n vT vO vB tl ol bl) {v:Value} {tl':List SI} (hr:Kd.R k43 43 w base (fun _=>True) v tl'):FB (w.setCell ⟨g,1,none⟩ v) base g n v vO vB tl' ol bl :=
 ⟨h.le,(setCell_blk h.heap 1 _).trans rfl,R_set hr h.heap (by decide) _ _,R_set h.rO h.heap (by decide) _ _,R_set h.rB h.heap (by decide) _ _⟩
theorem FB.setO (h:FB w base g n vT vO vB tl ol bl) {v:Value} {ol':List O.T} (hr:Kd.R k81 81 w base (fun _=>True) v ol'):FB (w.setCell ⟨g,2,none⟩ v) base g n vT v vB tl ol' bl :=
 ⟨h.le,(setCell_blk h.heap 2 _).trans rfl,R_set h.rT h.heap (by decide) _ _,R_set hr h.heap (by decide) _ _,R_set h.rB h.heap (by decide) _ _⟩
theorem FB.setB (h:FB w base g n vT vO vB tl ol bl) {v:Value} {bl':List B.T} (hr:Kd.R k87 87 w base (fun _=>True) v bl'):FB (w.setCell ⟨g,3,none⟩ v) base g n vT vO v tl ol bl' :=
 ⟨h.le,(setCell_blk h.heap 3 _).trans rfl,R_set h.rT h.heap (by decide) _ _,R_set h.rO h.heap (by decide) _ _,R_set hr h.heap (by decide) _ _⟩
theorem flat_set1 : ∀ (l:List B.T) (i:Nat) (h:i<l.length) (s:ByteArray),(B.flat l).set (i*2+1) (.string s)=B.flat (l.set i ⟨l[i].f0,s⟩)
 | x::xs,0,_,s=>by simp [B.flat_cons,B.c]
 | x::xs,i+1,h,s=>by
  have ih:=flat_set1 xs i (by simpa using h) s
  rw [B.flat_cons,List.set_cons_succ,B.flat_cons,List.getElem_cons_succ,← ih];rw [show (i+1)*2+1=i*2+1+1+1 by omega]
  simp [B.c]
theorem FB.row (h:FB w base g n vT vO vB tl ol bl) (hB:0<bl.length) : ∃ b cap,vB=.slice (some ⟨b,0,none⟩) bl.length cap∧base≤b∧bl.length≤cap∧(∃ cur,B.Row w b cap cur bl)∧b≠g:=by
 obtain ⟨b,cap,cur,e,hb,hr⟩:=B.row_of_R h.rB hB;exact ⟨b,cap,e,hb,hr.le,⟨cur,hr⟩,fun e=>by have:=hr.heap;rw [e,h.heap] at this;injection this with this;injection this with _ this _;revert this;decide⟩
theorem FB.setD {b cap:Nat} (h:FB w base g n vT vO (.slice (some ⟨b,0,none⟩) bl.length cap) tl ol bl) {i:Nat} (hi:i<bl.length) (hbg:b≠g) (hbb:base≤b) (s:ByteArray) :
  FB (w.setCell ⟨b,i*2+1,none⟩ (.string s)) base g n vT vO (.slice (some ⟨b,0,none⟩) bl.length cap) tl ol (bl.set i ⟨bl[i].f0,s⟩):=by
 obtain ⟨b',cap',cur,e,hb,hr⟩:=B.row_of_R h.rB (by omega)
 obtain ⟨rfl,rfl⟩:b=b'∧cap=cap':=by injection e with e1 e2 e3;injection e1 with e1;injection e1 with e1;exact ⟨e1,e3⟩
 refine ⟨h.le,(Below.heap_setCell w ⟨b,i*2+1,none⟩ (.string s) g (Ne.symm hbg)).trans h.heap,R_set h.rT hr.heap (by decide) _ _,R_set h.rO hr.heap (by decide) _ _,?_⟩
 have hrow:B.Row (w.setCell ⟨b,i*2+1,none⟩ (.string s)) b cap (cur.setIfInBounds (i*2+1) (.string s)) (bl.set i ⟨bl[i].f0,s⟩) :=
  ⟨(setCell_blk hr.heap _ _),by rw [List.length_set];exact hr.le,hr.max,by simpa using hr.size,by
   rw [List.length_set,Array.toList_setIfInBounds,List.take_set,hr.cells,flat_set1 bl i hi s]⟩
 have:=B.R_of_row hrow hbb;rwa [List.length_set] at this
theorem FB.cells (h:FB w base g n vT vO vB tl ol bl):w.cell? ⟨g,0,none⟩=some (.int .u32 n)∧w.cell? ⟨g,1,none⟩=some vT∧w.cell? ⟨g,2,none⟩=some vO∧w.cell? ⟨g,3,none⟩=some vB :=
 ⟨(blk_cell h.heap 0).trans rfl,(blk_cell h.heap 1).trans rfl,(blk_cell h.heap 2).trans rfl,(blk_cell h.heap 3).trans rfl⟩
theorem add0 (b k:Nat):(⟨b,0,none⟩:Addr).add k=⟨b,k,none⟩:=by
 unfold Addr.add;split
 ·next h=>subst h;rfl
 ·simp
theorem FB.cellD {b cap:Nat} (h:FB w base g n vT vO (.slice (some ⟨b,0,none⟩) bl.length cap) tl ol bl) {i:Nat} (hi:i<bl.length):w.cell? ⟨b,i*2,none⟩=some (.int .u32 bl[i].f0)∧w.cell? ⟨b,i*2+1,none⟩=some (.string bl[i].f1):=by
 obtain ⟨ad,e,x0,x1⟩:=at_T87 (Kd.R_reads' h.rB).2.2 (i:Int) (by omega) (by omega)
 cases e
 simp only [Int.toNat_natCast,add0] at x0 x1;rw [B.rdT bl i hi] at x0 x1;exact ⟨x0,x1⟩
theorem own_body (h:Kd.R k87 87 w base (fun _=>True) vB bl) (k:Nat) (hk:vB.ownBlock=some k):base≤k∧∃ cs,w.heap[k]?=some (.cells cs 87 (0,0)):=by
 obtain ⟨_,inner,ho,_⟩:=h;exact ⟨own_base ho k hk,own_typed ho k hk⟩
theorem FB.appendB (h:FB w base g n vT vO vB tl ol bl) (hg:w.grownBy w1 vB.ownBlock) {v1:Value} {bl':List B.T} (hr:Kd.R k87 87 w1 base (fun _=>True) v1 bl') :
  w1.heap[g]?=some (.cells #[.int .u32 n,vT,vO,vB] 67 (0,0))∧FB (w1.setCell ⟨g,3,none⟩ v1) base g n vT vO v1 tl ol bl':=by
 have hne : ∀ k t cs,w.heap[k]?=some (.cells cs t (0,0))→t≠87→some k≠vB.ownBlock:=fun k t cs hk ht e=>by
  obtain ⟨_,cs',h2⟩:=own_body h.rB k e.symm;rw [hk] at h2;injection h2 with h2
  injection h2 with _ h2 _
  exact ht h2
 have hG:w1.heap[g]?=some (.cells #[.int .u32 n,vT,vO,vB] 67 (0,0)):=(hg.block g (blk_lt h.heap) (hne g _ _ h.heap (by decide))).trans h.heap
 have hR : ∀ {α:Type} {d:Kd α} {e:Nat} {v:Value} {xs:List α},(∀ q,q∈e::d.E→q≠87)→Kd.R d e w base (fun _=>True) v xs→Kd.R d e w1 base (fun _=>True) v xs:=fun ht hr0 =>
  Kd.R_mono (Kd.R_move (Kd.R_bound hr0) (fun k hk=>by
   obtain ⟨_,_,hlt,q,hq,cells,hc⟩:=hk;exact hg.block k hlt (hne k q cells hc (ht q hq)))) (fun _ _=>trivial)
 exact ⟨hG,h.le,(setCell_blk hG 3 _).trans rfl,R_set (hR (by decide) h.rT) hG (by decide) _ _,R_set (hR (by decide) h.rO) hG (by decide) _ _,R_set hr hG (by decide) _ _⟩
theorem FB.rset (h:FB w base g n vT vO vB tl ol bl) {base':Nat} {v:Value} {xs:List SI} (hr:Kd.R k43 43 w base' (fun _=>True) v xs) (j:Nat) (u:Value):Kd.R k43 43 (w.setCell ⟨g,j,none⟩ u) base' (fun _=>True) v xs :=
 R_set hr h.heap (by decide) j u
theorem FB.rgrown (h:FB w base g n vT vO vB tl ol bl) (hg:w.grownBy w1 vB.ownBlock) {base':Nat} {v:Value} {xs:List SI} (hr:Kd.R k43 43 w base' (fun _=>True) v xs):Kd.R k43 43 w1 base' (fun _=>True) v xs :=
 Kd.R_mono (Kd.R_move (Kd.R_bound hr) (fun k hk=>by
  obtain ⟨_,_,hlt,q,hq,cells,hc⟩:=hk;have ht : ∀ q,q∈43::k43.E→q≠87:=by decide
  refine hg.block k hlt (fun e=>?_);obtain ⟨_,cs',h2⟩:=own_body h.rB k e.symm;rw [hc] at h2;injection h2 with h2
  injection h2 with _ h2 _
  exact ht q hq h2)) (fun _ _=>trivial)
theorem FB.setFresh (h:FB w base g n vT vO vB tl ol bl) {r t:Nat} {cs:Array Value} (hb:w.heap[r]?=some (.cells cs t (0,0))) (hrg:r≠g) (hbr:base≤r+1) (hT:Kd.R k43 43 w (r+1) (fun _=>True) vT tl) (hO : ∀ q,q∈81::k81.E→q≠t) (hB : ∀ q,q∈87::k87.E→q≠t) (cs':Array Value) :
  FB (w.setRow r cs') base g n vT vO vB tl ol bl :=
 ⟨h.le,(setRow_other w r g cs' (Ne.symm hrg)).trans h.heap,Kd.R_lower (Kd.R_mono (Kd.R_move (Kd.R_bound hT) (fun k hk=>setRow_other w r k cs' (by have:=hk.2.1;omega))) (fun _ _=>trivial)) hbr,R_setRow h.rO hb hO cs',R_setRow h.rB hb hB cs'⟩
theorem FB.setFresh73 (h:FB w base g n vT vO vB tl ol bl) {r:Nat} {cs:Array Value} (hb:w.heap[r]?=some (.cells cs 73 (0,0))) (hrg:r≠g) (cs':Array Value):FB (w.setRow r cs') base g n vT vO vB tl ol bl :=
 ⟨h.le,(setRow_other w r g cs' (Ne.symm hrg)).trans h.heap,R_setRow h.rT hb (by decide) cs',R_setRow h.rO hb (by decide) cs',R_setRow h.rB hb (by decide) cs'⟩
theorem FB.frozen (h:FB w base g n vT vO vB tl ol bl) (j:Nat):w.frozen? ⟨g,j,none⟩=false:=blk_frozen h.heap j
end
def OkFB (e:Int) (w:World) (base g:Nat) (n:Int) (tl:List SI) (ol:List O.T) (bl:List B.T):Prop:=OnOk e (∃ vT vO vB,FB w base g n vT vO vB tl ol bl)
theorem OkFB.row73 {e:Int} {w:World} {base g:Nat} {n:Int} {tl:List SI} {ol:List O.T} {bl:List B.T} (h:OkFB e w base g n tl ol bl) {r:Nat} {cs:Array Value} (hb:w.heap[r]?=some (.cells cs 73 (0,0))) (hrg:r≠g) (cs':Array Value):OkFB e (w.setRow r cs') base g n tl ol bl:=fun he=>by
 obtain ⟨a,b,c,h1⟩:=h he;exact ⟨a,b,c,h1.setFresh73 hb hrg cs'⟩
theorem Fr.setFreshCell {base g r:Nat} {a w:World} (h:Fr base g a w) (hr:a.heap.size≤r) (j:Nat) (u:Value):Fr base g a (w.setCell ⟨r,j,none⟩ u) :=
 ⟨h.os,h.tape,h.output,by simpa [World.setCell] using h.size,fun k hk hg hb=>(Below.heap_setCell w ⟨r,j,none⟩ u k (fun e=>by have e':k=r:=e;omega)).trans (h.keep k hk hg hb)⟩
theorem FB.setCell73 {w:World} {base g:Nat} {n:Int} {vT vO vB:Value} {tl:List SI} {ol:List O.T} {bl:List B.T} (h:FB w base g n vT vO vB tl ol bl) {r:Nat} {cs:Array Value} (hb:w.heap[r]?=some (.cells cs 73 (0,0))) (hrg:r≠g) (j:Nat) (u:Value):FB (w.setCell ⟨r,j,none⟩ u) base g n vT vO vB tl ol bl :=
 ⟨h.le,(Below.heap_setCell w ⟨r,j,none⟩ u g (Ne.symm hrg)).trans h.heap,R_set h.rT hb (by decide) _ _,R_set h.rO hb (by decide) _ _,R_set h.rB hb (by decide) _ _⟩
end Go.Proofs.YtikjfekagdcjmaaGreatDoor.Q
namespace Go.Proofs
open Go.Shelf
def Tryz.lays105_ren:Go.Shelf.Ren:=⟨fun|105=>245|212=>286|99=>287|165=>288|166=>289|170=>290|169=>291|263=>312|264=>313|206=>314|240=>315|241=>316|276=>338|277=>339|n=>n,fun|9=>9|3=>3|4=>4|20=>20|0=>0|46=>223|109=>356|5=>5|72=>361|76=>365|51=>24|146=>387|53=>98|148=>389|70=>359|37=>127|75=>364|127=>391|164=>405|80=>147|n=>n,fun|n=>n⟩
theorem Tryz.lays105:Go.Proofs.Lays.n105 Tryz.prog Tryz.lays105_ren:={
 mixed:=by kernel_rfl
 f99:=Tryz.func287.trans (congrArg some (by kernel_rfl))
 f105:=Tryz.func245.trans (congrArg some (by kernel_rfl))
 f165:=Tryz.func288.trans (congrArg some (by kernel_rfl))
 f166:=Tryz.func289.trans (congrArg some (by kernel_rfl))
 f169:=Tryz.func291.trans (congrArg some (by kernel_rfl))
 f170:=Tryz.func290.trans (congrArg some (by kernel_rfl))
 f206:=Tryz.func314.trans (congrArg some (by kernel_rfl))
 f212:=Tryz.func286.trans (congrArg some (by kernel_rfl))
 f240:=Tryz.func315.trans (congrArg some (by kernel_rfl))
 f241:=Tryz.func316.trans (congrArg some (by kernel_rfl))
 f263:=Tryz.func312.trans (congrArg some (by kernel_rfl))
 f264:=Tryz.func313.trans (congrArg some (by kernel_rfl))
 f276:=Tryz.func338.trans (congrArg some (by kernel_rfl))
 f277:=Tryz.func339.trans (congrArg some (by kernel_rfl))
 t0:=Tryz.underlying0
 a0:=Tryz.isAgg0
 z0:=Tryz.sizeOf0
 v0:=Tryz.zeroValue0
 t3:=Tryz.underlying3
 a3:=Tryz.isAgg3
 z3:=Tryz.sizeOf3
 v3:=Tryz.zeroValue3
 t4:=Tryz.underlying4
 a4:=Tryz.isAgg4
 z4:=Tryz.sizeOf4
 v4:=Tryz.zeroValue4
 t5:=Tryz.underlying5
 a5:=Tryz.isAgg5
 z5:=Tryz.sizeOf5
 v5:=Tryz.zeroValue5
 t9:=Tryz.underlying9
 a9:=Tryz.isAgg9
 z9:=Tryz.sizeOf9
 v9:=Tryz.zeroValue9
 t20:=Tryz.underlying20
 a20:=Tryz.isAgg20
 z20:=Tryz.sizeOf20
 v20:=Tryz.zeroValue20
 t37:=Tryz.underlying127
 a37:=Tryz.isAgg127
 z37:=Tryz.sizeOf127
 v37:=Tryz.zeroValue127
 t46:=Tryz.underlying223
 a46:=Tryz.isAgg223
 z46:=Tryz.sizeOf223
 v46:=Tryz.zeroValue223
 t51:=Tryz.underlying24
 a51:=Tryz.isAgg24
 z51:=Tryz.sizeOf24
 v51:=Tryz.zeroValue24
 t53:=Tryz.underlying98
 a53:=Tryz.isAgg98
 z53:=Tryz.sizeOf98
 v53:=Tryz.zeroValue98
 t70:=Tryz.underlying359
 a70:=Tryz.isAgg359
 z70:=Tryz.sizeOf359
 v70:=Tryz.zeroValue359
 t72:=Tryz.underlying361
 a72:=Tryz.isAgg361
 z72:=Tryz.sizeOf361
 v72:=Tryz.zeroValue361
 t75:=Tryz.underlying364
 a75:=Tryz.isAgg364
 z75:=Tryz.sizeOf364
 v75:=Tryz.zeroValue364
 t76:=Tryz.underlying365
 a76:=Tryz.isAgg365
 z76:=Tryz.sizeOf365
 v76:=Tryz.zeroValue365
 t109:=Tryz.underlying356
 a109:=Tryz.isAgg356
 z109:=Tryz.sizeOf356
 v109:=Tryz.zeroValue356
 t127:=Tryz.underlying391
 a127:=Tryz.isAgg391
 z127:=Tryz.sizeOf391
 v127:=Tryz.zeroValue391
 t146:=Tryz.underlying387
 a146:=Tryz.isAgg387
 z146:=Tryz.sizeOf387
 v146:=Tryz.zeroValue387
 t148:=Tryz.underlying389
 a148:=Tryz.isAgg389
 z148:=Tryz.sizeOf389
 v148:=Tryz.zeroValue389
 t164:=Tryz.underlying405
 a164:=Tryz.isAgg405
 z164:=Tryz.sizeOf405
 v164:=Tryz.zeroValue405 }
theorem Tryz.Builder_Extra_105:Builder.Extra Tryz.prog Tryz.lays105_ren:={
 sizeBuilder:=by kernel_rfl
 liesBuilder:=by kernel_rfl
 t5:=Tryz.underlying5
 a5:=Tryz.isAgg5
 z5:=Tryz.sizeOf5
 v5:=Tryz.zeroValue5
 infoByte:=by kernel_rfl
 cellsByte:=by kernel_rfl
 sizeByte:=by kernel_rfl
 neB5:=by decide }
open Go.RowKit Go.Lib in
theorem Tryz.strings_Repeat (s:ByteArray) (c:Nat) (w:World) (hc:c≤9223372036854775807) (hlen:s.size*c≤140737488355328) :
  Calls Tryz.prog 245 #[.string s,.int .i64 c] w fun e w'=>e=.returned (.string ⟨(Lib.repeatL s.data.toList c).toArray⟩)∧Below w.heap.size w w':=Any.strings_Repeat Tryz.lays105 Tryz.Builder_Extra_105 s c w hc hlen
end Go.Proofs
namespace Go.Proofs.YtikjfekagdcjmaaGreatDoor.Q
open Go.RowKit Go.Proofs.YtikjfekagdcjmaaGreatDoorW.PrintWords Go.Proofs.YtikjfekagdcjmaaGreatDoorW.PrintLast Go.Proofs.YtikjfekagdcjmaaGreatDoorW.PrintMore
def layD (s:ByteArray) (off:Int) (d:ByteArray):ByteArray :=
 if (s.size:Int)≤off then s else s.extract 0 off.toNat++d.extract 0 (min (d.size:Int) (s.size-off)).toNat++s.extract (off+(d.extract 0 (min (d.size:Int) (s.size-off)).toNat).size).toNat s.size
theorem flay_c (base g:Nat) (n:Int) (vT vO vB:Value) (tl:List SI) (ol:List O.T) (bl:List B.T) (file off:Int) (data:ByteArray) (w:World) (hf:FB w base g n vT vO vB tl ol bl) (hl:bl.length≤1000) (i:Nat) (hi:i<bl.length) (hbi:bodyI bl file=i) (h0:0≤off) (h1:off≤100000) (hd:data.size≤100000) (hs:bl[i].f1.size≤100000) :
  Calls Tryz.prog 125 #[.pointer (some ⟨g,0,none⟩),.int .u32 file,.int .i64 off,.string data] w fun e w'=>e=.returned (.tuple #[])∧FB w' base g n vT vO vB tl ol (bl.set i ⟨bl[i].f0,layD bl[i].f1 off data⟩)∧Fr base g w w':=by
 obtain ⟨b,cap,rfl,hbb,hcap,hrow,hbg⟩:=hf.row (by omega)
 obtain ⟨A1,c1,rfl,-,-⟩:=R_open hf.rT;obtain ⟨A2,c2,rfl,-,-⟩:=R_open hf.rO;generalize tl.length=n1 at hf;generalize ol.length=n2 at hf;obtain ⟨r,hr⟩ : ∃ r,r=layD bl[i].f1 off data:=⟨_,rfl⟩;rw [← hr];unfold layD at hr;generalize hsx:bl[i].f1=s at hs hr;have HSX:=Aside0.mk hsx;have HR0:=Aside0.mk hr;clear hr hsx;have HFd:=Aside0.mk hf.drew;have HRd:=Aside0.mk (Fr.refl base g w).drew;have HBI:=Aside0.mk hbi;have HBB:=Aside0.mk hbb;have HBG:=Aside0.mk hbg;clear hf hbi hbb hrow hbg;go_enter Tryz.func125,Tryz.ntmps125;go_upto_region 0 with (fail)
 refine rs 11 (fun w'=>w'.cell? ⟨g,0,none⟩=some (.int .u32 n)∧w'.cell? ⟨g,1,none⟩=some (.slice A1 n1 c1)∧w'.cell? ⟨g,2,none⟩=some (.slice A2 n2 c2)∧w'.cell? ⟨g,3,none⟩=some (.slice (some ⟨b,0,none⟩) bl.length cap)) [] HFd.out.cells (fun hHeld=>?_);generalize w.drew=wd at HFd HRd hHeld ⊢;refine rp 0 (some 9) ?_;refine rp 1 (some 10) ?_;refine rp 2 (some 11) ?_;refine rt 3 (some 12) ?_;refine rp 4 (some 13) ?_;refine rp 5 (some 14) ?_;refine rt 6 (some 15) ?_;refine rp 7 (some 16) ?_;refine ro 8 (some 17) (fun K hK=>?_);refine cr Tryz.func114 #[.agg #[.int .u32 n,.slice A1 n1 c1,.slice A2 n2 c2,.slice (some ⟨b,0,none⟩) bl.length cap],.int .u32 file] ?_;refine (body_c n (.slice A1 n1 c1) (.slice A2 n2 c2) (some ⟨b,0,none⟩) cap bl file wd (Kd.R_reads' HFd.out.rB).2.2 hl ⟨_,_,_,rfl⟩ ⟨_,_,_,rfl⟩).mono ?_;rintro e wb ⟨rfl,hb⟩;refine ⟨_,rfl,?_⟩;have HFb:=Aside0.mk (HFd.out.step hb);have HRb:=Aside0.mk (HRd.out.step hb);clear hb;refine hK.out _ _ HFb.out.cells (fun hHeld=>?_);clear hK K;refine rn ?_;rw [HBI.out];clear HFd HRd;refine rp 9 (some 18) ?_;refine rp 10 (some 8) ?_;refine done_ (by kernel_rfl) ?_
 skip;have hy:=HFb.out.cellD hi;have y1:=hy.2;rw [HSX.out] at y1;have hr:=HR0.out;clear hy HR0;by_cases hso:(s.size:Int)≤off
 ·rw [if_pos hso] at hr;have HR:=Aside0.mk hr;clear hr;go_wp2_with (fail)
  refine bodyPost_ret (results_none rfl _ _ _) rfl ⟨rfl,?_,HRb.out⟩;rw [HR.out,← HSX.out,show (⟨bl[i].f0,bl[i].f1⟩:B.T)=bl[i] from rfl,List.set_getElem_self]
  exact HFb.out
 ·rw [if_neg hso] at hr;have HR:=Aside0.mk hr;clear hr;go_upto_region 3 with (fail)
  have HFc:=Aside0.mk HFb.out.drew;have HRc:=Aside0.mk HRb.out.drew;clear HFb HRb hHeld;have hdl:((data.extract 0 (min (data.size:Int) (s.size-off)).toNat).size:Int)≤s.size-off:=by rw [ByteArray.size_extract];omega
  generalize data.extract 0 (min (data.size:Int) (s.size-off)).toNat=dd at HR hdl ⊢;have hwr:wrap64 (off+(dd.size:Int))=off+dd.size:=by unfold wrap64;omega
  refine rs 22 (fun w'=>w'.cell? ⟨b,i*2+1,none⟩=some (.string s)) [21] y1 (fun hHeld=>?_);generalize wb.drew=wc at HFc HRc hHeld ⊢;clear y1;refine rp 0 (some 38) ?_;refine rp 1 (some 39) ?_;refine rp 2 (some 40) ?_;refine rp 3 (some 41) ?_;refine rp 5 (some 43) ?_;refine rp 7 (some 45) ?_;refine rp 9 (some 47) ?_;refine rp 10 (some 48) ?_;refine rp 11 (some 49) ?_;refine rp 13 (some 51) ?_;refine rp 14 (some 52) ?_;refine rp 15 (some 53) ?_;refine rp 16 (some 54) ?_;refine rt 4 (some 42) ?_;refine rt 12 (some 50) ?_;refine pure_ (i:=6) (N:=some 44) (v:=?_) (a':=?_) (fl 22 130815) rfl rfl (by kernel_rfl) (fun _ _ _ h=>h) (Or.inl ⟨by rfl,?_⟩) ?_ ?_
  rotate_left
  ·intro w';go_simp;rw [if_pos (by omega)]
   try with_reducible rfl
  rotate_left
  ·simp only [Act.put,List.setIfInBounds_toArray,List.set_cons_zero,List.set_cons_succ,i64_w,i32_w];rfl
  refine pure_ (i:=8) (N:=some 46) (v:=?_) (a':=?_) (fl 22 131071) rfl rfl (by kernel_rfl) (fun _ _ _ h=>h) (Or.inl ⟨by rfl,?_⟩) ?_ ?_
  rotate_left
  ·intro w';go_simp;rw [if_neg (by omega)]
   try with_reducible rfl
  rotate_left
  ·simp only [Act.put,List.setIfInBounds_toArray,List.set_cons_zero,List.set_cons_succ,i64_w,i32_w];rfl
  refine pure_ (i:=17) (N:=some 55) (v:=?_) (a':=?_) (fl 22 262143) rfl rfl (by kernel_rfl) (fun _ _ _ h=>h) (Or.inl ⟨by rfl,?_⟩) ?_ ?_
  rotate_left
  ·intro w';go_simp;rw [if_pos (by omega)]
   try with_reducible rfl
  rotate_left
  ·simp only [Act.put,List.setIfInBounds_toArray,List.set_cons_zero,List.set_cons_succ,i64_w,i32_w];rfl
  refine pure_ (i:=18) (N:=some 56) (v:=?_) (a':=?_) (fl 22 524287) rfl rfl (by kernel_rfl) (fun _ _ _ h=>h) (Or.inl ⟨by rfl,?_⟩) ?_ ?_
  rotate_left
  ·intro w';go_simp;rw [if_neg (by omega)]
   try with_reducible rfl
  rotate_left
  ·simp only [Act.put,List.setIfInBounds_toArray,List.set_cons_zero,List.set_cons_succ,i64_w,i32_w];rfl
  refine rp 19 (some 57) ?_;refine rp 20 (some 58) ?_;refine rl 21 none (fun K hK=>?_);obtain ⟨b',cap',cur,e,hb',hrow⟩:=B.row_of_R HFc.out.rB (by omega)
  obtain ⟨rfl,rfl⟩:b=b'∧cap=cap':=by injection e with e1 e2 e3;injection e1 with e1;injection e1 with e1;exact ⟨e1,e3⟩
  refine skip_ (by rfl) rfl (run_store_cell wc 9 (.tmp 58) (.tmp 56) rfl b (i*2+1) (.string r) cur 87 rfl (by rw [HR.out];rfl) hrow.heap (by have:=hrow.size;omega) (by kernel_rfl) rfl rfl) ?_
  refine hK.out _ _ ?_;clear hK K;refine done_ (by kernel_rfl) ?_
  skip;refine bodyPost_end (results_none rfl _ _ _) rfl ⟨rfl,HFc.out.setD hi HBG.out HBB.out r,HRc.out.setB hrow.heap HBB.out _ _⟩
def zeros (n:Nat):ByteArray:=⟨(Lib.repeatL [0] n).toArray⟩
theorem zeros_size (n:Nat):(zeros n).size=n:=by
 show (Lib.repeatL [0] n).toArray.size=n
 rw [List.size_toArray];rw [Lib.repeatL_length];exact Nat.mul_one n
def sizeD (s:ByteArray) (size:Int):ByteArray:=if size<s.size then s.extract 0 size.toNat else s++zeros (size-s.size).toNat
theorem repeat_c (c:Int) (h0:0≤c) (h1:c≤100000) (w:World):Calls Tryz.prog 245 #[.string ⟨#[0]⟩,.int .i64 c] w fun e w'=>e=.returned (.string (zeros c.toNat))∧Below w.heap.size w w':=by
 obtain ⟨k,rfl⟩:=Int.eq_ofNat_of_zero_le h0;have hz:(⟨#[0]⟩:ByteArray).size=1:=rfl;exact Tryz.strings_Repeat ⟨#[0]⟩ k w (by omega) (by rw [hz];omega)
theorem fresize_c (base g:Nat) (n:Int) (vT vO vB:Value) (tl:List SI) (ol:List O.T) (bl:List B.T) (file size:Int) (w:World) (hf:FB w base g n vT vO vB tl ol bl) (hl:bl.length≤1000) (i:Nat) (hi:i<bl.length) (hbi:bodyI bl file=i) (h0:0≤size) (h1:size≤100000) (hs:bl[i].f1.size≤100000) (hw:wfL tl=true) (hi0:0≤file) (hi1:file≤4294967295) :
  Calls Tryz.prog 165 #[.pointer (some ⟨g,0,none⟩),.int .u32 file,.int .i64 size] w fun e w'=>e=.returned (.tuple #[])∧(∃ vT',FB w' base g n vT' vO vB (resizeF tl file size).1 ol (bl.set i ⟨bl[i].f0,sizeD bl[i].f1 size⟩))∧Fr base g w w':=by
 obtain ⟨b,cap,rfl,hbb,hcap,hrow,hbg⟩:=hf.row (by omega)
 obtain ⟨A0,c0,rfl,hA0,hc0⟩:=R_open hf.rT;obtain ⟨A2,c2,rfl,-,-⟩:=R_open hf.rO;generalize ol.length=n2 at hf;obtain ⟨r,hr⟩ : ∃ r,r=sizeD bl[i].f1 size:=⟨_,rfl⟩;rw [← hr];unfold sizeD at hr;generalize hsx:bl[i].f1=s at hs hr;have HSX:=Aside0.mk hsx;have HR0:=Aside0.mk hr;clear hr hsx;have hbs:base≤w.heap.size:=by have:=blk_lt hf.heap;have:=hf.le;omega
 have HBS:=Aside0.mk hbs;have HF:=Aside0.mk hf;have HBI:=Aside0.mk hbi;have HBB:=Aside0.mk hbb;have HBG:=Aside0.mk hbg;have hu:(IntKind.u32.wrap size)=size:=by rw [IntKind.wrap_u32];omega
 have HC:=Aside0.mk (tree_Resize.calls A0 c0 tl file size (resizeF tl file size).1 (resizeF tl file size).2 w hA0 hc0 (by unfold tree_Resize.f;rw [if_pos ⟨hw,hi0,hi1⟩]))
 generalize resizeF tl file size=tr at HC ⊢;obtain ⟨t1,er⟩:=tr;obtain ⟨f0,f1,f2,f3⟩:=hf.cells;clear hf hbi hbb hrow hbg hA0 hc0 hbs hw;go_enter Tryz.func165,Tryz.ntmps165;go_upto_region 1 with (go_at_call 244;refine HC.out.mono ?_;rintro e w1 ⟨v1,rfl,ho1,hb1⟩;obtain ⟨A1,c1,rfl,-,-⟩:=R_open ho1;have HO1:=Aside0.mk (Kd.R_lower ho1 HBS.out);have HF1:=Aside0.mk (HF.out.step hb1);have HR1:=Aside0.mk (Fr.of_below (base:=base) (g:=g) hb1);have q1:=HF1.out.cells.2.1;have z1:=HF1.out.frozen 1;clear ho1 hb1 f0 f1 f2 f3)
 have HF2:=Aside0.mk (HF1.out.setT HO1.out);have HR2:=Aside0.mk (HR1.out.setG 1 (.slice A1 t1.length c1));clear HF1 HR1 HO1 q1 z1 HF HC hu;generalize w1.setCell ⟨g,1,none⟩ (.slice A1 t1.length c1)=w2 at HF2 HR2 ⊢;generalize t1.length=n1 at HF2 ⊢;have HFd:=Aside0.mk HF2.out.drew;have HRd:=Aside0.mk HR2.out.drew;clear HF2 HR2;refine rs 11 (fun w'=>w'.cell? ⟨g,0,none⟩=some (.int .u32 n)∧w'.cell? ⟨g,1,none⟩=some (.slice A1 n1 c1)∧w'.cell? ⟨g,2,none⟩=some (.slice A2 n2 c2)∧w'.cell? ⟨g,3,none⟩=some (.slice (some ⟨b,0,none⟩) bl.length cap)) [] HFd.out.cells (fun hHeld=>?_);generalize w2.drew=wd at HFd HRd hHeld ⊢;refine rp 0 (some 21) ?_;refine rp 1 (some 22) ?_;refine rp 2 (some 23) ?_;refine rt 3 (some 24) ?_;refine rp 4 (some 25) ?_;refine rp 5 (some 26) ?_;refine rt 6 (some 27) ?_;refine rp 7 (some 28) ?_;refine ro 8 (some 29) (fun K hK=>?_);refine cr Tryz.func114 #[.agg #[.int .u32 n,.slice A1 n1 c1,.slice A2 n2 c2,.slice (some ⟨b,0,none⟩) bl.length cap],.int .u32 file] ?_;refine (body_c n (.slice A1 n1 c1) (.slice A2 n2 c2) (some ⟨b,0,none⟩) cap bl file wd (Kd.R_reads' HFd.out.rB).2.2 hl ⟨_,_,_,rfl⟩ ⟨_,_,_,rfl⟩).mono ?_;rintro e wb ⟨rfl,hb⟩;refine ⟨_,rfl,?_⟩;have HFb:=Aside0.mk (HFd.out.step hb);have HRb:=Aside0.mk (HRd.out.step hb);clear hb;refine hK.out _ _ HFb.out.cells (fun hHeld=>?_);clear hK K;refine rn ?_;rw [HBI.out];clear HFd HRd;refine rp 9 (some 30) ?_;refine rp 10 (some 6) ?_;refine done_ (by kernel_rfl) ?_
 skip;have hy:=HFb.out.cellD hi;have y1:=hy.2;rw [HSX.out] at y1;have hr:=HR0.out;clear hy HR0;by_cases hso:size<(s.size:Int)
 ·rw [if_pos hso] at hr;have HR:=Aside0.mk hr;clear hr;have hz:=HFb.out.rB;obtain ⟨b',cap',cur,e,hb',hrow⟩:=B.row_of_R hz (by omega)
  obtain ⟨rfl,rfl⟩:b=b'∧cap=cap':=by injection e with e1 e2 e3;injection e1 with e1;injection e1 with e1;exact ⟨e1,e3⟩
  have z1:=blk_frozen hrow.heap (i*2+1);have HROW:=Aside0.mk hrow;clear hz hb' hrow e;go_wp2_with (fail)
  refine bodyPost_ret (results_none rfl _ _ _) rfl ⟨rfl,⟨.slice A1 n1 c1,?_⟩,HRb.out.setB HROW.out.heap HBB.out _ _⟩;rw [HR.out];exact HFb.out.setD hi HBG.out HBB.out _
 ·rw [if_neg hso] at hr;have HR:=Aside0.mk hr;clear hr;go_upto_region 4 with (fail)
  have HFc:=Aside0.mk HFb.out.drew;have HRc:=Aside0.mk HRb.out.drew;clear HFb HRb hHeld;have hwr:wrap64 (size-(s.size:Int))=size-s.size:=by unfold wrap64;omega
  refine rs 16 (fun w'=>w'.cell? ⟨b,i*2+1,none⟩=some (.string s)) [15] y1 (fun hHeld=>?_);generalize wb.drew=wc at HFc HRc hHeld ⊢;clear y1;refine rp 0 (some 47) ?_;refine rp 1 (some 48) ?_;refine rp 2 (some 49) ?_;refine rp 4 (some 51) ?_;refine rp 5 (some 52) ?_;refine rp 6 (some 53) ?_;refine rp 7 (some 54) ?_;refine rt 3 (some 50) ?_;refine rt 8 (some 55) ?_;refine rp 9 (some 56) ?_;refine pure_ (i:=10) (N:=some 57) (v:=?_) (a':=?_) (fl 16 2047) rfl rfl (by kernel_rfl) (fun _ _ _ h=>h) (Or.inl ⟨by rfl,?_⟩) ?_ ?_
  rotate_left
  ·intro w';go_simp;rw [i64_w,hwr];try with_reducible rfl
  rotate_left
  ·simp only [Act.put,List.setIfInBounds_toArray,List.set_cons_zero,List.set_cons_succ,i64_w,i32_w];rfl
  refine ro 11 (some 58) (fun K hK=>?_);refine cr Tryz.func245 #[.string ⟨#[0]⟩,.int .i64 (size-s.size)] ?_;refine (repeat_c (size-s.size) (by omega) (by omega) wc).mono ?_
  rintro e we ⟨rfl,hb⟩;refine ⟨_,rfl,?_⟩;have HFe:=Aside0.mk (HFc.out.step hb);have HRe:=Aside0.mk (HRc.out.step hb);clear hb;refine hK.out _ _ (by have:=(HFe.out.cellD hi).2;rwa [HSX.out] at this) (fun hHeld=>?_)
  clear hK K;refine rn ?_;clear HFc HRc;have hzs:=zeros_size (size-s.size).toNat;generalize zeros (size-s.size).toNat=zz at HR hzs ⊢;refine pure_ (i:=12) (N:=some 59) (v:=?_) (a':=?_) (fl 16 8191) rfl rfl (by kernel_rfl) (fun _ _ _ h=>h) (Or.inl ⟨by rfl,?_⟩) ?_ ?_
  rotate_left
  ·intro w';go_simp;rw [if_neg (by omega)]
   try with_reducible rfl
  rotate_left
  ·simp only [Act.put,List.setIfInBounds_toArray,List.set_cons_zero,List.set_cons_succ,i64_w,i32_w];rfl
  refine rp 13 (some 60) ?_;refine rp 14 (some 61) ?_;refine rl 15 none (fun K hK=>?_);obtain ⟨b',cap',cur,e,hb',hrow⟩:=B.row_of_R HFe.out.rB (by omega)
  obtain ⟨rfl,rfl⟩:b=b'∧cap=cap':=by injection e with e1 e2 e3;injection e1 with e1;injection e1 with e1;exact ⟨e1,e3⟩
  refine skip_ (by rfl) rfl (run_store_cell we 9 (.tmp 61) (.tmp 59) rfl b (i*2+1) (.string r) cur 87 rfl (by rw [HR.out];rfl) hrow.heap (by have:=hrow.size;omega) (by kernel_rfl) rfl rfl) ?_
  refine hK.out _ _ ?_;clear hK K;refine done_ (by kernel_rfl) ?_
  skip;refine bodyPost_end (results_none rfl _ _ _) rfl ⟨rfl,⟨_,HFe.out.setD hi HBG.out HBB.out r⟩,HRe.out.setB hrow.heap HBB.out _ _⟩
end Go.Proofs.YtikjfekagdcjmaaGreatDoor.Q
