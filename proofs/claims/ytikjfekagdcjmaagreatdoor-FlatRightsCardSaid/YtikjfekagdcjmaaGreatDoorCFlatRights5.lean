/- Contracts and plain theory behind FlatRights. -/
import Derived.Shelf.Strings.Builder1
import Derived.Shelf.Strings.Builder2
import Derived.Shelf.Strings.OnBuilder
import Derived.Shelf.Small.Utf8
import Derived.Shelf.Small.Bits
import Derived.Shelf.Small.Strs
import Derived.Shelf.Strings.BuilderF
import Derived.Shelf.Utf8.RuneCount
import Derived.Shelf.Strconv.Itoa0
import Derived.Shelf.Strings.Search1
import Derived.Shelf.Strings.Search2
import Derived.Shelf.Strings.Search3
import Derived.Shelf.Strings.Count
import Derived.Shelf.LaysM
import Derived.Shelf.Strings.Shaped
import Derived.Shelf.Strings.Prefix
import Derived.Shelf.Strings.Split
import Derived.Shelf.Strings.SplitShaped
import Derived.Shelf.Unicode.Decode
import Derived.Shelf.Strings.Runes
import Derived.Shelf.Strings.RuneCount
import Derived.Shelf.Strings.AsciiSet
import Derived.Shelf.Strings.Explode
import Derived.Shelf.Bits.Mul64
import Derived.Shelf.Strings.Repeat
import Derived.Shelf.Unicode.DecodeSlow
import Derived.Shelf.Unicode.DecodeAny
import Derived.Shelf.Unicode.DecodeLast
import Derived.Ground.Names2Prog
import Derived.Shelf.Slices.SearchI
import Derived.Test.YtikjfekagdcjmaaGreatDoorProg
import Derived.Outline
import Derived.BigQuiet
import Derived.Deep.QuietTactic
import Derived.Test.YtikjfekagdcjmaaGreatDoorCFlatRights2
import Derived.Test.YtikjfekagdcjmaaGreatDoorCFlatRights3
import Derived.Test.YtikjfekagdcjmaaGreatDoorCFlatRights4
set_option linter.unusedVariables false
set_option linter.unusedSimpArgs false
set_option maxHeartbeats 16000000
set_option maxRecDepth 100000
namespace Go.Proofs.YtikjfekagdcjmaaGreatDoor.Q
open Go.RowKit Go.Proofs.YtikjfekagdcjmaaGreatDoorW.PrintWords Go.Proofs.YtikjfekagdcjmaaGreatDoorW.PrintLast
abbrev I6:=Int×Int×ByteArray×Bool×Int×Bool
def toI6:Option S43→I6
 | some x=>(x.f0,x.f1,x.f2,x.f3,x.f4,true)
 | none=>(0,0,⟨#[]⟩,false,0,false)
theorem wrap_in {i:Int} (h0 : -9223372036854775808≤i) (h:i≤9223372036854775807):wrap64 i=i:=by unfold wrap64;omega
theorem drop34 (l:List S43) (i:Nat) (h:i<l.length):l.drop i=rd_T43 l (i:Int)::l.drop (i+1):=by
 rw [List.drop_eq_getElem_cons h];simp [rd_T43,List.getD_eq_getElem?_getD,List.getElem?_eq_getElem h]
theorem rd43_get (l:List S43) (i:Nat) (h:i<l.length):rd_T43 l (i:Int)=l[i]:=by
 simp [rd_T43,List.getD_eq_getElem?_getD,List.getElem?_eq_getElem h]
def isKid (d:Int) (x:S43):Bool:=x.f1 == d&&!(x.f0 == 1)
def kidI (l:List S43) (d:Int) (nm:ByteArray):Option S43:=l.find? (fun x=>isKid d x&&x.f2.toList == nm.toList)
theorem kid_loop (l:List S43) (hl:l.length≤maxLen) (d:Int) (nm:ByteArray) : ∀ (n k i:Nat),i+n=l.length→n<k→tree_kid.l0 k d nm l (l.length:Int) (i:Int)=some (toI6 ((l.drop i).find? (fun x=>isKid d x&&x.f2.toList == nm.toList))):=by
 unfold maxLen at hl;intro n;induction n with
 | zero =>
  intro k i hi hk;obtain ⟨k,rfl⟩ : ∃ m,k=m+1:=⟨k-1,by omega⟩
  simp only [tree_kid.l0];rw [if_neg (by omega),List.drop_eq_nil_of_le (by omega)]
  rfl
 | succ n ih =>
  intro k i hi hk;obtain ⟨k,rfl⟩ : ∃ m,k=m+1:=⟨k-1,by omega⟩
  simp only [tree_kid.l0];rw [if_pos (by omega),if_pos (by omega),if_pos (by omega),drop34 l i (by omega),wrap_in (by omega) (by omega)]
  have hi':=ih k (i+1) (by omega) (by omega)
  rw [show (((i+1:Nat)):Int)=(i:Int)+1 by omega] at hi'
  rw [hi',List.find?_cons];generalize rd_T43 l (i:Int)=x;by_cases h1:x.f1=d
  ·rw [if_pos h1];by_cases h2:x.f2.toList=nm.toList
   ·rw [if_pos h2];by_cases h3:x.f0=1
    ·rw [if_pos h3];have:(isKid d x&&x.f2.toList == nm.toList)=false:=by simp [isKid,h3]
     rw [this]
    ·rw [if_neg h3];have:(isKid d x&&x.f2.toList == nm.toList)=true:=by simp [isKid,h1,h2,h3]
     rw [this];rfl
   ·rw [if_neg h2];have:(isKid d x&&x.f2.toList == nm.toList)=false:=by simp [h2]
    rw [this]
  ·rw [if_neg h1];have:(isKid d x&&x.f2.toList == nm.toList)=false:=by simp [isKid,h1]
   rw [this]
theorem kid_f (l:List S43) (hl:l.length≤maxLen) (d:Int) (nm:ByteArray) (k:Nat) (hk:l.length<k):tree_kid.f k l d nm=some (toI6 (kidI l d nm)):=by
 unfold tree_kid.f;exact kid_loop l hl d nm l.length k 0 (by omega) hk
def kidsI (l:List S43) (d:Int):List S43:=l.filter (isKid d)
theorem kids_loop (l:List S43) (hl:l.length≤1000) (d:Int) : ∀ (n k i:Nat) (acc:List S43),i+n=l.length→n<k→acc.length≤i→tree_kids.l0 k d acc l (l.length:Int) (i:Int)=some (acc++(l.drop i).filter (isKid d)):=by
 intro n;induction n with
 | zero =>
  intro k i acc hi hk ha;obtain ⟨k,rfl⟩ : ∃ m,k=m+1:=⟨k-1,by omega⟩
  simp only [tree_kids.l0];rw [if_neg (by omega),List.drop_eq_nil_of_le (by omega),List.filter_nil,List.append_nil]
 | succ n ih =>
  intro k i acc hi hk ha;obtain ⟨k,rfl⟩ : ∃ m,k=m+1:=⟨k-1,by omega⟩
  simp only [tree_kids.l0];rw [if_pos (by omega),if_pos (by omega),if_pos (by omega),drop34 l i (by omega),wrap_in (by omega) (by omega)]
  have hi1:=ih k (i+1) acc (by omega) (by omega) (by omega)
  have hi2:=ih k (i+1) (acc++[rd_T43 l (i:Int)]) (by omega) (by omega) (by simp;omega)
  rw [show (((i+1:Nat)):Int)=(i:Int)+1 by omega] at hi1 hi2
  rw [List.filter_cons];generalize rd_T43 l (i:Int)=x at hi2 ⊢;by_cases h1:x.f1=d
  ·rw [if_pos h1];by_cases h3:x.f0=1
   ·rw [if_pos h3,hi1,if_neg (show ¬ isKid d x=true by simp [isKid,h3])]
   ·rw [if_neg h3,if_pos (show acc.length<4398046511104 by omega),if_pos (show isKid d x=true by simp [isKid,h1,h3])]
    rw [show (⟨x.f0,x.f1,x.f2,x.f3,x.f4⟩:S43)=x from rfl,hi2]
    simp
  ·rw [if_neg h1,hi1,if_neg (show ¬ isKid d x=true by simp [isKid,h1])]
theorem kids_f (l:List S43) (hl:l.length≤1000) (d:Int) (k:Nat) (hk:l.length<k):tree_kids.f k l d=some (kidsI l d):=by
 unfold tree_kids.f;rw [show (0:Int)=((0:Nat):Int) from rfl,kids_loop l hl d l.length k 0 [] (by omega) hk (by simp)]
 rfl
def wfI (x:S43):Bool:=decide (0≤x.f0)&&decide (x.f0≤4294967295)&&decide (0≤x.f1)&&decide (x.f1≤4294967295)&&decide (0≤x.f4)&&decide (x.f4≤4294967295)
theorem wfI_iff (x:S43):wfI x=true↔0≤x.f0∧x.f0≤4294967295∧0≤x.f1∧x.f1≤4294967295∧0≤x.f4∧x.f4≤4294967295:=by
 simp only [wfI,Bool.and_eq_true,decide_eq_true_eq];constructor
 ·intro ⟨⟨⟨⟨⟨a,b⟩,c⟩,d⟩,e⟩,f⟩;exact ⟨a,b,c,d,e,f⟩
 ·intro ⟨a,b,c,d,e,f⟩;exact ⟨⟨⟨⟨⟨a,b⟩,c⟩,d⟩,e⟩,f⟩
theorem get_f (l:List S43) (id:Int) (hl:l.length≤1000) (h0:0≤id) (h1:id≤4294967295) (hup:upB (-1) l=true):tree_get.f l id=some (toI6 (findI l id)):=by
 unfold tree_get.f getDom;rw [decide_eq_true hl,decide_eq_true h0,decide_eq_true h1,hup,if_pos (by rfl)]
 cases findI l id <;> rfl
theorem findI_mem {l:List S43} {id:Int} {x:S43} (h:findI l id=some x):x∈l∧x.f0=id:=by
 unfold findI at h;exact ⟨List.mem_of_find?_eq_some h,by have:=List.find?_some h;simpa using this⟩
def depthI (l:List S43):Nat→Int→Int→Int
 | 0,_,_=>-1
 | m+1,n,id=>if id=1 then n else match findI l id with
  | some p=>depthI l m (n+1) p.f1
  | none=>-1
theorem depth_loop (l:List S43) (hl:l.length≤1000) (hup:upB (-1) l=true) (hw : ∀ x∈l,wfI x=true) : ∀ (m k:Nat) (n id:Int),n=7-(m:Int)→m≤7→m<k→0≤id→id≤4294967295→tree_depth.l0 k l id n=some (depthI l m n id):=by
 intro m;induction m with
 | zero =>
  intro k n id hn hm hk h0 h1;obtain ⟨k,rfl⟩ : ∃ m,k=m+1:=⟨k-1,by omega⟩
  simp only [tree_depth.l0];rw [if_neg (by omega)]
  rfl
 | succ m ih =>
  intro k n id hn hm hk h0 h1;obtain ⟨k,rfl⟩ : ∃ m,k=m+1:=⟨k-1,by omega⟩
  simp only [tree_depth.l0,depthI];rw [if_pos (by omega)]
  by_cases h2:id=1
  ·rw [if_pos h2,if_pos h2]
  ·rw [if_neg h2,if_neg h2,get_f l id hl h0 h1 hup];cases hf:findI l id with
   | none=>rfl
   | some p =>
    have hp:=(wfI_iff p).1 (hw p (findI_mem hf).1);show (if true=true then tree_depth.l0 k l p.f1 (wrap64 (n+1)) else some (-1))=some (depthI l m (n+1) p.f1)
    rw [if_pos rfl,wrap_in (by omega) (by omega)]
    exact ih k (n+1) p.f1 (by omega) (by omega) (by omega) hp.2.2.1 hp.2.2.2.1
theorem depth_f (l:List S43) (hl:l.length≤1000) (hup:upB (-1) l=true) (hw : ∀ x∈l,wfI x=true) (k:Nat) (hk:7<k) (id:Int) (h0:0≤id) (h1:id≤4294967295):tree_depth.f k l id=some (depthI l 7 0 id):=by
 unfold tree_depth.f;exact depth_loop l hl hup hw 7 k 0 id (by omega) (by omega) hk h0 h1
end Go.Proofs.YtikjfekagdcjmaaGreatDoor.Q
namespace Go.Proofs
open Go.Shelf
def Tryz.lays119_ren:Go.Shelf.Ren:=⟨fun|119=>323|n=>n,fun|21=>21|4=>4|n=>n,fun|n=>n⟩
theorem Tryz.lays119:Go.Proofs.Lays.n119 Tryz.prog Tryz.lays119_ren:={
 mixed:=by kernel_rfl
 f119:=Tryz.func323.trans (congrArg some (by kernel_rfl))
 t4:=Tryz.underlying4
 a4:=Tryz.isAgg4
 z4:=Tryz.sizeOf4
 v4:=Tryz.zeroValue4
 t21:=Tryz.underlying21
 a21:=Tryz.isAgg21
 z21:=Tryz.sizeOf21
 v21:=Tryz.zeroValue21 }
theorem Tryz.utf8_ValidRune (r:Int) (w:World) :
  Calls Tryz.prog 323 #[.int .i32 r] w fun e w'=>e=.returned (.bool (Lib.validRune r))∧w'=w:=Any.utf8_ValidRune Tryz.lays119 r w
def Tryz.lays137_ren:Go.Shelf.Ren:=⟨fun|137=>322|217=>352|266=>364|n=>n,fun|9=>9|5=>5|3=>3|n=>n,fun|n=>n⟩
theorem Tryz.lays137:Go.Proofs.Lays.n137 Tryz.prog Tryz.lays137_ren:={
 mixed:=by kernel_rfl
 f137:=Tryz.func322.trans (congrArg some (by kernel_rfl))
 f217:=Tryz.func352.trans (congrArg some (by kernel_rfl))
 f266:=Tryz.func364.trans (congrArg some (by kernel_rfl))
 t3:=Tryz.underlying3
 a3:=Tryz.isAgg3
 z3:=Tryz.sizeOf3
 v3:=Tryz.zeroValue3
 t5:=Tryz.underlying5
 a5:=Tryz.isAgg5
 z5:=Tryz.sizeOf5
 v5:=Tryz.zeroValue5
 t9:=Tryz.underlying9
 a9:=Tryz.isAgg9
 z9:=Tryz.sizeOf9
 v9:=Tryz.zeroValue9 }
open Go.RowKit in
theorem Tryz.strings_IndexByte (s:ByteArray) (c:Int) (w:World) :
  Calls Tryz.prog 322 #[.string s,.int .u8 c] w fun e w'=>e=.returned (.int .i64 (Lib.indexByte s.data.toList c.toNat.toUInt8))∧w'=w:=Any.strings_IndexByte Tryz.lays137 s c w
def Tryz.lays143_ren:Go.Shelf.Ren:=⟨fun|143=>351|219=>363|217=>352|225=>325|224=>324|267=>368|266=>364|314=>369|n=>n,fun|9=>9|3=>3|4=>4|5=>5|46=>223|146=>387|51=>24|n=>n,fun|1=>0|n=>n⟩
theorem Tryz.lays143:Go.Proofs.Lays.n143 Tryz.prog Tryz.lays143_ren:={
 mixed:=by kernel_rfl
 f143:=Tryz.func351.trans (congrArg some (by kernel_rfl))
 f217:=Tryz.func352.trans (congrArg some (by kernel_rfl))
 f219:=Tryz.func363.trans (congrArg some (by kernel_rfl))
 f224:=Tryz.func324.trans (congrArg some (by kernel_rfl))
 f225:=Tryz.func325.trans (congrArg some (by kernel_rfl))
 f266:=Tryz.func364.trans (congrArg some (by kernel_rfl))
 f267:=Tryz.func368.trans (congrArg some (by kernel_rfl))
 f314:=Tryz.func369.trans (congrArg some (by kernel_rfl))
 t3:=Tryz.underlying3
 a3:=Tryz.isAgg3
 z3:=Tryz.sizeOf3
 v3:=Tryz.zeroValue3
 t4:=Tryz.underlying4
 a4:=Tryz.isAgg4
 z4:=Tryz.sizeOf4
 v4:=Tryz.zeroValue4
 t5:=Tryz.underlying5
 a5:=Tryz.isAgg5
 z5:=Tryz.sizeOf5
 v5:=Tryz.zeroValue5
 t9:=Tryz.underlying9
 a9:=Tryz.isAgg9
 z9:=Tryz.sizeOf9
 v9:=Tryz.zeroValue9
 t46:=Tryz.underlying223
 a46:=Tryz.isAgg223
 z46:=Tryz.sizeOf223
 v46:=Tryz.zeroValue223
 t51:=Tryz.underlying24
 a51:=Tryz.isAgg24
 z51:=Tryz.sizeOf24
 v51:=Tryz.zeroValue24
 t146:=Tryz.underlying387
 a146:=Tryz.isAgg387
 z146:=Tryz.sizeOf387
 v146:=Tryz.zeroValue387
 g1:=by kernel_rfl }
open Go.RowKit Go.Lib in
theorem Tryz.strings_Index_one (s:ByteArray) (c:UInt8) (w:World) :
  Calls Tryz.prog 351 #[.string s,.string ⟨#[c]⟩] w fun e w'=>e=.returned (.int .i64 (Lib.indexByte s.data.toList c))∧w'=w:=Any.strings_Index_one Tryz.lays143 s c w
def Tryz.lays138_ren:Go.Shelf.Ren:=⟨fun|138=>350|195=>361|218=>362|143=>351|219=>363|217=>352|225=>325|224=>324|267=>368|266=>364|314=>369|n=>n,fun|9=>9|3=>3|4=>4|5=>5|0=>0|46=>223|146=>387|51=>24|n=>n,fun|1=>0|n=>n⟩
theorem Tryz.lays138:Go.Proofs.Lays.n138 Tryz.prog Tryz.lays138_ren:={
 mixed:=by kernel_rfl
 f138:=Tryz.func350.trans (congrArg some (by kernel_rfl))
 f143:=Tryz.func351.trans (congrArg some (by kernel_rfl))
 f195:=Tryz.func361.trans (congrArg some (by kernel_rfl))
 f217:=Tryz.func352.trans (congrArg some (by kernel_rfl))
 f218:=Tryz.func362.trans (congrArg some (by kernel_rfl))
 f219:=Tryz.func363.trans (congrArg some (by kernel_rfl))
 f224:=Tryz.func324.trans (congrArg some (by kernel_rfl))
 f225:=Tryz.func325.trans (congrArg some (by kernel_rfl))
 f266:=Tryz.func364.trans (congrArg some (by kernel_rfl))
 f267:=Tryz.func368.trans (congrArg some (by kernel_rfl))
 f314:=Tryz.func369.trans (congrArg some (by kernel_rfl))
 t0:=Tryz.underlying0
 a0:=Tryz.isAgg0
 z0:=Tryz.sizeOf0
 v0:=Tryz.zeroValue0
 t3:=Tryz.underlying3
 a3:=Tryz.isAgg3
 z3:=Tryz.sizeOf3
 v3:=Tryz.zeroValue3
 t4:=Tryz.underlying4
 a4:=Tryz.isAgg4
 z4:=Tryz.sizeOf4
 v4:=Tryz.zeroValue4
 t5:=Tryz.underlying5
 a5:=Tryz.isAgg5
 z5:=Tryz.sizeOf5
 v5:=Tryz.zeroValue5
 t9:=Tryz.underlying9
 a9:=Tryz.isAgg9
 z9:=Tryz.sizeOf9
 v9:=Tryz.zeroValue9
 t46:=Tryz.underlying223
 a46:=Tryz.isAgg223
 z46:=Tryz.sizeOf223
 v46:=Tryz.zeroValue223
 t51:=Tryz.underlying24
 a51:=Tryz.isAgg24
 z51:=Tryz.sizeOf24
 v51:=Tryz.zeroValue24
 t146:=Tryz.underlying387
 a146:=Tryz.isAgg387
 z146:=Tryz.sizeOf387
 v146:=Tryz.zeroValue387
 g1:=by kernel_rfl }
open Go.RowKit Go.Lib in
theorem Tryz.strings_Count_one (s:ByteArray) (c:UInt8) (w:World) :
  Calls Tryz.prog 350 #[.string s,.string ⟨#[c]⟩] w fun e w'=>e=.returned (.int .i64 (Lib.countByte s.data.toList c))∧w'=w:=Any.strings_Count_one Tryz.lays138 s c w
def Tryz.lays221_ren:Go.Shelf.Ren:=⟨fun|221=>320|268=>349|138=>350|143=>351|195=>361|197=>308|218=>362|219=>363|260=>327|217=>352|225=>325|224=>324|267=>368|266=>364|314=>369|n=>n,fun|9=>9|3=>3|31=>198|4=>4|0=>0|105=>379|21=>21|5=>5|46=>223|119=>414|139=>417|138=>416|146=>387|51=>24|n=>n,fun|1=>0|3=>1|4=>2|n=>n⟩
theorem Tryz.lays221:Go.Proofs.Lays.n221 Tryz.prog Tryz.lays221_ren:={
 mixed:=by kernel_rfl
 f138:=Tryz.func350.trans (congrArg some (by kernel_rfl))
 f143:=Tryz.func351.trans (congrArg some (by kernel_rfl))
 f195:=Tryz.func361.trans (congrArg some (by kernel_rfl))
 f197:=Tryz.func308.trans (congrArg some (by kernel_rfl))
 f217:=Tryz.func352.trans (congrArg some (by kernel_rfl))
 f218:=Tryz.func362.trans (congrArg some (by kernel_rfl))
 f219:=Tryz.func363.trans (congrArg some (by kernel_rfl))
 f221:=Tryz.func320.trans (congrArg some (by kernel_rfl))
 f224:=Tryz.func324.trans (congrArg some (by kernel_rfl))
 f225:=Tryz.func325.trans (congrArg some (by kernel_rfl))
 f260:=Tryz.func327.trans (congrArg some (by kernel_rfl))
 f266:=Tryz.func364.trans (congrArg some (by kernel_rfl))
 f267:=Tryz.func368.trans (congrArg some (by kernel_rfl))
 f268:=Tryz.func349.trans (congrArg some (by kernel_rfl))
 f314:=Tryz.func369.trans (congrArg some (by kernel_rfl))
 t0:=Tryz.underlying0
 a0:=Tryz.isAgg0
 z0:=Tryz.sizeOf0
 v0:=Tryz.zeroValue0
 t3:=Tryz.underlying3
 a3:=Tryz.isAgg3
 z3:=Tryz.sizeOf3
 v3:=Tryz.zeroValue3
 t4:=Tryz.underlying4
 a4:=Tryz.isAgg4
 z4:=Tryz.sizeOf4
 v4:=Tryz.zeroValue4
 t5:=Tryz.underlying5
 a5:=Tryz.isAgg5
 z5:=Tryz.sizeOf5
 v5:=Tryz.zeroValue5
 t9:=Tryz.underlying9
 a9:=Tryz.isAgg9
 z9:=Tryz.sizeOf9
 v9:=Tryz.zeroValue9
 t21:=Tryz.underlying21
 a21:=Tryz.isAgg21
 z21:=Tryz.sizeOf21
 v21:=Tryz.zeroValue21
 t31:=Tryz.underlying198
 a31:=Tryz.isAgg198
 z31:=Tryz.sizeOf198
 v31:=Tryz.zeroValue198
 t46:=Tryz.underlying223
 a46:=Tryz.isAgg223
 z46:=Tryz.sizeOf223
 v46:=Tryz.zeroValue223
 t51:=Tryz.underlying24
 a51:=Tryz.isAgg24
 z51:=Tryz.sizeOf24
 v51:=Tryz.zeroValue24
 t105:=Tryz.underlying379
 a105:=Tryz.isAgg379
 z105:=Tryz.sizeOf379
 v105:=Tryz.zeroValue379
 t119:=Tryz.underlying414
 a119:=Tryz.isAgg414
 z119:=Tryz.sizeOf414
 t138:=Tryz.underlying416
 a138:=Tryz.isAgg416
 z138:=Tryz.sizeOf416
 v138:=Tryz.zeroValue416
 t139:=Tryz.underlying417
 a139:=Tryz.isAgg417
 z139:=Tryz.sizeOf417
 v139:=Tryz.zeroValue417
 t146:=Tryz.underlying387
 a146:=Tryz.isAgg387
 z146:=Tryz.sizeOf387
 v146:=Tryz.zeroValue387
 g1:=by kernel_rfl
 g3:=by kernel_rfl
 g4:=by kernel_rfl }
def Tryz.lays151_ren:Go.Shelf.Ren:=⟨fun|151=>260|152=>301|137=>322|119=>323|224=>324|225=>325|217=>352|266=>364|n=>n,fun|9=>9|21=>21|4=>4|3=>3|5=>5|0=>0|46=>223|n=>n,fun|n=>n⟩
theorem Tryz.lays151:Go.Proofs.Lays.n151 Tryz.prog Tryz.lays151_ren:={
 mixed:=by kernel_rfl
 f119:=Tryz.func323.trans (congrArg some (by kernel_rfl))
 f137:=Tryz.func322.trans (congrArg some (by kernel_rfl))
 f151:=Tryz.func260.trans (congrArg some (by kernel_rfl))
 f152:=Tryz.func301.trans (congrArg some (by kernel_rfl))
 f217:=Tryz.func352.trans (congrArg some (by kernel_rfl))
 f224:=Tryz.func324.trans (congrArg some (by kernel_rfl))
 f225:=Tryz.func325.trans (congrArg some (by kernel_rfl))
 f266:=Tryz.func364.trans (congrArg some (by kernel_rfl))
 t0:=Tryz.underlying0
 a0:=Tryz.isAgg0
 z0:=Tryz.sizeOf0
 v0:=Tryz.zeroValue0
 t3:=Tryz.underlying3
 a3:=Tryz.isAgg3
 z3:=Tryz.sizeOf3
 v3:=Tryz.zeroValue3
 t4:=Tryz.underlying4
 a4:=Tryz.isAgg4
 z4:=Tryz.sizeOf4
 v4:=Tryz.zeroValue4
 t5:=Tryz.underlying5
 a5:=Tryz.isAgg5
 z5:=Tryz.sizeOf5
 v5:=Tryz.zeroValue5
 t9:=Tryz.underlying9
 a9:=Tryz.isAgg9
 z9:=Tryz.sizeOf9
 v9:=Tryz.zeroValue9
 t21:=Tryz.underlying21
 a21:=Tryz.isAgg21
 z21:=Tryz.sizeOf21
 v21:=Tryz.zeroValue21
 t46:=Tryz.underlying223
 a46:=Tryz.isAgg223
 z46:=Tryz.sizeOf223
 v46:=Tryz.zeroValue223 }
open Go.RowKit Go.Lib in
theorem Tryz.strings_ContainsRune_ascii (s:ByteArray) (r:Int) (w:World) (h0:0≤r) (h1:r<128) :
  Calls Tryz.prog 260 #[.string s,.int .i32 r] w fun e w'=>e=.returned (.bool (decide (0≤Lib.indexByte s.data.toList r.toNat.toUInt8)))∧w'=w:=Any.strings_ContainsRune_ascii Tryz.lays151 s r w h0 h1
end Go.Proofs
namespace Go.Proofs.YtikjfekagdcjmaaGreatDoor.Q
open Go.RowKit Go.Proofs.YtikjfekagdcjmaaGreatDoorW.PrintWords Go.Proofs.YtikjfekagdcjmaaGreatDoorW.PrintLast Go.Proofs.YtikjfekagdcjmaaGreatDoorW.PrintMore
def abc:ByteArray:=⟨#[97,98,99,100,101,102,103,104,105,106,107,108,109,110,111,112,113,114,115,116,117,118,119,120,121,122,48,49,50,51,52,53,54,55,56,57,46,95,45]⟩
theorem enc_all:(List.range 128).all (fun n=>(Utf8.encode (128+(n:Int))).size == 2&&decide (128≤bt (Utf8.encode (128+(n:Int))) 1))=true:=by kernel_rfl
theorem enc_hi (r:Int) (h0:128≤r) (h1:r<256):(Utf8.encode r).size=2∧128≤bt (Utf8.encode r) 1:=by
 have h:=List.all_eq_true.1 enc_all (r-128).toNat (List.mem_range.2 (by omega))
 rw [show (128+(((r-128).toNat:Nat):Int))=r by omega] at h
 simp only [Bool.and_eq_true,beq_iff_eq,decide_eq_true_eq] at h;exact h
theorem none_all:(List.range 128).all (fun n=>Lib.indexByte (List.take 37 (List.drop 2 abc.data.toList)) (n+128).toUInt8 == -1)=true:=by kernel_rfl
theorem none_hi (c:UInt8) (h0:128≤c.toNat):Lib.indexByte (List.take 37 (List.drop 2 abc.data.toList)) c = -1:=by
 have h1:=UInt8.toNat_lt c;have h:=List.all_eq_true.1 none_all (c.toNat-128) (List.mem_range.2 (by omega))
 rw [show c.toNat-128+128=c.toNat by omega] at h
 have h2:=eq_of_beq h;rwa [show c.toNat.toUInt8=c by simp] at h2
theorem idx_hi (r:Int) (w:World) (h0:128≤r) (h1:r<256) :
  Calls Tryz.prog 301 #[.string abc,.int .i32 r] w fun e w'=>e=.returned (.int .i64 (-1))∧Drawn0 w w':=by
 go_enter Tryz.func301,Tryz.ntmps301;go_wp2_with (first|(go_at_call 323;refine (Tryz.utf8_ValidRune _ _).mono ?_;rintro e w' ⟨rfl,rfl⟩)|(go_at_call 322;refine (Tryz.strings_IndexByte _ _ _).mono ?_;rintro e w' ⟨rfl,rfl⟩))
 ·go_ret
  exact ⟨rfl,Drawn0.refl _⟩
 ·go_wp2_with (go_at_call 322;refine (Tryz.strings_IndexByte _ _ _).mono ?_;rintro e w' ⟨rfl,rfl⟩)
  obtain ⟨e1,e2⟩:=enc_hi r h0 h1;generalize hE:Utf8.encode r=E at e1 e2;go_step3
  go_wp2_with (fail)
  have hw1:wrap64 (((E.size:Nat):Int)-1)=1:=by rw [e1];kernel_rfl
  try simp only [hw1]
  have habc:abc.size=39:=rfl;have hE1:1<E.size:=by omega
  have e3:128≤(E[1]'hE1).toNat:=by have:=e2;rw [bt,dif_pos (show ((1:Int).toNat)<E.size from hE1)] at this;exact Int.ofNat_le.1 this
  have e4:(((abc[1]'(by decide)).toNat:Int) != ((E[1]'hE1).toNat:Int))=true:=bne_iff_ne.2 (by have h9:(abc[1]'(by decide)).toNat=98:=rfl;rw [h9];omega)
  have e5:Lib.indexByte (List.take 37 (List.drop 2 abc.data.toList)) (E[1]'hE1) = -1:=none_hi _ e3;have hw2:IntKind.i64.wrap 2=2:=by kernel_rfl
  clear e2;go_loopw [9,10] (fun v9 v10 wr=>v9=.int .i64 1∧v10=.int .i64 0∧Aside0 (Drawn0 w' wr)) (fun _ _ _=>0)
  case atStart=>exact ⟨rfl,rfl,⟨Drawn0.refl _⟩⟩
  case round =>
   obtain ⟨rfl,rfl,HB⟩:=hrel;go_wp2_with (go_at_call 322;refine (Tryz.strings_IndexByte _ _ _).mono ?_;rintro e w' ⟨rfl,rfl⟩)
   go_step3
   go_wp2_with (go_at_call 322;refine (Tryz.strings_IndexByte _ _ _).mono ?_;rintro e w' ⟨rfl,rfl⟩)
   go_quiet ((fail))
   go_wp2_with (fail)
   have HB5:=Aside0.mk (HB.out.step nq);clear HB;generalize wr.drewN nq=w5 at HB5 ⊢;go_quiet ((go_at_call 322;exact Calls.quiet_of_same (Tryz.strings_IndexByte _ _ _)))
   go_wp2_with (fail)
   change bodyPost Tryz.prog Tryz.f301 (fun e w'_1=>e=.returned (.int .i64 (-1))∧Drawn0 w' w'_1) .ret _ _
   go_ret
   exact ⟨rfl,HB5.out.step _⟩
def nameC (c:Int):Bool:=decide (0≤Lib.indexByte abc.data.toList c.toNat.toUInt8)
theorem nameC_all:(List.range 128).all (fun n=>nameC (128+(n:Int)) == false)=true:=by kernel_rfl
theorem nameC_hi (c:Int) (h0:128≤c) (h1:c<256):nameC c=false:=by
 have h:=List.all_eq_true.1 nameC_all (c-128).toNat (List.mem_range.2 (by omega))
 rw [show (128+(((c-128).toNat:Nat):Int))=c by omega] at h
 exact eq_of_beq h
theorem contains.calls (r:Int) (w:World) (h0:0≤r) (h1:r<256) :
  Calls Tryz.prog 260 #[.string abc,.int .i32 r] w fun e w'=>e=.returned (.bool (nameC r))∧Drawn0 w w':=by
 rcases Int.lt_or_le r 128 with h|h
 ·exact (Tryz.strings_ContainsRune_ascii abc r w h0 h).mono fun e w' ⟨he,hw⟩=>⟨he,by rw [hw];exact Drawn0.refl _⟩
 ·rw [nameC_hi r h h1];go_enter Tryz.func260,Tryz.ntmps260;go_wp2_with (go_at_call 301;refine (idx_hi r _ h h1).mono ?_;rintro e w' ⟨rfl,hb⟩)
  go_ret
  exact ⟨rfl,hb⟩
def isNameB (s:ByteArray):Bool:=decide (1≤s.size)&&decide (s.size≤8)&&!(s.toList == [46])&&!(s.toList == [46,46])&&(List.range s.size).all (fun i=>nameC (bt s (i:Int)))
def tree_isName.f (s:ByteArray):Option Bool:=some (isNameB s)
theorem drawn0_trans {w w1 w2:World} (h:Drawn0 w w1) (h2:Drawn0 w1 w2):Drawn0 w w2:=by
 obtain ⟨n,rfl⟩:=h2.out;exact h.step n
theorem tree_isName.calls (s:ByteArray) (r:Bool) (w:World) (h:tree_isName.f s=some r) :
  Calls Tryz.prog 188 #[.string s] w fun e w'=>e=.returned (.bool r)∧Drawn0 w w':=by
 cases h
 by_cases H:1≤s.size∧s.size≤8∧(s.toList == [46])=false∧(s.toList == [46,46])=false
 ·obtain ⟨h1,h2,h3,h4⟩:=H;have hf:isNameB s=(List.range s.size).all (fun i=>nameC (bt s (i:Int))):=by
   unfold isNameB;rw [decide_eq_true h1,decide_eq_true h2,h3,h4];rfl
  have g1 : ¬ ((s.size:Nat):Int)<1:=by omega
  have g2 : ¬ 8<((s.size:Nat):Int):=by omega
  go_enter Tryz.func188,Tryz.ntmps188;go_wp2_with (fail)
  go_loopw [22] (fun v22 wr=>∃ i:Nat,i≤s.size∧v22=.int .i64 i∧Aside0 (∀ j:Nat,j<i→nameC (bt s (j:Int))=true)∧Aside0 (Drawn0 w wr)) (fun v22 _=>s.size-(intOf v22).toNat)
  case atStart=>exact ⟨0,Nat.zero_le _,rfl,⟨fun j hj=>by omega⟩,⟨Drawn0.refl _⟩⟩
  case round =>
   obtain ⟨i,hi,rfl,HN,HB⟩:=hrel;by_cases hlt:i<s.size
   ·have hbt:bt s (i:Int)=((s[i]'hlt).toNat:Int):=by rw [bt,dif_pos (show ((i:Int).toNat)<s.size by simpa using hlt)];simp
    have hr1:=UInt8.toNat_lt (s[i]'hlt);go_wp2_with (go_at_call 260;refine (contains.calls ((s[i]'hlt).toNat:Int) _ (by omega) (by omega)).mono ?_;rintro e w' ⟨rfl,hb⟩)
    ·have hn:(!nameC ((s[i]'hlt).toNat:Int))=true:=by assumption
     have hf2:isNameB s=false:=by
      rw [hf,Bool.eq_false_iff];intro hc;have h9:=List.all_eq_true.1 hc i (List.mem_range.2 hlt);rw [hbt] at h9;rw [h9] at hn;cases hn
     rw [hf2];go_ret
     exact ⟨rfl,drawn0_trans HB.out hb⟩
    ·have hn:(!nameC ((s[i]'hlt).toNat:Int))=false:=by assumption
     refine ⟨⟨i+1,by omega,by go_num,⟨fun j hj=>?_⟩,⟨drawn0_trans HB.out hb⟩⟩,by simp [intOf];omega⟩
     rcases Nat.lt_or_ge j i with h5|h5
     ·exact HN.out j h5
     ·obtain rfl:j=i:=by omega
      rw [hbt];simpa using hn
   ·obtain rfl:i=s.size:=by omega
    have hf2:isNameB s=true:=by
     rw [hf,List.all_eq_true];intro j hj;exact HN.out j (List.mem_range.1 hj)
    go_wp2_with (fail)
    rw [hf2];go_ret
    exact ⟨rfl,HB.out⟩
 ·have hf:isNameB s=false:=by
   unfold isNameB;rw [Bool.eq_false_iff];intro hc;simp only [Bool.and_eq_true,decide_eq_true_eq,Bool.not_eq_true'] at hc;exact H ⟨hc.1.1.1.1,hc.1.1.1.2,hc.1.1.2,hc.1.2⟩
  rw [hf];go_enter Tryz.func188,Tryz.ntmps188;go_wp2_with (fail)
  all_goals first|(go_ret;exact ⟨rfl,Drawn0.refl _⟩)|skip
  exfalso
  have hh:((1≤((s.size:Nat):Int)∧((s.size:Nat):Int)≤8)∧(s.toList == [46])=false)∧(s.toList == [46,46])=false:=by assumption
  exact H ⟨by omega,by omega,hh.1.2,hh.2⟩
def zI:S43:=⟨0,0,⟨#[]⟩,false,0⟩
def gI (o:Option S43):S43:=o.getD zI
theorem toI6_eq (o:Option S43):toI6 o=((gI o).f0,(gI o).f1,(gI o).f2,(gI o).f3,(gI o).f4,o.isSome):=by cases o <;> rfl
theorem get_c (A0:Option Addr) (c0:Nat) (l:List S43) (id:Int) (w:World) (hr0:Kd.C k43 w A0 l.length l) (hc0:l.length≤c0) (hl:l.length≤1000) (h0:0≤id) (h1:id≤4294967295) (hup:upB (-1) l=true) :
  Calls Tryz.prog 137 #[.slice A0 l.length c0,.int .u32 id] w fun e w'=>e=.returned (.tuple #[.agg #[.int .u32 (gI (findI l id)).f0,.int .u32 (gI (findI l id)).f1,.string (gI (findI l id)).f2,.bool (gI (findI l id)).f3,.int .u32 (gI (findI l id)).f4],.bool (findI l id).isSome])∧Below w.heap.size w w' :=
 tree_get.calls A0 c0 l id _ _ _ _ _ _ w hr0 hc0 (by rw [get_f l id hl h0 h1 hup,toI6_eq])
theorem kid_c (A0:Option Addr) (c0:Nat) (l:List S43) (d:Int) (nm:ByteArray) (w:World) (hr0:Kd.C k43 w A0 l.length l) (hc0:l.length≤c0) (hl:l.length≤1000) :
  Calls Tryz.prog 189 #[.slice A0 l.length c0,.int .u32 d,.string nm] w fun e w'=>e=.returned (.tuple #[.agg #[.int .u32 (gI (kidI l d nm)).f0,.int .u32 (gI (kidI l d nm)).f1,.string (gI (kidI l d nm)).f2,.bool (gI (kidI l d nm)).f3,.int .u32 (gI (kidI l d nm)).f4],.bool (kidI l d nm).isSome])∧Below w.heap.size w w' :=
 tree_kid.calls (l.length+1) A0 c0 l d nm _ _ _ _ _ _ w hr0 hc0 (by rw [kid_f l (by unfold maxLen;omega) d nm _ (by omega),toI6_eq])
theorem depth_c (A0:Option Addr) (c0:Nat) (l:List S43) (id:Int) (w:World) (hr0:Kd.C k43 w A0 l.length l) (hc0:l.length≤c0) (hl:l.length≤1000) (h0:0≤id) (h1:id≤4294967295) (hup:upB (-1) l=true) (hw : ∀ x∈l,wfI x=true) :
  Calls Tryz.prog 190 #[.slice A0 l.length c0,.int .u32 id] w fun e w'=>e=.returned (.int .i64 (depthI l 7 0 id))∧Below w.heap.size w w' :=
 tree_depth.calls 8 A0 c0 l id _ w hr0 hc0 (depth_f l hl hup hw 8 (by omega) id h0 h1)
theorem kids_c (A0:Option Addr) (c0:Nat) (l:List S43) (d:Int) (w:World) (hr0:Kd.C k43 w A0 l.length l) (hc0:l.length≤c0) (hl:l.length≤1000) :
  Calls Tryz.prog 191 #[.slice A0 l.length c0,.int .u32 d] w fun e w'=>(∃ A c,e=.returned (.slice A (kidsI l d).length c))∧Below w.heap.size w w':=by
 refine (tree_kids.calls (l.length+1) A0 c0 l d _ w hr0 hc0 (kids_f l hl d _ (by omega))).mono fun e w' hh=>?_
 obtain ⟨v,he,hr,hb⟩:=hh;obtain ⟨A,c,rfl,_,_⟩:=Kd.R_reads hr;exact ⟨⟨A,c,he⟩,hb⟩
theorem name_q (s:ByteArray) (w:World):Calls Tryz.prog 188 #[.string s] w fun e w'=>e=.returned (.bool (isNameB s))∧∃ m,w'=w.drewN m :=
 (tree_isName.calls s _ w rfl).mono fun e w' hh=>⟨hh.1,hh.2.out⟩
theorem adr (a:Addr) (i:Nat):a.add ((i+1)*5)=(⟨a.block,a.off+5+i*5,none⟩:Addr):=by
 unfold Addr.add;rw [if_neg (by omega)]
 congr 1
 omega
theorem wj1 (j:Nat) (h:j≤1000):IntKind.i64.wrap (((j+1:Nat):Int)-1)=(j:Int):=by
 have:=IntWalk.i64_in (((j+1:Nat):Int)-1) (by omega)
 rw [this];omega
theorem wj2 (j:Nat) (h:j≤1000):IntKind.i64.wrap ((j:Int)+1-1)=(j:Int):=by
 have:=IntWalk.i64_in ((j:Int)+1-1) (by omega)
 rw [this];omega
def firstB (l:List S43) (j:Nat):Bool :=
 !(decide ((rd_T43 l ((j+1:Nat):Int)).f0≤(rd_T43 l (j:Int)).f0))&&isNameB (rd_T43 l ((j+1:Nat):Int)).f2&&!(decide ((rd_T43 l ((j+1:Nat):Int)).f4>1024))&&!((rd_T43 l ((j+1:Nat):Int)).f3&&decide ((rd_T43 l ((j+1:Nat):Int)).f4>0))
def secondB (l:List S43) (x:S43):Bool :=
 (findI l x.f1).isSome&&(gI (findI l x.f1)).f3&&((gI (kidI l x.f1 x.f2)).f0 == x.f0)&&decide (0≤depthI l 7 0 x.f0)&&decide ((kidsI l x.f1).length≤12)
def rootB (x:S43):Bool:=x.f0 == 1&&x.f1 == 0&&x.f2.toList == []&&x.f3&&x.f4 == 0
def rightB (l:List S43):Bool :=
 decide (1≤l.length)&&decide (l.length≤40)&&rootB (rd_T43 l 0)&&(List.range (l.length-1)).all (firstB l)&&(List.range (l.length-1)).all (fun j=>secondB l (rd_T43 l ((j+1:Nat):Int)))
def wfL (l:List S43):Bool:=l.all wfI
theorem upB_of : ∀ (l:List S43) (lo:Int),(∀ x∈l,lo<x.f0∧x.f0≤4294967295)→(∀ j:Nat,j+1<l.length→(rd_T43 l (j:Int)).f0<(rd_T43 l ((j+1:Nat):Int)).f0)→upB lo l=true
 | [],_,_,_=>rfl
 | x::t,lo,h1,h2=>by
  have hx:=h1 x (List.mem_cons_self ..);have hs : ∀ a:Nat,a<t.length→x.f0<(rd_T43 t (a:Int)).f0:=by
   intro a;induction a with
   | zero =>
    intro ha;have:=h2 0 (by simp;omega)
    rw [rd43_get _ _ (by simp),rd43_get _ _ (by simp;omega)] at this
    rw [rd43_get _ _ ha];exact this
   | succ a ih =>
    intro ha;have:=h2 (a+1) (by simp;omega)
    rw [rd43_get _ _ (by simp;omega),rd43_get _ _ (by simp;omega)] at this
    have h3:=ih (by omega)
    rw [rd43_get _ _ (by omega)] at h3
    rw [rd43_get _ _ ha];simp only [List.getElem_cons_succ] at this;omega
  simp only [upB,Bool.and_eq_true,decide_eq_true_eq];refine ⟨hx,upB_of t x.f0 (fun y hy=>?_) (fun j hj=>?_)⟩
  ·obtain ⟨a,ha,rfl⟩:=List.mem_iff_getElem.1 hy;have:=hs a ha;rw [rd43_get _ _ ha] at this;exact ⟨this,(h1 _ (List.mem_cons_of_mem _ hy)).2⟩
  ·have:=h2 (j+1) (by simp;omega)
   rw [rd43_get _ _ (by simp;omega),rd43_get _ _ (by simp;omega)] at this
   rw [rd43_get _ _ (by omega),rd43_get _ _ hj]
   simpa only [List.getElem_cons_succ] using this
theorem up_of_first (l:List S43) (hw:wfL l=true) (h : ∀ j:Nat,j+1<l.length→firstB l j=true):upB (-1) l=true:=by
 refine upB_of l (-1) (fun x hx=>?_) (fun j hj=>?_)
 ·have:=(wfI_iff x).1 (List.all_eq_true.1 hw x hx);omega
 ·have:=h j hj;unfold firstB at this;simp only [Bool.and_eq_true,Bool.not_eq_true',decide_eq_false_iff_not] at this;omega
def tree_Right.f (l:List S43):Option Bool:=if wfL l=true then some (rightB l) else none
theorem tree_Right.calls (A0:Option Addr) (c0:Nat) (l0:List S43) (r:Bool) (w:World) (hr0:Kd.C k43 w A0 l0.length l0) (hc0:l0.length≤c0) (h:tree_Right.f l0=some r) :
  Calls Tryz.prog 115 #[.slice A0 l0.length c0] w fun e w'=>e=.returned (.bool r)∧Below w.heap.size w w':=by
 unfold tree_Right.f at h;by_cases hwf:wfL l0=true
 ·rw [if_pos hwf] at h;cases h
  have HR0:=Aside0.mk hr0;have HC0:=Aside0.mk hc0;clear hr0 hc0;have hwf:=Aside0.mk hwf;by_cases H1:l0.length<1
  ·have hf:rightB l0=false:=by unfold rightB;rw [decide_eq_false (show ¬ 1≤l0.length by omega)];simp
   rw [hf];go_enter Tryz.func115,Tryz.ntmps115;go_wp2_with (fail)
   go_ret
   exact ⟨rfl,Below.refl _ _⟩
  by_cases H2:40<l0.length
  ·have hf:rightB l0=false:=by unfold rightB;rw [decide_eq_false (show ¬ l0.length≤40 by omega)];simp
   rw [hf];go_enter Tryz.func115,Tryz.ntmps115;go_wp2_with (fail)
   all_goals first|(go_ret;exact ⟨rfl,Below.refl _ _⟩)|(exfalso;omega)
  obtain ⟨ad,e,z0,z1,z2,z3,z4⟩:=at_T43 HR0.out 0 (by omega) (by omega)
  cases e
  have HCR:Aside0 (∀ j:Nat,j<l0.length→w.cell? (ad.add (j*5))=some (.int .u32 (rd_T43 l0 j).f0)∧w.cell? ⟨(ad.add (j*5)).block,(ad.add (j*5)).off+1,none⟩=some (.int .u32 (rd_T43 l0 j).f1)∧w.cell? ⟨(ad.add (j*5)).block,(ad.add (j*5)).off+2,none⟩=some (.string (rd_T43 l0 j).f2)∧w.cell? ⟨(ad.add (j*5)).block,(ad.add (j*5)).off+3,none⟩=some (.bool (rd_T43 l0 j).f3)∧w.cell? ⟨(ad.add (j*5)).block,(ad.add (j*5)).off+4,none⟩=some (.int .u32 (rd_T43 l0 j).f4)):=⟨fun j hj=>by
   obtain ⟨ad',e,q⟩:=at_T43 HR0.out (j:Int) (by omega) (by omega)
   cases e
   simpa only [Int.toNat_natCast] using q⟩
  rw [show ((0:Int)).toNat*5=0 from rfl,Addr.add_zero'] at z0 z1 z2 z3 z4
  have hcmp:(!((rd_T43 l0 0).f0 == 1)||(!((rd_T43 l0 0).f1 == 0)||(!((rd_T43 l0 0).f2.toList == [])||(!(rd_T43 l0 0).f3||!((rd_T43 l0 0).f4 == 0))))) = !rootB (rd_T43 l0 0):=by
   unfold rootB;simp [Bool.not_and,Bool.or_assoc]
  have hg1:(0<l0.length)=True:=eq_true (by omega)
  by_cases H3:rootB (rd_T43 l0 0)=false
  ·have hf:rightB l0=false:=by unfold rightB;rw [H3];simp
   rw [hf];clear hcmp;go_enter Tryz.func115,Tryz.ntmps115;go_wp2_with (fail)
   all_goals first|(go_ret;exact ⟨rfl,Below.refl _ _⟩)|skip
   exfalso
   have q0:(rd_T43 l0 0).f0=1:=by assumption
   have q1:(rd_T43 l0 0).f1=0:=by assumption
   have q2:(rd_T43 l0 0).f2.toList = []:=by assumption
   have q3 : ¬ (rd_T43 l0 0).f3=false:=by assumption
   have q4:(rd_T43 l0 0).f4=0:=by assumption
   unfold rootB at H3;rw [q0,q1,q2,q4] at H3;simp at H3
   exact q3 H3
  ·have H3':rootB (rd_T43 l0 0)=true:=by simpa using H3
   clear hcmp;have hrootb:=H3';unfold rootB at H3';simp only [Bool.and_eq_true,beq_iff_eq] at H3';obtain ⟨⟨⟨⟨q0,q1⟩,q2⟩,q3⟩,q4⟩:=H3';have hf:rightB l0=((List.range (l0.length-1)).all (firstB l0)&&(List.range (l0.length-1)).all (fun j=>secondB l0 (rd_T43 l0 ((j+1:Nat):Int)))):=by
    unfold rightB;rw [hrootb,decide_eq_true (show 1≤l0.length by omega),decide_eq_true (show l0.length≤40 by omega)]
    simp
   go_enter Tryz.func115,Tryz.ntmps115;go_wp2_with (fail)
   go_loopw [28] (fun v28 wr=>∃ i:Nat,i≤l0.length∧v28=.int .i64 i∧Aside0 (∀ j:Nat,j+1<i→firstB l0 j=true)∧Aside0 (Below w.heap.size w wr)) (fun v28 _=>l0.length-(intOf v28).toNat)
   case atStart=>exact ⟨0,Nat.zero_le _,rfl,⟨fun j hj=>by omega⟩,⟨Below.refl _ _⟩⟩
   case round =>
    obtain ⟨i,hi,rfl,HN,HB⟩:=hrel;by_cases hlt:i<l0.length
    ·obtain ⟨x0,x1,x2,x3,x4⟩:=HCR.out i hlt;replace x0:=(HB.out.cell (World.block_lt_of_cell? w _ x0)).trans x0;replace x1:=(HB.out.cell (World.block_lt_of_cell? w _ x1)).trans x1;replace x2:=(HB.out.cell (World.block_lt_of_cell? w _ x2)).trans x2;replace x3:=(HB.out.cell (World.block_lt_of_cell? w _ x3)).trans x3;replace x4:=(HB.out.cell (World.block_lt_of_cell? w _ x4)).trans x4;clear z0 z1 z2 z3 z4 q0 q1 q2 q3 q4 hf;rcases Nat.eq_zero_or_pos i with h0|h0
     ·subst h0;rw [Nat.zero_mul,Addr.add_zero'] at x0 x1 x2 x3 x4;go_wp2_with (fail)
      refine ⟨⟨1,by omega,rfl,⟨fun j hj=>by omega⟩,⟨below_alloc HB.out _⟩⟩,?_⟩
      simp [intOf]
      omega
     ·obtain ⟨j,rfl⟩ : ∃ j,i=j+1:=⟨i-1,by omega⟩
      have hjl:j<l0.length:=by omega
      obtain ⟨y0,_,_,_,_⟩:=HCR.out j hjl;replace y0:=(HB.out.cell (World.block_lt_of_cell? w _ y0)).trans y0;have hfj:firstB l0 j=(!(decide ((rd_T43 l0 ((j+1:Nat):Int)).f0≤(rd_T43 l0 (j:Int)).f0))&&isNameB (rd_T43 l0 ((j+1:Nat):Int)).f2&&!(decide ((rd_T43 l0 ((j+1:Nat):Int)).f4>1024))&&!((rd_T43 l0 ((j+1:Nat):Int)).f3&&decide ((rd_T43 l0 ((j+1:Nat):Int)).f4>0))):=rfl;have hff:firstB l0 j=false→rightB l0=false:=by
       intro hb;rw [Bool.eq_false_iff];intro hc;unfold rightB at hc;simp only [Bool.and_eq_true] at hc;have:=List.all_eq_true.1 hc.1.2 j (List.mem_range.2 (by omega))
       rw [hb] at this;cases this
      have HFF:=Aside0.mk hff;have HFJ:=Aside0.mk hfj;clear hff hfj;have hw1:=wj1 j (by omega)
      have hw2:=wj2 j (by omega)
      generalize rd_T43 l0 ((j+1:Nat):Int)=x at x0 x1 x2 x3 x4 HFJ;generalize (rd_T43 l0 (j:Int)).f0=yy at y0 HFJ;go_wp2_with (fail)
      have HB':=Aside0.mk (below_alloc HB.out (.cells #[.int .u32 x.f0,.int .u32 x.f1,.string x.f2,.bool x.f3,.int .u32 x.f4] 43));have hW:(wr.alloc (.cells #[.int .u32 x.f0,.int .u32 x.f1,.string x.f2,.bool x.f3,.int .u32 x.f4] 43)).heap[wr.heap.size]?=some (.cells #[.int .u32 x.f0,.int .u32 x.f1,.string x.f2,.bool x.f3,.int .u32 x.f4] 43 (0,0)):=heap_alloc_new _ _;have y0':(wr.alloc (.cells #[.int .u32 x.f0,.int .u32 x.f1,.string x.f2,.bool x.f3,.int .u32 x.f4] 43)).cell? (ad.add (j*5))=some (.int .u32 yy):=((below_alloc (Below.refl wr.heap.size wr) _).cell (World.block_lt_of_cell? _ _ y0)).trans y0;clear x0 x1 x2 x3 x4 y0;generalize wr.alloc (.cells #[.int .u32 x.f0,.int .u32 x.f1,.string x.f2,.bool x.f3,.int .u32 x.f4] 43)=W at HB' hW y0' ⊢;generalize wr.heap.size=g at hW ⊢;have k0:W.cell? ⟨g,0,none⟩=some (.int .u32 x.f0):=(blk_cell hW 0).trans rfl;have k1:W.cell? ⟨g,1,none⟩=some (.int .u32 x.f1):=(blk_cell hW 1).trans rfl;have k2:W.cell? ⟨g,2,none⟩=some (.string x.f2):=(blk_cell hW 2).trans rfl;have k3:W.cell? ⟨g,3,none⟩=some (.bool x.f3):=(blk_cell hW 3).trans rfl;have k4:W.cell? ⟨g,4,none⟩=some (.int .u32 x.f4):=(blk_cell hW 4).trans rfl;have HW:=Aside0.mk hW;clear hW;by_cases d1:x.f0≤yy
      ·have e1:decide (x.f0≤yy)=true:=decide_eq_true d1;go_quiet ((go_at_call 188;exact Calls.quiet_of (name_q _ _)))
       go_wp2_with (fail)
       rw [HFF.out (by rw [HFJ.out];simp [d1])]
       go_ret
       exact ⟨rfl,pw_below_drewN HB'.out _⟩
      ·have e1:decide (x.f0≤yy)=false:=decide_eq_false d1;cases hn:isNameB x.f2
       ·go_quiet ((go_at_call 188;exact Calls.quiet_of (name_q _ _)))
        go_wp2_with (fail)
        rw [HFF.out (by rw [HFJ.out];simp [hn])]
        go_ret
        exact ⟨rfl,pw_below_drewN HB'.out _⟩
       ·by_cases d3:1024<x.f4
        ·have e3:decide (1024<x.f4)=true:=decide_eq_true d3;go_quiet ((go_at_call 188;exact Calls.quiet_of (name_q _ _)))
         go_wp2_with (fail)
         rw [HFF.out (by rw [HFJ.out];simp [d3])]
         go_ret
         exact ⟨rfl,pw_below_drewN HB'.out _⟩
        ·have e3:decide (1024<x.f4)=false:=decide_eq_false d3;cases hd:x.f3
         ·rw [hd] at k3;have hT:firstB l0 j=true:=by rw [HFJ.out];simp [d1,hn,d3,hd]
          clear HFF HFJ;go_quiet ((go_at_call 188;exact Calls.quiet_of (name_q _ _)))
          go_wp2_with (fail)
          refine ⟨⟨j+2,by omega,by go_num,⟨fun j' hj'=>?_⟩,⟨pw_below_drewN HB'.out _⟩⟩,by simp [intOf];omega⟩
          rcases Nat.lt_or_ge (j'+1) (j+1) with h5|h5
          ·exact HN.out j' h5
          ·obtain rfl:j'=j:=by omega
           exact hT
         ·rw [hd] at k3;by_cases d5:0<x.f4
          ·have e5:decide (0<x.f4)=true:=decide_eq_true d5;go_quiet ((go_at_call 188;exact Calls.quiet_of (name_q _ _)))
           go_wp2_with (fail)
           rw [HFF.out (by rw [HFJ.out];simp [hd,d5])]
           go_ret
           exact ⟨rfl,pw_below_drewN HB'.out _⟩
          ·have e5:decide (0<x.f4)=false:=decide_eq_false d5;have hT:firstB l0 j=true:=by rw [HFJ.out];simp [d1,hn,d3,hd,d5]
           clear HFF HFJ;go_quiet ((go_at_call 188;exact Calls.quiet_of (name_q _ _)))
           go_wp2_with (fail)
           refine ⟨⟨j+2,by omega,by go_num,⟨fun j' hj'=>?_⟩,⟨pw_below_drewN HB'.out _⟩⟩,by simp [intOf];omega⟩
           rcases Nat.lt_or_ge (j'+1) (j+1) with h5|h5
           ·exact HN.out j' h5
           ·obtain rfl:j'=j:=by omega
            exact hT
    ·obtain rfl:i=l0.length:=by omega
     clear z0 z1 z2 z3 z4;have hup:Aside0 (upB (-1) l0=true):=⟨up_of_first l0 hwf.out (fun j hj=>HN.out j hj)⟩;have hf1:(List.range (l0.length-1)).all (firstB l0)=true:=List.all_eq_true.2 fun j hj=>HN.out j (by have:=List.mem_range.1 hj;omega)
     rw [hf1,Bool.true_and] at hf;have HF:=Aside0.mk hf;clear hf hf1 HN;go_wp2_with (fail)
     ·have hl1:l0.length=1:=by have:=HC0.out;omega
      have hT:rightB l0=true:=by rw [HF.out,hl1];rfl
      have hl2:l0.length-1=0:=by omega
      go_loopw [68] (fun v68 wq=>v68=.int .i64 0∧Aside0 (Below w.heap.size w wq)) (fun _ _=>0)
      case atStart=>exact ⟨rfl,HB⟩
      case round =>
       obtain ⟨rfl,HB⟩:=hrel;go_wp2_with (fail)
       (try rw [hT])
       go_ret
       exact ⟨rfl,HB.out⟩
     ·rename_i hc1
      go_loopw [68] (fun v68 wq=>∃ i:Nat,i≤l0.length-1∧v68=.int .i64 i∧Aside0 (∀ j:Nat,j<i→secondB l0 (rd_T43 l0 ((j+1:Nat):Int))=true)∧Aside0 (Below w.heap.size w wq)) (fun v68 _=>l0.length-(intOf v68).toNat)
      case atStart=>exact ⟨0,Nat.zero_le _,rfl,⟨fun j hj=>by omega⟩,HB⟩
      case round =>
       clear HB;obtain ⟨i,hi,rfl,HN,HB⟩:=hrel;by_cases hlt:i<l0.length-1
       ·obtain ⟨x0,x1,x2,x3,x4⟩:=HCR.out (i+1) (by omega)
        rw [show ad.add ((i+1)*5)=(⟨ad.block,ad.off+5+i*5,none⟩:Addr) from adr ad i] at x0 x1 x2 x3 x4
        have hwx:=(wfI_iff _).1 (List.all_eq_true.1 hwf.out (rd_T43 l0 ((i+1:Nat):Int)) (by rw [rd43_get _ _ (show i+1<l0.length by omega)];exact List.getElem_mem _))
        have hff:secondB l0 (rd_T43 l0 ((i+1:Nat):Int))=false→rightB l0=false:=by
         intro hb;rw [HF.out,Bool.eq_false_iff];intro hc;have:=List.all_eq_true.1 hc i (List.mem_range.2 hlt);rw [hb] at this;cases this
        have HSB:=Aside0.mk (rfl:secondB l0 (rd_T43 l0 ((i+1:Nat):Int))=secondB l0 (rd_T43 l0 ((i+1:Nat):Int)));have HFF:=Aside0.mk hff;clear hff HF;generalize hX:rd_T43 l0 ((i+1:Nat):Int)=x at x0 x1 x2 x3 x4 hwx HFF HSB;have HX:=Aside0.mk hX;clear hX;obtain ⟨hx0,hx1,hx2,hx3,hx4,hx5⟩:=hwx;dsimp only at x1 x2 x3 x4
        replace x0:=(HB.out.cell (World.block_lt_of_cell? w _ x0)).trans x0;replace x1:=(HB.out.cell (World.block_lt_of_cell? w _ x1)).trans x1;replace x2:=(HB.out.cell (World.block_lt_of_cell? w _ x2)).trans x2;replace x3:=(HB.out.cell (World.block_lt_of_cell? w _ x3)).trans x3;replace x4:=(HB.out.cell (World.block_lt_of_cell? w _ x4)).trans x4;have HSB':secondB l0 x=((findI l0 x.f1).isSome&&(gI (findI l0 x.f1)).f3&&((gI (kidI l0 x.f1 x.f2)).f0 == x.f0)&&decide (0≤depthI l0 7 0 x.f0)&&decide ((kidsI l0 x.f1).length≤12)):=rfl;clear HSB;have HSB:=Aside0.mk HSB';clear HSB';go_upto_region 14 with (go_at_call 137;refine (get_c (some ad) c0 l0 x.f1 _ (Kd.C_below HR0.out (below_alloc HB.out _)) HC0.out (by omega) hx2 hx3 hup.out).mono ?_;rintro e w1 ⟨rfl,hb1⟩;have BK6:=Aside0.mk (blk_below (heap_alloc_new wr _) hb1);have HB1:=Aside0.mk (below_step (below_alloc HB.out _) hb1);clear hb1;generalize wr.heap.size=g6 at BK6 ⊢;generalize gI (findI l0 x.f1)=p at HSB ⊢;generalize (findI l0 x.f1).isSome=b at HSB ⊢)
        have BK6a:=Aside0.mk (blk_alloc BK6.out (.cells #[.int .u32 p.f0,.int .u32 p.f1,.string p.f2,.bool p.f3,.int .u32 p.f4] 43));have BK7:=Aside0.mk (heap_alloc_new w1 (.cells #[.int .u32 p.f0,.int .u32 p.f1,.string p.f2,.bool p.f3,.int .u32 p.f4] 43));have HB2:=Aside0.mk (below_alloc HB1.out (.cells #[.int .u32 p.f0,.int .u32 p.f1,.string p.f2,.bool p.f3,.int .u32 p.f4] 43));clear BK6 HB1;generalize w1.alloc (.cells #[.int .u32 p.f0,.int .u32 p.f1,.string p.f2,.bool p.f3,.int .u32 p.f4] 43)=w2 at BK6a BK7 HB2 ⊢;generalize w1.heap.size=g7 at BK7 ⊢;have a61:w2.cell? ⟨g6,1,none⟩=some (.int .u32 x.f1):=(blk_cell BK6a.out 1).trans rfl;have a62:w2.cell? ⟨g6,2,none⟩=some (.string x.f2):=(blk_cell BK6a.out 2).trans rfl;go_upto_region 15 with (go_at_call 189;refine (kid_c (some ad) c0 l0 x.f1 x.f2 _ (Kd.C_below HR0.out HB2.out) HC0.out (by omega)).mono ?_;rintro e w3 ⟨rfl,hb3⟩;have BK6b:=Aside0.mk (blk_below BK6a.out hb3);have BK7b:=Aside0.mk (blk_below BK7.out hb3);have HB3:=Aside0.mk (below_step HB2.out hb3);clear hb3;generalize gI (kidI l0 x.f1 x.f2)=y at HSB ⊢)
        clear a61 a62 BK6a BK7 HB2;have BK6:=Aside0.mk (blk_alloc BK6b.out (.cells #[.int .u32 y.f0,.int .u32 y.f1,.string y.f2,.bool y.f3,.int .u32 y.f4] 43));have BK7:=Aside0.mk (blk_alloc BK7b.out (.cells #[.int .u32 y.f0,.int .u32 y.f1,.string y.f2,.bool y.f3,.int .u32 y.f4] 43));have BK9:=Aside0.mk (heap_alloc_new w3 (.cells #[.int .u32 y.f0,.int .u32 y.f1,.string y.f2,.bool y.f3,.int .u32 y.f4] 43));have HB3':=Aside0.mk (below_alloc HB3.out (.cells #[.int .u32 y.f0,.int .u32 y.f1,.string y.f2,.bool y.f3,.int .u32 y.f4] 43));clear BK6b BK7b HB3;generalize w3.alloc (.cells #[.int .u32 y.f0,.int .u32 y.f1,.string y.f2,.bool y.f3,.int .u32 y.f4] 43)=w6 at BK6 BK7 BK9 HB3' ⊢;have HB3:=HB3';clear HB3';generalize w3.heap.size=g9 at BK9 ⊢;have a60:w6.cell? ⟨g6,0,none⟩=some (.int .u32 x.f0):=(blk_cell BK6.out 0).trans rfl;have a61:w6.cell? ⟨g6,1,none⟩=some (.int .u32 x.f1):=(blk_cell BK6.out 1).trans rfl;have a73:w6.cell? ⟨g7,3,none⟩=some (.bool p.f3):=(blk_cell BK7.out 3).trans rfl;have a90:w6.cell? ⟨g9,0,none⟩=some (.int .u32 y.f0):=(blk_cell BK9.out 0).trans rfl;cases b
        ·have hR:=HFF.out (by rw [HSB.out];simp [])
         clear HFF HSB;go_wp2_with (first|(go_at_call 190;refine (depth_c (some ad) c0 l0 x.f0 _ (Kd.C_below HR0.out HB3.out) HC0.out (by omega) hx0 hx1 hup.out (List.all_eq_true.1 hwf.out)).mono ?_;rintro e w4 ⟨rfl,hb4⟩;have HB4:=Aside0.mk (below_step HB3.out hb4);have i61:w4.cell? ⟨g6,1,none⟩=some (.int .u32 x.f1):=(blk_cell (blk_below BK6.out hb4) 1).trans rfl;clear hb4)|(go_at_call 191;refine (kids_c (some ad) c0 l0 x.f1 _ (Kd.C_below HR0.out HB4.out) HC0.out (by omega)).mono ?_;rintro e w5 ⟨⟨A5,c5,rfl⟩,hb5⟩;have HB5:=Aside0.mk (below_step HB4.out hb5);clear hb5))
         (try rw [hR])
         go_ret
         exact ⟨rfl,HB3.out⟩
        ·cases q2:p.f3
         ·rw [q2] at a73;have hR:=HFF.out (by rw [HSB.out];simp [q2])
          clear HFF HSB;go_wp2_with (first|(go_at_call 190;refine (depth_c (some ad) c0 l0 x.f0 _ (Kd.C_below HR0.out HB3.out) HC0.out (by omega) hx0 hx1 hup.out (List.all_eq_true.1 hwf.out)).mono ?_;rintro e w4 ⟨rfl,hb4⟩;have HB4:=Aside0.mk (below_step HB3.out hb4);have i61:w4.cell? ⟨g6,1,none⟩=some (.int .u32 x.f1):=(blk_cell (blk_below BK6.out hb4) 1).trans rfl;clear hb4)|(go_at_call 191;refine (kids_c (some ad) c0 l0 x.f1 _ (Kd.C_below HR0.out HB4.out) HC0.out (by omega)).mono ?_;rintro e w5 ⟨⟨A5,c5,rfl⟩,hb5⟩;have HB5:=Aside0.mk (below_step HB4.out hb5);clear hb5))
          (try rw [hR])
          go_ret
          exact ⟨rfl,HB3.out⟩
         ·rw [q2] at a73;cases q3:(y.f0 == x.f0)
          ·have q3':(y.f0 != x.f0)=true:=by unfold bne;rw [q3];rfl
           have hR:=HFF.out (by rw [HSB.out];simp [q3])
           clear HFF HSB;go_wp2_with (first|(go_at_call 190;refine (depth_c (some ad) c0 l0 x.f0 _ (Kd.C_below HR0.out HB3.out) HC0.out (by omega) hx0 hx1 hup.out (List.all_eq_true.1 hwf.out)).mono ?_;rintro e w4 ⟨rfl,hb4⟩;have HB4:=Aside0.mk (below_step HB3.out hb4);have i61:w4.cell? ⟨g6,1,none⟩=some (.int .u32 x.f1):=(blk_cell (blk_below BK6.out hb4) 1).trans rfl;clear hb4)|(go_at_call 191;refine (kids_c (some ad) c0 l0 x.f1 _ (Kd.C_below HR0.out HB4.out) HC0.out (by omega)).mono ?_;rintro e w5 ⟨⟨A5,c5,rfl⟩,hb5⟩;have HB5:=Aside0.mk (below_step HB4.out hb5);clear hb5))
           (try rw [hR])
           go_ret
           exact ⟨rfl,HB3.out⟩
          ·have q3':(y.f0 != x.f0)=false:=by unfold bne;rw [q3];rfl
           by_cases q4:depthI l0 7 0 x.f0<0
           ·have e4:decide (depthI l0 7 0 x.f0<0)=true:=decide_eq_true q4;have hR:=HFF.out (by rw [HSB.out];simp [Int.not_le.mpr q4])
            clear HFF HSB;go_wp2_with (first|(go_at_call 190;refine (depth_c (some ad) c0 l0 x.f0 _ (Kd.C_below HR0.out HB3.out) HC0.out (by omega) hx0 hx1 hup.out (List.all_eq_true.1 hwf.out)).mono ?_;rintro e w4 ⟨rfl,hb4⟩;have HB4:=Aside0.mk (below_step HB3.out hb4);have i61:w4.cell? ⟨g6,1,none⟩=some (.int .u32 x.f1):=(blk_cell (blk_below BK6.out hb4) 1).trans rfl;clear hb4)|(go_at_call 191;refine (kids_c (some ad) c0 l0 x.f1 _ (Kd.C_below HR0.out HB4.out) HC0.out (by omega)).mono ?_;rintro e w5 ⟨⟨A5,c5,rfl⟩,hb5⟩;have HB5:=Aside0.mk (below_step HB4.out hb5);clear hb5))
            (try rw [hR])
            go_ret
            exact ⟨rfl,HB4.out⟩
           ·have e4:decide (depthI l0 7 0 x.f0<0)=false:=decide_eq_false q4;by_cases q5:12<(kidsI l0 x.f1).length
            ·have e5:decide ((12:Int)<((kidsI l0 x.f1).length:Int))=true:=decide_eq_true (by omega)
             have hR:=HFF.out (by rw [HSB.out];simp [Nat.not_le.mpr q5])
             clear HFF HSB;go_wp2_with (first|(go_at_call 190;refine (depth_c (some ad) c0 l0 x.f0 _ (Kd.C_below HR0.out HB3.out) HC0.out (by omega) hx0 hx1 hup.out (List.all_eq_true.1 hwf.out)).mono ?_;rintro e w4 ⟨rfl,hb4⟩;have HB4:=Aside0.mk (below_step HB3.out hb4);have i61:w4.cell? ⟨g6,1,none⟩=some (.int .u32 x.f1):=(blk_cell (blk_below BK6.out hb4) 1).trans rfl;clear hb4)|(go_at_call 191;refine (kids_c (some ad) c0 l0 x.f1 _ (Kd.C_below HR0.out HB4.out) HC0.out (by omega)).mono ?_;rintro e w5 ⟨⟨A5,c5,rfl⟩,hb5⟩;have HB5:=Aside0.mk (below_step HB4.out hb5);clear hb5))
             (try rw [hR])
             go_ret
             exact ⟨rfl,HB5.out⟩
            ·have e5:decide ((12:Int)<((kidsI l0 x.f1).length:Int))=false:=decide_eq_false (by omega)
             have hT:secondB l0 x=true:=by
              rw [HSB.out,q2,q3,decide_eq_true (show 0≤depthI l0 7 0 x.f0 by omega),decide_eq_true (show (kidsI l0 x.f1).length≤12 by omega)]
              rfl
             clear HSB HFF;go_wp2_with (first|(go_at_call 190;refine (depth_c (some ad) c0 l0 x.f0 _ (Kd.C_below HR0.out HB3.out) HC0.out (by omega) hx0 hx1 hup.out (List.all_eq_true.1 hwf.out)).mono ?_;rintro e w4 ⟨rfl,hb4⟩;have HB4:=Aside0.mk (below_step HB3.out hb4);have i61:w4.cell? ⟨g6,1,none⟩=some (.int .u32 x.f1):=(blk_cell (blk_below BK6.out hb4) 1).trans rfl;clear hb4)|(go_at_call 191;refine (kids_c (some ad) c0 l0 x.f1 _ (Kd.C_below HR0.out HB4.out) HC0.out (by omega)).mono ?_;rintro e w5 ⟨⟨A5,c5,rfl⟩,hb5⟩;have HB5:=Aside0.mk (below_step HB4.out hb5);clear hb5))
             refine ⟨⟨i+1,by omega,by go_num,⟨fun j' hj'=>?_⟩,HB5⟩,by simp [intOf];omega⟩
             rcases Nat.lt_or_ge j' i with h5|h5
             ·exact HN.out j' h5
             ·obtain rfl:j'=i:=by omega
              rw [HX.out];exact hT
       ·obtain rfl:i=l0.length-1:=by omega
        have hT:rightB l0=true:=by
         rw [HF.out];exact List.all_eq_true.2 fun j hj=>HN.out j (List.mem_range.1 hj)
        go_wp2_with (fail)
        rw [hT];go_ret
        exact ⟨rfl,HB.out⟩
 ·rw [if_neg hwf] at h;cases h
end Go.Proofs.YtikjfekagdcjmaaGreatDoor.Q
namespace Go.Proofs.YtikjfekagdcjmaaGreatDoor.Q
open Go.RowKit Go.Proofs.YtikjfekagdcjmaaGreatDoorW.PrintWords Go.Proofs.YtikjfekagdcjmaaGreatDoorW.PrintLast
def idxI (i:Nat):Option Nat→Int
 | some j=>((i+j:Nat):Int)
 | none=>-1
theorem idxI_step (i:Nat) (o:Option Nat):idxI i (o.map (· + 1))=idxI (i+1) o:=by
 cases o with
 | none=>rfl
 | some j=>simp only [Option.map_some,idxI];omega
def getN (l:List S43) (id:Int):Int:=idxI 0 (l.findIdx? (fun x=>x.f0 == id))
theorem rget_loop (l:List S43) (hl:l.length≤maxLen) (id:Int) : ∀ (n k i:Nat),i+n=l.length→n<k→r10_Get.l0 k l id (i:Int)=some (idxI i ((l.drop i).findIdx? (fun x=>x.f0 == id))):=by
 unfold maxLen at hl;intro n;induction n with
 | zero =>
  intro k i hi hk;obtain ⟨k,rfl⟩ : ∃ m,k=m+1:=⟨k-1,by omega⟩
  simp only [r10_Get.l0];rw [if_neg (by omega),List.drop_eq_nil_of_le (by omega)]
  rfl
 | succ n ih =>
  intro k i hi hk;obtain ⟨k,rfl⟩ : ∃ m,k=m+1:=⟨k-1,by omega⟩
  simp only [r10_Get.l0];rw [if_pos (by omega),if_pos (by omega),drop34 l i (by omega),wrap_in (by omega) (by omega)]
  have hi':=ih k (i+1) (by omega) (by omega)
  rw [show (((i+1:Nat)):Int)=(i:Int)+1 by omega] at hi'
  rw [hi',List.findIdx?_cons];by_cases h1:(rd_T43 l (i:Int)).f0=id
  ·rw [if_pos h1,if_pos (by simpa using h1)]
   simp [idxI]
  ·rw [if_neg h1,if_neg (by simpa using h1),idxI_step]
theorem rget_f (l:List S43) (hl:l.length≤maxLen) (id:Int) (k:Nat) (hk:l.length<k):r10_Get.f k l id=some (getN l id):=by
 unfold r10_Get.f;exact rget_loop l hl id l.length k 0 (by omega) hk
def kidN (l:List S43) (d:Int) (nm:ByteArray):Int:=idxI 1 ((l.drop 1).findIdx? (fun x=>x.f1 == d&&x.f2.toList == nm.toList))
theorem rkid_loop (l:List S43) (hl:l.length≤maxLen) (d:Int) (nm:ByteArray) : ∀ (n k i:Nat),i+n=l.length→n<k→r10_Kid.l0 k l d nm (i:Int)=some (idxI i ((l.drop i).findIdx? (fun x=>x.f1 == d&&x.f2.toList == nm.toList))):=by
 unfold maxLen at hl;intro n;induction n with
 | zero =>
  intro k i hi hk;obtain ⟨k,rfl⟩ : ∃ m,k=m+1:=⟨k-1,by omega⟩
  simp only [r10_Kid.l0];rw [if_neg (by omega),List.drop_eq_nil_of_le (by omega)]
  rfl
 | succ n ih =>
  intro k i hi hk;obtain ⟨k,rfl⟩ : ∃ m,k=m+1:=⟨k-1,by omega⟩
  simp only [r10_Kid.l0];rw [if_pos (by omega),if_pos (by omega),drop34 l i (by omega),wrap_in (by omega) (by omega)]
  have hi':=ih k (i+1) (by omega) (by omega)
  rw [show (((i+1:Nat)):Int)=(i:Int)+1 by omega] at hi'
  rw [hi',List.findIdx?_cons];by_cases h1:(rd_T43 l (i:Int)).f1=d
  ·rw [if_pos h1];by_cases h2:(rd_T43 l (i:Int)).f2.toList=nm.toList
   ·rw [if_pos h2,if_pos (by simp [h1,h2])]
    simp [idxI]
   ·rw [if_neg h2,if_neg (by simp [h2]),idxI_step]
  ·rw [if_neg h1,if_neg (by simp [h1]),idxI_step]
theorem rkid_f (l:List S43) (hl:l.length≤maxLen) (hp:0<l.length) (d:Int) (nm:ByteArray) (k:Nat) (hk:l.length<k):r10_Kid.f k l d nm=some (kidN l d nm):=by
 unfold r10_Kid.f;exact rkid_loop l hl d nm (l.length-1) k 1 (by omega) (by omega)
def kidsN (l:List S43) (d:Int):Nat:=((l.drop 1).filter (fun x=>x.f1 == d)).length
theorem rkids_loop (l:List S43) (hl:l.length≤1000) (d:Int) : ∀ (n k i c:Nat),i+n=l.length→n<k→c≤i→r10_Kids.l0 k l d (c:Int) (i:Int)=some (((c+((l.drop i).filter (fun x=>x.f1 == d)).length:Nat)):Int):=by
 intro n;induction n with
 | zero =>
  intro k i c hi hk hc;obtain ⟨k,rfl⟩ : ∃ m,k=m+1:=⟨k-1,by omega⟩
  simp only [r10_Kids.l0];rw [if_neg (by omega),List.drop_eq_nil_of_le (by omega)]
  rfl
 | succ n ih =>
  intro k i c hi hk hc;obtain ⟨k,rfl⟩ : ∃ m,k=m+1:=⟨k-1,by omega⟩
  simp only [r10_Kids.l0];rw [if_pos (by omega),if_pos (by omega),drop34 l i (by omega),wrap_in (i:=(i:Int)+1) (by omega) (by omega),wrap_in (i:=(c:Int)+1) (by omega) (by omega)]
  have h1:=ih k (i+1) c (by omega) (by omega) (by omega)
  have h2:=ih k (i+1) (c+1) (by omega) (by omega) (by omega)
  rw [show (((i+1:Nat)):Int)=(i:Int)+1 by omega] at h1 h2
  rw [show (((c+1:Nat)):Int)=(c:Int)+1 by omega] at h2
  rw [List.filter_cons];by_cases h3:(rd_T43 l (i:Int)).f1=d
  ·rw [if_pos h3,if_pos (by simpa using h3),h2,List.length_cons]
   congr 1
   omega
  ·rw [if_neg h3,if_neg (by simpa using h3),h1]
theorem rkids_f (l:List S43) (hl:l.length≤1000) (hp:0<l.length) (d:Int) (k:Nat) (hk:l.length<k):r10_Kids.f k l d=some ((kidsN l d:Nat):Int):=by
 unfold r10_Kids.f;have:=rkids_loop l hl d (l.length-1) k 1 0 (by omega) (by omega) (by omega)
 rw [Nat.zero_add] at this;exact this
theorem getN_range (l:List S43) (id:Int) : -1≤getN l id∧getN l id<(l.length:Int):=by
 unfold getN;cases h:l.findIdx? (fun x=>x.f0 == id) with
 | none=>simp only [idxI];omega
 | some j =>
  have:=(List.findIdx?_eq_some_iff_getElem.1 h).1;simp only [idxI];omega
def depthN (l:List S43):Nat→Int→Int→Int
 | 0,_,_=>99
 | m+1,i,n=>if (rd_T43 l i).f0=1 then n else if getN l (rd_T43 l i).f1<0 then 99 else if n>6 then 99 else depthN l m (getN l (rd_T43 l i).f1) (n+1)
theorem rdepth_loop (l:List S43) (hl:l.length≤1000) : ∀ (m k:Nat) (i n:Int),n=8-(m:Int)→m≤8→0<m→l.length+m<k→0≤i→i<(l.length:Int)→r10_Depth.l0 k l i n=some (depthN l m i n):=by
 intro m;induction m with
 | zero=>intro k i n _ _ h;omega
 | succ m ih =>
  intro k i n hn hm _ hk h0 h1;obtain ⟨k,rfl⟩ : ∃ m,k=m+1:=⟨k-1,by omega⟩
  simp only [r10_Depth.l0,depthN];rw [if_pos h0,if_pos h1];by_cases h2:(rd_T43 l i).f0=1
  ·rw [if_pos h2,if_pos h2]
  ·rw [if_neg h2,if_neg h2,rget_f l (by unfold maxLen;omega) _ k (by omega)]
   show (if getN l (rd_T43 l i).f1<0 then some 99 else if n>6 then some 99 else r10_Depth.l0 k l (getN l (rd_T43 l i).f1) (wrap64 (n+1)))=_
   have hr:=getN_range l (rd_T43 l i).f1;by_cases h3:getN l (rd_T43 l i).f1<0
   ·rw [if_pos h3,if_pos h3]
   ·rw [if_neg h3,if_neg h3];by_cases h4:n>6
    ·rw [if_pos h4,if_pos h4]
    ·rw [if_neg h4,if_neg h4,wrap_in (by omega) (by omega)]
     exact ih k _ (n+1) (by omega) (by omega) (by omega) (by omega) (by omega) hr.2
theorem rdepth_f (l:List S43) (hl:l.length≤1000) (k:Nat) (hk:l.length+8<k) (i:Int) (h0:0≤i) (h1:i<(l.length:Int)):r10_Depth.f k l i=some (depthN l 8 i 0):=by
 unfold r10_Depth.f;exact rdepth_loop l hl 8 k i 0 (by omega) (by omega) (by omega) hk h0 h1
def nameD (c:Int):Bool:=(decide (97≤c)&&decide (c≤122))||(decide (48≤c)&&decide (c≤57))||c == 46||c == 95||c == 45
theorem nameD_all:(List.range 256).all (fun n=>nameC (n:Int) == nameD (n:Int))=true:=by kernel_rfl
theorem nameD_eq (c:Int) (h0:0≤c) (h1:c<256):nameC c=nameD c:=by
 have h:=List.all_eq_true.1 nameD_all c.toNat (List.mem_range.2 (by omega))
 rw [show ((c.toNat:Nat):Int)=c by omega] at h
 exact eq_of_beq h
theorem bt_range (s:ByteArray) (i:Int):0≤bt s i∧bt s i<256:=by
 unfold bt;split
 ·rename_i h
  have:=UInt8.toNat_lt (s[i.toNat]'h);omega
 ·omega
theorem rname_step (k:Nat) (s:ByteArray) (i:Nat) (hi:i<s.size):r10_Name.l0 (k+1) s (i:Int)=if nameD (bt s (i:Int))=true then r10_Name.l0 k s (wrap64 ((i:Int)+1)) else some false:=by
 simp only [r10_Name.l0];rw [if_pos (by omega),if_pos (by omega)]
 generalize bt s (i:Int)=c;generalize r10_Name.l0 k s (wrap64 ((i:Int)+1))=q;unfold nameD;by_cases a:97≤c <;> by_cases b:c≤122 <;> by_cases d:48≤c <;> by_cases e:c≤57 <;> by_cases f:c=46 <;> by_cases g:c=95 <;> by_cases h:c=45 <;> simp [a,b,d,e,f,g,h]
theorem rname_loop (s:ByteArray) (hs:s.size≤8) : ∀ (n k i:Nat),i+n=s.size→n<k→r10_Name.l0 k s (i:Int)=some ((List.range' i n).all (fun j=>nameC (bt s (j:Int)))):=by
 intro n;induction n with
 | zero =>
  intro k i hi hk;obtain ⟨k,rfl⟩ : ∃ m,k=m+1:=⟨k-1,by omega⟩
  simp only [r10_Name.l0];rw [if_neg (by omega)]
  rfl
 | succ n ih =>
  intro k i hi hk;obtain ⟨k,rfl⟩ : ∃ m,k=m+1:=⟨k-1,by omega⟩
  rw [rname_step k s i (by omega),wrap_in (by omega) (by omega),List.range'_succ,List.all_cons,nameD_eq _ (bt_range s _).1 (bt_range s _).2]
  have hi':=ih k (i+1) (by omega) (by omega)
  rw [show (((i+1:Nat)):Int)=(i:Int)+1 by omega] at hi'
  rw [hi'];cases nameD (bt s (i:Int)) <;> simp
theorem rname_f (s:ByteArray) (k:Nat) (hk:10<k):r10_Name.f k s=some (isNameB s):=by
 obtain ⟨k,rfl⟩ : ∃ m,k=m+1:=⟨k-1,by omega⟩
 unfold r10_Name.f isNameB;by_cases h1:s.size<1
 ·rw [if_pos (by omega),decide_eq_false (by omega)]
  simp [r10_Name.j0]
 ·rw [if_neg (by omega),decide_eq_true (by omega)]
  by_cases h2:s.size>8
  ·rw [if_pos (by omega),decide_eq_false (by omega)]
   simp [r10_Name.j0]
  ·rw [if_neg (by omega),decide_eq_true (by omega)]
   by_cases h3:s.toList = [46]
   ·rw [if_pos h3];simp [r10_Name.j0,h3]
   ·rw [if_neg h3];by_cases h4:s.toList = [46,46]
    ·simp [r10_Name.j0,h4]
    ·have e3:(s.toList == [46])=false:=by simpa using h3
     have e4:(s.toList == [46,46])=false:=by simpa using h4
     rw [e3,e4];simp only [r10_Name.j0];rw [if_neg (by decide)]
     have:=rname_loop s (by omega) s.size k 0 (by omega) (by omega)
     rw [← List.range_eq_range'] at this;simpa using this
end Go.Proofs.YtikjfekagdcjmaaGreatDoor.Q
