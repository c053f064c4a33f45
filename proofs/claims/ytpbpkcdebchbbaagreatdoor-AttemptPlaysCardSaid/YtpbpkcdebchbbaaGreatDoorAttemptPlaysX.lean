/- Some of the library's functions by the kit's contracts, over any program: how many digits a number has; its digits laid; words joined. -/
import Derived.Test.YtpbpkcdebchbbaaGreatDoorAttemptPlaysAe7
import Derived.Shelf.Strings.OnBuilder
import Derived.Shelf.Strconv.Itoa1
import Derived.Shelf.Strconv.Itoa2
import Derived.Shelf.Sort.Plain
import Derived.Shelf.Slices.CompactI
import Derived.Shelf.Slices.SearchI
import Derived.Test.YtpbpkcdebchbbaaGreatDoorProg
import Derived.KernelRfl
namespace Go.Proofs.YtpbpkcdebchbbaaGreatDoor
open Go Go.Ae Go.Shelf
def Dy:List AV→Option (List UInt8)
 |[]=>some []
 | .int .u8 (.ofNat n)::r=>bif Nat.ble (n+1) 256 then(Dy r).bind λs=>some (UInt8.ofNat n::s)else none
 |_=>none
def FV:WF:=λ_ l h=>match l with
 |[.int .u64 (.ofNat u)]=>bif Nat.ble 1 u&&Nat.ble (u+1) 18446744073709551616 then some (.int .i64 (.ofNat (Lib.nDigits u)),h)else none
 |_=>none
def tS (n u:Nat):List AV:=(List.range n).map λt=>.int .u8 (.ofNat (Lib.dg u (n-1-t)).toNat)
noncomputable def FX:WF:=λ_ l h=>match l with
 |[.slice b 0 n _ false,.int .u64 (.ofNat u)]=>
  (match h.get b with
  |some (.cells c e false)=>(match Dy (c.toList.take n)with
   |some bs=>bif Nat.beq bs.length n&&(Nat.ble (u+1) (10 ^ n)&&(Nat.ble (u+1) 18446744073709551616&&Nat.ble n 100))then some (.bm [],h.put b (.cells (CT.ofList (tS n u++c.toList.drop n)) e false))else none
   |none=>none)
  |_=>none)
 |_=>none
def KM:List AV→Option (List (List UInt8))
 |[]=>some []
 | .str s::r=>(KM r).bind λl=>some (s::l)
 |_=>none
noncomputable def Zi:WF:=λ_ l h=>match l with
 |[.slice b o n cap false,.str sep]=>
  (match h.get b with
  |some (.cells c _ _)=>(match KM ((c.toList.drop o).take n)with
   |some xs=>bif Nat.beq xs.length n&&(Nat.ble n cap&&(Nat.ble n 1000000&&Nat.ble (Lib.join xs sep).length 1000000))then some (.str (Lib.join xs sep),h)else none
   |none=>none)
  |_=>none)
 |_=>none
theorem qkF:∀{l:List AV} {bs:List UInt8},Dy l=some bs→l=bs.map λc=>.int .u8 (.ofNat c.toNat):=by
 intro l
 induction l with
 |nil=>intro bs h;cases h;rfl
 |cons a l ih=>
  intro bs h;unfold Dy at h
  split at h
  ·rename_i mK;cases mK
  ·rename_i n r mK;cases mK;cases hb:Nat.ble (n+1) 256
   ·rw[hb]at h;cases h
   ·rw[hb]at h;simp only[cond_true,Option.bind_eq_some_iff,Option.some.injEq]at h;obtain⟨s,hs,rfl⟩:=h;have:=Nat.le_of_ble_eq_true hb;rw[List.map_cons,← ih hs,UInt8.toNat_ofNat_of_lt' (by show n<256;omega)]
  ·cases h
theorem qWo:∀{l:List AV} {xs:List (List UInt8)},KM l=some xs→l=xs.map .str:=by
 intro l
 induction l with
 |nil=>intro bs h;cases h;rfl
 |cons a l ih=>
  intro bs h;unfold KM at h
  split at h
  ·rename_i mK;cases mK
  ·rename_i s r mK;cases mK;simp only[Option.bind_eq_some_iff,Option.some.injEq]at h;obtain⟨t,ht,rfl⟩:=h;rw[List.map_cons,← ih ht]
  ·cases h
variable {P:Program}
theorem qyA {f : Nat} (hg : ("internal/strconv.uint64pow10", IntKind.u64, Lib.pow10Tab) ∈ gtab)
  (hc : ∀ (u : Nat) (w : World), 1 ≤ u → u < 18446744073709551616 → Lib.TabIs P w "internal/strconv.uint64pow10" .u64 Lib.pow10Tab → Calls P f #[.int .u64 u] w fun e w' => e = .returned (.int .i64 (Lib.nDigits u)) ∧ w' = w) : pS P f FV := by
 intro c l h r e m D W RR hD n;unfold FV at e
 split at e
 rotate_left
 ·cases e
 rename_i u;cases hb:(Nat.ble 1 u&&Nat.ble (u+1) 18446744073709551616)
 ·rw[hb]at e;cases e
 rw[hb]at e;simp only[cond_true,Option.some.injEq]at e;simp only[Bool.and_eq_true]at hb;obtain⟨_,_,ht⟩:=RR.gl.gl _ hg;refine CallsIn.mono (callsIn_wide.2 (hc u W (Nat.le_of_ble_eq_true hb.1) (by have:=Nat.le_of_ble_eq_true hb.2;omega) ht)) ?_;rintro ee w' ⟨rfl,rfl⟩;subst e;exact⟨m,D,rfl,Ext.refl ..,RR,trivial⟩
theorem JH (n u:Nat):(tS n u).length=n:=by simp[tS]
theorem qyF {f:Nat} (hc:∀(bf off cap u:Nat) (d:Array UInt8) (w:World),Sort.Holds (λ(b:UInt8)=>Value.int .u8 (b.toNat:Int)) w bf off d→u<10 ^ d.size→u<18446744073709551616→d.size<4611686018427387904→
  Calls P f #[.slice (some ⟨bf,off,none⟩) d.size cap,.int .u64 u] w λe w'=>e=.returned (.tuple #[])∧∃(n v':Nat) (dk:Array UInt8),w'=(Sort.putRow (λ(b:UInt8)=>Value.int .u8 (b.toNat:Int)) w bf off dk).drewN n∧Lib.FmtInv d.size u 0 v' dk):pS P f FX:=by
 intro c l h r e m D W RR hD nn;unfold FX at e
 split at e
 rotate_left
 ·cases e
 rename_i b n cap u
 split at e
 rotate_left
 ·cases e
 rename_i ct ty rC
 split at e
 rotate_left
 ·cases e
 rename_i bs pY;cases hb:(Nat.beq bs.length n&&(Nat.ble (u+1) (10 ^ n)&&(Nat.ble (u+1) 18446744073709551616&&Nat.ble n 100)))
 ·rw[hb]at e;cases e
 rw[hb]at e;simp only[cond_true,Option.some.injEq]at e;simp only[Bool.and_eq_true]at hb;obtain⟨fU,eI,l7,FY⟩:=hb;have fU:=Nat.eq_of_beq_eq_true fU;have eI:=Nat.le_of_ble_eq_true eI;have l7:=Nat.le_of_ble_eq_true l7;have FY:=Nat.le_of_ble_eq_true FY;subst fU;have pB:D b:=hD.1;obtain⟨rest,fr,hh,mZ,hfz,_,hd⟩:=RR.cells pB rC;obtain rfl:=mZ rfl;simp only[List.append_nil,List.length_nil,Nat.add_zero]at hh hfz;have hC:=qkF pY;have hle:bs.length≤ct.toList.length:=by have:=congrArg List.length hC;simp at this;omega
 have bC:bs.toArray.size=bs.length:=by simp
 have da:∀j,j<bs.length→ct.toList[j]? =some (.int .u8 (.ofNat bs.toArray[j]!.toNat)):=by intro j hj;have:=congrArg (·[j]?) hC;simp only[List.getElem?_take_of_lt hj,List.getElem?_map,iW hj,Option.map_some]at this;rw[this];simp[hj]
 have H:Sort.Holds (λ(b:UInt8)=>Value.int .u8 (b.toNat:Int)) W (m b).1 0 bs.toArray:=by
  intro j hj;rw[bC]at hj;refine⟨?_,?_⟩
  ·unfold World.cell?;rw[Nat.zero_add];simp only[hh];simp[xW,da j hj,cv]
  ·unfold World.frozen?;rw[Nat.zero_add];simp only[hh];have:=hfz j omQ;simpa using this
 have key:=hc (m b).1 0 cap u bs.toArray W H (by rw[bC];omega) omQ (by rw[bC];omega);rw[bC]at key;refine CallsIn.mono (callsIn_wide.2 key) ?_;rintro ee w' ⟨rfl,q,v',dk,rfl,F⟩;subst e;have ij:aT D (tS bs.length u++ct.toList.drop bs.length):=by refine vp.2 ⟨(xh D _).2 ?_,(xh D _).2 λv hv=>(xh D _).1 hd v (List.mem_of_mem_drop hv)⟩;intro v hv;obtain⟨t,_,rfl⟩:=List.mem_map.1 hv;trivial
 obtain⟨X,R'⟩:=RR.put (w0:=(Sort.putRow (λ(b:UInt8)=>Value.int .u8 (b.toNat:Int)) W (m b).1 0 dk).drewN q) b (.cells (CT.ofList (tS bs.length u++ct.toList.drop bs.length)) ty false) pB ⟨_,rC,trivial⟩
  (by show(Sort.putRow _ W (m b).1 0 dk).heap.size=_;simp) (λk hk=>by
   show(Sort.putRow _ W (m b).1 0 dk).heap[k]? =_;simp only[Sort.putRow,Sort.mapBlock,Array.getElem?_modify]
   rw[iQ (λe=>hk e.symm)]) rfl rfl rfl (by show aT D (CT.ofList _).toList;rw[CT.aD];exact ij)
  (by
   refine⟨[],fr,?_,λ_=>rfl,?_,λh=>by cases h⟩
   ·show(Sort.putRow _ W (m b).1 0 dk).heap[(m b).1]? =_;simp only[Sort.putRow,Sort.mapBlock,Array.getElem?_modify,iJ,hh,Option.map_some,Sort.onCells,List.append_nil]
    congr 2
    rw[CT.aD];apply Array.ext_getElem?;intro k;simp only[Sort.putCells,Array.getElem?_mapIdx,List.getElem?_toArray,xW,List.getElem?_map,Nat.zero_le,true_and,Nat.zero_add,Nat.sub_zero,F.size];by_cases hk:k<bs.length
    ·rw[List.getElem?_append_left (by rw[JH];exact hk),da k hk];simp only[Option.map_some,iJ hk,tS,List.getElem?_map,List.getElem?_range hk,F.done k (Nat.zero_le _) hk];rfl
    ·rw[List.getElem?_append_right (by rw[JH];omega),JH,List.getElem?_drop,show bs.length+(k-bs.length)=k by omega];cases ct.toList[k]? with
     |none=>rfl
     |some y=>simp only[Option.map_some,iQ hk]
   ·intro i hi;refine hfz i ?_;rw[CT.aD]at hi;simp only[List.length_append,JH,List.length_drop,List.length_nil]at hi
    omega)
 exact⟨m,D,rfl,X,R',trivial⟩
theorem qq6 {f:Nat} (hc:∀(bk o c:Nat) (xs:List ByteArray) (sep:ByteArray) (w:World),
  (∀(j:Nat) x,xs[j]? =some x→w.cell? ⟨bk,o+j,none⟩=some (.string x))→bk<w.heap.size→xs.length≤140737488355328→xs.length≤c→(Lib.join (xs.map (·.data.toList)) sep.data.toList).length≤140737488355328→
  Calls P f #[.slice (some ⟨bk,o,none⟩) xs.length c,.string sep] w λe w'=>e=.returned (.string ⟨(Lib.join (xs.map (·.data.toList)) sep.data.toList).toArray⟩)∧RowKit.Below w.heap.size w w'):pS P f Zi:=by
 intro c l h r e m D W RR hD nn;unfold Zi at e
 split at e
 rotate_left
 ·cases e
 rename_i b o n cap sep
 split at e
 rotate_left
 ·cases e
 rename_i ct ty op rC
 split at e
 rotate_left
 ·cases e
 rename_i xs Lt;cases hb:(Nat.beq xs.length n&&(Nat.ble n cap&&(Nat.ble n 1000000&&Nat.ble (Lib.join xs sep).length 1000000)))
 ·rw[hb]at e;cases e
 rw[hb]at e;simp only[cond_true,Option.some.injEq]at e;simp only[Bool.and_eq_true]at hb;obtain⟨fU,eI,l7,FY⟩:=hb;have fU:=Nat.eq_of_beq_eq_true fU;have eI:=Nat.le_of_ble_eq_true eI;have l7:=Nat.le_of_ble_eq_true l7;have FY:=Nat.le_of_ble_eq_true FY;subst fU;have pB:D b:=hD.1;obtain⟨rest,fr,hh,_,_,_,_⟩:=RR.cells pB rC;have hC:=qWo Lt
 have key:=hc (m b).1 o cap (xs.map λx=>⟨x.toArray⟩) ⟨sep.toArray⟩ W (by
  intro j x hj;rw[List.getElem?_map]at hj;obtain⟨y,hy,rfl⟩:=Option.map_eq_some_iff.1 hj;have l9:=(List.getElem?_eq_some_iff.1 hy).1;have:=congrArg (·[j]?) hC;simp only[List.getElem?_take_of_lt l9,List.getElem?_drop,List.getElem?_map,hy,Option.map_some]at this;have ae:=(List.getElem?_eq_some_iff.1 this).1;unfold World.cell?;simp only[hh];simp only[Option.isSome_none,Bool.false_eq_true,if_false,List.getElem?_toArray];rw[List.getElem?_append_left (by simpa using ae),xW,List.getElem?_map,this]
  rfl) (by
  rcases Nat.lt_or_ge (m b).1 W.heap.size with h' |h'
  ·exact h'
  ·rw[Array.getElem?_eq_none h']at hh;cases hh) (by rw[List.length_map];omega) (by rw[List.length_map];omega) (by
  rw[List.map_map,show(λ(x:ByteArray)=>x.data.toList) ∘ (λ(x:List UInt8)=>(⟨x.toArray⟩:ByteArray))=id from by funext x;simp,List.map_id];show(Lib.join xs sep.toArray.toList).length≤_
  rw[List.toList_toArray];omega)
 rw[List.length_map,List.map_map,show(λ(x:ByteArray)=>x.data.toList) ∘ (λ(x:List UInt8)=>(⟨x.toArray⟩:ByteArray))=id from by funext x;simp,List.map_id]at key;refine CallsIn.mono (callsIn_wide.2 key) ?_;rintro ee w' ⟨rfl,B⟩;subst e;obtain⟨X,R'⟩:=Xr RR B;refine⟨m,D,?_,X,R',trivial⟩;show Ending.returned _=Ending.returned (.string _);simp
def A0:List AV→Option (List Int)
 |[]=>some []
 | .int .i64 x::r=>(A0 r).bind λs=>some (x::s)
 |_=>none
def Dz (x:Int):List Int→List Int
 |[]=>[x]
 |y::r=>if x≤y then x::y::r else y::Dz x r
def QR:List Int→List Int
 |[]=>[]
 |x::r=>Dz x (QR r)
def VG:List Int→Bool
 |[]=>true
 |[_]=>true
 |x::y::r=>decide (x≤y)&&VG (y::r)
noncomputable def FZ:WF:=λ_ l h=>match l with
 |[.slice b 0 n _ _]=>
  (match h.get b with
  |some (.cells c e o)=>(match A0 (c.toList.take n)with
   |some zs=>bif Nat.beq zs.length n&&Nat.ble n 1000000 then some (.bm [],h.put b (.cells (CT.ofList ((QR zs).map (.int .i64)++c.toList.drop n)) e o))else none
   |none=>none)
  |_=>none)
 |_=>none
noncomputable def Ou (e0:TypeId):WF:=λ_ l h=>match l with
 |[.slice b 0 n cap q]=>
  (match h.get b with
  |some (.cells c e o)=>(match A0 (c.toList.take n)with
   |some zs=>bif Nat.beq zs.length n&&(Nat.ble n 1000000&&(bif q then Nat.beq cap 0&&(o&&Nat.beq e e0)else Nat.ble n cap))then some (.slice b 0 (Lib.compact zs).length cap q,
     h.put b (.cells (CT.ofList ((Lib.compact zs++List.replicate (zs.length-(Lib.compact zs).length) 0).map (.int .i64)++c.toList.drop n)) e o))else none
   |none=>none)
  |_=>none)
 |_=>none
noncomputable def Ot:WF:=λ_ l h=>match l with
 |[.slice b 0 n _ _,.int .i64 x]=>
  (match h.get b with
  |some (.cells c _ _)=>(match A0 (c.toList.take n)with
   |some zs=>bif Nat.beq zs.length n&&(Nat.ble n 1000000&&VG zs)then some (.bm [.int .i64 (zs.countP (· <x):Nat),.bool (zs.contains x)],h)else none
   |none=>none)
  |_=>none)
 |_=>none
theorem Rm:∀{l:List AV} {zs:List Int},A0 l=some zs→l=zs.map (.int .i64):=by
 intro l
 induction l with
 |nil=>intro bs h;cases h;rfl
 |cons a l ih=>
  intro bs h;unfold A0 at h
  split at h
  ·rename_i mK;cases mK
  ·rename_i x r mK;cases mK;simp only[Option.bind_eq_some_iff,Option.some.injEq]at h;obtain⟨s,hs,rfl⟩:=h;rw[List.map_cons,← ih hs]
  ·cases h
theorem Nm:∀(zs:List Int),A0 (zs.map (.int .i64))=some zs:=by
 intro zs
 induction zs with
 |nil=>rfl
 |cons x zs ih=>rw[List.map_cons];unfold A0;rw[ih];rfl
theorem ME (x:Int):∀l,(Dz x l).Perm (x::l):=by
 intro l
 induction l with
 |nil=>exact .refl _
 |cons y r ih=>
  unfold Dz
  split
  ·exact .refl _
  ·exact(ih.cons y).trans (.swap ..)
theorem Xw:∀l,(QR l).Perm l:=by
 intro l
 induction l with
 |nil=>exact .refl _
 |cons x r ih=>exact(ME ..).trans (ih.cons x)
theorem qQN (x:Int):∀{l:List Int},l.Pairwise (· ≤ ·)→(Dz x l).Pairwise (· ≤ ·):=by
 intro l
 induction l with
 |nil=>intro _;exact List.pairwise_singleton ..
 |cons y r ih=>
  intro h;have h1:=List.pairwise_cons.1 h;unfold Dz
  split
  ·rename_i W9;refine List.pairwise_cons.2 ⟨λa ha=>?_,h⟩;rcases List.mem_cons.1 ha with rfl |ha
   ·exact W9
   ·exact Int.le_trans W9 (h1.1 a ha)
  ·refine List.pairwise_cons.2 ⟨λa ha=>?_,ih h1.2⟩;rcases List.mem_cons.1 ((ME x r).mem_iff.1 ha)with rfl |ha
   ·omega
   ·exact h1.1 a ha
theorem YD:∀l,(QR l).Pairwise (· ≤ ·):=by
 intro l
 induction l with
 |nil=>exact List.Pairwise.nil
 |cons x r ih=>exact qQN x ih
theorem Vt (l:List Int):(QR l).length=l.length:=(Xw l).length_eq
theorem qKm (l:List Int):l.mergeSort (λx y=>decide (x≤y))=QR l:=by refine List.Perm.eq_of_pairwise (le:=λx y:Int=>x≤y) (λa b _ _ h1 h2=>by omega) ?_ (YD l) ((List.mergeSort_perm ..).trans (Xw l).symm);exact(List.pairwise_mergeSort (λa b c h1 h2=>by simp at*;omega) (λa b=>by simp;omega) l).imp λh=>by simpa using h
theorem qqo:∀{l:List Int},VG l=true→l.Pairwise (· ≤ ·):=by
 intro l
 induction l with
 |nil=>intro _;exact List.Pairwise.nil
 |cons x r ih=>
  intro h;cases r with
  |nil=>exact List.pairwise_singleton ..
  |cons y r=>
   unfold VG at h;simp only[Bool.and_eq_true,decide_eq_true_eq]at h;have:=ih h.2;refine List.pairwise_cons.2 ⟨λa ha=>?_,this⟩;rcases List.mem_cons.1 ha with rfl |ha
   ·exact h.1
   ·exact Int.le_trans h.1 ((List.pairwise_cons.1 this).1 a ha)
theorem V9 {enc:Int→Value} {A:List Value} {dk:List Int} (h:dk.length≤A.length):Sort.putCells enc 0 dk.toArray A.toArray=(dk.map enc++A.drop dk.length).toArray:=by
 apply Array.ext_getElem?;intro k;simp only[Sort.putCells,Array.getElem?_mapIdx,List.getElem?_toArray,Nat.zero_le,true_and,Nat.zero_add,Nat.sub_zero,List.size_toArray];by_cases hk:k<dk.length
 ·rw[List.getElem?_append_left (by simpa using hk),List.getElem?_map,iW hk,iW (show k<A.length by omega)];simp[hk]
 ·rw[List.getElem?_append_right (by simp;omega),List.length_map,List.getElem?_drop,show dk.length+(k-dk.length)=k by omega];cases A[k]? with
  |none=>rfl
  |some y=>simp only[Option.map_some,iQ hk]
section
variable {P:Program} {m:Mp} {D:Nat→Prop} {h:AH} {W:World} {b n:Nat} {c:CT} {e:TypeId} {o:Bool}
theorem Rn (RR:Rel P m D h W) (hD:D b) (hg:h.get b=some (.cells c e o)) {zs:List Int} (hz:c.toList.take n=zs.map (.int .i64)) (hl:zs.length=n):Sort.Holds (Value.int .i64) W (m b).1 0 zs.toArray∧(m b).1<W.heap.size:=by
 obtain⟨rest,fr,hh,_,hfz,_,_⟩:=RR.cells hD hg;have hle:n≤c.toList.length:=by have:=congrArg List.length hz;simp at this;omega
 refine⟨λj hj=>?_,?_⟩
 ·have hj:j<zs.length:=by simpa using hj
  have ha:c.toList[j]? =some (.int .i64 zs[j]):=by have:=congrArg (·[j]?) hz;simp only[List.getElem?_take_of_lt (show j<n by omega),List.getElem?_map,iW hj,Option.map_some]at this;exact this
  refine⟨?_,?_⟩
  ·unfold World.cell?;rw[Nat.zero_add];simp only[hh];simp only[Option.isSome_none,Bool.false_eq_true,if_false,List.getElem?_toArray];rw[List.getElem?_append_left (by rw[xW,List.length_map];omega),xW,List.getElem?_map,ha];simp[cv,hj]
  ·unfold World.frozen?;rw[Nat.zero_add];simp only[hh];have:=hfz j omQ;simpa using this
 ·rcases Nat.lt_or_ge (m b).1 W.heap.size with h' |h'
  ·exact h'
  ·rw[Array.getElem?_eq_none h']at hh;cases hh
theorem qKc (RR:Rel P m D h W) (hD:D b) (hg:h.get b=some (.cells c e o)) {zs dk:List Int} (hz:c.toList.take n=zs.map (.int .i64)) (hl:zs.length=n) (hd:dk.length=n) (q:Nat) :
  Ext m D h W m D (h.put b (.cells (CT.ofList (dk.map (.int .i64)++c.toList.drop n)) e o)) (Sort.putRow (Value.int .i64) (Sort.ahead W q) (m b).1 0 dk.toArray)∧
   Rel P m D (h.put b (.cells (CT.ofList (dk.map (.int .i64)++c.toList.drop n)) e o)) (Sort.putRow (Value.int .i64) (Sort.ahead W q) (m b).1 0 dk.toArray):=by
 obtain⟨rest,fr,hh,mZ,hfz,fL,cM⟩:=RR.cells hD hg;have hle:n≤c.toList.length:=by have:=congrArg List.length hz;simp at this;omega
 have r9:(dk.map (AV.int .i64)++c.toList.drop n).length=c.toList.length:=by simp;omega
 refine RR.put b _ hD ⟨_,hg,trivial⟩ (by show(Sort.putRow _ W (m b).1 0 _).heap.size=_;simp) (λk hk=>by
  show(Sort.putRow _ W (m b).1 0 _).heap[k]? =_;simp only[Sort.putRow,Sort.mapBlock,Array.getElem?_modify]
  rw[iQ (λe=>hk e.symm)]) rfl rfl rfl (by
   show aT D (CT.ofList _).toList;rw[CT.aD];refine vp.2 ⟨(xh D _).2 λv hv=>?_,(xh D _).2 λv hv=>(xh D _).1 cM v (List.mem_of_mem_drop hv)⟩;obtain⟨t,_,rfl⟩:=List.mem_map.1 hv
   trivial) ?_
 refine⟨rest,fr,?_,mZ,?_,?_⟩
 ·show(Sort.putRow _ W (m b).1 0 _).heap[(m b).1]? =_;simp only[Sort.putRow,Sort.mapBlock,Array.getElem?_modify,iJ,hh,Option.map_some,Sort.onCells];rw[V9 (by rw[List.length_append,xW,List.length_map];omega),CT.aD,hd,xW,xW,List.map_append,List.map_map,List.drop_append_of_le_length (by rw[List.length_map];exact hle),List.append_assoc,List.map_drop];rfl
 ·rw[CT.aD,r9];exact hfz
 ·rw[CT.aD,r9];exact fL
theorem qKi (RR:Rel P m D h W) (q:Nat):Ext m D h W m D h (W.drewN q)∧Rel P m D h (W.drewN q):=Xr RR { os:=rfl,tape:=rfl,output:=rfl,size:=Nat.le_refl _,block:=λ_ _=>rfl }
theorem qzr {W0:World} (RR:Rel P m D h W0) (os:Array Obj):Ext m D h W0 m D h (Sort.grow W0 os)∧Rel P m D h (Sort.grow W0 os):=Xr RR { os:=rfl,tape:=rfl,output:=rfl,size:=by simp[Sort.grow],block:=λc hc=>by simp[Sort.grow,Array.getElem?_append_left hc] }
end
variable {P:Program}
theorem qzB {f:Nat} (hc:∀(bf off cap:Nat) (zs:List Int) (w:World),Sort.Holds (Value.int .i64) w bf off zs.toArray→bf<w.heap.size→zs.length<4611686018427387904→
  Calls P f #[.slice (some ⟨bf,off,none⟩) zs.length cap] w λe w'=>e=.returned (.tuple #[])∧∃n os,w'=Sort.grow (Sort.putRow (Value.int .i64) (Sort.ahead w n) bf off (zs.mergeSort λx y=>decide (x≤y)).toArray) os):pS P f FZ:=by
 intro c l h r e m D W RR hD nn;unfold FZ at e
 split at e
 rotate_left
 ·cases e
 rename_i b n cap q
 split at e
 rotate_left
 ·cases e
 rename_i ct ty o rC
 split at e
 rotate_left
 ·cases e
 rename_i zs F3;cases hb:(Nat.beq zs.length n&&Nat.ble n 1000000)
 ·rw[hb]at e;cases e
 rw[hb]at e;simp only[cond_true,Option.some.injEq]at e;simp only[Bool.and_eq_true]at hb;have fU:=Nat.eq_of_beq_eq_true hb.1;have eI:=Nat.le_of_ble_eq_true hb.2;have pB:D b:=hD.1;have hC:=Rm F3;obtain⟨H,ae⟩:=Rn RR pB rC hC fU;obtain⟨cp,BP⟩:∃cp,aQ m [.slice b 0 n cap q]=[.slice (some ⟨(m b).1,0,none⟩) n cp]:=⟨_,rfl⟩;rw[BP];have key:=hc (m b).1 0 cp zs W H ae omQ;rw[fU]at key;refine CallsIn.mono (callsIn_wide.2 key) ?_;rintro ee w' ⟨rfl,k,os,rfl⟩;subst e;rw[qKm];obtain⟨X,R'⟩:=qKc RR pB rC hC fU (dk:=QR zs) (by rw[Vt];exact fU) k;obtain⟨X2,R2⟩:=qzr R' os;exact⟨m,D,rfl,X.trans X2,R2,trivial⟩
theorem qXa (zs:List Int):(Lib.compact zs).length≤zs.length:=by unfold Lib.compact Lib.compactUpTo;rw[List.length_map];exact Nat.le_trans (List.length_filter_le ..) (by rw[List.length_range];exact Nat.le_refl _)
theorem qj9 {f:Nat} {e0:TypeId} (h0:aM P e0=some 1) (hc:∀(bf off cap:Nat) (zs:List Int) (w:World),Sort.Holds (Value.int .i64) w bf off zs.toArray→zs.length≤9223372036854775807→zs.length≤cap→
  Calls P f #[.slice (some ⟨bf,off,none⟩) zs.length cap] w λe w'=>e=.returned (.slice (some ⟨bf,off,none⟩) (Lib.compact zs).length cap)∧∃q,w'=Sort.putRow (Value.int .i64) (Sort.ahead w q) bf off (Lib.compact zs++List.replicate (zs.length-(Lib.compact zs).length) 0).toArray):pS P f (Ou e0):=by
 intro c l h r e m D W RR hD nn;unfold Ou at e
 split at e
 rotate_left
 ·cases e
 rename_i b n cap q
 split at e
 rotate_left
 ·cases e
 rename_i ct ty o rC
 split at e
 rotate_left
 ·cases e
 rename_i zs F3;cases hb:(Nat.beq zs.length n&&(Nat.ble n 1000000&&(bif q then Nat.beq cap 0&&(o&&Nat.beq ty e0)else Nat.ble n cap)))
 ·rw[hb]at e;cases e
 rw[hb]at e;simp only[cond_true,Option.some.injEq]at e;simp only[Bool.and_eq_true]at hb;have fU:=Nat.eq_of_beq_eq_true hb.1;have eI:=Nat.le_of_ble_eq_true hb.2.1;have pB:D b:=hD.1;have hC:=Rm F3;obtain⟨H,ae⟩:=Rn RR pB rC hC fU;obtain⟨cp,BP,hr,sH⟩:∃cp,aQ m [.slice b 0 n cap q]=[.slice (some ⟨(m b).1,0,none⟩) n cp]∧(∀k,cv m (.slice b 0 k cap q)=.slice (some ⟨(m b).1,0,none⟩) k cp)∧n≤cp:=by
  refine⟨_,rfl,λ_=>rfl,?_⟩;have h3:=hb.2.2;cases q with
  |false=>exact Nat.le_of_ble_eq_true h3
  |true=>
   simp only[cond_true,Bool.and_eq_true]at h3;have k1:=Nat.eq_of_beq_eq_true h3.1;have k2:=Nat.eq_of_beq_eq_true h3.2.2;obtain⟨rest,fr,_,_,_,fL,_⟩:=RR.cells pB rC;have:=(fL h3.2.1 1 (by rw[k2];exact h0)).1;have hle:n≤ct.toList.length:=by have:=congrArg List.length hC;simp at this;omega
   show n≤(m b).2-cap;omega
 rw[BP];have key:=hc (m b).1 0 cp zs W H omQ (by rw[fU];exact sH);rw[fU]at key;refine CallsIn.mono (callsIn_wide.2 key) ?_;rintro ee w' ⟨rfl,k,rfl⟩;subst e;have hle:=qXa zs;rw[fU];obtain⟨X,R'⟩:=qKc RR pB rC hC fU (dk:=Lib.compact zs++List.replicate (n-(Lib.compact zs).length) 0) (by simp;omega) k;exact⟨m,D,by rw[hr],X,R',pB⟩
theorem qjI {f:Nat} (hc:∀(b off n c:Nat) (zs:List Int) (x:Int) (w:World),n≤zs.length→n<4611686018427387904→(∀j,j<zs.length→w.cell? ⟨b,off+j,none⟩=some (.int .i64 (zs.getD j 0)))→(zs.take n).Pairwise (· ≤ ·)→
  Calls P f #[.slice (some ⟨b,off,none⟩) n c,.int .i64 x] w λe w'=>e=.returned (.tuple #[.int .i64 ((zs.take n).countP (· <x):Nat),.bool ((zs.take n).contains x)])∧∃q,w'=w.drewN q):pS P f Ot:=by
 intro c l h r e m D W RR hD nn;unfold Ot at e
 split at e
 rotate_left
 ·cases e
 rename_i b n cap q x
 split at e
 rotate_left
 ·cases e
 rename_i ct ty o rC
 split at e
 rotate_left
 ·cases e
 rename_i zs F3;cases hb:(Nat.beq zs.length n&&(Nat.ble n 1000000&&VG zs))
 ·rw[hb]at e;cases e
 rw[hb]at e;simp only[cond_true,Option.some.injEq]at e;simp only[Bool.and_eq_true]at hb;have fU:=Nat.eq_of_beq_eq_true hb.1;have eI:=Nat.le_of_ble_eq_true hb.2.1;have pB:D b:=hD.1;obtain⟨H,_⟩:=Rn RR pB rC (Rm F3) fU;have tk:zs.take n=zs:=List.take_of_length_le omQ;obtain⟨cp,BP⟩:∃cp,aQ m [.slice b 0 n cap q,.int .i64 x]=[.slice (some ⟨(m b).1,0,none⟩) n cp,.int .i64 x]:=⟨_,rfl⟩;rw[BP]
 have key:=hc (m b).1 0 n cp zs x W omQ omQ (λj hj=>by
  rw[(H j (by simpa using hj)).1]
  simp[hj]) (by rw[tk];exact qqo hb.2.2)
 rw[tk]at key;refine CallsIn.mono (callsIn_wide.2 key) ?_;rintro ee w' ⟨rfl,k,rfl⟩;subst e;obtain⟨X,R'⟩:=qKi RR k;exact⟨m,D,rfl,X,R',trivial,trivial,trivial⟩
def Kb:Go.Shelf.Ren:=⟨fun | 156=>144 | 165=>190 | 166=>191 | 169=>192 | 240=>229 | 241=>230 | 276=>261 | 277=>262 |n=>n,fun | 31=>207 | 9=>9 | 3=>3 | 4=>4 | 0=>0 | 20=>20 | 72=>261 | 76=>264 | 70=>259 | 37=>28 | 75=>263 | 127=>297 | 164=>326 | 5=>5 | 80=>81 |n=>n,fun |n=>n⟩
theorem qg1:Go.Proofs.Lays.n156 Tryz.prog Kb:={
 mixed:=by kernel_rfl
 f156:=Tryz.func144.trans (congrArg some (by kernel_rfl))
 f165:=Tryz.func190.trans (congrArg some (by kernel_rfl))
 f166:=Tryz.func191.trans (congrArg some (by kernel_rfl))
 f169:=Tryz.func192.trans (congrArg some (by kernel_rfl))
 f240:=Tryz.func229.trans (congrArg some (by kernel_rfl))
 f241:=Tryz.func230.trans (congrArg some (by kernel_rfl))
 f276:=Tryz.func261.trans (congrArg some (by kernel_rfl))
 f277:=Tryz.func262.trans (congrArg some (by kernel_rfl))
 t0:=Tryz.underlying0
 a0:=Tryz.isAgg0
 z0:=Tryz.sizeOf0
 v0:=Tryz.zeroValue0
 t3:=Tryz.underlying3
 a3:=Tryz.isAgg3
 z3:=Tryz.sizeOf3
 v3:=Tryz.zeroValue3
 t4:=Tryz.underlying4
 a4:=Tryz.isAgg4
 z4:=Tryz.sizeOf4
 v4:=Tryz.zeroValue4
 t9:=Tryz.underlying9
 a9:=Tryz.isAgg9
 z9:=Tryz.sizeOf9
 v9:=Tryz.zeroValue9
 t20:=Tryz.underlying20
 a20:=Tryz.isAgg20
 z20:=Tryz.sizeOf20
 v20:=Tryz.zeroValue20
 t31:=Tryz.underlying207
 a31:=Tryz.isAgg207
 z31:=Tryz.sizeOf207
 v31:=Tryz.zeroValue207
 t37:=Tryz.underlying28
 a37:=Tryz.isAgg28
 z37:=Tryz.sizeOf28
 v37:=Tryz.zeroValue28
 t70:=Tryz.underlying259
 a70:=Tryz.isAgg259
 z70:=Tryz.sizeOf259
 v70:=Tryz.zeroValue259
 t72:=Tryz.underlying261
 a72:=Tryz.isAgg261
 z72:=Tryz.sizeOf261
 v72:=Tryz.zeroValue261
 t75:=Tryz.underlying263
 a75:=Tryz.isAgg263
 z75:=Tryz.sizeOf263
 v75:=Tryz.zeroValue263
 t76:=Tryz.underlying264
 a76:=Tryz.isAgg264
 z76:=Tryz.sizeOf264
 v76:=Tryz.zeroValue264
 t127:=Tryz.underlying297
 a127:=Tryz.isAgg297
 z127:=Tryz.sizeOf297
 v127:=Tryz.zeroValue297
 t164:=Tryz.underlying326
 a164:=Tryz.isAgg326
 z164:=Tryz.sizeOf326
 v164:=Tryz.zeroValue326 }
def Zk:Go.Shelf.Ren:=⟨fun | 284=>258 | 129=>304 | 317=>310 | 318=>311 |n=>n,fun | 53=>22 | 3=>3 | 212=>361 | 0=>0 | 4=>4 | 46=>154 | 5=>5 | 9=>9 |n=>n,fun | 17=>0 |n=>n⟩
theorem qgD:Go.Proofs.LaysM.n284 Tryz.prog Zk:={
 mixed:=by kernel_rfl
 f129:=Tryz.func304.trans (congrArg some (by kernel_rfl))
 f284:=Tryz.func258.trans (congrArg some (by kernel_rfl))
 f317:=Tryz.func310.trans (congrArg some (by kernel_rfl))
 f318:=Tryz.func311.trans (congrArg some (by kernel_rfl))
 t0:=Tryz.underlying0
 a0:=Tryz.isAgg0
 z0:=Tryz.sizeOf0
 v0:=Tryz.zeroValue0
 t3:=Tryz.underlying3
 a3:=Tryz.isAgg3
 z3:=Tryz.sizeOf3
 v3:=Tryz.zeroValue3
 t4:=Tryz.underlying4
 a4:=Tryz.isAgg4
 z4:=Tryz.sizeOf4
 v4:=Tryz.zeroValue4
 t5:=Tryz.underlying5
 a5:=Tryz.isAgg5
 z5:=Tryz.sizeOf5
 v5:=Tryz.zeroValue5
 t9:=Tryz.underlying9
 a9:=Tryz.isAgg9
 z9:=Tryz.sizeOf9
 v9:=Tryz.zeroValue9
 t46:=Tryz.underlying154
 a46:=Tryz.isAgg154
 z46:=Tryz.sizeOf154
 v46:=Tryz.zeroValue154
 t53:=Tryz.underlying22
 a53:=Tryz.isAgg22
 z53:=Tryz.sizeOf22
 v53:=Tryz.zeroValue22
 t212:=Tryz.underlying361
 a212:=Tryz.isAgg361
 z212:=Tryz.sizeOf361
 v212:=Tryz.zeroValue361
 g17:=by kernel_rfl
 i0:=by kernel_rfl
 i3:=by kernel_rfl
 i4:=by kernel_rfl
 i5:=by kernel_rfl
 i9:=by kernel_rfl
 i46:=by kernel_rfl
 i53:=by kernel_rfl
 i212:=by kernel_rfl
 m17:=by kernel_rfl }
def qQh:Go.Shelf.Ren:=⟨fun | 285=>259 |n=>n,fun | 37=>28 | 53=>22 | 3=>3 | 4=>4 | 51=>359 | 9=>9 | 5=>5 | 0=>0 |n=>n,fun |n=>n⟩
theorem qwA:Go.Proofs.Lays.n285 Tryz.prog qQh:={
 mixed:=by kernel_rfl
 f285:=Tryz.func259.trans (congrArg some (by kernel_rfl))
 t0:=Tryz.underlying0
 a0:=Tryz.isAgg0
 z0:=Tryz.sizeOf0
 v0:=Tryz.zeroValue0
 t3:=Tryz.underlying3
 a3:=Tryz.isAgg3
 z3:=Tryz.sizeOf3
 v3:=Tryz.zeroValue3
 t4:=Tryz.underlying4
 a4:=Tryz.isAgg4
 z4:=Tryz.sizeOf4
 v4:=Tryz.zeroValue4
 t5:=Tryz.underlying5
 a5:=Tryz.isAgg5
 z5:=Tryz.sizeOf5
 v5:=Tryz.zeroValue5
 t9:=Tryz.underlying9
 a9:=Tryz.isAgg9
 z9:=Tryz.sizeOf9
 v9:=Tryz.zeroValue9
 t37:=Tryz.underlying28
 a37:=Tryz.isAgg28
 z37:=Tryz.sizeOf28
 v37:=Tryz.zeroValue28
 t51:=Tryz.underlying359
 a51:=Tryz.isAgg359
 z51:=Tryz.sizeOf359
 v51:=Tryz.zeroValue359
 t53:=Tryz.underlying22
 a53:=Tryz.isAgg22
 z53:=Tryz.sizeOf22
 v53:=Tryz.zeroValue22 }
def Za:Go.Shelf.Ren:=⟨fun | 189=>211 | 125=>247 | 257=>246 | 128=>303 | 129=>304 | 294=>294 | 295=>295 | 296=>296 | 297=>297 | 298=>298 | 299=>299 | 216=>300 | 300=>301 | 301=>302 | 328=>361 | 329=>362 | 330=>363 | 331=>364 | 332=>365 | 215=>366 | 343=>389 |n=>n,fun | 28=>42 | 3=>3 | 46=>154 | 0=>0 | 51=>359 | 53=>22 | 4=>4 | 183=>353 | 182=>352 | 131=>312 | 5=>5 | 9=>9 | 218=>388 | 222=>391 | 228=>406 | 229=>368 |n=>n,fun |n=>n⟩
theorem qxt:Go.Proofs.Lays.n189 Tryz.prog Za:={
 mixed:=by kernel_rfl
 f125:=Tryz.func247.trans (congrArg some (by kernel_rfl))
 f128:=Tryz.func303.trans (congrArg some (by kernel_rfl))
 f129:=Tryz.func304.trans (congrArg some (by kernel_rfl))
 f189:=Tryz.func211.trans (congrArg some (by kernel_rfl))
 f215:=Tryz.func366.trans (congrArg some (by kernel_rfl))
 f216:=Tryz.func300.trans (congrArg some (by kernel_rfl))
 f257:=Tryz.func246.trans (congrArg some (by kernel_rfl))
 f294:=Tryz.func294.trans (congrArg some (by kernel_rfl))
 f295:=Tryz.func295.trans (congrArg some (by kernel_rfl))
 f296:=Tryz.func296.trans (congrArg some (by kernel_rfl))
 f297:=Tryz.func297.trans (congrArg some (by kernel_rfl))
 f298:=Tryz.func298.trans (congrArg some (by kernel_rfl))
 f299:=Tryz.func299.trans (congrArg some (by kernel_rfl))
 f300:=Tryz.func301.trans (congrArg some (by kernel_rfl))
 f301:=Tryz.func302.trans (congrArg some (by kernel_rfl))
 f328:=Tryz.func361.trans (congrArg some (by kernel_rfl))
 f329:=Tryz.func362.trans (congrArg some (by kernel_rfl))
 f330:=Tryz.func363.trans (congrArg some (by kernel_rfl))
 f331:=Tryz.func364.trans (congrArg some (by kernel_rfl))
 f332:=Tryz.func365.trans (congrArg some (by kernel_rfl))
 f343:=Tryz.func389.trans (congrArg some (by kernel_rfl))
 t0:=Tryz.underlying0
 a0:=Tryz.isAgg0
 z0:=Tryz.sizeOf0
 v0:=Tryz.zeroValue0
 t3:=Tryz.underlying3
 a3:=Tryz.isAgg3
 z3:=Tryz.sizeOf3
 v3:=Tryz.zeroValue3
 t4:=Tryz.underlying4
 a4:=Tryz.isAgg4
 z4:=Tryz.sizeOf4
 v4:=Tryz.zeroValue4
 t5:=Tryz.underlying5
 a5:=Tryz.isAgg5
 z5:=Tryz.sizeOf5
 v5:=Tryz.zeroValue5
 t9:=Tryz.underlying9
 a9:=Tryz.isAgg9
 z9:=Tryz.sizeOf9
 v9:=Tryz.zeroValue9
 t28:=Tryz.underlying42
 a28:=Tryz.isAgg42
 z28:=Tryz.sizeOf42
 v28:=Tryz.zeroValue42
 t46:=Tryz.underlying154
 a46:=Tryz.isAgg154
 z46:=Tryz.sizeOf154
 v46:=Tryz.zeroValue154
 t51:=Tryz.underlying359
 a51:=Tryz.isAgg359
 z51:=Tryz.sizeOf359
 v51:=Tryz.zeroValue359
 t53:=Tryz.underlying22
 a53:=Tryz.isAgg22
 z53:=Tryz.sizeOf22
 v53:=Tryz.zeroValue22
 t131:=Tryz.underlying312
 a131:=Tryz.isAgg312
 z131:=Tryz.sizeOf312
 v131:=Tryz.zeroValue312
 t182:=Tryz.underlying352
 a182:=Tryz.isAgg352
 z182:=Tryz.sizeOf352
 v182:=Tryz.zeroValue352
 t183:=Tryz.underlying353
 a183:=Tryz.isAgg353
 z183:=Tryz.sizeOf353
 v183:=Tryz.zeroValue353
 t218:=Tryz.underlying388
 a218:=Tryz.isAgg388
 z218:=Tryz.sizeOf388
 v218:=Tryz.zeroValue388
 t222:=Tryz.underlying391
 a222:=Tryz.isAgg391
 z222:=Tryz.sizeOf391
 v222:=Tryz.zeroValue391
 t228:=Tryz.underlying406
 a228:=Tryz.isAgg406
 z228:=Tryz.sizeOf406
 v228:=Tryz.zeroValue406
 t229:=Tryz.underlying368
 a229:=Tryz.isAgg368
 z229:=Tryz.sizeOf368
 v229:=Tryz.zeroValue368 }
def On:Go.Shelf.Ren:=⟨fun | 20=>212 |n=>n,fun | 22=>42 | 3=>3 | 4=>4 | 0=>0 |n=>n,fun |n=>n⟩
theorem qvU:Go.Proofs.Lays2.n20 Tryz.prog On:={
 mixed:=by kernel_rfl
 f20:=Tryz.func212.trans (congrArg some (by kernel_rfl))
 t0:=Tryz.underlying0
 a0:=Tryz.isAgg0
 z0:=Tryz.sizeOf0
 v0:=Tryz.zeroValue0
 t3:=Tryz.underlying3
 a3:=Tryz.isAgg3
 z3:=Tryz.sizeOf3
 v3:=Tryz.zeroValue3
 t4:=Tryz.underlying4
 a4:=Tryz.isAgg4
 z4:=Tryz.sizeOf4
 v4:=Tryz.zeroValue4
 t22:=Tryz.underlying42
 a22:=Tryz.isAgg42
 z22:=Tryz.sizeOf42
 v22:=Tryz.zeroValue42
 i3:=by kernel_rfl }
def Zt:Go.Shelf.Ren:=⟨fun | 25=>437 | 31=>300 | 32=>438 | 37=>366 |n=>n,fun | 22=>42 | 3=>3 | 4=>4 | 40=>154 | 0=>0 |n=>n,fun |n=>n⟩
theorem qgU:Go.Proofs.Lays2.n25 Tryz.prog Zt:={
 mixed:=by kernel_rfl
 f25:=Tryz.func437.trans (congrArg some (by kernel_rfl))
 f31:=Tryz.func300.trans (congrArg some (by kernel_rfl))
 f32:=Tryz.func438.trans (congrArg some (by kernel_rfl))
 f37:=Tryz.func366.trans (congrArg some (by kernel_rfl))
 t0:=Tryz.underlying0
 a0:=Tryz.isAgg0
 z0:=Tryz.sizeOf0
 v0:=Tryz.zeroValue0
 t3:=Tryz.underlying3
 a3:=Tryz.isAgg3
 z3:=Tryz.sizeOf3
 v3:=Tryz.zeroValue3
 t4:=Tryz.underlying4
 a4:=Tryz.isAgg4
 z4:=Tryz.sizeOf4
 v4:=Tryz.zeroValue4
 t22:=Tryz.underlying42
 a22:=Tryz.isAgg42
 z22:=Tryz.sizeOf42
 v22:=Tryz.zeroValue42
 t40:=Tryz.underlying154
 a40:=Tryz.isAgg154
 z40:=Tryz.sizeOf154
 v40:=Tryz.zeroValue154 }
theorem qzU:Builder.Extra Tryz.prog Kb:={ sizeBuilder:=by kernel_rfl,liesBuilder:=by kernel_rfl,t5:=Tryz.underlying5,a5:=Tryz.isAgg5,z5:=Tryz.sizeOf5,v5:=Tryz.zeroValue5,infoByte:=by kernel_rfl,cellsByte:=by kernel_rfl,sizeByte:=by kernel_rfl,neB5:=by decide }
noncomputable def W144:WF:=Zi
theorem qvA:pS Tryz.prog 144 W144:=qq6 λbk o c xs sep w h1 h2 h3 h4 h5=>Any.strings_Join qg1 qzU bk o c xs sep w h1 h2 h3 h4 h5
noncomputable def W258:WF:=FV
theorem qxm:pS Tryz.prog 258 W258:=qyA (iK ..) λu w h1 h2 h3=>Any.internal_strconv_numDigits qgD u h1 h2 w h3
noncomputable def W259:WF:=FX
theorem qgM:pS Tryz.prog 259 W259:=qyF λbf off cap u d w h1 h2 h3 h4=>Any.internal_strconv_formatBase10 qwA bf off cap u d w h1 h2 h3 h4
noncomputable def W211:WF:=FZ
theorem qkE:pS Tryz.prog 211 W211:=qzB λbf off cap zs w h1 h2 h3=>Any.slices_Sort_int qxt bf off cap zs w h1 h2 h3
noncomputable def W212:WF:=Ou 3
theorem qx4:pS Tryz.prog 212 W212:=qj9 (by kernel_rfl) λbf off cap zs w h1 h2 h3=>Any.slices_Compact_int qvU bf off cap zs w h1 h2 h3
noncomputable def W437:WF:=Ot
theorem qvT:pS Tryz.prog 437 W437:=qjI λb off n c zs x w h1 h2 h3 h4=>Any.slices_BinarySearch_int qgU b off n c zs x w h1 h2 h3 h4
end Go.Proofs.YtpbpkcdebchbbaaGreatDoor
