/- Some of the library's functions by the kit's contracts, over any program: how many digits a number has; its digits laid; words joined. -/
import Derived.Test.YtbiljkdgeekpbacGreatDoorMachineOneAe7
import Derived.Shelf.Strings.OnBuilder
import Derived.Shelf.Strconv.Itoa1
import Derived.Shelf.Strconv.Itoa2
import Derived.Shelf.Sort.Plain
import Derived.Shelf.Slices.CompactI
import Derived.Shelf.Slices.SearchI
import Derived.Test.YtbiljkdgeekpbacGreatDoorProg
import Derived.KernelRfl
namespace Go.Proofs.YtbiljkdgeekpbacGreatDoor
open Go Go.Ae Go.Shelf
def qYm:List AV→Option (List UInt8)
 |[]=>some []
 | .int .u8 (.ofNat n)::r=>bif Nat.ble (n+1) 256 then(qYm r).bind λs=>some (UInt8.ofNat n::s)else none
 |_=>none
def xNd:WF:=λ_ l h=>match l with
 |[.int .u64 (.ofNat u)]=>bif Nat.ble 1 u&&Nat.ble (u+1) 18446744073709551616 then some (.int .i64 (.ofNat (Lib.nDigits u)),h)else none
 |_=>none
def dgs (n u:Nat):List AV:=(List.range n).map λt=>.int .u8 (.ofNat (Lib.dg u (n-1-t)).toNat)
noncomputable def xFb:WF:=λ_ l h=>match l with
 |[.slice b 0 n _ false,.int .u64 (.ofNat u)]=>
  (match h.get b with
  |some (.cells c e false)=>(match qYm (c.toList.take n)with
   |some bs=>bif Nat.beq bs.length n&&(Nat.ble (u+1) (10 ^ n)&&(Nat.ble (u+1) 18446744073709551616&&Nat.ble n 100))then some (.tup [],h.put b (.cells (CT.ofList (dgs n u++c.toList.drop n)) e false))else none
   |none=>none)
  |_=>none)
 |_=>none
def Kr:List AV→Option (List (List UInt8))
 |[]=>some []
 | .str s::r=>(Kr r).bind λl=>some (s::l)
 |_=>none
noncomputable def qQ7:WF:=λ_ l h=>match l with
 |[.slice b o n cap false,.str sep]=>
  (match h.get b with
  |some (.cells c _ _)=>(match Kr ((c.toList.drop o).take n)with
   |some xs=>bif Nat.beq xs.length n&&(Nat.ble n cap&&(Nat.ble n 1000000&&Nat.ble (Lib.join xs sep).length 1000000))then some (.str (Lib.join xs sep),h)else none
   |none=>none)
  |_=>none)
 |_=>none
theorem qk9:∀{l:List AV} {bs:List UInt8},qYm l=some bs→l=bs.map λc=>.int .u8 (.ofNat c.toNat):=by
 intro l
 induction l with
 |nil=>intro bs h;cases h;rfl
 |cons a l ih=>
  intro bs h;unfold qYm at h
  split at h
  ·rename_i heq;cases heq
  ·rename_i n r heq;cases heq;cases hb:Nat.ble (n+1) 256
   ·rw[hb]at h;cases h
   ·rw[hb]at h;simp only[cond_true,Option.bind_eq_some_iff,Option.some.injEq]at h;obtain⟨s,hs,rfl⟩:=h;have:=Nat.le_of_ble_eq_true hb;rw[List.map_cons,← ih hs,UInt8.toNat_ofNat_of_lt' (by show n<256;omega)]
  ·cases h
theorem qYb:∀{l:List AV} {xs:List (List UInt8)},Kr l=some xs→l=xs.map .str:=by
 intro l
 induction l with
 |nil=>intro bs h;cases h;rfl
 |cons a l ih=>
  intro bs h;unfold Kr at h
  split at h
  ·rename_i heq;cases heq
  ·rename_i s r heq;cases heq;simp only[Option.bind_eq_some_iff,Option.some.injEq]at h;obtain⟨t,ht,rfl⟩:=h;rw[List.map_cons,← ih ht]
  ·cases h
variable {P:Program}
theorem qy5 {f : Nat} (hg : ("internal/strconv.uint64pow10", IntKind.u64, Lib.pow10Tab) ∈ gtab)
  (hc : ∀ (u : Nat) (w : World), 1 ≤ u → u < 18446744073709551616 → Lib.TabIs P w "internal/strconv.uint64pow10" .u64 Lib.pow10Tab → Calls P f #[.int .u64 u] w fun e w' => e = .returned (.int .i64 (Lib.nDigits u)) ∧ w' = w) : XOk P f xNd := by
 intro c l h r e m D W RR hD n;unfold xNd at e
 split at e
 rotate_left
 ·cases e
 rename_i u;cases hb:(Nat.ble 1 u&&Nat.ble (u+1) 18446744073709551616)
 ·rw[hb]at e;cases e
 rw[hb]at e;simp only[cond_true,Option.some.injEq]at e;simp only[Bool.and_eq_true]at hb;obtain⟨_,_,ht⟩:=RR.gl.gl _ hg;refine CallsIn.mono (callsIn_wide.2 (hc u W (Nat.le_of_ble_eq_true hb.1) (by have:=Nat.le_of_ble_eq_true hb.2;omega) ht)) ?_;rintro ee w' ⟨rfl,rfl⟩;subst e;exact⟨m,D,rfl,Ext.refl ..,RR,trivial⟩
theorem JM (n u:Nat):(dgs n u).length=n:=by simp[dgs]
theorem qy9 {f:Nat} (hc:∀(blk off cap u:Nat) (d:Array UInt8) (w:World),Sort.Holds (λ(b:UInt8)=>Value.int .u8 (b.toNat:Int)) w blk off d→u<10 ^ d.size→u<18446744073709551616→d.size<4611686018427387904→
  Calls P f #[.slice (some ⟨blk,off,none⟩) d.size cap,.int .u64 u] w λe w'=>e=.returned (.tuple #[])∧∃(n v':Nat) (dk:Array UInt8),w'=(Sort.putRow (λ(b:UInt8)=>Value.int .u8 (b.toNat:Int)) w blk off dk).drewN n∧Lib.FmtInv d.size u 0 v' dk):XOk P f xFb:=by
 intro c l h r e m D W RR hD nn;unfold xFb at e
 split at e
 rotate_left
 ·cases e
 rename_i b n cap u
 split at e
 rotate_left
 ·cases e
 rename_i ct ty hgb
 split at e
 rotate_left
 ·cases e
 rename_i bs hbs;cases hb:(Nat.beq bs.length n&&(Nat.ble (u+1) (10 ^ n)&&(Nat.ble (u+1) 18446744073709551616&&Nat.ble n 100)))
 ·rw[hb]at e;cases e
 rw[hb]at e;simp only[cond_true,Option.some.injEq]at e;simp only[Bool.and_eq_true]at hb;obtain⟨hb1,hb2,hb3,hb4⟩:=hb;have hb1:=Nat.eq_of_beq_eq_true hb1;have hb2:=Nat.le_of_ble_eq_true hb2;have hb3:=Nat.le_of_ble_eq_true hb3;have hb4:=Nat.le_of_ble_eq_true hb4;subst hb1;have hDb:D b:=hD.1;obtain⟨rest,fr,hh,hrest,hfz,_,hd⟩:=RR.cells hDb hgb;obtain rfl:=hrest rfl;simp only[List.append_nil,List.length_nil,Nat.add_zero]at hh hfz;have hC:=qk9 hbs;have hle:bs.length≤ct.toList.length:=by have:=congrArg List.length hC;simp at this;omega
 have hsz:bs.toArray.size=bs.length:=by simp
 have hat:∀j,j<bs.length→ct.toList[j]? =some (.int .u8 (.ofNat bs.toArray[j]!.toNat)):=by intro j hj;have:=congrArg (·[j]?) hC;simp only[List.getElem?_take_of_lt hj,List.getElem?_map,iW hj,Option.map_some]at this;rw[this];simp[hj]
 have H:Sort.Holds (λ(b:UInt8)=>Value.int .u8 (b.toNat:Int)) W (m b).1 0 bs.toArray:=by
  intro j hj;rw[hsz]at hj;refine⟨?_,?_⟩
  ·unfold World.cell?;rw[Nat.zero_add];simp only[hh];simp[zl,hat j hj,cv]
  ·unfold World.frozen?;rw[Nat.zero_add];simp only[hh];have:=hfz j omQ;simpa using this
 have key:=hc (m b).1 0 cap u bs.toArray W H (by rw[hsz];omega) omQ (by rw[hsz];omega);rw[hsz]at key;refine CallsIn.mono (callsIn_wide.2 key) ?_;rintro ee w' ⟨rfl,q,v',dk,rfl,F⟩;subst e;have hnew:inDs D (dgs bs.length u++ct.toList.drop bs.length):=by refine vB.2 ⟨(xC D _).2 ?_,(xC D _).2 λv hv=>(xC D _).1 hd v (List.mem_of_mem_drop hv)⟩;intro v hv;obtain⟨t,_,rfl⟩:=List.mem_map.1 hv;trivial
 obtain⟨X,R'⟩:=RR.put (w0:=(Sort.putRow (λ(b:UInt8)=>Value.int .u8 (b.toNat:Int)) W (m b).1 0 dk).drewN q) b (.cells (CT.ofList (dgs bs.length u++ct.toList.drop bs.length)) ty false) hDb ⟨_,hgb,trivial⟩
  (by show(Sort.putRow _ W (m b).1 0 dk).heap.size=_;simp) (λk hk=>by
   show(Sort.putRow _ W (m b).1 0 dk).heap[k]? =_;simp only[Sort.putRow,Sort.mapBlock,Array.getElem?_modify]
   rw[iQ (λe=>hk e.symm)]) rfl rfl rfl (by show inDs D (CT.ofList _).toList;rw[CT.ofList_ok];exact hnew)
  (by
   refine⟨[],fr,?_,λ_=>rfl,?_,λh=>by cases h⟩
   ·show(Sort.putRow _ W (m b).1 0 dk).heap[(m b).1]? =_;simp only[Sort.putRow,Sort.mapBlock,Array.getElem?_modify,iJ,hh,Option.map_some,Sort.onCells,List.append_nil]
    congr 2
    rw[CT.ofList_ok];apply Array.ext_getElem?;intro k;simp only[Sort.putCells,Array.getElem?_mapIdx,List.getElem?_toArray,zl,List.getElem?_map,Nat.zero_le,true_and,Nat.zero_add,Nat.sub_zero,F.size];by_cases hk:k<bs.length
    ·rw[List.getElem?_append_left (by rw[JM];exact hk),hat k hk];simp only[Option.map_some,iJ hk,dgs,List.getElem?_map,List.getElem?_range hk,F.done k (Nat.zero_le _) hk];rfl
    ·rw[List.getElem?_append_right (by rw[JM];omega),JM,List.getElem?_drop,show bs.length+(k-bs.length)=k by omega];cases ct.toList[k]? with
     |none=>rfl
     |some y=>simp only[Option.map_some,iQ hk]
   ·intro i hi;refine hfz i ?_;rw[CT.ofList_ok]at hi;simp only[List.length_append,JM,List.length_drop,List.length_nil]at hi
    omega)
 exact⟨m,D,rfl,X,R',trivial⟩
theorem qj9 {f:Nat} (hc:∀(bk o c:Nat) (xs:List ByteArray) (sep:ByteArray) (w:World),
  (∀(j:Nat) x,xs[j]? =some x→w.cell? ⟨bk,o+j,none⟩=some (.string x))→bk<w.heap.size→xs.length≤140737488355328→xs.length≤c→(Lib.join (xs.map (·.data.toList)) sep.data.toList).length≤140737488355328→
  Calls P f #[.slice (some ⟨bk,o,none⟩) xs.length c,.string sep] w λe w'=>e=.returned (.string ⟨(Lib.join (xs.map (·.data.toList)) sep.data.toList).toArray⟩)∧RowKit.Below w.heap.size w w'):XOk P f qQ7:=by
 intro c l h r e m D W RR hD nn;unfold qQ7 at e
 split at e
 rotate_left
 ·cases e
 rename_i b o n cap sep
 split at e
 rotate_left
 ·cases e
 rename_i ct ty op hgb
 split at e
 rotate_left
 ·cases e
 rename_i xs hxs;cases hb:(Nat.beq xs.length n&&(Nat.ble n cap&&(Nat.ble n 1000000&&Nat.ble (Lib.join xs sep).length 1000000)))
 ·rw[hb]at e;cases e
 rw[hb]at e;simp only[cond_true,Option.some.injEq]at e;simp only[Bool.and_eq_true]at hb;obtain⟨hb1,hb2,hb3,hb4⟩:=hb;have hb1:=Nat.eq_of_beq_eq_true hb1;have hb2:=Nat.le_of_ble_eq_true hb2;have hb3:=Nat.le_of_ble_eq_true hb3;have hb4:=Nat.le_of_ble_eq_true hb4;subst hb1;have hDb:D b:=hD.1;obtain⟨rest,fr,hh,_,_,_,_⟩:=RR.cells hDb hgb;have hC:=qYb hxs
 have key:=hc (m b).1 o cap (xs.map λx=>⟨x.toArray⟩) ⟨sep.toArray⟩ W (by
  intro j x hj;rw[List.getElem?_map]at hj;obtain⟨y,hy,rfl⟩:=Option.map_eq_some_iff.1 hj;have hjl:=(List.getElem?_eq_some_iff.1 hy).1;have:=congrArg (·[j]?) hC;simp only[List.getElem?_take_of_lt hjl,List.getElem?_drop,List.getElem?_map,hy,Option.map_some]at this;have hlt:=(List.getElem?_eq_some_iff.1 this).1;unfold World.cell?;simp only[hh];simp only[Option.isSome_none,Bool.false_eq_true,if_false,List.getElem?_toArray];rw[List.getElem?_append_left (by simpa using hlt),zl,List.getElem?_map,this]
  rfl) (by
  rcases Nat.lt_or_ge (m b).1 W.heap.size with h' |h'
  ·exact h'
  ·rw[Array.getElem?_eq_none h']at hh;cases hh) (by rw[List.length_map];omega) (by rw[List.length_map];omega) (by
  rw[List.map_map,show(λ(x:ByteArray)=>x.data.toList) ∘ (λ(x:List UInt8)=>(⟨x.toArray⟩:ByteArray))=id from by funext x;simp,List.map_id];show(Lib.join xs sep.toArray.toList).length≤_
  rw[List.toList_toArray];omega)
 rw[List.length_map,List.map_map,show(λ(x:ByteArray)=>x.data.toList) ∘ (λ(x:List UInt8)=>(⟨x.toArray⟩:ByteArray))=id from by funext x;simp,List.map_id]at key;refine CallsIn.mono (callsIn_wide.2 key) ?_;rintro ee w' ⟨rfl,B⟩;subst e;obtain⟨X,R'⟩:=YK RR B;refine⟨m,D,?_,X,R',trivial⟩;show Ending.returned _=Ending.returned (.string _);simp
def iOf:List AV→Option (List Int)
 |[]=>some []
 | .int .i64 x::r=>(iOf r).bind λs=>some (x::s)
 |_=>none
def qWa (x:Int):List Int→List Int
 |[]=>[x]
 |y::r=>if x≤y then x::y::r else y::qWa x r
def QE:List Int→List Int
 |[]=>[]
 |x::r=>qWa x (QE r)
def Vc:List Int→Bool
 |[]=>true
 |[_]=>true
 |x::y::r=>decide (x≤y)&&Vc (y::r)
noncomputable def qJU:WF:=λ_ l h=>match l with
 |[.slice b 0 n _ _]=>
  (match h.get b with
  |some (.cells c e o)=>(match iOf (c.toList.take n)with
   |some zs=>bif Nat.beq zs.length n&&Nat.ble n 1000000 then some (.tup [],h.put b (.cells (CT.ofList ((QE zs).map (.int .i64)++c.toList.drop n)) e o))else none
   |none=>none)
  |_=>none)
 |_=>none
noncomputable def Zu (e0:TypeId):WF:=λ_ l h=>match l with
 |[.slice b 0 n cap q]=>
  (match h.get b with
  |some (.cells c e o)=>(match iOf (c.toList.take n)with
   |some zs=>bif Nat.beq zs.length n&&(Nat.ble n 1000000&&(bif q then Nat.beq cap 0&&(o&&Nat.beq e e0)else Nat.ble n cap))then some (.slice b 0 (Lib.compact zs).length cap q,
     h.put b (.cells (CT.ofList ((Lib.compact zs++List.replicate (zs.length-(Lib.compact zs).length) 0).map (.int .i64)++c.toList.drop n)) e o))else none
   |none=>none)
  |_=>none)
 |_=>none
noncomputable def Zs:WF:=λ_ l h=>match l with
 |[.slice b 0 n _ _,.int .i64 x]=>
  (match h.get b with
  |some (.cells c _ _)=>(match iOf (c.toList.take n)with
   |some zs=>bif Nat.beq zs.length n&&(Nat.ble n 1000000&&Vc zs)then some (.tup [.int .i64 (zs.countP (· <x):Nat),.bool (zs.contains x)],h)else none
   |none=>none)
  |_=>none)
 |_=>none
theorem qKD:∀{l:List AV} {zs:List Int},iOf l=some zs→l=zs.map (.int .i64):=by
 intro l
 induction l with
 |nil=>intro bs h;cases h;rfl
 |cons a l ih=>
  intro bs h;unfold iOf at h
  split at h
  ·rename_i heq;cases heq
  ·rename_i x r heq;cases heq;simp only[Option.bind_eq_some_iff,Option.some.injEq]at h;obtain⟨s,hs,rfl⟩:=h;rw[List.map_cons,← ih hs]
  ·cases h
theorem Ol:∀(zs:List Int),iOf (zs.map (.int .i64))=some zs:=by
 intro zs
 induction zs with
 |nil=>rfl
 |cons x zs ih=>rw[List.map_cons];unfold iOf;rw[ih];rfl
theorem NV (x:Int):∀l,(qWa x l).Perm (x::l):=by
 intro l
 induction l with
 |nil=>exact .refl _
 |cons y r ih=>
  unfold qWa
  split
  ·exact .refl _
  ·exact(ih.cons y).trans (.swap ..)
theorem Xy:∀l,(QE l).Perm l:=by
 intro l
 induction l with
 |nil=>exact .refl _
 |cons x r ih=>exact(NV ..).trans (ih.cons x)
theorem qJf (x:Int):∀{l:List Int},l.Pairwise (· ≤ ·)→(qWa x l).Pairwise (· ≤ ·):=by
 intro l
 induction l with
 |nil=>intro _;exact List.pairwise_singleton ..
 |cons y r ih=>
  intro h;have h1:=List.pairwise_cons.1 h;unfold qWa
  split
  ·rename_i hxy;refine List.pairwise_cons.2 ⟨λa ha=>?_,h⟩;rcases List.mem_cons.1 ha with rfl |ha
   ·exact hxy
   ·exact Int.le_trans hxy (h1.1 a ha)
  ·refine List.pairwise_cons.2 ⟨λa ha=>?_,ih h1.2⟩;rcases List.mem_cons.1 ((NV x r).mem_iff.1 ha)with rfl |ha
   ·omega
   ·exact h1.1 a ha
theorem Yf:∀l,(QE l).Pairwise (· ≤ ·):=by
 intro l
 induction l with
 |nil=>exact List.Pairwise.nil
 |cons x r ih=>exact qJf x ih
theorem MF (l:List Int):(QE l).length=l.length:=(Xy l).length_eq
theorem qV1 (l:List Int):l.mergeSort (λx y=>decide (x≤y))=QE l:=by refine List.Perm.eq_of_pairwise (le:=λx y:Int=>x≤y) (λa b _ _ h1 h2=>by omega) ?_ (Yf l) ((List.mergeSort_perm ..).trans (Xy l).symm);exact(List.pairwise_mergeSort (λa b c h1 h2=>by simp at*;omega) (λa b=>by simp;omega) l).imp λh=>by simpa using h
theorem qjm:∀{l:List Int},Vc l=true→l.Pairwise (· ≤ ·):=by
 intro l
 induction l with
 |nil=>intro _;exact List.Pairwise.nil
 |cons x r ih=>
  intro h;cases r with
  |nil=>exact List.pairwise_singleton ..
  |cons y r=>
   unfold Vc at h;simp only[Bool.and_eq_true,decide_eq_true_eq]at h;have:=ih h.2;refine List.pairwise_cons.2 ⟨λa ha=>?_,this⟩;rcases List.mem_cons.1 ha with rfl |ha
   ·exact h.1
   ·exact Int.le_trans h.1 ((List.pairwise_cons.1 this).1 a ha)
theorem Ma {enc:Int→Value} {A:List Value} {dk:List Int} (h:dk.length≤A.length):Sort.putCells enc 0 dk.toArray A.toArray=(dk.map enc++A.drop dk.length).toArray:=by
 apply Array.ext_getElem?;intro k;simp only[Sort.putCells,Array.getElem?_mapIdx,List.getElem?_toArray,Nat.zero_le,true_and,Nat.zero_add,Nat.sub_zero,List.size_toArray];by_cases hk:k<dk.length
 ·rw[List.getElem?_append_left (by simpa using hk),List.getElem?_map,iW hk,iW (show k<A.length by omega)];simp[hk]
 ·rw[List.getElem?_append_right (by simp;omega),List.length_map,List.getElem?_drop,show dk.length+(k-dk.length)=k by omega];cases A[k]? with
  |none=>rfl
  |some y=>simp only[Option.map_some,iQ hk]
section
variable {P:Program} {m:Mp} {D:Nat→Prop} {h:AH} {W:World} {b n:Nat} {c:CT} {e:TypeId} {o:Bool}
theorem qZs (RR:Rel P m D h W) (hD:D b) (hg:h.get b=some (.cells c e o)) {zs:List Int} (hz:c.toList.take n=zs.map (.int .i64)) (hl:zs.length=n):Sort.Holds (Value.int .i64) W (m b).1 0 zs.toArray∧(m b).1<W.heap.size:=by
 obtain⟨rest,fr,hh,_,hfz,_,_⟩:=RR.cells hD hg;have hle:n≤c.toList.length:=by have:=congrArg List.length hz;simp at this;omega
 refine⟨λj hj=>?_,?_⟩
 ·have hj:j<zs.length:=by simpa using hj
  have ha:c.toList[j]? =some (.int .i64 zs[j]):=by have:=congrArg (·[j]?) hz;simp only[List.getElem?_take_of_lt (show j<n by omega),List.getElem?_map,iW hj,Option.map_some]at this;exact this
  refine⟨?_,?_⟩
  ·unfold World.cell?;rw[Nat.zero_add];simp only[hh];simp only[Option.isSome_none,Bool.false_eq_true,if_false,List.getElem?_toArray];rw[List.getElem?_append_left (by rw[zl,List.length_map];omega),zl,List.getElem?_map,ha];simp[cv,hj]
  ·unfold World.frozen?;rw[Nat.zero_add];simp only[hh];have:=hfz j omQ;simpa using this
 ·rcases Nat.lt_or_ge (m b).1 W.heap.size with h' |h'
  ·exact h'
  ·rw[Array.getElem?_eq_none h']at hh;cases hh
theorem qVo (RR:Rel P m D h W) (hD:D b) (hg:h.get b=some (.cells c e o)) {zs dk:List Int} (hz:c.toList.take n=zs.map (.int .i64)) (hl:zs.length=n) (hd:dk.length=n) (q:Nat) :
  Ext m D h W m D (h.put b (.cells (CT.ofList (dk.map (.int .i64)++c.toList.drop n)) e o)) (Sort.putRow (Value.int .i64) (Sort.ahead W q) (m b).1 0 dk.toArray)∧
   Rel P m D (h.put b (.cells (CT.ofList (dk.map (.int .i64)++c.toList.drop n)) e o)) (Sort.putRow (Value.int .i64) (Sort.ahead W q) (m b).1 0 dk.toArray):=by
 obtain⟨rest,fr,hh,hrest,hfz,hop,hin⟩:=RR.cells hD hg;have hle:n≤c.toList.length:=by have:=congrArg List.length hz;simp at this;omega
 have hll:(dk.map (AV.int .i64)++c.toList.drop n).length=c.toList.length:=by simp;omega
 refine RR.put b _ hD ⟨_,hg,trivial⟩ (by show(Sort.putRow _ W (m b).1 0 _).heap.size=_;simp) (λk hk=>by
  show(Sort.putRow _ W (m b).1 0 _).heap[k]? =_;simp only[Sort.putRow,Sort.mapBlock,Array.getElem?_modify]
  rw[iQ (λe=>hk e.symm)]) rfl rfl rfl (by
   show inDs D (CT.ofList _).toList;rw[CT.ofList_ok];refine vB.2 ⟨(xC D _).2 λv hv=>?_,(xC D _).2 λv hv=>(xC D _).1 hin v (List.mem_of_mem_drop hv)⟩;obtain⟨t,_,rfl⟩:=List.mem_map.1 hv
   trivial) ?_
 refine⟨rest,fr,?_,hrest,?_,?_⟩
 ·show(Sort.putRow _ W (m b).1 0 _).heap[(m b).1]? =_;simp only[Sort.putRow,Sort.mapBlock,Array.getElem?_modify,iJ,hh,Option.map_some,Sort.onCells];rw[Ma (by rw[List.length_append,zl,List.length_map];omega),CT.ofList_ok,hd,zl,zl,List.map_append,List.map_map,List.drop_append_of_le_length (by rw[List.length_map];exact hle),List.append_assoc,List.map_drop];rfl
 ·rw[CT.ofList_ok,hll];exact hfz
 ·rw[CT.ofList_ok,hll];exact hop
theorem qVs (RR:Rel P m D h W) (q:Nat):Ext m D h W m D h (W.drewN q)∧Rel P m D h (W.drewN q):=YK RR { os:=rfl,tape:=rfl,output:=rfl,size:=Nat.le_refl _,block:=λ_ _=>rfl }
theorem qx4 {W0:World} (RR:Rel P m D h W0) (os:Array Obj):Ext m D h W0 m D h (Sort.grow W0 os)∧Rel P m D h (Sort.grow W0 os):=YK RR { os:=rfl,tape:=rfl,output:=rfl,size:=by simp[Sort.grow],block:=λc hc=>by simp[Sort.grow,Array.getElem?_append_left hc] }
end
variable {P:Program}
theorem qxM {f:Nat} (hc:∀(blk off cap:Nat) (zs:List Int) (w:World),Sort.Holds (Value.int .i64) w blk off zs.toArray→blk<w.heap.size→zs.length<4611686018427387904→
  Calls P f #[.slice (some ⟨blk,off,none⟩) zs.length cap] w λe w'=>e=.returned (.tuple #[])∧∃n os,w'=Sort.grow (Sort.putRow (Value.int .i64) (Sort.ahead w n) blk off (zs.mergeSort λx y=>decide (x≤y)).toArray) os):XOk P f qJU:=by
 intro c l h r e m D W RR hD nn;unfold qJU at e
 split at e
 rotate_left
 ·cases e
 rename_i b n cap q
 split at e
 rotate_left
 ·cases e
 rename_i ct ty o hgb
 split at e
 rotate_left
 ·cases e
 rename_i zs hzs;cases hb:(Nat.beq zs.length n&&Nat.ble n 1000000)
 ·rw[hb]at e;cases e
 rw[hb]at e;simp only[cond_true,Option.some.injEq]at e;simp only[Bool.and_eq_true]at hb;have hb1:=Nat.eq_of_beq_eq_true hb.1;have hb2:=Nat.le_of_ble_eq_true hb.2;have hDb:D b:=hD.1;have hC:=qKD hzs;obtain⟨H,hlt⟩:=qZs RR hDb hgb hC hb1;obtain⟨cp,hcp⟩:∃cp,cvs m [.slice b 0 n cap q]=[.slice (some ⟨(m b).1,0,none⟩) n cp]:=⟨_,rfl⟩;rw[hcp];have key:=hc (m b).1 0 cp zs W H hlt omQ;rw[hb1]at key;refine CallsIn.mono (callsIn_wide.2 key) ?_;rintro ee w' ⟨rfl,k,os,rfl⟩;subst e;rw[qV1];obtain⟨X,R'⟩:=qVo RR hDb hgb hC hb1 (dk:=QE zs) (by rw[MF];exact hb1) k;obtain⟨X2,R2⟩:=qx4 R' os;exact⟨m,D,rfl,X.trans X2,R2,trivial⟩
theorem qKo (zs:List Int):(Lib.compact zs).length≤zs.length:=by unfold Lib.compact Lib.compactUpTo;rw[List.length_map];exact Nat.le_trans (List.length_filter_le ..) (by rw[List.length_range];exact Nat.le_refl _)
theorem qxI {f:Nat} {e0:TypeId} (h0:cellsOf? P e0=some 1) (hc:∀(blk off cap:Nat) (zs:List Int) (w:World),Sort.Holds (Value.int .i64) w blk off zs.toArray→zs.length≤9223372036854775807→zs.length≤cap→
  Calls P f #[.slice (some ⟨blk,off,none⟩) zs.length cap] w λe w'=>e=.returned (.slice (some ⟨blk,off,none⟩) (Lib.compact zs).length cap)∧∃q,w'=Sort.putRow (Value.int .i64) (Sort.ahead w q) blk off (Lib.compact zs++List.replicate (zs.length-(Lib.compact zs).length) 0).toArray):XOk P f (Zu e0):=by
 intro c l h r e m D W RR hD nn;unfold Zu at e
 split at e
 rotate_left
 ·cases e
 rename_i b n cap q
 split at e
 rotate_left
 ·cases e
 rename_i ct ty o hgb
 split at e
 rotate_left
 ·cases e
 rename_i zs hzs;cases hb:(Nat.beq zs.length n&&(Nat.ble n 1000000&&(bif q then Nat.beq cap 0&&(o&&Nat.beq ty e0)else Nat.ble n cap)))
 ·rw[hb]at e;cases e
 rw[hb]at e;simp only[cond_true,Option.some.injEq]at e;simp only[Bool.and_eq_true]at hb;have hb1:=Nat.eq_of_beq_eq_true hb.1;have hb2:=Nat.le_of_ble_eq_true hb.2.1;have hDb:D b:=hD.1;have hC:=qKD hzs;obtain⟨H,hlt⟩:=qZs RR hDb hgb hC hb1;obtain⟨cp,hcp,hr,hcap⟩:∃cp,cvs m [.slice b 0 n cap q]=[.slice (some ⟨(m b).1,0,none⟩) n cp]∧(∀k,cv m (.slice b 0 k cap q)=.slice (some ⟨(m b).1,0,none⟩) k cp)∧n≤cp:=by
  refine⟨_,rfl,λ_=>rfl,?_⟩;have h3:=hb.2.2;cases q with
  |false=>exact Nat.le_of_ble_eq_true h3
  |true=>
   simp only[cond_true,Bool.and_eq_true]at h3;have k1:=Nat.eq_of_beq_eq_true h3.1;have k2:=Nat.eq_of_beq_eq_true h3.2.2;obtain⟨rest,fr,_,_,_,hop,_⟩:=RR.cells hDb hgb;have:=(hop h3.2.1 1 (by rw[k2];exact h0)).1;have hle:n≤ct.toList.length:=by have:=congrArg List.length hC;simp at this;omega
   show n≤(m b).2-cap;omega
 rw[hcp];have key:=hc (m b).1 0 cp zs W H omQ (by rw[hb1];exact hcap);rw[hb1]at key;refine CallsIn.mono (callsIn_wide.2 key) ?_;rintro ee w' ⟨rfl,k,rfl⟩;subst e;have hle:=qKo zs;rw[hb1];obtain⟨X,R'⟩:=qVo RR hDb hgb hC hb1 (dk:=Lib.compact zs++List.replicate (n-(Lib.compact zs).length) 0) (by simp;omega) k;exact⟨m,D,by rw[hr],X,R',hDb⟩
theorem qzN {f:Nat} (hc:∀(b off n c:Nat) (zs:List Int) (x:Int) (w:World),n≤zs.length→n<4611686018427387904→(∀j,j<zs.length→w.cell? ⟨b,off+j,none⟩=some (.int .i64 (zs.getD j 0)))→(zs.take n).Pairwise (· ≤ ·)→
  Calls P f #[.slice (some ⟨b,off,none⟩) n c,.int .i64 x] w λe w'=>e=.returned (.tuple #[.int .i64 ((zs.take n).countP (· <x):Nat),.bool ((zs.take n).contains x)])∧∃q,w'=w.drewN q):XOk P f Zs:=by
 intro c l h r e m D W RR hD nn;unfold Zs at e
 split at e
 rotate_left
 ·cases e
 rename_i b n cap q x
 split at e
 rotate_left
 ·cases e
 rename_i ct ty o hgb
 split at e
 rotate_left
 ·cases e
 rename_i zs hzs;cases hb:(Nat.beq zs.length n&&(Nat.ble n 1000000&&Vc zs))
 ·rw[hb]at e;cases e
 rw[hb]at e;simp only[cond_true,Option.some.injEq]at e;simp only[Bool.and_eq_true]at hb;have hb1:=Nat.eq_of_beq_eq_true hb.1;have hb2:=Nat.le_of_ble_eq_true hb.2.1;have hDb:D b:=hD.1;obtain⟨H,_⟩:=qZs RR hDb hgb (qKD hzs) hb1;have tk:zs.take n=zs:=List.take_of_length_le omQ;obtain⟨cp,hcp⟩:∃cp,cvs m [.slice b 0 n cap q,.int .i64 x]=[.slice (some ⟨(m b).1,0,none⟩) n cp,.int .i64 x]:=⟨_,rfl⟩;rw[hcp]
 have key:=hc (m b).1 0 n cp zs x W omQ omQ (λj hj=>by
  rw[(H j (by simpa using hj)).1]
  simp[hj]) (by rw[tk];exact qjm hb.2.2)
 rw[tk]at key;refine CallsIn.mono (callsIn_wide.2 key) ?_;rintro ee w' ⟨rfl,k,rfl⟩;subst e;obtain⟨X,R'⟩:=qVs RR k;exact⟨m,D,rfl,X,R',trivial,trivial,trivial⟩
def UJ:Go.Shelf.Ren:=⟨fun | 156=>90 | 165=>145 | 166=>146 | 169=>147 | 240=>211 | 241=>212 | 276=>283 | 277=>284 |n=>n,fun | 31=>153 | 9=>9 | 3=>3 | 4=>4 | 0=>0 | 20=>20 | 72=>225 | 76=>228 | 70=>222 | 37=>223 | 75=>227 | 127=>279 | 164=>326 | 5=>5 | 80=>101 |n=>n,fun |n=>n⟩
theorem qwt:Go.Proofs.Lays.n156 Tryz.prog UJ:={
 mixed:=by kernel_rfl
 f156:=Tryz.func90.trans (congrArg some (by kernel_rfl))
 f165:=Tryz.func145.trans (congrArg some (by kernel_rfl))
 f166:=Tryz.func146.trans (congrArg some (by kernel_rfl))
 f169:=Tryz.func147.trans (congrArg some (by kernel_rfl))
 f240:=Tryz.func211.trans (congrArg some (by kernel_rfl))
 f241:=Tryz.func212.trans (congrArg some (by kernel_rfl))
 f276:=Tryz.func283.trans (congrArg some (by kernel_rfl))
 f277:=Tryz.func284.trans (congrArg some (by kernel_rfl))
 t0:=Tryz.underlying0
 a0:=Tryz.isAgg0
 z0:=Tryz.sizeOf0
 v0:=Tryz.zeroValue0
 t3:=Tryz.underlying3
 a3:=Tryz.isAgg3
 z3:=Tryz.sizeOf3
 v3:=Tryz.zeroValue3
 t4:=Tryz.underlying4
 a4:=Tryz.isAgg4
 z4:=Tryz.sizeOf4
 v4:=Tryz.zeroValue4
 t9:=Tryz.underlying9
 a9:=Tryz.isAgg9
 z9:=Tryz.sizeOf9
 v9:=Tryz.zeroValue9
 t20:=Tryz.underlying20
 a20:=Tryz.isAgg20
 z20:=Tryz.sizeOf20
 v20:=Tryz.zeroValue20
 t31:=Tryz.underlying153
 a31:=Tryz.isAgg153
 z31:=Tryz.sizeOf153
 v31:=Tryz.zeroValue153
 t37:=Tryz.underlying223
 a37:=Tryz.isAgg223
 z37:=Tryz.sizeOf223
 v37:=Tryz.zeroValue223
 t70:=Tryz.underlying222
 a70:=Tryz.isAgg222
 z70:=Tryz.sizeOf222
 v70:=Tryz.zeroValue222
 t72:=Tryz.underlying225
 a72:=Tryz.isAgg225
 z72:=Tryz.sizeOf225
 v72:=Tryz.zeroValue225
 t75:=Tryz.underlying227
 a75:=Tryz.isAgg227
 z75:=Tryz.sizeOf227
 v75:=Tryz.zeroValue227
 t76:=Tryz.underlying228
 a76:=Tryz.isAgg228
 z76:=Tryz.sizeOf228
 v76:=Tryz.zeroValue228
 t127:=Tryz.underlying279
 a127:=Tryz.isAgg279
 z127:=Tryz.sizeOf279
 v127:=Tryz.zeroValue279
 t164:=Tryz.underlying326
 a164:=Tryz.isAgg326
 z164:=Tryz.sizeOf326
 v164:=Tryz.zeroValue326 }
def qQT:Go.Shelf.Ren:=⟨fun | 284=>280 | 129=>318 | 317=>317 | 318=>319 |n=>n,fun | 53=>22 | 3=>3 | 212=>354 | 0=>0 | 4=>4 | 46=>357 | 5=>5 | 9=>9 |n=>n,fun | 17=>0 |n=>n⟩
theorem qwE:Go.Proofs.LaysM.n284 Tryz.prog qQT:={
 mixed:=by kernel_rfl
 f129:=Tryz.func318.trans (congrArg some (by kernel_rfl))
 f284:=Tryz.func280.trans (congrArg some (by kernel_rfl))
 f317:=Tryz.func317.trans (congrArg some (by kernel_rfl))
 f318:=Tryz.func319.trans (congrArg some (by kernel_rfl))
 t0:=Tryz.underlying0
 a0:=Tryz.isAgg0
 z0:=Tryz.sizeOf0
 v0:=Tryz.zeroValue0
 t3:=Tryz.underlying3
 a3:=Tryz.isAgg3
 z3:=Tryz.sizeOf3
 v3:=Tryz.zeroValue3
 t4:=Tryz.underlying4
 a4:=Tryz.isAgg4
 z4:=Tryz.sizeOf4
 v4:=Tryz.zeroValue4
 t5:=Tryz.underlying5
 a5:=Tryz.isAgg5
 z5:=Tryz.sizeOf5
 v5:=Tryz.zeroValue5
 t9:=Tryz.underlying9
 a9:=Tryz.isAgg9
 z9:=Tryz.sizeOf9
 v9:=Tryz.zeroValue9
 t46:=Tryz.underlying357
 a46:=Tryz.isAgg357
 z46:=Tryz.sizeOf357
 v46:=Tryz.zeroValue357
 t53:=Tryz.underlying22
 a53:=Tryz.isAgg22
 z53:=Tryz.sizeOf22
 v53:=Tryz.zeroValue22
 t212:=Tryz.underlying354
 a212:=Tryz.isAgg354
 z212:=Tryz.sizeOf354
 v212:=Tryz.zeroValue354
 g17:=by kernel_rfl
 i0:=by kernel_rfl
 i3:=by kernel_rfl
 i4:=by kernel_rfl
 i5:=by kernel_rfl
 i9:=by kernel_rfl
 i46:=by kernel_rfl
 i53:=by kernel_rfl
 i212:=by kernel_rfl
 m17:=by kernel_rfl }
def qJt:Go.Shelf.Ren:=⟨fun | 285=>281 |n=>n,fun | 37=>223 | 53=>22 | 3=>3 | 4=>4 | 51=>355 | 9=>9 | 5=>5 | 0=>0 |n=>n,fun |n=>n⟩
theorem qw6:Go.Proofs.Lays.n285 Tryz.prog qJt:={
 mixed:=by kernel_rfl
 f285:=Tryz.func281.trans (congrArg some (by kernel_rfl))
 t0:=Tryz.underlying0
 a0:=Tryz.isAgg0
 z0:=Tryz.sizeOf0
 v0:=Tryz.zeroValue0
 t3:=Tryz.underlying3
 a3:=Tryz.isAgg3
 z3:=Tryz.sizeOf3
 v3:=Tryz.zeroValue3
 t4:=Tryz.underlying4
 a4:=Tryz.isAgg4
 z4:=Tryz.sizeOf4
 v4:=Tryz.zeroValue4
 t5:=Tryz.underlying5
 a5:=Tryz.isAgg5
 z5:=Tryz.sizeOf5
 v5:=Tryz.zeroValue5
 t9:=Tryz.underlying9
 a9:=Tryz.isAgg9
 z9:=Tryz.sizeOf9
 v9:=Tryz.zeroValue9
 t37:=Tryz.underlying223
 a37:=Tryz.isAgg223
 z37:=Tryz.sizeOf223
 v37:=Tryz.zeroValue223
 t51:=Tryz.underlying355
 a51:=Tryz.isAgg355
 z51:=Tryz.sizeOf355
 v51:=Tryz.zeroValue355
 t53:=Tryz.underlying22
 a53:=Tryz.isAgg22
 z53:=Tryz.sizeOf22
 v53:=Tryz.zeroValue22 }
def qQ2:Go.Shelf.Ren:=⟨fun | 189=>288 | 125=>326 | 257=>325 | 128=>342 | 129=>318 | 294=>333 | 295=>334 | 296=>335 | 297=>336 | 298=>337 | 299=>338 | 216=>339 | 300=>340 | 301=>341 | 328=>343 | 329=>344 | 330=>345 | 331=>346 | 332=>347 | 215=>348 | 343=>349 |n=>n,fun | 28=>45 | 3=>3 | 46=>357 | 0=>0 | 51=>355 | 53=>22 | 4=>4 | 183=>366 | 182=>365 | 131=>241 | 5=>5 | 9=>9 | 218=>374 | 222=>377 | 228=>379 | 229=>302 |n=>n,fun |n=>n⟩
theorem qkr:Go.Proofs.Lays.n189 Tryz.prog qQ2:={
 mixed:=by kernel_rfl
 f125:=Tryz.func326.trans (congrArg some (by kernel_rfl))
 f128:=Tryz.func342.trans (congrArg some (by kernel_rfl))
 f129:=Tryz.func318.trans (congrArg some (by kernel_rfl))
 f189:=Tryz.func288.trans (congrArg some (by kernel_rfl))
 f215:=Tryz.func348.trans (congrArg some (by kernel_rfl))
 f216:=Tryz.func339.trans (congrArg some (by kernel_rfl))
 f257:=Tryz.func325.trans (congrArg some (by kernel_rfl))
 f294:=Tryz.func333.trans (congrArg some (by kernel_rfl))
 f295:=Tryz.func334.trans (congrArg some (by kernel_rfl))
 f296:=Tryz.func335.trans (congrArg some (by kernel_rfl))
 f297:=Tryz.func336.trans (congrArg some (by kernel_rfl))
 f298:=Tryz.func337.trans (congrArg some (by kernel_rfl))
 f299:=Tryz.func338.trans (congrArg some (by kernel_rfl))
 f300:=Tryz.func340.trans (congrArg some (by kernel_rfl))
 f301:=Tryz.func341.trans (congrArg some (by kernel_rfl))
 f328:=Tryz.func343.trans (congrArg some (by kernel_rfl))
 f329:=Tryz.func344.trans (congrArg some (by kernel_rfl))
 f330:=Tryz.func345.trans (congrArg some (by kernel_rfl))
 f331:=Tryz.func346.trans (congrArg some (by kernel_rfl))
 f332:=Tryz.func347.trans (congrArg some (by kernel_rfl))
 f343:=Tryz.func349.trans (congrArg some (by kernel_rfl))
 t0:=Tryz.underlying0
 a0:=Tryz.isAgg0
 z0:=Tryz.sizeOf0
 v0:=Tryz.zeroValue0
 t3:=Tryz.underlying3
 a3:=Tryz.isAgg3
 z3:=Tryz.sizeOf3
 v3:=Tryz.zeroValue3
 t4:=Tryz.underlying4
 a4:=Tryz.isAgg4
 z4:=Tryz.sizeOf4
 v4:=Tryz.zeroValue4
 t5:=Tryz.underlying5
 a5:=Tryz.isAgg5
 z5:=Tryz.sizeOf5
 v5:=Tryz.zeroValue5
 t9:=Tryz.underlying9
 a9:=Tryz.isAgg9
 z9:=Tryz.sizeOf9
 v9:=Tryz.zeroValue9
 t28:=Tryz.underlying45
 a28:=Tryz.isAgg45
 z28:=Tryz.sizeOf45
 v28:=Tryz.zeroValue45
 t46:=Tryz.underlying357
 a46:=Tryz.isAgg357
 z46:=Tryz.sizeOf357
 v46:=Tryz.zeroValue357
 t51:=Tryz.underlying355
 a51:=Tryz.isAgg355
 z51:=Tryz.sizeOf355
 v51:=Tryz.zeroValue355
 t53:=Tryz.underlying22
 a53:=Tryz.isAgg22
 z53:=Tryz.sizeOf22
 v53:=Tryz.zeroValue22
 t131:=Tryz.underlying241
 a131:=Tryz.isAgg241
 z131:=Tryz.sizeOf241
 v131:=Tryz.zeroValue241
 t182:=Tryz.underlying365
 a182:=Tryz.isAgg365
 z182:=Tryz.sizeOf365
 v182:=Tryz.zeroValue365
 t183:=Tryz.underlying366
 a183:=Tryz.isAgg366
 z183:=Tryz.sizeOf366
 v183:=Tryz.zeroValue366
 t218:=Tryz.underlying374
 a218:=Tryz.isAgg374
 z218:=Tryz.sizeOf374
 v218:=Tryz.zeroValue374
 t222:=Tryz.underlying377
 a222:=Tryz.isAgg377
 z222:=Tryz.sizeOf377
 v222:=Tryz.zeroValue377
 t228:=Tryz.underlying379
 a228:=Tryz.isAgg379
 z228:=Tryz.sizeOf379
 v228:=Tryz.zeroValue379
 t229:=Tryz.underlying302
 a229:=Tryz.isAgg302
 z229:=Tryz.sizeOf302
 v229:=Tryz.zeroValue302 }
def Zp:Go.Shelf.Ren:=⟨fun | 20=>289 |n=>n,fun | 22=>45 | 3=>3 | 4=>4 | 0=>0 |n=>n,fun |n=>n⟩
theorem qgP:Go.Proofs.Lays2.n20 Tryz.prog Zp:={
 mixed:=by kernel_rfl
 f20:=Tryz.func289.trans (congrArg some (by kernel_rfl))
 t0:=Tryz.underlying0
 a0:=Tryz.isAgg0
 z0:=Tryz.sizeOf0
 v0:=Tryz.zeroValue0
 t3:=Tryz.underlying3
 a3:=Tryz.isAgg3
 z3:=Tryz.sizeOf3
 v3:=Tryz.zeroValue3
 t4:=Tryz.underlying4
 a4:=Tryz.isAgg4
 z4:=Tryz.sizeOf4
 v4:=Tryz.zeroValue4
 t22:=Tryz.underlying45
 a22:=Tryz.isAgg45
 z22:=Tryz.sizeOf45
 v22:=Tryz.zeroValue45
 i3:=by kernel_rfl }
def qJB:Go.Shelf.Ren:=⟨fun | 25=>397 | 31=>339 | 32=>398 | 37=>348 |n=>n,fun | 22=>45 | 3=>3 | 4=>4 | 40=>357 | 0=>0 |n=>n,fun |n=>n⟩
theorem qwS:Go.Proofs.Lays2.n25 Tryz.prog qJB:={
 mixed:=by kernel_rfl
 f25:=Tryz.func397.trans (congrArg some (by kernel_rfl))
 f31:=Tryz.func339.trans (congrArg some (by kernel_rfl))
 f32:=Tryz.func398.trans (congrArg some (by kernel_rfl))
 f37:=Tryz.func348.trans (congrArg some (by kernel_rfl))
 t0:=Tryz.underlying0
 a0:=Tryz.isAgg0
 z0:=Tryz.sizeOf0
 v0:=Tryz.zeroValue0
 t3:=Tryz.underlying3
 a3:=Tryz.isAgg3
 z3:=Tryz.sizeOf3
 v3:=Tryz.zeroValue3
 t4:=Tryz.underlying4
 a4:=Tryz.isAgg4
 z4:=Tryz.sizeOf4
 v4:=Tryz.zeroValue4
 t22:=Tryz.underlying45
 a22:=Tryz.isAgg45
 z22:=Tryz.sizeOf45
 v22:=Tryz.zeroValue45
 t40:=Tryz.underlying357
 a40:=Tryz.isAgg357
 z40:=Tryz.sizeOf357
 v40:=Tryz.zeroValue357 }
theorem qxh:Builder.Extra Tryz.prog UJ:={ sizeBuilder:=by kernel_rfl,liesBuilder:=by kernel_rfl,t5:=Tryz.underlying5,a5:=Tryz.isAgg5,z5:=Tryz.sizeOf5,v5:=Tryz.zeroValue5,infoByte:=by kernel_rfl,cellsByte:=by kernel_rfl,sizeByte:=by kernel_rfl,neB5:=by decide }
noncomputable def W90:WF:=qQ7
theorem jJC:XOk Tryz.prog 90 W90:=qj9 λbk o c xs sep w h1 h2 h3 h4 h5=>Any.strings_Join qwt qxh bk o c xs sep w h1 h2 h3 h4 h5
noncomputable def W280:WF:=xNd
theorem qkn:XOk Tryz.prog 280 W280:=qy5 (iK ..) λu w h1 h2 h3=>Any.internal_strconv_numDigits qwE u h1 h2 w h3
noncomputable def W281:WF:=xFb
theorem qvr:XOk Tryz.prog 281 W281:=qy9 λblk off cap u d w h1 h2 h3 h4=>Any.internal_strconv_formatBase10 qw6 blk off cap u d w h1 h2 h3 h4
noncomputable def W288:WF:=qJU
theorem qvB:XOk Tryz.prog 288 W288:=qxM λblk off cap zs w h1 h2 h3=>Any.slices_Sort_int qkr blk off cap zs w h1 h2 h3
noncomputable def W289:WF:=Zu 3
theorem qk6:XOk Tryz.prog 289 W289:=qxI (by kernel_rfl) λblk off cap zs w h1 h2 h3=>Any.slices_Compact_int qgP blk off cap zs w h1 h2 h3
noncomputable def W397:WF:=Zs
theorem qvp:XOk Tryz.prog 397 W397:=qzN λb off n c zs x w h1 h2 h3 h4=>Any.slices_BinarySearch_int qwS b off n c zs x w h1 h2 h3 h4
end Go.Proofs.YtbiljkdgeekpbacGreatDoor
