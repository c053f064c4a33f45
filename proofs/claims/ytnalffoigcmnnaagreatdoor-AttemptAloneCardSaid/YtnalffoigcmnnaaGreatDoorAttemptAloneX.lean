/- Some of the library's functions by the kit's contracts, over any program: how many digits a number has; its digits laid; words joined. -/
import Derived.Test.YtnalffoigcmnnaaGreatDoorAttemptAloneAe7
import Derived.Shelf.Strings.OnBuilder
import Derived.Shelf.Strconv.Itoa1
import Derived.Shelf.Strconv.Itoa2
import Derived.Shelf.Sort.Plain
import Derived.Shelf.Slices.CompactI
import Derived.Shelf.Slices.SearchI
import Derived.Test.YtnalffoigcmnnaaGreatDoorProg
import Derived.KernelRfl
namespace Go.Proofs.YtnalffoigcmnnaaGreatDoor
open Go Go.Ae Go.Shelf
def qJp:List AV→Option (List UInt8)
 |[]=>some []
 | .int .u8 (.ofNat n)::r=>bif Nat.ble (n+1) 256 then(qJp r).bind λs=>some (UInt8.ofNat n::s)else none
 |_=>none
def xNd:WF:=λ_ l h=>match l with
 |[.int .u64 (.ofNat u)]=>bif Nat.ble 1 u&&Nat.ble (u+1) 18446744073709551616 then some (.int .i64 (.ofNat (Lib.nDigits u)),h)else none
 |_=>none
def dgs (n u:Nat):List AV:=(List.range n).map λt=>.int .u8 (.ofNat (Lib.dg u (n-1-t)).toNat)
noncomputable def xFb:WF:=λ_ l h=>match l with
 |[.slice b 0 n _ false,.int .u64 (.ofNat u)]=>
  (match h.get b with
  |some (.cells c e false)=>(match qJp (c.toList.take n)with
   |some bs=>bif Nat.beq bs.length n&&(Nat.ble (u+1) (10 ^ n)&&(Nat.ble (u+1) 18446744073709551616&&Nat.ble n 100))then some (.tup [],h.put b (.cells (CT.ofList (dgs n u++c.toList.drop n)) e false))else none
   |none=>none)
  |_=>none)
 |_=>none
def Yt:List AV→Option (List (List UInt8))
 |[]=>some []
 | .str s::r=>(Yt r).bind λl=>some (s::l)
 |_=>none
noncomputable def OV:WF:=λ_ l h=>match l with
 |[.slice b o n cap false,.str sep]=>
  (match h.get b with
  |some (.cells c _ _)=>(match Yt ((c.toList.drop o).take n)with
   |some xs=>bif Nat.beq xs.length n&&(Nat.ble n cap&&(Nat.ble n 1000000&&Nat.ble (Lib.join xs sep).length 1000000))then some (.str (Lib.join xs sep),h)else none
   |none=>none)
  |_=>none)
 |_=>none
theorem qYs:∀{l:List AV} {bs:List UInt8},qJp l=some bs→l=bs.map λc=>.int .u8 (.ofNat c.toNat):=by
 intro l
 induction l with
 |nil=>intro bs h;cases h;rfl
 |cons a l ih=>
  intro bs h;unfold qJp at h
  split at h
  ·rename_i heq;cases heq
  ·rename_i n r heq;cases heq;cases hb:Nat.ble (n+1) 256
   ·rw[hb]at h;cases h
   ·rw[hb]at h;simp only[cond_true,Option.bind_eq_some_iff,Option.some.injEq]at h;obtain⟨s,hs,rfl⟩:=h;have:=Nat.le_of_ble_eq_true hb;rw[List.map_cons,← ih hs,UInt8.toNat_ofNat_of_lt' (by show n<256;omega)]
  ·cases h
theorem qZH:∀{l:List AV} {xs:List (List UInt8)},Yt l=some xs→l=xs.map .str:=by
 intro l
 induction l with
 |nil=>intro bs h;cases h;rfl
 |cons a l ih=>
  intro bs h;unfold Yt at h
  split at h
  ·rename_i heq;cases heq
  ·rename_i s r heq;cases heq;simp only[Option.bind_eq_some_iff,Option.some.injEq]at h;obtain⟨t,ht,rfl⟩:=h;rw[List.map_cons,← ih ht]
  ·cases h
variable {P:Program}
theorem qkT {f : Nat} (hg : ("internal/strconv.uint64pow10", IntKind.u64, Lib.pow10Tab) ∈ gtab)
  (hc : ∀ (u : Nat) (w : World), 1 ≤ u → u < 18446744073709551616 → Lib.TabIs P w "internal/strconv.uint64pow10" .u64 Lib.pow10Tab → Calls P f #[.int .u64 u] w fun e w' => e = .returned (.int .i64 (Lib.nDigits u)) ∧ w' = w) : XOk P f xNd := by
 intro c l h r e m D W RR hD n;unfold xNd at e
 split at e
 rotate_left
 ·cases e
 rename_i u;cases hb:(Nat.ble 1 u&&Nat.ble (u+1) 18446744073709551616)
 ·rw[hb]at e;cases e
 rw[hb]at e;simp only[cond_true,Option.some.injEq]at e;simp only[Bool.and_eq_true]at hb;obtain⟨_,_,ht⟩:=RR.gl.gl _ hg;refine CallsIn.mono (callsIn_wide.2 (hc u W (Nat.le_of_ble_eq_true hb.1) (by have:=Nat.le_of_ble_eq_true hb.2;omega) ht)) ?_;rintro ee w' ⟨rfl,rfl⟩;subst e;exact⟨m,D,rfl,Ext.refl ..,RR,trivial⟩
theorem QH (n u:Nat):(dgs n u).length=n:=by simp[dgs]
theorem qkM {f:Nat} (hc:∀(blk off cap u:Nat) (d:Array UInt8) (w:World),Sort.Holds (λ(b:UInt8)=>Value.int .u8 (b.toNat:Int)) w blk off d→u<10 ^ d.size→u<18446744073709551616→d.size<4611686018427387904→
  Calls P f #[.slice (some ⟨blk,off,none⟩) d.size cap,.int .u64 u] w λe w'=>e=.returned (.tuple #[])∧∃(n v':Nat) (dk:Array UInt8),w'=(Sort.putRow (λ(b:UInt8)=>Value.int .u8 (b.toNat:Int)) w blk off dk).drewN n∧Lib.FmtInv d.size u 0 v' dk):XOk P f xFb:=by
 intro c l h r e m D W RR hD nn;unfold xFb at e
 split at e
 rotate_left
 ·cases e
 rename_i b n cap u
 split at e
 rotate_left
 ·cases e
 rename_i ct ty hgb
 split at e
 rotate_left
 ·cases e
 rename_i bs hbs;cases hb:(Nat.beq bs.length n&&(Nat.ble (u+1) (10 ^ n)&&(Nat.ble (u+1) 18446744073709551616&&Nat.ble n 100)))
 ·rw[hb]at e;cases e
 rw[hb]at e;simp only[cond_true,Option.some.injEq]at e;simp only[Bool.and_eq_true]at hb;obtain⟨hb1,hb2,hb3,hb4⟩:=hb;have hb1:=Nat.eq_of_beq_eq_true hb1;have hb2:=Nat.le_of_ble_eq_true hb2;have hb3:=Nat.le_of_ble_eq_true hb3;have hb4:=Nat.le_of_ble_eq_true hb4;subst hb1;have hDb:D b:=hD.1;obtain⟨rest,fr,hh,hrest,hfz,_,hd⟩:=RR.cells hDb hgb;obtain rfl:=hrest rfl;simp only[List.append_nil,List.length_nil,Nat.add_zero]at hh hfz;have hC:=qYs hbs;have hle:bs.length≤ct.toList.length:=by have:=congrArg List.length hC;simp at this;omega
 have hsz:bs.toArray.size=bs.length:=by simp
 have hat:∀j,j<bs.length→ct.toList[j]? =some (.int .u8 (.ofNat bs.toArray[j]!.toNat)):=by intro j hj;have:=congrArg (·[j]?) hC;simp only[List.getElem?_take_of_lt hj,List.getElem?_map,iW hj,Option.map_some]at this;rw[this];simp[hj]
 have H:Sort.Holds (λ(b:UInt8)=>Value.int .u8 (b.toNat:Int)) W (m b).1 0 bs.toArray:=by
  intro j hj;rw[hsz]at hj;refine⟨?_,?_⟩
  ·unfold World.cell?;rw[Nat.zero_add];simp only[hh];simp[zj,hat j hj,cv]
  ·unfold World.frozen?;rw[Nat.zero_add];simp only[hh];have:=hfz j omQ;simpa using this
 have key:=hc (m b).1 0 cap u bs.toArray W H (by rw[hsz];omega) omQ (by rw[hsz];omega);rw[hsz]at key;refine CallsIn.mono (callsIn_wide.2 key) ?_;rintro ee w' ⟨rfl,q,v',dk,rfl,F⟩;subst e;have hnew:inDs D (dgs bs.length u++ct.toList.drop bs.length):=by refine yI.2 ⟨(zh D _).2 ?_,(zh D _).2 λv hv=>(zh D _).1 hd v (List.mem_of_mem_drop hv)⟩;intro v hv;obtain⟨t,_,rfl⟩:=List.mem_map.1 hv;trivial
 obtain⟨X,R'⟩:=RR.put (w0:=(Sort.putRow (λ(b:UInt8)=>Value.int .u8 (b.toNat:Int)) W (m b).1 0 dk).drewN q) b (.cells (CT.ofList (dgs bs.length u++ct.toList.drop bs.length)) ty false) hDb ⟨_,hgb,trivial⟩
  (by show(Sort.putRow _ W (m b).1 0 dk).heap.size=_;simp) (λk hk=>by
   show(Sort.putRow _ W (m b).1 0 dk).heap[k]? =_;simp only[Sort.putRow,Sort.mapBlock,Array.getElem?_modify]
   rw[iQ (λe=>hk e.symm)]) rfl rfl rfl (by show inDs D (CT.ofList _).toList;rw[CT.ofList_ok];exact hnew)
  (by
   refine⟨[],fr,?_,λ_=>rfl,?_,λh=>by cases h⟩
   ·show(Sort.putRow _ W (m b).1 0 dk).heap[(m b).1]? =_;simp only[Sort.putRow,Sort.mapBlock,Array.getElem?_modify,iJ,hh,Option.map_some,Sort.onCells,List.append_nil]
    congr 2
    rw[CT.ofList_ok];apply Array.ext_getElem?;intro k;simp only[Sort.putCells,Array.getElem?_mapIdx,List.getElem?_toArray,zj,List.getElem?_map,Nat.zero_le,true_and,Nat.zero_add,Nat.sub_zero,F.size];by_cases hk:k<bs.length
    ·rw[List.getElem?_append_left (by rw[QH];exact hk),hat k hk];simp only[Option.map_some,iJ hk,dgs,List.getElem?_map,List.getElem?_range hk,F.done k (Nat.zero_le _) hk];rfl
    ·rw[List.getElem?_append_right (by rw[QH];omega),QH,List.getElem?_drop,show bs.length+(k-bs.length)=k by omega];cases ct.toList[k]? with
     |none=>rfl
     |some y=>simp only[Option.map_some,iQ hk]
   ·intro i hi;refine hfz i ?_;rw[CT.ofList_ok]at hi;simp only[List.length_append,QH,List.length_drop,List.length_nil]at hi
    omega)
 exact⟨m,D,rfl,X,R',trivial⟩
theorem qWu {f:Nat} (hc:∀(bk o c:Nat) (xs:List ByteArray) (sep:ByteArray) (w:World),
  (∀(j:Nat) x,xs[j]? =some x→w.cell? ⟨bk,o+j,none⟩=some (.string x))→bk<w.heap.size→xs.length≤140737488355328→xs.length≤c→(Lib.join (xs.map (·.data.toList)) sep.data.toList).length≤140737488355328→
  Calls P f #[.slice (some ⟨bk,o,none⟩) xs.length c,.string sep] w λe w'=>e=.returned (.string ⟨(Lib.join (xs.map (·.data.toList)) sep.data.toList).toArray⟩)∧RowKit.Below w.heap.size w w'):XOk P f OV:=by
 intro c l h r e m D W RR hD nn;unfold OV at e
 split at e
 rotate_left
 ·cases e
 rename_i b o n cap sep
 split at e
 rotate_left
 ·cases e
 rename_i ct ty op hgb
 split at e
 rotate_left
 ·cases e
 rename_i xs hxs;cases hb:(Nat.beq xs.length n&&(Nat.ble n cap&&(Nat.ble n 1000000&&Nat.ble (Lib.join xs sep).length 1000000)))
 ·rw[hb]at e;cases e
 rw[hb]at e;simp only[cond_true,Option.some.injEq]at e;simp only[Bool.and_eq_true]at hb;obtain⟨hb1,hb2,hb3,hb4⟩:=hb;have hb1:=Nat.eq_of_beq_eq_true hb1;have hb2:=Nat.le_of_ble_eq_true hb2;have hb3:=Nat.le_of_ble_eq_true hb3;have hb4:=Nat.le_of_ble_eq_true hb4;subst hb1;have hDb:D b:=hD.1;obtain⟨rest,fr,hh,_,_,_,_⟩:=RR.cells hDb hgb;have hC:=qZH hxs
 have key:=hc (m b).1 o cap (xs.map λx=>⟨x.toArray⟩) ⟨sep.toArray⟩ W (by
  intro j x hj;rw[List.getElem?_map]at hj;obtain⟨y,hy,rfl⟩:=Option.map_eq_some_iff.1 hj;have hjl:=(List.getElem?_eq_some_iff.1 hy).1;have:=congrArg (·[j]?) hC;simp only[List.getElem?_take_of_lt hjl,List.getElem?_drop,List.getElem?_map,hy,Option.map_some]at this;have hlt:=(List.getElem?_eq_some_iff.1 this).1;unfold World.cell?;simp only[hh];simp only[Option.isSome_none,Bool.false_eq_true,if_false,List.getElem?_toArray];rw[List.getElem?_append_left (by simpa using hlt),zj,List.getElem?_map,this]
  rfl) (by
  rcases Nat.lt_or_ge (m b).1 W.heap.size with h' |h'
  ·exact h'
  ·rw[Array.getElem?_eq_none h']at hh;cases hh) (by rw[List.length_map];omega) (by rw[List.length_map];omega) (by
  rw[List.map_map,show(λ(x:ByteArray)=>x.data.toList) ∘ (λ(x:List UInt8)=>(⟨x.toArray⟩:ByteArray))=id from by funext x;simp,List.map_id];show(Lib.join xs sep.toArray.toList).length≤_
  rw[List.toList_toArray];omega)
 rw[List.length_map,List.map_map,show(λ(x:ByteArray)=>x.data.toList) ∘ (λ(x:List UInt8)=>(⟨x.toArray⟩:ByteArray))=id from by funext x;simp,List.map_id]at key;refine CallsIn.mono (callsIn_wide.2 key) ?_;rintro ee w' ⟨rfl,B⟩;subst e;obtain⟨X,R'⟩:=JI RR B;refine⟨m,D,?_,X,R',trivial⟩;show Ending.returned _=Ending.returned (.string _);simp
def iOf:List AV→Option (List Int)
 |[]=>some []
 | .int .i64 x::r=>(iOf r).bind λs=>some (x::s)
 |_=>none
def qZO (x:Int):List Int→List Int
 |[]=>[x]
 |y::r=>if x≤y then x::y::r else y::qZO x r
def kZ:List Int→List Int
 |[]=>[]
 |x::r=>qZO x (kZ r)
def Ks:List Int→Bool
 |[]=>true
 |[_]=>true
 |x::y::r=>decide (x≤y)&&Ks (y::r)
noncomputable def OJ:WF:=λ_ l h=>match l with
 |[.slice b 0 n _ _]=>
  (match h.get b with
  |some (.cells c e o)=>(match iOf (c.toList.take n)with
   |some zs=>bif Nat.beq zs.length n&&Nat.ble n 1000000 then some (.tup [],h.put b (.cells (CT.ofList ((kZ zs).map (.int .i64)++c.toList.drop n)) e o))else none
   |none=>none)
  |_=>none)
 |_=>none
noncomputable def Oj (e0:TypeId):WF:=λ_ l h=>match l with
 |[.slice b 0 n cap q]=>
  (match h.get b with
  |some (.cells c e o)=>(match iOf (c.toList.take n)with
   |some zs=>bif Nat.beq zs.length n&&(Nat.ble n 1000000&&(bif q then Nat.beq cap 0&&(o&&Nat.beq e e0)else Nat.ble n cap))then some (.slice b 0 (Lib.compact zs).length cap q,
     h.put b (.cells (CT.ofList ((Lib.compact zs++List.replicate (zs.length-(Lib.compact zs).length) 0).map (.int .i64)++c.toList.drop n)) e o))else none
   |none=>none)
  |_=>none)
 |_=>none
noncomputable def Mu:WF:=λ_ l h=>match l with
 |[.slice b 0 n _ _,.int .i64 x]=>
  (match h.get b with
  |some (.cells c _ _)=>(match iOf (c.toList.take n)with
   |some zs=>bif Nat.beq zs.length n&&(Nat.ble n 1000000&&Ks zs)then some (.tup [.int .i64 (zs.countP (· <x):Nat),.bool (zs.contains x)],h)else none
   |none=>none)
  |_=>none)
 |_=>none
theorem Z6:∀{l:List AV} {zs:List Int},iOf l=some zs→l=zs.map (.int .i64):=by
 intro l
 induction l with
 |nil=>intro bs h;cases h;rfl
 |cons a l ih=>
  intro bs h;unfold iOf at h
  split at h
  ·rename_i heq;cases heq
  ·rename_i x r heq;cases heq;simp only[Option.bind_eq_some_iff,Option.some.injEq]at h;obtain⟨s,hs,rfl⟩:=h;rw[List.map_cons,← ih hs]
  ·cases h
theorem MH:∀(zs:List Int),iOf (zs.map (.int .i64))=some zs:=by
 intro zs
 induction zs with
 |nil=>rfl
 |cons x zs ih=>rw[List.map_cons];unfold iOf;rw[ih];rfl
theorem VA (x:Int):∀l,(qZO x l).Perm (x::l):=by
 intro l
 induction l with
 |nil=>exact .refl _
 |cons y r ih=>
  unfold qZO
  split
  ·exact .refl _
  ·exact(ih.cons y).trans (.swap ..)
theorem Ql:∀l,(kZ l).Perm l:=by
 intro l
 induction l with
 |nil=>exact .refl _
 |cons x r ih=>exact(VA ..).trans (ih.cons x)
theorem Oa (x:Int):∀{l:List Int},l.Pairwise (· ≤ ·)→(qZO x l).Pairwise (· ≤ ·):=by
 intro l
 induction l with
 |nil=>intro _;exact List.pairwise_singleton ..
 |cons y r ih=>
  intro h;have h1:=List.pairwise_cons.1 h;unfold qZO
  split
  ·rename_i hxy;refine List.pairwise_cons.2 ⟨λa ha=>?_,h⟩;rcases List.mem_cons.1 ha with rfl |ha
   ·exact hxy
   ·exact Int.le_trans hxy (h1.1 a ha)
  ·refine List.pairwise_cons.2 ⟨λa ha=>?_,ih h1.2⟩;rcases List.mem_cons.1 ((VA x r).mem_iff.1 ha)with rfl |ha
   ·omega
   ·exact h1.1 a ha
theorem XG:∀l,(kZ l).Pairwise (· ≤ ·):=by
 intro l
 induction l with
 |nil=>exact List.Pairwise.nil
 |cons x r ih=>exact Oa x ih
theorem K3 (l:List Int):(kZ l).length=l.length:=(Ql l).length_eq
theorem qJf (l:List Int):l.mergeSort (λx y=>decide (x≤y))=kZ l:=by refine List.Perm.eq_of_pairwise (le:=λx y:Int=>x≤y) (λa b _ _ h1 h2=>by omega) ?_ (XG l) ((List.mergeSort_perm ..).trans (Ql l).symm);exact(List.pairwise_mergeSort (λa b c h1 h2=>by simp at*;omega) (λa b=>by simp;omega) l).imp λh=>by simpa using h
theorem qKO:∀{l:List Int},Ks l=true→l.Pairwise (· ≤ ·):=by
 intro l
 induction l with
 |nil=>intro _;exact List.Pairwise.nil
 |cons x r ih=>
  intro h;cases r with
  |nil=>exact List.pairwise_singleton ..
  |cons y r=>
   unfold Ks at h;simp only[Bool.and_eq_true,decide_eq_true_eq]at h;have:=ih h.2;refine List.pairwise_cons.2 ⟨λa ha=>?_,this⟩;rcases List.mem_cons.1 ha with rfl |ha
   ·exact h.1
   ·exact Int.le_trans h.1 ((List.pairwise_cons.1 this).1 a ha)
theorem Uy {enc:Int→Value} {A:List Value} {dk:List Int} (h:dk.length≤A.length):Sort.putCells enc 0 dk.toArray A.toArray=(dk.map enc++A.drop dk.length).toArray:=by
 apply Array.ext_getElem?;intro k;simp only[Sort.putCells,Array.getElem?_mapIdx,List.getElem?_toArray,Nat.zero_le,true_and,Nat.zero_add,Nat.sub_zero,List.size_toArray];by_cases hk:k<dk.length
 ·rw[List.getElem?_append_left (by simpa using hk),List.getElem?_map,iW hk,iW (show k<A.length by omega)];simp[hk]
 ·rw[List.getElem?_append_right (by simp;omega),List.length_map,List.getElem?_drop,show dk.length+(k-dk.length)=k by omega];cases A[k]? with
  |none=>rfl
  |some y=>simp only[Option.map_some,iQ hk]
section
variable {P:Program} {m:Mp} {D:Nat→Prop} {h:AH} {W:World} {b n:Nat} {c:CT} {e:TypeId} {o:Bool}
theorem qQC (RR:Rel P m D h W) (hD:D b) (hg:h.get b=some (.cells c e o)) {zs:List Int} (hz:c.toList.take n=zs.map (.int .i64)) (hl:zs.length=n):Sort.Holds (Value.int .i64) W (m b).1 0 zs.toArray∧(m b).1<W.heap.size:=by
 obtain⟨rest,fr,hh,_,hfz,_,_⟩:=RR.cells hD hg;have hle:n≤c.toList.length:=by have:=congrArg List.length hz;simp at this;omega
 refine⟨λj hj=>?_,?_⟩
 ·have hj:j<zs.length:=by simpa using hj
  have ha:c.toList[j]? =some (.int .i64 zs[j]):=by have:=congrArg (·[j]?) hz;simp only[List.getElem?_take_of_lt (show j<n by omega),List.getElem?_map,iW hj,Option.map_some]at this;exact this
  refine⟨?_,?_⟩
  ·unfold World.cell?;rw[Nat.zero_add];simp only[hh];simp only[Option.isSome_none,Bool.false_eq_true,if_false,List.getElem?_toArray];rw[List.getElem?_append_left (by rw[zj,List.length_map];omega),zj,List.getElem?_map,ha];simp[cv,hj]
  ·unfold World.frozen?;rw[Nat.zero_add];simp only[hh];have:=hfz j omQ;simpa using this
 ·rcases Nat.lt_or_ge (m b).1 W.heap.size with h' |h'
  ·exact h'
  ·rw[Array.getElem?_eq_none h']at hh;cases hh
theorem qQD (RR:Rel P m D h W) (hD:D b) (hg:h.get b=some (.cells c e o)) {zs dk:List Int} (hz:c.toList.take n=zs.map (.int .i64)) (hl:zs.length=n) (hd:dk.length=n) (q:Nat) :
  Ext m D h W m D (h.put b (.cells (CT.ofList (dk.map (.int .i64)++c.toList.drop n)) e o)) (Sort.putRow (Value.int .i64) (Sort.ahead W q) (m b).1 0 dk.toArray)∧
   Rel P m D (h.put b (.cells (CT.ofList (dk.map (.int .i64)++c.toList.drop n)) e o)) (Sort.putRow (Value.int .i64) (Sort.ahead W q) (m b).1 0 dk.toArray):=by
 obtain⟨rest,fr,hh,hrest,hfz,hop,hin⟩:=RR.cells hD hg;have hle:n≤c.toList.length:=by have:=congrArg List.length hz;simp at this;omega
 have hll:(dk.map (AV.int .i64)++c.toList.drop n).length=c.toList.length:=by simp;omega
 refine RR.put b _ hD ⟨_,hg,trivial⟩ (by show(Sort.putRow _ W (m b).1 0 _).heap.size=_;simp) (λk hk=>by
  show(Sort.putRow _ W (m b).1 0 _).heap[k]? =_;simp only[Sort.putRow,Sort.mapBlock,Array.getElem?_modify]
  rw[iQ (λe=>hk e.symm)]) rfl rfl rfl (by
   show inDs D (CT.ofList _).toList;rw[CT.ofList_ok];refine yI.2 ⟨(zh D _).2 λv hv=>?_,(zh D _).2 λv hv=>(zh D _).1 hin v (List.mem_of_mem_drop hv)⟩;obtain⟨t,_,rfl⟩:=List.mem_map.1 hv
   trivial) ?_
 refine⟨rest,fr,?_,hrest,?_,?_⟩
 ·show(Sort.putRow _ W (m b).1 0 _).heap[(m b).1]? =_;simp only[Sort.putRow,Sort.mapBlock,Array.getElem?_modify,iJ,hh,Option.map_some,Sort.onCells];rw[Uy (by rw[List.length_append,zj,List.length_map];omega),CT.ofList_ok,hd,zj,zj,List.map_append,List.map_map,List.drop_append_of_le_length (by rw[List.length_map];exact hle),List.append_assoc,List.map_drop];rfl
 ·rw[CT.ofList_ok,hll];exact hfz
 ·rw[CT.ofList_ok,hll];exact hop
theorem qZt (RR:Rel P m D h W) (q:Nat):Ext m D h W m D h (W.drewN q)∧Rel P m D h (W.drewN q):=JI RR { os:=rfl,tape:=rfl,output:=rfl,size:=Nat.le_refl _,block:=λ_ _=>rfl }
theorem qWP {W0:World} (RR:Rel P m D h W0) (os:Array Obj):Ext m D h W0 m D h (Sort.grow W0 os)∧Rel P m D h (Sort.grow W0 os):=JI RR { os:=rfl,tape:=rfl,output:=rfl,size:=by simp[Sort.grow],block:=λc hc=>by simp[Sort.grow,Array.getElem?_append_left hc] }
end
variable {P:Program}
theorem qG5 {f:Nat} (hc:∀(blk off cap:Nat) (zs:List Int) (w:World),Sort.Holds (Value.int .i64) w blk off zs.toArray→blk<w.heap.size→zs.length<4611686018427387904→
  Calls P f #[.slice (some ⟨blk,off,none⟩) zs.length cap] w λe w'=>e=.returned (.tuple #[])∧∃n os,w'=Sort.grow (Sort.putRow (Value.int .i64) (Sort.ahead w n) blk off (zs.mergeSort λx y=>decide (x≤y)).toArray) os):XOk P f OJ:=by
 intro c l h r e m D W RR hD nn;unfold OJ at e
 split at e
 rotate_left
 ·cases e
 rename_i b n cap q
 split at e
 rotate_left
 ·cases e
 rename_i ct ty o hgb
 split at e
 rotate_left
 ·cases e
 rename_i zs hzs;cases hb:(Nat.beq zs.length n&&Nat.ble n 1000000)
 ·rw[hb]at e;cases e
 rw[hb]at e;simp only[cond_true,Option.some.injEq]at e;simp only[Bool.and_eq_true]at hb;have hb1:=Nat.eq_of_beq_eq_true hb.1;have hb2:=Nat.le_of_ble_eq_true hb.2;have hDb:D b:=hD.1;have hC:=Z6 hzs;obtain⟨H,hlt⟩:=qQC RR hDb hgb hC hb1;obtain⟨cp,hcp⟩:∃cp,cvs m [.slice b 0 n cap q]=[.slice (some ⟨(m b).1,0,none⟩) n cp]:=⟨_,rfl⟩;rw[hcp];have key:=hc (m b).1 0 cp zs W H hlt omQ;rw[hb1]at key;refine CallsIn.mono (callsIn_wide.2 key) ?_;rintro ee w' ⟨rfl,k,os,rfl⟩;subst e;rw[qJf];obtain⟨X,R'⟩:=qQD RR hDb hgb hC hb1 (dk:=kZ zs) (by rw[K3];exact hb1) k;obtain⟨X2,R2⟩:=qWP R' os;exact⟨m,D,rfl,X.trans X2,R2,trivial⟩
theorem qQ6 (zs:List Int):(Lib.compact zs).length≤zs.length:=by unfold Lib.compact Lib.compactUpTo;rw[List.length_map];exact Nat.le_trans (List.length_filter_le ..) (by rw[List.length_range];exact Nat.le_refl _)
theorem qVt {f:Nat} {e0:TypeId} (h0:cellsOf? P e0=some 1) (hc:∀(blk off cap:Nat) (zs:List Int) (w:World),Sort.Holds (Value.int .i64) w blk off zs.toArray→zs.length≤9223372036854775807→zs.length≤cap→
  Calls P f #[.slice (some ⟨blk,off,none⟩) zs.length cap] w λe w'=>e=.returned (.slice (some ⟨blk,off,none⟩) (Lib.compact zs).length cap)∧∃q,w'=Sort.putRow (Value.int .i64) (Sort.ahead w q) blk off (Lib.compact zs++List.replicate (zs.length-(Lib.compact zs).length) 0).toArray):XOk P f (Oj e0):=by
 intro c l h r e m D W RR hD nn;unfold Oj at e
 split at e
 rotate_left
 ·cases e
 rename_i b n cap q
 split at e
 rotate_left
 ·cases e
 rename_i ct ty o hgb
 split at e
 rotate_left
 ·cases e
 rename_i zs hzs;cases hb:(Nat.beq zs.length n&&(Nat.ble n 1000000&&(bif q then Nat.beq cap 0&&(o&&Nat.beq ty e0)else Nat.ble n cap)))
 ·rw[hb]at e;cases e
 rw[hb]at e;simp only[cond_true,Option.some.injEq]at e;simp only[Bool.and_eq_true]at hb;have hb1:=Nat.eq_of_beq_eq_true hb.1;have hb2:=Nat.le_of_ble_eq_true hb.2.1;have hDb:D b:=hD.1;have hC:=Z6 hzs;obtain⟨H,hlt⟩:=qQC RR hDb hgb hC hb1;obtain⟨cp,hcp,hr,hcap⟩:∃cp,cvs m [.slice b 0 n cap q]=[.slice (some ⟨(m b).1,0,none⟩) n cp]∧(∀k,cv m (.slice b 0 k cap q)=.slice (some ⟨(m b).1,0,none⟩) k cp)∧n≤cp:=by
  refine⟨_,rfl,λ_=>rfl,?_⟩;have h3:=hb.2.2;cases q with
  |false=>exact Nat.le_of_ble_eq_true h3
  |true=>
   simp only[cond_true,Bool.and_eq_true]at h3;have k1:=Nat.eq_of_beq_eq_true h3.1;have k2:=Nat.eq_of_beq_eq_true h3.2.2;obtain⟨rest,fr,_,_,_,hop,_⟩:=RR.cells hDb hgb;have:=(hop h3.2.1 1 (by rw[k2];exact h0)).1;have hle:n≤ct.toList.length:=by have:=congrArg List.length hC;simp at this;omega
   show n≤(m b).2-cap;omega
 rw[hcp];have key:=hc (m b).1 0 cp zs W H omQ (by rw[hb1];exact hcap);rw[hb1]at key;refine CallsIn.mono (callsIn_wide.2 key) ?_;rintro ee w' ⟨rfl,k,rfl⟩;subst e;have hle:=qQ6 zs;rw[hb1];obtain⟨X,R'⟩:=qQD RR hDb hgb hC hb1 (dk:=Lib.compact zs++List.replicate (n-(Lib.compact zs).length) 0) (by simp;omega) k;exact⟨m,D,by rw[hr],X,R',hDb⟩
theorem qWT {f:Nat} (hc:∀(b off n c:Nat) (zs:List Int) (x:Int) (w:World),n≤zs.length→n<4611686018427387904→(∀j,j<zs.length→w.cell? ⟨b,off+j,none⟩=some (.int .i64 (zs.getD j 0)))→(zs.take n).Pairwise (· ≤ ·)→
  Calls P f #[.slice (some ⟨b,off,none⟩) n c,.int .i64 x] w λe w'=>e=.returned (.tuple #[.int .i64 ((zs.take n).countP (· <x):Nat),.bool ((zs.take n).contains x)])∧∃q,w'=w.drewN q):XOk P f Mu:=by
 intro c l h r e m D W RR hD nn;unfold Mu at e
 split at e
 rotate_left
 ·cases e
 rename_i b n cap q x
 split at e
 rotate_left
 ·cases e
 rename_i ct ty o hgb
 split at e
 rotate_left
 ·cases e
 rename_i zs hzs;cases hb:(Nat.beq zs.length n&&(Nat.ble n 1000000&&Ks zs))
 ·rw[hb]at e;cases e
 rw[hb]at e;simp only[cond_true,Option.some.injEq]at e;simp only[Bool.and_eq_true]at hb;have hb1:=Nat.eq_of_beq_eq_true hb.1;have hb2:=Nat.le_of_ble_eq_true hb.2.1;have hDb:D b:=hD.1;obtain⟨H,_⟩:=qQC RR hDb hgb (Z6 hzs) hb1;have tk:zs.take n=zs:=List.take_of_length_le omQ;obtain⟨cp,hcp⟩:∃cp,cvs m [.slice b 0 n cap q,.int .i64 x]=[.slice (some ⟨(m b).1,0,none⟩) n cp,.int .i64 x]:=⟨_,rfl⟩;rw[hcp]
 have key:=hc (m b).1 0 n cp zs x W omQ omQ (λj hj=>by
  rw[(H j (by simpa using hj)).1]
  simp[hj]) (by rw[tk];exact qKO hb.2.2)
 rw[tk]at key;refine CallsIn.mono (callsIn_wide.2 key) ?_;rintro ee w' ⟨rfl,k,rfl⟩;subst e;obtain⟨X,R'⟩:=qZt RR k;exact⟨m,D,rfl,X,R',trivial,trivial,trivial⟩
def GZ:Go.Shelf.Ren:=⟨fun | 156=>85 | 165=>118 | 166=>119 | 169=>120 | 240=>170 | 241=>171 | 276=>239 | 277=>240 |n=>n,fun | 31=>149 | 9=>9 | 3=>3 | 4=>4 | 0=>0 | 20=>20 | 72=>188 | 76=>191 | 70=>186 | 37=>28 | 75=>190 | 127=>239 | 164=>286 | 5=>5 | 80=>63 |n=>n,fun |n=>n⟩
theorem qqS:Go.Proofs.Lays.n156 Tryz.prog GZ:={
 mixed:=by kernel_rfl
 f156:=Tryz.func85.trans (congrArg some (by kernel_rfl))
 f165:=Tryz.func118.trans (congrArg some (by kernel_rfl))
 f166:=Tryz.func119.trans (congrArg some (by kernel_rfl))
 f169:=Tryz.func120.trans (congrArg some (by kernel_rfl))
 f240:=Tryz.func170.trans (congrArg some (by kernel_rfl))
 f241:=Tryz.func171.trans (congrArg some (by kernel_rfl))
 f276:=Tryz.func239.trans (congrArg some (by kernel_rfl))
 f277:=Tryz.func240.trans (congrArg some (by kernel_rfl))
 t0:=Tryz.underlying0
 a0:=Tryz.isAgg0
 z0:=Tryz.sizeOf0
 v0:=Tryz.zeroValue0
 t3:=Tryz.underlying3
 a3:=Tryz.isAgg3
 z3:=Tryz.sizeOf3
 v3:=Tryz.zeroValue3
 t4:=Tryz.underlying4
 a4:=Tryz.isAgg4
 z4:=Tryz.sizeOf4
 v4:=Tryz.zeroValue4
 t9:=Tryz.underlying9
 a9:=Tryz.isAgg9
 z9:=Tryz.sizeOf9
 v9:=Tryz.zeroValue9
 t20:=Tryz.underlying20
 a20:=Tryz.isAgg20
 z20:=Tryz.sizeOf20
 v20:=Tryz.zeroValue20
 t31:=Tryz.underlying149
 a31:=Tryz.isAgg149
 z31:=Tryz.sizeOf149
 v31:=Tryz.zeroValue149
 t37:=Tryz.underlying28
 a37:=Tryz.isAgg28
 z37:=Tryz.sizeOf28
 v37:=Tryz.zeroValue28
 t70:=Tryz.underlying186
 a70:=Tryz.isAgg186
 z70:=Tryz.sizeOf186
 v70:=Tryz.zeroValue186
 t72:=Tryz.underlying188
 a72:=Tryz.isAgg188
 z72:=Tryz.sizeOf188
 v72:=Tryz.zeroValue188
 t75:=Tryz.underlying190
 a75:=Tryz.isAgg190
 z75:=Tryz.sizeOf190
 v75:=Tryz.zeroValue190
 t76:=Tryz.underlying191
 a76:=Tryz.isAgg191
 z76:=Tryz.sizeOf191
 v76:=Tryz.zeroValue191
 t127:=Tryz.underlying239
 a127:=Tryz.isAgg239
 z127:=Tryz.sizeOf239
 v127:=Tryz.zeroValue239
 t164:=Tryz.underlying286
 a164:=Tryz.isAgg286
 z164:=Tryz.sizeOf286
 v164:=Tryz.zeroValue286 }
def N8:Go.Shelf.Ren:=⟨fun | 284=>236 | 129=>272 | 317=>271 | 318=>273 |n=>n,fun | 53=>24 | 3=>3 | 212=>310 | 0=>0 | 4=>4 | 46=>93 | 5=>5 | 9=>9 |n=>n,fun | 17=>0 |n=>n⟩
theorem qq6:Go.Proofs.LaysM.n284 Tryz.prog N8:={
 mixed:=by kernel_rfl
 f129:=Tryz.func272.trans (congrArg some (by kernel_rfl))
 f284:=Tryz.func236.trans (congrArg some (by kernel_rfl))
 f317:=Tryz.func271.trans (congrArg some (by kernel_rfl))
 f318:=Tryz.func273.trans (congrArg some (by kernel_rfl))
 t0:=Tryz.underlying0
 a0:=Tryz.isAgg0
 z0:=Tryz.sizeOf0
 v0:=Tryz.zeroValue0
 t3:=Tryz.underlying3
 a3:=Tryz.isAgg3
 z3:=Tryz.sizeOf3
 v3:=Tryz.zeroValue3
 t4:=Tryz.underlying4
 a4:=Tryz.isAgg4
 z4:=Tryz.sizeOf4
 v4:=Tryz.zeroValue4
 t5:=Tryz.underlying5
 a5:=Tryz.isAgg5
 z5:=Tryz.sizeOf5
 v5:=Tryz.zeroValue5
 t9:=Tryz.underlying9
 a9:=Tryz.isAgg9
 z9:=Tryz.sizeOf9
 v9:=Tryz.zeroValue9
 t46:=Tryz.underlying93
 a46:=Tryz.isAgg93
 z46:=Tryz.sizeOf93
 v46:=Tryz.zeroValue93
 t53:=Tryz.underlying24
 a53:=Tryz.isAgg24
 z53:=Tryz.sizeOf24
 v53:=Tryz.zeroValue24
 t212:=Tryz.underlying310
 a212:=Tryz.isAgg310
 z212:=Tryz.sizeOf310
 v212:=Tryz.zeroValue310
 g17:=by kernel_rfl
 i0:=by kernel_rfl
 i3:=by kernel_rfl
 i4:=by kernel_rfl
 i5:=by kernel_rfl
 i9:=by kernel_rfl
 i46:=by kernel_rfl
 i53:=by kernel_rfl
 i212:=by kernel_rfl
 m17:=by kernel_rfl }
def OP:Go.Shelf.Ren:=⟨fun | 285=>237 |n=>n,fun | 37=>28 | 53=>24 | 3=>3 | 4=>4 | 51=>311 | 9=>9 | 5=>5 | 0=>0 |n=>n,fun |n=>n⟩
theorem qjU:Go.Proofs.Lays.n285 Tryz.prog OP:={
 mixed:=by kernel_rfl
 f285:=Tryz.func237.trans (congrArg some (by kernel_rfl))
 t0:=Tryz.underlying0
 a0:=Tryz.isAgg0
 z0:=Tryz.sizeOf0
 v0:=Tryz.zeroValue0
 t3:=Tryz.underlying3
 a3:=Tryz.isAgg3
 z3:=Tryz.sizeOf3
 v3:=Tryz.zeroValue3
 t4:=Tryz.underlying4
 a4:=Tryz.isAgg4
 z4:=Tryz.sizeOf4
 v4:=Tryz.zeroValue4
 t5:=Tryz.underlying5
 a5:=Tryz.isAgg5
 z5:=Tryz.sizeOf5
 v5:=Tryz.zeroValue5
 t9:=Tryz.underlying9
 a9:=Tryz.isAgg9
 z9:=Tryz.sizeOf9
 v9:=Tryz.zeroValue9
 t37:=Tryz.underlying28
 a37:=Tryz.isAgg28
 z37:=Tryz.sizeOf28
 v37:=Tryz.zeroValue28
 t51:=Tryz.underlying311
 a51:=Tryz.isAgg311
 z51:=Tryz.sizeOf311
 v51:=Tryz.zeroValue311
 t53:=Tryz.underlying24
 a53:=Tryz.isAgg24
 z53:=Tryz.sizeOf24
 v53:=Tryz.zeroValue24 }
def Ny:Go.Shelf.Ren:=⟨fun | 189=>177 | 125=>245 | 257=>244 | 128=>287 | 129=>272 | 294=>278 | 295=>279 | 296=>280 | 297=>281 | 298=>282 | 299=>283 | 216=>284 | 300=>285 | 301=>286 | 328=>295 | 329=>296 | 330=>297 | 331=>298 | 332=>299 | 215=>300 | 343=>301 |n=>n,fun | 28=>55 | 3=>3 | 46=>93 | 0=>0 | 51=>311 | 53=>24 | 4=>4 | 183=>317 | 182=>316 | 131=>289 | 5=>5 | 9=>9 | 218=>325 | 222=>328 | 228=>332 | 229=>260 |n=>n,fun |n=>n⟩
theorem qjp:Go.Proofs.Lays.n189 Tryz.prog Ny:={
 mixed:=by kernel_rfl
 f125:=Tryz.func245.trans (congrArg some (by kernel_rfl))
 f128:=Tryz.func287.trans (congrArg some (by kernel_rfl))
 f129:=Tryz.func272.trans (congrArg some (by kernel_rfl))
 f189:=Tryz.func177.trans (congrArg some (by kernel_rfl))
 f215:=Tryz.func300.trans (congrArg some (by kernel_rfl))
 f216:=Tryz.func284.trans (congrArg some (by kernel_rfl))
 f257:=Tryz.func244.trans (congrArg some (by kernel_rfl))
 f294:=Tryz.func278.trans (congrArg some (by kernel_rfl))
 f295:=Tryz.func279.trans (congrArg some (by kernel_rfl))
 f296:=Tryz.func280.trans (congrArg some (by kernel_rfl))
 f297:=Tryz.func281.trans (congrArg some (by kernel_rfl))
 f298:=Tryz.func282.trans (congrArg some (by kernel_rfl))
 f299:=Tryz.func283.trans (congrArg some (by kernel_rfl))
 f300:=Tryz.func285.trans (congrArg some (by kernel_rfl))
 f301:=Tryz.func286.trans (congrArg some (by kernel_rfl))
 f328:=Tryz.func295.trans (congrArg some (by kernel_rfl))
 f329:=Tryz.func296.trans (congrArg some (by kernel_rfl))
 f330:=Tryz.func297.trans (congrArg some (by kernel_rfl))
 f331:=Tryz.func298.trans (congrArg some (by kernel_rfl))
 f332:=Tryz.func299.trans (congrArg some (by kernel_rfl))
 f343:=Tryz.func301.trans (congrArg some (by kernel_rfl))
 t0:=Tryz.underlying0
 a0:=Tryz.isAgg0
 z0:=Tryz.sizeOf0
 v0:=Tryz.zeroValue0
 t3:=Tryz.underlying3
 a3:=Tryz.isAgg3
 z3:=Tryz.sizeOf3
 v3:=Tryz.zeroValue3
 t4:=Tryz.underlying4
 a4:=Tryz.isAgg4
 z4:=Tryz.sizeOf4
 v4:=Tryz.zeroValue4
 t5:=Tryz.underlying5
 a5:=Tryz.isAgg5
 z5:=Tryz.sizeOf5
 v5:=Tryz.zeroValue5
 t9:=Tryz.underlying9
 a9:=Tryz.isAgg9
 z9:=Tryz.sizeOf9
 v9:=Tryz.zeroValue9
 t28:=Tryz.underlying55
 a28:=Tryz.isAgg55
 z28:=Tryz.sizeOf55
 v28:=Tryz.zeroValue55
 t46:=Tryz.underlying93
 a46:=Tryz.isAgg93
 z46:=Tryz.sizeOf93
 v46:=Tryz.zeroValue93
 t51:=Tryz.underlying311
 a51:=Tryz.isAgg311
 z51:=Tryz.sizeOf311
 v51:=Tryz.zeroValue311
 t53:=Tryz.underlying24
 a53:=Tryz.isAgg24
 z53:=Tryz.sizeOf24
 v53:=Tryz.zeroValue24
 t131:=Tryz.underlying289
 a131:=Tryz.isAgg289
 z131:=Tryz.sizeOf289
 v131:=Tryz.zeroValue289
 t182:=Tryz.underlying316
 a182:=Tryz.isAgg316
 z182:=Tryz.sizeOf316
 v182:=Tryz.zeroValue316
 t183:=Tryz.underlying317
 a183:=Tryz.isAgg317
 z183:=Tryz.sizeOf317
 v183:=Tryz.zeroValue317
 t218:=Tryz.underlying325
 a218:=Tryz.isAgg325
 z218:=Tryz.sizeOf325
 v218:=Tryz.zeroValue325
 t222:=Tryz.underlying328
 a222:=Tryz.isAgg328
 z222:=Tryz.sizeOf328
 v222:=Tryz.zeroValue328
 t228:=Tryz.underlying332
 a228:=Tryz.isAgg332
 z228:=Tryz.sizeOf332
 v228:=Tryz.zeroValue332
 t229:=Tryz.underlying260
 a229:=Tryz.isAgg260
 z229:=Tryz.sizeOf260
 v229:=Tryz.zeroValue260 }
def Nx:Go.Shelf.Ren:=⟨fun | 20=>178 |n=>n,fun | 22=>55 | 3=>3 | 4=>4 | 0=>0 |n=>n,fun |n=>n⟩
theorem qqD:Go.Proofs.Lays2.n20 Tryz.prog Nx:={
 mixed:=by kernel_rfl
 f20:=Tryz.func178.trans (congrArg some (by kernel_rfl))
 t0:=Tryz.underlying0
 a0:=Tryz.isAgg0
 z0:=Tryz.sizeOf0
 v0:=Tryz.zeroValue0
 t3:=Tryz.underlying3
 a3:=Tryz.isAgg3
 z3:=Tryz.sizeOf3
 v3:=Tryz.zeroValue3
 t4:=Tryz.underlying4
 a4:=Tryz.isAgg4
 z4:=Tryz.sizeOf4
 v4:=Tryz.zeroValue4
 t22:=Tryz.underlying55
 a22:=Tryz.isAgg55
 z22:=Tryz.sizeOf55
 v22:=Tryz.zeroValue55
 i3:=by kernel_rfl }
def NG:Go.Shelf.Ren:=⟨fun | 25=>348 | 31=>284 | 32=>349 | 37=>300 |n=>n,fun | 22=>55 | 3=>3 | 4=>4 | 40=>93 | 0=>0 |n=>n,fun |n=>n⟩
theorem qqb:Go.Proofs.Lays2.n25 Tryz.prog NG:={
 mixed:=by kernel_rfl
 f25:=Tryz.func348.trans (congrArg some (by kernel_rfl))
 f31:=Tryz.func284.trans (congrArg some (by kernel_rfl))
 f32:=Tryz.func349.trans (congrArg some (by kernel_rfl))
 f37:=Tryz.func300.trans (congrArg some (by kernel_rfl))
 t0:=Tryz.underlying0
 a0:=Tryz.isAgg0
 z0:=Tryz.sizeOf0
 v0:=Tryz.zeroValue0
 t3:=Tryz.underlying3
 a3:=Tryz.isAgg3
 z3:=Tryz.sizeOf3
 v3:=Tryz.zeroValue3
 t4:=Tryz.underlying4
 a4:=Tryz.isAgg4
 z4:=Tryz.sizeOf4
 v4:=Tryz.zeroValue4
 t22:=Tryz.underlying55
 a22:=Tryz.isAgg55
 z22:=Tryz.sizeOf55
 v22:=Tryz.zeroValue55
 t40:=Tryz.underlying93
 a40:=Tryz.isAgg93
 z40:=Tryz.sizeOf93
 v40:=Tryz.zeroValue93 }
theorem qGh:Builder.Extra Tryz.prog GZ:={ sizeBuilder:=by kernel_rfl,liesBuilder:=by kernel_rfl,t5:=Tryz.underlying5,a5:=Tryz.isAgg5,z5:=Tryz.sizeOf5,v5:=Tryz.zeroValue5,infoByte:=by kernel_rfl,cellsByte:=by kernel_rfl,sizeByte:=by kernel_rfl,neB5:=by decide }
noncomputable def W85:WF:=OV
theorem qkU:XOk Tryz.prog 85 W85:=qWu λbk o c xs sep w h1 h2 h3 h4 h5=>Any.strings_Join qqS qGh bk o c xs sep w h1 h2 h3 h4 h5
noncomputable def W236:WF:=xNd
theorem qjM:XOk Tryz.prog 236 W236:=qkT (iK ..) λu w h1 h2 h3=>Any.internal_strconv_numDigits qq6 u h1 h2 w h3
noncomputable def W237:WF:=xFb
theorem qz4:XOk Tryz.prog 237 W237:=qkM λblk off cap u d w h1 h2 h3 h4=>Any.internal_strconv_formatBase10 qjU blk off cap u d w h1 h2 h3 h4
noncomputable def W177:WF:=OJ
theorem qzT:XOk Tryz.prog 177 W177:=qG5 λblk off cap zs w h1 h2 h3=>Any.slices_Sort_int qjp blk off cap zs w h1 h2 h3
noncomputable def W178:WF:=Oj 3
theorem qz0:XOk Tryz.prog 178 W178:=qVt (by kernel_rfl) λblk off cap zs w h1 h2 h3=>Any.slices_Compact_int qqD blk off cap zs w h1 h2 h3
noncomputable def W348:WF:=Mu
theorem qzU:XOk Tryz.prog 348 W348:=qWT λb off n c zs x w h1 h2 h3 h4=>Any.slices_BinarySearch_int qqb b off n c zs x w h1 h2 h3 h4
end Go.Proofs.YtnalffoigcmnnaaGreatDoor
