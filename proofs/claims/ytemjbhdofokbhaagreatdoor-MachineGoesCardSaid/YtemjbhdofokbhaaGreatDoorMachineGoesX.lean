/- Some of the library's functions by the kit's contracts, over any program: how many digits a number has; its digits laid; words joined. -/
import Derived.Test.YtemjbhdofokbhaaGreatDoorMachineGoesAe7
import Derived.Shelf.Strings.OnBuilder
import Derived.Shelf.Strconv.Itoa1
import Derived.Shelf.Strconv.Itoa2
import Derived.Shelf.Sort.Plain
import Derived.Shelf.Slices.CompactI
import Derived.Shelf.Slices.SearchI
import Derived.Test.YtemjbhdofokbhaaGreatDoorProg
import Derived.KernelRfl
namespace Go.Proofs.YtemjbhdofokbhaaGreatDoor
open Go Go.Ae Go.Shelf
def Df:List AV→Option (List UInt8)
 |[]=>some []
 | .int .u8 (.ofNat n)::r=>bif Nat.ble (n+1) 256 then(Df r).bind λs=>some (UInt8.ofNat n::s)else none
 |_=>none
def Fi:WF:=λ_ l h=>match l with
 |[.int .u64 (.ofNat u)]=>bif Nat.ble 1 u&&Nat.ble (u+1) 18446744073709551616 then some (.int .i64 (.ofNat (Lib.nDigits u)),h)else none
 |_=>none
def tX (n u:Nat):List AV:=(List.range n).map λt=>.int .u8 (.ofNat (Lib.dg u (n-1-t)).toNat)
noncomputable def Fj:WF:=λ_ l h=>match l with
 |[.slice b 0 n _ false,.int .u64 (.ofNat u)]=>
  (match h.get b with
  |some (.cells c e false)=>(match Df (c.toList.take n)with
   |some bs=>bif Nat.beq bs.length n&&(Nat.ble (u+1) (10 ^ n)&&(Nat.ble (u+1) 18446744073709551616&&Nat.ble n 100))then some (.cn [],h.put b (.cells (CT.ofList (tX n u++c.toList.drop n)) e false))else none
   |none=>none)
  |_=>none)
 |_=>none
def VZ:List AV→Option (List (List UInt8))
 |[]=>some []
 | .str s::r=>(VZ r).bind λl=>some (s::l)
 |_=>none
noncomputable def Fk:WF:=λ_ l h=>match l with
 |[.slice b o n cap false,.str sep]=>
  (match h.get b with
  |some (.cells c _ _)=>(match VZ ((c.toList.drop o).take n)with
   |some xs=>bif Nat.beq xs.length n&&(Nat.ble n cap&&(Nat.ble n 1000000&&Nat.ble (Lib.join xs sep).length 1000000))then some (.str (Lib.join xs sep),h)else none
   |none=>none)
  |_=>none)
 |_=>none
theorem jQN:∀{l:List AV} {bs:List UInt8},Df l=some bs→l=bs.map λc=>.int .u8 (.ofNat c.toNat):=by
 intro l
 induction l with
 |nil=>intro bs h;cases h;rfl
 |cons a l ih=>
  intro bs h;unfold Df at h
  split at h
  ·rename_i oG;cases oG
  ·rename_i n r oG;cases oG;cases hb:Nat.ble (n+1) 256
   ·rw[hb]at h;cases h
   ·rw[hb]at h;simp only[cond_true,Option.bind_eq_some_iff,Option.some.injEq]at h;obtain⟨s,hs,rfl⟩:=h;have:=Nat.le_of_ble_eq_true hb;rw[List.map_cons,← ih hs,UInt8.toNat_ofNat_of_lt' (by show n<256;omega)]
  ·cases h
theorem qzl:∀{l:List AV} {xs:List (List UInt8)},VZ l=some xs→l=xs.map .str:=by
 intro l
 induction l with
 |nil=>intro bs h;cases h;rfl
 |cons a l ih=>
  intro bs h;unfold VZ at h
  split at h
  ·rename_i oG;cases oG
  ·rename_i s r oG;cases oG;simp only[Option.bind_eq_some_iff,Option.some.injEq]at h;obtain⟨t,ht,rfl⟩:=h;rw[List.map_cons,← ih ht]
  ·cases h
variable {P:Program}
theorem jKe {f : Nat} (hg : ("internal/strconv.uint64pow10", IntKind.u64, Lib.pow10Tab) ∈ gtab)
  (hc : ∀ (u : Nat) (w : World), 1 ≤ u → u < 18446744073709551616 → Lib.TabIs P w "internal/strconv.uint64pow10" .u64 Lib.pow10Tab → Calls P f #[.int .u64 u] w fun e w' => e = .returned (.int .i64 (Lib.nDigits u)) ∧ w' = w) : pY P f Fi := by
 intro c l h r e m D W RR hD n;unfold Fi at e
 split at e
 rotate_left
 ·cases e
 rename_i u;cases hb:(Nat.ble 1 u&&Nat.ble (u+1) 18446744073709551616)
 ·rw[hb]at e;cases e
 rw[hb]at e;simp only[cond_true,Option.some.injEq]at e;simp only[Bool.and_eq_true]at hb;obtain⟨_,_,ht⟩:=RR.gl.gl _ hg;refine CallsIn.mono (callsIn_wide.2 (hc u W (Nat.le_of_ble_eq_true hb.1) (by have:=Nat.le_of_ble_eq_true hb.2;omega) ht)) ?_;rintro ee w' ⟨rfl,rfl⟩;subst e;exact⟨m,D,rfl,Ext.refl ..,RR,trivial⟩
theorem XS (n u:Nat):(tX n u).length=n:=by simp[tX]
theorem jKn {f:Nat} (hc:∀(bG off cap u:Nat) (d:Array UInt8) (w:World),Sort.Holds (λ(b:UInt8)=>Value.int .u8 (b.toNat:Int)) w bG off d→u<10 ^ d.size→u<18446744073709551616→d.size<4611686018427387904→
  Calls P f #[.slice (some ⟨bG,off,none⟩) d.size cap,.int .u64 u] w λe w'=>e=.returned (.tuple #[])∧∃(n v':Nat) (dk:Array UInt8),w'=(Sort.putRow (λ(b:UInt8)=>Value.int .u8 (b.toNat:Int)) w bG off dk).drewN n∧Lib.FmtInv d.size u 0 v' dk):pY P f Fj:=by
 intro c l h r e m D W RR hD nn;unfold Fj at e
 split at e
 rotate_left
 ·cases e
 rename_i b n cap u
 split at e
 rotate_left
 ·cases e
 rename_i ct ty ru
 split at e
 rotate_left
 ·cases e
 rename_i bs rh;cases hb:(Nat.beq bs.length n&&(Nat.ble (u+1) (10 ^ n)&&(Nat.ble (u+1) 18446744073709551616&&Nat.ble n 100)))
 ·rw[hb]at e;cases e
 rw[hb]at e;simp only[cond_true,Option.some.injEq]at e;simp only[Bool.and_eq_true]at hb;obtain⟨iE,fb,nf,Fl⟩:=hb;have iE:=Nat.eq_of_beq_eq_true iE;have fb:=Nat.le_of_ble_eq_true fb;have nf:=Nat.le_of_ble_eq_true nf;have Fl:=Nat.le_of_ble_eq_true Fl;subst iE;have pI:D b:=hD.1;obtain⟨rest,fr,hh,nC,hfz,_,hd⟩:=RR.cells pI ru;obtain rfl:=nC rfl;simp only[List.append_nil,List.length_nil,Nat.add_zero]at hh hfz;have hC:=jQN rh;have hle:bs.length≤ct.toList.length:=by have:=congrArg List.length hC;simp at this;omega
 have bP:bs.toArray.size=bs.length:=by simp
 have dJ:∀j,j<bs.length→ct.toList[j]? =some (.int .u8 (.ofNat bs.toArray[j]!.toNat)):=by intro j hj;have:=congrArg (·[j]?) hC;simp only[List.getElem?_take_of_lt hj,List.getElem?_map,iW hj,Option.map_some]at this;rw[this];simp[hj]
 have H:Sort.Holds (λ(b:UInt8)=>Value.int .u8 (b.toNat:Int)) W (m b).1 0 bs.toArray:=by
  intro j hj;rw[bP]at hj;refine⟨?_,?_⟩
  ·unfold World.cell?;rw[Nat.zero_add];simp only[hh];simp[xg,dJ j hj,cv]
  ·unfold World.frozen?;rw[Nat.zero_add];simp only[hh];have:=hfz j omQ;simpa using this
 have key:=hc (m b).1 0 cap u bs.toArray W H (by rw[bP];omega) omQ (by rw[bP];omega);rw[bP]at key;refine CallsIn.mono (callsIn_wide.2 key) ?_;rintro ee w' ⟨rfl,q,v',dk,rfl,F⟩;subst e;have iF:bm D (tX bs.length u++ct.toList.drop bs.length):=by refine gC.2 ⟨(yY D _).2 ?_,(yY D _).2 λv hv=>(yY D _).1 hd v (List.mem_of_mem_drop hv)⟩;intro v hv;obtain⟨t,_,rfl⟩:=List.mem_map.1 hv;trivial
 obtain⟨X,R'⟩:=RR.put (w0:=(Sort.putRow (λ(b:UInt8)=>Value.int .u8 (b.toNat:Int)) W (m b).1 0 dk).drewN q) b (.cells (CT.ofList (tX bs.length u++ct.toList.drop bs.length)) ty false) pI ⟨_,ru,trivial⟩
  (by show(Sort.putRow _ W (m b).1 0 dk).heap.size=_;simp) (λk hk=>by
   show(Sort.putRow _ W (m b).1 0 dk).heap[k]? =_;simp only[Sort.putRow,Sort.mapBlock,Array.getElem?_modify]
   rw[iQ (λe=>hk e.symm)]) rfl rfl rfl (by show bm D (CT.ofList _).toList;rw[CT.aP];exact iF)
  (by
   refine⟨[],fr,?_,λ_=>rfl,?_,λh=>by cases h⟩
   ·show(Sort.putRow _ W (m b).1 0 dk).heap[(m b).1]? =_;simp only[Sort.putRow,Sort.mapBlock,Array.getElem?_modify,iJ,hh,Option.map_some,Sort.onCells,List.append_nil]
    congr 2
    rw[CT.aP];apply Array.ext_getElem?;intro k;simp only[Sort.putCells,Array.getElem?_mapIdx,List.getElem?_toArray,xg,List.getElem?_map,Nat.zero_le,true_and,Nat.zero_add,Nat.sub_zero,F.size];by_cases hk:k<bs.length
    ·rw[List.getElem?_append_left (by rw[XS];exact hk),dJ k hk];simp only[Option.map_some,iJ hk,tX,List.getElem?_map,List.getElem?_range hk,F.done k (Nat.zero_le _) hk];rfl
    ·rw[List.getElem?_append_right (by rw[XS];omega),XS,List.getElem?_drop,show bs.length+(k-bs.length)=k by omega];cases ct.toList[k]? with
     |none=>rfl
     |some y=>simp only[Option.map_some,iQ hk]
   ·intro i hi;refine hfz i ?_;rw[CT.aP]at hi;simp only[List.length_append,XS,List.length_drop,List.length_nil]at hi
    omega)
 exact⟨m,D,rfl,X,R',trivial⟩
theorem qvU {f:Nat} (hc:∀(bk o c:Nat) (xs:List ByteArray) (sep:ByteArray) (w:World),
  (∀(j:Nat) x,xs[j]? =some x→w.cell? ⟨bk,o+j,none⟩=some (.string x))→bk<w.heap.size→xs.length≤140737488355328→xs.length≤c→(Lib.join (xs.map (·.data.toList)) sep.data.toList).length≤140737488355328→
  Calls P f #[.slice (some ⟨bk,o,none⟩) xs.length c,.string sep] w λe w'=>e=.returned (.string ⟨(Lib.join (xs.map (·.data.toList)) sep.data.toList).toArray⟩)∧RowKit.Below w.heap.size w w'):pY P f Fk:=by
 intro c l h r e m D W RR hD nn;unfold Fk at e
 split at e
 rotate_left
 ·cases e
 rename_i b o n cap sep
 split at e
 rotate_left
 ·cases e
 rename_i ct ty op ru
 split at e
 rotate_left
 ·cases e
 rename_i xs Pv;cases hb:(Nat.beq xs.length n&&(Nat.ble n cap&&(Nat.ble n 1000000&&Nat.ble (Lib.join xs sep).length 1000000)))
 ·rw[hb]at e;cases e
 rw[hb]at e;simp only[cond_true,Option.some.injEq]at e;simp only[Bool.and_eq_true]at hb;obtain⟨iE,fb,nf,Fl⟩:=hb;have iE:=Nat.eq_of_beq_eq_true iE;have fb:=Nat.le_of_ble_eq_true fb;have nf:=Nat.le_of_ble_eq_true nf;have Fl:=Nat.le_of_ble_eq_true Fl;subst iE;have pI:D b:=hD.1;obtain⟨rest,fr,hh,_,_,_,_⟩:=RR.cells pI ru;have hC:=qzl Pv
 have key:=hc (m b).1 o cap (xs.map λx=>⟨x.toArray⟩) ⟨sep.toArray⟩ W (by
  intro j x hj;rw[List.getElem?_map]at hj;obtain⟨y,hy,rfl⟩:=Option.map_eq_some_iff.1 hj;have fQ:=(List.getElem?_eq_some_iff.1 hy).1;have:=congrArg (·[j]?) hC;simp only[List.getElem?_take_of_lt fQ,List.getElem?_drop,List.getElem?_map,hy,Option.map_some]at this;have ax:=(List.getElem?_eq_some_iff.1 this).1;unfold World.cell?;simp only[hh];simp only[Option.isSome_none,Bool.false_eq_true,if_false,List.getElem?_toArray];rw[List.getElem?_append_left (by simpa using ax),xg,List.getElem?_map,this]
  rfl) (by
  rcases Nat.lt_or_ge (m b).1 W.heap.size with h' |h'
  ·exact h'
  ·rw[Array.getElem?_eq_none h']at hh;cases hh) (by rw[List.length_map];omega) (by rw[List.length_map];omega) (by
  rw[List.map_map,show(λ(x:ByteArray)=>x.data.toList) ∘ (λ(x:List UInt8)=>(⟨x.toArray⟩:ByteArray))=id from by funext x;simp,List.map_id];show(Lib.join xs sep.toArray.toList).length≤_
  rw[List.toList_toArray];omega)
 rw[List.length_map,List.map_map,show(λ(x:ByteArray)=>x.data.toList) ∘ (λ(x:List UInt8)=>(⟨x.toArray⟩:ByteArray))=id from by funext x;simp,List.map_id]at key;refine CallsIn.mono (callsIn_wide.2 key) ?_;rintro ee w' ⟨rfl,B⟩;subst e;obtain⟨X,R'⟩:=GJ RR B;refine⟨m,D,?_,X,R',trivial⟩;show Ending.returned _=Ending.returned (.string _);simp
def AT:List AV→Option (List Int)
 |[]=>some []
 | .int .i64 x::r=>(AT r).bind λs=>some (x::s)
 |_=>none
def Dh (x:Int):List Int→List Int
 |[]=>[x]
 |y::r=>if x≤y then x::y::r else y::Dh x r
def JC:List Int→List Int
 |[]=>[]
 |x::r=>Dh x (JC r)
def NJ:List Int→Bool
 |[]=>true
 |[_]=>true
 |x::y::r=>decide (x≤y)&&NJ (y::r)
noncomputable def Fm:WF:=λ_ l h=>match l with
 |[.slice b 0 n _ _]=>
  (match h.get b with
  |some (.cells c e o)=>(match AT (c.toList.take n)with
   |some zs=>bif Nat.beq zs.length n&&Nat.ble n 1000000 then some (.cn [],h.put b (.cells (CT.ofList ((JC zs).map (.int .i64)++c.toList.drop n)) e o))else none
   |none=>none)
  |_=>none)
 |_=>none
noncomputable def Fo (e0:TypeId):WF:=λ_ l h=>match l with
 |[.slice b 0 n cap q]=>
  (match h.get b with
  |some (.cells c e o)=>(match AT (c.toList.take n)with
   |some zs=>bif Nat.beq zs.length n&&(Nat.ble n 1000000&&(bif q then Nat.beq cap 0&&(o&&Nat.beq e e0)else Nat.ble n cap))then some (.slice b 0 (Lib.compact zs).length cap q,
     h.put b (.cells (CT.ofList ((Lib.compact zs++List.replicate (zs.length-(Lib.compact zs).length) 0).map (.int .i64)++c.toList.drop n)) e o))else none
   |none=>none)
  |_=>none)
 |_=>none
noncomputable def Fp:WF:=λ_ l h=>match l with
 |[.slice b 0 n _ _,.int .i64 x]=>
  (match h.get b with
  |some (.cells c _ _)=>(match AT (c.toList.take n)with
   |some zs=>bif Nat.beq zs.length n&&(Nat.ble n 1000000&&NJ zs)then some (.cn [.int .i64 (zs.countP (· <x):Nat),.bool (zs.contains x)],h)else none
   |none=>none)
  |_=>none)
 |_=>none
theorem Sh:∀{l:List AV} {zs:List Int},AT l=some zs→l=zs.map (.int .i64):=by
 intro l
 induction l with
 |nil=>intro bs h;cases h;rfl
 |cons a l ih=>
  intro bs h;unfold AT at h
  split at h
  ·rename_i oG;cases oG
  ·rename_i x r oG;cases oG;simp only[Option.bind_eq_some_iff,Option.some.injEq]at h;obtain⟨s,hs,rfl⟩:=h;rw[List.map_cons,← ih hs]
  ·cases h
theorem Si:∀(zs:List Int),AT (zs.map (.int .i64))=some zs:=by
 intro zs
 induction zs with
 |nil=>rfl
 |cons x zs ih=>rw[List.map_cons];unfold AT;rw[ih];rfl
theorem Of (x:Int):∀l,(Dh x l).Perm (x::l):=by
 intro l
 induction l with
 |nil=>exact .refl _
 |cons y r ih=>
  unfold Dh
  split
  ·exact .refl _
  ·exact(ih.cons y).trans (.swap ..)
theorem YD:∀l,(JC l).Perm l:=by
 intro l
 induction l with
 |nil=>exact .refl _
 |cons x r ih=>exact(Of ..).trans (ih.cons x)
theorem qXo (x:Int):∀{l:List Int},l.Pairwise (· ≤ ·)→(Dh x l).Pairwise (· ≤ ·):=by
 intro l
 induction l with
 |nil=>intro _;exact List.pairwise_singleton ..
 |cons y r ih=>
  intro h;have h1:=List.pairwise_cons.1 h;unfold Dh
  split
  ·rename_i hxy;refine List.pairwise_cons.2 ⟨λa ha=>?_,h⟩;rcases List.mem_cons.1 ha with rfl |ha
   ·exact hxy
   ·exact Int.le_trans hxy (h1.1 a ha)
  ·refine List.pairwise_cons.2 ⟨λa ha=>?_,ih h1.2⟩;rcases List.mem_cons.1 ((Of x r).mem_iff.1 ha)with rfl |ha
   ·omega
   ·exact h1.1 a ha
theorem Gm:∀l,(JC l).Pairwise (· ≤ ·):=by
 intro l
 induction l with
 |nil=>exact List.Pairwise.nil
 |cons x r ih=>exact qXo x ih
theorem Nt (l:List Int):(JC l).length=l.length:=(YD l).length_eq
theorem qYp (l:List Int):l.mergeSort (λx y=>decide (x≤y))=JC l:=by refine List.Perm.eq_of_pairwise (le:=λx y:Int=>x≤y) (λa b _ _ h1 h2=>by omega) ?_ (Gm l) ((List.mergeSort_perm ..).trans (YD l).symm);exact(List.pairwise_mergeSort (λa b c h1 h2=>by simp at*;omega) (λa b=>by simp;omega) l).imp λh=>by simpa using h
theorem qvB:∀{l:List Int},NJ l=true→l.Pairwise (· ≤ ·):=by
 intro l
 induction l with
 |nil=>intro _;exact List.Pairwise.nil
 |cons x r ih=>
  intro h;cases r with
  |nil=>exact List.pairwise_singleton ..
  |cons y r=>
   unfold NJ at h;simp only[Bool.and_eq_true,decide_eq_true_eq]at h;have:=ih h.2;refine List.pairwise_cons.2 ⟨λa ha=>?_,this⟩;rcases List.mem_cons.1 ha with rfl |ha
   ·exact h.1
   ·exact Int.le_trans h.1 ((List.pairwise_cons.1 this).1 a ha)
theorem OY {enc:Int→Value} {A:List Value} {dk:List Int} (h:dk.length≤A.length):Sort.putCells enc 0 dk.toArray A.toArray=(dk.map enc++A.drop dk.length).toArray:=by
 apply Array.ext_getElem?;intro k;simp only[Sort.putCells,Array.getElem?_mapIdx,List.getElem?_toArray,Nat.zero_le,true_and,Nat.zero_add,Nat.sub_zero,List.size_toArray];by_cases hk:k<dk.length
 ·rw[List.getElem?_append_left (by simpa using hk),List.getElem?_map,iW hk,iW (show k<A.length by omega)];simp[hk]
 ·rw[List.getElem?_append_right (by simp;omega),List.length_map,List.getElem?_drop,show dk.length+(k-dk.length)=k by omega];cases A[k]? with
  |none=>rfl
  |some y=>simp only[Option.map_some,iQ hk]
section
variable {P:Program} {m:Mp} {D:Nat→Prop} {h:AH} {W:World} {b n:Nat} {c:CT} {e:TypeId} {o:Bool}
theorem Sj (RR:Rel P m D h W) (hD:D b) (hg:h.get b=some (.cells c e o)) {zs:List Int} (hz:c.toList.take n=zs.map (.int .i64)) (hl:zs.length=n):Sort.Holds (Value.int .i64) W (m b).1 0 zs.toArray∧(m b).1<W.heap.size:=by
 obtain⟨rest,fr,hh,_,hfz,_,_⟩:=RR.cells hD hg;have hle:n≤c.toList.length:=by have:=congrArg List.length hz;simp at this;omega
 refine⟨λj hj=>?_,?_⟩
 ·have hj:j<zs.length:=by simpa using hj
  have ha:c.toList[j]? =some (.int .i64 zs[j]):=by have:=congrArg (·[j]?) hz;simp only[List.getElem?_take_of_lt (show j<n by omega),List.getElem?_map,iW hj,Option.map_some]at this;exact this
  refine⟨?_,?_⟩
  ·unfold World.cell?;rw[Nat.zero_add];simp only[hh];simp only[Option.isSome_none,Bool.false_eq_true,if_false,List.getElem?_toArray];rw[List.getElem?_append_left (by rw[xg,List.length_map];omega),xg,List.getElem?_map,ha];simp[cv,hj]
  ·unfold World.frozen?;rw[Nat.zero_add];simp only[hh];have:=hfz j omQ;simpa using this
 ·rcases Nat.lt_or_ge (m b).1 W.heap.size with h' |h'
  ·exact h'
  ·rw[Array.getElem?_eq_none h']at hh;cases hh
theorem qYc (RR:Rel P m D h W) (hD:D b) (hg:h.get b=some (.cells c e o)) {zs dk:List Int} (hz:c.toList.take n=zs.map (.int .i64)) (hl:zs.length=n) (hd:dk.length=n) (q:Nat) :
  Ext m D h W m D (h.put b (.cells (CT.ofList (dk.map (.int .i64)++c.toList.drop n)) e o)) (Sort.putRow (Value.int .i64) (Sort.ahead W q) (m b).1 0 dk.toArray)∧
   Rel P m D (h.put b (.cells (CT.ofList (dk.map (.int .i64)++c.toList.drop n)) e o)) (Sort.putRow (Value.int .i64) (Sort.ahead W q) (m b).1 0 dk.toArray):=by
 obtain⟨rest,fr,hh,nC,hfz,lD,dY⟩:=RR.cells hD hg;have hle:n≤c.toList.length:=by have:=congrArg List.length hz;simp at this;omega
 have sh:(dk.map (AV.int .i64)++c.toList.drop n).length=c.toList.length:=by simp;omega
 refine RR.put b _ hD ⟨_,hg,trivial⟩ (by show(Sort.putRow _ W (m b).1 0 _).heap.size=_;simp) (λk hk=>by
  show(Sort.putRow _ W (m b).1 0 _).heap[k]? =_;simp only[Sort.putRow,Sort.mapBlock,Array.getElem?_modify]
  rw[iQ (λe=>hk e.symm)]) rfl rfl rfl (by
   show bm D (CT.ofList _).toList;rw[CT.aP];refine gC.2 ⟨(yY D _).2 λv hv=>?_,(yY D _).2 λv hv=>(yY D _).1 dY v (List.mem_of_mem_drop hv)⟩;obtain⟨t,_,rfl⟩:=List.mem_map.1 hv
   trivial) ?_
 refine⟨rest,fr,?_,nC,?_,?_⟩
 ·show(Sort.putRow _ W (m b).1 0 _).heap[(m b).1]? =_;simp only[Sort.putRow,Sort.mapBlock,Array.getElem?_modify,iJ,hh,Option.map_some,Sort.onCells];rw[OY (by rw[List.length_append,xg,List.length_map];omega),CT.aP,hd,xg,xg,List.map_append,List.map_map,List.drop_append_of_le_length (by rw[List.length_map];exact hle),List.append_assoc,List.map_drop];rfl
 ·rw[CT.aP,sh];exact hfz
 ·rw[CT.aP,sh];exact lD
theorem qYm (RR:Rel P m D h W) (q:Nat):Ext m D h W m D h (W.drewN q)∧Rel P m D h (W.drewN q):=GJ RR { os:=rfl,tape:=rfl,output:=rfl,size:=Nat.le_refl _,block:=λ_ _=>rfl }
theorem qwn {W0:World} (RR:Rel P m D h W0) (os:Array Obj):Ext m D h W0 m D h (Sort.grow W0 os)∧Rel P m D h (Sort.grow W0 os):=GJ RR { os:=rfl,tape:=rfl,output:=rfl,size:=by simp[Sort.grow],block:=λc hc=>by simp[Sort.grow,Array.getElem?_append_left hc] }
end
variable {P:Program}
theorem qg3 {f:Nat} (hc:∀(bG off cap:Nat) (zs:List Int) (w:World),Sort.Holds (Value.int .i64) w bG off zs.toArray→bG<w.heap.size→zs.length<4611686018427387904→
  Calls P f #[.slice (some ⟨bG,off,none⟩) zs.length cap] w λe w'=>e=.returned (.tuple #[])∧∃n os,w'=Sort.grow (Sort.putRow (Value.int .i64) (Sort.ahead w n) bG off (zs.mergeSort λx y=>decide (x≤y)).toArray) os):pY P f Fm:=by
 intro c l h r e m D W RR hD nn;unfold Fm at e
 split at e
 rotate_left
 ·cases e
 rename_i b n cap q
 split at e
 rotate_left
 ·cases e
 rename_i ct ty o ru
 split at e
 rotate_left
 ·cases e
 rename_i zs rQ;cases hb:(Nat.beq zs.length n&&Nat.ble n 1000000)
 ·rw[hb]at e;cases e
 rw[hb]at e;simp only[cond_true,Option.some.injEq]at e;simp only[Bool.and_eq_true]at hb;have iE:=Nat.eq_of_beq_eq_true hb.1;have fb:=Nat.le_of_ble_eq_true hb.2;have pI:D b:=hD.1;have hC:=Sh rQ;obtain⟨H,ax⟩:=Sj RR pI ru hC iE;obtain⟨cp,BS⟩:∃cp,bj m [.slice b 0 n cap q]=[.slice (some ⟨(m b).1,0,none⟩) n cp]:=⟨_,rfl⟩;rw[BS];have key:=hc (m b).1 0 cp zs W H ax omQ;rw[iE]at key;refine CallsIn.mono (callsIn_wide.2 key) ?_;rintro ee w' ⟨rfl,k,os,rfl⟩;subst e;rw[qYp];obtain⟨X,R'⟩:=qYc RR pI ru hC iE (dk:=JC zs) (by rw[Nt];exact iE) k;obtain⟨X2,R2⟩:=qwn R' os;exact⟨m,D,rfl,X.trans X2,R2,trivial⟩
theorem qWD (zs:List Int):(Lib.compact zs).length≤zs.length:=by unfold Lib.compact Lib.compactUpTo;rw[List.length_map];exact Nat.le_trans (List.length_filter_le ..) (by rw[List.length_range];exact Nat.le_refl _)
theorem qg1 {f:Nat} {e0:TypeId} (h0:bh P e0=some 1) (hc:∀(bG off cap:Nat) (zs:List Int) (w:World),Sort.Holds (Value.int .i64) w bG off zs.toArray→zs.length≤9223372036854775807→zs.length≤cap→
  Calls P f #[.slice (some ⟨bG,off,none⟩) zs.length cap] w λe w'=>e=.returned (.slice (some ⟨bG,off,none⟩) (Lib.compact zs).length cap)∧∃q,w'=Sort.putRow (Value.int .i64) (Sort.ahead w q) bG off (Lib.compact zs++List.replicate (zs.length-(Lib.compact zs).length) 0).toArray):pY P f (Fo e0):=by
 intro c l h r e m D W RR hD nn;unfold Fo at e
 split at e
 rotate_left
 ·cases e
 rename_i b n cap q
 split at e
 rotate_left
 ·cases e
 rename_i ct ty o ru
 split at e
 rotate_left
 ·cases e
 rename_i zs rQ;cases hb:(Nat.beq zs.length n&&(Nat.ble n 1000000&&(bif q then Nat.beq cap 0&&(o&&Nat.beq ty e0)else Nat.ble n cap)))
 ·rw[hb]at e;cases e
 rw[hb]at e;simp only[cond_true,Option.some.injEq]at e;simp only[Bool.and_eq_true]at hb;have iE:=Nat.eq_of_beq_eq_true hb.1;have fb:=Nat.le_of_ble_eq_true hb.2.1;have pI:D b:=hD.1;have hC:=Sh rQ;obtain⟨H,ax⟩:=Sj RR pI ru hC iE;obtain⟨cp,BS,hr,sR⟩:∃cp,bj m [.slice b 0 n cap q]=[.slice (some ⟨(m b).1,0,none⟩) n cp]∧(∀k,cv m (.slice b 0 k cap q)=.slice (some ⟨(m b).1,0,none⟩) k cp)∧n≤cp:=by
  refine⟨_,rfl,λ_=>rfl,?_⟩;have h3:=hb.2.2;cases q with
  |false=>exact Nat.le_of_ble_eq_true h3
  |true=>
   simp only[cond_true,Bool.and_eq_true]at h3;have k1:=Nat.eq_of_beq_eq_true h3.1;have k2:=Nat.eq_of_beq_eq_true h3.2.2;obtain⟨rest,fr,_,_,_,lD,_⟩:=RR.cells pI ru;have:=(lD h3.2.1 1 (by rw[k2];exact h0)).1;have hle:n≤ct.toList.length:=by have:=congrArg List.length hC;simp at this;omega
   show n≤(m b).2-cap;omega
 rw[BS];have key:=hc (m b).1 0 cp zs W H omQ (by rw[iE];exact sR);rw[iE]at key;refine CallsIn.mono (callsIn_wide.2 key) ?_;rintro ee w' ⟨rfl,k,rfl⟩;subst e;have hle:=qWD zs;rw[iE];obtain⟨X,R'⟩:=qYc RR pI ru hC iE (dk:=Lib.compact zs++List.replicate (n-(Lib.compact zs).length) 0) (by simp;omega) k;exact⟨m,D,by rw[hr],X,R',pI⟩
theorem qvt {f:Nat} (hc:∀(b off n c:Nat) (zs:List Int) (x:Int) (w:World),n≤zs.length→n<4611686018427387904→(∀j,j<zs.length→w.cell? ⟨b,off+j,none⟩=some (.int .i64 (zs.getD j 0)))→(zs.take n).Pairwise (· ≤ ·)→
  Calls P f #[.slice (some ⟨b,off,none⟩) n c,.int .i64 x] w λe w'=>e=.returned (.tuple #[.int .i64 ((zs.take n).countP (· <x):Nat),.bool ((zs.take n).contains x)])∧∃q,w'=w.drewN q):pY P f Fp:=by
 intro c l h r e m D W RR hD nn;unfold Fp at e
 split at e
 rotate_left
 ·cases e
 rename_i b n cap q x
 split at e
 rotate_left
 ·cases e
 rename_i ct ty o ru
 split at e
 rotate_left
 ·cases e
 rename_i zs rQ;cases hb:(Nat.beq zs.length n&&(Nat.ble n 1000000&&NJ zs))
 ·rw[hb]at e;cases e
 rw[hb]at e;simp only[cond_true,Option.some.injEq]at e;simp only[Bool.and_eq_true]at hb;have iE:=Nat.eq_of_beq_eq_true hb.1;have fb:=Nat.le_of_ble_eq_true hb.2.1;have pI:D b:=hD.1;obtain⟨H,_⟩:=Sj RR pI ru (Sh rQ) iE;have tk:zs.take n=zs:=List.take_of_length_le omQ;obtain⟨cp,BS⟩:∃cp,bj m [.slice b 0 n cap q,.int .i64 x]=[.slice (some ⟨(m b).1,0,none⟩) n cp,.int .i64 x]:=⟨_,rfl⟩;rw[BS]
 have key:=hc (m b).1 0 n cp zs x W omQ omQ (λj hj=>by
  rw[(H j (by simpa using hj)).1]
  simp[hj]) (by rw[tk];exact qvB hb.2.2)
 rw[tk]at key;refine CallsIn.mono (callsIn_wide.2 key) ?_;rintro ee w' ⟨rfl,k,rfl⟩;subst e;obtain⟨X,R'⟩:=qYm RR k;exact⟨m,D,rfl,X,R',trivial,trivial,trivial⟩
def Vz:Go.Shelf.Ren:=⟨fun | 156=>154 | 165=>186 | 166=>187 | 169=>188 | 240=>210 | 241=>211 | 276=>259 | 277=>260 |n=>n,fun | 31=>217 | 9=>9 | 3=>3 | 4=>4 | 0=>0 | 20=>20 | 72=>260 | 76=>263 | 70=>257 | 37=>258 | 75=>262 | 127=>281 | 164=>322 | 5=>5 | 80=>171 |n=>n,fun |n=>n⟩
theorem jXD:Go.Proofs.Lays.n156 Tryz.prog Vz:={
 mixed:=by kernel_rfl
 f156:=Tryz.func154.trans (congrArg some (by kernel_rfl))
 f165:=Tryz.func186.trans (congrArg some (by kernel_rfl))
 f166:=Tryz.func187.trans (congrArg some (by kernel_rfl))
 f169:=Tryz.func188.trans (congrArg some (by kernel_rfl))
 f240:=Tryz.func210.trans (congrArg some (by kernel_rfl))
 f241:=Tryz.func211.trans (congrArg some (by kernel_rfl))
 f276:=Tryz.func259.trans (congrArg some (by kernel_rfl))
 f277:=Tryz.func260.trans (congrArg some (by kernel_rfl))
 t0:=Tryz.underlying0
 a0:=Tryz.isAgg0
 z0:=Tryz.sizeOf0
 v0:=Tryz.zeroValue0
 t3:=Tryz.underlying3
 a3:=Tryz.isAgg3
 z3:=Tryz.sizeOf3
 v3:=Tryz.zeroValue3
 t4:=Tryz.underlying4
 a4:=Tryz.isAgg4
 z4:=Tryz.sizeOf4
 v4:=Tryz.zeroValue4
 t9:=Tryz.underlying9
 a9:=Tryz.isAgg9
 z9:=Tryz.sizeOf9
 v9:=Tryz.zeroValue9
 t20:=Tryz.underlying20
 a20:=Tryz.isAgg20
 z20:=Tryz.sizeOf20
 v20:=Tryz.zeroValue20
 t31:=Tryz.underlying217
 a31:=Tryz.isAgg217
 z31:=Tryz.sizeOf217
 v31:=Tryz.zeroValue217
 t37:=Tryz.underlying258
 a37:=Tryz.isAgg258
 z37:=Tryz.sizeOf258
 v37:=Tryz.zeroValue258
 t70:=Tryz.underlying257
 a70:=Tryz.isAgg257
 z70:=Tryz.sizeOf257
 v70:=Tryz.zeroValue257
 t72:=Tryz.underlying260
 a72:=Tryz.isAgg260
 z72:=Tryz.sizeOf260
 v72:=Tryz.zeroValue260
 t75:=Tryz.underlying262
 a75:=Tryz.isAgg262
 z75:=Tryz.sizeOf262
 v75:=Tryz.zeroValue262
 t76:=Tryz.underlying263
 a76:=Tryz.isAgg263
 z76:=Tryz.sizeOf263
 v76:=Tryz.zeroValue263
 t127:=Tryz.underlying281
 a127:=Tryz.isAgg281
 z127:=Tryz.sizeOf281
 v127:=Tryz.zeroValue281
 t164:=Tryz.underlying322
 a164:=Tryz.isAgg322
 z164:=Tryz.sizeOf322
 v164:=Tryz.zeroValue322 }
def qZU:Go.Shelf.Ren:=⟨fun | 284=>256 | 129=>254 | 317=>316 | 318=>317 |n=>n,fun | 53=>22 | 3=>3 | 212=>357 | 0=>0 | 4=>4 | 46=>280 | 5=>5 | 9=>9 |n=>n,fun | 17=>0 |n=>n⟩
theorem jZR:Go.Proofs.LaysM.n284 Tryz.prog qZU:={
 mixed:=by kernel_rfl
 f129:=Tryz.func254.trans (congrArg some (by kernel_rfl))
 f284:=Tryz.func256.trans (congrArg some (by kernel_rfl))
 f317:=Tryz.func316.trans (congrArg some (by kernel_rfl))
 f318:=Tryz.func317.trans (congrArg some (by kernel_rfl))
 t0:=Tryz.underlying0
 a0:=Tryz.isAgg0
 z0:=Tryz.sizeOf0
 v0:=Tryz.zeroValue0
 t3:=Tryz.underlying3
 a3:=Tryz.isAgg3
 z3:=Tryz.sizeOf3
 v3:=Tryz.zeroValue3
 t4:=Tryz.underlying4
 a4:=Tryz.isAgg4
 z4:=Tryz.sizeOf4
 v4:=Tryz.zeroValue4
 t5:=Tryz.underlying5
 a5:=Tryz.isAgg5
 z5:=Tryz.sizeOf5
 v5:=Tryz.zeroValue5
 t9:=Tryz.underlying9
 a9:=Tryz.isAgg9
 z9:=Tryz.sizeOf9
 v9:=Tryz.zeroValue9
 t46:=Tryz.underlying280
 a46:=Tryz.isAgg280
 z46:=Tryz.sizeOf280
 v46:=Tryz.zeroValue280
 t53:=Tryz.underlying22
 a53:=Tryz.isAgg22
 z53:=Tryz.sizeOf22
 v53:=Tryz.zeroValue22
 t212:=Tryz.underlying357
 a212:=Tryz.isAgg357
 z212:=Tryz.sizeOf357
 v212:=Tryz.zeroValue357
 g17:=by kernel_rfl
 i0:=by kernel_rfl
 i3:=by kernel_rfl
 i4:=by kernel_rfl
 i5:=by kernel_rfl
 i9:=by kernel_rfl
 i46:=by kernel_rfl
 i53:=by kernel_rfl
 i212:=by kernel_rfl
 m17:=by kernel_rfl }
def qX9:Go.Shelf.Ren:=⟨fun | 285=>257 |n=>n,fun | 37=>258 | 53=>22 | 3=>3 | 4=>4 | 51=>316 | 9=>9 | 5=>5 | 0=>0 |n=>n,fun |n=>n⟩
theorem jXO:Go.Proofs.Lays.n285 Tryz.prog qX9:={
 mixed:=by kernel_rfl
 f285:=Tryz.func257.trans (congrArg some (by kernel_rfl))
 t0:=Tryz.underlying0
 a0:=Tryz.isAgg0
 z0:=Tryz.sizeOf0
 v0:=Tryz.zeroValue0
 t3:=Tryz.underlying3
 a3:=Tryz.isAgg3
 z3:=Tryz.sizeOf3
 v3:=Tryz.zeroValue3
 t4:=Tryz.underlying4
 a4:=Tryz.isAgg4
 z4:=Tryz.sizeOf4
 v4:=Tryz.zeroValue4
 t5:=Tryz.underlying5
 a5:=Tryz.isAgg5
 z5:=Tryz.sizeOf5
 v5:=Tryz.zeroValue5
 t9:=Tryz.underlying9
 a9:=Tryz.isAgg9
 z9:=Tryz.sizeOf9
 v9:=Tryz.zeroValue9
 t37:=Tryz.underlying258
 a37:=Tryz.isAgg258
 z37:=Tryz.sizeOf258
 v37:=Tryz.zeroValue258
 t51:=Tryz.underlying316
 a51:=Tryz.isAgg316
 z51:=Tryz.sizeOf316
 v51:=Tryz.zeroValue316
 t53:=Tryz.underlying22
 a53:=Tryz.isAgg22
 z53:=Tryz.sizeOf22
 v53:=Tryz.zeroValue22 }
def qZ8:Go.Shelf.Ren:=⟨fun | 189=>175 | 125=>207 | 257=>206 | 128=>253 | 129=>254 | 294=>244 | 295=>245 | 296=>246 | 297=>247 | 298=>248 | 299=>249 | 216=>250 | 300=>251 | 301=>252 | 328=>310 | 329=>311 | 330=>312 | 331=>313 | 332=>314 | 215=>315 | 343=>340 |n=>n,fun | 28=>90 | 3=>3 | 46=>280 | 0=>0 | 51=>316 | 53=>22 | 4=>4 | 183=>309 | 182=>308 | 131=>272 | 5=>5 | 9=>9 | 218=>351 | 222=>354 | 228=>373 | 229=>330 |n=>n,fun |n=>n⟩
theorem qys:Go.Proofs.Lays.n189 Tryz.prog qZ8:={
 mixed:=by kernel_rfl
 f125:=Tryz.func207.trans (congrArg some (by kernel_rfl))
 f128:=Tryz.func253.trans (congrArg some (by kernel_rfl))
 f129:=Tryz.func254.trans (congrArg some (by kernel_rfl))
 f189:=Tryz.func175.trans (congrArg some (by kernel_rfl))
 f215:=Tryz.func315.trans (congrArg some (by kernel_rfl))
 f216:=Tryz.func250.trans (congrArg some (by kernel_rfl))
 f257:=Tryz.func206.trans (congrArg some (by kernel_rfl))
 f294:=Tryz.func244.trans (congrArg some (by kernel_rfl))
 f295:=Tryz.func245.trans (congrArg some (by kernel_rfl))
 f296:=Tryz.func246.trans (congrArg some (by kernel_rfl))
 f297:=Tryz.func247.trans (congrArg some (by kernel_rfl))
 f298:=Tryz.func248.trans (congrArg some (by kernel_rfl))
 f299:=Tryz.func249.trans (congrArg some (by kernel_rfl))
 f300:=Tryz.func251.trans (congrArg some (by kernel_rfl))
 f301:=Tryz.func252.trans (congrArg some (by kernel_rfl))
 f328:=Tryz.func310.trans (congrArg some (by kernel_rfl))
 f329:=Tryz.func311.trans (congrArg some (by kernel_rfl))
 f330:=Tryz.func312.trans (congrArg some (by kernel_rfl))
 f331:=Tryz.func313.trans (congrArg some (by kernel_rfl))
 f332:=Tryz.func314.trans (congrArg some (by kernel_rfl))
 f343:=Tryz.func340.trans (congrArg some (by kernel_rfl))
 t0:=Tryz.underlying0
 a0:=Tryz.isAgg0
 z0:=Tryz.sizeOf0
 v0:=Tryz.zeroValue0
 t3:=Tryz.underlying3
 a3:=Tryz.isAgg3
 z3:=Tryz.sizeOf3
 v3:=Tryz.zeroValue3
 t4:=Tryz.underlying4
 a4:=Tryz.isAgg4
 z4:=Tryz.sizeOf4
 v4:=Tryz.zeroValue4
 t5:=Tryz.underlying5
 a5:=Tryz.isAgg5
 z5:=Tryz.sizeOf5
 v5:=Tryz.zeroValue5
 t9:=Tryz.underlying9
 a9:=Tryz.isAgg9
 z9:=Tryz.sizeOf9
 v9:=Tryz.zeroValue9
 t28:=Tryz.underlying90
 a28:=Tryz.isAgg90
 z28:=Tryz.sizeOf90
 v28:=Tryz.zeroValue90
 t46:=Tryz.underlying280
 a46:=Tryz.isAgg280
 z46:=Tryz.sizeOf280
 v46:=Tryz.zeroValue280
 t51:=Tryz.underlying316
 a51:=Tryz.isAgg316
 z51:=Tryz.sizeOf316
 v51:=Tryz.zeroValue316
 t53:=Tryz.underlying22
 a53:=Tryz.isAgg22
 z53:=Tryz.sizeOf22
 v53:=Tryz.zeroValue22
 t131:=Tryz.underlying272
 a131:=Tryz.isAgg272
 z131:=Tryz.sizeOf272
 v131:=Tryz.zeroValue272
 t182:=Tryz.underlying308
 a182:=Tryz.isAgg308
 z182:=Tryz.sizeOf308
 v182:=Tryz.zeroValue308
 t183:=Tryz.underlying309
 a183:=Tryz.isAgg309
 z183:=Tryz.sizeOf309
 v183:=Tryz.zeroValue309
 t218:=Tryz.underlying351
 a218:=Tryz.isAgg351
 z218:=Tryz.sizeOf351
 v218:=Tryz.zeroValue351
 t222:=Tryz.underlying354
 a222:=Tryz.isAgg354
 z222:=Tryz.sizeOf354
 v222:=Tryz.zeroValue354
 t228:=Tryz.underlying373
 a228:=Tryz.isAgg373
 z228:=Tryz.sizeOf373
 v228:=Tryz.zeroValue373
 t229:=Tryz.underlying330
 a229:=Tryz.isAgg330
 z229:=Tryz.sizeOf330
 v229:=Tryz.zeroValue330 }
def qJr:Go.Shelf.Ren:=⟨fun | 20=>176 |n=>n,fun | 22=>90 | 3=>3 | 4=>4 | 0=>0 |n=>n,fun |n=>n⟩
theorem jJh:Go.Proofs.Lays2.n20 Tryz.prog qJr:={
 mixed:=by kernel_rfl
 f20:=Tryz.func176.trans (congrArg some (by kernel_rfl))
 t0:=Tryz.underlying0
 a0:=Tryz.isAgg0
 z0:=Tryz.sizeOf0
 v0:=Tryz.zeroValue0
 t3:=Tryz.underlying3
 a3:=Tryz.isAgg3
 z3:=Tryz.sizeOf3
 v3:=Tryz.zeroValue3
 t4:=Tryz.underlying4
 a4:=Tryz.isAgg4
 z4:=Tryz.sizeOf4
 v4:=Tryz.zeroValue4
 t22:=Tryz.underlying90
 a22:=Tryz.isAgg90
 z22:=Tryz.sizeOf90
 v22:=Tryz.zeroValue90
 i3:=by kernel_rfl }
def qXM:Go.Shelf.Ren:=⟨fun | 25=>392 | 31=>250 | 32=>393 | 37=>315 |n=>n,fun | 22=>90 | 3=>3 | 4=>4 | 40=>280 | 0=>0 |n=>n,fun |n=>n⟩
theorem jZi:Go.Proofs.Lays2.n25 Tryz.prog qXM:={
 mixed:=by kernel_rfl
 f25:=Tryz.func392.trans (congrArg some (by kernel_rfl))
 f31:=Tryz.func250.trans (congrArg some (by kernel_rfl))
 f32:=Tryz.func393.trans (congrArg some (by kernel_rfl))
 f37:=Tryz.func315.trans (congrArg some (by kernel_rfl))
 t0:=Tryz.underlying0
 a0:=Tryz.isAgg0
 z0:=Tryz.sizeOf0
 v0:=Tryz.zeroValue0
 t3:=Tryz.underlying3
 a3:=Tryz.isAgg3
 z3:=Tryz.sizeOf3
 v3:=Tryz.zeroValue3
 t4:=Tryz.underlying4
 a4:=Tryz.isAgg4
 z4:=Tryz.sizeOf4
 v4:=Tryz.zeroValue4
 t22:=Tryz.underlying90
 a22:=Tryz.isAgg90
 z22:=Tryz.sizeOf90
 v22:=Tryz.zeroValue90
 t40:=Tryz.underlying280
 a40:=Tryz.isAgg280
 z40:=Tryz.sizeOf280
 v40:=Tryz.zeroValue280 }
theorem qwN:Builder.Extra Tryz.prog Vz:={ sizeBuilder:=by kernel_rfl,liesBuilder:=by kernel_rfl,t5:=Tryz.underlying5,a5:=Tryz.isAgg5,z5:=Tryz.sizeOf5,v5:=Tryz.zeroValue5,infoByte:=by kernel_rfl,cellsByte:=by kernel_rfl,sizeByte:=by kernel_rfl,neB5:=by decide }
noncomputable def W154:WF:=Fk
theorem qyt:pY Tryz.prog 154 W154:=qvU λbk o c xs sep w h1 h2 h3 h4 h5=>Any.strings_Join jXD qwN bk o c xs sep w h1 h2 h3 h4 h5
noncomputable def W256:WF:=Fi
theorem jJL:pY Tryz.prog 256 W256:=jKe (iK ..) λu w h1 h2 h3=>Any.internal_strconv_numDigits jZR u h1 h2 w h3
noncomputable def W257:WF:=Fj
theorem jJ8:pY Tryz.prog 257 W257:=jKn λbG off cap u d w h1 h2 h3 h4=>Any.internal_strconv_formatBase10 jXO bG off cap u d w h1 h2 h3 h4
noncomputable def W175:WF:=Fm
theorem jJ4:pY Tryz.prog 175 W175:=qg3 λbG off cap zs w h1 h2 h3=>Any.slices_Sort_int qys bG off cap zs w h1 h2 h3
noncomputable def W176:WF:=Fo 3
theorem qym:pY Tryz.prog 176 W176:=qg1 (by kernel_rfl) λbG off cap zs w h1 h2 h3=>Any.slices_Compact_int jJh bG off cap zs w h1 h2 h3
noncomputable def W392:WF:=Fp
theorem jQH:pY Tryz.prog 392 W392:=qvt λb off n c zs x w h1 h2 h3 h4=>Any.slices_BinarySearch_int jZi b off n c zs x w h1 h2 h3 h4
end Go.Proofs.YtemjbhdofokbhaaGreatDoor
