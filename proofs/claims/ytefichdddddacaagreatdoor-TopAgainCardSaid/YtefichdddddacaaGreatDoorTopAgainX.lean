/- Some of the library's functions by the kit's contracts, over any program: how many digits a number has; its digits laid; words joined. -/
import Derived.Test.YtefichdddddacaaGreatDoorTopAgainAe7
import Derived.Shelf.Strings.OnBuilder
import Derived.Shelf.Strconv.Itoa1
import Derived.Shelf.Strconv.Itoa2
import Derived.Shelf.Sort.Plain
import Derived.Shelf.Slices.CompactI
import Derived.Shelf.Slices.SearchI
import Derived.Test.YtefichdddddacaaGreatDoorProg
import Derived.KernelRfl
namespace Go.Proofs.YtefichdddddacaaGreatDoor
open Go Go.Ae Go.Shelf
def Aj:List AV→Option (List UInt8)
 |[]=>some []
 | .int .u8 (.ofNat n)::r=>bif Nat.ble (n+1) 256 then(Aj r).bind λs=>some (UInt8.ofNat n::s)else none
 |_=>none
def B6:WF:=λ_ l h=>match l with
 |[.int .u64 (.ofNat u)]=>bif Nat.ble 1 u&&Nat.ble (u+1) 18446744073709551616 then some (.int .i64 (.ofNat (Lib.nDigits u)),h)else none
 |_=>none
def rf (n u:Nat):List AV:=(List.range n).map λt=>.int .u8 (.ofNat (Lib.dg u (n-1-t)).toNat)
noncomputable def B7:WF:=λ_ l h=>match l with
 |[.slice b 0 n _ false,.int .u64 (.ofNat u)]=>
  (match h.get b with
  |some (.cells c e false)=>(match Aj (c.toList.take n)with
   |some bs=>bif Nat.beq bs.length n&&(Nat.ble (u+1) (10 ^ n)&&(Nat.ble (u+1) 18446744073709551616&&Nat.ble n 100))then some (.bM [],h.put b (.cells (CT.ofList (rf n u++c.toList.drop n)) e false))else none
   |none=>none)
  |_=>none)
 |_=>none
def Gp:List AV→Option (List (List UInt8))
 |[]=>some []
 | .str s::r=>(Gp r).bind λl=>some (s::l)
 |_=>none
noncomputable def Zk:WF:=λ_ l h=>match l with
 |[.slice b o n cap false,.str sep]=>
  (match h.get b with
  |some (.cells c _ _)=>(match Gp ((c.toList.drop o).take n)with
   |some xs=>bif Nat.beq xs.length n&&(Nat.ble n cap&&(Nat.ble n 1000000&&Nat.ble (Lib.join xs sep).length 1000000))then some (.str (Lib.join xs sep),h)else none
   |none=>none)
  |_=>none)
 |_=>none
theorem qz4:∀{l:List AV} {bs:List UInt8},Aj l=some bs→l=bs.map λc=>.int .u8 (.ofNat c.toNat):=by
 intro l
 induction l with
 |nil=>intro bs h;cases h;rfl
 |cons a l ih=>
  intro bs h;unfold Aj at h
  split at h
  ·rename_i mB;cases mB
  ·rename_i n r mB;cases mB;cases hb:Nat.ble (n+1) 256
   ·rw[hb]at h;cases h
   ·rw[hb]at h;simp only[cond_true,Option.bind_eq_some_iff,Option.some.injEq]at h;obtain⟨s,hs,rfl⟩:=h;have:=Nat.le_of_ble_eq_true hb;rw[List.map_cons,← ih hs,UInt8.toNat_ofNat_of_lt' (by show n<256;omega)]
  ·cases h
theorem qGR:∀{l:List AV} {xs:List (List UInt8)},Gp l=some xs→l=xs.map .str:=by
 intro l
 induction l with
 |nil=>intro bs h;cases h;rfl
 |cons a l ih=>
  intro bs h;unfold Gp at h
  split at h
  ·rename_i mB;cases mB
  ·rename_i s r mB;cases mB;simp only[Option.bind_eq_some_iff,Option.some.injEq]at h;obtain⟨t,ht,rfl⟩:=h;rw[List.map_cons,← ih ht]
  ·cases h
variable {P:Program}
theorem qgm {f : Nat} (hg : ("internal/strconv.uint64pow10", IntKind.u64, Lib.pow10Tab) ∈ gtab)
  (hc : ∀ (u : Nat) (w : World), 1 ≤ u → u < 18446744073709551616 → Lib.TabIs P w "internal/strconv.uint64pow10" .u64 Lib.pow10Tab → Calls P f #[.int .u64 u] w fun e w' => e = .returned (.int .i64 (Lib.nDigits u)) ∧ w' = w) : nC P f B6 := by
 intro c l h r e m D W RR hD n;unfold B6 at e
 split at e
 rotate_left
 ·cases e
 rename_i u;cases hb:(Nat.ble 1 u&&Nat.ble (u+1) 18446744073709551616)
 ·rw[hb]at e;cases e
 rw[hb]at e;simp only[cond_true,Option.some.injEq]at e;simp only[Bool.and_eq_true]at hb;obtain⟨_,_,ht⟩:=RR.gl.gl _ hg;refine CallsIn.mono (callsIn_wide.2 (hc u W (Nat.le_of_ble_eq_true hb.1) (by have:=Nat.le_of_ble_eq_true hb.2;omega) ht)) ?_;rintro ee w' ⟨rfl,rfl⟩;subst e;exact⟨m,D,rfl,Ext.refl ..,RR,trivial⟩
theorem Qu (n u:Nat):(rf n u).length=n:=by simp[rf]
theorem qgs {f:Nat} (hc:∀(bp off cap u:Nat) (d:Array UInt8) (w:World),Sort.Holds (λ(b:UInt8)=>Value.int .u8 (b.toNat:Int)) w bp off d→u<10 ^ d.size→u<18446744073709551616→d.size<4611686018427387904→
  Calls P f #[.slice (some ⟨bp,off,none⟩) d.size cap,.int .u64 u] w λe w'=>e=.returned (.tuple #[])∧∃(n v':Nat) (dk:Array UInt8),w'=(Sort.putRow (λ(b:UInt8)=>Value.int .u8 (b.toNat:Int)) w bp off dk).drewN n∧Lib.FmtInv d.size u 0 v' dk):nC P f B7:=by
 intro c l h r e m D W RR hD nn;unfold B7 at e
 split at e
 rotate_left
 ·cases e
 rename_i b n cap u
 split at e
 rotate_left
 ·cases e
 rename_i ct ty nO
 split at e
 rotate_left
 ·cases e
 rename_i bs nH;cases hb:(Nat.beq bs.length n&&(Nat.ble (u+1) (10 ^ n)&&(Nat.ble (u+1) 18446744073709551616&&Nat.ble n 100)))
 ·rw[hb]at e;cases e
 rw[hb]at e;simp only[cond_true,Option.some.injEq]at e;simp only[Bool.and_eq_true]at hb;obtain⟨fA,dS,lx,B8⟩:=hb;have fA:=Nat.eq_of_beq_eq_true fA;have dS:=Nat.le_of_ble_eq_true dS;have lx:=Nat.le_of_ble_eq_true lx;have B8:=Nat.le_of_ble_eq_true B8;subst fA;have nh:D b:=hD.1;obtain⟨rest,fr,hh,lK,hfz,_,hd⟩:=RR.cells nh nO;obtain rfl:=lK rfl;simp only[List.append_nil,List.length_nil,Nat.add_zero]at hh hfz;have hC:=qz4 nH;have hle:bs.length≤ct.toList.length:=by have:=congrArg List.length hC;simp at this;omega
 have bx:bs.toArray.size=bs.length:=by simp
 have dF:∀j,j<bs.length→ct.toList[j]? =some (.int .u8 (.ofNat bs.toArray[j]!.toNat)):=by intro j hj;have:=congrArg (·[j]?) hC;simp only[List.getElem?_take_of_lt hj,List.getElem?_map,iW hj,Option.map_some]at this;rw[this];simp[hj]
 have H:Sort.Holds (λ(b:UInt8)=>Value.int .u8 (b.toNat:Int)) W (m b).1 0 bs.toArray:=by
  intro j hj;rw[bx]at hj;refine⟨?_,?_⟩
  ·unfold World.cell?;rw[Nat.zero_add];simp only[hh];simp[zN,dF j hj,cv]
  ·unfold World.frozen?;rw[Nat.zero_add];simp only[hh];have:=hfz j omQ;simpa using this
 have key:=hc (m b).1 0 cap u bs.toArray W H (by rw[bx];omega) omQ (by rw[bx];omega);rw[bx]at key;refine CallsIn.mono (callsIn_wide.2 key) ?_;rintro ee w' ⟨rfl,q,v',dk,rfl,F⟩;subst e;have fB:aW D (rf bs.length u++ct.toList.drop bs.length):=by refine yp.2 ⟨(xx D _).2 ?_,(xx D _).2 λv hv=>(xx D _).1 hd v (List.mem_of_mem_drop hv)⟩;intro v hv;obtain⟨t,_,rfl⟩:=List.mem_map.1 hv;trivial
 obtain⟨X,R'⟩:=RR.put (w0:=(Sort.putRow (λ(b:UInt8)=>Value.int .u8 (b.toNat:Int)) W (m b).1 0 dk).drewN q) b (.cells (CT.ofList (rf bs.length u++ct.toList.drop bs.length)) ty false) nh ⟨_,nO,trivial⟩
  (by show(Sort.putRow _ W (m b).1 0 dk).heap.size=_;simp) (λk hk=>by
   show(Sort.putRow _ W (m b).1 0 dk).heap[k]? =_;simp only[Sort.putRow,Sort.mapBlock,Array.getElem?_modify]
   rw[iQ (λe=>hk e.symm)]) rfl rfl rfl (by show aW D (CT.ofList _).toList;rw[CT.aI];exact fB)
  (by
   refine⟨[],fr,?_,λ_=>rfl,?_,λh=>by cases h⟩
   ·show(Sort.putRow _ W (m b).1 0 dk).heap[(m b).1]? =_;simp only[Sort.putRow,Sort.mapBlock,Array.getElem?_modify,iJ,hh,Option.map_some,Sort.onCells,List.append_nil]
    congr 2
    rw[CT.aI];apply Array.ext_getElem?;intro k;simp only[Sort.putCells,Array.getElem?_mapIdx,List.getElem?_toArray,zN,List.getElem?_map,Nat.zero_le,true_and,Nat.zero_add,Nat.sub_zero,F.size];by_cases hk:k<bs.length
    ·rw[List.getElem?_append_left (by rw[Qu];exact hk),dF k hk];simp only[Option.map_some,iJ hk,rf,List.getElem?_map,List.getElem?_range hk,F.done k (Nat.zero_le _) hk];rfl
    ·rw[List.getElem?_append_right (by rw[Qu];omega),Qu,List.getElem?_drop,show bs.length+(k-bs.length)=k by omega];cases ct.toList[k]? with
     |none=>rfl
     |some y=>simp only[Option.map_some,iQ hk]
   ·intro i hi;refine hfz i ?_;rw[CT.aI]at hi;simp only[List.length_append,Qu,List.length_drop,List.length_nil]at hi
    omega)
 exact⟨m,D,rfl,X,R',trivial⟩
theorem qYs {f:Nat} (hc:∀(bk o c:Nat) (xs:List ByteArray) (sep:ByteArray) (w:World),
  (∀(j:Nat) x,xs[j]? =some x→w.cell? ⟨bk,o+j,none⟩=some (.string x))→bk<w.heap.size→xs.length≤140737488355328→xs.length≤c→(Lib.join (xs.map (·.data.toList)) sep.data.toList).length≤140737488355328→
  Calls P f #[.slice (some ⟨bk,o,none⟩) xs.length c,.string sep] w λe w'=>e=.returned (.string ⟨(Lib.join (xs.map (·.data.toList)) sep.data.toList).toArray⟩)∧RowKit.Below w.heap.size w w'):nC P f Zk:=by
 intro c l h r e m D W RR hD nn;unfold Zk at e
 split at e
 rotate_left
 ·cases e
 rename_i b o n cap sep
 split at e
 rotate_left
 ·cases e
 rename_i ct ty op nO
 split at e
 rotate_left
 ·cases e
 rename_i xs Ep;cases hb:(Nat.beq xs.length n&&(Nat.ble n cap&&(Nat.ble n 1000000&&Nat.ble (Lib.join xs sep).length 1000000)))
 ·rw[hb]at e;cases e
 rw[hb]at e;simp only[cond_true,Option.some.injEq]at e;simp only[Bool.and_eq_true]at hb;obtain⟨fA,dS,lx,B8⟩:=hb;have fA:=Nat.eq_of_beq_eq_true fA;have dS:=Nat.le_of_ble_eq_true dS;have lx:=Nat.le_of_ble_eq_true lx;have B8:=Nat.le_of_ble_eq_true B8;subst fA;have nh:D b:=hD.1;obtain⟨rest,fr,hh,_,_,_,_⟩:=RR.cells nh nO;have hC:=qGR Ep
 have key:=hc (m b).1 o cap (xs.map λx=>⟨x.toArray⟩) ⟨sep.toArray⟩ W (by
  intro j x hj;rw[List.getElem?_map]at hj;obtain⟨y,hy,rfl⟩:=Option.map_eq_some_iff.1 hj;have fE:=(List.getElem?_eq_some_iff.1 hy).1;have:=congrArg (·[j]?) hC;simp only[List.getElem?_take_of_lt fE,List.getElem?_drop,List.getElem?_map,hy,Option.map_some]at this;have au:=(List.getElem?_eq_some_iff.1 this).1;unfold World.cell?;simp only[hh];simp only[Option.isSome_none,Bool.false_eq_true,if_false,List.getElem?_toArray];rw[List.getElem?_append_left (by simpa using au),zN,List.getElem?_map,this]
  rfl) (by
  rcases Nat.lt_or_ge (m b).1 W.heap.size with h' |h'
  ·exact h'
  ·rw[Array.getElem?_eq_none h']at hh;cases hh) (by rw[List.length_map];omega) (by rw[List.length_map];omega) (by
  rw[List.map_map,show(λ(x:ByteArray)=>x.data.toList) ∘ (λ(x:List UInt8)=>(⟨x.toArray⟩:ByteArray))=id from by funext x;simp,List.map_id];show(Lib.join xs sep.toArray.toList).length≤_
  rw[List.toList_toArray];omega)
 rw[List.length_map,List.map_map,show(λ(x:ByteArray)=>x.data.toList) ∘ (λ(x:List UInt8)=>(⟨x.toArray⟩:ByteArray))=id from by funext x;simp,List.map_id]at key;refine CallsIn.mono (callsIn_wide.2 key) ?_;rintro ee w' ⟨rfl,B⟩;subst e;obtain⟨X,R'⟩:=Xg RR B;refine⟨m,D,?_,X,R',trivial⟩;show Ending.returned _=Ending.returned (.string _);simp
def sS:List AV→Option (List Int)
 |[]=>some []
 | .int .i64 x::r=>(sS r).bind λs=>some (x::s)
 |_=>none
def Ak (x:Int):List Int→List Int
 |[]=>[x]
 |y::r=>if x≤y then x::y::r else y::Ak x r
def kc:List Int→List Int
 |[]=>[]
 |x::r=>Ak x (kc r)
def UL:List Int→Bool
 |[]=>true
 |[_]=>true
 |x::y::r=>decide (x≤y)&&UL (y::r)
noncomputable def ZP:WF:=λ_ l h=>match l with
 |[.slice b 0 n _ _]=>
  (match h.get b with
  |some (.cells c e o)=>(match sS (c.toList.take n)with
   |some zs=>bif Nat.beq zs.length n&&Nat.ble n 1000000 then some (.bM [],h.put b (.cells (CT.ofList ((kc zs).map (.int .i64)++c.toList.drop n)) e o))else none
   |none=>none)
  |_=>none)
 |_=>none
noncomputable def Ow (e0:TypeId):WF:=λ_ l h=>match l with
 |[.slice b 0 n cap q]=>
  (match h.get b with
  |some (.cells c e o)=>(match sS (c.toList.take n)with
   |some zs=>bif Nat.beq zs.length n&&(Nat.ble n 1000000&&(bif q then Nat.beq cap 0&&(o&&Nat.beq e e0)else Nat.ble n cap))then some (.slice b 0 (Lib.compact zs).length cap q,
     h.put b (.cells (CT.ofList ((Lib.compact zs++List.replicate (zs.length-(Lib.compact zs).length) 0).map (.int .i64)++c.toList.drop n)) e o))else none
   |none=>none)
  |_=>none)
 |_=>none
noncomputable def Og:WF:=λ_ l h=>match l with
 |[.slice b 0 n _ _,.int .i64 x]=>
  (match h.get b with
  |some (.cells c _ _)=>(match sS (c.toList.take n)with
   |some zs=>bif Nat.beq zs.length n&&(Nat.ble n 1000000&&UL zs)then some (.bM [.int .i64 (zs.countP (· <x):Nat),.bool (zs.contains x)],h)else none
   |none=>none)
  |_=>none)
 |_=>none
theorem F6:∀{l:List AV} {zs:List Int},sS l=some zs→l=zs.map (.int .i64):=by
 intro l
 induction l with
 |nil=>intro bs h;cases h;rfl
 |cons a l ih=>
  intro bs h;unfold sS at h
  split at h
  ·rename_i mB;cases mB
  ·rename_i x r mB;cases mB;simp only[Option.bind_eq_some_iff,Option.some.injEq]at h;obtain⟨s,hs,rfl⟩:=h;rw[List.map_cons,← ih hs]
  ·cases h
theorem NG:∀(zs:List Int),sS (zs.map (.int .i64))=some zs:=by
 intro zs
 induction zs with
 |nil=>rfl
 |cons x zs ih=>rw[List.map_cons];unfold sS;rw[ih];rfl
theorem Vh (x:Int):∀l,(Ak x l).Perm (x::l):=by
 intro l
 induction l with
 |nil=>exact .refl _
 |cons y r ih=>
  unfold Ak
  split
  ·exact .refl _
  ·exact(ih.cons y).trans (.swap ..)
theorem Jd:∀l,(kc l).Perm l:=by
 intro l
 induction l with
 |nil=>exact .refl _
 |cons x r ih=>exact(Vh ..).trans (ih.cons x)
theorem Za (x:Int):∀{l:List Int},l.Pairwise (· ≤ ·)→(Ak x l).Pairwise (· ≤ ·):=by
 intro l
 induction l with
 |nil=>intro _;exact List.pairwise_singleton ..
 |cons y r ih=>
  intro h;have h1:=List.pairwise_cons.1 h;unfold Ak
  split
  ·rename_i Pg;refine List.pairwise_cons.2 ⟨λa ha=>?_,h⟩;rcases List.mem_cons.1 ha with rfl |ha
   ·exact Pg
   ·exact Int.le_trans Pg (h1.1 a ha)
  ·refine List.pairwise_cons.2 ⟨λa ha=>?_,ih h1.2⟩;rcases List.mem_cons.1 ((Vh x r).mem_iff.1 ha)with rfl |ha
   ·omega
   ·exact h1.1 a ha
theorem Xp:∀l,(kc l).Pairwise (· ≤ ·):=by
 intro l
 induction l with
 |nil=>exact List.Pairwise.nil
 |cons x r ih=>exact Za x ih
theorem VG (l:List Int):(kc l).length=l.length:=(Jd l).length_eq
theorem qXp (l:List Int):l.mergeSort (λx y=>decide (x≤y))=kc l:=by refine List.Perm.eq_of_pairwise (le:=λx y:Int=>x≤y) (λa b _ _ h1 h2=>by omega) ?_ (Xp l) ((List.mergeSort_perm ..).trans (Jd l).symm);exact(List.pairwise_mergeSort (λa b c h1 h2=>by simp at*;omega) (λa b=>by simp;omega) l).imp λh=>by simpa using h
theorem qYb:∀{l:List Int},UL l=true→l.Pairwise (· ≤ ·):=by
 intro l
 induction l with
 |nil=>intro _;exact List.Pairwise.nil
 |cons x r ih=>
  intro h;cases r with
  |nil=>exact List.pairwise_singleton ..
  |cons y r=>
   unfold UL at h;simp only[Bool.and_eq_true,decide_eq_true_eq]at h;have:=ih h.2;refine List.pairwise_cons.2 ⟨λa ha=>?_,this⟩;rcases List.mem_cons.1 ha with rfl |ha
   ·exact h.1
   ·exact Int.le_trans h.1 ((List.pairwise_cons.1 this).1 a ha)
theorem Vk {enc:Int→Value} {A:List Value} {dk:List Int} (h:dk.length≤A.length):Sort.putCells enc 0 dk.toArray A.toArray=(dk.map enc++A.drop dk.length).toArray:=by
 apply Array.ext_getElem?;intro k;simp only[Sort.putCells,Array.getElem?_mapIdx,List.getElem?_toArray,Nat.zero_le,true_and,Nat.zero_add,Nat.sub_zero,List.size_toArray];by_cases hk:k<dk.length
 ·rw[List.getElem?_append_left (by simpa using hk),List.getElem?_map,iW hk,iW (show k<A.length by omega)];simp[hk]
 ·rw[List.getElem?_append_right (by simp;omega),List.length_map,List.getElem?_drop,show dk.length+(k-dk.length)=k by omega];cases A[k]? with
  |none=>rfl
  |some y=>simp only[Option.map_some,iQ hk]
section
variable {P:Program} {m:Mp} {D:Nat→Prop} {h:AH} {W:World} {b n:Nat} {c:CT} {e:TypeId} {o:Bool}
theorem F7 (RR:Rel P m D h W) (hD:D b) (hg:h.get b=some (.cells c e o)) {zs:List Int} (hz:c.toList.take n=zs.map (.int .i64)) (hl:zs.length=n):Sort.Holds (Value.int .i64) W (m b).1 0 zs.toArray∧(m b).1<W.heap.size:=by
 obtain⟨rest,fr,hh,_,hfz,_,_⟩:=RR.cells hD hg;have hle:n≤c.toList.length:=by have:=congrArg List.length hz;simp at this;omega
 refine⟨λj hj=>?_,?_⟩
 ·have hj:j<zs.length:=by simpa using hj
  have ha:c.toList[j]? =some (.int .i64 zs[j]):=by have:=congrArg (·[j]?) hz;simp only[List.getElem?_take_of_lt (show j<n by omega),List.getElem?_map,iW hj,Option.map_some]at this;exact this
  refine⟨?_,?_⟩
  ·unfold World.cell?;rw[Nat.zero_add];simp only[hh];simp only[Option.isSome_none,Bool.false_eq_true,if_false,List.getElem?_toArray];rw[List.getElem?_append_left (by rw[zN,List.length_map];omega),zN,List.getElem?_map,ha];simp[cv,hj]
  ·unfold World.frozen?;rw[Nat.zero_add];simp only[hh];have:=hfz j omQ;simpa using this
 ·rcases Nat.lt_or_ge (m b).1 W.heap.size with h' |h'
  ·exact h'
  ·rw[Array.getElem?_eq_none h']at hh;cases hh
theorem Ph (RR:Rel P m D h W) (hD:D b) (hg:h.get b=some (.cells c e o)) {zs dk:List Int} (hz:c.toList.take n=zs.map (.int .i64)) (hl:zs.length=n) (hd:dk.length=n) (q:Nat) :
  Ext m D h W m D (h.put b (.cells (CT.ofList (dk.map (.int .i64)++c.toList.drop n)) e o)) (Sort.putRow (Value.int .i64) (Sort.ahead W q) (m b).1 0 dk.toArray)∧
   Rel P m D (h.put b (.cells (CT.ofList (dk.map (.int .i64)++c.toList.drop n)) e o)) (Sort.putRow (Value.int .i64) (Sort.ahead W q) (m b).1 0 dk.toArray):=by
 obtain⟨rest,fr,hh,lK,hfz,lI,dA⟩:=RR.cells hD hg;have hle:n≤c.toList.length:=by have:=congrArg List.length hz;simp at this;omega
 have pV:(dk.map (AV.int .i64)++c.toList.drop n).length=c.toList.length:=by simp;omega
 refine RR.put b _ hD ⟨_,hg,trivial⟩ (by show(Sort.putRow _ W (m b).1 0 _).heap.size=_;simp) (λk hk=>by
  show(Sort.putRow _ W (m b).1 0 _).heap[k]? =_;simp only[Sort.putRow,Sort.mapBlock,Array.getElem?_modify]
  rw[iQ (λe=>hk e.symm)]) rfl rfl rfl (by
   show aW D (CT.ofList _).toList;rw[CT.aI];refine yp.2 ⟨(xx D _).2 λv hv=>?_,(xx D _).2 λv hv=>(xx D _).1 dA v (List.mem_of_mem_drop hv)⟩;obtain⟨t,_,rfl⟩:=List.mem_map.1 hv
   trivial) ?_
 refine⟨rest,fr,?_,lK,?_,?_⟩
 ·show(Sort.putRow _ W (m b).1 0 _).heap[(m b).1]? =_;simp only[Sort.putRow,Sort.mapBlock,Array.getElem?_modify,iJ,hh,Option.map_some,Sort.onCells];rw[Vk (by rw[List.length_append,zN,List.length_map];omega),CT.aI,hd,zN,zN,List.map_append,List.map_map,List.drop_append_of_le_length (by rw[List.length_map];exact hle),List.append_assoc,List.map_drop];rfl
 ·rw[CT.aI,pV];exact hfz
 ·rw[CT.aI,pV];exact lI
theorem qXm (RR:Rel P m D h W) (q:Nat):Ext m D h W m D h (W.drewN q)∧Rel P m D h (W.drewN q):=Xg RR { os:=rfl,tape:=rfl,output:=rfl,size:=Nat.le_refl _,block:=λ_ _=>rfl }
theorem qjo {W0:World} (RR:Rel P m D h W0) (os:Array Obj):Ext m D h W0 m D h (Sort.grow W0 os)∧Rel P m D h (Sort.grow W0 os):=Xg RR { os:=rfl,tape:=rfl,output:=rfl,size:=by simp[Sort.grow],block:=λc hc=>by simp[Sort.grow,Array.getElem?_append_left hc] }
end
variable {P:Program}
theorem qjA {f:Nat} (hc:∀(bp off cap:Nat) (zs:List Int) (w:World),Sort.Holds (Value.int .i64) w bp off zs.toArray→bp<w.heap.size→zs.length<4611686018427387904→
  Calls P f #[.slice (some ⟨bp,off,none⟩) zs.length cap] w λe w'=>e=.returned (.tuple #[])∧∃n os,w'=Sort.grow (Sort.putRow (Value.int .i64) (Sort.ahead w n) bp off (zs.mergeSort λx y=>decide (x≤y)).toArray) os):nC P f ZP:=by
 intro c l h r e m D W RR hD nn;unfold ZP at e
 split at e
 rotate_left
 ·cases e
 rename_i b n cap q
 split at e
 rotate_left
 ·cases e
 rename_i ct ty o nO
 split at e
 rotate_left
 ·cases e
 rename_i zs sU;cases hb:(Nat.beq zs.length n&&Nat.ble n 1000000)
 ·rw[hb]at e;cases e
 rw[hb]at e;simp only[cond_true,Option.some.injEq]at e;simp only[Bool.and_eq_true]at hb;have fA:=Nat.eq_of_beq_eq_true hb.1;have dS:=Nat.le_of_ble_eq_true hb.2;have nh:D b:=hD.1;have hC:=F6 sU;obtain⟨H,au⟩:=F7 RR nh nO hC fA;obtain⟨cp,tZ⟩:∃cp,aS m [.slice b 0 n cap q]=[.slice (some ⟨(m b).1,0,none⟩) n cp]:=⟨_,rfl⟩;rw[tZ];have key:=hc (m b).1 0 cp zs W H au omQ;rw[fA]at key;refine CallsIn.mono (callsIn_wide.2 key) ?_;rintro ee w' ⟨rfl,k,os,rfl⟩;subst e;rw[qXp];obtain⟨X,R'⟩:=Ph RR nh nO hC fA (dk:=kc zs) (by rw[VG];exact fA) k;obtain⟨X2,R2⟩:=qjo R' os;exact⟨m,D,rfl,X.trans X2,R2,trivial⟩
theorem Pj (zs:List Int):(Lib.compact zs).length≤zs.length:=by unfold Lib.compact Lib.compactUpTo;rw[List.length_map];exact Nat.le_trans (List.length_filter_le ..) (by rw[List.length_range];exact Nat.le_refl _)
theorem qq9 {f:Nat} {e0:TypeId} (h0:aP P e0=some 1) (hc:∀(bp off cap:Nat) (zs:List Int) (w:World),Sort.Holds (Value.int .i64) w bp off zs.toArray→zs.length≤9223372036854775807→zs.length≤cap→
  Calls P f #[.slice (some ⟨bp,off,none⟩) zs.length cap] w λe w'=>e=.returned (.slice (some ⟨bp,off,none⟩) (Lib.compact zs).length cap)∧∃q,w'=Sort.putRow (Value.int .i64) (Sort.ahead w q) bp off (Lib.compact zs++List.replicate (zs.length-(Lib.compact zs).length) 0).toArray):nC P f (Ow e0):=by
 intro c l h r e m D W RR hD nn;unfold Ow at e
 split at e
 rotate_left
 ·cases e
 rename_i b n cap q
 split at e
 rotate_left
 ·cases e
 rename_i ct ty o nO
 split at e
 rotate_left
 ·cases e
 rename_i zs sU;cases hb:(Nat.beq zs.length n&&(Nat.ble n 1000000&&(bif q then Nat.beq cap 0&&(o&&Nat.beq ty e0)else Nat.ble n cap)))
 ·rw[hb]at e;cases e
 rw[hb]at e;simp only[cond_true,Option.some.injEq]at e;simp only[Bool.and_eq_true]at hb;have fA:=Nat.eq_of_beq_eq_true hb.1;have dS:=Nat.le_of_ble_eq_true hb.2.1;have nh:D b:=hD.1;have hC:=F6 sU;obtain⟨H,au⟩:=F7 RR nh nO hC fA;obtain⟨cp,tZ,hr,o7⟩:∃cp,aS m [.slice b 0 n cap q]=[.slice (some ⟨(m b).1,0,none⟩) n cp]∧(∀k,cv m (.slice b 0 k cap q)=.slice (some ⟨(m b).1,0,none⟩) k cp)∧n≤cp:=by
  refine⟨_,rfl,λ_=>rfl,?_⟩;have h3:=hb.2.2;cases q with
  |false=>exact Nat.le_of_ble_eq_true h3
  |true=>
   simp only[cond_true,Bool.and_eq_true]at h3;have k1:=Nat.eq_of_beq_eq_true h3.1;have k2:=Nat.eq_of_beq_eq_true h3.2.2;obtain⟨rest,fr,_,_,_,lI,_⟩:=RR.cells nh nO;have:=(lI h3.2.1 1 (by rw[k2];exact h0)).1;have hle:n≤ct.toList.length:=by have:=congrArg List.length hC;simp at this;omega
   show n≤(m b).2-cap;omega
 rw[tZ];have key:=hc (m b).1 0 cp zs W H omQ (by rw[fA];exact o7);rw[fA]at key;refine CallsIn.mono (callsIn_wide.2 key) ?_;rintro ee w' ⟨rfl,k,rfl⟩;subst e;have hle:=Pj zs;rw[fA];obtain⟨X,R'⟩:=Ph RR nh nO hC fA (dk:=Lib.compact zs++List.replicate (n-(Lib.compact zs).length) 0) (by simp;omega) k;exact⟨m,D,by rw[hr],X,R',nh⟩
theorem qY8 {f:Nat} (hc:∀(b off n c:Nat) (zs:List Int) (x:Int) (w:World),n≤zs.length→n<4611686018427387904→(∀j,j<zs.length→w.cell? ⟨b,off+j,none⟩=some (.int .i64 (zs.getD j 0)))→(zs.take n).Pairwise (· ≤ ·)→
  Calls P f #[.slice (some ⟨b,off,none⟩) n c,.int .i64 x] w λe w'=>e=.returned (.tuple #[.int .i64 ((zs.take n).countP (· <x):Nat),.bool ((zs.take n).contains x)])∧∃q,w'=w.drewN q):nC P f Og:=by
 intro c l h r e m D W RR hD nn;unfold Og at e
 split at e
 rotate_left
 ·cases e
 rename_i b n cap q x
 split at e
 rotate_left
 ·cases e
 rename_i ct ty o nO
 split at e
 rotate_left
 ·cases e
 rename_i zs sU;cases hb:(Nat.beq zs.length n&&(Nat.ble n 1000000&&UL zs))
 ·rw[hb]at e;cases e
 rw[hb]at e;simp only[cond_true,Option.some.injEq]at e;simp only[Bool.and_eq_true]at hb;have fA:=Nat.eq_of_beq_eq_true hb.1;have dS:=Nat.le_of_ble_eq_true hb.2.1;have nh:D b:=hD.1;obtain⟨H,_⟩:=F7 RR nh nO (F6 sU) fA;have tk:zs.take n=zs:=List.take_of_length_le omQ;obtain⟨cp,tZ⟩:∃cp,aS m [.slice b 0 n cap q,.int .i64 x]=[.slice (some ⟨(m b).1,0,none⟩) n cp,.int .i64 x]:=⟨_,rfl⟩;rw[tZ]
 have key:=hc (m b).1 0 n cp zs x W omQ omQ (λj hj=>by
  rw[(H j (by simpa using hj)).1]
  simp[hj]) (by rw[tk];exact qYb hb.2.2)
 rw[tk]at key;refine CallsIn.mono (callsIn_wide.2 key) ?_;rintro ee w' ⟨rfl,k,rfl⟩;subst e;obtain⟨X,R'⟩:=qXm RR k;exact⟨m,D,rfl,X,R',trivial,trivial,trivial⟩
def G4:Go.Shelf.Ren:=⟨fun | 156=>137 | 165=>170 | 166=>171 | 169=>172 | 240=>194 | 241=>195 | 276=>243 | 277=>244 |n=>n,fun | 31=>203 | 9=>9 | 3=>3 | 4=>4 | 0=>0 | 20=>20 | 72=>244 | 76=>247 | 70=>242 | 37=>22 | 75=>246 | 127=>266 | 164=>307 | 5=>5 | 80=>159 |n=>n,fun |n=>n⟩
theorem qve:Go.Proofs.Lays.n156 Tryz.prog G4:={
 mixed:=by kernel_rfl
 f156:=Tryz.func137.trans (congrArg some (by kernel_rfl))
 f165:=Tryz.func170.trans (congrArg some (by kernel_rfl))
 f166:=Tryz.func171.trans (congrArg some (by kernel_rfl))
 f169:=Tryz.func172.trans (congrArg some (by kernel_rfl))
 f240:=Tryz.func194.trans (congrArg some (by kernel_rfl))
 f241:=Tryz.func195.trans (congrArg some (by kernel_rfl))
 f276:=Tryz.func243.trans (congrArg some (by kernel_rfl))
 f277:=Tryz.func244.trans (congrArg some (by kernel_rfl))
 t0:=Tryz.underlying0
 a0:=Tryz.isAgg0
 z0:=Tryz.sizeOf0
 v0:=Tryz.zeroValue0
 t3:=Tryz.underlying3
 a3:=Tryz.isAgg3
 z3:=Tryz.sizeOf3
 v3:=Tryz.zeroValue3
 t4:=Tryz.underlying4
 a4:=Tryz.isAgg4
 z4:=Tryz.sizeOf4
 v4:=Tryz.zeroValue4
 t9:=Tryz.underlying9
 a9:=Tryz.isAgg9
 z9:=Tryz.sizeOf9
 v9:=Tryz.zeroValue9
 t20:=Tryz.underlying20
 a20:=Tryz.isAgg20
 z20:=Tryz.sizeOf20
 v20:=Tryz.zeroValue20
 t31:=Tryz.underlying203
 a31:=Tryz.isAgg203
 z31:=Tryz.sizeOf203
 v31:=Tryz.zeroValue203
 t37:=Tryz.underlying22
 a37:=Tryz.isAgg22
 z37:=Tryz.sizeOf22
 v37:=Tryz.zeroValue22
 t70:=Tryz.underlying242
 a70:=Tryz.isAgg242
 z70:=Tryz.sizeOf242
 v70:=Tryz.zeroValue242
 t72:=Tryz.underlying244
 a72:=Tryz.isAgg244
 z72:=Tryz.sizeOf244
 v72:=Tryz.zeroValue244
 t75:=Tryz.underlying246
 a75:=Tryz.isAgg246
 z75:=Tryz.sizeOf246
 v75:=Tryz.zeroValue246
 t76:=Tryz.underlying247
 a76:=Tryz.isAgg247
 z76:=Tryz.sizeOf247
 v76:=Tryz.zeroValue247
 t127:=Tryz.underlying266
 a127:=Tryz.isAgg266
 z127:=Tryz.sizeOf266
 v127:=Tryz.zeroValue266
 t164:=Tryz.underlying307
 a164:=Tryz.isAgg307
 z164:=Tryz.sizeOf307
 v164:=Tryz.zeroValue307 }
def On:Go.Shelf.Ren:=⟨fun | 284=>240 | 129=>238 | 317=>299 | 318=>300 |n=>n,fun | 53=>31 | 3=>3 | 212=>342 | 0=>0 | 4=>4 | 46=>265 | 5=>5 | 9=>9 |n=>n,fun | 17=>0 |n=>n⟩
theorem qk4:Go.Proofs.LaysM.n284 Tryz.prog On:={
 mixed:=by kernel_rfl
 f129:=Tryz.func238.trans (congrArg some (by kernel_rfl))
 f284:=Tryz.func240.trans (congrArg some (by kernel_rfl))
 f317:=Tryz.func299.trans (congrArg some (by kernel_rfl))
 f318:=Tryz.func300.trans (congrArg some (by kernel_rfl))
 t0:=Tryz.underlying0
 a0:=Tryz.isAgg0
 z0:=Tryz.sizeOf0
 v0:=Tryz.zeroValue0
 t3:=Tryz.underlying3
 a3:=Tryz.isAgg3
 z3:=Tryz.sizeOf3
 v3:=Tryz.zeroValue3
 t4:=Tryz.underlying4
 a4:=Tryz.isAgg4
 z4:=Tryz.sizeOf4
 v4:=Tryz.zeroValue4
 t5:=Tryz.underlying5
 a5:=Tryz.isAgg5
 z5:=Tryz.sizeOf5
 v5:=Tryz.zeroValue5
 t9:=Tryz.underlying9
 a9:=Tryz.isAgg9
 z9:=Tryz.sizeOf9
 v9:=Tryz.zeroValue9
 t46:=Tryz.underlying265
 a46:=Tryz.isAgg265
 z46:=Tryz.sizeOf265
 v46:=Tryz.zeroValue265
 t53:=Tryz.underlying31
 a53:=Tryz.isAgg31
 z53:=Tryz.sizeOf31
 v53:=Tryz.zeroValue31
 t212:=Tryz.underlying342
 a212:=Tryz.isAgg342
 z212:=Tryz.sizeOf342
 v212:=Tryz.zeroValue342
 g17:=by kernel_rfl
 i0:=by kernel_rfl
 i3:=by kernel_rfl
 i4:=by kernel_rfl
 i5:=by kernel_rfl
 i9:=by kernel_rfl
 i46:=by kernel_rfl
 i53:=by kernel_rfl
 i212:=by kernel_rfl
 m17:=by kernel_rfl }
def Zo:Go.Shelf.Ren:=⟨fun | 285=>241 |n=>n,fun | 37=>22 | 53=>31 | 3=>3 | 4=>4 | 51=>301 | 9=>9 | 5=>5 | 0=>0 |n=>n,fun |n=>n⟩
theorem qvr:Go.Proofs.Lays.n285 Tryz.prog Zo:={
 mixed:=by kernel_rfl
 f285:=Tryz.func241.trans (congrArg some (by kernel_rfl))
 t0:=Tryz.underlying0
 a0:=Tryz.isAgg0
 z0:=Tryz.sizeOf0
 v0:=Tryz.zeroValue0
 t3:=Tryz.underlying3
 a3:=Tryz.isAgg3
 z3:=Tryz.sizeOf3
 v3:=Tryz.zeroValue3
 t4:=Tryz.underlying4
 a4:=Tryz.isAgg4
 z4:=Tryz.sizeOf4
 v4:=Tryz.zeroValue4
 t5:=Tryz.underlying5
 a5:=Tryz.isAgg5
 z5:=Tryz.sizeOf5
 v5:=Tryz.zeroValue5
 t9:=Tryz.underlying9
 a9:=Tryz.isAgg9
 z9:=Tryz.sizeOf9
 v9:=Tryz.zeroValue9
 t37:=Tryz.underlying22
 a37:=Tryz.isAgg22
 z37:=Tryz.sizeOf22
 v37:=Tryz.zeroValue22
 t51:=Tryz.underlying301
 a51:=Tryz.isAgg301
 z51:=Tryz.sizeOf301
 v51:=Tryz.zeroValue301
 t53:=Tryz.underlying31
 a53:=Tryz.isAgg31
 z53:=Tryz.sizeOf31
 v53:=Tryz.zeroValue31 }
def ZY:Go.Shelf.Ren:=⟨fun | 189=>159 | 125=>191 | 257=>190 | 128=>237 | 129=>238 | 294=>228 | 295=>229 | 296=>230 | 297=>231 | 298=>232 | 299=>233 | 216=>234 | 300=>235 | 301=>236 | 328=>293 | 329=>294 | 330=>295 | 331=>296 | 332=>297 | 215=>298 | 343=>322 |n=>n,fun | 28=>112 | 3=>3 | 46=>265 | 0=>0 | 51=>301 | 53=>31 | 4=>4 | 183=>294 | 182=>293 | 131=>257 | 5=>5 | 9=>9 | 218=>336 | 222=>339 | 228=>358 | 229=>315 |n=>n,fun |n=>n⟩
theorem qzn:Go.Proofs.Lays.n189 Tryz.prog ZY:={
 mixed:=by kernel_rfl
 f125:=Tryz.func191.trans (congrArg some (by kernel_rfl))
 f128:=Tryz.func237.trans (congrArg some (by kernel_rfl))
 f129:=Tryz.func238.trans (congrArg some (by kernel_rfl))
 f189:=Tryz.func159.trans (congrArg some (by kernel_rfl))
 f215:=Tryz.func298.trans (congrArg some (by kernel_rfl))
 f216:=Tryz.func234.trans (congrArg some (by kernel_rfl))
 f257:=Tryz.func190.trans (congrArg some (by kernel_rfl))
 f294:=Tryz.func228.trans (congrArg some (by kernel_rfl))
 f295:=Tryz.func229.trans (congrArg some (by kernel_rfl))
 f296:=Tryz.func230.trans (congrArg some (by kernel_rfl))
 f297:=Tryz.func231.trans (congrArg some (by kernel_rfl))
 f298:=Tryz.func232.trans (congrArg some (by kernel_rfl))
 f299:=Tryz.func233.trans (congrArg some (by kernel_rfl))
 f300:=Tryz.func235.trans (congrArg some (by kernel_rfl))
 f301:=Tryz.func236.trans (congrArg some (by kernel_rfl))
 f328:=Tryz.func293.trans (congrArg some (by kernel_rfl))
 f329:=Tryz.func294.trans (congrArg some (by kernel_rfl))
 f330:=Tryz.func295.trans (congrArg some (by kernel_rfl))
 f331:=Tryz.func296.trans (congrArg some (by kernel_rfl))
 f332:=Tryz.func297.trans (congrArg some (by kernel_rfl))
 f343:=Tryz.func322.trans (congrArg some (by kernel_rfl))
 t0:=Tryz.underlying0
 a0:=Tryz.isAgg0
 z0:=Tryz.sizeOf0
 v0:=Tryz.zeroValue0
 t3:=Tryz.underlying3
 a3:=Tryz.isAgg3
 z3:=Tryz.sizeOf3
 v3:=Tryz.zeroValue3
 t4:=Tryz.underlying4
 a4:=Tryz.isAgg4
 z4:=Tryz.sizeOf4
 v4:=Tryz.zeroValue4
 t5:=Tryz.underlying5
 a5:=Tryz.isAgg5
 z5:=Tryz.sizeOf5
 v5:=Tryz.zeroValue5
 t9:=Tryz.underlying9
 a9:=Tryz.isAgg9
 z9:=Tryz.sizeOf9
 v9:=Tryz.zeroValue9
 t28:=Tryz.underlying112
 a28:=Tryz.isAgg112
 z28:=Tryz.sizeOf112
 v28:=Tryz.zeroValue112
 t46:=Tryz.underlying265
 a46:=Tryz.isAgg265
 z46:=Tryz.sizeOf265
 v46:=Tryz.zeroValue265
 t51:=Tryz.underlying301
 a51:=Tryz.isAgg301
 z51:=Tryz.sizeOf301
 v51:=Tryz.zeroValue301
 t53:=Tryz.underlying31
 a53:=Tryz.isAgg31
 z53:=Tryz.sizeOf31
 v53:=Tryz.zeroValue31
 t131:=Tryz.underlying257
 a131:=Tryz.isAgg257
 z131:=Tryz.sizeOf257
 v131:=Tryz.zeroValue257
 t182:=Tryz.underlying293
 a182:=Tryz.isAgg293
 z182:=Tryz.sizeOf293
 v182:=Tryz.zeroValue293
 t183:=Tryz.underlying294
 a183:=Tryz.isAgg294
 z183:=Tryz.sizeOf294
 v183:=Tryz.zeroValue294
 t218:=Tryz.underlying336
 a218:=Tryz.isAgg336
 z218:=Tryz.sizeOf336
 v218:=Tryz.zeroValue336
 t222:=Tryz.underlying339
 a222:=Tryz.isAgg339
 z222:=Tryz.sizeOf339
 v222:=Tryz.zeroValue339
 t228:=Tryz.underlying358
 a228:=Tryz.isAgg358
 z228:=Tryz.sizeOf358
 v228:=Tryz.zeroValue358
 t229:=Tryz.underlying315
 a229:=Tryz.isAgg315
 z229:=Tryz.sizeOf315
 v229:=Tryz.zeroValue315 }
def Ok:Go.Shelf.Ren:=⟨fun | 20=>160 |n=>n,fun | 22=>112 | 3=>3 | 4=>4 | 0=>0 |n=>n,fun |n=>n⟩
theorem qkI:Go.Proofs.Lays2.n20 Tryz.prog Ok:={
 mixed:=by kernel_rfl
 f20:=Tryz.func160.trans (congrArg some (by kernel_rfl))
 t0:=Tryz.underlying0
 a0:=Tryz.isAgg0
 z0:=Tryz.sizeOf0
 v0:=Tryz.zeroValue0
 t3:=Tryz.underlying3
 a3:=Tryz.isAgg3
 z3:=Tryz.sizeOf3
 v3:=Tryz.zeroValue3
 t4:=Tryz.underlying4
 a4:=Tryz.isAgg4
 z4:=Tryz.sizeOf4
 v4:=Tryz.zeroValue4
 t22:=Tryz.underlying112
 a22:=Tryz.isAgg112
 z22:=Tryz.sizeOf112
 v22:=Tryz.zeroValue112
 i3:=by kernel_rfl }
def ZA:Go.Shelf.Ren:=⟨fun | 25=>375 | 31=>234 | 32=>376 | 37=>298 |n=>n,fun | 22=>112 | 3=>3 | 4=>4 | 40=>265 | 0=>0 |n=>n,fun |n=>n⟩
theorem qvD:Go.Proofs.Lays2.n25 Tryz.prog ZA:={
 mixed:=by kernel_rfl
 f25:=Tryz.func375.trans (congrArg some (by kernel_rfl))
 f31:=Tryz.func234.trans (congrArg some (by kernel_rfl))
 f32:=Tryz.func376.trans (congrArg some (by kernel_rfl))
 f37:=Tryz.func298.trans (congrArg some (by kernel_rfl))
 t0:=Tryz.underlying0
 a0:=Tryz.isAgg0
 z0:=Tryz.sizeOf0
 v0:=Tryz.zeroValue0
 t3:=Tryz.underlying3
 a3:=Tryz.isAgg3
 z3:=Tryz.sizeOf3
 v3:=Tryz.zeroValue3
 t4:=Tryz.underlying4
 a4:=Tryz.isAgg4
 z4:=Tryz.sizeOf4
 v4:=Tryz.zeroValue4
 t22:=Tryz.underlying112
 a22:=Tryz.isAgg112
 z22:=Tryz.sizeOf112
 v22:=Tryz.zeroValue112
 t40:=Tryz.underlying265
 a40:=Tryz.isAgg265
 z40:=Tryz.sizeOf265
 v40:=Tryz.zeroValue265 }
theorem qjR:Builder.Extra Tryz.prog G4:={ sizeBuilder:=by kernel_rfl,liesBuilder:=by kernel_rfl,t5:=Tryz.underlying5,a5:=Tryz.isAgg5,z5:=Tryz.sizeOf5,v5:=Tryz.zeroValue5,infoByte:=by kernel_rfl,cellsByte:=by kernel_rfl,sizeByte:=by kernel_rfl,neB5:=by decide }
noncomputable def W137:WF:=Zk
theorem qkn:nC Tryz.prog 137 W137:=qYs λbk o c xs sep w h1 h2 h3 h4 h5=>Any.strings_Join qve qjR bk o c xs sep w h1 h2 h3 h4 h5
noncomputable def W240:WF:=B6
theorem qkP:nC Tryz.prog 240 W240:=qgm (iK ..) λu w h1 h2 h3=>Any.internal_strconv_numDigits qk4 u h1 h2 w h3
noncomputable def W241:WF:=B7
theorem qkM:nC Tryz.prog 241 W241:=qgs λbp off cap u d w h1 h2 h3 h4=>Any.internal_strconv_formatBase10 qvr bp off cap u d w h1 h2 h3 h4
noncomputable def W159:WF:=ZP
theorem qvb:nC Tryz.prog 159 W159:=qjA λbp off cap zs w h1 h2 h3=>Any.slices_Sort_int qzn bp off cap zs w h1 h2 h3
noncomputable def W160:WF:=Ow 3
theorem qx5:nC Tryz.prog 160 W160:=qq9 (by kernel_rfl) λbp off cap zs w h1 h2 h3=>Any.slices_Compact_int qkI bp off cap zs w h1 h2 h3
noncomputable def W375:WF:=Og
theorem qvE:nC Tryz.prog 375 W375:=qY8 λb off n c zs x w h1 h2 h3 h4=>Any.slices_BinarySearch_int qvD b off n c zs x w h1 h2 h3 h4
end Go.Proofs.YtefichdddddacaaGreatDoor
