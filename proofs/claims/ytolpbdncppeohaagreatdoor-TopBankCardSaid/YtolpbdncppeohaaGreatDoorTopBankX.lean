/- Some of the library's functions by the kit's contracts, over any program: how many digits a number has; its digits laid; words joined. -/
import Derived.Test.YtolpbdncppeohaaGreatDoorTopBankAe7
import Derived.Shelf.Strings.OnBuilder
import Derived.Shelf.Strconv.Itoa1
import Derived.Shelf.Strconv.Itoa2
import Derived.Shelf.Sort.Plain
import Derived.Shelf.Slices.CompactI
import Derived.Shelf.Slices.SearchI
import Derived.Test.YtolpbdncppeohaaGreatDoorProg
import Derived.KernelRfl
namespace Go.Proofs.YtolpbdncppeohaaGreatDoor
open Go Go.Ae Go.Shelf
def Dh:List AV→Option (List UInt8)
 |[]=>some []
 | .int .u8 (.ofNat n)::r=>bif Nat.ble (n+1) 256 then(Dh r).bind λs=>some (UInt8.ofNat n::s)else none
 |_=>none
def Fk:WF:=λ_ l h=>match l with
 |[.int .u64 (.ofNat u)]=>bif Nat.ble 1 u&&Nat.ble (u+1) 18446744073709551616 then some (.int .i64 (.ofNat (Lib.nDigits u)),h)else none
 |_=>none
def tG (n u:Nat):List AV:=(List.range n).map λt=>.int .u8 (.ofNat (Lib.dg u (n-1-t)).toNat)
noncomputable def Fl:WF:=λ_ l h=>match l with
 |[.slice b 0 n _ false,.int .u64 (.ofNat u)]=>
  (match h.get b with
  |some (.cells c e false)=>(match Dh (c.toList.take n)with
   |some bs=>bif Nat.beq bs.length n&&(Nat.ble (u+1) (10 ^ n)&&(Nat.ble (u+1) 18446744073709551616&&Nat.ble n 100))then some (.bV [],h.put b (.cells (CT.ofList (tG n u++c.toList.drop n)) e false))else none
   |none=>none)
  |_=>none)
 |_=>none
def Un:List AV→Option (List (List UInt8))
 |[]=>some []
 | .str s::r=>(Un r).bind λl=>some (s::l)
 |_=>none
noncomputable def Fm:WF:=λ_ l h=>match l with
 |[.slice b o n cap false,.str sep]=>
  (match h.get b with
  |some (.cells c _ _)=>(match Un ((c.toList.drop o).take n)with
   |some xs=>bif Nat.beq xs.length n&&(Nat.ble n cap&&(Nat.ble n 1000000&&Nat.ble (Lib.join xs sep).length 1000000))then some (.str (Lib.join xs sep),h)else none
   |none=>none)
  |_=>none)
 |_=>none
theorem qys:∀{l:List AV} {bs:List UInt8},Dh l=some bs→l=bs.map λc=>.int .u8 (.ofNat c.toNat):=by
 intro l
 induction l with
 |nil=>trivial
 |cons a l ih=>
  intro bs h;unfold Dh at h
  split at h
  ·grind
  ·rename_i n r oe;cases oe;cases hb:Nat.ble (n+1) 256
   ·grind
   ·rw[hb]at h;simp only[cond_true,Option.bind_eq_some_iff,Option.some.injEq]at h;obtain⟨s,hs,rfl⟩:=h;simp_all;omega
  grind
theorem qzF:∀{l:List AV} {xs:List (List UInt8)},Un l=some xs→l=xs.map .str:=by
 intro l
 induction l with
 |nil=>trivial
 |cons a l ih=>
  intro bs h;unfold Un at h
  split at h
  ·grind
  ·rename_i s r oe;cases oe;simp only[Option.bind_eq_some_iff,Option.some.injEq]at h;grind
  grind
variable {P:Program}
theorem jX9 {f : Nat} (hg : ("internal/strconv.uint64pow10", IntKind.u64, Lib.pow10Tab) ∈ gtab)
  (hc : ∀ (u : Nat) (w : World), 1 ≤ u → u < 18446744073709551616 → Lib.TabIs P w "internal/strconv.uint64pow10" .u64 Lib.pow10Tab → Calls P f #[.int .u64 u] w fun e w' => e = .returned (.int .i64 (Lib.nDigits u)) ∧ w' = w) : pB P f Fk := by
 intro c l h r e m D W RR hD n;unfold Fk at e
 split at e
 rotate_left
 ·grind
 rename_i u;cases hb:(Nat.ble 1 u&&Nat.ble (u+1) 18446744073709551616)
 ·grind
 rw[hb]at e;simp only[cond_true,Option.some.injEq]at e;simp only[Bool.and_eq_true]at hb;obtain⟨_,_,ht⟩:=RR.gl.gl _ hg;refine CallsIn.mono (callsIn_wide.2 (hc u W (Nat.le_of_ble_eq_true hb.1) (by simp at*;omega) ht)) ?_;rintro ee w' ⟨rfl,rfl⟩;subst e;exact⟨m,D,rfl,Ext.refl ..,RR,trivial⟩
theorem XM (n u:Nat):(tG n u).length=n:=by simp[tG]
theorem jKF {f:Nat} (hc:∀(bp off cap u:Nat) (d:Array UInt8) (w:World),Sort.Holds (λ(b:UInt8)=>Value.int .u8 (b.toNat:Int)) w bp off d→u<10 ^ d.size→u<18446744073709551616→d.size<4611686018427387904→
  Calls P f #[.slice (some ⟨bp,off,none⟩) d.size cap,.int .u64 u] w λe w'=>e=.returned (.tuple #[])∧∃(n v':Nat) (dk:Array UInt8),w'=(Sort.putRow (λ(b:UInt8)=>Value.int .u8 (b.toNat:Int)) w bp off dk).drewN n∧Lib.FmtInv d.size u 0 v' dk):pB P f Fl:=by
 intro c l h r e m D W RR hD nn;unfold Fl at e
 split at e
 rotate_left
 ·grind
 rename_i b n cap u
 split at e
 rotate_left
 ·grind
 rename_i ct ty pM
 split at e
 rotate_left
 ·grind
 rename_i bs pH;cases hb:(Nat.beq bs.length n&&(Nat.ble (u+1) (10 ^ n)&&(Nat.ble (u+1) 18446744073709551616&&Nat.ble n 100)))
 ·grind
 rw[hb]at e;simp only[cond_true,Option.some.injEq]at e;simp only[Bool.and_eq_true]at hb;obtain⟨iy,eP,mJ,Fo⟩:=hb;have iy:=Nat.eq_of_beq_eq_true iy;have eP:=Nat.le_of_ble_eq_true eP;have mJ:=Nat.le_of_ble_eq_true mJ;have Fo:=Nat.le_of_ble_eq_true Fo;subst iy;have oX:D b:=hD.1;obtain⟨rest,fr,hh,mX,hfz,_,hd⟩:=RR.cells oX pM;obtain rfl:=mX rfl;simp only[List.append_nil,List.length_nil,Nat.add_zero]at hh hfz;have hC:=qys pH;have hle:bs.length≤ct.toList.length:=by have:=congrArg List.length hC;grind
 have bF:bs.toArray.size=bs.length:=by simp
 have dw:∀j,j<bs.length→ct.toList[j]? =some (.int .u8 (.ofNat bs.toArray[j]!.toNat)):=by intro j hj;have:=congrArg (·[j]?) hC;grind
 have H:Sort.Holds (λ(b:UInt8)=>Value.int .u8 (b.toNat:Int)) W (m b).1 0 bs.toArray:=by
  intro j hj;rw[bF]at hj;refine⟨?_,?_⟩
  ·simp_all[World.cell?,Nat.zero_add,xK,cv]
  ·unfold World.frozen?;grind
 have key:=hc (m b).1 0 cap u bs.toArray W H (by grind) omQ (by grind);rw[bF]at key;refine CallsIn.mono (callsIn_wide.2 key) ?_;rintro ee w' ⟨rfl,q,v',dk,rfl,F⟩;subst e;have iz:ba D (tG bs.length u++ct.toList.drop bs.length):=by refine gw.2 ⟨(x8 D _).2 ?_,(x8 D _).2 λv hv=>(x8 D _).1 hd v (List.mem_of_mem_drop hv)⟩;intro v hv;obtain⟨t,_,rfl⟩:=List.mem_map.1 hv;trivial
 obtain⟨X,R'⟩:=RR.put (w0:=(Sort.putRow (λ(b:UInt8)=>Value.int .u8 (b.toNat:Int)) W (m b).1 0 dk).drewN q) b (.cells (CT.ofList (tG bs.length u++ct.toList.drop bs.length)) ty false) oX ⟨_,pM,trivial⟩
  (by simp) (λk hk=>by
   simp[Sort.putRow,Sort.mapBlock,Array.getElem?_modify];omega) rfl rfl rfl (by show ba D (CT.ofList _).toList;grind[CT.aL])
  (by
   refine⟨[],fr,?_,λ_=>rfl,?_,λh=>by grind⟩
   ·show(Sort.putRow _ W (m b).1 0 dk).heap[(m b).1]? =_;simp only[Sort.putRow,Sort.mapBlock,Array.getElem?_modify,iJ,hh,Option.map_some,Sort.onCells,List.append_nil]
    congr 2
    rw[CT.aL];apply Array.ext_getElem?;intro k;simp only[Sort.putCells,Array.getElem?_mapIdx,List.getElem?_toArray,xK,List.getElem?_map,Nat.zero_le,true_and,Nat.zero_add,Nat.sub_zero,F.size];by_cases hk:k<bs.length
    ·rw[List.getElem?_append_left (by grind[XM]),dw k hk];simp only[Option.map_some,iJ hk,tG,List.getElem?_map,List.getElem?_range hk,F.done k (Nat.zero_le _) hk];rfl
    ·rw[List.getElem?_append_right (by grind[XM]),XM,List.getElem?_drop,show bs.length+(k-bs.length)=k by omega];cases ct.toList[k]? with
     |none=>rfl
     |some y=>grind
   simp_all[CT.aL,List.length_append,XM,List.length_drop,List.length_nil])
 exact⟨m,D,rfl,X,R',trivial⟩
theorem qvC {f:Nat} (hc:∀(bk o c:Nat) (xs:List ByteArray) (sep:ByteArray) (w:World),
  (∀(j:Nat) x,xs[j]? =some x→w.cell? ⟨bk,o+j,none⟩=some (.string x))→bk<w.heap.size→xs.length≤140737488355328→xs.length≤c→(Lib.join (xs.map (·.data.toList)) sep.data.toList).length≤140737488355328→
  Calls P f #[.slice (some ⟨bk,o,none⟩) xs.length c,.string sep] w λe w'=>e=.returned (.string ⟨(Lib.join (xs.map (·.data.toList)) sep.data.toList).toArray⟩)∧RowKit.Below w.heap.size w w'):pB P f Fm:=by
 intro c l h r e m D W RR hD nn;unfold Fm at e
 split at e
 rotate_left
 ·grind
 rename_i b o n cap sep
 split at e
 rotate_left
 ·grind
 rename_i ct ty op pM
 split at e
 rotate_left
 ·grind
 rename_i xs LA;cases hb:(Nat.beq xs.length n&&(Nat.ble n cap&&(Nat.ble n 1000000&&Nat.ble (Lib.join xs sep).length 1000000)))
 ·grind
 rw[hb]at e;simp only[cond_true,Option.some.injEq]at e;simp only[Bool.and_eq_true]at hb;obtain⟨iy,eP,mJ,Fo⟩:=hb;have iy:=Nat.eq_of_beq_eq_true iy;have eP:=Nat.le_of_ble_eq_true eP;have mJ:=Nat.le_of_ble_eq_true mJ;have Fo:=Nat.le_of_ble_eq_true Fo;subst iy;have oX:D b:=hD.1;obtain⟨rest,fr,hh,_,_,_,_⟩:=RR.cells oX pM;have hC:=qzF LA
 have key:=hc (m b).1 o cap (xs.map λx=>⟨x.toArray⟩) ⟨sep.toArray⟩ W (by
  intro j x hj;rw[List.getElem?_map]at hj;obtain⟨y,hy,rfl⟩:=Option.map_eq_some_iff.1 hj;have lz:=(List.getElem?_eq_some_iff.1 hy).1;have:=congrArg (·[j]?) hC;simp only[List.getElem?_take_of_lt lz,List.getElem?_drop,List.getElem?_map,hy,Option.map_some]at this;have aw:=(List.getElem?_eq_some_iff.1 this).1;unfold World.cell?;simp only[hh];simp only[Option.isSome_none,Bool.false_eq_true,if_false,List.getElem?_toArray];rw[List.getElem?_append_left (by simp_all),xK,List.getElem?_map,this]
  rfl) (by
  grind) (by grind) (by grind) (by
  rw[List.map_map,show(λ(x:ByteArray)=>x.data.toList) ∘ (λ(x:List UInt8)=>(⟨x.toArray⟩:ByteArray))=id from by rfl,List.map_id];grind)
 rw[List.length_map,List.map_map,show(λ(x:ByteArray)=>x.data.toList) ∘ (λ(x:List UInt8)=>(⟨x.toArray⟩:ByteArray))=id from by rfl,List.map_id]at key;refine CallsIn.mono (callsIn_wide.2 key) ?_;rintro ee w' ⟨rfl,B⟩;subst e;obtain⟨X,R'⟩:=Yu RR B;refine⟨m,D,?_,X,R',trivial⟩;rfl
def AJ:List AV→Option (List Int)
 |[]=>some []
 | .int .i64 x::r=>(AJ r).bind λs=>some (x::s)
 |_=>none
def Di (x:Int):List Int→List Int
 |[]=>[x]
 |y::r=>if x≤y then x::y::r else y::Di x r
def JY:List Int→List Int
 |[]=>[]
 |x::r=>Di x (JY r)
def Mh:List Int→Bool
 |[]=>true
 |[_]=>true
 |x::y::r=>decide (x≤y)&&Mh (y::r)
noncomputable def Fp:WF:=λ_ l h=>match l with
 |[.slice b 0 n _ _]=>
  (match h.get b with
  |some (.cells c e o)=>(match AJ (c.toList.take n)with
   |some zs=>bif Nat.beq zs.length n&&Nat.ble n 1000000 then some (.bV [],h.put b (.cells (CT.ofList ((JY zs).map (.int .i64)++c.toList.drop n)) e o))else none
   |none=>none)
  |_=>none)
 |_=>none
noncomputable def Fq (e0:TypeId):WF:=λ_ l h=>match l with
 |[.slice b 0 n cap q]=>
  (match h.get b with
  |some (.cells c e o)=>(match AJ (c.toList.take n)with
   |some zs=>bif Nat.beq zs.length n&&(Nat.ble n 1000000&&(bif q then Nat.beq cap 0&&(o&&Nat.beq e e0)else Nat.ble n cap))then some (.slice b 0 (Lib.compact zs).length cap q,
     h.put b (.cells (CT.ofList ((Lib.compact zs++List.replicate (zs.length-(Lib.compact zs).length) 0).map (.int .i64)++c.toList.drop n)) e o))else none
   |none=>none)
  |_=>none)
 |_=>none
noncomputable def Fs:WF:=λ_ l h=>match l with
 |[.slice b 0 n _ _,.int .i64 x]=>
  (match h.get b with
  |some (.cells c _ _)=>(match AJ (c.toList.take n)with
   |some zs=>bif Nat.beq zs.length n&&(Nat.ble n 1000000&&Mh zs)then some (.bV [.int .i64 (zs.countP (· <x):Nat),.bool (zs.contains x)],h)else none
   |none=>none)
  |_=>none)
 |_=>none
theorem Rn:∀{l:List AV} {zs:List Int},AJ l=some zs→l=zs.map (.int .i64):=by
 intro l
 induction l with
 |nil=>trivial
 |cons a l ih=>
  intro bs h;unfold AJ at h
  split at h
  ·grind
  ·rename_i x r oe;cases oe;simp only[Option.bind_eq_some_iff,Option.some.injEq]at h;grind
  grind
theorem Zr:∀(zs:List Int),AJ (zs.map (.int .i64))=some zs:=by
 intro zs
 induction zs with
 |nil=>rfl
 |cons x zs ih=>simp_all[List.map_cons,AJ]
theorem Ow (x:Int):∀l,(Di x l).Perm (x::l):=by
 intro l
 induction l with
 |nil=>rfl
 |cons y r ih=>
  grind[Di,trans]
theorem Yk:∀l,(JY l).Perm l:=by
 intro l
 induction l with
 |nil=>rfl
 |cons x r ih=>exact(Ow ..).trans (ih.cons x)
theorem qXf (x:Int):∀{l:List Int},l.Pairwise (· ≤ ·)→(Di x l).Pairwise (· ≤ ·):=by
 intro l
 induction l with
 |nil=>intro _;exact List.pairwise_singleton ..
 |cons y r ih=>
  intro h;have h1:=List.pairwise_cons.1 h;unfold Di
  split
  ·rename_i hxy;refine List.pairwise_cons.2 ⟨λa ha=>?_,h⟩;grind
  ·refine List.pairwise_cons.2 ⟨λa ha=>?_,ih h1.2⟩;rcases List.mem_cons.1 ((Ow x r).mem_iff.1 ha)with rfl |ha
   all_goals grind
theorem GT:∀l,(JY l).Pairwise (· ≤ ·):=by
 intro l
 induction l with
 |nil=>trivial
 |cons x r ih=>exact qXf x ih
theorem NO (l:List Int):(JY l).length=l.length:=(Yk l).length_eq
theorem qYL (l:List Int):l.mergeSort (λx y=>decide (x≤y))=JY l:=by refine List.Perm.eq_of_pairwise (le:=λx y:Int=>x≤y) (λa b _ _ h1 h2=>by omega) ?_ (GT l) ((List.mergeSort_perm ..).trans (Yk l).symm);grind[List.pairwise_mergeSort]
theorem qkh:∀{l:List Int},Mh l=true→l.Pairwise (· ≤ ·):=by
 intro l
 induction l with
 |nil=>simp
 |cons x r ih=>
  intro h;cases r with
  |nil=>simp
  |cons y r=>
   unfold Mh at h;simp only[Bool.and_eq_true,decide_eq_true_eq]at h;have:=ih h.2;refine List.pairwise_cons.2 ⟨λa ha=>?_,this⟩;rcases List.mem_cons.1 ha with rfl |ha
   all_goals grind[Int.le_trans,List.pairwise_cons]
theorem Nf {enc:Int→Value} {A:List Value} {dk:List Int} (h:dk.length≤A.length):Sort.putCells enc 0 dk.toArray A.toArray=(dk.map enc++A.drop dk.length).toArray:=by
 apply Array.ext_getElem?;intro k;simp only[Sort.putCells,Array.getElem?_mapIdx,List.getElem?_toArray,Nat.zero_le,true_and,Nat.zero_add,Nat.sub_zero,List.size_toArray];grind
section
variable {P:Program} {m:Mp} {D:Nat→Prop} {h:AH} {W:World} {b n:Nat} {c:CT} {e:TypeId} {o:Bool}
theorem Ro (RR:Rel P m D h W) (hD:D b) (hg:h.get b=some (.cells c e o)) {zs:List Int} (hz:c.toList.take n=zs.map (.int .i64)) (hl:zs.length=n):Sort.Holds (Value.int .i64) W (m b).1 0 zs.toArray∧(m b).1<W.heap.size:=by
 obtain⟨rest,fr,hh,_,hfz,_,_⟩:=RR.cells hD hg;have hle:n≤c.toList.length:=by have:=congrArg List.length hz;grind
 refine⟨λj hj=>?_,?_⟩
 ·have hj:j<zs.length:=by grind
  have ha:c.toList[j]? =some (.int .i64 zs[j]):=by have:=congrArg (·[j]?) hz;grind
  refine⟨?_,?_⟩
  ·unfold World.cell?;rw[Nat.zero_add];simp only[hh];simp only[Option.isSome_none,Bool.false_eq_true,if_false,List.getElem?_toArray];rw[List.getElem?_append_left (by simp;omega),xK,List.getElem?_map,ha];grind[cv]
  ·unfold World.frozen?;rw[Nat.zero_add];simp only[hh];have:=hfz j omQ;grind
 grind
theorem qW9 (RR:Rel P m D h W) (hD:D b) (hg:h.get b=some (.cells c e o)) {zs dk:List Int} (hz:c.toList.take n=zs.map (.int .i64)) (hl:zs.length=n) (hd:dk.length=n) (q:Nat) :
  Ext m D h W m D (h.put b (.cells (CT.ofList (dk.map (.int .i64)++c.toList.drop n)) e o)) (Sort.putRow (Value.int .i64) (Sort.ahead W q) (m b).1 0 dk.toArray)∧
   Rel P m D (h.put b (.cells (CT.ofList (dk.map (.int .i64)++c.toList.drop n)) e o)) (Sort.putRow (Value.int .i64) (Sort.ahead W q) (m b).1 0 dk.toArray):=by
 obtain⟨rest,fr,hh,mX,hfz,mT,eI⟩:=RR.cells hD hg;have hle:n≤c.toList.length:=by have:=congrArg List.length hz;grind
 have tx:(dk.map (AV.int .i64)++c.toList.drop n).length=c.toList.length:=by grind
 refine RR.put b _ hD ⟨_,hg,trivial⟩ (by simp) (λk hk=>by
  simp[Sort.putRow,Sort.mapBlock,Array.getElem?_modify];omega) rfl rfl rfl (by
   show ba D (CT.ofList _).toList;rw[CT.aL];refine gw.2 ⟨(x8 D _).2 λv hv=>?_,(x8 D _).2 λv hv=>(x8 D _).1 eI v (List.mem_of_mem_drop hv)⟩;obtain⟨t,_,rfl⟩:=List.mem_map.1 hv
   trivial) ?_
 refine⟨rest,fr,?_,mX,?_,?_⟩
 ·show(Sort.putRow _ W (m b).1 0 _).heap[(m b).1]? =_;simp only[Sort.putRow,Sort.mapBlock,Array.getElem?_modify,iJ,hh,Option.map_some,Sort.onCells];rw[Nf (by simp;omega),CT.aL,hd,xK,xK,List.map_append,List.map_map,List.drop_append_of_le_length (by grind),List.append_assoc,List.map_drop];rfl
 all_goals grind[CT.aL]
theorem qYF (RR:Rel P m D h W) (q:Nat):Ext m D h W m D h (W.drewN q)∧Rel P m D h (W.drewN q):=Yu RR { os:=rfl,tape:=rfl,output:=rfl,size:=Nat.le_refl _,block:=λ_ _=>rfl }
theorem qwO {W0:World} (RR:Rel P m D h W0) (os:Array Obj):Ext m D h W0 m D h (Sort.grow W0 os)∧Rel P m D h (Sort.grow W0 os):=Yu RR { os:=rfl,tape:=rfl,output:=rfl,size:=by simp,block:=λc hc=>by grind[Sort.grow,Array.getElem?_append_left] }
end
variable {P:Program}
theorem qgf {f:Nat} (hc:∀(bp off cap:Nat) (zs:List Int) (w:World),Sort.Holds (Value.int .i64) w bp off zs.toArray→bp<w.heap.size→zs.length<4611686018427387904→
  Calls P f #[.slice (some ⟨bp,off,none⟩) zs.length cap] w λe w'=>e=.returned (.tuple #[])∧∃n os,w'=Sort.grow (Sort.putRow (Value.int .i64) (Sort.ahead w n) bp off (zs.mergeSort λx y=>decide (x≤y)).toArray) os):pB P f Fp:=by
 intro c l h r e m D W RR hD nn;unfold Fp at e
 split at e
 rotate_left
 ·grind
 rename_i b n cap q
 split at e
 rotate_left
 ·grind
 rename_i ct ty o pM
 split at e
 rotate_left
 ·grind
 rename_i zs AK;cases hb:(Nat.beq zs.length n&&Nat.ble n 1000000)
 ·grind
 rw[hb]at e;simp only[cond_true,Option.some.injEq]at e;simp only[Bool.and_eq_true]at hb;have iy:=Nat.eq_of_beq_eq_true hb.1;have eP:=Nat.le_of_ble_eq_true hb.2;have oX:D b:=hD.1;have hC:=Rn AK;obtain⟨H,aw⟩:=Ro RR oX pM hC iy;obtain⟨cp,BH⟩:∃cp,aW m [.slice b 0 n cap q]=[.slice (some ⟨(m b).1,0,none⟩) n cp]:=⟨_,rfl⟩;rw[BH];have key:=hc (m b).1 0 cp zs W H aw omQ;rw[iy]at key;refine CallsIn.mono (callsIn_wide.2 key) ?_;rintro ee w' ⟨rfl,k,os,rfl⟩;subst e;rw[qYL];obtain⟨X,R'⟩:=qW9 RR oX pM hC iy (dk:=JY zs) (by grind[NO]) k;obtain⟨X2,R2⟩:=qwO R' os;exact⟨m,D,rfl,X.trans X2,R2,trivial⟩
theorem qGu (zs:List Int):(Lib.compact zs).length≤zs.length:=by grind[Lib.compact,Lib.compactUpTo,List.length_map,Nat.le_trans,List.length_filter_le]
theorem qge {f:Nat} {e0:TypeId} (h0:aQ P e0=some 1) (hc:∀(bp off cap:Nat) (zs:List Int) (w:World),Sort.Holds (Value.int .i64) w bp off zs.toArray→zs.length≤9223372036854775807→zs.length≤cap→
  Calls P f #[.slice (some ⟨bp,off,none⟩) zs.length cap] w λe w'=>e=.returned (.slice (some ⟨bp,off,none⟩) (Lib.compact zs).length cap)∧∃q,w'=Sort.putRow (Value.int .i64) (Sort.ahead w q) bp off (Lib.compact zs++List.replicate (zs.length-(Lib.compact zs).length) 0).toArray):pB P f (Fq e0):=by
 intro c l h r e m D W RR hD nn;unfold Fq at e
 split at e
 rotate_left
 ·grind
 rename_i b n cap q
 split at e
 rotate_left
 ·grind
 rename_i ct ty o pM
 split at e
 rotate_left
 ·grind
 rename_i zs AK;cases hb:(Nat.beq zs.length n&&(Nat.ble n 1000000&&(bif q then Nat.beq cap 0&&(o&&Nat.beq ty e0)else Nat.ble n cap)))
 ·grind
 rw[hb]at e;simp only[cond_true,Option.some.injEq]at e;simp only[Bool.and_eq_true]at hb;have iy:=Nat.eq_of_beq_eq_true hb.1;have eP:=Nat.le_of_ble_eq_true hb.2.1;have oX:D b:=hD.1;have hC:=Rn AK;obtain⟨H,aw⟩:=Ro RR oX pM hC iy;obtain⟨cp,BH,hr,pz⟩:∃cp,aW m [.slice b 0 n cap q]=[.slice (some ⟨(m b).1,0,none⟩) n cp]∧(∀k,cv m (.slice b 0 k cap q)=.slice (some ⟨(m b).1,0,none⟩) k cp)∧n≤cp:=by
  refine⟨_,rfl,λ_=>rfl,?_⟩;have h3:=hb.2.2;cases q with
  |false=>simp_all
  |true=>
   simp only[cond_true,Bool.and_eq_true]at h3;have k1:=Nat.eq_of_beq_eq_true h3.1;have k2:=Nat.eq_of_beq_eq_true h3.2.2;obtain⟨rest,fr,_,_,_,mT,_⟩:=RR.cells oX pM;have:=(mT h3.2.1 1 (by grind)).1;have hle:n≤ct.toList.length:=by have:=congrArg List.length hC;grind
   grind
 rw[BH];have key:=hc (m b).1 0 cp zs W H omQ (by grind);rw[iy]at key;refine CallsIn.mono (callsIn_wide.2 key) ?_;rintro ee w' ⟨rfl,k,rfl⟩;subst e;have hle:=qGu zs;rw[iy];obtain⟨X,R'⟩:=qW9 RR oX pM hC iy (dk:=Lib.compact zs++List.replicate (n-(Lib.compact zs).length) 0) (by grind) k;exact⟨m,D,by rw[hr],X,R',oX⟩
theorem qva {f:Nat} (hc:∀(b off n c:Nat) (zs:List Int) (x:Int) (w:World),n≤zs.length→n<4611686018427387904→(∀j,j<zs.length→w.cell? ⟨b,off+j,none⟩=some (.int .i64 (zs.getD j 0)))→(zs.take n).Pairwise (· ≤ ·)→
  Calls P f #[.slice (some ⟨b,off,none⟩) n c,.int .i64 x] w λe w'=>e=.returned (.tuple #[.int .i64 ((zs.take n).countP (· <x):Nat),.bool ((zs.take n).contains x)])∧∃q,w'=w.drewN q):pB P f Fs:=by
 intro c l h r e m D W RR hD nn;unfold Fs at e
 split at e
 rotate_left
 ·grind
 rename_i b n cap q x
 split at e
 rotate_left
 ·grind
 rename_i ct ty o pM
 split at e
 rotate_left
 ·grind
 rename_i zs AK;cases hb:(Nat.beq zs.length n&&(Nat.ble n 1000000&&Mh zs))
 ·grind
 rw[hb]at e;simp only[cond_true,Option.some.injEq]at e;simp only[Bool.and_eq_true]at hb;have iy:=Nat.eq_of_beq_eq_true hb.1;have eP:=Nat.le_of_ble_eq_true hb.2.1;have oX:D b:=hD.1;obtain⟨H,_⟩:=Ro RR oX pM (Rn AK) iy;have tk:zs.take n=zs:=List.take_of_length_le omQ;obtain⟨cp,BH⟩:∃cp,aW m [.slice b 0 n cap q,.int .i64 x]=[.slice (some ⟨(m b).1,0,none⟩) n cp,.int .i64 x]:=⟨_,rfl⟩;rw[BH]
 have key:=hc (m b).1 0 n cp zs x W omQ omQ (λj hj=>by
  rw[(H j (by grind)).1]
  simp) (by grind[qkh])
 rw[tk]at key;refine CallsIn.mono (callsIn_wide.2 key) ?_;rintro ee w' ⟨rfl,k,rfl⟩;subst e;obtain⟨X,R'⟩:=qYF RR k;exact⟨m,D,rfl,X,R',trivial,trivial,trivial⟩
def U1:Go.Shelf.Ren:=⟨fun | 156=>137 | 165=>169 | 166=>170 | 169=>171 | 240=>193 | 241=>194 | 276=>242 | 277=>243 |n=>n,fun | 31=>208 | 9=>9 | 3=>3 | 4=>4 | 0=>0 | 20=>20 | 72=>251 | 76=>254 | 70=>249 | 37=>86 | 75=>253 | 127=>271 | 164=>312 | 5=>5 | 80=>164 |n=>n,fun |n=>n⟩
theorem jZu:Go.Proofs.Lays.n156 Tryz.prog U1:={
 mixed:=by rfl
 f156:=Tryz.func137.trans (congrArg some (by rfl))
 f165:=Tryz.func169.trans (congrArg some (by rfl))
 f166:=Tryz.func170.trans (congrArg some (by rfl))
 f169:=Tryz.func171.trans (congrArg some (by rfl))
 f240:=Tryz.func193.trans (congrArg some (by rfl))
 f241:=Tryz.func194.trans (congrArg some (by rfl))
 f276:=Tryz.func242.trans (congrArg some (by rfl))
 f277:=Tryz.func243.trans (congrArg some (by rfl))
 t0:=Tryz.underlying0
 a0:=Tryz.isAgg0
 z0:=Tryz.sizeOf0
 v0:=Tryz.zeroValue0
 t3:=Tryz.underlying3
 a3:=Tryz.isAgg3
 z3:=Tryz.sizeOf3
 v3:=Tryz.zeroValue3
 t4:=Tryz.underlying4
 a4:=Tryz.isAgg4
 z4:=Tryz.sizeOf4
 v4:=Tryz.zeroValue4
 t9:=Tryz.underlying9
 a9:=Tryz.isAgg9
 z9:=Tryz.sizeOf9
 v9:=Tryz.zeroValue9
 t20:=Tryz.underlying20
 a20:=Tryz.isAgg20
 z20:=Tryz.sizeOf20
 v20:=Tryz.zeroValue20
 t31:=Tryz.underlying208
 a31:=Tryz.isAgg208
 z31:=Tryz.sizeOf208
 v31:=Tryz.zeroValue208
 t37:=Tryz.underlying86
 a37:=Tryz.isAgg86
 z37:=Tryz.sizeOf86
 v37:=Tryz.zeroValue86
 t70:=Tryz.underlying249
 a70:=Tryz.isAgg249
 z70:=Tryz.sizeOf249
 v70:=Tryz.zeroValue249
 t72:=Tryz.underlying251
 a72:=Tryz.isAgg251
 z72:=Tryz.sizeOf251
 v72:=Tryz.zeroValue251
 t75:=Tryz.underlying253
 a75:=Tryz.isAgg253
 z75:=Tryz.sizeOf253
 v75:=Tryz.zeroValue253
 t76:=Tryz.underlying254
 a76:=Tryz.isAgg254
 z76:=Tryz.sizeOf254
 v76:=Tryz.zeroValue254
 t127:=Tryz.underlying271
 a127:=Tryz.isAgg271
 z127:=Tryz.sizeOf271
 v127:=Tryz.zeroValue271
 t164:=Tryz.underlying312
 a164:=Tryz.isAgg312
 z164:=Tryz.sizeOf312
 v164:=Tryz.zeroValue312 }
def qZB:Go.Shelf.Ren:=⟨fun | 284=>239 | 129=>237 | 317=>299 | 318=>300 |n=>n,fun | 53=>22 | 3=>3 | 212=>347 | 0=>0 | 4=>4 | 46=>37 | 5=>5 | 9=>9 |n=>n,fun | 17=>0 |n=>n⟩
theorem jZC:Go.Proofs.LaysM.n284 Tryz.prog qZB:={
 mixed:=by rfl
 f129:=Tryz.func237.trans (congrArg some (by rfl))
 f284:=Tryz.func239.trans (congrArg some (by rfl))
 f317:=Tryz.func299.trans (congrArg some (by rfl))
 f318:=Tryz.func300.trans (congrArg some (by rfl))
 t0:=Tryz.underlying0
 a0:=Tryz.isAgg0
 z0:=Tryz.sizeOf0
 v0:=Tryz.zeroValue0
 t3:=Tryz.underlying3
 a3:=Tryz.isAgg3
 z3:=Tryz.sizeOf3
 v3:=Tryz.zeroValue3
 t4:=Tryz.underlying4
 a4:=Tryz.isAgg4
 z4:=Tryz.sizeOf4
 v4:=Tryz.zeroValue4
 t5:=Tryz.underlying5
 a5:=Tryz.isAgg5
 z5:=Tryz.sizeOf5
 v5:=Tryz.zeroValue5
 t9:=Tryz.underlying9
 a9:=Tryz.isAgg9
 z9:=Tryz.sizeOf9
 v9:=Tryz.zeroValue9
 t46:=Tryz.underlying37
 a46:=Tryz.isAgg37
 z46:=Tryz.sizeOf37
 v46:=Tryz.zeroValue37
 t53:=Tryz.underlying22
 a53:=Tryz.isAgg22
 z53:=Tryz.sizeOf22
 v53:=Tryz.zeroValue22
 t212:=Tryz.underlying347
 a212:=Tryz.isAgg347
 z212:=Tryz.sizeOf347
 v212:=Tryz.zeroValue347
 g17:=by kernel_rfl
 i0:=by kernel_rfl
 i3:=by kernel_rfl
 i4:=by kernel_rfl
 i5:=by kernel_rfl
 i9:=by kernel_rfl
 i46:=by kernel_rfl
 i53:=by kernel_rfl
 i212:=by kernel_rfl
 m17:=by rfl }
def qXt:Go.Shelf.Ren:=⟨fun | 285=>240 |n=>n,fun | 37=>86 | 53=>22 | 3=>3 | 4=>4 | 51=>306 | 9=>9 | 5=>5 | 0=>0 |n=>n,fun |n=>n⟩
theorem jZ7:Go.Proofs.Lays.n285 Tryz.prog qXt:={
 mixed:=by rfl
 f285:=Tryz.func240.trans (congrArg some (by rfl))
 t0:=Tryz.underlying0
 a0:=Tryz.isAgg0
 z0:=Tryz.sizeOf0
 v0:=Tryz.zeroValue0
 t3:=Tryz.underlying3
 a3:=Tryz.isAgg3
 z3:=Tryz.sizeOf3
 v3:=Tryz.zeroValue3
 t4:=Tryz.underlying4
 a4:=Tryz.isAgg4
 z4:=Tryz.sizeOf4
 v4:=Tryz.zeroValue4
 t5:=Tryz.underlying5
 a5:=Tryz.isAgg5
 z5:=Tryz.sizeOf5
 v5:=Tryz.zeroValue5
 t9:=Tryz.underlying9
 a9:=Tryz.isAgg9
 z9:=Tryz.sizeOf9
 v9:=Tryz.zeroValue9
 t37:=Tryz.underlying86
 a37:=Tryz.isAgg86
 z37:=Tryz.sizeOf86
 v37:=Tryz.zeroValue86
 t51:=Tryz.underlying306
 a51:=Tryz.isAgg306
 z51:=Tryz.sizeOf306
 v51:=Tryz.zeroValue306
 t53:=Tryz.underlying22
 a53:=Tryz.isAgg22
 z53:=Tryz.sizeOf22
 v53:=Tryz.zeroValue22 }
def qZm:Go.Shelf.Ren:=⟨fun | 189=>158 | 125=>190 | 257=>189 | 128=>236 | 129=>237 | 294=>227 | 295=>228 | 296=>229 | 297=>230 | 298=>231 | 299=>232 | 216=>233 | 300=>234 | 301=>235 | 328=>293 | 329=>294 | 330=>295 | 331=>296 | 332=>297 | 215=>298 | 343=>323 |n=>n,fun | 28=>119 | 3=>3 | 46=>37 | 0=>0 | 51=>306 | 53=>22 | 4=>4 | 183=>299 | 182=>298 | 131=>263 | 5=>5 | 9=>9 | 218=>341 | 222=>344 | 228=>363 | 229=>320 |n=>n,fun |n=>n⟩
theorem qya:Go.Proofs.Lays.n189 Tryz.prog qZm:={
 mixed:=by rfl
 f125:=Tryz.func190.trans (congrArg some (by rfl))
 f128:=Tryz.func236.trans (congrArg some (by rfl))
 f129:=Tryz.func237.trans (congrArg some (by rfl))
 f189:=Tryz.func158.trans (congrArg some (by rfl))
 f215:=Tryz.func298.trans (congrArg some (by rfl))
 f216:=Tryz.func233.trans (congrArg some (by rfl))
 f257:=Tryz.func189.trans (congrArg some (by rfl))
 f294:=Tryz.func227.trans (congrArg some (by rfl))
 f295:=Tryz.func228.trans (congrArg some (by rfl))
 f296:=Tryz.func229.trans (congrArg some (by rfl))
 f297:=Tryz.func230.trans (congrArg some (by rfl))
 f298:=Tryz.func231.trans (congrArg some (by rfl))
 f299:=Tryz.func232.trans (congrArg some (by rfl))
 f300:=Tryz.func234.trans (congrArg some (by rfl))
 f301:=Tryz.func235.trans (congrArg some (by rfl))
 f328:=Tryz.func293.trans (congrArg some (by rfl))
 f329:=Tryz.func294.trans (congrArg some (by rfl))
 f330:=Tryz.func295.trans (congrArg some (by rfl))
 f331:=Tryz.func296.trans (congrArg some (by rfl))
 f332:=Tryz.func297.trans (congrArg some (by rfl))
 f343:=Tryz.func323.trans (congrArg some (by rfl))
 t0:=Tryz.underlying0
 a0:=Tryz.isAgg0
 z0:=Tryz.sizeOf0
 v0:=Tryz.zeroValue0
 t3:=Tryz.underlying3
 a3:=Tryz.isAgg3
 z3:=Tryz.sizeOf3
 v3:=Tryz.zeroValue3
 t4:=Tryz.underlying4
 a4:=Tryz.isAgg4
 z4:=Tryz.sizeOf4
 v4:=Tryz.zeroValue4
 t5:=Tryz.underlying5
 a5:=Tryz.isAgg5
 z5:=Tryz.sizeOf5
 v5:=Tryz.zeroValue5
 t9:=Tryz.underlying9
 a9:=Tryz.isAgg9
 z9:=Tryz.sizeOf9
 v9:=Tryz.zeroValue9
 t28:=Tryz.underlying119
 a28:=Tryz.isAgg119
 z28:=Tryz.sizeOf119
 v28:=Tryz.zeroValue119
 t46:=Tryz.underlying37
 a46:=Tryz.isAgg37
 z46:=Tryz.sizeOf37
 v46:=Tryz.zeroValue37
 t51:=Tryz.underlying306
 a51:=Tryz.isAgg306
 z51:=Tryz.sizeOf306
 v51:=Tryz.zeroValue306
 t53:=Tryz.underlying22
 a53:=Tryz.isAgg22
 z53:=Tryz.sizeOf22
 v53:=Tryz.zeroValue22
 t131:=Tryz.underlying263
 a131:=Tryz.isAgg263
 z131:=Tryz.sizeOf263
 v131:=Tryz.zeroValue263
 t182:=Tryz.underlying298
 a182:=Tryz.isAgg298
 z182:=Tryz.sizeOf298
 v182:=Tryz.zeroValue298
 t183:=Tryz.underlying299
 a183:=Tryz.isAgg299
 z183:=Tryz.sizeOf299
 v183:=Tryz.zeroValue299
 t218:=Tryz.underlying341
 a218:=Tryz.isAgg341
 z218:=Tryz.sizeOf341
 v218:=Tryz.zeroValue341
 t222:=Tryz.underlying344
 a222:=Tryz.isAgg344
 z222:=Tryz.sizeOf344
 v222:=Tryz.zeroValue344
 t228:=Tryz.underlying363
 a228:=Tryz.isAgg363
 z228:=Tryz.sizeOf363
 v228:=Tryz.zeroValue363
 t229:=Tryz.underlying320
 a229:=Tryz.isAgg320
 z229:=Tryz.sizeOf320
 v229:=Tryz.zeroValue320 }
def qJb:Go.Shelf.Ren:=⟨fun | 20=>159 |n=>n,fun | 22=>119 | 3=>3 | 4=>4 | 0=>0 |n=>n,fun |n=>n⟩
theorem jJI:Go.Proofs.Lays2.n20 Tryz.prog qJb:={
 mixed:=by rfl
 f20:=Tryz.func159.trans (congrArg some (by rfl))
 t0:=Tryz.underlying0
 a0:=Tryz.isAgg0
 z0:=Tryz.sizeOf0
 v0:=Tryz.zeroValue0
 t3:=Tryz.underlying3
 a3:=Tryz.isAgg3
 z3:=Tryz.sizeOf3
 v3:=Tryz.zeroValue3
 t4:=Tryz.underlying4
 a4:=Tryz.isAgg4
 z4:=Tryz.sizeOf4
 v4:=Tryz.zeroValue4
 t22:=Tryz.underlying119
 a22:=Tryz.isAgg119
 z22:=Tryz.sizeOf119
 v22:=Tryz.zeroValue119
 i3:=by kernel_rfl }
def qZ5:Go.Shelf.Ren:=⟨fun | 25=>376 | 31=>233 | 32=>377 | 37=>298 |n=>n,fun | 22=>119 | 3=>3 | 4=>4 | 40=>37 | 0=>0 |n=>n,fun |n=>n⟩
theorem jZO:Go.Proofs.Lays2.n25 Tryz.prog qZ5:={
 mixed:=by rfl
 f25:=Tryz.func376.trans (congrArg some (by rfl))
 f31:=Tryz.func233.trans (congrArg some (by rfl))
 f32:=Tryz.func377.trans (congrArg some (by rfl))
 f37:=Tryz.func298.trans (congrArg some (by rfl))
 t0:=Tryz.underlying0
 a0:=Tryz.isAgg0
 z0:=Tryz.sizeOf0
 v0:=Tryz.zeroValue0
 t3:=Tryz.underlying3
 a3:=Tryz.isAgg3
 z3:=Tryz.sizeOf3
 v3:=Tryz.zeroValue3
 t4:=Tryz.underlying4
 a4:=Tryz.isAgg4
 z4:=Tryz.sizeOf4
 v4:=Tryz.zeroValue4
 t22:=Tryz.underlying119
 a22:=Tryz.isAgg119
 z22:=Tryz.sizeOf119
 v22:=Tryz.zeroValue119
 t40:=Tryz.underlying37
 a40:=Tryz.isAgg37
 z40:=Tryz.sizeOf37
 v40:=Tryz.zeroValue37 }
theorem qg2:Builder.Extra Tryz.prog U1:={ sizeBuilder:=by kernel_rfl,liesBuilder:=by kernel_rfl,t5:=Tryz.underlying5,a5:=Tryz.isAgg5,z5:=Tryz.sizeOf5,v5:=Tryz.zeroValue5,infoByte:=by kernel_rfl,cellsByte:=by kernel_rfl,sizeByte:=by kernel_rfl,neB5:=by decide }
noncomputable def W137:WF:=Fm
theorem jJ0:pB Tryz.prog 137 W137:=qvC λbk o c xs sep w h1 h2 h3 h4 h5=>Any.strings_Join jZu qg2 bk o c xs sep w h1 h2 h3 h4 h5
noncomputable def W239:WF:=Fk
theorem jZb:pB Tryz.prog 239 W239:=jX9 (iK ..) λu w h1 h2 h3=>Any.internal_strconv_numDigits jZC u h1 h2 w h3
noncomputable def W240:WF:=Fl
theorem jJO:pB Tryz.prog 240 W240:=jKF λbp off cap u d w h1 h2 h3 h4=>Any.internal_strconv_formatBase10 jZ7 bp off cap u d w h1 h2 h3 h4
noncomputable def W158:WF:=Fp
theorem jQP:pB Tryz.prog 158 W158:=qgf λbp off cap zs w h1 h2 h3=>Any.slices_Sort_int qya bp off cap zs w h1 h2 h3
noncomputable def W159:WF:=Fq 3
theorem jZr:pB Tryz.prog 159 W159:=qge (by kernel_rfl) λbp off cap zs w h1 h2 h3=>Any.slices_Compact_int jJI bp off cap zs w h1 h2 h3
noncomputable def W376:WF:=Fs
theorem jZp:pB Tryz.prog 376 W376:=qva λb off n c zs x w h1 h2 h3 h4=>Any.slices_BinarySearch_int jZO b off n c zs x w h1 h2 h3 h4
end Go.Proofs.YtolpbdncppeohaaGreatDoor
