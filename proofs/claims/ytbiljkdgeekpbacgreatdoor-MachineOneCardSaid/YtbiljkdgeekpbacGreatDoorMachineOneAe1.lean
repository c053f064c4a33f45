/- The abstract executor of the program's form in Lean, shown sound: values, heaps, operations, code: plain definitions. -/
import Derived.CallsIn
import Derived.OrdersIn
import Derived.Eval
import Derived.RangeFuncIn
import Derived.RangeFuncLeaves
import Derived.Still
import Derived.Lib.ItoaNum
theorem Go.Ae.osQ {P : Prop} (h : P :=by simp) : P :=h
theorem Go.Ae.od {P : Prop} (h : P :=by decide) : P :=h
theorem Go.Ae.omQ {P : Prop} (h : P :=by omega) : P :=h
namespace Go.Ae
noncomputable section
def gtab : List (String × IntKind × List Int) := [("internal/strconv.uint64pow10", IntKind.u64, Lib.pow10Tab)]
inductive PT (α:Type) where
  |e
  |n (l:PT α) (v:Option α) (r:PT α)
def PT.get {α:Type} (t:PT α) (i:Nat):Option α :=
 PT.rec (motive:=λ_=>Nat→Option α) (λ_=>none)
  (λ_ v _ l r i=>Bool.rec (motive:=λ_=>Option α) (Bool.rec (motive:=λ_=>Option α) (r (Nat.sub (Nat.div i 2) 1)) (l (Nat.div i 2)) (Nat.beq (Nat.mod i 2) 1)) v (Nat.beq i 0)) t i
def PT.setF {α:Type} (f:Nat) (t:PT α) (i:Nat) (x:α):PT α :=
 Nat.rec (motive:=λ_=>PT α→Nat→PT α) (λ_ _=>.e)
  (λ_ ih t i=>PT.rec (motive:=λ_=>PT α)
   (Bool.rec (motive:=λ_=>PT α) (Bool.rec (motive:=λ_=>PT α) (.n .e none (ih .e (Nat.sub (Nat.div i 2) 1))) (.n (ih .e (Nat.div i 2)) none .e) (Nat.beq (Nat.mod i 2) 1)) (.n .e (some x) .e) (Nat.beq i 0))
   (λl v r _ _=>Bool.rec (motive:=λ_=>PT α) (Bool.rec (motive:=λ_=>PT α) (.n l v (ih r (Nat.sub (Nat.div i 2) 1))) (.n (ih l (Nat.div i 2)) v r) (Nat.beq (Nat.mod i 2) 1)) (.n l (some x) r) (Nat.beq i 0)) t) f t i
def PT.set {α:Type} (t:PT α) (i:Nat) (x:α):PT α:=PT.setF (i+1) t i x
def PT.kid {α:Type} (i m:Nat) (t:PT α):PT α:=PT.rec (motive:=λ_=>PT α) .e (λl _ r _ _=>Bool.rec (motive:=λ_=>PT α) r l (Nat.beq (Nat.land i m) 0)) t
def PT.leaf {α:Type} (t:PT α):Option α:=PT.rec (motive:=λ_=>Option α) none (λ_ v _ _ _=>v) t
def PT.sub {α:Type} (i m:Nat) (f:PT α→PT α) (t:PT α):PT α :=
 PT.rec (motive:=λ_=>PT α) (Bool.rec (motive:=λ_=>PT α) (.n .e none (f .e)) (.n (f .e) none .e) (Nat.beq (Nat.land i m) 0))
  (λl v r _ _=>Bool.rec (motive:=λ_=>PT α) (.n l v (f r)) (.n (f l) v r) (Nat.beq (Nat.land i m) 0)) t
def PT.mark {α:Type} (x:α) (t:PT α):PT α:=PT.rec (motive:=λ_=>PT α) (.n .e (some x) .e) (λl _ r _ _=>.n l (some x) r) t
def PT.get12 {α:Type} (t:PT α) (i:Nat):Option α:=PT.leaf (PT.kid i 1 (PT.kid i 2 (PT.kid i 4 (PT.kid i 8 (PT.kid i 16 (PT.kid i 32 (PT.kid i 64 (PT.kid i 128 (PT.kid i 256 (PT.kid i 512 (PT.kid i 1024 (PT.kid i 2048 (t)))))))))))))
def PT.set12 {α:Type} (t:PT α) (i:Nat) (x:α):PT α:=PT.sub i 2048 (PT.sub i 1024 (PT.sub i 512 (PT.sub i 256 (PT.sub i 128 (PT.sub i 64 (PT.sub i 32 (PT.sub i 16 (PT.sub i 8 (PT.sub i 4 (PT.sub i 2 (PT.sub i 1 (PT.mark x)))))))))))) t
abbrev Trie (α:Type):=PT (PT α)
def Trie.get {α:Type} (t:Trie α) (i:Nat):Option α:=Option.rec (motive:=λ_=>Option α) none (λs=>PT.get12 s i) (PT.get t (Nat.div i 4096))
def Trie.set {α:Type} (t:Trie α) (i:Nat) (x:α):Trie α:=PT.set t (Nat.div i 4096) (PT.set12 (Option.rec (motive:=λ_=>PT α) .e (λs=>s) (PT.get t (Nat.div i 4096))) i x)
inductive AV where
  |bool (b:Bool)
  |int (k:IntKind) (n:Int)
  |str (s:List UInt8)
  |ptr (b off:Nat)
  |nilp
  /--opn: the room is that of the block,less 'cap' elements ahead;else the room is 'cap'-/
  |slice (b off len cap:Nat) (opn:Bool)
  |nils
  |fn (f:FuncId) (first cap:List AV)
  |yield (l:Nat)
  |nilf
  |iface (t:TypeId) (v:AV)
  |nili
  |agg (l:List AV)
  |tup (l:List AV)
  /--an empty slice without room,wherever it points-/
  |empt (a:Addr)
  /--an empty slice behind all that an open block's slice shows: where it points hangs on the room-/
  |tail (b off off' i1:Nat)
  /--a map of the walk's own-/
  |mapv (b:Nat)
  deriving Inhabited
def AV.undef:AV:=.tup []
def AV.cells:AV→List AV
 | .agg l=>l
 |v=>[v]
def AV.one:AV→Bool
 | .agg _=>false
 | .tup _=>false
 |_=>true
def kz {α:Type} (l:List α) (i:Nat):Option α :=
 List.rec (motive:=λ_=>Nat→Option α) (λ_=>none) (λa _ ih i=>Bool.rec (motive:=λ_=>Option α) (ih (Nat.sub i 1)) (some a) (Nat.beq i 0)) l i
def yt {α:Type} (n:Nat) (l:List α):Option (List α) :=
 Nat.rec (motive:=λ_=>List α→Option (List α)) (λ_=>some [])
  (λ_ ih l=>List.rec (motive:=λ_=>Option (List α)) none (λa r _=>Option.rec (motive:=λ_=>Option (List α)) none (λs=>some (a::s)) (ih r)) l) n l
def vy {α:Type} (n:Nat) (l:List α):List α :=
 Nat.rec (motive:=λ_=>List α→List α) (λl=>l) (λ_ ih l=>List.rec (motive:=λ_=>List α) [] (λ_ r _=>ih r) l) n l
def Mx {α:Type} (l xs:List α):Option (List α) :=
 List.rec (motive:=λ_=>List α→Option (List α)) (λl=>some l)
  (λx _ ih l=>List.rec (motive:=λ_=>Option (List α)) none (λ_ l _=>Option.rec (motive:=λ_=>Option (List α)) none (λs=>some (x::s)) (ih l)) l) xs l
def QO {α:Type} (l:List α) (off:Nat) (xs:List α):Option (List α) :=
 Nat.rec (motive:=λ_=>List α→Option (List α)) (λl=>Mx l xs)
  (λ_ ih l=>List.rec (motive:=λ_=>Option (List α)) none (λa l _=>Option.rec (motive:=λ_=>Option (List α)) none (λs=>some (a::s)) (ih l)) l) off l
def vE {α:Type} (l:List α):Nat→List α
 | 0=>[]
 |n+1=>l++vE l n
inductive CT where
  |lst (xs:List AV)
  |tree (n:Nat) (z:List AV) (tr:Trie AV)
def Qh (z:List AV) (t:Trie AV) (i:Nat):Option AV:=Option.rec (motive:=λ_=>Option AV) (kz z (Nat.mod i z.length)) (λv=>some v) (Trie.get t i)
def wq (z:List AV) (t:Trie AV) (i:Nat):AV:=match Qh z t i with |some v=>v |none=>.undef
def qQu (t:Trie AV) (i:Nat) (xs:List AV):Trie AV :=
 List.rec (motive:=λ_=>Trie AV→Nat→Trie AV) (λt _=>t) (λx _ ih t i=>ih (Trie.set t i x) (Nat.succ i)) xs t i
def JH (z:List AV) (t:Trie AV) (i n:Nat):Option (List AV) :=
 Nat.rec (motive:=λ_=>Nat→Option (List AV)) (λ_=>some [])
  (λ_ ih i=>Option.rec (motive:=λ_=>Option (List AV)) none (λv=>Option.rec (motive:=λ_=>Option (List AV)) none (λs=>some (v::s)) (ih (Nat.succ i))) (Qh z t i)) n i
def CT.toList:CT→List AV
 | .lst xs=>xs
 | .tree n z tr=>(List.range n).map (wq z tr)
def CT.len:CT→Nat
 | .lst xs=>xs.length
 | .tree n _ _=>n
def CT.get1 (c:CT) (i:Nat):Option AV:=match c with
 | .lst xs=>kz xs i
 | .tree n z tr=>bif Nat.ble (i+1) n then Qh z tr i else none
def CT.readN (c:CT) (off n:Nat):Option (List AV):=match c with
 | .lst xs=>yt n (vy off xs)
 | .tree m z tr=>bif Nat.beq n 0 then some []else bif Nat.ble (off+n) m then JH z tr off n else none
def CT.write (c:CT) (off:Nat) (xs:List AV):Option CT:=match c with
 | .lst ys=>(QO ys off xs).bind λs=>some (.lst s)
 | .tree n z tr=>bif Nat.ble (off+xs.length) n then some (.tree n z (qQu tr off xs))else none
def CT.ofList (xs:List AV):CT:=bif Nat.ble xs.length 16 then .lst xs else .tree xs.length [] (qQu .e 0 xs)
def CT.rep (z:List AV) (n:Nat):CT:=bif Nat.ble (z.length*n) 16 then .lst (vE z n)else .tree (z.length*n) z .e
def CT.app (c:CT) (xs:List AV):CT:=match c with
 | .lst ys=>CT.ofList (ys++xs)
 | .tree n z tr=>.tree (n+xs.length) z (qQu tr n xs)
def CT.pre (c:CT) (n:Nat):Option CT:=match c with
 | .lst ys=>(yt n ys).bind λs=>some (.lst s)
 | .tree m z tr=>bif Nat.ble n m then some (.tree n z tr)else none
def CT.seg (c:CT) (off n:Nat):Option CT:=bif Nat.beq off 0 then c.pre n else(c.readN off n).bind λl=>some (CT.ofList l)
inductive AX where
  |normal
  |exit (id:Nat)
  |goto (l:Nat)
  |ret
inductive Blk where
  |cells (c:CT) (elem:TypeId) (opn:Bool)
  |dead
  |iter (s:List UInt8) (pos:Nat)
  |loop (st:LoopState) (pend:Option AX) (fn:Nat) (pos L:List Nat) (vs:List AV) (d:Nat)
  |dfd
  |took
  /--cells that are the caller's: some are known,none is written-/
  |inp (t:Trie AV)
  /--a map of numbers to numbers: key,value,when it came;the clock-/
  |mp (l:List (Int×Int×Nat)) (clk:Nat)
structure AH where
  nx:Nat
  rc:List (Nat×Blk)
  t:Trie Blk
def Ug (l:List (Nat×Blk)) (b:Nat) (d:Option Blk):Option Blk:=List.rec (motive:=λ_=>Option Blk) d (λp _ ih=>Bool.rec (motive:=λ_=>Option Blk) ih (some p.2) (Nat.beq p.1 b)) l
def Nf (n:Nat) (l:List (Nat×Blk)):List (Nat×Blk) :=
 Nat.rec (motive:=λ_=>List (Nat×Blk)→List (Nat×Blk)) (λ_=>[]) (λ_ ih l=>List.rec (motive:=λ_=>List (Nat×Blk)) [] (λp r _=>p::ih r) l) n l
def Oj (l:List (Nat×Blk)) (t:Trie Blk):Trie Blk:=List.rec (motive:=λ_=>Trie Blk) t (λp _ ih=>Trie.set ih p.1 p.2) l
def AH.get (h:AH) (b:Nat):Option Blk:=Ug h.rc b (Trie.get h.t b)
def AH.put (h:AH) (b:Nat) (x:Blk):AH:=⟨h.nx,(b,x)::Nf 5 h.rc,Oj (vy 5 h.rc) h.t⟩
def AH.new (h:AH) (x:Blk):AH:=⟨Nat.succ h.nx,(h.nx,x)::Nf 5 h.rc,Oj (vy 5 h.rc) h.t⟩
def KM:Value→Option AV
 | .bool b=>some (.bool b)
 | .int k n=>some (.int k n)
 | .string s=>some (.str s.data.toList)
 | .pointer none=>some .nilp
 | .slice none 0 0=>some .nils
 | .nilFunc=>some .nilf
 | .nilIface=>some .nili
 |_=>none
def wV {α β:Type} (f:α→Option β):List α→Option (List β)
 |[]=>some []
 |a::r=>(f a).bind λb=>(wV f r).bind λs=>some (b::s)
def qJI:Value→Option AV
 | .agg cs=>(wV KM cs.toList).map .agg
 | .tuple cs=>(wV KM cs.toList).map .tup
 | .func (.func f) first cap=>bif first.isEmpty&&cap.isEmpty then some (.fn f [] [])else none
 |v=>KM v
def ev (tm:PT AV):Operand→Option AV
 | .tmp t=>tm.get t
 | .const v=>qJI v
 | .global _=>none
 | .func f=>some (.fn f [] [])
def yv (h:AH) (b off n:Nat):Option (List AV) :=
 match h.get b with
 |some (.cells c _ _)=>c.readN off n
 |some (.inp t)=>JH [] t off n
 |_=>none
def qp (l:List AV):Bool:=l.all AV.one
def gV (h:AH) (b off:Nat) (xs:List AV):Option AH :=
 match h.get b with
 |some (.cells c e o)=>bif qp xs then(c.write off xs).bind λc'=>some (h.put b (.cells c' e o))else none
 |_=>none
def cellsOf? (P:Program) (t:TypeId):Option Nat:=(P.info? t).map (·.size)
def zero? (P:Program) (t:TypeId):Option AV:=(P.info? t).bind λi=>i.zero.bind qJI
def agg? (P:Program) (t:TypeId):Option Bool:=(P.underlying t).map fun | .struct _=>true | .array _ _=>true |_=>false
def kj (P:Program) (t:TypeId):Option (Option Nat):=(agg? P t).bind λa=>bif a then(cellsOf? P t).map some else some none
def yM:List AV→List (Nat×Nat×AV)→Option (List AV)
 |cs,[]=>some cs
 |cs,(o,n,v)::r=>bif Nat.beq v.cells.length n then(QO cs o v.cells).bind λcs'=>yM cs' r else none
def zN (k:IntKind) (n:Int):Int :=
 match k,n with
 | .i64,.ofNat a=>bif Nat.ble a 9223372036854775807 then .ofNat a else IntKind.wrap .i64 (.ofNat a)
 | .i64,.negSucc a=>bif Nat.ble a 9223372036854775807 then .negSucc a else IntKind.wrap .i64 (.negSucc a)
 | .u64,.ofNat a=>.ofNat (a%18446744073709551616)
 | .u64,.negSucc a=>.ofNat (18446744073709551615-a%18446744073709551616)
 | .u8,.ofNat a=>.ofNat (a%256)
 |k,n=>IntKind.wrap k n
def ieq:Int→Int→Bool
 | .ofNat a,.ofNat b=>Nat.beq a b
 | .negSucc a,.negSucc b=>Nat.beq a b
 |_,_=>false
def ilt:Int→Int→Bool
 | .ofNat a,.ofNat b=>Nat.ble (a+1) b
 | .ofNat _,.negSucc _=>false
 | .negSucc _,.ofNat _=>true
 | .negSucc a,.negSucc b=>Nat.ble (b+1) a
def Qa (op:BinOp) (k:IntKind) (x y:Int):Option AV :=
 match op with
 | .add=>some (.int k (zN k (x+y)))
 | .sub=>some (.int k (zN k (x-y)))
 | .mul=>some (.int k (zN k (x*y)))
 | .quo=>bif ieq y 0 then none else some (.int k (zN k (x.tdiv y)))
 | .rem=>bif ieq y 0 then none else some (.int k (x.tmod y))
 | .and=>some (.int k (k.wrap (BitVec.ofInt k.bits x&&&BitVec.ofInt k.bits y).toNat))
 | .or=>some (.int k (k.wrap (BitVec.ofInt k.bits x|||BitVec.ofInt k.bits y).toNat))
 | .xor=>some (.int k (k.wrap (BitVec.ofInt k.bits x ^^^ BitVec.ofInt k.bits y).toNat))
 | .andNot=>some (.int k (k.wrap (BitVec.ofInt k.bits x&&& ~~~ BitVec.ofInt k.bits y).toNat))
 | .eql=>some (.bool (ieq x y))
 | .neq=>some (.bool (!ieq x y))
 | .lss=>some (.bool (ilt x y))
 | .leq=>some (.bool (!ilt y x))
 | .gtr=>some (.bool (ilt y x))
 | .geq=>some (.bool (!ilt x y))
 | .shl | .shr=>none
def O6 (op:BinOp) (k:IntKind) (x y:Int):Option AV :=
 bif ilt y 0 then none else
 match op with
 | .shl=>some (.int k (zN k (x*2 ^ (min y.toNat k.bits))))
 | .shr=>some (.int k (x.fdiv (2 ^ (min y.toNat k.bits))))
 |_=>none
def seq?:List UInt8→List UInt8→Bool
 |[],[]=>true
 |a::x,b::y=>a==b&&seq? x y
 |_,_=>false
def qQe (op:BinOp) (x y:List UInt8):Option AV :=
 match op with
 | .add=>bif Nat.ble (x.length+y.length) 1073741824 then some (.str (x++y))else none
 | .eql=>some (.bool (seq? x y))
 | .neq=>some (.bool (!seq? x y))
 | .lss=>some (.bool (Op.bytesLess x y))
 | .leq=>some (.bool (Op.bytesLess x y||seq? x y))
 | .gtr=>some (.bool (!(Op.bytesLess x y||seq? x y)))
 | .geq=>some (.bool (!Op.bytesLess x y))
 |_=>none
inductive EK where
  |bool |int |str |ptr |slc |fn |ifc
def Up:TypeDesc→Option EK
 | .bool=>some .bool
 | .int _=>some .int
 | .string=>some .str
 | .pointer _=>some .ptr
 | .slice _=>some .slc
 | .func _ _ _=>some .fn
 | .interface _=>some .ifc
 |_=>none
def X6 (d:EK) (x y:AV):Option Bool :=
 match d,x,y with
 | .bool,.bool a,.bool b=>some (a==b)
 | .int,.int k a,.int k' b=>bif k==k' then some (ieq a b)else none
 | .str,.str a,.str b=>some (seq? a b)
 | .ptr,.nilp,.nilp=>some true
 | .ptr,.nilp,.ptr _ _=>some false
 | .ptr,.ptr _ _,.nilp=>some false
 | .slc,.nils,.nils=>some true
 | .slc,.nils,.slice ..=>some false
 | .slc,.slice ..,.nils=>some false
 | .fn,.nilf,.nilf=>some true
 | .fn,.nilf,.fn ..=>some false
 | .fn,.fn ..,.nilf=>some false
 | .ifc,.nili,.iface _ _=>some false
 | .ifc,.iface _ _,.nili=>some false
 |_,_,_=>none
inductive ES where
  |bas (k:EK) (o:Nat)
  |len (n:Nat)
def xO:List ES→List AV→List AV→Option Bool
 |[],_,_=>some true
 | .bas d o::r,xs,ys=>(kz xs o).bind λx=>(kz ys o).bind λy=>(X6 d x y).bind λe=>bif e then xO r xs ys else some false
 | .len n::r,xs,ys=>bif Nat.ble n xs.length&&Nat.ble n ys.length then xO r xs ys else none
def JP (n:Nat):List ES→Bool
 |[]=>true
 | .bas _ o::r=>Nat.ble (o+1) n&&JP n r
 | .len m::r=>Nat.ble m n&&JP n r
def GQ (c:Nat):List ES→List ES
 |[]=>[]
 | .bas k o::r=>.bas k (c+o)::GQ c r
 | .len m::r=>.len (c+m)::GQ c r
def YQ (P:Program) (nest:List Field→Option (List ES)):List Field→Option (List ES)
 |[]=>some []
 | f :: r => bif f.name == "_" then none else (P.underlying f.type).bind fun u => match u with
  | .struct fs=>(cellsOf? P f.type).bind λn=>bif P.stoodInHeld f.type then none else(nest fs.toList).bind λl1=>bif JP n l1 then(YQ P nest r).map λl2=>.len (f.offset+n)::(GQ f.offset l1++l2)else none
  |u=>(Up u).bind λk=>match k with
   | .ifc=>none
   |k=>(YQ P nest r).map λl=>.bas k f.offset::l
def vF (P:Program):Nat→List Field→Option (List ES)
 | 0,_=>none
 |d+1,fs=>YQ P (vF P d) fs
abbrev R:=Option (AV×AH)
abbrev CV:=AV→List AV→AH→R
abbrev ob {α:Type} (x:Option α) (k:α→R):R:=match x with |some a=>k a |none=>none
abbrev cnd (b:Bool) (x y:R):R:=match b with |true=>x |false=>y
def yB {α:Type} (j:α) (f:α→R):R:=f j
def YU {σ:Type} (N:Nat) (f:(σ→AH→List Nat→R)→σ→AH→List Nat→R):σ→AH→List Nat→R :=
 Nat.rec (motive:=λ_=>σ→AH→List Nat→R) (λ_ _ _=>none) (λ_ ih=>f ih) N
def AV.asBool (v:AV) (f:Bool→R) (d:R):R :=
 AV.rec (motive_1:=λ_=>R) (motive_2:=λ_=>PUnit) (λx0=>f x0) (λ_ _=>d) (λ_=>d) (λ_ _=>d) d (λ_ _ _ _ _=>d) d (λ_ _ _ _ _=>d) (λ_=>d) d (λ_ _ _=>d) d (λ_ _=>d) (λ_ _=>d) (λ_=>d) (λ_ _ _ _=>d) (λ_=>d) ⟨⟩ (λ_ _ _ _=>⟨⟩) v
def AV.asInt (v:AV) (f:IntKind→Int→R) (d:R):R :=
 AV.rec (motive_1:=λ_=>R) (motive_2:=λ_=>PUnit) (λ_=>d) (λx0 x1=>f x0 x1) (λ_=>d) (λ_ _=>d) d (λ_ _ _ _ _=>d) d (λ_ _ _ _ _=>d) (λ_=>d) d (λ_ _ _=>d) d (λ_ _=>d) (λ_ _=>d) (λ_=>d) (λ_ _ _ _=>d) (λ_=>d) ⟨⟩ (λ_ _ _ _=>⟨⟩) v
def AV.asPtr (v:AV) (f:Nat→Nat→R) (d:R):R :=
 AV.rec (motive_1:=λ_=>R) (motive_2:=λ_=>PUnit) (λ_=>d) (λ_ _=>d) (λ_=>d) (λx0 x1=>f x0 x1) d (λ_ _ _ _ _=>d) d (λ_ _ _ _ _=>d) (λ_=>d) d (λ_ _ _=>d) d (λ_ _=>d) (λ_ _=>d) (λ_=>d) (λ_ _ _ _=>d) (λ_=>d) ⟨⟩ (λ_ _ _ _=>⟨⟩) v
def AV.asSlice (v:AV) (f:Nat→Nat→Nat→Nat→Bool→R) (d:R):R :=
 AV.rec (motive_1:=λ_=>R) (motive_2:=λ_=>PUnit) (λ_=>d) (λ_ _=>d) (λ_=>d) (λ_ _=>d) d (λx0 x1 x2 x3 x4=>f x0 x1 x2 x3 x4) d (λ_ _ _ _ _=>d) (λ_=>d) d (λ_ _ _=>d) d (λ_ _=>d) (λ_ _=>d) (λ_=>d) (λ_ _ _ _=>d) (λ_=>d) ⟨⟩ (λ_ _ _ _=>⟨⟩) v
def AV.asAgg (v:AV) (f:List AV→R) (d:R):R :=
 AV.rec (motive_1:=λ_=>R) (motive_2:=λ_=>PUnit) (λ_=>d) (λ_ _=>d) (λ_=>d) (λ_ _=>d) d (λ_ _ _ _ _=>d) d (λ_ _ _ _ _=>d) (λ_=>d) d (λ_ _ _=>d) d (λx0 _=>f x0) (λ_ _=>d) (λ_=>d) (λ_ _ _ _=>d) (λ_=>d) ⟨⟩ (λ_ _ _ _=>⟨⟩) v
def AV.asTup (v:AV) (f:List AV→R) (d:R):R :=
 AV.rec (motive_1:=λ_=>R) (motive_2:=λ_=>PUnit) (λ_=>d) (λ_ _=>d) (λ_=>d) (λ_ _=>d) d (λ_ _ _ _ _=>d) d (λ_ _ _ _ _=>d) (λ_=>d) d (λ_ _ _=>d) d (λ_ _=>d) (λx0 _=>f x0) (λ_=>d) (λ_ _ _ _=>d) (λ_=>d) ⟨⟩ (λ_ _ _ _=>⟨⟩) v
def kn (k:IntKind):Nat:=IntKind.rec (motive:=λ_=>Nat) 0 1 2 3 4 5 6 7 k
def keq (a b:IntKind):Bool:=Nat.beq (kn a) (kn b)
def beqF (t w:Bool):Bool:=Bool.rec (motive:=λ_=>Bool) (Bool.rec (motive:=λ_=>Bool) true false w) (Bool.rec (motive:=λ_=>Bool) false true w) t
def iadd (x y:Int):Int:=Int.rec (motive:=λ_=>Int) (λa=>Int.rec (motive:=λ_=>Int) (λb=>.ofNat (Nat.add a b)) (λb=>Int.add (.ofNat a) (.negSucc b)) y) (λa=>Int.add (.negSucc a) y) x
def isub (x y:Int):Int:=Int.rec (motive:=λ_=>Int) (λa=>Int.rec (motive:=λ_=>Int) (λb=>Bool.rec (motive:=λ_=>Int) (.negSucc (Nat.sub (Nat.sub b a) 1)) (.ofNat (Nat.sub a b)) (Nat.ble b a)) (λb=>Int.sub (.ofNat a) (.negSucc b)) y) (λa=>Int.sub (.negSucc a) y) x
def Of (x y:Int):Bool:=Int.rec (motive:=λ_=>Bool) (λa=>Int.rec (motive:=λ_=>Bool) (λb=>Nat.ble (Nat.succ a) b) (λ_=>false) y) (λa=>Int.rec (motive:=λ_=>Bool) (λ_=>true) (λb=>Nat.ble (Nat.succ b) a) y) x
def qkM (x y:Int):Bool:=Int.rec (motive:=λ_=>Bool) (λa=>Int.rec (motive:=λ_=>Bool) (λb=>Nat.beq a b) (λ_=>false) y) (λa=>Int.rec (motive:=λ_=>Bool) (λ_=>false) (λb=>Nat.beq a b) y) x
def qKc (b:Bool):Bool:=Bool.rec (motive:=λ_=>Bool) true false b
def qJn (k:IntKind) (n:Int) (f:Int→R):R :=
 IntKind.rec (motive:=λ_=>R) (f (zN .i8 n)) (f (zN .i16 n)) (f (zN .i32 n))
  (Int.rec (motive:=λ_=>R) (λa=>Bool.rec (motive:=λ_=>R) (f (zN .i64 (.ofNat a))) (f (.ofNat a)) (Nat.ble a 9223372036854775807)) (λa=>f (zN .i64 (.negSucc a))) n)
  (f (zN .u8 n)) (f (zN .u16 n)) (f (zN .u32 n))
  (Int.rec (motive:=λ_=>R) (λa=>Bool.rec (motive:=λ_=>R) (f (zN .u64 (.ofNat a))) (f (.ofNat a)) (Nat.ble a 18446744073709551615)) (λa=>f (zN .u64 (.negSucc a))) n) k
def qzc (op:BinOp) (k:IntKind) (x y:Int) (f:AV→R):R :=
 BinOp.rec (motive:=λ_=>R) (qJn k (iadd x y) λn=>f (.int k n)) (qJn k (isub x y) λn=>f (.int k n)) (ob (Qa .mul k x y) f)
  (ob (Qa .quo k x y) f) (ob (Qa .rem k x y) f) (ob (Qa .and k x y) f) (ob (Qa .or k x y) f) (ob (Qa .xor k x y) f) (ob (Qa .shl k x y) f) (ob (Qa .shr k x y) f) (ob (Qa .andNot k x y) f)
  (f (.bool (qkM x y))) (f (.bool (qKc (qkM x y)))) (f (.bool (Of x y))) (f (.bool (qKc (Of y x)))) (f (.bool (Of y x))) (f (.bool (qKc (Of x y)))) op
def zt (v:AV) (a b:R):R:=v.asBool (λt=>Bool.rec (motive:=λ_=>R) b a t) none
def ke (v:AV) (w:Bool) (a b:R):R:=v.asBool (λt=>Bool.rec (motive:=λ_=>R) b a (beqF t w)) b
def ky (c a b:AV) (k:AV→R):R:=c.asBool (λt=>Bool.rec (motive:=λ_=>R) (k b) (k a) t) none
def xm (v:AV) (k:AV→R):R:=match v with | .ptr b o=>k (.ptr b o) | .fn f a c=>k (.fn f a c) | .yield l=>k (.yield l) |_=>none
def qt (v:AV) (off:Nat) (k:AV→R):R:=v.asPtr (λb o=>k (.ptr b (Nat.add o off))) none
def Yt (v:AV) (off:Nat) (k:AV→R):R:=v.asAgg (λcs=>Option.rec (motive:=λ_=>R) none k (kz cs off)) none
def Xr (v:AV) (off n:Nat) (k:AV→R):R:=match v with | .agg cs=>ob (yt n (vy off cs)) λl=>k (.agg l) |_=>none
def gF (v i:AV) (sz:Nat) (k:AV→R):R :=
 v.asSlice (λb off len _ _=>i.asInt (λ_ n=>Int.rec (motive:=λ_=>R) (λa=>Bool.rec (motive:=λ_=>R) none (k (.ptr b (Nat.add off (Nat.mul a sz)))) (Nat.ble (Nat.succ a) len)) (λ_=>none) n) none) none
def QC (v i:AV) (n sz:Nat) (k:AV→R):R:=match v,i with | .ptr b off,.int _ (.ofNat a)=>bif Nat.ble (a+1) n then k (.ptr b (off+a*sz))else none |_,_=>none
def XN (v i:AV) (n sz:Nat) (k:AV→R):R:=match v,i with | .agg cs,.int _ (.ofNat a)=>bif Nat.ble (a+1) n then ob (kz cs (a*sz)) k else none |_,_=>none
def XP (v i:AV) (n sz:Nat) (k:AV→R):R:=match v,i with | .agg cs,.int _ (.ofNat a)=>bif Nat.ble (a+1) n then ob (yt sz (vy (a*sz) cs)) λl=>k (.agg l)else none |_,_=>none
def gj (v i:AV) (k:AV→R):R:=match v,i with | .str s,.int _ (.ofNat a)=>ob (kz s a) λc=>k (.int .u8 (.ofNat c.toNat)) |_,_=>none
def jN (h:AH) (v:AV) (k:AV→R):R :=
 v.asPtr (λb off=>Option.rec (motive:=λ_=>R) none (λx=>Blk.rec (motive:=λ_=>R) (λc _ _=>Option.rec (motive:=λ_=>R) none k (c.get1 off)) none (λ_ _=>none) (λ_ _ _ _ _ _ _=>none) none none (λt=>Option.rec (motive:=λ_=>R) none k (Trie.get t off)) (λ_ _=>none) x) (h.get b)) none
def zO (h:AH) (v:AV) (n:Nat) (k:AV→R):R:=v.asPtr (λb off=>Option.rec (motive:=λ_=>R) none (λl=>k (.agg l)) (yv h b off n)) none
def jd (h:AH) (a x:AV) (n:Nat) (k:AH→R):R:=a.asPtr (λb off=>Bool.rec (motive:=λ_=>R) none (Option.rec (motive:=λ_=>R) none k (gV h b off x.cells)) (Nat.beq x.cells.length n)) none
def zG (op:BinOp) (x y:AV) (k:AV→R):R:=x.asInt (λk1 a=>y.asInt (λk2 b=>Bool.rec (motive:=λ_=>R) none (qzc op k1 a b k) (keq k1 k2)) none) none
def wM (op:BinOp) (x y:AV) (k:AV→R):R:=match x,y with | .int k1 a,.int _ b=>ob (O6 op k1 a b) k |_,_=>none
def MN (op:BinOp) (x y:AV) (k:AV→R):R:=match x,y with | .str a,.str b=>ob (qQe op a b) k |_,_=>none
def pEq (d:EK) (neg:Bool) (x y:AV) (k:AV→R):R:=ob (X6 d x y) λe=>k (.bool (e !=neg))
def G4 (l:List ES) (neg:Bool) (x y:AV) (k:AV→R):R:=match x,y with | .agg a,.agg b=>ob (xO l a b) λe=>k (.bool (e !=neg)) |_,_=>none
def pUn (op:UnOp) (x:AV) (k:AV→R):R :=
 match op,x with
 | .neg,.int d n=>k (.int d (zN d (0-n)))
 | .not,.bool b=>k (.bool (!b))
 | .xor,.int d n=>k (.int d (d.wrap (BitVec.ofInt d.bits (if d.signed then-1 else d.max) ^^^ BitVec.ofInt d.bits n).toNat))
 |_,_=>none
def vi (d:IntKind) (x:AV) (k:AV→R):R:=match x with | .int _ n=>k (.int d (zN d n)) |_=>none
def XC (x:AV) (k:AV→R):R:=match x with | .str s=>k (.str s) |_=>none
def Qn:List AV→Option (List UInt8)
 |[]=>some []
 | .int .u8 (.ofNat n)::r=>(Qn r).bind λs=>some (UInt8.ofNat n::s)
 |_=>none
def Vv (h:AH) (x:AV) (k:AV→R):R:=match x with | .nils=>k (.str []) | .slice b off len _ _=>ob (yv h b off len) λcs=>ob (Qn cs) λs=>k (.str s) |_=>none
def ZH (h:AH) (e:TypeId) (x:AV) (k:AV→AH→R):R:=match x with
 | .str s=>bif Nat.ble s.length 1073741824 then k (.slice h.nx 0 s.length 0 true) (h.new (.cells (CT.ofList (s.map λ(c:UInt8)=>.int .u8 (.ofNat c.toNat))) e true))else none
 |_=>none
def O9 (x:AV) (y:Nat):Option Nat:=match x with | .int _ (.ofNat a)=>bif Nat.ble a y then some a else none |_=>none
def yb (x:Option AV) (y dflt:Nat):Option Nat:=match x with |none=>some dflt |some v=>O9 v y
def gX (v:AV) (lo hi:Option AV) (k:AV→R):R:=match v with
 | .str s=>ob (yb hi s.length s.length) λh=>ob (yb lo h 0) λl=>ob (yt (h-l) (vy l s)) λt=>k (.str t)
 |_=>none
def yE (h:AH) (el:TypeId) (b off sz i0 len:Nat):Bool:=match h.get b with
 |some (.cells c e true)=>Nat.beq el e&&(Nat.ble 1 sz&&(Nat.beq off (i0*sz)&&Nat.ble (off+len*sz) c.len))
 |_=>false
def xY (h:AH) (el:TypeId) (sz:Nat) (v:AV) (lo hi:Option AV) (k:AV→R):R:=match v with
 | .slice b off len cap false=>ob (yb hi cap len) λu=>ob (yb lo u 0) λl=>k (.slice b (bif Nat.beq cap l then off else off+l*sz) (u-l) (cap-l) false)
 | .slice b off len i0 true=>bif yE h el b off sz i0 len then
   ob (yb hi len len) λu=>ob (yb lo u 0) λl=>bif Nat.beq l 0 then k (.slice b off u i0 true)else bif Nat.ble (l+1) len then k (.slice b (off+l*sz) (u-l) (i0+l) true)else k (.tail b off (off+l*sz) (i0+l))
  else none
 | .nils=>ob (yb hi 0 0) λ_=>ob (yb lo 0 0) λ_=>k .nils
 | .empt a=>ob (yb hi 0 0) λ_=>ob (yb lo 0 0) λ_=>k (.empt a)
 |_=>none
def gk (n sz:Nat) (v:AV) (lo hi:Option AV) (k:AV→R):R:=match v with
 | .ptr b off=>ob (yb hi n n) λh=>ob (yb lo h 0) λl=>k (.slice b (bif Nat.beq n l then off else off+l*sz) (h-l) (n-l) false)
 |_=>none
def x9 (t:TypeId) (z v:AV) (k:AV→R):R:=match v with
 | .iface u x=>bif Nat.beq u t then k (.tup [x,.bool true])else k (.tup [z,.bool false])
 | .nili=>k (.tup [z,.bool false])
 |_=>none
def ki (t:TypeId) (v:AV) (k:AV→R):R:=match v with | .iface u x=>bif Nat.beq u t then k x else none |_=>none
def z8 (v:AV) (i:Nat) (k:AV→R):R:=v.asTup (λl=>Option.rec (motive:=λ_=>R) none k (kz l i)) none
def kF (v:AV) (k:AV→R):R:=match v with | .slice _ _ len _ _=>k (.int .i64 (.ofNat len)) | .nils=>k (.int .i64 (.ofNat 0)) | .empt _=>k (.int .i64 (.ofNat 0)) | .tail _ _ _ _=>k (.int .i64 (.ofNat 0)) |_=>none
def Qu (v:AV) (k:AV→R):R:=match v with | .str s=>k (.int .i64 (.ofNat s.length)) |_=>none
def mm2 (mx:Bool):AV→AV→Option AV
 | .int k x,.int k' y=>bif k==k' then some (.int k (bif mx then(bif ilt x y then y else x)else(bif ilt y x then y else x)))else none
 |_,_=>none
def mmL (mx:Bool):AV→List AV→Option AV
 |a,[]=>some a
 |a,b::r=>(mm2 mx a b).bind λc=>mmL mx c r
def VU:AV→Bool | .int _ _=>true |_=>false
def pMM (mx:Bool) (l:List AV) (k:AV→R):R:=match l with |a::r=>bif VU a then ob (mmL mx a r) k else none |[]=>none
def gi (h:AH) (e:TypeId) (v:AV) (k:AV→AH→R):R:=bif qp v.cells then k (.ptr h.nx 0) (h.new (.cells (CT.ofList v.cells) e false))else none
def yg (z:List AV) (vs:List (Nat×Nat×AV)) (k:AV→R):R:=ob (yM z vs) λl=>k (.agg l)
def xX (h:AH) (e:TypeId) (z:List AV) (len:Nat) (vs:List (Nat×Nat×AV)) (k:AV→AH→R):R :=
 ob (yM (vE z len) vs) λcs=>bif qp cs then k (.slice h.nx 0 len len false) (h.new (.cells (CT.ofList cs) e false))else none
def Qv (h:AH) (e:TypeId) (z:List AV) (l c:AV) (k:AV→AH→R):R:=match l,c with
 | .int _ (.ofNat ln),.int _ (.ofNat cp)=>bif Nat.ble ln cp&&Nat.ble cp 1073741824 then k (.slice h.nx 0 ln cp false) (h.new (.cells (CT.rep z cp) e false))else none
 |_,_=>none
def wX (h:AH) (sz n:Nat):AV→Option (List AV)
 | .slice b off _ _ _=>yv h b off (n*sz)
 | .nils=>some []
 | .empt _=>bif Nat.beq n 0 then some []else none
 | .tail _ _ _ _=>bif Nat.beq n 0 then some []else none
 | .str s=>(yt n s).map (List.map λ(c:UInt8)=>AV.int .u8 (.ofNat c.toNat))
 |_=>none
def Qz:AV→Option Nat
 | .slice _ _ len _ _=>some len
 | .nils=>some 0
 | .empt _=>some 0
 | .tail _ _ _ _=>some 0
 | .str s=>some s.length
 |_=>none
def Mz (h:AH) (sz n:Nat):AV→Option CT
 | .slice b off _ _ _=>(match h.get b with
  |some (.cells c _ _)=>c.seg off (n*sz)
  |some (.inp t)=>(JH [] t off (n*sz)).bind λl=>some (CT.ofList l)
  |_=>none)
 | .nils=>some (.lst [])
 | .empt _=>bif Nat.beq n 0 then some (.lst [])else none
 | .tail _ _ _ _=>bif Nat.beq n 0 then some (.lst [])else none
 | .str s=>(yt n s).bind λl=>some (CT.ofList (l.map λ(c:UInt8)=>AV.int .u8 (.ofNat c.toNat)))
 |_=>none
def yc (h:AH) (e:TypeId) (sz:Nat) (s:AV) (n:Nat) (nc:CT) (k:AV→AH→R):R:=match s with
 | .nils=>bif Nat.beq n 0 then k .nils h else bif Nat.ble n 67108864 then k (.slice h.nx 0 n 0 true) (h.new (.cells nc e true))else none
 | .slice b off len cap false=>
  bif Nat.ble (len+n) cap then(bif Nat.beq n 0 then k (.slice b off len cap false) h else ob (gV h b (off+len*sz) nc.toList) λh'=>k (.slice b off (len+n) cap false) h')
  else bif Nat.ble (len+n) 67108864 then ob (yv h b off (len*sz)) λold=>k (.slice h.nx 0 (len+n) 0 true) (h.new (.cells (bif Nat.beq len 0 then nc else CT.ofList (old++nc.toList)) e true))
  else none
 | .slice b off len i0 true=>
  match h.get b with
  |some (.cells c e' true)=>
   bif Nat.ble 1 sz&&(Nat.beq off (i0*sz)&&(Nat.beq e e'&&Nat.ble (off+len*sz) c.len))then
    bif Nat.beq n 0 then k (.slice b off len i0 true) h else
    bif Nat.ble (off+(len+n)*sz) c.len then ob (gV h b (off+len*sz) nc.toList) λh'=>k (.slice b off (len+n) i0 true) h'
    else bif Nat.beq i0 0&&(Nat.ble (len+n) 67108864&&qp nc.toList)then
     ob (c.pre (len*sz)) λold=>k (.slice h.nx 0 (len+n) 0 true) ((h.put b .dead).new (.cells (old.app nc.toList) e true))
    else none
   else none
  |_=>none
 |_=>none
def xx (h:AH) (e:TypeId) (sz:Nat) (s x:AV) (k:AV→AH→R):R :=
 ob (Qz x) λn=>ob (Mz h sz n x) λnc=>bif Nat.beq nc.len (n*sz)then yc h e sz s n nc k else none
def Yc (h:AH) (sz:Nat) (d s:AV) (k:AV→AH→R):R :=
 ob (Qz s) λn=>ob (Qz d) λm=>ob (wX h sz (Nat.min n m) s) λcs=>match d with
  | .slice b off _ _ _=>bif Nat.beq (Nat.min n m) 0 then k (.int .i64 (.ofNat 0)) h else ob (gV h b off cs) λh'=>k (.int .i64 (.ofNat (Nat.min n m))) h'
  | .nils=>k (.int .i64 (.ofNat 0)) h
  |_=>none
def Xt (h:AH) (v:AV) (k:AV→AH→R):R:=match v with | .str s=>k (.ptr h.nx 0) (h.new (.iter s 0)) |_=>none
def kb (x:Int):List (Int×Int×Nat)→Nat→Option (Nat×Int×Nat)
 |[],_=>none
 |e::r,i=>bif ieq x e.1 then some (i,e.2)else kb x r (i+1)
def qVC (x:Int):List (Int×Int×Nat)→Nat→Option Nat
 |[],_=>none
 |e::r,i=>bif ieq (.ofNat e.2.2) x then some i else qVC x r (i+1)
def xB (y:Int):List (Int×Int×Nat)→Nat→List (Int×Int×Nat)
 |[],_=>[]
 |e::r,0=>(e.1,y,e.2.2)::r
 |e::r,i+1=>e::xB y r i
def Qj (h:AH) (k:AV→AH→R):R:=k (.mapv h.nx) (h.new (.mp [] 0))
def Uj (h:AH) (v:AV) (k:AV→R):R:=match v with
 | .mapv b=>(match h.get b with |some (.mp l _)=>k (.int .i64 (.ofNat l.length)) |_=>none)
 |_=>none
def Xd (h:AH) (v i:AV) (k:AV→R):R:=match v,i with
 | .mapv b,.int .i64 x=>(match h.get b with |some (.mp l _)=>(match kb x l 0 with |some e=>k (.int .i64 e.2.1) |none=>k (.int .i64 (.ofNat 0))) |_=>none)
 |_,_=>none
def Ku (h:AH) (v i:AV) (k:AV→AH→R):R:=match v,i with
 | .mapv b,.int .i64 x=>(match h.get b with
  |some (.mp l c)=>(match kb x l 0 with |some e=>k (.tup [.int .i64 e.2.1,.int .i64 (.ofNat e.2.2)]) h |none=>k (.tup [.int .i64 (.ofNat 0),.int .i64 (.ofNat c)]) (h.put b (.mp (l++[(x,.ofNat 0,c)]) (c+1))))
  |_=>none)
 |_,_=>none
def qQS (h:AH) (v s y:AV) (k:AH→R):R:=match v,s,y with
 | .mapv b,.int .i64 x,.int .i64 z=>(match h.get b with
  |some (.mp l c)=>(match qVC x l 0 with |some i=>k (h.put b (.mp (xB z l i) c)) |none=>none)
  |_=>none)
 |_,_,_=>none
def K9 (h:AH) (v i y:AV) (k:AH→R):R:=match v,i,y with
 | .mapv b,.int .i64 x,.int .i64 z=>(match h.get b with
  |some (.mp l c)=>(match kb x l 0 with |some e=>k (h.put b (.mp (xB z l e.1) c)) |none=>k (h.put b (.mp (l++[(x,z,c)]) (c+1))))
  |_=>none)
 |_,_,_=>none
def Uq (h:AH) (v i:AV) (k:AV→AH→R):R:=match v,i with
 | .mapv b,.int .i64 x=>(match h.get b with
  |some (.mp l c)=>(match kb x l 0 with |some e=>k (.tup []) (h.put b (.mp (l.eraseIdx e.1) c)) |none=>k (.tup []) (h.put b (.mp l c)))
  |_=>none)
 |_,_=>none
def qZT (P:Program) (t:TypeId):Bool:=match P.underlying t with
 |some (.map kt et)=>(match P.underlying kt,P.underlying et,zero? P et with |some (.int .i64),some (.int .i64),some (.int .i64 (.ofNat 0))=>true |_,_,_=>false)
 |_=>false
def K6 (h:AH) (v:AV) (k:AV→AH→R):R:=match v with
 | .ptr b 0=>(match h.get b with
  |some (.iter s pos)=>bif Nat.ble (pos+1) s.length then
    k (.tup [.bool true,.int .i64 (.ofNat pos),.int .i32 (Utf8.decode ⟨s.toArray⟩ pos).1]) (h.put b (.iter s (pos+(Utf8.decode ⟨s.toArray⟩ pos).2)))
   else k (.tup [.bool false]) h
  |_=>none)
 |_=>none
def zz (c:CV) (f:AV) (a:List AV) (h:AH) (k:AV→AH→R):R:=Option.rec (motive:=λ_=>R) none (λq=>k q.1 q.2) (c f a h)
def UV (l:List (Nat×Nat)) (t:Nat):Option Nat:=List.rec (motive:=λ_=>Option Nat) none (λp _ ih=>Bool.rec (motive:=λ_=>Option Nat) ih (some p.2) (Nat.beq p.1 t)) l
def yR (c:CV) (l:List (Nat×Nat)) (v:AV) (a:List AV) (h:AH) (k:AV→AH→R):R:=match v with
 | .iface t x=>Option.rec (motive:=λ_=>R) none (λf=>zz c (.fn f [] []) (x::a) h k) (UV l t)
 |_=>none
def Jr (c:CV) (f:AV) (a:List AV) (h:AH) (k:AV→AH→R):R:=match f with | .fn _ _ _=>zz c f a h k |_=>none
def O1 (P:Program) (name:String) (t:TypeId):Option Nat :=
 (P.info? t).bind λi=>(i.methods.toList.find? (·.name==name)).bind λm=>bif m.path.isEmpty then m.func.bind λg=>bif g.2 then(P.underlying t).bind λd=>(match d with | .pointer _=>some g.1 |_=>none)else none else none
def qQB (P:Program) (name:String):List Nat→List (Nat×Nat)
 |[]=>[]
 |t::r=>match O1 P name t with |some f=>(t,f)::qQB P name r |none=>qQB P name r
def ZL (P:Program) (name:String):List (Nat×Nat):=qQB P name (List.range P.types.size)
def qQ0 (P:Program) (t:TypeId) (f:Nat):Option Nat :=
 (P.underlying t).bind fun | .struct fs=>(fs[f]?).bind λg=>(cellsOf? P g.type).bind λsz=>bif Nat.beq sz 0 then none else some g.offset |_=>none
def Nh (P:Program) (t:TypeId) (f:Nat):Option (Nat×Option Nat) :=
 (P.underlying t).bind fun | .struct fs=>(fs[f]?).bind λg=>(kj P g.type).map λi=>(g.offset,i) |_=>none
def yG (pl:Nat→Option (Nat×Nat)) (r:Operand→Option AV):List (Nat×Operand)→Option (List (Nat×Nat×AV))
 |[]=>some []
 |(i,x)::l=>(pl i).bind λp=>(r x).bind λv=>(yG pl r l).map λs=>(p.1,p.2,v)::s
def kC (P:Program) (fs:List Field):Option (List (Nat×Nat)):=wV (λf=>(cellsOf? P f.type).map λn=>(f.offset,n)) fs
def Y9 (r:Operand→Option AV):Option Operand→Option (Option AV)
 |none=>some none
 |some x=>(r x).map some
abbrev qxA (P:Program) (op:BinOp) (t:TypeId) (a b:AV) (k:AV→R):R :=
 match op with
 | .shl=>wM .shl a b k
 | .shr=>wM .shr a b k
 |op=>ob (P.underlying t) λd=>match d with
  | .int _=>zG op a b k
  | .string=>MN op a b k
  | .struct fs=>match op with
   | .eql=>cnd (P.eqGuardType P.depth t||P.stoodInHeld t) (none) (ob (vF P 8 fs.toList) λl=>G4 l false a b k)
   | .neq=>cnd (P.eqGuardType P.depth t||P.stoodInHeld t) (none) (ob (vF P 8 fs.toList) λl=>G4 l true a b k)
   |_=>none
  |d=>match op with
   | .eql=>ob (Up d) λe=>pEq e false a b k
   | .neq=>ob (Up d) λe=>pEq e true a b k
   |_=>none
abbrev MD (P:Program) (src dst:TypeId) (v:AV) (h:AH) (k:AV→AH→R):R :=
 ob (P.underlying src) λds=>ob (P.underlying dst) λdd=>match dd with
  | .int d=>(match ds with | .int _=>vi d v λz=>k z h |_=>none)
  | .string=>(match ds with
   | .string=>XC v λz=>k z h
   | .slice e=>ob (P.underlying e) λde=>(match de with | .int .u8=>Vv h v λz=>k z h |_=>none)
   |_=>none)
  | .slice e=>(match ds with
   | .string=>ob (P.underlying e) λde=>(match de with | .int .u8=>ob (cellsOf? P e) λsz=>cnd (Nat.beq sz 1) (ZH h e v k) none |_=>none)
   |_=>none)
  |_=>none
def KU (P:Program) (e:TypeId):Option (List AV) :=
 (P.info? e).bind λi=>(zero? P e).bind λz=>bif Nat.beq z.cells.length i.size&&(qp z.cells&&Nat.ble i.bytes 65536)then some z.cells else none
abbrev opK (P:Program) (c:CV) (o:Op) (r:Operand→Option AV) (h:AH) (k:AV→AH→R):R :=
 match o with
 | .move x=>ob (r x) λv=>k v h
 | .assign x=>ob (r x) λv=>k v h
 | .pick a b d=>ob (r a) λva=>ob (r b) λvb=>ob (r d) λvd=>ky va vb vd λz=>k z h
 | .alloc e=>ob (zero? P e) λz=>gi h e z k
 | .box e x=>ob (r x) λv=>gi h e v k
 | .build t parts=>ob (zero? P t) λz=>ob (P.underlying t) λd=>match d with
  | .struct fs=>ob (kC P fs.toList) λpl=>ob (yG (λi=>kz pl i) r parts.toList) λvs=>yg z.cells vs λv=>k v h
  | .array _ e=>ob (cellsOf? P e) λsz=>ob (yG (λi=>some (i*sz,sz)) r parts.toList) λvs=>yg z.cells vs λv=>k v h
  |_=>none
 | .buildSlice t len parts=>ob (P.underlying t) λd=>match d with
  | .slice e=>ob (KU P e) λz=>cnd (Nat.ble (len*z.length) 16777216) (ob (yG (λi=>some (i*z.length,z.length)) r parts.toList) λvs=>xX h e z len vs k) (none)
  |_=>none
 | .load t a=>ob (r a) λv=>ob (kj P t) λi=>match i with
  |none=>jN h v λz=>k z h
  |some n=>zO h v n λz=>k z h
 | .store t a x=>ob (r a) λva=>ob (r x) λvx=>ob (cellsOf? P t) λn=>jd h va vx n λh'=>k .undef h'
 | .nilCheck x=>ob (r x) λv=>xm v λz=>k z h
 | .binOp op t x y _=>ob (r x) λa=>ob (r y) λb=>qxA P op t a b λz=>k z h
 | .unOp op _ x=>ob (r x) λv=>pUn op v λz=>k z h
 | .convert s d x=>ob (r x) λv=>MD P s d v h k
 | .makeInterface t x=>ob (P.underlying t) λd=>match d with
  | .interface _=>none
  |_=>ob (r x) λv=>k (.iface t v) h
 | .makeFunc fn a cp=>match fn with
  | .func f=>ob (wV r a.toList) λva=>ob (wV r cp.toList) λvc=>k (.fn f va vc) h
  |_=>none
 | .makeSlice t l cp=>ob (P.underlying t) λd=>match d with
  | .slice e=>ob (KU P e) λz=>ob (r l) λvl=>ob (r cp) λvc=>Qv h e z vl vc k
  |_=>none
 | .slice t x lo hi mx=>match mx with
  |some _=>none
  |none=>ob (r x) λv=>ob (Y9 r lo) λl=>ob (Y9 r hi) λu=>ob (P.underlying t) λd=>match d with
   | .string=>gX v l u λz=>k z h
   | .slice e=>ob (cellsOf? P e) λsz=>xY h e sz v l u λz=>k z h
   | .array n e=>ob (cellsOf? P e) λsz=>gk n sz v l u λz=>k z h
   |_=>none
 | .fieldAddr t x f=>ob (r x) λv=>ob (qQ0 P t f) λoff=>qt v off λz=>k z h
 | .field t x f=>ob (r x) λv=>ob (Nh P t f) λp=>match p.2 with
  |none=>Yt v p.1 λz=>k z h
  |some n=>Xr v p.1 n λz=>k z h
 | .indexAddr t x i=>ob (r x) λv=>ob (r i) λj=>ob (P.underlying t) λd=>match d with
  | .slice e=>ob (cellsOf? P e) λsz=>gF v j sz λz=>k z h
  | .array n e=>cnd (Nat.ble 2 n) (ob (cellsOf? P e) λsz=>QC v j n sz λz=>k z h) (none)
  |_=>none
 | .index t x i=>ob (r x) λv=>ob (r i) λj=>ob (P.underlying t) λd=>match d with
  | .string=>gj v j λz=>k z h
  | .array n e=>ob (cellsOf? P e) λsz=>ob (agg? P e) λg=>cnd (g) (XP v j n sz λz=>k z h) (XN v j n sz λz=>k z h)
  |_=>none
 | .typeAssert x _ t ok=>ob (r x) λv=>ob (P.underlying t) λd=>match d with
  | .interface _=>none
  |_=>cnd (ok) (ob (zero? P t) λz=>x9 t z v λy=>k y h) (ki t v λy=>k y h)
 | .extract x i=>ob (r x) λv=>z8 v i λz=>k z h
 | .makeMap t hint=>match hint with
  |none=>cnd (qZT P t) (Qj h k) none
  |some _=>none
 | .lookup t x i ok=>cnd (qZT P t&&!ok) (ob (r x) λv=>ob (r i) λj=>Xd h v j λz=>k z h) none
 | .mapEntry t x i=>cnd (qZT P t) (ob (r x) λv=>ob (r i) λj=>Ku h v j k) none
 | .mapUpdate t x s y=>cnd (qZT P t) (ob (r x) λv=>ob (r s) λj=>ob (r y) λu=>K9 h v j u λh'=>k .undef h') none
 | .entryStore _ x s y=>ob (r x) λv=>ob (r s) λj=>ob (r y) λu=>qQS h v j u λh'=>k .undef h'
 | .range t x=>ob (P.underlying t) λd=>match d with
  | .string=>ob (r x) λv=>Xt h v k
  |_=>none
 | .next it s=>cnd (s) (ob (r it) λv=>K6 h v k) (none)
 | .call cl=>match cl.callee with
  | .value f=>ob (r f) λvf=>ob (wV r cl.args.toList) λva=>zz c vf va h k
  | .invoke x name=>ob (r x) λv=>ob (wV r cl.args.toList) λva=>yR c (ZL P name) v va h k
  | .builtin b=>match b with
   | .len=>(match cl.args.toList,cl.argTypes.toList with
    |x::_,t::_=>ob (r x) λv=>ob (P.underlying t) λd=>(match d with
     | .string=>Qu v λz=>k z h
     | .array n _=>k (.int .i64 (.ofNat n)) h
     | .slice _=>kF v λz=>k z h
     | .map _ _=>Uj h v λz=>k z h
     |_=>none)
    |_,_=>none)
   | .min=>ob (wV r cl.args.toList) λl=>pMM false l λz=>k z h
   | .max=>ob (wV r cl.args.toList) λl=>pMM true l λz=>k z h
   | .append=>(match cl.args.toList,cl.argTypes.toList with
    |s::x::[],t::u::_=>ob (P.underlying u) λdu=>(match du with
     | .int _=>none
     |_=>ob (P.underlying t) λd=>(match d with
      | .slice e=>ob (KU P e) λz=>ob (r s) λvs=>ob (r x) λvx=>xx h e z.length vs vx k
      |_=>none))
    |_,_=>none)
   | .copy=>(match cl.args.toList,cl.argTypes.toList with
    |s::x::[],t::_=>ob (P.underlying t) λd=>(match d with
      | .slice e=>ob (cellsOf? P e) λsz=>ob (r s) λvs=>ob (r x) λvx=>Yc h sz vs vx k
      |_=>none)
    |_,_=>none)
   | .delete=>(match cl.args.toList,cl.argTypes.toList with
    |s::x::[],t::_=>cnd (qZT P t) (ob (r s) λvs=>ob (r x) λvx=>Uq h vs vx k) none
    |_,_=>none)
   |_=>none
 |_=>none
abbrev opS (P:Program) (c:CV) (o:Op) (r:Operand→Option AV) (h:AH):R:=opK P c o r h λv h'=>some (v,h')
def kM (all:List Oper) (o:Oper):Option Nat:=o.guard.bind λg=>(kz all g.1).bind λp=>p.dst
inductive Pl where
  |z
  |n (L:Option (List Nat)) (a b:Pl)
  |r (Ls:List (List Nat))
def has (tm:PT AV) (t:Nat):Bool:=match tm.get t with |some _=>true |none=>false
abbrev Tup:List Nat→Type
 |[]=>Unit
 |_::L=>AV×Tup L
def gR:(L:List Nat)→PT AV→Tup L
 |[],_=>()
 |t::L,tm=>((match tm.get t with |some v=>v |none=>.undef),gR L tm)
def wC:(L:List Nat)→Tup L→PT AV→PT AV
 |[],_,a=>a
 |t::L,s,a=>wC L s.2 (a.set t s.1)
def xf (tm:PT AV):List Nat→Bool
 |[]=>true
 |t::L=>has tm t&&xf tm L
abbrev V3 (n:Nat) (tm:PT AV) (dst:Option Tmp) (v:AV) (k:PT AV→R):R :=
 match dst with
 |none=>k tm
 |some d=>cnd (Nat.ble (d+1) n) (k (tm.set d v)) (none)
abbrev qYu (P:Program) (c:CV) (n:Nat):List Oper→PT AV→AH→(PT AV→AH→R)→R
 |[],tm,h,k=>k tm h
 |o::r,tm,h,k=>opK P c o.op (ev tm) h λv h'=>V3 n tm o.dst v λtm'=>qYu P c n r tm' h' k
abbrev VC (n:Nat):List Oper→PT AV→(PT AV→R)→R
 |[],tm,k=>k tm
 |o::r,tm,k=>V3 n tm o.dst .undef λtm'=>VC n r tm' k
def writes (d:Nat):List Oper→Bool
 |[]=>false
 |o::r=>(match o.dst with |some t=>Nat.beq t d |none=>false)||writes d r
def qKp (g:Nat×Bool) (o:Oper):Bool:=match o.guard with |some g'=>Nat.beq g.1 g'.1&&g.2==g'.2 |none=>false
def zU (g:Nat×Bool):List Oper→List Oper×List Oper
 |[]=>([],[])
 |o::r=>bif qKp g o then(o::(zU g r).1,(zU g r).2)else([],o::r)
abbrev Y7 (P:Program) (c:CV) (n:Nat) (all:List Oper):Nat→List Oper→List (List Nat)→PT AV→AH→(PT AV→AH→R)→R
 |_,[],_,tm,h,k=>k tm h
 | 0,_::_,_,_,_,_=>none
 |f+1,o::r,Ls,tm,h,k=>match o.guard with
  |none=>opK P c o.op (ev tm) h λv h'=>V3 n tm o.dst v λtm'=>Y7 P c n all f r Ls tm' h' k
  |some g=>ob (kM all o) λd=>ob (tm.get d) λvg=>
   match Ls with
   |[]=>none
   |L::Ls'=>cnd (writes d (o::(zU g r).1)) none (yB (α:=Tup L→AH→R) (λs h=>Y7 P c n all f (zU g r).2 Ls' (wC L s .e) h k) λJ=>ke vg g.2
     (qYu P c n (o::(zU g r).1) tm h λtm' h'=>cnd (xf tm' L) (J (gR L tm') h') none)
     (VC n (o::(zU g r).1) tm λtm'=>cnd (xf tm' L) (J (gR L tm') h) none))
mutual
def vH:AV→AV→Bool
 | .bool a,.bool b=>a==b
 | .int k a,.int k' b=>k==k'&&ieq a b
 | .str a,.str b=>seq? a b
 | .ptr b o,.ptr b' o'=>Nat.beq b b'&&Nat.beq o o'
 | .nilp,.nilp=>true
 | .slice b o l c p,.slice b' o' l' c' p'=>Nat.beq b b'&&(Nat.beq o o'&&(Nat.beq l l'&&(Nat.beq c c'&&p==p')))
 | .nils,.nils=>true
 | .fn f a c,.fn f' a' c'=>Nat.beq f f'&&(Gm a a'&&Gm c c')
 | .yield l,.yield l'=>Nat.beq l l'
 | .nilf,.nilf=>true
 | .iface t v,.iface t' v'=>Nat.beq t t'&&vH v v'
 | .nili,.nili=>true
 | .agg l,.agg l'=>Gm l l'
 | .tup l,.tup l'=>Gm l l'
 | .empt a,.empt a'=>decide (a=a')
 | .tail b o o' i,.tail b' p p' j=>Nat.beq b b'&&(Nat.beq o p&&(Nat.beq o' p'&&Nat.beq i j))
 | .mapv b,.mapv b'=>Nat.beq b b'
 |_,_=>false
def Gm:List AV→List AV→Bool
 |[],[]=>true
 |a::r,b::s=>vH a b&&Gm r s
 |_,_=>false
end
inductive Cls where
  |pure |load |fresh |heavy
def cls (P:Program):Op→Cls
 | .convert s d _=>match P.underlying d with
  |some (.int _)=>.pure
  |some .string=>match P.underlying s with
   |some .string=>.pure
   |_=>.heavy
  |_=>.heavy
 | .move _ | .assign _ | .pick .. | .build .. | .nilCheck _ | .binOp .. | .unOp .. | .makeInterface .. | .makeFunc .. | .slice .. | .fieldAddr .. | .field .. | .indexAddr .. | .index ..
 | .typeAssert .. | .extract ..=>.pure
 | .load ..=>.load
 | .alloc .. | .box .. | .buildSlice .. | .makeSlice ..=>.fresh
 | .call cl=>match cl.callee with
  | .builtin b=>match b with
   | .len=>(match cl.argTypes.toList with |t::_=>(match P.underlying t with |some (.map _ _)=>.heavy |_=>.pure) |[]=>.pure)
   | .min=>.pure
   | .max=>.pure
   |_=>.heavy
  |_=>.heavy
 |_=>.heavy
def zi (P:Program) (o:Op):Bool:=match cls P o with | .heavy=>true |_=>false
def VQ (o:Op):Bool:=match o with | .load _ _=>true |_=>false
def J6 (P:Program) (o:Op):Bool:=match o with | .slice t _ _ _ _=>(match P.underlying t with |some (.slice _)=>true |_=>false) |_=>false
def vh (P:Program) (o:Op):Bool:=VQ o||J6 P o
def wz:List Oper→Nat→PT Nat→PT Nat
 |[],_,t=>t
 |o::r,j,t=>wz r (j+1) (t.set j (o.after.toList.foldl (λs e=>bif Region.binds .any e then s|||(2 ^ e.on|||(match t.get e.on with |some m=>m |none=>0))else s) 0))
def zp (t:PT Nat) (j:Nat):Nat:=match t.get j with |some m=>m |none=>0
def chain (P:Program) (t:PT Nat):List Oper→Nat→Option Nat→Bool
 |[],_,_=>true
 |o::r,j,last=>bif zi P o.op then(match last with |none=>true |some i=>Nat.testBit (zp t j) i)&&chain P t r (j+1) (some j)else chain P t r (j+1) last
def bit (t:Nat):Nat:=2 ^ t
def orL:List Nat→Nat
 |[]=>0
 |a::r=>a|||orL r
def rdO:Operand→Nat | .tmp t=>bit t |_=>0
def looks (all:List Oper) (o:Oper):Nat:=orL (o.op.operands.toList.map rdO)|||(match o.guard with |some _=>(match kM all o with |some d=>bit d |none=>0) |none=>0)
def Jm (o:Oper):Nat:=match o.dst with |some d=>bit d |none=>0
structure Ent where
  i:Nat
  w:Nat
  l:Nat
def Zq (mk wj lj:Nat):List Ent→Bool
 |[]=>true
 |e::r=>(Nat.testBit mk e.i||(Nat.beq (e.w&&&(lj|||wj)) 0&&Nat.beq (wj&&&e.l) 0))&&Zq mk wj lj r
def QX (j:Nat):List Edge→Bool
 |[]=>true
 |e::r=>(bif Region.binds .any e then Nat.ble (e.on+1) j else true)&&QX j r
def lexE (t:PT Nat) (all:List Oper):List Oper→Nat→List Ent→Bool
 |[],_,_=>true
 |o::r,j,es=>QX j o.after.toList&&(Zq (zp t j) (Jm o) (looks all o) es&&lexE t all r (j+1) (⟨j,Jm o,looks all o⟩::es))
def kg (t:PT Nat) (i j:Nat):Bool:=!(Nat.testBit (zp t i) j||Nat.testBit (zp t j) i)
def YZ (P:Program) (t:PT Nat) (i:Nat):List Oper→Nat→Bool
 |[],_=>false
 |o::r,j=>zi P o.op&&kg t i j||YZ P t i r (j+1)
def Xu (P:Program) (p:Op→Bool) (t:PT Nat) (all:List Oper):List Oper→Nat→Bool
 |[],_=>false
 |o::r,i=>p o.op&&YZ P t i all 0||Xu P p t all r (i+1)
def qK1 (P:Program) (ops:Array Oper):Bool :=
 lexE (wz ops.toList 0 .e) ops.toList ops.toList 0 []&&chain P (wz ops.toList 0 .e) ops.toList 0 none
structure J8 where
  i:Nat
  a:AV
  n:Option Nat
  v:AV
structure JA where
  j:Nat
  hb:AH
  ha:AH
def zW (a:AV) (n:Option Nat) (v:AV) (h:AH):Bool :=
 match a with
 | .ptr b off=>(match h.get b with
  |some (.cells c _ _)=>(match n with
   |none=>(match c.get1 off with |some x=>vH x v |none=>false)
   |some n=>(match c.readN off n with |some l=>vH (.agg l) v |none=>false))
  |some (.inp t)=>(match n with
   |none=>(match Trie.get t off with |some x=>vH x v |none=>false)
   |some n=>(match JH [] t off n with |some l=>vH (.agg l) v |none=>false))
  |_=>false)
 | .slice b off len i0 true=>(match n with |some m=>yE h (m/65536) b off (m%65536) i0 len |none=>false)
 | .slice _ _ _ _ false=>true
 | .nils=>true
 | .empt _=>true
 |_=>false
def Kz (a:AV) (nx:Nat):Bool:=match a with | .ptr b _=>Nat.ble (b+1) nx | .slice b _ _ _ true=>Nat.ble (b+1) nx | .slice _ _ _ _ false=>true | .nils=>true | .empt _=>true |_=>false
def Jz (a:AV) (n:Option Nat) (v:AV) (hb ha:AH) (nx:Nat) (k:R):R:=bif zW a n v hb&&(zW a n v ha&&Kz a nx)then k else none
abbrev qz2 (t:PT Nat) (i:Nat) (a:AV) (n:Option Nat) (v:AV) (nx:Nat):List JA→R→R
 |[],k=>k
 |⟨j,hb,ha⟩::r,k=>cnd (kg t i j) (Jz a n v hb ha nx (qz2 t i a n v nx r k)) (qz2 t i a n v nx r k)
abbrev Oi (t:PT Nat) (hs:List JA) (nx:Nat):List J8→R→R
 |[],k=>k
 |⟨i,a,n,v⟩::r,k=>qz2 t i a n v nx hs (Oi t hs nx r k)
def Xo (r:Operand→Option AV):Op→Option AV
 | .load _ a=>r a
 | .slice _ x _ _ _=>r x
 |_=>none
def gH (P:Program):Op→Option Nat
 | .load t _=>match kj P t with |some i=>i |none=>none
 | .slice t _ _ _ _=>match P.underlying t with
  |some (.slice e)=>(match cellsOf? P e with |some sz=>bif Nat.ble (sz+1) 65536 then some (e*65536+sz)else none |none=>none)
  |_=>none
 |_=>none
def Ny:List (Nat×Bool×Bool)→Nat→Bool→Option Bool
 |[],_,_=>none
 |x::r,d,w=>bif Nat.beq x.1 d&&(x.2.1==w)then some x.2.2 else bif Nat.beq x.1 d&&x.2.2 then some false else Ny r d w
def hitG (dst:Option Tmp) (d:Nat):Bool:=match dst with |some t=>Nat.beq t d |none=>false
def dropG (dst:Option Tmp):List (Nat×Bool×Bool)→List (Nat×Bool×Bool)
 |[]=>[]
 |x::r=>bif hitG dst x.1 then dropG dst r else x::dropG dst r
abbrev qyL (o:Option Bool) (v:AV) (w:Bool) (a b:R):R:=match o with |some true=>a |some false=>b |none=>ke v w a b
abbrev Gn (P:Program) (c:CV) (n:Nat) (all:List Oper):List Oper→Nat→List (Nat×Bool×Bool)→PT AV→AH→List J8→List JA→(PT AV→AH→List J8→List JA→R)→R
 |[],_,_,tm,h,ls,hs,k=>k tm h ls hs
 |o::r,j,kn,tm,h,ls,hs,k=>
  match o.guard with
  |none=>opK P c o.op (ev tm) h λv h'=>V3 n tm o.dst v λtm'=>cnd (vh P o.op) (ob (Xo (ev tm) o.op) λa=>Gn P c n all r (j+1) (dropG o.dst kn) tm' h' (⟨j,a,gH P o.op,v⟩::ls) hs k) (cnd (zi P o.op) (Gn P c n all r (j+1) (dropG o.dst kn) tm' h' ls (⟨j,h,h'⟩::hs) k) (Gn P c n all r (j+1) (dropG o.dst kn) tm' h' ls hs k))
  |some g=>ob (kM all o) λd=>ob (tm.get d) λvg=>qyL (Ny kn d g.2) vg g.2
   (opK P c o.op (ev tm) h λv h'=>V3 n tm o.dst v λtm'=>
    cnd (vh P o.op) (ob (Xo (ev tm) o.op) λa=>Gn P c n all r (j+1) (dropG o.dst ((d,g.2,true)::kn)) tm' h' (⟨j,a,gH P o.op,v⟩::ls) hs k) (cnd (zi P o.op) (Gn P c n all r (j+1) (dropG o.dst ((d,g.2,true)::kn)) tm' h' ls (⟨j,h,h'⟩::hs) k) (Gn P c n all r (j+1) (dropG o.dst ((d,g.2,true)::kn)) tm' h' ls hs k)))
   (V3 n tm o.dst .undef λtm'=>Gn P c n all r (j+1) (dropG o.dst ((d,g.2,false)::kn)) tm' h ls hs k)
abbrev qY7 (P:Program) (c:CV) (n:Nat) (ops:Array Oper) (Ls:List (List Nat)) (tm:PT AV) (h:AH) (k:PT AV→AH→R):R :=
 cnd (qK1 P ops) ((cnd (Xu P (vh P) (wz ops.toList 0 .e) ops.toList ops.toList 0) (match Ls with
   |[]=>none
   |L::_=>yB (α:=Tup L→AH→R) (λs h=>k (wC L s .e) h)
     λJ=>Gn P c n ops.toList ops.toList 0 [] tm h [] [] λtm' h' ls hs=>Oi (wz ops.toList 0 .e) hs h.nx ls (cnd (xf tm' L) (J (gR L tm') h') (none))) (Y7 P c n ops.toList ops.toList.length ops.toList Ls tm h k))) (none)
def Jh (h:AH) (l:Nat) (k:AH→R):R:=match h.get l with
 |some (.loop .ready pend f p L vs d)=>k (h.put l (.loop .busy pend f p L vs d))
 |_=>none
def xc (h:AH) (l:Nat) (j:Option AX):R:=match h.get l with
 |some (.loop _ _ f p L vs d)=>(match j with
  |none=>some (.bool true,h.put l (.loop .ready none f p L vs d))
  |some x=>some (.bool false,h.put l (.loop .done (some x) f p L vs d)))
 |_=>none
def vC (h:AH) (l:Nat) (k:Option AX→AH→R):R:=match h.get l with
 |some (.loop st pend f p L vs d)=>(match st with
  | .busy=>none
  |_=>k pend (h.put l (.loop .exhausted pend f p L vs d)))
 |_=>none
def qWh:AX→AX→Bool
 | .normal,.normal=>true
 | .ret,.ret=>true
 | .exit a,.exit b=>Nat.beq a b
 | .goto a,.goto b=>Nat.beq a b
 |_,_=>false
def pIs (p:Option AX) (x:AX) (a b:R):R:=match p with |some y=>bif qWh y x then a else b |none=>b
def Xj (p:Option AX) (a b:R):R:=match p with |none=>a |some _=>b
def XD:Code→List Nat→List AX
 | .seq a b,l=>XD a l++XD b l
 | .cond _ a b,l=>XD a l++XD b l
 | .block id a,l=>XD a (id::l)
 | .loop a,l=>XD a l
 | .rangeFunc _ _ _ b,l=>XD b l
 | .exit id,l=>bif l.contains id then[]else[.exit id]
 | .ret,_=>[.ret]
 |_,_=>[]
abbrev Uh (p:Option AX) (k:AX→R):List AX→R
 |[]=>none
 |x::r=>pIs p x (k x) (Uh p k r)
def MJ (h:AH) (l:Nat) (k:Nat→R):R:=match h.get l with |some (.loop _ _ _ _ _ _ d)=>k d |_=>none
def wa:(L:List Nat)→PT AV→List AV
 |[],_=>[]
 |t::L,tm=>(match tm.get t with |some v=>v |none=>.undef)::wa L tm
def plA:Pl→Pl | .n _ a _=>a |_=>.z
def plB:Pl→Pl | .n _ _ b=>b |_=>.z
def plL:Pl→Option (List Nat) | .n L _ _=>L |_=>none
def plR:Pl→List (List Nat) | .r l=>l |_=>[]
abbrev gD (P:Program) (N:Nat) (c:CV) (f n:Nat) (rd:Option Nat):Code→List Nat→Pl→PT AV→AH→List Nat→(AX→PT AV→AH→List Nat→R)→R
  | .skip,_,_,tm,h,ds,k=>k .normal tm h ds
  | .region _ ops d,_,pl,tm,h,ds,k=>cnd (d) (qY7 P c n ops (plR pl) tm h λtm h=>k .normal tm h ds) (Y7 P c n ops.toList ops.toList.length ops.toList (plR pl) tm h λtm h=>k .normal tm h ds)
  | .seq a b,pos,pl,tm,h,ds,k=>match plL pl with
    | some L => yB (α := Tup L → AH → List Nat → R)
        (λs h ds=>gD P N c f n rd b (pos++[1]) (plB pl) (wC L s .e) h ds k)
        λJ=>gD P N c f n rd a (pos++[0]) (plA pl) tm h ds λx tm' h ds=>match x with
          | .normal=>cnd (xf tm' L) (J (gR L tm') h ds) (none) |x=>k x tm' h ds
    |none=>gD P N c f n rd a (pos++[0]) (plA pl) tm h ds λx tm' h ds=>match x with
      | .normal=>gD P N c f n rd b (pos++[1]) (plB pl) tm' h ds k
      |x=>k x tm' h ds
  | .cond o a b,pos,pl,tm,h,ds,k=>ob (ev tm o) λv=>zt v (gD P N c f n rd a (pos++[0]) (plA pl) tm h ds k) (gD P N c f n rd b (pos++[1]) (plB pl) tm h ds k)
  | .block id a,pos,pl,tm,h,ds,k=>match plL pl with
    | some L => yB (α := Tup L → AH → List Nat → R)
        (λs h ds=>k .normal (wC L s .e) h ds)
        λJ=>gD P N c f n rd a (pos++[0]) (plA pl) tm h ds λx tm' h ds=>match x with
          | .normal=>cnd (xf tm' L) (J (gR L tm') h ds) (none) | .exit i=>cnd (Nat.beq i id) ((cnd (xf tm' L) (J (gR L tm') h ds) (none))) (k (.exit i) tm' h ds) |x=>k x tm' h ds
    |none=>gD P N c f n rd a (pos++[0]) (plA pl) tm h ds λx tm' h ds=>match x with
      | .exit i=>cnd (Nat.beq i id) (k .normal tm' h ds) (k (.exit i) tm' h ds)
      |x=>k x tm' h ds
  | .loop a,pos,pl,tm,h,ds,k=>match plL pl with
    | some L => cnd (xf tm L) (YU (σ := Tup L) N
        (λih s h ds=>gD P N c f n rd a (pos++[0]) (plA pl) (wC L s .e) h ds λx tm' h ds=>match x with
          | .normal=>cnd (xf tm' L) (ih (gR L tm') h ds) (none) |x=>k x tm' h ds)
        (gR L tm) h ds) (none)
    |none=>none
  | .exit id,_,_,tm,h,ds,k=>k (.exit id) tm h ds
  | .label _,_,_,tm,h,ds,k=>k .normal tm h ds
  | .goto l,_,_,tm,h,ds,k=>k (.goto l) tm h ds
  | .ret,_,_,tm,h,ds,k=>k .ret tm h ds
  | .rangeFunc g _ _ body,pos,pl,tm,h,ds,k=>ob (ev tm g) λvf=>match plL pl with
    |none=>none
    | some L => cnd (xf tm L) ((fun (go : Nat → AH → List Nat → R) => match rd with
       |none=>go h.nx (h.new .dfd) (h.nx::ds)
       |some l0=>MJ h l0 λd=>go d h ds)
      λd h1 ds1=>Jr c vf [.yield h1.nx] (h1.new (.loop .ready none f pos L (wa L tm) d)) λ_ h2=>
        vC h2 h1.nx λp h3=>Xj p (k .normal tm h3 ds1) (Uh p (λx=>k x tm h3 ds1) (XD body []))) (none)
  |_,_,_,_,_,_,_=>none
def z7:List Nat→AH→(AH→R)→R
 |[],h,k=>k h
 |d::r,h,k=>match h.get d with
  |some .dfd=>z7 r (h.put d .took) k
  |_=>none
def qW5:List AV→Nat→PT AV→PT AV
 |[],_,t=>t
 |a::r,i,t=>qW5 r (i+1) (t.set i a)
abbrev VX (P:Program) (tm:PT AV) (h:AH):List ResultVar→(List AV→R)→R
 |[],k=>k []
 |x::r,k=>match x with
  | .tmp t=>ob (tm.get t) λv=>VX P tm h r λl=>k (v::l)
  | .cell a t=>ob (tm.get a) λva=>ob (kj P t) λi=>match i with
   |none=>jN h va λv=>VX P tm h r λl=>k (v::l)
   |some n=>zO h va n λv=>VX P tm h r λl=>k (v::l)
def one? (l:List AV):AV:=match l with |[v]=>v |l=>.tup l
abbrev xE (P:Program) (N:Nat) (pl:Pl) (c:CV) (f:FuncId) (args:List AV) (h:AH):R :=
 ob (P.funcs[f]?) λfn=>ob fn.body λb=>
  gD P N c f fn.ntmps none b [] pl (qW5 args 0 .e) h [] λx tm h ds=>match x with
   | .normal=>z7 ds h λh'=>VX P tm h' fn.results.toList λl=>some (one? l,h')
   | .ret=>z7 ds h λh'=>VX P tm h' fn.results.toList λl=>some (one? l,h')
   |_=>none
def xK:Code→List Nat→Option Code
 |c,[]=>some c
 | .seq a b,i::p=>bif Nat.beq i 0 then xK a p else xK b p
 | .cond _ a b,i::p=>bif Nat.beq i 0 then xK a p else xK b p
 | .block _ a,_::p=>xK a p
 | .loop a,_::p=>xK a p
 | .rangeFunc _ _ a b,i::p=>bif Nat.beq i 0 then xK a p else xK b p
 |_,_::_=>none
abbrev qK9:List Tmp→List AV→Nat→PT AV→(PT AV→R)→R
 |[],[],_,t,k=>k t
 |p::ps,v::vs,n,t,k=>cnd (Nat.ble (p+1) n) (qK9 ps vs n (t.set p v) k) (none)
 |_,_,_,_,_=>none
abbrev zipK:List Nat→List AV→PT AV→(PT AV→R)→R
 |[],[],t,k=>k t
 |x::L,v::vs,t,k=>zipK L vs (t.set x v) k
 |_,_,_,_=>none
abbrev MH (P:Program) (N:Nat) (pl:Pl) (c:CV) (f:FuncId) (pos L:List Nat) (l:Nat) (vs args:List AV) (h:AH):R :=
 ob (P.funcs[f]?) λfn=>ob fn.body λb=>ob (xK b pos) λs=>match s with
  | .rangeFunc _ ps assign body=>zipK L vs .e λtm0=>qK9 ps.toList args fn.ntmps tm0 λtm=>
   gD P N c f fn.ntmps (some l) assign (pos++[0]) (plA pl) tm h [] λx tm h ds=>match x with
    | .normal=>Jh h l λh=>gD P N c f fn.ntmps (some l) body (pos++[1]) (plB pl) tm h ds λx _ h _=>match x with
     | .normal=>xc h l none
     |x=>xc h l (some x)
    |_=>none
  |_=>none
def NN:Nat:=1000000000
abbrev WF:=CV→List AV→AH→R
abbrev VF:=CV→Nat→List AV→List AV→AH→R
def WOk (P:Program) (f:Nat) (w:WF):Prop:=∀c l h r,w c l h=some r→∃pl,xE P NN pl c f l h=some r
def VOk (P:Program) (f:Nat) (pos L:List Nat) (w:VF):Prop:=∀c l x y h r,w c l x y h=some r→∃pl,MH P NN pl c f pos L l x y h=some r
structure RT where
  f:Nat
  pos:List Nat
  L:List Nat
  run:VF
def Gw:List Nat→List Nat→Bool
 |[],[]=>true
 |a::x,b::y=>Nat.beq a b&&Gw x y
 |_,_=>false
def Ys:List RT→Nat→List Nat→List Nat→Option VF
 |[],_,_,_=>none
 |x::r,f,pos,L=>bif Nat.beq x.f f&&(Gw x.pos pos&&Gw x.L L)then some x.run else Ys r f pos L
inductive BT where
  |no
  |leaf (f:Nat) (w:WF)
  |node (m:Nat) (l r:BT)
def BT.get (t:BT) (f:Nat):Option WF :=
 BT.rec (motive:=λ_=>Option WF) none (λg w=>Bool.rec (motive:=λ_=>Option WF) none (some w) (Nat.beq g f)) (λm _ _ l r=>Bool.rec (motive:=λ_=>Option WF) r l (Nat.ble f m)) t
def BT.all (p:Nat→WF→Prop):BT→Prop
 | .no=>True
 | .leaf f w=>p f w
 | .node _ l r=>l.all p∧r.all p
def BT.fs:BT→List Nat
 | .no=>[]
 | .leaf f _=>[f]
 | .node _ l r=>l.fs++r.fs
def callT (tab:BT) (rt:List RT) (k:Nat):CV :=
 Nat.rec (motive:=λ_=>CV) (λ_ _ _=>none) (λ_ ih v args h=>match v with
  | .fn f first cap=>Option.rec (motive:=λ_=>R) none (λg=>g ih (first++args++cap) h) (BT.get tab f)
  | .yield l=>(match h.get l with
   |some (.loop .ready _ f pos L vs _)=>(match Ys rt f pos L with |some g=>g ih l vs args h |none=>none)
   |_=>none)
  |_=>none) k
def isTrue (r:R):Bool:=match r with |some (.bool true,_)=>true |_=>false
def AH.empty:AH:=⟨0,[],.e⟩
end
end Go.Ae
namespace Go.Ae
open Go
noncomputable section
theorem pLn {h:AH} {k:AH→R}:z7 [] h k=k h:=rfl
structure tR (x:R) where
 val:R
 property:x=val:=by conv=>lhs;reduce;try dsimp only[pLn]
abbrev tE0 (P:Program) (pl:Pl) (f:Nat):Type:=(c:CV)→(h:AH)→tR (xE P NN pl c f [] h)
abbrev tD0 {P:Program} {pl:Pl} {f:Nat} (S:tE0 P pl f):WF:=λc l h=>match l with |[]=>(S c h).1 |_=>none
theorem tO0 {P:Program} {pl:Pl} {f:Nat} (S:tE0 P pl f):WOk P f (tD0 S):=by
 intro c l h r e;unfold tD0 at e
 split at e
 ·exact⟨pl,(S ..).2.trans e⟩
 ·cases e
abbrev tE1 (P:Program) (pl:Pl) (f:Nat):Type:=(c:CV)→(a0:AV)→(h:AH)→tR (xE P NN pl c f [a0] h)
abbrev tD1 {P:Program} {pl:Pl} {f:Nat} (S:tE1 P pl f):WF:=λc l h=>match l with |[a0]=>(S c a0 h).1 |_=>none
theorem tO1 {P:Program} {pl:Pl} {f:Nat} (S:tE1 P pl f):WOk P f (tD1 S):=by
 intro c l h r e;unfold tD1 at e
 split at e
 ·exact⟨pl,(S ..).2.trans e⟩
 ·cases e
abbrev tE2 (P:Program) (pl:Pl) (f:Nat):Type:=(c:CV)→(a0 a1:AV)→(h:AH)→tR (xE P NN pl c f [a0,a1] h)
abbrev tD2 {P:Program} {pl:Pl} {f:Nat} (S:tE2 P pl f):WF:=λc l h=>match l with |[a0,a1]=>(S c a0 a1 h).1 |_=>none
theorem tO2 {P:Program} {pl:Pl} {f:Nat} (S:tE2 P pl f):WOk P f (tD2 S):=by
 intro c l h r e;unfold tD2 at e
 split at e
 ·exact⟨pl,(S ..).2.trans e⟩
 ·cases e
abbrev tE3 (P:Program) (pl:Pl) (f:Nat):Type:=(c:CV)→(a0 a1 a2:AV)→(h:AH)→tR (xE P NN pl c f [a0,a1,a2] h)
abbrev tD3 {P:Program} {pl:Pl} {f:Nat} (S:tE3 P pl f):WF:=λc l h=>match l with |[a0,a1,a2]=>(S c a0 a1 a2 h).1 |_=>none
theorem tO3 {P:Program} {pl:Pl} {f:Nat} (S:tE3 P pl f):WOk P f (tD3 S):=by
 intro c l h r e;unfold tD3 at e
 split at e
 ·exact⟨pl,(S ..).2.trans e⟩
 ·cases e
abbrev tE4 (P:Program) (pl:Pl) (f:Nat):Type:=(c:CV)→(a0 a1 a2 a3:AV)→(h:AH)→tR (xE P NN pl c f [a0,a1,a2,a3] h)
abbrev tD4 {P:Program} {pl:Pl} {f:Nat} (S:tE4 P pl f):WF:=λc l h=>match l with |[a0,a1,a2,a3]=>(S c a0 a1 a2 a3 h).1 |_=>none
theorem tO4 {P:Program} {pl:Pl} {f:Nat} (S:tE4 P pl f):WOk P f (tD4 S):=by
 intro c l h r e;unfold tD4 at e
 split at e
 ·exact⟨pl,(S ..).2.trans e⟩
 ·cases e
abbrev tE5 (P:Program) (pl:Pl) (f:Nat):Type:=(c:CV)→(a0 a1 a2 a3 a4:AV)→(h:AH)→tR (xE P NN pl c f [a0,a1,a2,a3,a4] h)
abbrev tD5 {P:Program} {pl:Pl} {f:Nat} (S:tE5 P pl f):WF:=λc l h=>match l with |[a0,a1,a2,a3,a4]=>(S c a0 a1 a2 a3 a4 h).1 |_=>none
theorem tO5 {P:Program} {pl:Pl} {f:Nat} (S:tE5 P pl f):WOk P f (tD5 S):=by
 intro c l h r e;unfold tD5 at e
 split at e
 ·exact⟨pl,(S ..).2.trans e⟩
 ·cases e
abbrev tE7 (P:Program) (pl:Pl) (f:Nat):Type:=(c:CV)→(a0 a1 a2 a3 a4 a5 a6:AV)→(h:AH)→tR (xE P NN pl c f [a0,a1,a2,a3,a4,a5,a6] h)
abbrev tD7 {P:Program} {pl:Pl} {f:Nat} (S:tE7 P pl f):WF:=λc l h=>match l with |[a0,a1,a2,a3,a4,a5,a6]=>(S c a0 a1 a2 a3 a4 a5 a6 h).1 |_=>none
theorem tO7 {P:Program} {pl:Pl} {f:Nat} (S:tE7 P pl f):WOk P f (tD7 S):=by
 intro c l h r e;unfold tD7 at e
 split at e
 ·exact⟨pl,(S ..).2.trans e⟩
 ·cases e
end
end Go.Ae
namespace Go.Ae
open Go
noncomputable section
abbrev w_0 (S:CV→AH→R):WF:=λc l h=>match l with |[]=>S c  h |_=>none
theorem jQ9 {P:Program} {f:Nat} {pl:Pl} {S:CV→AH→R} (q:∀(c:CV) (h:AH),xE P NN pl c f [] h=S c  h):WOk P f (w_0 S):=by
 intro c l h r e;unfold w_0 at e
 split at e
 ·exact⟨pl,by rw[q];exact e⟩
 ·cases e
abbrev w_1 (S:CV→AV→AH→R):WF:=λc l h=>match l with |[a0]=>S c a0 h |_=>none
theorem Kf {P:Program} {f:Nat} {pl:Pl} {S:CV→AV→AH→R} (q:∀(c:CV) (a0:AV) (h:AH),xE P NN pl c f [a0] h=S c a0 h):WOk P f (w_1 S):=by
 intro c l h r e;unfold w_1 at e
 split at e
 ·exact⟨pl,by rw[q];exact e⟩
 ·cases e
abbrev w_2 (S:CV→AV→AV→AH→R):WF:=λc l h=>match l with |[a0,a1]=>S c a0 a1 h |_=>none
theorem qX2 {P:Program} {f:Nat} {pl:Pl} {S:CV→AV→AV→AH→R} (q:∀(c:CV) (a0 a1:AV) (h:AH),xE P NN pl c f [a0,a1] h=S c a0 a1 h):WOk P f (w_2 S):=by
 intro c l h r e;unfold w_2 at e
 split at e
 ·exact⟨pl,by rw[q];exact e⟩
 ·cases e
abbrev w_4 (S:CV→AV→AV→AV→AV→AH→R):WF:=λc l h=>match l with |[a0,a1,a2,a3]=>S c a0 a1 a2 a3 h |_=>none
theorem qyp {P:Program} {f:Nat} {pl:Pl} {S:CV→AV→AV→AV→AV→AH→R} (q:∀(c:CV) (a0 a1 a2 a3:AV) (h:AH),xE P NN pl c f [a0,a1,a2,a3] h=S c a0 a1 a2 a3 h):WOk P f (w_4 S):=by
 intro c l h r e;unfold w_4 at e
 split at e
 ·exact⟨pl,by rw[q];exact e⟩
 ·cases e
abbrev w_5 (S:CV→AV→AV→AV→AV→AV→AH→R):WF:=λc l h=>match l with |[a0,a1,a2,a3,a4]=>S c a0 a1 a2 a3 a4 h |_=>none
theorem jQa {P:Program} {f:Nat} {pl:Pl} {S:CV→AV→AV→AV→AV→AV→AH→R} (q:∀(c:CV) (a0 a1 a2 a3 a4:AV) (h:AH),xE P NN pl c f [a0,a1,a2,a3,a4] h=S c a0 a1 a2 a3 a4 h):WOk P f (w_5 S):=by
 intro c l h r e;unfold w_5 at e
 split at e
 ·exact⟨pl,by rw[q];exact e⟩
 ·cases e
end
end Go.Ae
abbrev Go.Ae.iI (n:Nat):Go.Ae.AV:=.int .i64 (.ofNat n)
abbrev Go.Ae.uU (n:Nat):Go.Ae.AV:=.int .u64 (.ofNat n)
namespace Go.Ae
abbrev iQ:=@if_neg
abbrev iJ:=@if_pos
theorem iZ {n:Nat}:Int.ofNat n=(n:Int):=rfl
abbrev iX:=@List.mem_cons_of_mem
abbrev iK:=@List.mem_cons_self
abbrev iV:=@decide_eq_false
abbrev iG:=@decide_eq_true
abbrev iW:=@List.getElem?_eq_getElem
abbrev iY:=@Nat.ble_eq_true_of_le
abbrev iA:=@List.eq_nil_of_length_eq_zero
end Go.Ae
