/- The abstract executor of the program's form in Lean, shown sound: values, heaps, operations, code: plain definitions. -/
import Derived.CallsIn
import Derived.OrdersIn
import Derived.Eval
import Derived.RangeFuncIn
import Derived.RangeFuncLeaves
import Derived.Still
import Derived.Lib.ItoaNum
theorem Go.Ae.aW {P : Prop} (h : P :=by simp) : P :=h
theorem Go.Ae.od {P : Prop} (h : P :=by decide) : P :=h
theorem Go.Ae.omQ {P : Prop} (h : P :=by omega) : P :=h
theorem Go.Ae.gQQ {P:Prop} (h:P:=by grind):P:=h
namespace Go.Ae
noncomputable section
def gtab : List (String × IntKind × List Int) := [("internal/strconv.uint64pow10", IntKind.u64, Lib.pow10Tab)]
inductive PT (α:Type) where
  |e
  |n (l:PT α) (v:Option α) (r:PT α)
def PT.get {α:Type} (t:PT α) (i:Nat):Option α :=
 PT.rec (motive:=λ_=>Nat→Option α) (λ_=>none)
  (λ_ v _ l r i=>Bool.rec (motive:=λ_=>Option α) (Bool.rec (motive:=λ_=>Option α) (r (Nat.sub (Nat.div i 2) 1)) (l (Nat.div i 2)) (Nat.beq (Nat.mod i 2) 1)) v (Nat.beq i 0)) t i
def PT.iz {α:Type} (f:Nat) (t:PT α) (i:Nat) (x:α):PT α :=
 Nat.rec (motive:=λ_=>PT α→Nat→PT α) (λ_ _=>.e)
  (λ_ ih t i=>PT.rec (motive:=λ_=>PT α)
   (Bool.rec (motive:=λ_=>PT α) (Bool.rec (motive:=λ_=>PT α) (.n .e none (ih .e (Nat.sub (Nat.div i 2) 1))) (.n (ih .e (Nat.div i 2)) none .e) (Nat.beq (Nat.mod i 2) 1)) (.n .e (some x) .e) (Nat.beq i 0))
   (λl v r _ _=>Bool.rec (motive:=λ_=>PT α) (Bool.rec (motive:=λ_=>PT α) (.n l v (ih r (Nat.sub (Nat.div i 2) 1))) (.n (ih l (Nat.div i 2)) v r) (Nat.beq (Nat.mod i 2) 1)) (.n l (some x) r) (Nat.beq i 0)) t) f t i
def PT.set {α:Type} (t:PT α) (i:Nat) (x:α):PT α:=PT.iz (i+1) t i x
def PT.mZ {α:Type} (i m:Nat) (t:PT α):PT α:=PT.rec (motive:=λ_=>PT α) .e (λl _ r _ _=>Bool.rec (motive:=λ_=>PT α) r l (Nat.beq (Nat.land i m) 0)) t
def PT.leaf {α:Type} (t:PT α):Option α:=PT.rec (motive:=λ_=>Option α) none (λ_ v _ _ _=>v) t
def PT.sub {α:Type} (i m:Nat) (f:PT α→PT α) (t:PT α):PT α :=
 PT.rec (motive:=λ_=>PT α) (Bool.rec (motive:=λ_=>PT α) (.n .e none (f .e)) (.n (f .e) none .e) (Nat.beq (Nat.land i m) 0))
  (λl v r _ _=>Bool.rec (motive:=λ_=>PT α) (.n l v (f r)) (.n (f l) v r) (Nat.beq (Nat.land i m) 0)) t
def PT.mark {α:Type} (x:α) (t:PT α):PT α:=PT.rec (motive:=λ_=>PT α) (.n .e (some x) .e) (λl _ r _ _=>.n l (some x) r) t
def PT.mh {α:Type} (t:PT α) (i:Nat):Option α:=PT.leaf (PT.mZ i 1 (PT.mZ i 2 (PT.mZ i 4 (PT.mZ i 8 (PT.mZ i 16 (PT.mZ i 32 (PT.mZ i 64 (PT.mZ i 128 (PT.mZ i 256 (PT.mZ i 512 (PT.mZ i 1024 (PT.mZ i 2048 (t)))))))))))))
def PT.oY {α:Type} (t:PT α) (i:Nat) (x:α):PT α:=PT.sub i 2048 (PT.sub i 1024 (PT.sub i 512 (PT.sub i 256 (PT.sub i 128 (PT.sub i 64 (PT.sub i 32 (PT.sub i 16 (PT.sub i 8 (PT.sub i 4 (PT.sub i 2 (PT.sub i 1 (PT.mark x)))))))))))) t
abbrev aQ (α:Type):=PT (PT α)
def aQ.get {α:Type} (t:aQ α) (i:Nat):Option α:=Option.rec (motive:=λ_=>Option α) none (λs=>PT.mh s i) (PT.get t (Nat.div i 4096))
def aQ.set {α:Type} (t:aQ α) (i:Nat) (x:α):aQ α:=PT.set t (Nat.div i 4096) (PT.oY (Option.rec (motive:=λ_=>PT α) .e (λs=>s) (PT.get t (Nat.div i 4096))) i x)
inductive AV where
  |bool (b:Bool)
  |int (k:IntKind) (n:Int)
  |str (s:List UInt8)
  |ptr (b off:Nat)
  |ba
  /--opn: the room is that of the block,less 'cap' elements ahead;else the room is 'cap'-/
  |slice (b off len cap:Nat) (aS:Bool)
  |ap
  |fn (f:FuncId) (first cap:List AV)
  |yield (l:Nat)
  |eG
  |iface (t:TypeId) (v:AV)
  |dt
  |agg (l:List AV)
  |cn (l:List AV)
  /--an empty slice without room,wherever it points-/
  |cA (a:Addr)
  /--an empty slice behind all that an open block's slice shows: where it points hangs on the room-/
  |tail (b off pO i1:Nat)
  /--a map of the walk's own-/
  |eV (b:Nat)
  deriving Inhabited
def AV.undef:AV:=.cn []
def AV.cells:AV→List AV
 | .agg l=>l
 |v=>[v]
def AV.one:AV→Bool
 | .agg _=>false
 | .cn _=>false
 |_=>true
def QV {α:Type} (l:List α) (i:Nat):Option α :=
 List.rec (motive:=λ_=>Nat→Option α) (λ_=>none) (λa _ ih i=>Bool.rec (motive:=λ_=>Option α) (ih (Nat.sub i 1)) (some a) (Nat.beq i 0)) l i
def vh {α:Type} (n:Nat) (l:List α):Option (List α) :=
 Nat.rec (motive:=λ_=>List α→Option (List α)) (λ_=>some [])
  (λ_ ih l=>List.rec (motive:=λ_=>Option (List α)) none (λa r _=>Option.rec (motive:=λ_=>Option (List α)) none (λs=>some (a::s)) (ih r)) l) n l
def gg {α:Type} (n:Nat) (l:List α):List α :=
 Nat.rec (motive:=λ_=>List α→List α) (λl=>l) (λ_ ih l=>List.rec (motive:=λ_=>List α) [] (λ_ r _=>ih r) l) n l
def Nf {α:Type} (l xs:List α):Option (List α) :=
 List.rec (motive:=λ_=>List α→Option (List α)) (λl=>some l)
  (λx _ ih l=>List.rec (motive:=λ_=>Option (List α)) none (λ_ l _=>Option.rec (motive:=λ_=>Option (List α)) none (λs=>some (x::s)) (ih l)) l) xs l
def JL {α:Type} (l:List α) (off:Nat) (xs:List α):Option (List α) :=
 Nat.rec (motive:=λ_=>List α→Option (List α)) (λl=>Nf l xs)
  (λ_ ih l=>List.rec (motive:=λ_=>Option (List α)) none (λa l _=>Option.rec (motive:=λ_=>Option (List α)) none (λs=>some (a::s)) (ih l)) l) off l
def gH {α:Type} (l:List α):Nat→List α
 | 0=>[]
 |n+1=>l++gH l n
inductive CT where
  |fj (xs:List AV)
  |tree (n:Nat) (z:List AV) (tr:aQ AV)
def Ji (z:List AV) (t:aQ AV) (i:Nat):Option AV:=Option.rec (motive:=λ_=>Option AV) (QV z (Nat.mod i z.length)) (λv=>some v) (aQ.get t i)
def kY (z:List AV) (t:aQ AV) (i:Nat):AV:=match Ji z t i with |some v=>v |none=>.undef
def An (t:aQ AV) (i:Nat) (xs:List AV):aQ AV :=
 List.rec (motive:=λ_=>aQ AV→Nat→aQ AV) (λt _=>t) (λx _ ih t i=>ih (aQ.set t i x) (Nat.succ i)) xs t i
def XO (z:List AV) (t:aQ AV) (i n:Nat):Option (List AV) :=
 Nat.rec (motive:=λ_=>Nat→Option (List AV)) (λ_=>some [])
  (λ_ ih i=>Option.rec (motive:=λ_=>Option (List AV)) none (λv=>Option.rec (motive:=λ_=>Option (List AV)) none (λs=>some (v::s)) (ih (Nat.succ i))) (Ji z t i)) n i
def CT.toList:CT→List AV
 | .fj xs=>xs
 | .tree n z tr=>(List.range n).map (kY z tr)
def CT.len:CT→Nat
 | .fj xs=>xs.length
 | .tree n _ _=>n
def CT.fk (c:CT) (i:Nat):Option AV:=match c with
 | .fj xs=>QV xs i
 | .tree n z tr=>bif Nat.ble (i+1) n then Ji z tr i else none
def CT.lr (c:CT) (off n:Nat):Option (List AV):=match c with
 | .fj xs=>vh n (gg off xs)
 | .tree m z tr=>bif Nat.beq n 0 then some []else bif Nat.ble (off+n) m then XO z tr off n else none
def CT.write (c:CT) (off:Nat) (xs:List AV):Option CT:=match c with
 | .fj ys=>(JL ys off xs).bind λs=>some (.fj s)
 | .tree n z tr=>bif Nat.ble (off+xs.length) n then some (.tree n z (An tr off xs))else none
def CT.ofList (xs:List AV):CT:=bif Nat.ble xs.length 16 then .fj xs else .tree xs.length [] (An .e 0 xs)
def CT.CN (z:List AV) (n:Nat):CT:=bif Nat.ble (z.length*n) 16 then .fj (gH z n)else .tree (z.length*n) z .e
def CT.lf (c:CT) (xs:List AV):CT:=match c with
 | .fj ys=>CT.ofList (ys++xs)
 | .tree n z tr=>.tree (n+xs.length) z (An tr n xs)
def CT.pre (c:CT) (n:Nat):Option CT:=match c with
 | .fj ys=>(vh n ys).bind λs=>some (.fj s)
 | .tree m z tr=>bif Nat.ble n m then some (.tree n z tr)else none
def CT.Il (c:CT) (off n:Nat):Option CT:=bif Nat.beq off 0 then c.pre n else(c.lr off n).bind λl=>some (CT.ofList l)
inductive AX where
  |normal
  |exit (id:Nat)
  |goto (l:Nat)
  |ret
inductive dh where
  |cells (c:CT) (elem:TypeId) (aS:Bool)
  |dead
  |iter (s:List UInt8) (pos:Nat)
  |loop (st:LoopState) (cx:Option AX) (fn:Nat) (pos L:List Nat) (vs:List AV) (d:Nat)
  |lT
  |pP
  /--cells that are the caller's: some are known,none is written-/
  |dv (t:aQ AV)
  /--a map of numbers to numbers: key,value,when it came;the clock-/
  |mp (l:List (Int×Int×Nat)) (clk:Nat)
structure AH where
  nx:Nat
  rc:List (Nat×dh)
  t:aQ dh
def VP (l:List (Nat×dh)) (b:Nat) (d:Option dh):Option dh:=List.rec (motive:=λ_=>Option dh) d (λp _ ih=>Bool.rec (motive:=λ_=>Option dh) ih (some p.2) (Nat.beq p.1 b)) l
def Zw (n:Nat) (l:List (Nat×dh)):List (Nat×dh) :=
 Nat.rec (motive:=λ_=>List (Nat×dh)→List (Nat×dh)) (λ_=>[]) (λ_ ih l=>List.rec (motive:=λ_=>List (Nat×dh)) [] (λp r _=>p::ih r) l) n l
def ZT (l:List (Nat×dh)) (t:aQ dh):aQ dh:=List.rec (motive:=λ_=>aQ dh) t (λp _ ih=>aQ.set ih p.1 p.2) l
def AH.get (h:AH) (b:Nat):Option dh:=VP h.rc b (aQ.get h.t b)
def AH.put (h:AH) (b:Nat) (x:dh):AH:=⟨h.nx,(b,x)::Zw 5 h.rc,ZT (gg 5 h.rc) h.t⟩
def AH.new (h:AH) (x:dh):AH:=⟨Nat.succ h.nx,(h.nx,x)::Zw 5 h.rc,ZT (gg 5 h.rc) h.t⟩
def Ul:Value→Option AV
 | .bool b=>some (.bool b)
 | .int k n=>some (.int k n)
 | .string s=>some (.str s.data.toList)
 | .pointer none=>some .ba
 | .slice none 0 0=>some .ap
 | .nilFunc=>some .eG
 | .nilIface=>some .dt
 |_=>none
def kK {α β:Type} (f:α→Option β):List α→Option (List β)
 |[]=>some []
 |a::r=>(f a).bind λb=>(kK f r).bind λs=>some (b::s)
def Nz:Value→Option AV
 | .agg cs=>(kK Ul cs.toList).map .agg
 | .tuple cs=>(kK Ul cs.toList).map .cn
 | .func (.func f) first cap=>bif first.isEmpty&&cap.isEmpty then some (.fn f [] [])else none
 |v=>Ul v
def ev (tm:PT AV):Operand→Option AV
 | .tmp t=>tm.get t
 | .const v=>Nz v
 | .global _=>none
 | .func f=>some (.fn f [] [])
def vv (h:AH) (b off n:Nat):Option (List AV) :=
 match h.get b with
 |some (.cells c _ _)=>c.lr off n
 |some (.dv t)=>XO [] t off n
 |_=>none
def qt (l:List AV):Bool:=l.all AV.one
def kX (h:AH) (b off:Nat) (xs:List AV):Option AH :=
 match h.get b with
 |some (.cells c e o)=>bif qt xs then(c.write off xs).bind λc'=>some (h.put b (.cells c' e o))else none
 |_=>none
def bh (P:Program) (t:TypeId):Option Nat:=(P.info? t).map (·.size)
def fJ (P:Program) (t:TypeId):Option AV:=(P.info? t).bind λi=>i.zero.bind Nz
def iB (P:Program) (t:TypeId):Option Bool:=(P.underlying t).map fun | .struct _=>true | .array _ _=>true |_=>false
def QK (P:Program) (t:TypeId):Option (Option Nat):=(iB P t).bind λa=>bif a then(bh P t).map some else some none
def vL:List AV→List (Nat×Nat×AV)→Option (List AV)
 |cs,[]=>some cs
 |cs,(o,n,v)::r=>bif Nat.beq v.cells.length n then(JL cs o v.cells).bind λPd=>vL Pd r else none
def xy (k:IntKind) (n:Int):Int :=
 match k,n with
 | .i64,.ofNat a=>bif Nat.ble a 9223372036854775807 then .ofNat a else IntKind.wrap .i64 (.ofNat a)
 | .i64,.negSucc a=>bif Nat.ble a 9223372036854775807 then .negSucc a else IntKind.wrap .i64 (.negSucc a)
 | .u64,.ofNat a=>.ofNat (a%18446744073709551616)
 | .u64,.negSucc a=>.ofNat (18446744073709551615-a%18446744073709551616)
 | .u8,.ofNat a=>.ofNat (a%256)
 |k,n=>IntKind.wrap k n
def nr:Int→Int→Bool
 | .ofNat a,.ofNat b=>Nat.beq a b
 | .negSucc a,.negSucc b=>Nat.beq a b
 |_,_=>false
def oZ:Int→Int→Bool
 | .ofNat a,.ofNat b=>Nat.ble (a+1) b
 | .ofNat _,.negSucc _=>false
 | .negSucc _,.ofNat _=>true
 | .negSucc a,.negSucc b=>Nat.ble (b+1) a
def Jb (op:BinOp) (k:IntKind) (x y:Int):Option AV :=
 match op with
 | .add=>some (.int k (xy k (x+y)))
 | .sub=>some (.int k (xy k (x-y)))
 | .mul=>some (.int k (xy k (x*y)))
 | .quo=>bif nr y 0 then none else some (.int k (xy k (x.tdiv y)))
 | .rem=>bif nr y 0 then none else some (.int k (x.tmod y))
 | .and=>some (.int k (k.wrap (BitVec.ofInt k.bits x&&&BitVec.ofInt k.bits y).toNat))
 | .or=>some (.int k (k.wrap (BitVec.ofInt k.bits x|||BitVec.ofInt k.bits y).toNat))
 | .xor=>some (.int k (k.wrap (BitVec.ofInt k.bits x ^^^ BitVec.ofInt k.bits y).toNat))
 | .andNot=>some (.int k (k.wrap (BitVec.ofInt k.bits x&&& ~~~ BitVec.ofInt k.bits y).toNat))
 | .eql=>some (.bool (nr x y))
 | .neq=>some (.bool (!nr x y))
 | .lss=>some (.bool (oZ x y))
 | .leq=>some (.bool (!oZ y x))
 | .gtr=>some (.bool (oZ y x))
 | .geq=>some (.bool (!oZ x y))
 | .shl | .shr=>none
def Im (op:BinOp) (k:IntKind) (x y:Int):Option AV :=
 bif oZ y 0 then none else
 match op with
 | .shl=>some (.int k (xy k (x*2 ^ (min y.toNat k.bits))))
 | .shr=>some (.int k (x.fdiv (2 ^ (min y.toNat k.bits))))
 |_=>none
def lu:List UInt8→List UInt8→Bool
 |[],[]=>true
 |a::x,b::y=>a==b&&lu x y
 |_,_=>false
def Ao (op:BinOp) (x y:List UInt8):Option AV :=
 match op with
 | .add=>bif Nat.ble (x.length+y.length) 1073741824 then some (.str (x++y))else none
 | .eql=>some (.bool (lu x y))
 | .neq=>some (.bool (!lu x y))
 | .lss=>some (.bool (Op.bytesLess x y))
 | .leq=>some (.bool (Op.bytesLess x y||lu x y))
 | .gtr=>some (.bool (!(Op.bytesLess x y||lu x y)))
 | .geq=>some (.bool (!Op.bytesLess x y))
 |_=>none
inductive EK where
  |bool |int |str |ptr |CO |fn |Io
def MG:TypeDesc→Option EK
 | .bool=>some .bool
 | .int _=>some .int
 | .string=>some .str
 | .pointer _=>some .ptr
 | .slice _=>some .CO
 | .func _ _ _=>some .fn
 | .interface _=>some .Io
 |_=>none
def Y5 (d:EK) (x y:AV):Option Bool :=
 match d,x,y with
 | .bool,.bool a,.bool b=>some (a==b)
 | .int,.int k a,.int k' b=>bif k==k' then some (nr a b)else none
 | .str,.str a,.str b=>some (lu a b)
 | .ptr,.ba,.ba=>some true
 | .ptr,.ba,.ptr _ _=>some false
 | .ptr,.ptr _ _,.ba=>some false
 | .CO,.ap,.ap=>some true
 | .CO,.ap,.slice ..=>some false
 | .CO,.slice ..,.ap=>some false
 | .fn,.eG,.eG=>some true
 | .fn,.eG,.fn ..=>some false
 | .fn,.fn ..,.eG=>some false
 | .Io,.dt,.iface _ _=>some false
 | .Io,.iface _ _,.dt=>some false
 |_,_,_=>none
inductive ES where
  |nt (k:EK) (o:Nat)
  |len (n:Nat)
def yK:List ES→List AV→List AV→Option Bool
 |[],_,_=>some true
 | .nt d o::r,xs,ys=>(QV xs o).bind λx=>(QV ys o).bind λy=>(Y5 d x y).bind λe=>bif e then yK r xs ys else some false
 | .len n::r,xs,ys=>bif Nat.ble n xs.length&&Nat.ble n ys.length then yK r xs ys else none
def XU (n:Nat):List ES→Bool
 |[]=>true
 | .nt _ o::r=>Nat.ble (o+1) n&&XU n r
 | .len m::r=>Nat.ble m n&&XU n r
def Kx (c:Nat):List ES→List ES
 |[]=>[]
 | .nt k o::r=>.nt k (c+o)::Kx c r
 | .len m::r=>.len (c+m)::Kx c r
def Y7 (P:Program) (nest:List Field→Option (List ES)):List Field→Option (List ES)
 |[]=>some []
 | f :: r => bif f.name == "_" then none else (P.underlying f.type).bind fun u => match u with
  | .struct fs=>(bh P f.type).bind λn=>bif P.stoodInHeld f.type then none else(nest fs.toList).bind λl1=>bif XU n l1 then(Y7 P nest r).map λl2=>.len (f.offset+n)::(Kx f.offset l1++l2)else none
  |u=>(MG u).bind λk=>match k with
   | .Io=>none
   |k=>(Y7 P nest r).map λl=>.nt k f.offset::l
def gI (P:Program):Nat→List Field→Option (List ES)
 | 0,_=>none
 |d+1,fs=>Y7 P (gI P d) fs
abbrev R:=Option (AV×AH)
abbrev CV:=AV→List AV→AH→R
abbrev ob {α:Type} (x:Option α) (k:α→R):R:=match x with |some a=>k a |none=>none
abbrev da (b:Bool) (x y:R):R:=match b with |true=>x |false=>y
def yp {α:Type} (j:α) (f:α→R):R:=f j
def Gc {σ:Type} (N:Nat) (f:(σ→AH→List Nat→R)→σ→AH→List Nat→R):σ→AH→List Nat→R :=
 Nat.rec (motive:=λ_=>σ→AH→List Nat→R) (λ_ _ _=>none) (λ_ ih=>f ih) N
def AV.asBool (v:AV) (f:Bool→R) (d:R):R :=
 AV.rec (motive_1:=λ_=>R) (motive_2:=λ_=>PUnit) (λx0=>f x0) (λ_ _=>d) (λ_=>d) (λ_ _=>d) d (λ_ _ _ _ _=>d) d (λ_ _ _ _ _=>d) (λ_=>d) d (λ_ _ _=>d) d (λ_ _=>d) (λ_ _=>d) (λ_=>d) (λ_ _ _ _=>d) (λ_=>d) ⟨⟩ (λ_ _ _ _=>⟨⟩) v
def AV.asInt (v:AV) (f:IntKind→Int→R) (d:R):R :=
 AV.rec (motive_1:=λ_=>R) (motive_2:=λ_=>PUnit) (λ_=>d) (λx0 x1=>f x0 x1) (λ_=>d) (λ_ _=>d) d (λ_ _ _ _ _=>d) d (λ_ _ _ _ _=>d) (λ_=>d) d (λ_ _ _=>d) d (λ_ _=>d) (λ_ _=>d) (λ_=>d) (λ_ _ _ _=>d) (λ_=>d) ⟨⟩ (λ_ _ _ _=>⟨⟩) v
def AV.o7 (v:AV) (f:Nat→Nat→R) (d:R):R :=
 AV.rec (motive_1:=λ_=>R) (motive_2:=λ_=>PUnit) (λ_=>d) (λ_ _=>d) (λ_=>d) (λx0 x1=>f x0 x1) d (λ_ _ _ _ _=>d) d (λ_ _ _ _ _=>d) (λ_=>d) d (λ_ _ _=>d) d (λ_ _=>d) (λ_ _=>d) (λ_=>d) (λ_ _ _ _=>d) (λ_=>d) ⟨⟩ (λ_ _ _ _=>⟨⟩) v
def AV.asSlice (v:AV) (f:Nat→Nat→Nat→Nat→Bool→R) (d:R):R :=
 AV.rec (motive_1:=λ_=>R) (motive_2:=λ_=>PUnit) (λ_=>d) (λ_ _=>d) (λ_=>d) (λ_ _=>d) d (λx0 x1 x2 x3 x4=>f x0 x1 x2 x3 x4) d (λ_ _ _ _ _=>d) (λ_=>d) d (λ_ _ _=>d) d (λ_ _=>d) (λ_ _=>d) (λ_=>d) (λ_ _ _ _=>d) (λ_=>d) ⟨⟩ (λ_ _ _ _=>⟨⟩) v
def AV.asAgg (v:AV) (f:List AV→R) (d:R):R :=
 AV.rec (motive_1:=λ_=>R) (motive_2:=λ_=>PUnit) (λ_=>d) (λ_ _=>d) (λ_=>d) (λ_ _=>d) d (λ_ _ _ _ _=>d) d (λ_ _ _ _ _=>d) (λ_=>d) d (λ_ _ _=>d) d (λx0 _=>f x0) (λ_ _=>d) (λ_=>d) (λ_ _ _ _=>d) (λ_=>d) ⟨⟩ (λ_ _ _ _=>⟨⟩) v
def AV.DK (v:AV) (f:List AV→R) (d:R):R :=
 AV.rec (motive_1:=λ_=>R) (motive_2:=λ_=>PUnit) (λ_=>d) (λ_ _=>d) (λ_=>d) (λ_ _=>d) d (λ_ _ _ _ _=>d) d (λ_ _ _ _ _=>d) (λ_=>d) d (λ_ _ _=>d) d (λ_ _=>d) (λx0 _=>f x0) (λ_=>d) (λ_ _ _ _=>d) (λ_=>d) ⟨⟩ (λ_ _ _ _=>⟨⟩) v
def kn (k:IntKind):Nat:=IntKind.rec (motive:=λ_=>Nat) 0 1 2 3 4 5 6 7 k
def Pe (a b:IntKind):Bool:=Nat.beq (kn a) (kn b)
def Bj (t w:Bool):Bool:=Bool.rec (motive:=λ_=>Bool) (Bool.rec (motive:=λ_=>Bool) true false w) (Bool.rec (motive:=λ_=>Bool) false true w) t
def Bk (x y:Int):Int:=Int.rec (motive:=λ_=>Int) (λa=>Int.rec (motive:=λ_=>Int) (λb=>.ofNat (Nat.add a b)) (λb=>Int.add (.ofNat a) (.negSucc b)) y) (λa=>Int.add (.negSucc a) y) x
def Bl (x y:Int):Int:=Int.rec (motive:=λ_=>Int) (λa=>Int.rec (motive:=λ_=>Int) (λb=>Bool.rec (motive:=λ_=>Int) (.negSucc (Nat.sub (Nat.sub b a) 1)) (.ofNat (Nat.sub a b)) (Nat.ble b a)) (λb=>Int.sub (.ofNat a) (.negSucc b)) y) (λa=>Int.sub (.negSucc a) y) x
def uf (x y:Int):Bool:=Int.rec (motive:=λ_=>Bool) (λa=>Int.rec (motive:=λ_=>Bool) (λb=>Nat.ble (Nat.succ a) b) (λ_=>false) y) (λa=>Int.rec (motive:=λ_=>Bool) (λ_=>true) (λb=>Nat.ble (Nat.succ b) a) y) x
def DL (x y:Int):Bool:=Int.rec (motive:=λ_=>Bool) (λa=>Int.rec (motive:=λ_=>Bool) (λb=>Nat.beq a b) (λ_=>false) y) (λa=>Int.rec (motive:=λ_=>Bool) (λ_=>false) (λb=>Nat.beq a b) y) x
def Bm (b:Bool):Bool:=Bool.rec (motive:=λ_=>Bool) true false b
def DM (k:IntKind) (n:Int) (f:Int→R):R :=
 IntKind.rec (motive:=λ_=>R) (f (xy .i8 n)) (f (xy .i16 n)) (f (xy .i32 n))
  (Int.rec (motive:=λ_=>R) (λa=>Bool.rec (motive:=λ_=>R) (f (xy .i64 (.ofNat a))) (f (.ofNat a)) (Nat.ble a 9223372036854775807)) (λa=>f (xy .i64 (.negSucc a))) n)
  (f (xy .u8 n)) (f (xy .u16 n)) (f (xy .u32 n))
  (Int.rec (motive:=λ_=>R) (λa=>Bool.rec (motive:=λ_=>R) (f (xy .u64 (.ofNat a))) (f (.ofNat a)) (Nat.ble a 18446744073709551615)) (λa=>f (xy .u64 (.negSucc a))) n) k
def Pf (op:BinOp) (k:IntKind) (x y:Int) (f:AV→R):R :=
 BinOp.rec (motive:=λ_=>R) (DM k (Bk x y) λn=>f (.int k n)) (DM k (Bl x y) λn=>f (.int k n)) (ob (Jb .mul k x y) f)
  (ob (Jb .quo k x y) f) (ob (Jb .rem k x y) f) (ob (Jb .and k x y) f) (ob (Jb .or k x y) f) (ob (Jb .xor k x y) f) (ob (Jb .shl k x y) f) (ob (Jb .shr k x y) f) (ob (Jb .andNot k x y) f)
  (f (.bool (DL x y))) (f (.bool (Bm (DL x y)))) (f (.bool (uf x y))) (f (.bool (Bm (uf y x)))) (f (.bool (uf y x))) (f (.bool (Bm (uf x y)))) op
def xA (v:AV) (a b:R):R:=v.asBool (λt=>Bool.rec (motive:=λ_=>R) b a t) none
def Qc (v:AV) (w:Bool) (a b:R):R:=v.asBool (λt=>Bool.rec (motive:=λ_=>R) b a (Bj t w)) b
def QW (c a b:AV) (k:AV→R):R:=c.asBool (λt=>Bool.rec (motive:=λ_=>R) (k b) (k a) t) none
def yB (v:AV) (k:AV→R):R:=match v with | .ptr b o=>k (.ptr b o) | .fn f a c=>k (.fn f a c) | .yield l=>k (.yield l) |_=>none
def jJ (v:AV) (off:Nat) (k:AV→R):R:=v.o7 (λb o=>k (.ptr b (Nat.add o off))) none
def KJ (v:AV) (off:Nat) (k:AV→R):R:=v.asAgg (λcs=>Option.rec (motive:=λ_=>R) none k (QV cs off)) none
def Yt (v:AV) (off n:Nat) (k:AV→R):R:=match v with | .agg cs=>ob (vh n (gg off cs)) λl=>k (.agg l) |_=>none
def w4 (v i:AV) (sz:Nat) (k:AV→R):R :=
 v.asSlice (λb off len _ _=>i.asInt (λ_ n=>Int.rec (motive:=λ_=>R) (λa=>Bool.rec (motive:=λ_=>R) none (k (.ptr b (Nat.add off (Nat.mul a sz)))) (Nat.ble (Nat.succ a) len)) (λ_=>none) n) none) none
def Jg (v i:AV) (n sz:Nat) (k:AV→R):R:=match v,i with | .ptr b off,.int _ (.ofNat a)=>bif Nat.ble (a+1) n then k (.ptr b (off+a*sz))else none |_,_=>none
def YR (v i:AV) (n sz:Nat) (k:AV→R):R:=match v,i with | .agg cs,.int _ (.ofNat a)=>bif Nat.ble (a+1) n then ob (QV cs (a*sz)) k else none |_,_=>none
def YS (v i:AV) (n sz:Nat) (k:AV→R):R:=match v,i with | .agg cs,.int _ (.ofNat a)=>bif Nat.ble (a+1) n then ob (vh sz (gg (a*sz) cs)) λl=>k (.agg l)else none |_,_=>none
def wF (v i:AV) (k:AV→R):R:=match v,i with | .str s,.int _ (.ofNat a)=>ob (QV s a) λc=>k (.int .u8 (.ofNat c.toNat)) |_,_=>none
def ji (h:AH) (v:AV) (k:AV→R):R :=
 v.o7 (λb off=>Option.rec (motive:=λ_=>R) none (λx=>dh.rec (motive:=λ_=>R) (λc _ _=>Option.rec (motive:=λ_=>R) none k (c.fk off)) none (λ_ _=>none) (λ_ _ _ _ _ _ _=>none) none none (λt=>Option.rec (motive:=λ_=>R) none k (aQ.get t off)) (λ_ _=>none) x) (h.get b)) none
def zp (h:AH) (v:AV) (n:Nat) (k:AV→R):R:=v.o7 (λb off=>Option.rec (motive:=λ_=>R) none (λl=>k (.agg l)) (vv h b off n)) none
def zV (h:AH) (a x:AV) (n:Nat) (k:AH→R):R:=a.o7 (λb off=>Bool.rec (motive:=λ_=>R) none (Option.rec (motive:=λ_=>R) none k (kX h b off x.cells)) (Nat.beq x.cells.length n)) none
def zB (op:BinOp) (x y:AV) (k:AV→R):R:=x.asInt (λk1 a=>y.asInt (λk2 b=>Bool.rec (motive:=λ_=>R) none (Pf op k1 a b k) (Pe k1 k2)) none) none
def kC (op:BinOp) (x y:AV) (k:AV→R):R:=match x,y with | .int k1 a,.int _ b=>ob (Im op k1 a b) k |_,_=>none
def ug (op:BinOp) (x y:AV) (k:AV→R):R:=match x,y with | .str a,.str b=>ob (Ao op a b) k |_,_=>none
def n8 (d:EK) (neg:Bool) (x y:AV) (k:AV→R):R:=ob (Y5 d x y) λe=>k (.bool (e !=neg))
def UW (l:List ES) (neg:Bool) (x y:AV) (k:AV→R):R:=match x,y with | .agg a,.agg b=>ob (yK l a b) λe=>k (.bool (e !=neg)) |_,_=>none
def rX (op:UnOp) (x:AV) (k:AV→R):R :=
 match op,x with
 | .neg,.int d n=>k (.int d (xy d (0-n)))
 | .not,.bool b=>k (.bool (!b))
 | .xor,.int d n=>k (.int d (d.wrap (BitVec.ofInt d.bits (if d.signed then-1 else d.max) ^^^ BitVec.ofInt d.bits n).toNat))
 |_,_=>none
def gt (d:IntKind) (x:AV) (k:AV→R):R:=match x with | .int _ n=>k (.int d (xy d n)) |_=>none
def YI (x:AV) (k:AV→R):R:=match x with | .str s=>k (.str s) |_=>none
def Jo:List AV→Option (List UInt8)
 |[]=>some []
 | .int .u8 (.ofNat n)::r=>(Jo r).bind λs=>some (UInt8.ofNat n::s)
 |_=>none
def KZ (h:AH) (x:AV) (k:AV→R):R:=match x with | .ap=>k (.str []) | .slice b off len _ _=>ob (vv h b off len) λcs=>ob (Jo cs) λs=>k (.str s) |_=>none
def CP (h:AH) (e:TypeId) (x:AV) (k:AV→AH→R):R:=match x with
 | .str s=>bif Nat.ble s.length 1073741824 then k (.slice h.nx 0 s.length 0 true) (h.new (.cells (CT.ofList (s.map λ(c:UInt8)=>.int .u8 (.ofNat c.toNat))) e true))else none
 |_=>none
def uh (x:AV) (y:Nat):Option Nat:=match x with | .int _ (.ofNat a)=>bif Nat.ble a y then some a else none |_=>none
def gQ (x:Option AV) (y eH:Nat):Option Nat:=match x with |none=>some eH |some v=>uh v y
def wB (v:AV) (lo hi:Option AV) (k:AV→R):R:=match v with
 | .str s=>ob (gQ hi s.length s.length) λh=>ob (gQ lo h 0) λl=>ob (vh (h-l) (gg l s)) λt=>k (.str t)
 |_=>none
def vo (h:AH) (el:TypeId) (b off sz i0 len:Nat):Bool:=match h.get b with
 |some (.cells c e true)=>Nat.beq el e&&(Nat.ble 1 sz&&(Nat.beq off (i0*sz)&&Nat.ble (off+len*sz) c.len))
 |_=>false
def yh (h:AH) (el:TypeId) (sz:Nat) (v:AV) (lo hi:Option AV) (k:AV→R):R:=match v with
 | .slice b off len cap false=>ob (gQ hi cap len) λu=>ob (gQ lo u 0) λl=>k (.slice b (bif Nat.beq cap l then off else off+l*sz) (u-l) (cap-l) false)
 | .slice b off len i0 true=>bif vo h el b off sz i0 len then
   ob (gQ hi len len) λu=>ob (gQ lo u 0) λl=>bif Nat.beq l 0 then k (.slice b off u i0 true)else bif Nat.ble (l+1) len then k (.slice b (off+l*sz) (u-l) (i0+l) true)else k (.tail b off (off+l*sz) (i0+l))
  else none
 | .ap=>ob (gQ hi 0 0) λ_=>ob (gQ lo 0 0) λ_=>k .ap
 | .cA a=>ob (gQ hi 0 0) λ_=>ob (gQ lo 0 0) λ_=>k (.cA a)
 |_=>none
def wI (n sz:Nat) (v:AV) (lo hi:Option AV) (k:AV→R):R:=match v with
 | .ptr b off=>ob (gQ hi n n) λh=>ob (gQ lo h 0) λl=>k (.slice b (bif Nat.beq n l then off else off+l*sz) (h-l) (n-l) false)
 |_=>none
def yM (t:TypeId) (z v:AV) (k:AV→R):R:=match v with
 | .iface u x=>bif Nat.beq u t then k (.cn [x,.bool true])else k (.cn [z,.bool false])
 | .dt=>k (.cn [z,.bool false])
 |_=>none
def Qd (t:TypeId) (v:AV) (k:AV→R):R:=match v with | .iface u x=>bif Nat.beq u t then k x else none |_=>none
def xC (v:AV) (i:Nat) (k:AV→R):R:=v.DK (λl=>Option.rec (motive:=λ_=>R) none k (QV l i)) none
def Qb (v:AV) (k:AV→R):R:=match v with | .slice _ _ len _ _=>k (.int .i64 (.ofNat len)) | .ap=>k (.int .i64 (.ofNat 0)) | .cA _=>k (.int .i64 (.ofNat 0)) | .tail _ _ _ _=>k (.int .i64 (.ofNat 0)) |_=>none
def J2 (v:AV) (k:AV→R):R:=match v with | .str s=>k (.int .i64 (.ofNat s.length)) |_=>none
def DN (mx:Bool):AV→AV→Option AV
 | .int k x,.int k' y=>bif k==k' then some (.int k (bif mx then(bif oZ x y then y else x)else(bif oZ y x then y else x)))else none
 |_,_=>none
def Bn (mx:Bool):AV→List AV→Option AV
 |a,[]=>some a
 |a,b::r=>(DN mx a b).bind λc=>Bn mx c r
def M7:AV→Bool | .int _ _=>true |_=>false
def o8 (mx:Bool) (l:List AV) (k:AV→R):R:=match l with |a::r=>bif M7 a then ob (Bn mx a r) k else none |[]=>none
def w5 (h:AH) (e:TypeId) (v:AV) (k:AV→AH→R):R:=bif qt v.cells then k (.ptr h.nx 0) (h.new (.cells (CT.ofList v.cells) e false))else none
def yi (z:List AV) (vs:List (Nat×Nat×AV)) (k:AV→R):R:=ob (vL z vs) λl=>k (.agg l)
def xL (h:AH) (e:TypeId) (z:List AV) (len:Nat) (vs:List (Nat×Nat×AV)) (k:AV→AH→R):R :=
 ob (vL (gH z len) vs) λcs=>bif qt cs then k (.slice h.nx 0 len len false) (h.new (.cells (CT.ofList cs) e false))else none
def JY (h:AH) (e:TypeId) (z:List AV) (l c:AV) (k:AV→AH→R):R:=match l,c with
 | .int _ (.ofNat ln),.int _ (.ofNat cp)=>bif Nat.ble ln cp&&Nat.ble cp 1073741824 then k (.slice h.nx 0 ln cp false) (h.new (.cells (CT.CN z cp) e false))else none
 |_,_=>none
def Xo (h:AH) (sz n:Nat):AV→Option (List AV)
 | .slice b off _ _ _=>vv h b off (n*sz)
 | .ap=>some []
 | .cA _=>bif Nat.beq n 0 then some []else none
 | .tail _ _ _ _=>bif Nat.beq n 0 then some []else none
 | .str s=>(vh n s).map (List.map λ(c:UInt8)=>AV.int .u8 (.ofNat c.toNat))
 |_=>none
def Ue:AV→Option Nat
 | .slice _ _ len _ _=>some len
 | .ap=>some 0
 | .cA _=>some 0
 | .tail _ _ _ _=>some 0
 | .str s=>some s.length
 |_=>none
def Nb (h:AH) (sz n:Nat):AV→Option CT
 | .slice b off _ _ _=>(match h.get b with
  |some (.cells c _ _)=>c.Il off (n*sz)
  |some (.dv t)=>(XO [] t off (n*sz)).bind λl=>some (CT.ofList l)
  |_=>none)
 | .ap=>some (.fj [])
 | .cA _=>bif Nat.beq n 0 then some (.fj [])else none
 | .tail _ _ _ _=>bif Nat.beq n 0 then some (.fj [])else none
 | .str s=>(vh n s).bind λl=>some (CT.ofList (l.map λ(c:UInt8)=>AV.int .u8 (.ofNat c.toNat)))
 |_=>none
def vw (h:AH) (e:TypeId) (sz:Nat) (s:AV) (n:Nat) (nc:CT) (k:AV→AH→R):R:=match s with
 | .ap=>bif Nat.beq n 0 then k .ap h else bif Nat.ble n 67108864 then k (.slice h.nx 0 n 0 true) (h.new (.cells nc e true))else none
 | .slice b off len cap false=>
  bif Nat.ble (len+n) cap then(bif Nat.beq n 0 then k (.slice b off len cap false) h else ob (kX h b (off+len*sz) nc.toList) λh'=>k (.slice b off (len+n) cap false) h')
  else bif Nat.ble (len+n) 67108864 then ob (vv h b off (len*sz)) λcD=>k (.slice h.nx 0 (len+n) 0 true) (h.new (.cells (bif Nat.beq len 0 then nc else CT.ofList (cD++nc.toList)) e true))
  else none
 | .slice b off len i0 true=>
  match h.get b with
  |some (.cells c e' true)=>
   bif Nat.ble 1 sz&&(Nat.beq off (i0*sz)&&(Nat.beq e e'&&Nat.ble (off+len*sz) c.len))then
    bif Nat.beq n 0 then k (.slice b off len i0 true) h else
    bif Nat.ble (off+(len+n)*sz) c.len then ob (kX h b (off+len*sz) nc.toList) λh'=>k (.slice b off (len+n) i0 true) h'
    else bif Nat.beq i0 0&&(Nat.ble (len+n) 67108864&&qt nc.toList)then
     ob (c.pre (len*sz)) λcD=>k (.slice h.nx 0 (len+n) 0 true) ((h.put b .dead).new (.cells (cD.lf nc.toList) e true))
    else none
   else none
  |_=>none
 |_=>none
def xk (h:AH) (e:TypeId) (sz:Nat) (s x:AV) (k:AV→AH→R):R :=
 ob (Ue x) λn=>ob (Nb h sz n x) λnc=>bif Nat.beq nc.len (n*sz)then vw h e sz s n nc k else none
def Ip (x:Int):List (Int×Int×Nat)→Nat→Option (Nat×Int×Nat)
 |[],_=>none
 |e::r,i=>bif nr x e.1 then some (i,e.2)else Ip x r (i+1)
def WM (x:Int):List (Int×Int×Nat)→Nat→Option Nat
 |[],_=>none
 |e::r,i=>bif nr (.ofNat e.2.2) x then some i else WM x r (i+1)
def vR (y:Int):List (Int×Int×Nat)→Nat→List (Int×Int×Nat)
 |[],_=>[]
 |e::r,0=>(e.1,y,e.2.2)::r
 |e::r,i+1=>e::vR y r i
def Ze (h:AH) (v:AV) (k:AV→R):R:=match v with
 | .eV b=>(match h.get b with |some (.mp l _)=>k (.int .i64 (.ofNat l.length)) |_=>none)
 |_=>none
def U6 (h:AH) (v i:AV) (k:AV→R):R:=match v,i with
 | .eV b,.int .i64 x=>(match h.get b with |some (.mp l _)=>(match Ip x l 0 with |some e=>k (.int .i64 e.2.1) |none=>k (.int .i64 (.ofNat 0))) |_=>none)
 |_,_=>none
def OC (h:AH) (v i:AV) (k:AV→AH→R):R:=match v,i with
 | .eV b,.int .i64 x=>(match h.get b with
  |some (.mp l c)=>(match Ip x l 0 with |some e=>k (.cn [.int .i64 e.2.1,.int .i64 (.ofNat e.2.2)]) h |none=>k (.cn [.int .i64 (.ofNat 0),.int .i64 (.ofNat c)]) (h.put b (.mp (l++[(x,.ofNat 0,c)]) (c+1))))
  |_=>none)
 |_,_=>none
def CQ (h:AH) (v s y:AV) (k:AH→R):R:=match v,s,y with
 | .eV b,.int .i64 x,.int .i64 z=>(match h.get b with
  |some (.mp l c)=>(match WM x l 0 with |some i=>k (h.put b (.mp (vR z l i) c)) |none=>none)
  |_=>none)
 |_,_,_=>none
def ZX (h:AH) (v i y:AV) (k:AH→R):R:=match v,i,y with
 | .eV b,.int .i64 x,.int .i64 z=>(match h.get b with
  |some (.mp l c)=>(match Ip x l 0 with |some e=>k (h.put b (.mp (vR z l e.1) c)) |none=>k (h.put b (.mp (l++[(x,z,c)]) (c+1))))
  |_=>none)
 |_,_,_=>none
def Oo (h:AH) (v:AV) (k:AV→AH→R):R:=match v with
 | .ptr b 0=>(match h.get b with
  |some (.iter s pos)=>bif Nat.ble (pos+1) s.length then
    k (.cn [.bool true,.int .i64 (.ofNat pos),.int .i32 (Utf8.decode ⟨s.toArray⟩ pos).1]) (h.put b (.iter s (pos+(Utf8.decode ⟨s.toArray⟩ pos).2)))
   else k (.cn [.bool false]) h
  |_=>none)
 |_=>none
def zS (c:CV) (f:AV) (a:List AV) (h:AH) (k:AV→AH→R):R:=Option.rec (motive:=λ_=>R) none (λq=>k q.1 q.2) (c f a h)
def VB (l:List (Nat×Nat)) (t:Nat):Option Nat:=List.rec (motive:=λ_=>Option Nat) none (λp _ ih=>Bool.rec (motive:=λ_=>Option Nat) ih (some p.2) (Nat.beq p.1 t)) l
def vV (c:CV) (l:List (Nat×Nat)) (v:AV) (a:List AV) (h:AH) (k:AV→AH→R):R:=match v with
 | .iface t x=>Option.rec (motive:=λ_=>R) none (λf=>zS c (.fn f [] []) (x::a) h k) (VB l t)
 |_=>none
def X5 (c:CV) (f:AV) (a:List AV) (h:AH) (k:AV→AH→R):R:=match f with | .fn _ _ _=>zS c f a h k |_=>none
def Iq (P:Program) (name:String) (t:TypeId):Option Nat :=
 (P.info? t).bind λi=>(i.methods.toList.find? (·.name==name)).bind λm=>bif m.path.isEmpty then m.func.bind λg=>bif g.2 then(P.underlying t).bind λd=>(match d with | .pointer _=>some g.1 |_=>none)else none else none
def DO (P:Program) (name:String):List Nat→List (Nat×Nat)
 |[]=>[]
 |t::r=>match Iq P name t with |some f=>(t,f)::DO P name r |none=>DO P name r
def Pg (P:Program) (name:String):List (Nat×Nat):=DO P name (List.range P.types.size)
def WN (P:Program) (t:TypeId) (f:Nat):Option Nat :=
 (P.underlying t).bind fun | .struct fs=>(fs[f]?).bind λg=>(bh P g.type).bind λsz=>bif Nat.beq sz 0 then none else some g.offset |_=>none
def Zy (P:Program) (t:TypeId) (f:Nat):Option (Nat×Option Nat) :=
 (P.underlying t).bind fun | .struct fs=>(fs[f]?).bind λg=>(QK P g.type).map λi=>(g.offset,i) |_=>none
def yb (pl:Nat→Option (Nat×Nat)) (r:Operand→Option AV):List (Nat×Operand)→Option (List (Nat×Nat×AV))
 |[]=>some []
 |(i,x)::l=>(pl i).bind λp=>(r x).bind λv=>(yb pl r l).map λs=>(p.1,p.2,v)::s
def Qx (P:Program) (fs:List Field):Option (List (Nat×Nat)):=kK (λf=>(bh P f.type).map λn=>(f.offset,n)) fs
def Kz (r:Operand→Option AV):Option Operand→Option (Option AV)
 |none=>some none
 |some x=>(r x).map some
abbrev DP (P:Program) (op:BinOp) (t:TypeId) (a b:AV) (k:AV→R):R :=
 match op with
 | .shl=>kC .shl a b k
 | .shr=>kC .shr a b k
 |op=>ob (P.underlying t) λd=>match d with
  | .int _=>zB op a b k
  | .string=>ug op a b k
  | .struct fs=>match op with
   | .eql=>da (P.eqGuardType P.depth t||P.stoodInHeld t) (none) (ob (gI P 8 fs.toList) λl=>UW l false a b k)
   | .neq=>da (P.eqGuardType P.depth t||P.stoodInHeld t) (none) (ob (gI P 8 fs.toList) λl=>UW l true a b k)
   |_=>none
  |d=>match op with
   | .eql=>ob (MG d) λe=>n8 e false a b k
   | .neq=>ob (MG d) λe=>n8 e true a b k
   |_=>none
abbrev Gs (P:Program) (src dst:TypeId) (v:AV) (h:AH) (k:AV→AH→R):R :=
 ob (P.underlying src) λds=>ob (P.underlying dst) λdd=>match dd with
  | .int d=>(match ds with | .int _=>gt d v λz=>k z h |_=>none)
  | .string=>(match ds with
   | .string=>YI v λz=>k z h
   | .slice e=>ob (P.underlying e) λde=>(match de with | .int .u8=>KZ h v λz=>k z h |_=>none)
   |_=>none)
  |_=>none
def Up (P:Program) (e:TypeId):Option (List AV) :=
 (P.info? e).bind λi=>(fJ P e).bind λz=>bif Nat.beq z.cells.length i.size&&(qt z.cells&&Nat.ble i.bytes 65536)then some z.cells else none
abbrev bC (P:Program) (c:CV) (o:Op) (r:Operand→Option AV) (h:AH) (k:AV→AH→R):R :=
 match o with
 | .move x=>ob (r x) λv=>k v h
 | .assign x=>ob (r x) λv=>k v h
 | .pick a b d=>ob (r a) λva=>ob (r b) λvb=>ob (r d) λvd=>QW va vb vd λz=>k z h
 | .alloc e=>ob (fJ P e) λz=>w5 h e z k
 | .box e x=>ob (r x) λv=>w5 h e v k
 | .build t parts=>ob (fJ P t) λz=>ob (P.underlying t) λd=>match d with
  | .struct fs=>ob (Qx P fs.toList) λpl=>ob (yb (λi=>QV pl i) r parts.toList) λvs=>yi z.cells vs λv=>k v h
  | .array _ e=>ob (bh P e) λsz=>ob (yb (λi=>some (i*sz,sz)) r parts.toList) λvs=>yi z.cells vs λv=>k v h
  |_=>none
 | .buildSlice t len parts=>ob (P.underlying t) λd=>match d with
  | .slice e=>ob (Up P e) λz=>da (Nat.ble (len*z.length) 16777216) (ob (yb (λi=>some (i*z.length,z.length)) r parts.toList) λvs=>xL h e z len vs k) (none)
  |_=>none
 | .load t a=>ob (r a) λv=>ob (QK P t) λi=>match i with
  |none=>ji h v λz=>k z h
  |some n=>zp h v n λz=>k z h
 | .store t a x=>ob (r a) λva=>ob (r x) λvx=>ob (bh P t) λn=>zV h va vx n λh'=>k .undef h'
 | .nilCheck x=>ob (r x) λv=>yB v λz=>k z h
 | .binOp op t x y _=>ob (r x) λa=>ob (r y) λb=>DP P op t a b λz=>k z h
 | .unOp op _ x=>ob (r x) λv=>rX op v λz=>k z h
 | .convert s d x=>ob (r x) λv=>Gs P s d v h k
 | .makeInterface t x=>ob (P.underlying t) λd=>match d with
  | .interface _=>none
  |_=>ob (r x) λv=>k (.iface t v) h
 | .makeFunc fn a cp=>match fn with
  | .func f=>ob (kK r a.toList) λva=>ob (kK r cp.toList) λvc=>k (.fn f va vc) h
  |_=>none
 | .makeSlice t l cp=>ob (P.underlying t) λd=>match d with
  | .slice e=>ob (Up P e) λz=>ob (r l) λvl=>ob (r cp) λvc=>JY h e z vl vc k
  |_=>none
 | .slice t x lo hi mx=>match mx with
  |some _=>none
  |none=>ob (r x) λv=>ob (Kz r lo) λl=>ob (Kz r hi) λu=>ob (P.underlying t) λd=>match d with
   | .string=>wB v l u λz=>k z h
   | .slice e=>ob (bh P e) λsz=>yh h e sz v l u λz=>k z h
   | .array n e=>ob (bh P e) λsz=>wI n sz v l u λz=>k z h
   |_=>none
 | .fieldAddr t x f=>ob (r x) λv=>ob (WN P t f) λoff=>jJ v off λz=>k z h
 | .field t x f=>ob (r x) λv=>ob (Zy P t f) λp=>match p.2 with
  |none=>KJ v p.1 λz=>k z h
  |some n=>Yt v p.1 n λz=>k z h
 | .indexAddr t x i=>ob (r x) λv=>ob (r i) λj=>ob (P.underlying t) λd=>match d with
  | .slice e=>ob (bh P e) λsz=>w4 v j sz λz=>k z h
  | .array n e=>da (Nat.ble 2 n) (ob (bh P e) λsz=>Jg v j n sz λz=>k z h) (none)
  |_=>none
 | .index t x i=>ob (r x) λv=>ob (r i) λj=>ob (P.underlying t) λd=>match d with
  | .string=>wF v j λz=>k z h
  | .array n e=>ob (bh P e) λsz=>ob (iB P e) λg=>da (g) (YS v j n sz λz=>k z h) (YR v j n sz λz=>k z h)
  |_=>none
 | .typeAssert x _ t ok=>ob (r x) λv=>ob (P.underlying t) λd=>match d with
  | .interface _=>none
  |_=>da (ok) (ob (fJ P t) λz=>yM t z v λy=>k y h) (Qd t v λy=>k y h)
 | .extract x i=>ob (r x) λv=>xC v i λz=>k z h
 | .call cl=>match cl.callee with
  | .value f=>ob (r f) λvf=>ob (kK r cl.args.toList) λva=>zS c vf va h k
  | .invoke x name=>ob (r x) λv=>ob (kK r cl.args.toList) λva=>vV c (Pg P name) v va h k
  | .builtin b=>match b with
   | .len=>(match cl.args.toList,cl.argTypes.toList with
    |x::_,t::_=>ob (r x) λv=>ob (P.underlying t) λd=>(match d with
     | .string=>J2 v λz=>k z h
     | .array n _=>k (.int .i64 (.ofNat n)) h
     | .slice _=>Qb v λz=>k z h
     |_=>none)
    |_,_=>none)
   | .min=>ob (kK r cl.args.toList) λl=>o8 false l λz=>k z h
   | .max=>ob (kK r cl.args.toList) λl=>o8 true l λz=>k z h
   | .append=>(match cl.args.toList,cl.argTypes.toList with
    |s::x::[],t::u::_=>ob (P.underlying u) λdu=>(match du with
     | .int _=>none
     |_=>ob (P.underlying t) λd=>(match d with
      | .slice e=>ob (Up P e) λz=>ob (r s) λvs=>ob (r x) λvx=>xk h e z.length vs vx k
      |_=>none))
    |_,_=>none)
   |_=>none
 |_=>none
abbrev cO (P:Program) (c:CV) (o:Op) (r:Operand→Option AV) (h:AH):R:=bC P c o r h λv h'=>some (v,h')
def QB (all:List Oper) (o:Oper):Option Nat:=o.guard.bind λg=>(QV all g.1).bind λp=>p.dst
inductive Pl where
  |z
  |n (L:Option (List Nat)) (a b:Pl)
  |r (Ls:List (List Nat))
def has (tm:PT AV) (t:Nat):Bool:=match tm.get t with |some _=>true |none=>false
abbrev tP:List Nat→Type
 |[]=>Unit
 |_::L=>AV×tP L
def wh:(L:List Nat)→PT AV→tP L
 |[],_=>()
 |t::L,tm=>((match tm.get t with |some v=>v |none=>.undef),wh L tm)
def ky:(L:List Nat)→tP L→PT AV→PT AV
 |[],_,a=>a
 |t::L,s,a=>ky L s.2 (a.set t s.1)
def yw (tm:PT AV):List Nat→Bool
 |[]=>true
 |t::L=>has tm t&&yw tm L
abbrev NE (n:Nat) (tm:PT AV) (dst:Option Tmp) (v:AV) (k:PT AV→R):R :=
 match dst with
 |none=>k tm
 |some d=>da (Nat.ble (d+1) n) (k (tm.set d v)) (none)
abbrev CR (P:Program) (c:CV) (n:Nat):List Oper→PT AV→AH→(PT AV→AH→R)→R
 |[],tm,h,k=>k tm h
 |o::r,tm,h,k=>bC P c o.op (ev tm) h λv h'=>NE n tm o.dst v λtm'=>CR P c n r tm' h' k
abbrev Mf (n:Nat):List Oper→PT AV→(PT AV→R)→R
 |[],tm,k=>k tm
 |o::r,tm,k=>NE n tm o.dst .undef λtm'=>Mf n r tm' k
def writes (d:Nat):List Oper→Bool
 |[]=>false
 |o::r=>(match o.dst with |some t=>Nat.beq t d |none=>false)||writes d r
def Is (g:Nat×Bool) (o:Oper):Bool:=match o.guard with |some g'=>Nat.beq g.1 g'.1&&g.2==g'.2 |none=>false
def z6 (g:Nat×Bool):List Oper→List Oper×List Oper
 |[]=>([],[])
 |o::r=>bif Is g o then(o::(z6 g r).1,(z6 g r).2)else([],o::r)
abbrev Kq (P:Program) (c:CV) (n:Nat) (all:List Oper):Nat→List Oper→List (List Nat)→PT AV→AH→(PT AV→AH→R)→R
 |_,[],_,tm,h,k=>k tm h
 | 0,_::_,_,_,_,_=>none
 |f+1,o::r,Ls,tm,h,k=>match o.guard with
  |none=>bC P c o.op (ev tm) h λv h'=>NE n tm o.dst v λtm'=>Kq P c n all f r Ls tm' h' k
  |some g=>ob (QB all o) λd=>ob (tm.get d) λvg=>
   match Ls with
   |[]=>none
   |L::Ap=>da (writes d (o::(z6 g r).1)) none (yp (α:=tP L→AH→R) (λs h=>Kq P c n all f (z6 g r).2 Ap (ky L s .e) h k) λJ=>Qc vg g.2
     (CR P c n (o::(z6 g r).1) tm h λtm' h'=>da (yw tm' L) (J (wh L tm') h') none)
     (Mf n (o::(z6 g r).1) tm λtm'=>da (yw tm' L) (J (wh L tm') h) none))
mutual
def gM:AV→AV→Bool
 | .bool a,.bool b=>a==b
 | .int k a,.int k' b=>k==k'&&nr a b
 | .str a,.str b=>lu a b
 | .ptr b o,.ptr b' o'=>Nat.beq b b'&&Nat.beq o o'
 | .ba,.ba=>true
 | .slice b o l c p,.slice b' o' l' c' p'=>Nat.beq b b'&&(Nat.beq o o'&&(Nat.beq l l'&&(Nat.beq c c'&&p==p')))
 | .ap,.ap=>true
 | .fn f a c,.fn f' a' c'=>Nat.beq f f'&&(K7 a a'&&K7 c c')
 | .yield l,.yield l'=>Nat.beq l l'
 | .eG,.eG=>true
 | .iface t v,.iface t' v'=>Nat.beq t t'&&gM v v'
 | .dt,.dt=>true
 | .agg l,.agg l'=>K7 l l'
 | .cn l,.cn l'=>K7 l l'
 | .cA a,.cA a'=>decide (a=a')
 | .tail b o o' i,.tail b' p p' j=>Nat.beq b b'&&(Nat.beq o p&&(Nat.beq o' p'&&Nat.beq i j))
 | .eV b,.eV b'=>Nat.beq b b'
 |_,_=>false
def K7:List AV→List AV→Bool
 |[],[]=>true
 |a::r,b::s=>gM a b&&K7 r s
 |_,_=>false
end
inductive Cls where
  |pure |load |fresh |eI
def mi (P:Program):Op→Cls
 | .convert s d _=>match P.underlying d with
  |some (.int _)=>.pure
  |some .string=>match P.underlying s with
   |some .string=>.pure
   |some (.slice _)=>.pure
   |_=>.eI
  |some (.slice _)=>match P.underlying s with
   |some .string=>.fresh
   |_=>.eI
  |_=>.eI
 | .move _ | .assign _ | .pick .. | .build .. | .nilCheck _ | .binOp .. | .unOp .. | .makeInterface .. | .makeFunc .. | .slice .. | .fieldAddr .. | .field .. | .indexAddr .. | .index ..
 | .typeAssert .. | .extract ..=>.pure
 | .load ..=>.load
 | .alloc .. | .box .. | .buildSlice .. | .makeSlice ..=>.fresh
 | .call cl=>match cl.callee with
  | .builtin b=>match b with
   | .len=>(match cl.argTypes.toList with |t::_=>(match P.underlying t with |some (.map _ _)=>.eI |_=>.pure) |[]=>.pure)
   | .min=>.pure
   | .max=>.pure
   |_=>.eI
  |_=>.eI
 |_=>.eI
def zm (P:Program) (o:Op):Bool:=match mi P o with | .eI=>true |_=>false
def MC (o:Op):Bool:=match o with | .load _ _=>true |_=>false
def JP (P:Program) (o:Op):Bool:=match o with | .slice t _ _ _ _=>(match P.underlying t with |some (.slice _)=>true |_=>false) |_=>false
def kP (P:Program) (o:Op):Bool:=match o with | .convert s d _=>(match P.underlying d with |some .string=>(match P.underlying s with |some (.slice _)=>true |_=>false) |_=>false) |_=>false
def gB (P:Program) (o:Op):Bool:=MC o||(JP P o||kP P o)
def kq:List Oper→Nat→PT Nat→PT Nat
 |[],_,t=>t
 |o::r,j,t=>kq r (j+1) (t.set j (o.after.toList.foldl (λs e=>bif Region.binds .any e then s|||(2 ^ e.on|||(match t.get e.on with |some m=>m |none=>0))else s) 0))
def xj (t:PT Nat) (j:Nat):Nat:=match t.get j with |some m=>m |none=>0
def chain (P:Program) (t:PT Nat):List Oper→Nat→Option Nat→Bool
 |[],_,_=>true
 |o::r,j,last=>bif zm P o.op then(match last with |none=>true |some i=>Nat.testBit (xj t j) i)&&chain P t r (j+1) (some j)else chain P t r (j+1) last
def bit (t:Nat):Nat:=2 ^ t
def DR:List Nat→Nat
 |[]=>0
 |a::r=>a|||DR r
def WO:Operand→Nat | .tmp t=>bit t |_=>0
def looks (all:List Oper) (o:Oper):Nat:=DR (o.op.operands.toList.map WO)|||(match o.guard with |some _=>(match QB all o with |some d=>bit d |none=>0) |none=>0)
def Xt (o:Oper):Nat:=match o.dst with |some d=>bit d |none=>0
structure DT where
  i:Nat
  w:Nat
  l:Nat
def It (mk wj lj:Nat):List DT→Bool
 |[]=>true
 |e::r=>(Nat.testBit mk e.i||(Nat.beq (e.w&&&(lj|||wj)) 0&&Nat.beq (wj&&&e.l) 0))&&It mk wj lj r
def Q3 (j:Nat):List Edge→Bool
 |[]=>true
 |e::r=>(bif Region.binds .any e then Nat.ble (e.on+1) j else true)&&Q3 j r
def ui (t:PT Nat) (all:List Oper):List Oper→Nat→List DT→Bool
 |[],_,_=>true
 |o::r,j,es=>Q3 j o.after.toList&&(It (xj t j) (Xt o) (looks all o) es&&ui t all r (j+1) (⟨j,Xt o,looks all o⟩::es))
def kw (t:PT Nat) (i j:Nat):Bool:=!(Nat.testBit (xj t i) j||Nat.testBit (xj t j) i)
def Y9 (P:Program) (t:PT Nat) (i:Nat):List Oper→Nat→Bool
 |[],_=>false
 |o::r,j=>zm P o.op&&kw t i j||Y9 P t i r (j+1)
def Y0 (P:Program) (p:Op→Bool) (t:PT Nat) (all:List Oper):List Oper→Nat→Bool
 |[],_=>false
 |o::r,i=>p o.op&&Y9 P t i all 0||Y0 P p t all r (i+1)
def Iu (P:Program) (ops:Array Oper):Bool :=
 ui (kq ops.toList 0 .e) ops.toList ops.toList 0 []&&chain P (kq ops.toList 0 .e) ops.toList 0 none
structure YX where
  i:Nat
  a:AV
  n:Option Nat
  v:AV
structure Xw where
  j:Nat
  hb:AH
  ha:AH
def xv (a:AV) (n:Option Nat) (v:AV) (h:AH):Bool :=
 match a with
 | .ptr b off=>(match h.get b with
  |some (.cells c _ _)=>(match n with
   |none=>(match c.fk off with |some x=>gM x v |none=>false)
   |some n=>(match c.lr off n with |some l=>gM (.agg l) v |none=>false))
  |some (.dv t)=>(match n with
   |none=>(match aQ.get t off with |some x=>gM x v |none=>false)
   |some n=>(match XO [] t off n with |some l=>gM (.agg l) v |none=>false))
  |_=>false)
 | .slice b off len i0 true=>(match n with |some m=>vo h (m/65536) b off (m%65536) i0 len |none=>false)
 | .slice _ _ _ _ false=>true
 | .ap=>true
 | .cA _=>true
 |_=>false
def DU (a:AV) (nx:Nat):Bool:=match a with | .ptr b _=>Nat.ble (b+1) nx | .slice b _ _ _ true=>Nat.ble (b+1) nx | .slice _ _ _ _ false=>true | .ap=>true | .cA _=>true |_=>false
def rY (a:AV) (n:Option Nat) (v:AV) (hb ha:AH) (nx:Nat):Bool:=match a,n,v with
 | .slice b _ _ _ _,none,.str _=>Nat.ble ha.nx b
 |_,_,_=>xv a n v hb&&(xv a n v ha&&DU a nx)
def Xz (a:AV) (n:Option Nat) (v:AV) (hb ha:AH) (nx:Nat) (k:R):R:=bif rY a n v hb ha nx then k else none
abbrev DV (t:PT Nat) (i:Nat) (a:AV) (n:Option Nat) (v:AV) (nx:Nat):List Xw→R→R
 |[],k=>k
 |⟨j,hb,ha⟩::r,k=>da (kw t i j) (Xz a n v hb ha nx (DV t i a n v nx r k)) (DV t i a n v nx r k)
abbrev Iv (t:PT Nat) (hs:List Xw) (nx:Nat):List YX→R→R
 |[],k=>k
 |⟨i,a,n,v⟩::r,k=>DV t i a n v nx hs (Iv t hs nx r k)
def YZ (r:Operand→Option AV):Op→Option AV
 | .load _ a=>r a
 | .slice _ x _ _ _=>r x
 | .convert _ _ x=>r x
 |_=>none
def kJ (P:Program):Op→Option Nat
 | .load t _=>match QK P t with |some i=>i |none=>none
 | .slice t _ _ _ _=>match P.underlying t with
  |some (.slice e)=>(match bh P e with |some sz=>bif Nat.ble (sz+1) 65536 then some (e*65536+sz)else none |none=>none)
  |_=>none
 |_=>none
def YQ:List (Nat×Bool×Bool)→Nat→Bool→Option Bool
 |[],_,_=>none
 |x::r,d,w=>bif Nat.beq x.1 d&&(x.2.1==w)then some x.2.2 else bif Nat.beq x.1 d&&x.2.2 then some false else YQ r d w
def Bo (dst:Option Tmp) (d:Nat):Bool:=match dst with |some t=>Nat.beq t d |none=>false
def dU (dst:Option Tmp):List (Nat×Bool×Bool)→List (Nat×Bool×Bool)
 |[]=>[]
 |x::r=>bif Bo dst x.1 then dU dst r else x::dU dst r
abbrev WQ (o:Option Bool) (v:AV) (w:Bool) (a b:R):R:=match o with |some true=>a |some false=>b |none=>Qc v w a b
def WR:Bool:=true
def YF:Operand→Option Bool
 | .const k=>(match Nz k with |some (.bool b)=>some b |_=>none)
 |_=>none
def Iw (kn:List (Nat×Bool×Bool)) (d:Nat):Option Bool:=match YQ kn d true with
 |some true=>some true
 |_=>(match YQ kn d false with |some true=>some false |_=>none)
def V7 (kn:List (Nat×Bool×Bool)):Op→Option Bool
 | .move (.tmp d)=>Iw kn d
 | .assign (.tmp d)=>Iw kn d
 | .pick (.tmp d) y z=>(match YQ kn d true with |some true=>YF y |some false=>YF z |none=>(match YQ kn d false with |some false=>YF y |_=>none))
 |_=>none
def JV (dst:Option Tmp) (o:Op) (kn:List (Nat×Bool×Bool)):List (Nat×Bool×Bool):=bif WR then(match dst with
  |some t=>(match V7 kn o with |some c=>(t,true,c)::(t,false,!c)::dU dst kn |none=>dU dst kn)
  |none=>dU dst kn)else dU dst kn
abbrev K9 (P:Program) (c:CV) (n:Nat) (all:List Oper):List Oper→Nat→List (Nat×Bool×Bool)→PT AV→AH→List YX→List Xw→(PT AV→AH→List YX→List Xw→R)→R
 |[],_,_,tm,h,ls,hs,k=>k tm h ls hs
 |o::r,j,kn,tm,h,ls,hs,k=>
  match o.guard with
  |none=>bC P c o.op (ev tm) h λv h'=>NE n tm o.dst v λtm'=>da (gB P o.op) (ob (YZ (ev tm) o.op) λa=>K9 P c n all r (j+1) (JV o.dst o.op kn) tm' h' (⟨j,a,kJ P o.op,v⟩::ls) hs k) (da (zm P o.op) (K9 P c n all r (j+1) (JV o.dst o.op kn) tm' h' ls (⟨j,h,h'⟩::hs) k) (K9 P c n all r (j+1) (JV o.dst o.op kn) tm' h' ls hs k))
  |some g=>ob (QB all o) λd=>ob (tm.get d) λvg=>WQ (YQ kn d g.2) vg g.2
   (bC P c o.op (ev tm) h λv h'=>NE n tm o.dst v λtm'=>
    da (gB P o.op) (ob (YZ (ev tm) o.op) λa=>K9 P c n all r (j+1) (JV o.dst o.op ((d,g.2,true)::kn)) tm' h' (⟨j,a,kJ P o.op,v⟩::ls) hs k) (da (zm P o.op) (K9 P c n all r (j+1) (JV o.dst o.op ((d,g.2,true)::kn)) tm' h' ls (⟨j,h,h'⟩::hs) k) (K9 P c n all r (j+1) (JV o.dst o.op ((d,g.2,true)::kn)) tm' h' ls hs k)))
   (NE n tm o.dst .undef λtm'=>K9 P c n all r (j+1) (dU o.dst ((d,g.2,false)::kn)) tm' h ls hs k)
abbrev Ph (P:Program) (c:CV) (n:Nat) (ops:Array Oper) (Ls:List (List Nat)) (tm:PT AV) (h:AH) (k:PT AV→AH→R):R :=
 da (Iu P ops) ((da (Y0 P (gB P) (kq ops.toList 0 .e) ops.toList ops.toList 0) (match Ls with
   |[]=>none
   |L::_=>yp (α:=tP L→AH→R) (λs h=>k (ky L s .e) h)
     λJ=>K9 P c n ops.toList ops.toList 0 [] tm h [] [] λtm' h' ls hs=>Iv (kq ops.toList 0 .e) hs h.nx ls (da (yw tm' L) (J (wh L tm') h') (none))) (Kq P c n ops.toList ops.toList.length ops.toList Ls tm h k))) (none)
def Xh (h:AH) (l:Nat) (k:AH→R):R:=match h.get l with
 |some (.loop .ready cx f p L vs d)=>k (h.put l (.loop .busy cx f p L vs d))
 |_=>none
def yx (h:AH) (l:Nat) (j:Option AX):R:=match h.get l with
 |some (.loop _ _ f p L vs d)=>(match j with
  |none=>some (.bool true,h.put l (.loop .ready none f p L vs d))
  |some x=>some (.bool false,h.put l (.loop .done (some x) f p L vs d)))
 |_=>none
def gE (h:AH) (l:Nat) (k:Option AX→AH→R):R:=match h.get l with
 |some (.loop st cx f p L vs d)=>(match st with
  | .busy=>none
  |_=>k cx (h.put l (.loop .exhausted cx f p L vs d)))
 |_=>none
def CS:AX→AX→Bool
 | .normal,.normal=>true
 | .ret,.ret=>true
 | .exit a,.exit b=>Nat.beq a b
 | .goto a,.goto b=>Nat.beq a b
 |_,_=>false
def Bp (p:Option AX) (x:AX) (a b:R):R:=match p with |some y=>bif CS y x then a else b |none=>b
def Yv (p:Option AX) (a b:R):R:=match p with |none=>a |some _=>b
def YL:Code→List Nat→List AX
 | .seq a b,l=>YL a l++YL b l
 | .cond _ a b,l=>YL a l++YL b l
 | .block id a,l=>YL a (id::l)
 | .loop a,l=>YL a l
 | .rangeFunc _ _ _ b,l=>YL b l
 | .exit id,l=>bif l.contains id then[]else[.exit id]
 | .ret,_=>[.ret]
 |_,_=>[]
abbrev MZ (p:Option AX) (k:AX→R):List AX→R
 |[]=>none
 |x::r=>Bp p x (k x) (MZ p k r)
def NO (h:AH) (l:Nat) (k:Nat→R):R:=match h.get l with |some (.loop _ _ _ _ _ _ d)=>k d |_=>none
def kL:(L:List Nat)→PT AV→List AV
 |[],_=>[]
 |t::L,tm=>(match tm.get t with |some v=>v |none=>.undef)::kL L tm
def oz:Pl→Pl | .n _ a _=>a |_=>.z
def Aq:Pl→Pl | .n _ _ b=>b |_=>.z
def Ar:Pl→Option (List Nat) | .n L _ _=>L |_=>none
def Ix:Pl→List (List Nat) | .r l=>l |_=>[]
abbrev wS (P:Program) (N:Nat) (c:CV) (f n:Nat) (rd:Option Nat):Code→List Nat→Pl→PT AV→AH→List Nat→(AX→PT AV→AH→List Nat→R)→R
  | .skip,_,_,tm,h,ds,k=>k .normal tm h ds
  | .region _ ops d,_,pl,tm,h,ds,k=>da (d) (Ph P c n ops (Ix pl) tm h λtm h=>k .normal tm h ds) (Kq P c n ops.toList ops.toList.length ops.toList (Ix pl) tm h λtm h=>k .normal tm h ds)
  | .seq a b,pos,pl,tm,h,ds,k=>match Ar pl with
    | some L => yp (α := tP L → AH → List Nat → R)
        (λs h ds=>wS P N c f n rd b (pos++[1]) (Aq pl) (ky L s .e) h ds k)
        λJ=>wS P N c f n rd a (pos++[0]) (oz pl) tm h ds λx tm' h ds=>match x with
          | .normal=>da (yw tm' L) (J (wh L tm') h ds) (none) |x=>k x tm' h ds
    |none=>wS P N c f n rd a (pos++[0]) (oz pl) tm h ds λx tm' h ds=>match x with
      | .normal=>wS P N c f n rd b (pos++[1]) (Aq pl) tm' h ds k
      |x=>k x tm' h ds
  | .cond o a b,pos,pl,tm,h,ds,k=>ob (ev tm o) λv=>xA v (wS P N c f n rd a (pos++[0]) (oz pl) tm h ds k) (wS P N c f n rd b (pos++[1]) (Aq pl) tm h ds k)
  | .block id a,pos,pl,tm,h,ds,k=>match Ar pl with
    | some L => yp (α := tP L → AH → List Nat → R)
        (λs h ds=>k .normal (ky L s .e) h ds)
        λJ=>wS P N c f n rd a (pos++[0]) (oz pl) tm h ds λx tm' h ds=>match x with
          | .normal=>da (yw tm' L) (J (wh L tm') h ds) (none) | .exit i=>da (Nat.beq i id) ((da (yw tm' L) (J (wh L tm') h ds) (none))) (k (.exit i) tm' h ds) |x=>k x tm' h ds
    |none=>wS P N c f n rd a (pos++[0]) (oz pl) tm h ds λx tm' h ds=>match x with
      | .exit i=>da (Nat.beq i id) (k .normal tm' h ds) (k (.exit i) tm' h ds)
      |x=>k x tm' h ds
  | .loop a,pos,pl,tm,h,ds,k=>match Ar pl with
    | some L => da (yw tm L) (Gc (σ := tP L) N
        (λih s h ds=>wS P N c f n rd a (pos++[0]) (oz pl) (ky L s .e) h ds λx tm' h ds=>match x with
          | .normal=>da (yw tm' L) (ih (wh L tm') h ds) (none) |x=>k x tm' h ds)
        (wh L tm) h ds) (none)
    |none=>none
  | .exit id,_,_,tm,h,ds,k=>k (.exit id) tm h ds
  | .label _,_,_,tm,h,ds,k=>k .normal tm h ds
  | .goto l,_,_,tm,h,ds,k=>k (.goto l) tm h ds
  | .ret,_,_,tm,h,ds,k=>k .ret tm h ds
  | .rangeFunc g _ _ body,pos,pl,tm,h,ds,k=>ob (ev tm g) λvf=>match Ar pl with
    |none=>none
    | some L => da (yw tm L) ((fun (go : Nat → AH → List Nat → R) => match rd with
       |none=>go h.nx (h.new .lT) (h.nx::ds)
       |some l0=>NO h l0 λd=>go d h ds)
      λd h1 ds1=>X5 c vf [.yield h1.nx] (h1.new (.loop .ready none f pos L (kL L tm) d)) λ_ h2=>
        gE h2 h1.nx λp h3=>Yv p (k .normal tm h3 ds1) (MZ p (λx=>k x tm h3 ds1) (YL body []))) (none)
  |_,_,_,_,_,_,_=>none
def xB:List Nat→AH→(AH→R)→R
 |[],h,k=>k h
 |d::r,h,k=>match h.get d with
  |some .lT=>xB r (h.put d .pP) k
  |_=>none
def CW:List AV→Nat→PT AV→PT AV
 |[],_,t=>t
 |a::r,i,t=>CW r (i+1) (t.set i a)
abbrev ME (P:Program) (tm:PT AV) (h:AH):List ResultVar→(List AV→R)→R
 |[],k=>k []
 |x::r,k=>match x with
  | .tmp t=>ob (tm.get t) λv=>ME P tm h r λl=>k (v::l)
  | .cell a t=>ob (tm.get a) λva=>ob (QK P t) λi=>match i with
   |none=>ji h va λv=>ME P tm h r λl=>k (v::l)
   |some n=>zp h va n λv=>ME P tm h r λl=>k (v::l)
def lY (l:List AV):AV:=match l with |[v]=>v |l=>.cn l
abbrev xu (P:Program) (N:Nat) (pl:Pl) (c:CV) (f:FuncId) (args:List AV) (h:AH):R :=
 ob (P.funcs[f]?) λfn=>ob fn.body λb=>
  wS P N c f fn.ntmps none b [] pl (CW args 0 .e) h [] λx tm h ds=>match x with
   | .normal=>xB ds h λh'=>ME P tm h' fn.results.toList λl=>some (lY l,h')
   | .ret=>xB ds h λh'=>ME P tm h' fn.results.toList λl=>some (lY l,h')
   |_=>none
def xM:Code→List Nat→Option Code
 |c,[]=>some c
 | .seq a b,i::p=>bif Nat.beq i 0 then xM a p else xM b p
 | .cond _ a b,i::p=>bif Nat.beq i 0 then xM a p else xM b p
 | .block _ a,_::p=>xM a p
 | .loop a,_::p=>xM a p
 | .rangeFunc _ _ a b,i::p=>bif Nat.beq i 0 then xM a p else xM b p
 |_,_::_=>none
abbrev Iy:List Tmp→List AV→Nat→PT AV→(PT AV→R)→R
 |[],[],_,t,k=>k t
 |p::ps,v::vs,n,t,k=>da (Nat.ble (p+1) n) (Iy ps vs n (t.set p v) k) (none)
 |_,_,_,_,_=>none
abbrev uj:List Nat→List AV→PT AV→(PT AV→R)→R
 |[],[],t,k=>k t
 |x::L,v::vs,t,k=>uj L vs (t.set x v) k
 |_,_,_,_=>none
abbrev Nu (P:Program) (N:Nat) (pl:Pl) (c:CV) (f:FuncId) (pos L:List Nat) (l:Nat) (vs args:List AV) (h:AH):R :=
 ob (P.funcs[f]?) λfn=>ob fn.body λb=>ob (xM b pos) λs=>match s with
  | .rangeFunc _ ps assign body=>uj L vs .e λPj=>Iy ps.toList args fn.ntmps Pj λtm=>
   wS P N c f fn.ntmps (some l) assign (pos++[0]) (oz pl) tm h [] λx tm h ds=>match x with
    | .normal=>Xh h l λh=>wS P N c f fn.ntmps (some l) body (pos++[1]) (Aq pl) tm h ds λx _ h _=>match x with
     | .normal=>yx h l none
     |x=>yx h l (some x)
    |_=>none
  |_=>none
def NN:Nat:=1000000000
abbrev WF:=CV→List AV→AH→R
abbrev VF:=CV→Nat→List AV→List AV→AH→R
def iC (P:Program) (f:Nat) (w:WF):Prop:=∀c l h r,w c l h=some r→∃pl,xu P NN pl c f l h=some r
def DW (P:Program) (f:Nat) (pos L:List Nat) (w:VF):Prop:=∀c l x y h r,w c l x y h=some r→∃pl,Nu P NN pl c f pos L l x y h=some r
structure RT where
  f:Nat
  pos:List Nat
  L:List Nat
  run:VF
def KI:List Nat→List Nat→Bool
 |[],[]=>true
 |a::x,b::y=>Nat.beq a b&&KI x y
 |_,_=>false
def KQ:List RT→Nat→List Nat→List Nat→Option VF
 |[],_,_,_=>none
 |x::r,f,pos,L=>bif Nat.beq x.f f&&(KI x.pos pos&&KI x.L L)then some x.run else KQ r f pos L
inductive BT where
  |no
  |leaf (f:Nat) (w:WF)
  |node (m:Nat) (l r:BT)
def BT.get (t:BT) (f:Nat):Option WF :=
 BT.rec (motive:=λ_=>Option WF) none (λg w=>Bool.rec (motive:=λ_=>Option WF) none (some w) (Nat.beq g f)) (λm _ _ l r=>Bool.rec (motive:=λ_=>Option WF) r l (Nat.ble f m)) t
def BT.all (p:Nat→WF→Prop):BT→Prop
 | .no=>True
 | .leaf f w=>p f w
 | .node _ l r=>l.all p∧r.all p
def BT.fs:BT→List Nat
 | .no=>[]
 | .leaf f _=>[f]
 | .node _ l r=>l.fs++r.fs
def callT (tab:BT) (rt:List RT) (k:Nat):CV :=
 Nat.rec (motive:=λ_=>CV) (λ_ _ _=>none) (λ_ ih v args h=>match v with
  | .fn f first cap=>Option.rec (motive:=λ_=>R) none (λg=>g ih (first++args++cap) h) (BT.get tab f)
  | .yield l=>(match h.get l with
   |some (.loop .ready _ f pos L vs _)=>(match KQ rt f pos L with |some g=>g ih l vs args h |none=>none)
   |_=>none)
  |_=>none) k
def isTrue (r:R):Bool:=match r with |some (.bool true,_)=>true |_=>false
def AH.empty:AH:=⟨0,[],.e⟩
end
end Go.Ae
namespace Go.Ae
open Go
noncomputable section
theorem pLn {h:AH} {k:AH→R}:xB [] h k=k h:=rfl
structure tR (x:R) where
 val:R
 property:x=val:=by conv=>lhs;reduce;try dsimp only[pLn]
abbrev Bq (P:Program) (pl:Pl) (f:Nat):Type:=(c:CV)→(h:AH)→tR (xu P NN pl c f [] h)
abbrev rZ {P:Program} {pl:Pl} {f:Nat} (S:Bq P pl f):WF:=λc l h=>match l with |[]=>(S c h).1 |_=>none
theorem Iz {P:Program} {pl:Pl} {f:Nat} (S:Bq P pl f):iC P f (rZ S):=by
 intro c l h r e;unfold rZ at e
 split at e
 ·exact⟨pl,(S ..).2.trans e⟩
 ·cases e
abbrev aY (P:Program) (pl:Pl) (f:Nat):Type:=(c:CV)→(a0:AV)→(h:AH)→tR (xu P NN pl c f [a0] h)
abbrev aZ {P:Program} {pl:Pl} {f:Nat} (S:aY P pl f):WF:=λc l h=>match l with |[a0]=>(S c a0 h).1 |_=>none
theorem bc {P:Program} {pl:Pl} {f:Nat} (S:aY P pl f):iC P f (aZ S):=by
 intro c l h r e;unfold aZ at e
 split at e
 ·exact⟨pl,(S ..).2.trans e⟩
 ·cases e
abbrev bW (P:Program) (pl:Pl) (f:Nat):Type:=(c:CV)→(a0 a1:AV)→(h:AH)→tR (xu P NN pl c f [a0,a1] h)
abbrev bU {P:Program} {pl:Pl} {f:Nat} (S:bW P pl f):WF:=λc l h=>match l with |[a0,a1]=>(S c a0 a1 h).1 |_=>none
theorem bY {P:Program} {pl:Pl} {f:Nat} (S:bW P pl f):iC P f (bU S):=by
 intro c l h r e;unfold bU at e
 split at e
 ·exact⟨pl,(S ..).2.trans e⟩
 ·cases e
abbrev dp (P:Program) (pl:Pl) (f:Nat):Type:=(c:CV)→(a0 a1 a2:AV)→(h:AH)→tR (xu P NN pl c f [a0,a1,a2] h)
abbrev dq {P:Program} {pl:Pl} {f:Nat} (S:dp P pl f):WF:=λc l h=>match l with |[a0,a1,a2]=>(S c a0 a1 a2 h).1 |_=>none
theorem dD {P:Program} {pl:Pl} {f:Nat} (S:dp P pl f):iC P f (dq S):=by
 intro c l h r e;unfold dq at e
 split at e
 ·exact⟨pl,(S ..).2.trans e⟩
 ·cases e
abbrev lZ (P:Program) (pl:Pl) (f:Nat):Type:=(c:CV)→(a0 a1 a2 a3:AV)→(h:AH)→tR (xu P NN pl c f [a0,a1,a2,a3] h)
abbrev eh {P:Program} {pl:Pl} {f:Nat} (S:lZ P pl f):WF:=λc l h=>match l with |[a0,a1,a2,a3]=>(S c a0 a1 a2 a3 h).1 |_=>none
theorem na {P:Program} {pl:Pl} {f:Nat} (S:lZ P pl f):iC P f (eh S):=by
 intro c l h r e;unfold eh at e
 split at e
 ·exact⟨pl,(S ..).2.trans e⟩
 ·cases e
abbrev r4 (P:Program) (pl:Pl) (f:Nat):Type:=(c:CV)→(a0 a1 a2 a3 a4:AV)→(h:AH)→tR (xu P NN pl c f [a0,a1,a2,a3,a4] h)
abbrev r5 {P:Program} {pl:Pl} {f:Nat} (S:r4 P pl f):WF:=λc l h=>match l with |[a0,a1,a2,a3,a4]=>(S c a0 a1 a2 a3 a4 h).1 |_=>none
theorem As {P:Program} {pl:Pl} {f:Nat} (S:r4 P pl f):iC P f (r5 S):=by
 intro c l h r e;unfold r5 at e
 split at e
 ·exact⟨pl,(S ..).2.trans e⟩
 ·cases e
abbrev IA (P:Program) (pl:Pl) (f:Nat):Type:=(c:CV)→(a0 a1 a2 a3 a4 a5 a6:AV)→(h:AH)→tR (xu P NN pl c f [a0,a1,a2,a3,a4,a5,a6] h)
abbrev IB {P:Program} {pl:Pl} {f:Nat} (S:IA P pl f):WF:=λc l h=>match l with |[a0,a1,a2,a3,a4,a5,a6]=>(S c a0 a1 a2 a3 a4 a5 a6 h).1 |_=>none
theorem tO7 {P:Program} {pl:Pl} {f:Nat} (S:IA P pl f):iC P f (IB S):=by
 intro c l h r e;unfold IB at e
 split at e
 ·exact⟨pl,(S ..).2.trans e⟩
 ·cases e
end
end Go.Ae
namespace Go.Ae
open Go
noncomputable section
abbrev Pk (S:CV→AH→R):WF:=λc l h=>match l with |[]=>S c  h |_=>none
theorem jV2 {P:Program} {f:Nat} {pl:Pl} {S:CV→AH→R} (q:∀(c:CV) (h:AH),xu P NN pl c f [] h=S c  h):iC P f (Pk S):=by
 intro c l h r e;unfold Pk at e
 split at e
 ·exact⟨pl,by rw[q];exact e⟩
 ·cases e
abbrev Au (S:CV→AV→AH→R):WF:=λc l h=>match l with |[a0]=>S c a0 h |_=>none
theorem U9 {P:Program} {f:Nat} {pl:Pl} {S:CV→AV→AH→R} (q:∀(c:CV) (a0:AV) (h:AH),xu P NN pl c f [a0] h=S c a0 h):iC P f (Au S):=by
 intro c l h r e;unfold Au at e
 split at e
 ·exact⟨pl,by rw[q];exact e⟩
 ·cases e
abbrev DX (S:CV→AV→AV→AH→R):WF:=λc l h=>match l with |[a0,a1]=>S c a0 a1 h |_=>none
theorem Pm {P:Program} {f:Nat} {pl:Pl} {S:CV→AV→AV→AH→R} (q:∀(c:CV) (a0 a1:AV) (h:AH),xu P NN pl c f [a0,a1] h=S c a0 a1 h):iC P f (DX S):=by
 intro c l h r e;unfold DX at e
 split at e
 ·exact⟨pl,by rw[q];exact e⟩
 ·cases e
abbrev Pn (S:CV→AV→AV→AV→AV→AH→R):WF:=λc l h=>match l with |[a0,a1,a2,a3]=>S c a0 a1 a2 a3 h |_=>none
theorem jKH {P:Program} {f:Nat} {pl:Pl} {S:CV→AV→AV→AV→AV→AH→R} (q:∀(c:CV) (a0 a1 a2 a3:AV) (h:AH),xu P NN pl c f [a0,a1,a2,a3] h=S c a0 a1 a2 a3 h):iC P f (Pn S):=by
 intro c l h r e;unfold Pn at e
 split at e
 ·exact⟨pl,by rw[q];exact e⟩
 ·cases e
end
end Go.Ae
abbrev Go.Ae.iI (n:Nat):Go.Ae.AV:=.int .i64 (.ofNat n)
abbrev Go.Ae.uU (n:Nat):Go.Ae.AV:=.int .u64 (.ofNat n)
namespace Go.Ae
abbrev iQ:=@if_neg
abbrev iJ:=@if_pos
theorem iZ {n:Nat}:Int.ofNat n=(n:Int):=rfl
abbrev iX:=@List.mem_cons_of_mem
abbrev iK:=@List.mem_cons_self
abbrev iV:=@decide_eq_false
abbrev iG:=@decide_eq_true
abbrev iW:=@List.getElem?_eq_getElem
abbrev iY:=@Nat.ble_eq_true_of_le
abbrev iA:=@List.eq_nil_of_length_eq_zero
end Go.Ae
