/- The abstract executor of the program's form in Lean, shown sound: values, heaps, operations, code: plain definitions. -/
import Derived.CallsIn
import Derived.OrdersIn
import Derived.Eval
import Derived.RangeFuncIn
import Derived.RangeFuncLeaves
import Derived.Still
import Derived.Lib.ItoaNum
theorem Go.Ae.aN {P : Prop} (h : P :=by simp) : P :=h
theorem Go.Ae.od {P : Prop} (h : P :=by decide) : P :=h
theorem Go.Ae.omQ {P : Prop} (h : P :=by omega) : P :=h
namespace Go.Ae
noncomputable section
def gtab : List (String × IntKind × List Int) := [("internal/strconv.uint64pow10", IntKind.u64, Lib.pow10Tab)]
inductive PT (α:Type) where
  |e
  |n (l:PT α) (v:Option α) (r:PT α)
def PT.get {α:Type} (t:PT α) (i:Nat):Option α :=
 PT.rec (motive:=λ_=>Nat→Option α) (λ_=>none)
  (λ_ v _ l r i=>Bool.rec (motive:=λ_=>Option α) (Bool.rec (motive:=λ_=>Option α) (r (Nat.sub (Nat.div i 2) 1)) (l (Nat.div i 2)) (Nat.beq (Nat.mod i 2) 1)) v (Nat.beq i 0)) t i
def PT.fi {α:Type} (f:Nat) (t:PT α) (i:Nat) (x:α):PT α :=
 Nat.rec (motive:=λ_=>PT α→Nat→PT α) (λ_ _=>.e)
  (λ_ ih t i=>PT.rec (motive:=λ_=>PT α)
   (Bool.rec (motive:=λ_=>PT α) (Bool.rec (motive:=λ_=>PT α) (.n .e none (ih .e (Nat.sub (Nat.div i 2) 1))) (.n (ih .e (Nat.div i 2)) none .e) (Nat.beq (Nat.mod i 2) 1)) (.n .e (some x) .e) (Nat.beq i 0))
   (λl v r _ _=>Bool.rec (motive:=λ_=>PT α) (Bool.rec (motive:=λ_=>PT α) (.n l v (ih r (Nat.sub (Nat.div i 2) 1))) (.n (ih l (Nat.div i 2)) v r) (Nat.beq (Nat.mod i 2) 1)) (.n l (some x) r) (Nat.beq i 0)) t) f t i
def PT.set {α:Type} (t:PT α) (i:Nat) (x:α):PT α:=PT.fi (i+1) t i x
def PT.ll {α:Type} (i m:Nat) (t:PT α):PT α:=PT.rec (motive:=λ_=>PT α) .e (λl _ r _ _=>Bool.rec (motive:=λ_=>PT α) r l (Nat.beq (Nat.land i m) 0)) t
def PT.leaf {α:Type} (t:PT α):Option α:=PT.rec (motive:=λ_=>Option α) none (λ_ v _ _ _=>v) t
def PT.sub {α:Type} (i m:Nat) (f:PT α→PT α) (t:PT α):PT α :=
 PT.rec (motive:=λ_=>PT α) (Bool.rec (motive:=λ_=>PT α) (.n .e none (f .e)) (.n (f .e) none .e) (Nat.beq (Nat.land i m) 0))
  (λl v r _ _=>Bool.rec (motive:=λ_=>PT α) (.n l v (f r)) (.n (f l) v r) (Nat.beq (Nat.land i m) 0)) t
def PT.mark {α:Type} (x:α) (t:PT α):PT α:=PT.rec (motive:=λ_=>PT α) (.n .e (some x) .e) (λl _ r _ _=>.n l (some x) r) t
def PT.iz {α:Type} (t:PT α) (i:Nat):Option α:=PT.leaf (PT.ll i 1 (PT.ll i 2 (PT.ll i 4 (PT.ll i 8 (PT.ll i 16 (PT.ll i 32 (PT.ll i 64 (PT.ll i 128 (PT.ll i 256 (PT.ll i 512 (PT.ll i 1024 (PT.ll i 2048 (t)))))))))))))
def PT.mJ {α:Type} (t:PT α) (i:Nat) (x:α):PT α:=PT.sub i 2048 (PT.sub i 1024 (PT.sub i 512 (PT.sub i 256 (PT.sub i 128 (PT.sub i 64 (PT.sub i 32 (PT.sub i 16 (PT.sub i 8 (PT.sub i 4 (PT.sub i 2 (PT.sub i 1 (PT.mark x)))))))))))) t
abbrev aL (α:Type):=PT (PT α)
def aL.get {α:Type} (t:aL α) (i:Nat):Option α:=Option.rec (motive:=λ_=>Option α) none (λs=>PT.iz s i) (PT.get t (Nat.div i 4096))
def aL.set {α:Type} (t:aL α) (i:Nat) (x:α):aL α:=PT.set t (Nat.div i 4096) (PT.mJ (Option.rec (motive:=λ_=>PT α) .e (λs=>s) (PT.get t (Nat.div i 4096))) i x)
inductive AV where
  |bool (b:Bool)
  |int (k:IntKind) (n:Int)
  |str (s:List UInt8)
  |ptr (b off:Nat)
  |aP
  /--opn: the room is that of the block,less 'cap' elements ahead;else the room is 'cap'-/
  |slice (b off len cap:Nat) (bg:Bool)
  |ak
  |fn (f:FuncId) (first cap:List AV)
  |yield (l:Nat)
  |dG
  |iface (t:TypeId) (v:AV)
  |cH
  |agg (l:List AV)
  |bJ (l:List AV)
  /--an empty slice without room,wherever it points-/
  |bU (a:Addr)
  /--an empty slice behind all that an open block's slice shows: where it points hangs on the room-/
  |tail (b off nq i1:Nat)
  /--a map of the walk's own-/
  |cI (b:Nat)
  deriving Inhabited
def AV.undef:AV:=.bJ []
def AV.cells:AV→List AV
 | .agg l=>l
 |v=>[v]
def AV.one:AV→Bool
 | .agg _=>false
 | .bJ _=>false
 |_=>true
def wx {α:Type} (l:List α) (i:Nat):Option α :=
 List.rec (motive:=λ_=>Nat→Option α) (λ_=>none) (λa _ ih i=>Bool.rec (motive:=λ_=>Option α) (ih (Nat.sub i 1)) (some a) (Nat.beq i 0)) l i
def yD {α:Type} (n:Nat) (l:List α):Option (List α) :=
 Nat.rec (motive:=λ_=>List α→Option (List α)) (λ_=>some [])
  (λ_ ih l=>List.rec (motive:=λ_=>Option (List α)) none (λa r _=>Option.rec (motive:=λ_=>Option (List α)) none (λs=>some (a::s)) (ih r)) l) n l
def yi {α:Type} (n:Nat) (l:List α):List α :=
 Nat.rec (motive:=λ_=>List α→List α) (λl=>l) (λ_ ih l=>List.rec (motive:=λ_=>List α) [] (λ_ r _=>ih r) l) n l
def UU {α:Type} (l xs:List α):Option (List α) :=
 List.rec (motive:=λ_=>List α→Option (List α)) (λl=>some l)
  (λx _ ih l=>List.rec (motive:=λ_=>Option (List α)) none (λ_ l _=>Option.rec (motive:=λ_=>Option (List α)) none (λs=>some (x::s)) (ih l)) l) xs l
def kO {α:Type} (l:List α) (off:Nat) (xs:List α):Option (List α) :=
 Nat.rec (motive:=λ_=>List α→Option (List α)) (λl=>UU l xs)
  (λ_ ih l=>List.rec (motive:=λ_=>Option (List α)) none (λa l _=>Option.rec (motive:=λ_=>Option (List α)) none (λs=>some (a::s)) (ih l)) l) off l
def yI {α:Type} (l:List α):Nat→List α
 | 0=>[]
 |n+1=>l++yI l n
inductive CT where
  |dW (xs:List AV)
  |tree (n:Nat) (z:List AV) (tr:aL AV)
def ko (z:List AV) (t:aL AV) (i:Nat):Option AV:=Option.rec (motive:=λ_=>Option AV) (wx z (Nat.mod i z.length)) (λv=>some v) (aL.get t i)
def gw (z:List AV) (t:aL AV) (i:Nat):AV:=match ko z t i with |some v=>v |none=>.undef
def OU (t:aL AV) (i:Nat) (xs:List AV):aL AV :=
 List.rec (motive:=λ_=>aL AV→Nat→aL AV) (λt _=>t) (λx _ ih t i=>ih (aL.set t i x) (Nat.succ i)) xs t i
def Qb (z:List AV) (t:aL AV) (i n:Nat):Option (List AV) :=
 Nat.rec (motive:=λ_=>Nat→Option (List AV)) (λ_=>some [])
  (λ_ ih i=>Option.rec (motive:=λ_=>Option (List AV)) none (λv=>Option.rec (motive:=λ_=>Option (List AV)) none (λs=>some (v::s)) (ih (Nat.succ i))) (ko z t i)) n i
def CT.toList:CT→List AV
 | .dW xs=>xs
 | .tree n z tr=>(List.range n).map (gw z tr)
def CT.len:CT→Nat
 | .dW xs=>xs.length
 | .tree n _ _=>n
def CT.dX (c:CT) (i:Nat):Option AV:=match c with
 | .dW xs=>wx xs i
 | .tree n z tr=>bif Nat.ble (i+1) n then ko z tr i else none
def CT.fM (c:CT) (off n:Nat):Option (List AV):=match c with
 | .dW xs=>yD n (yi off xs)
 | .tree m z tr=>bif Nat.beq n 0 then some []else bif Nat.ble (off+n) m then Qb z tr off n else none
def CT.write (c:CT) (off:Nat) (xs:List AV):Option CT:=match c with
 | .dW ys=>(kO ys off xs).bind λs=>some (.dW s)
 | .tree n z tr=>bif Nat.ble (off+xs.length) n then some (.tree n z (OU tr off xs))else none
def CT.ofList (xs:List AV):CT:=bif Nat.ble xs.length 16 then .dW xs else .tree xs.length [] (OU .e 0 xs)
def CT.uL (z:List AV) (n:Nat):CT:=bif Nat.ble (z.length*n) 16 then .dW (yI z n)else .tree (z.length*n) z .e
def CT.fN (c:CT) (xs:List AV):CT:=match c with
 | .dW ys=>CT.ofList (ys++xs)
 | .tree n z tr=>.tree (n+xs.length) z (OU tr n xs)
def CT.pre (c:CT) (n:Nat):Option CT:=match c with
 | .dW ys=>(yD n ys).bind λs=>some (.dW s)
 | .tree m z tr=>bif Nat.ble n m then some (.tree n z tr)else none
def CT.C0 (c:CT) (off n:Nat):Option CT:=bif Nat.beq off 0 then c.pre n else(c.fM off n).bind λl=>some (CT.ofList l)
inductive AX where
  |normal
  |exit (id:Nat)
  |goto (l:Nat)
  |ret
inductive cG where
  |cells (c:CT) (elem:TypeId) (bg:Bool)
  |dead
  |iter (s:List UInt8) (pos:Nat)
  |loop (st:LoopState) (bO:Option AX) (fn:Nat) (pos L:List Nat) (vs:List AV) (d:Nat)
  |ij
  |nr
  /--cells that are the caller's: some are known,none is written-/
  |cJ (t:aL AV)
  /--a map of numbers to numbers: key,value,when it came;the clock-/
  |mp (l:List (Int×Int×Nat)) (clk:Nat)
structure AH where
  nx:Nat
  rc:List (Nat×cG)
  t:aL cG
def Ge (l:List (Nat×cG)) (b:Nat) (d:Option cG):Option cG:=List.rec (motive:=λ_=>Option cG) d (λp _ ih=>Bool.rec (motive:=λ_=>Option cG) ih (some p.2) (Nat.beq p.1 b)) l
def Vo (n:Nat) (l:List (Nat×cG)):List (Nat×cG) :=
 Nat.rec (motive:=λ_=>List (Nat×cG)→List (Nat×cG)) (λ_=>[]) (λ_ ih l=>List.rec (motive:=λ_=>List (Nat×cG)) [] (λp r _=>p::ih r) l) n l
def MG (l:List (Nat×cG)) (t:aL cG):aL cG:=List.rec (motive:=λ_=>aL cG) t (λp _ ih=>aL.set ih p.1 p.2) l
def AH.get (h:AH) (b:Nat):Option cG:=Ge h.rc b (aL.get h.t b)
def AH.put (h:AH) (b:Nat) (x:cG):AH:=⟨h.nx,(b,x)::Vo 5 h.rc,MG (yi 5 h.rc) h.t⟩
def AH.new (h:AH) (x:cG):AH:=⟨Nat.succ h.nx,(h.nx,x)::Vo 5 h.rc,MG (yi 5 h.rc) h.t⟩
def GQ:Value→Option AV
 | .bool b=>some (.bool b)
 | .int k n=>some (.int k n)
 | .string s=>some (.str s.data.toList)
 | .pointer none=>some .aP
 | .slice none 0 0=>some .ak
 | .nilFunc=>some .dG
 | .nilIface=>some .cH
 |_=>none
def gY {α β:Type} (f:α→Option β):List α→Option (List β)
 |[]=>some []
 |a::r=>(f a).bind λb=>(gY f r).bind λs=>some (b::s)
def Uv:Value→Option AV
 | .agg cs=>(gY GQ cs.toList).map .agg
 | .tuple cs=>(gY GQ cs.toList).map .bJ
 | .func (.func f) first cap=>bif first.isEmpty&&cap.isEmpty then some (.fn f [] [])else none
 |v=>GQ v
def ev (tm:PT AV):Operand→Option AV
 | .tmp t=>tm.get t
 | .const v=>Uv v
 | .global _=>none
 | .func f=>some (.fn f [] [])
def yJ (h:AH) (b off n:Nat):Option (List AV) :=
 match h.get b with
 |some (.cells c _ _)=>c.fM off n
 |some (.cJ t)=>Qb [] t off n
 |_=>none
def ql (l:List AV):Bool:=l.all AV.one
def vA (h:AH) (b off:Nat) (xs:List AV):Option AH :=
 match h.get b with
 |some (.cells c e o)=>bif ql xs then(c.write off xs).bind λc'=>some (h.put b (.cells c' e o))else none
 |_=>none
def aM (P:Program) (t:TypeId):Option Nat:=(P.info? t).map (·.size)
def dH (P:Program) (t:TypeId):Option AV:=(P.info? t).bind λi=>i.zero.bind Uv
def fj (P:Program) (t:TypeId):Option Bool:=(P.underlying t).map fun | .struct _=>true | .array _ _=>true |_=>false
def wz (P:Program) (t:TypeId):Option (Option Nat):=(fj P t).bind λa=>bif a then(aM P t).map some else some none
def xT:List AV→List (Nat×Nat×AV)→Option (List AV)
 |cs,[]=>some cs
 |cs,(o,n,v)::r=>bif Nat.beq v.cells.length n then(kO cs o v.cells).bind λD5=>xT D5 r else none
def zg (k:IntKind) (n:Int):Int :=
 match k,n with
 | .i64,.ofNat a=>bif Nat.ble a 9223372036854775807 then .ofNat a else IntKind.wrap .i64 (.ofNat a)
 | .i64,.negSucc a=>bif Nat.ble a 9223372036854775807 then .negSucc a else IntKind.wrap .i64 (.negSucc a)
 | .u64,.ofNat a=>.ofNat (a%18446744073709551616)
 | .u64,.negSucc a=>.ofNat (18446744073709551615-a%18446744073709551616)
 | .u8,.ofNat a=>.ofNat (a%256)
 |k,n=>IntKind.wrap k n
def lm:Int→Int→Bool
 | .ofNat a,.ofNat b=>Nat.beq a b
 | .negSucc a,.negSucc b=>Nat.beq a b
 |_,_=>false
def mK:Int→Int→Bool
 | .ofNat a,.ofNat b=>Nat.ble (a+1) b
 | .ofNat _,.negSucc _=>false
 | .negSucc _,.ofNat _=>true
 | .negSucc a,.negSucc b=>Nat.ble (b+1) a
def kb (op:BinOp) (k:IntKind) (x y:Int):Option AV :=
 match op with
 | .add=>some (.int k (zg k (x+y)))
 | .sub=>some (.int k (zg k (x-y)))
 | .mul=>some (.int k (zg k (x*y)))
 | .quo=>bif lm y 0 then none else some (.int k (zg k (x.tdiv y)))
 | .rem=>bif lm y 0 then none else some (.int k (x.tmod y))
 | .and=>some (.int k (k.wrap (BitVec.ofInt k.bits x&&&BitVec.ofInt k.bits y).toNat))
 | .or=>some (.int k (k.wrap (BitVec.ofInt k.bits x|||BitVec.ofInt k.bits y).toNat))
 | .xor=>some (.int k (k.wrap (BitVec.ofInt k.bits x ^^^ BitVec.ofInt k.bits y).toNat))
 | .andNot=>some (.int k (k.wrap (BitVec.ofInt k.bits x&&& ~~~ BitVec.ofInt k.bits y).toNat))
 | .eql=>some (.bool (lm x y))
 | .neq=>some (.bool (!lm x y))
 | .lss=>some (.bool (mK x y))
 | .leq=>some (.bool (!mK y x))
 | .gtr=>some (.bool (mK y x))
 | .geq=>some (.bool (!mK x y))
 | .shl | .shr=>none
def Mo (op:BinOp) (k:IntKind) (x y:Int):Option AV :=
 bif mK y 0 then none else
 match op with
 | .shl=>some (.int k (zg k (x*2 ^ (min y.toNat k.bits))))
 | .shr=>some (.int k (x.fdiv (2 ^ (min y.toNat k.bits))))
 |_=>none
def fO:List UInt8→List UInt8→Bool
 |[],[]=>true
 |a::x,b::y=>a==b&&fO x y
 |_,_=>false
def OH (op:BinOp) (x y:List UInt8):Option AV :=
 match op with
 | .add=>bif Nat.ble (x.length+y.length) 1073741824 then some (.str (x++y))else none
 | .eql=>some (.bool (fO x y))
 | .neq=>some (.bool (!fO x y))
 | .lss=>some (.bool (Op.bytesLess x y))
 | .leq=>some (.bool (Op.bytesLess x y||fO x y))
 | .gtr=>some (.bool (!(Op.bytesLess x y||fO x y)))
 | .geq=>some (.bool (!Op.bytesLess x y))
 |_=>none
inductive EK where
  |bool |int |str |ptr |Au |fn |C1
def Kx:TypeDesc→Option EK
 | .bool=>some .bool
 | .int _=>some .int
 | .string=>some .str
 | .pointer _=>some .ptr
 | .slice _=>some .Au
 | .func _ _ _=>some .fn
 | .interface _=>some .C1
 |_=>none
def Ji (d:EK) (x y:AV):Option Bool :=
 match d,x,y with
 | .bool,.bool a,.bool b=>some (a==b)
 | .int,.int k a,.int k' b=>bif k==k' then some (lm a b)else none
 | .str,.str a,.str b=>some (fO a b)
 | .ptr,.aP,.aP=>some true
 | .ptr,.aP,.ptr _ _=>some false
 | .ptr,.ptr _ _,.aP=>some false
 | .Au,.ak,.ak=>some true
 | .Au,.ak,.slice ..=>some false
 | .Au,.slice ..,.ak=>some false
 | .fn,.dG,.dG=>some true
 | .fn,.dG,.fn ..=>some false
 | .fn,.fn ..,.dG=>some false
 | .C1,.cH,.iface _ _=>some false
 | .C1,.iface _ _,.cH=>some false
 |_,_,_=>none
inductive ES where
  |lA (k:EK) (o:Nat)
  |len (n:Nat)
def xk:List ES→List AV→List AV→Option Bool
 |[],_,_=>some true
 | .lA d o::r,xs,ys=>(wx xs o).bind λx=>(wx ys o).bind λy=>(Ji d x y).bind λe=>bif e then xk r xs ys else some false
 | .len n::r,xs,ys=>bif Nat.ble n xs.length&&Nat.ble n ys.length then xk r xs ys else none
def Qe (n:Nat):List ES→Bool
 |[]=>true
 | .lA _ o::r=>Nat.ble (o+1) n&&Qe n r
 | .len m::r=>Nat.ble m n&&Qe n r
def Xl (c:Nat):List ES→List ES
 |[]=>[]
 | .lA k o::r=>.lA k (c+o)::Xl c r
 | .len m::r=>.len (c+m)::Xl c r
def Jo (P:Program) (nest:List Field→Option (List ES)):List Field→Option (List ES)
 |[]=>some []
 | f :: r => bif f.name == "_" then none else (P.underlying f.type).bind fun u => match u with
  | .struct fs=>(aM P f.type).bind λn=>bif P.stoodInHeld f.type then none else(nest fs.toList).bind λl1=>bif Qe n l1 then(Jo P nest r).map λl2=>.len (f.offset+n)::(Xl f.offset l1++l2)else none
  |u=>(Kx u).bind λk=>match k with
   | .C1=>none
   |k=>(Jo P nest r).map λl=>.lA k f.offset::l
def yt (P:Program):Nat→List Field→Option (List ES)
 | 0,_=>none
 |d+1,fs=>Jo P (yt P d) fs
abbrev R:=Option (AV×AH)
abbrev CV:=AV→List AV→AH→R
abbrev ob {α:Type} (x:Option α) (k:α→R):R:=match x with |some a=>k a |none=>none
abbrev cj (b:Bool) (x y:R):R:=match b with |true=>x |false=>y
def yH {α:Type} (j:α) (f:α→R):R:=f j
def YI {σ:Type} (N:Nat) (f:(σ→AH→List Nat→R)→σ→AH→List Nat→R):σ→AH→List Nat→R :=
 Nat.rec (motive:=λ_=>σ→AH→List Nat→R) (λ_ _ _=>none) (λ_ ih=>f ih) N
def AV.asBool (v:AV) (f:Bool→R) (d:R):R :=
 AV.rec (motive_1:=λ_=>R) (motive_2:=λ_=>PUnit) (λx0=>f x0) (λ_ _=>d) (λ_=>d) (λ_ _=>d) d (λ_ _ _ _ _=>d) d (λ_ _ _ _ _=>d) (λ_=>d) d (λ_ _ _=>d) d (λ_ _=>d) (λ_ _=>d) (λ_=>d) (λ_ _ _ _=>d) (λ_=>d) ⟨⟩ (λ_ _ _ _=>⟨⟩) v
def AV.asInt (v:AV) (f:IntKind→Int→R) (d:R):R :=
 AV.rec (motive_1:=λ_=>R) (motive_2:=λ_=>PUnit) (λ_=>d) (λx0 x1=>f x0 x1) (λ_=>d) (λ_ _=>d) d (λ_ _ _ _ _=>d) d (λ_ _ _ _ _=>d) (λ_=>d) d (λ_ _ _=>d) d (λ_ _=>d) (λ_ _=>d) (λ_=>d) (λ_ _ _ _=>d) (λ_=>d) ⟨⟩ (λ_ _ _ _=>⟨⟩) v
def AV.mL (v:AV) (f:Nat→Nat→R) (d:R):R :=
 AV.rec (motive_1:=λ_=>R) (motive_2:=λ_=>PUnit) (λ_=>d) (λ_ _=>d) (λ_=>d) (λx0 x1=>f x0 x1) d (λ_ _ _ _ _=>d) d (λ_ _ _ _ _=>d) (λ_=>d) d (λ_ _ _=>d) d (λ_ _=>d) (λ_ _=>d) (λ_=>d) (λ_ _ _ _=>d) (λ_=>d) ⟨⟩ (λ_ _ _ _=>⟨⟩) v
def AV.asSlice (v:AV) (f:Nat→Nat→Nat→Nat→Bool→R) (d:R):R :=
 AV.rec (motive_1:=λ_=>R) (motive_2:=λ_=>PUnit) (λ_=>d) (λ_ _=>d) (λ_=>d) (λ_ _=>d) d (λx0 x1 x2 x3 x4=>f x0 x1 x2 x3 x4) d (λ_ _ _ _ _=>d) (λ_=>d) d (λ_ _ _=>d) d (λ_ _=>d) (λ_ _=>d) (λ_=>d) (λ_ _ _ _=>d) (λ_=>d) ⟨⟩ (λ_ _ _ _=>⟨⟩) v
def AV.asAgg (v:AV) (f:List AV→R) (d:R):R :=
 AV.rec (motive_1:=λ_=>R) (motive_2:=λ_=>PUnit) (λ_=>d) (λ_ _=>d) (λ_=>d) (λ_ _=>d) d (λ_ _ _ _ _=>d) d (λ_ _ _ _ _=>d) (λ_=>d) d (λ_ _ _=>d) d (λx0 _=>f x0) (λ_ _=>d) (λ_=>d) (λ_ _ _ _=>d) (λ_=>d) ⟨⟩ (λ_ _ _ _=>⟨⟩) v
def AV.Av (v:AV) (f:List AV→R) (d:R):R :=
 AV.rec (motive_1:=λ_=>R) (motive_2:=λ_=>PUnit) (λ_=>d) (λ_ _=>d) (λ_=>d) (λ_ _=>d) d (λ_ _ _ _ _=>d) d (λ_ _ _ _ _=>d) (λ_=>d) d (λ_ _ _=>d) d (λ_ _=>d) (λx0 _=>f x0) (λ_=>d) (λ_ _ _ _=>d) (λ_=>d) ⟨⟩ (λ_ _ _ _=>⟨⟩) v
def kn (k:IntKind):Nat:=IntKind.rec (motive:=λ_=>Nat) 0 1 2 3 4 5 6 7 k
def D6 (a b:IntKind):Bool:=Nat.beq (kn a) (kn b)
def th (t w:Bool):Bool:=Bool.rec (motive:=λ_=>Bool) (Bool.rec (motive:=λ_=>Bool) true false w) (Bool.rec (motive:=λ_=>Bool) false true w) t
def tj (x y:Int):Int:=Int.rec (motive:=λ_=>Int) (λa=>Int.rec (motive:=λ_=>Int) (λb=>.ofNat (Nat.add a b)) (λb=>Int.add (.ofNat a) (.negSucc b)) y) (λa=>Int.add (.negSucc a) y) x
def tn (x y:Int):Int:=Int.rec (motive:=λ_=>Int) (λa=>Int.rec (motive:=λ_=>Int) (λb=>Bool.rec (motive:=λ_=>Int) (.negSucc (Nat.sub (Nat.sub b a) 1)) (.ofNat (Nat.sub a b)) (Nat.ble b a)) (λb=>Int.sub (.ofNat a) (.negSucc b)) y) (λa=>Int.sub (.negSucc a) y) x
def MU (x y:Int):Bool:=Int.rec (motive:=λ_=>Bool) (λa=>Int.rec (motive:=λ_=>Bool) (λb=>Nat.ble (Nat.succ a) b) (λ_=>false) y) (λa=>Int.rec (motive:=λ_=>Bool) (λ_=>true) (λb=>Nat.ble (Nat.succ b) a) y) x
def Aw (x y:Int):Bool:=Int.rec (motive:=λ_=>Bool) (λa=>Int.rec (motive:=λ_=>Bool) (λb=>Nat.beq a b) (λ_=>false) y) (λa=>Int.rec (motive:=λ_=>Bool) (λ_=>false) (λb=>Nat.beq a b) y) x
def tp (b:Bool):Bool:=Bool.rec (motive:=λ_=>Bool) true false b
def Zx (k:IntKind) (n:Int) (f:Int→R):R :=
 IntKind.rec (motive:=λ_=>R) (f (zg .i8 n)) (f (zg .i16 n)) (f (zg .i32 n))
  (Int.rec (motive:=λ_=>R) (λa=>Bool.rec (motive:=λ_=>R) (f (zg .i64 (.ofNat a))) (f (.ofNat a)) (Nat.ble a 9223372036854775807)) (λa=>f (zg .i64 (.negSucc a))) n)
  (f (zg .u8 n)) (f (zg .u16 n)) (f (zg .u32 n))
  (Int.rec (motive:=λ_=>R) (λa=>Bool.rec (motive:=λ_=>R) (f (zg .u64 (.ofNat a))) (f (.ofNat a)) (Nat.ble a 18446744073709551615)) (λa=>f (zg .u64 (.negSucc a))) n) k
def D7 (op:BinOp) (k:IntKind) (x y:Int) (f:AV→R):R :=
 BinOp.rec (motive:=λ_=>R) (Zx k (tj x y) λn=>f (.int k n)) (Zx k (tn x y) λn=>f (.int k n)) (ob (kb .mul k x y) f)
  (ob (kb .quo k x y) f) (ob (kb .rem k x y) f) (ob (kb .and k x y) f) (ob (kb .or k x y) f) (ob (kb .xor k x y) f) (ob (kb .shl k x y) f) (ob (kb .shr k x y) f) (ob (kb .andNot k x y) f)
  (f (.bool (Aw x y))) (f (.bool (tp (Aw x y)))) (f (.bool (MU x y))) (f (.bool (tp (MU y x)))) (f (.bool (MU y x))) (f (.bool (tp (MU x y)))) op
def zP (v:AV) (a b:R):R:=v.asBool (λt=>Bool.rec (motive:=λ_=>R) b a t) none
def kL (v:AV) (w:Bool) (a b:R):R:=v.asBool (λt=>Bool.rec (motive:=λ_=>R) b a (th t w)) b
def kV (c a b:AV) (k:AV→R):R:=c.asBool (λt=>Bool.rec (motive:=λ_=>R) (k b) (k a) t) none
def xM (v:AV) (k:AV→R):R:=match v with | .ptr b o=>k (.ptr b o) | .fn f a c=>k (.fn f a c) | .yield l=>k (.yield l) |_=>none
def qn (v:AV) (off:Nat) (k:AV→R):R:=v.mL (λb o=>k (.ptr b (Nat.add o off))) none
def Y9 (v:AV) (off:Nat) (k:AV→R):R:=v.asAgg (λcs=>Option.rec (motive:=λ_=>R) none k (wx cs off)) none
def YJ (v:AV) (off n:Nat) (k:AV→R):R:=match v with | .agg cs=>ob (yD n (yi off cs)) λl=>k (.agg l) |_=>none
def vt (v i:AV) (sz:Nat) (k:AV→R):R :=
 v.asSlice (λb off len _ _=>i.asInt (λ_ n=>Int.rec (motive:=λ_=>R) (λa=>Bool.rec (motive:=λ_=>R) none (k (.ptr b (Nat.add off (Nat.mul a sz)))) (Nat.ble (Nat.succ a) len)) (λ_=>none) n) none) none
def QJ (v i:AV) (n sz:Nat) (k:AV→R):R:=match v,i with | .ptr b off,.int _ (.ofNat a)=>bif Nat.ble (a+1) n then k (.ptr b (off+a*sz))else none |_,_=>none
def Xp (v i:AV) (n sz:Nat) (k:AV→R):R:=match v,i with | .agg cs,.int _ (.ofNat a)=>bif Nat.ble (a+1) n then ob (wx cs (a*sz)) k else none |_,_=>none
def Xs (v i:AV) (n sz:Nat) (k:AV→R):R:=match v,i with | .agg cs,.int _ (.ofNat a)=>bif Nat.ble (a+1) n then ob (yD sz (yi (a*sz) cs)) λl=>k (.agg l)else none |_,_=>none
def gA (v i:AV) (k:AV→R):R:=match v,i with | .str s,.int _ (.ofNat a)=>ob (wx s a) λc=>k (.int .u8 (.ofNat c.toNat)) |_,_=>none
def jB (h:AH) (v:AV) (k:AV→R):R :=
 v.mL (λb off=>Option.rec (motive:=λ_=>R) none (λx=>cG.rec (motive:=λ_=>R) (λc _ _=>Option.rec (motive:=λ_=>R) none k (c.dX off)) none (λ_ _=>none) (λ_ _ _ _ _ _ _=>none) none none (λt=>Option.rec (motive:=λ_=>R) none k (aL.get t off)) (λ_ _=>none) x) (h.get b)) none
def zc (h:AH) (v:AV) (n:Nat) (k:AV→R):R:=v.mL (λb off=>Option.rec (motive:=λ_=>R) none (λl=>k (.agg l)) (yJ h b off n)) none
def jU (h:AH) (a x:AV) (n:Nat) (k:AH→R):R:=a.mL (λb off=>Bool.rec (motive:=λ_=>R) none (Option.rec (motive:=λ_=>R) none k (vA h b off x.cells)) (Nat.beq x.cells.length n)) none
def jo (op:BinOp) (x y:AV) (k:AV→R):R:=x.asInt (λk1 a=>y.asInt (λk2 b=>Bool.rec (motive:=λ_=>R) none (D7 op k1 a b k) (D6 k1 k2)) none) none
def wL (op:BinOp) (x y:AV) (k:AV→R):R:=match x,y with | .int k1 a,.int _ b=>ob (Mo op k1 a b) k |_,_=>none
def M6 (op:BinOp) (x y:AV) (k:AV→R):R:=match x,y with | .str a,.str b=>ob (OH op a b) k |_,_=>none
def mM (d:EK) (neg:Bool) (x y:AV) (k:AV→R):R:=ob (Ji d x y) λe=>k (.bool (e !=neg))
def GG (l:List ES) (neg:Bool) (x y:AV) (k:AV→R):R:=match x,y with | .agg a,.agg b=>ob (xk l a b) λe=>k (.bool (e !=neg)) |_,_=>none
def ow (op:UnOp) (x:AV) (k:AV→R):R :=
 match op,x with
 | .neg,.int d n=>k (.int d (zg d (0-n)))
 | .not,.bool b=>k (.bool (!b))
 | .xor,.int d n=>k (.int d (d.wrap (BitVec.ofInt d.bits (if d.signed then-1 else d.max) ^^^ BitVec.ofInt d.bits n).toNat))
 |_,_=>none
def vH (d:IntKind) (x:AV) (k:AV→R):R:=match x with | .int _ n=>k (.int d (zg d n)) |_=>none
def Xc (x:AV) (k:AV→R):R:=match x with | .str s=>k (.str s) |_=>none
def wK:List AV→Option (List UInt8)
 |[]=>some []
 | .int .u8 (.ofNat n)::r=>(wK r).bind λs=>some (UInt8.ofNat n::s)
 |_=>none
def Xx (h:AH) (x:AV) (k:AV→R):R:=match x with | .ak=>k (.str []) | .slice b off len _ _=>ob (yJ h b off len) λcs=>ob (wK cs) λs=>k (.str s) |_=>none
def Gn (h:AH) (e:TypeId) (x:AV) (k:AV→AH→R):R:=match x with
 | .str s=>bif Nat.ble s.length 1073741824 then k (.slice h.nx 0 s.length 0 true) (h.new (.cells (CT.ofList (s.map λ(c:UInt8)=>.int .u8 (.ofNat c.toNat))) e true))else none
 |_=>none
def Mt (x:AV) (y:Nat):Option Nat:=match x with | .int _ (.ofNat a)=>bif Nat.ble a y then some a else none |_=>none
def yP (x:Option AV) (y D8:Nat):Option Nat:=match x with |none=>some D8 |some v=>Mt v y
def vp (v:AV) (lo hi:Option AV) (k:AV→R):R:=match v with
 | .str s=>ob (yP hi s.length s.length) λh=>ob (yP lo h 0) λl=>ob (yD (h-l) (yi l s)) λt=>k (.str t)
 |_=>none
def yL (h:AH) (el:TypeId) (b off sz i0 len:Nat):Bool:=match h.get b with
 |some (.cells c e true)=>Nat.beq el e&&(Nat.ble 1 sz&&(Nat.beq off (i0*sz)&&Nat.ble (off+len*sz) c.len))
 |_=>false
def yQ (h:AH) (el:TypeId) (sz:Nat) (v:AV) (lo hi:Option AV) (k:AV→R):R:=match v with
 | .slice b off len cap false=>ob (yP hi cap len) λu=>ob (yP lo u 0) λl=>k (.slice b (bif Nat.beq cap l then off else off+l*sz) (u-l) (cap-l) false)
 | .slice b off len i0 true=>bif yL h el b off sz i0 len then
   ob (yP hi len len) λu=>ob (yP lo u 0) λl=>bif Nat.beq l 0 then k (.slice b off u i0 true)else bif Nat.ble (l+1) len then k (.slice b (off+l*sz) (u-l) (i0+l) true)else k (.tail b off (off+l*sz) (i0+l))
  else none
 | .ak=>ob (yP hi 0 0) λ_=>ob (yP lo 0 0) λ_=>k .ak
 | .bU a=>ob (yP hi 0 0) λ_=>ob (yP lo 0 0) λ_=>k (.bU a)
 |_=>none
def gD (n sz:Nat) (v:AV) (lo hi:Option AV) (k:AV→R):R:=match v with
 | .ptr b off=>ob (yP hi n n) λh=>ob (yP lo h 0) λl=>k (.slice b (bif Nat.beq n l then off else off+l*sz) (h-l) (n-l) false)
 |_=>none
def xu (t:TypeId) (z v:AV) (k:AV→R):R:=match v with
 | .iface u x=>bif Nat.beq u t then k (.bJ [x,.bool true])else k (.bJ [z,.bool false])
 | .cH=>k (.bJ [z,.bool false])
 |_=>none
def kp (t:TypeId) (v:AV) (k:AV→R):R:=match v with | .iface u x=>bif Nat.beq u t then k x else none |_=>none
def xv (v:AV) (i:Nat) (k:AV→R):R:=v.Av (λl=>Option.rec (motive:=λ_=>R) none k (wx l i)) none
def JJ (v:AV) (k:AV→R):R:=match v with | .slice _ _ len _ _=>k (.int .i64 (.ofNat len)) | .ak=>k (.int .i64 (.ofNat 0)) | .bU _=>k (.int .i64 (.ofNat 0)) | .tail _ _ _ _=>k (.int .i64 (.ofNat 0)) |_=>none
def Q8 (v:AV) (k:AV→R):R:=match v with | .str s=>k (.int .i64 (.ofNat s.length)) |_=>none
def Ax (mx:Bool):AV→AV→Option AV
 | .int k x,.int k' y=>bif k==k' then some (.int k (bif mx then(bif mK x y then y else x)else(bif mK y x then y else x)))else none
 |_,_=>none
def tu (mx:Bool):AV→List AV→Option AV
 |a,[]=>some a
 |a,b::r=>(Ax mx a b).bind λc=>tu mx c r
def UZ:AV→Bool | .int _ _=>true |_=>false
def nt (mx:Bool) (l:List AV) (k:AV→R):R:=match l with |a::r=>bif UZ a then ob (tu mx a r) k else none |[]=>none
def gF (h:AH) (e:TypeId) (v:AV) (k:AV→AH→R):R:=bif ql v.cells then k (.ptr h.nx 0) (h.new (.cells (CT.ofList v.cells) e false))else none
def vJ (z:List AV) (vs:List (Nat×Nat×AV)) (k:AV→R):R:=ob (xT z vs) λl=>k (.agg l)
def yC (h:AH) (e:TypeId) (z:List AV) (len:Nat) (vs:List (Nat×Nat×AV)) (k:AV→AH→R):R :=
 ob (xT (yI z len) vs) λcs=>bif ql cs then k (.slice h.nx 0 len len false) (h.new (.cells (CT.ofList cs) e false))else none
def kr (h:AH) (e:TypeId) (z:List AV) (l c:AV) (k:AV→AH→R):R:=match l,c with
 | .int _ (.ofNat ln),.int _ (.ofNat cp)=>bif Nat.ble ln cp&&Nat.ble cp 1073741824 then k (.slice h.nx 0 ln cp false) (h.new (.cells (CT.uL z cp) e false))else none
 |_,_=>none
def wm (h:AH) (sz n:Nat):AV→Option (List AV)
 | .slice b off _ _ _=>yJ h b off (n*sz)
 | .ak=>some []
 | .bU _=>bif Nat.beq n 0 then some []else none
 | .tail _ _ _ _=>bif Nat.beq n 0 then some []else none
 | .str s=>(yD n s).map (List.map λ(c:UInt8)=>AV.int .u8 (.ofNat c.toNat))
 |_=>none
def Qz:AV→Option Nat
 | .slice _ _ len _ _=>some len
 | .ak=>some 0
 | .bU _=>some 0
 | .tail _ _ _ _=>some 0
 | .str s=>some s.length
 |_=>none
def UT (h:AH) (sz n:Nat):AV→Option CT
 | .slice b off _ _ _=>(match h.get b with
  |some (.cells c _ _)=>c.C0 off (n*sz)
  |some (.cJ t)=>(Qb [] t off (n*sz)).bind λl=>some (CT.ofList l)
  |_=>none)
 | .ak=>some (.dW [])
 | .bU _=>bif Nat.beq n 0 then some (.dW [])else none
 | .tail _ _ _ _=>bif Nat.beq n 0 then some (.dW [])else none
 | .str s=>(yD n s).bind λl=>some (CT.ofList (l.map λ(c:UInt8)=>AV.int .u8 (.ofNat c.toNat)))
 |_=>none
def yO (h:AH) (e:TypeId) (sz:Nat) (s:AV) (n:Nat) (nc:CT) (k:AV→AH→R):R:=match s with
 | .ak=>bif Nat.beq n 0 then k .ak h else bif Nat.ble n 67108864 then k (.slice h.nx 0 n 0 true) (h.new (.cells nc e true))else none
 | .slice b off len cap false=>
  bif Nat.ble (len+n) cap then(bif Nat.beq n 0 then k (.slice b off len cap false) h else ob (vA h b (off+len*sz) nc.toList) λh'=>k (.slice b off (len+n) cap false) h')
  else bif Nat.ble (len+n) 67108864 then ob (yJ h b off (len*sz)) λcS=>k (.slice h.nx 0 (len+n) 0 true) (h.new (.cells (bif Nat.beq len 0 then nc else CT.ofList (cS++nc.toList)) e true))
  else none
 | .slice b off len i0 true=>
  match h.get b with
  |some (.cells c e' true)=>
   bif Nat.ble 1 sz&&(Nat.beq off (i0*sz)&&(Nat.beq e e'&&Nat.ble (off+len*sz) c.len))then
    bif Nat.beq n 0 then k (.slice b off len i0 true) h else
    bif Nat.ble (off+(len+n)*sz) c.len then ob (vA h b (off+len*sz) nc.toList) λh'=>k (.slice b off (len+n) i0 true) h'
    else bif Nat.beq i0 0&&(Nat.ble (len+n) 67108864&&ql nc.toList)then
     ob (c.pre (len*sz)) λcS=>k (.slice h.nx 0 (len+n) 0 true) ((h.put b .dead).new (.cells (cS.fN nc.toList) e true))
    else none
   else none
  |_=>none
 |_=>none
def vB (h:AH) (e:TypeId) (sz:Nat) (s x:AV) (k:AV→AH→R):R :=
 ob (Qz x) λn=>ob (UT h sz n x) λnc=>bif Nat.beq nc.len (n*sz)then yO h e sz s n nc k else none
def Uz (h:AH) (sz:Nat) (d s:AV) (k:AV→AH→R):R :=
 ob (Qz s) λn=>ob (Qz d) λm=>ob (wm h sz (Nat.min n m) s) λcs=>match d with
  | .slice b off _ _ _=>bif Nat.beq (Nat.min n m) 0 then k (.int .i64 (.ofNat 0)) h else ob (vA h b off cs) λh'=>k (.int .i64 (.ofNat (Nat.min n m))) h'
  | .ak=>k (.int .i64 (.ofNat 0)) h
  |_=>none
def YW (h:AH) (v:AV) (k:AV→AH→R):R:=match v with | .str s=>k (.ptr h.nx 0) (h.new (.iter s 0)) |_=>none
def wS (x:Int):List (Int×Int×Nat)→Nat→Option (Nat×Int×Nat)
 |[],_=>none
 |e::r,i=>bif lm x e.1 then some (i,e.2)else wS x r (i+1)
def C5 (x:Int):List (Int×Int×Nat)→Nat→Option Nat
 |[],_=>none
 |e::r,i=>bif lm (.ofNat e.2.2) x then some i else C5 x r (i+1)
def x5 (y:Int):List (Int×Int×Nat)→Nat→List (Int×Int×Nat)
 |[],_=>[]
 |e::r,0=>(e.1,y,e.2.2)::r
 |e::r,i+1=>e::x5 y r i
def QH (h:AH) (k:AV→AH→R):R:=k (.cI h.nx) (h.new (.mp [] 0))
def Uc (h:AH) (v:AV) (k:AV→R):R:=match v with
 | .cI b=>(match h.get b with |some (.mp l _)=>k (.int .i64 (.ofNat l.length)) |_=>none)
 |_=>none
def X5 (h:AH) (v i:AV) (k:AV→R):R:=match v,i with
 | .cI b,.int .i64 x=>(match h.get b with |some (.mp l _)=>(match wS x l 0 with |some e=>k (.int .i64 e.2.1) |none=>k (.int .i64 (.ofNat 0))) |_=>none)
 |_,_=>none
def Kk (h:AH) (v i:AV) (k:AV→AH→R):R:=match v,i with
 | .cI b,.int .i64 x=>(match h.get b with
  |some (.mp l c)=>(match wS x l 0 with |some e=>k (.bJ [.int .i64 e.2.1,.int .i64 (.ofNat e.2.2)]) h |none=>k (.bJ [.int .i64 (.ofNat 0),.int .i64 (.ofNat c)]) (h.put b (.mp (l++[(x,.ofNat 0,c)]) (c+1))))
  |_=>none)
 |_,_=>none
def Z7 (h:AH) (v s y:AV) (k:AH→R):R:=match v,s,y with
 | .cI b,.int .i64 x,.int .i64 z=>(match h.get b with
  |some (.mp l c)=>(match C5 x l 0 with |some i=>k (h.put b (.mp (x5 z l i) c)) |none=>none)
  |_=>none)
 |_,_,_=>none
def UX (h:AH) (v i y:AV) (k:AH→R):R:=match v,i,y with
 | .cI b,.int .i64 x,.int .i64 z=>(match h.get b with
  |some (.mp l c)=>(match wS x l 0 with |some e=>k (h.put b (.mp (x5 z l e.1) c)) |none=>k (h.put b (.mp (l++[(x,z,c)]) (c+1))))
  |_=>none)
 |_,_,_=>none
def Ub (h:AH) (v i:AV) (k:AV→AH→R):R:=match v,i with
 | .cI b,.int .i64 x=>(match h.get b with
  |some (.mp l c)=>(match wS x l 0 with |some e=>k (.bJ []) (h.put b (.mp (l.eraseIdx e.1) c)) |none=>k (.bJ []) (h.put b (.mp l c)))
  |_=>none)
 |_,_=>none
def Zd (P:Program) (t:TypeId):Bool:=match P.underlying t with
 |some (.map kt et)=>(match P.underlying kt,P.underlying et,dH P et with |some (.int .i64),some (.int .i64),some (.int .i64 (.ofNat 0))=>true |_,_,_=>false)
 |_=>false
def Kf (h:AH) (v:AV) (k:AV→AH→R):R:=match v with
 | .ptr b 0=>(match h.get b with
  |some (.iter s pos)=>bif Nat.ble (pos+1) s.length then
    k (.bJ [.bool true,.int .i64 (.ofNat pos),.int .i32 (Utf8.decode ⟨s.toArray⟩ pos).1]) (h.put b (.iter s (pos+(Utf8.decode ⟨s.toArray⟩ pos).2)))
   else k (.bJ [.bool false]) h
  |_=>none)
 |_=>none
def zA (c:CV) (f:AV) (a:List AV) (h:AH) (k:AV→AH→R):R:=Option.rec (motive:=λ_=>R) none (λq=>k q.1 q.2) (c f a h)
def GS (l:List (Nat×Nat)) (t:Nat):Option Nat:=List.rec (motive:=λ_=>Option Nat) none (λp _ ih=>Bool.rec (motive:=λ_=>Option Nat) ih (some p.2) (Nat.beq p.1 t)) l
def yz (c:CV) (l:List (Nat×Nat)) (v:AV) (a:List AV) (h:AH) (k:AV→AH→R):R:=match v with
 | .iface t x=>Option.rec (motive:=λ_=>R) none (λf=>zA c (.fn f [] []) (x::a) h k) (GS l t)
 |_=>none
def JT (c:CV) (f:AV) (a:List AV) (h:AH) (k:AV→AH→R):R:=match f with | .fn _ _ _=>zA c f a h k |_=>none
def Ml (P:Program) (name:String) (t:TypeId):Option Nat :=
 (P.info? t).bind λi=>(i.methods.toList.find? (·.name==name)).bind λm=>bif m.path.isEmpty then m.func.bind λg=>bif g.2 then(P.underlying t).bind λd=>(match d with | .pointer _=>some g.1 |_=>none)else none else none
def OG (P:Program) (name:String):List Nat→List (Nat×Nat)
 |[]=>[]
 |t::r=>match Ml P name t with |some f=>(t,f)::OG P name r |none=>OG P name r
def NH (P:Program) (name:String):List (Nat×Nat):=OG P name (List.range P.types.size)
def Oa (P:Program) (t:TypeId) (f:Nat):Option Nat :=
 (P.underlying t).bind fun | .struct fs=>(fs[f]?).bind λg=>(aM P g.type).bind λsz=>bif Nat.beq sz 0 then none else some g.offset |_=>none
def Vp (P:Program) (t:TypeId) (f:Nat):Option (Nat×Option Nat) :=
 (P.underlying t).bind fun | .struct fs=>(fs[f]?).bind λg=>(wz P g.type).map λi=>(g.offset,i) |_=>none
def xi (pl:Nat→Option (Nat×Nat)) (r:Operand→Option AV):List (Nat×Operand)→Option (List (Nat×Nat×AV))
 |[]=>some []
 |(i,x)::l=>(pl i).bind λp=>(r x).bind λv=>(xi pl r l).map λs=>(p.1,p.2,v)::s
def wC (P:Program) (fs:List Field):Option (List (Nat×Nat)):=gY (λf=>(aM P f.type).map λn=>(f.offset,n)) fs
def Xi (r:Operand→Option AV):Option Operand→Option (Option AV)
 |none=>some none
 |some x=>(r x).map some
abbrev Ay (P:Program) (op:BinOp) (t:TypeId) (a b:AV) (k:AV→R):R :=
 match op with
 | .shl=>wL .shl a b k
 | .shr=>wL .shr a b k
 |op=>ob (P.underlying t) λd=>match d with
  | .int _=>jo op a b k
  | .string=>M6 op a b k
  | .struct fs=>match op with
   | .eql=>cj (P.eqGuardType P.depth t||P.stoodInHeld t) (none) (ob (yt P 8 fs.toList) λl=>GG l false a b k)
   | .neq=>cj (P.eqGuardType P.depth t||P.stoodInHeld t) (none) (ob (yt P 8 fs.toList) λl=>GG l true a b k)
   |_=>none
  |d=>match op with
   | .eql=>ob (Kx d) λe=>mM e false a b k
   | .neq=>ob (Kx d) λe=>mM e true a b k
   |_=>none
abbrev XM (P:Program) (src dst:TypeId) (v:AV) (h:AH) (k:AV→AH→R):R :=
 ob (P.underlying src) λds=>ob (P.underlying dst) λdd=>match dd with
  | .int d=>(match ds with | .int _=>vH d v λz=>k z h |_=>none)
  | .string=>(match ds with
   | .string=>Xc v λz=>k z h
   | .slice e=>ob (P.underlying e) λde=>(match de with | .int .u8=>Xx h v λz=>k z h |_=>none)
   |_=>none)
  | .slice e=>(match ds with
   | .string=>ob (P.underlying e) λde=>(match de with | .int .u8=>ob (aM P e) λsz=>cj (Nat.beq sz 1) (Gn h e v k) none |_=>none)
   |_=>none)
  |_=>none
def GW (P:Program) (e:TypeId):Option (List AV) :=
 (P.info? e).bind λi=>(dH P e).bind λz=>bif Nat.beq z.cells.length i.size&&(ql z.cells&&Nat.ble i.bytes 65536)then some z.cells else none
abbrev aX (P:Program) (c:CV) (o:Op) (r:Operand→Option AV) (h:AH) (k:AV→AH→R):R :=
 match o with
 | .move x=>ob (r x) λv=>k v h
 | .assign x=>ob (r x) λv=>k v h
 | .pick a b d=>ob (r a) λva=>ob (r b) λvb=>ob (r d) λvd=>kV va vb vd λz=>k z h
 | .alloc e=>ob (dH P e) λz=>gF h e z k
 | .box e x=>ob (r x) λv=>gF h e v k
 | .build t parts=>ob (dH P t) λz=>ob (P.underlying t) λd=>match d with
  | .struct fs=>ob (wC P fs.toList) λpl=>ob (xi (λi=>wx pl i) r parts.toList) λvs=>vJ z.cells vs λv=>k v h
  | .array _ e=>ob (aM P e) λsz=>ob (xi (λi=>some (i*sz,sz)) r parts.toList) λvs=>vJ z.cells vs λv=>k v h
  |_=>none
 | .buildSlice t len parts=>ob (P.underlying t) λd=>match d with
  | .slice e=>ob (GW P e) λz=>cj (Nat.ble (len*z.length) 16777216) (ob (xi (λi=>some (i*z.length,z.length)) r parts.toList) λvs=>yC h e z len vs k) (none)
  |_=>none
 | .load t a=>ob (r a) λv=>ob (wz P t) λi=>match i with
  |none=>jB h v λz=>k z h
  |some n=>zc h v n λz=>k z h
 | .store t a x=>ob (r a) λva=>ob (r x) λvx=>ob (aM P t) λn=>jU h va vx n λh'=>k .undef h'
 | .nilCheck x=>ob (r x) λv=>xM v λz=>k z h
 | .binOp op t x y _=>ob (r x) λa=>ob (r y) λb=>Ay P op t a b λz=>k z h
 | .unOp op _ x=>ob (r x) λv=>ow op v λz=>k z h
 | .convert s d x=>ob (r x) λv=>XM P s d v h k
 | .makeInterface t x=>ob (P.underlying t) λd=>match d with
  | .interface _=>none
  |_=>ob (r x) λv=>k (.iface t v) h
 | .makeFunc fn a cp=>match fn with
  | .func f=>ob (gY r a.toList) λva=>ob (gY r cp.toList) λvc=>k (.fn f va vc) h
  |_=>none
 | .makeSlice t l cp=>ob (P.underlying t) λd=>match d with
  | .slice e=>ob (GW P e) λz=>ob (r l) λvl=>ob (r cp) λvc=>kr h e z vl vc k
  |_=>none
 | .slice t x lo hi mx=>match mx with
  |some _=>none
  |none=>ob (r x) λv=>ob (Xi r lo) λl=>ob (Xi r hi) λu=>ob (P.underlying t) λd=>match d with
   | .string=>vp v l u λz=>k z h
   | .slice e=>ob (aM P e) λsz=>yQ h e sz v l u λz=>k z h
   | .array n e=>ob (aM P e) λsz=>gD n sz v l u λz=>k z h
   |_=>none
 | .fieldAddr t x f=>ob (r x) λv=>ob (Oa P t f) λoff=>qn v off λz=>k z h
 | .field t x f=>ob (r x) λv=>ob (Vp P t f) λp=>match p.2 with
  |none=>Y9 v p.1 λz=>k z h
  |some n=>YJ v p.1 n λz=>k z h
 | .indexAddr t x i=>ob (r x) λv=>ob (r i) λj=>ob (P.underlying t) λd=>match d with
  | .slice e=>ob (aM P e) λsz=>vt v j sz λz=>k z h
  | .array n e=>cj (Nat.ble 2 n) (ob (aM P e) λsz=>QJ v j n sz λz=>k z h) (none)
  |_=>none
 | .index t x i=>ob (r x) λv=>ob (r i) λj=>ob (P.underlying t) λd=>match d with
  | .string=>gA v j λz=>k z h
  | .array n e=>ob (aM P e) λsz=>ob (fj P e) λg=>cj (g) (Xs v j n sz λz=>k z h) (Xp v j n sz λz=>k z h)
  |_=>none
 | .typeAssert x _ t ok=>ob (r x) λv=>ob (P.underlying t) λd=>match d with
  | .interface _=>none
  |_=>cj (ok) (ob (dH P t) λz=>xu t z v λy=>k y h) (kp t v λy=>k y h)
 | .extract x i=>ob (r x) λv=>xv v i λz=>k z h
 | .makeMap t hint=>match hint with
  |none=>cj (Zd P t) (QH h k) none
  |some _=>none
 | .lookup t x i ok=>cj (Zd P t&&!ok) (ob (r x) λv=>ob (r i) λj=>X5 h v j λz=>k z h) none
 | .mapEntry t x i=>cj (Zd P t) (ob (r x) λv=>ob (r i) λj=>Kk h v j k) none
 | .mapUpdate t x s y=>cj (Zd P t) (ob (r x) λv=>ob (r s) λj=>ob (r y) λu=>UX h v j u λh'=>k .undef h') none
 | .entryStore _ x s y=>ob (r x) λv=>ob (r s) λj=>ob (r y) λu=>Z7 h v j u λh'=>k .undef h'
 | .range t x=>ob (P.underlying t) λd=>match d with
  | .string=>ob (r x) λv=>YW h v k
  |_=>none
 | .next it s=>cj (s) (ob (r it) λv=>Kf h v k) (none)
 | .call cl=>match cl.callee with
  | .value f=>ob (r f) λvf=>ob (gY r cl.args.toList) λva=>zA c vf va h k
  | .invoke x name=>ob (r x) λv=>ob (gY r cl.args.toList) λva=>yz c (NH P name) v va h k
  | .builtin b=>match b with
   | .len=>(match cl.args.toList,cl.argTypes.toList with
    |x::_,t::_=>ob (r x) λv=>ob (P.underlying t) λd=>(match d with
     | .string=>Q8 v λz=>k z h
     | .array n _=>k (.int .i64 (.ofNat n)) h
     | .slice _=>JJ v λz=>k z h
     | .map _ _=>Uc h v λz=>k z h
     |_=>none)
    |_,_=>none)
   | .min=>ob (gY r cl.args.toList) λl=>nt false l λz=>k z h
   | .max=>ob (gY r cl.args.toList) λl=>nt true l λz=>k z h
   | .append=>(match cl.args.toList,cl.argTypes.toList with
    |s::x::[],t::u::_=>ob (P.underlying u) λdu=>(match du with
     | .int _=>none
     |_=>ob (P.underlying t) λd=>(match d with
      | .slice e=>ob (GW P e) λz=>ob (r s) λvs=>ob (r x) λvx=>vB h e z.length vs vx k
      |_=>none))
    |_,_=>none)
   | .copy=>(match cl.args.toList,cl.argTypes.toList with
    |s::x::[],t::_=>ob (P.underlying t) λd=>(match d with
      | .slice e=>ob (aM P e) λsz=>ob (r s) λvs=>ob (r x) λvx=>Uz h sz vs vx k
      |_=>none)
    |_,_=>none)
   | .delete=>(match cl.args.toList,cl.argTypes.toList with
    |s::x::[],t::_=>cj (Zd P t) (ob (r s) λvs=>ob (r x) λvx=>Ub h vs vx k) none
    |_,_=>none)
   |_=>none
 |_=>none
abbrev cg (P:Program) (c:CV) (o:Op) (r:Operand→Option AV) (h:AH):R:=aX P c o r h λv h'=>some (v,h')
def wM (all:List Oper) (o:Oper):Option Nat:=o.guard.bind λg=>(wx all g.1).bind λp=>p.dst
inductive Pl where
  |z
  |n (L:Option (List Nat)) (a b:Pl)
  |r (Ls:List (List Nat))
def has (tm:PT AV) (t:Nat):Bool:=match tm.get t with |some _=>true |none=>false
abbrev rb:List Nat→Type
 |[]=>Unit
 |_::L=>AV×rb L
def vi:(L:List Nat)→PT AV→rb L
 |[],_=>()
 |t::L,tm=>((match tm.get t with |some v=>v |none=>.undef),vi L tm)
def gL:(L:List Nat)→rb L→PT AV→PT AV
 |[],_,a=>a
 |t::L,s,a=>gL L s.2 (a.set t s.1)
def xA (tm:PT AV):List Nat→Bool
 |[]=>true
 |t::L=>has tm t&&xA tm L
abbrev UF (n:Nat) (tm:PT AV) (dst:Option Tmp) (v:AV) (k:PT AV→R):R :=
 match dst with
 |none=>k tm
 |some d=>cj (Nat.ble (d+1) n) (k (tm.set d v)) (none)
abbrev uM (P:Program) (c:CV) (n:Nat):List Oper→PT AV→AH→(PT AV→AH→R)→R
 |[],tm,h,k=>k tm h
 |o::r,tm,h,k=>aX P c o.op (ev tm) h λv h'=>UF n tm o.dst v λtm'=>uM P c n r tm' h' k
abbrev Km (n:Nat):List Oper→PT AV→(PT AV→R)→R
 |[],tm,k=>k tm
 |o::r,tm,k=>UF n tm o.dst .undef λtm'=>Km n r tm' k
def writes (d:Nat):List Oper→Bool
 |[]=>false
 |o::r=>(match o.dst with |some t=>Nat.beq t d |none=>false)||writes d r
def C6 (g:Nat×Bool) (o:Oper):Bool:=match o.guard with |some g'=>Nat.beq g.1 g'.1&&g.2==g'.2 |none=>false
def zw (g:Nat×Bool):List Oper→List Oper×List Oper
 |[]=>([],[])
 |o::r=>bif C6 g o then(o::(zw g r).1,(zw g r).2)else([],o::r)
abbrev Xf (P:Program) (c:CV) (n:Nat) (all:List Oper):Nat→List Oper→List (List Nat)→PT AV→AH→(PT AV→AH→R)→R
 |_,[],_,tm,h,k=>k tm h
 | 0,_::_,_,_,_,_=>none
 |f+1,o::r,Ls,tm,h,k=>match o.guard with
  |none=>aX P c o.op (ev tm) h λv h'=>UF n tm o.dst v λtm'=>Xf P c n all f r Ls tm' h' k
  |some g=>ob (wM all o) λd=>ob (tm.get d) λvg=>
   match Ls with
   |[]=>none
   |L::sq=>cj (writes d (o::(zw g r).1)) none (yH (α:=rb L→AH→R) (λs h=>Xf P c n all f (zw g r).2 sq (gL L s .e) h k) λJ=>kL vg g.2
     (uM P c n (o::(zw g r).1) tm h λtm' h'=>cj (xA tm' L) (J (vi L tm') h') none)
     (Km n (o::(zw g r).1) tm λtm'=>cj (xA tm' L) (J (vi L tm') h) none))
mutual
def yu:AV→AV→Bool
 | .bool a,.bool b=>a==b
 | .int k a,.int k' b=>k==k'&&lm a b
 | .str a,.str b=>fO a b
 | .ptr b o,.ptr b' o'=>Nat.beq b b'&&Nat.beq o o'
 | .aP,.aP=>true
 | .slice b o l c p,.slice b' o' l' c' p'=>Nat.beq b b'&&(Nat.beq o o'&&(Nat.beq l l'&&(Nat.beq c c'&&p==p')))
 | .ak,.ak=>true
 | .fn f a c,.fn f' a' c'=>Nat.beq f f'&&(YH a a'&&YH c c')
 | .yield l,.yield l'=>Nat.beq l l'
 | .dG,.dG=>true
 | .iface t v,.iface t' v'=>Nat.beq t t'&&yu v v'
 | .cH,.cH=>true
 | .agg l,.agg l'=>YH l l'
 | .bJ l,.bJ l'=>YH l l'
 | .bU a,.bU a'=>decide (a=a')
 | .tail b o o' i,.tail b' p p' j=>Nat.beq b b'&&(Nat.beq o p&&(Nat.beq o' p'&&Nat.beq i j))
 | .cI b,.cI b'=>Nat.beq b b'
 |_,_=>false
def YH:List AV→List AV→Bool
 |[],[]=>true
 |a::r,b::s=>yu a b&&YH r s
 |_,_=>false
end
inductive Cls where
  |pure |load |fresh |dI
def iB (P:Program):Op→Cls
 | .convert s d _=>match P.underlying d with
  |some (.int _)=>.pure
  |some .string=>match P.underlying s with
   |some .string=>.pure
   |some (.slice _)=>.pure
   |_=>.dI
  |some (.slice _)=>match P.underlying s with
   |some .string=>.fresh
   |_=>.dI
  |_=>.dI
 | .move _ | .assign _ | .pick .. | .build .. | .nilCheck _ | .binOp .. | .unOp .. | .makeInterface .. | .makeFunc .. | .slice .. | .fieldAddr .. | .field .. | .indexAddr .. | .index ..
 | .typeAssert .. | .extract ..=>.pure
 | .load ..=>.load
 | .alloc .. | .box .. | .buildSlice .. | .makeSlice ..=>.fresh
 | .call cl=>match cl.callee with
  | .builtin b=>match b with
   | .len=>(match cl.argTypes.toList with |t::_=>(match P.underlying t with |some (.map _ _)=>.dI |_=>.pure) |[]=>.pure)
   | .min=>.pure
   | .max=>.pure
   |_=>.dI
  |_=>.dI
 |_=>.dI
def zq (P:Program) (o:Op):Bool:=match iB P o with | .dI=>true |_=>false
def KO (o:Op):Bool:=match o with | .load _ _=>true |_=>false
def kS (P:Program) (o:Op):Bool:=match o with | .slice t _ _ _ _=>(match P.underlying t with |some (.slice _)=>true |_=>false) |_=>false
def gn (P:Program) (o:Op):Bool:=match o with | .convert s d _=>(match P.underlying d with |some .string=>(match P.underlying s with |some (.slice _)=>true |_=>false) |_=>false) |_=>false
def yo (P:Program) (o:Op):Bool:=KO o||(kS P o||gn P o)
def gB:List Oper→Nat→PT Nat→PT Nat
 |[],_,t=>t
 |o::r,j,t=>gB r (j+1) (t.set j (o.after.toList.foldl (λs e=>bif Region.binds .any e then s|||(2 ^ e.on|||(match t.get e.on with |some m=>m |none=>0))else s) 0))
def zH (t:PT Nat) (j:Nat):Nat:=match t.get j with |some m=>m |none=>0
def chain (P:Program) (t:PT Nat):List Oper→Nat→Option Nat→Bool
 |[],_,_=>true
 |o::r,j,last=>bif zq P o.op then(match last with |none=>true |some i=>Nat.testBit (zH t j) i)&&chain P t r (j+1) (some j)else chain P t r (j+1) last
def bit (t:Nat):Nat:=2 ^ t
def Az:List Nat→Nat
 |[]=>0
 |a::r=>a|||Az r
def Hz:Operand→Nat | .tmp t=>bit t |_=>0
def looks (all:List Oper) (o:Oper):Nat:=Az (o.op.operands.toList.map Hz)|||(match o.guard with |some _=>(match wM all o with |some d=>bit d |none=>0) |none=>0)
def Q2 (o:Oper):Nat:=match o.dst with |some d=>bit d |none=>0
structure AA where
  i:Nat
  w:Nat
  l:Nat
def Nq (mk wj lj:Nat):List AA→Bool
 |[]=>true
 |e::r=>(Nat.testBit mk e.i||(Nat.beq (e.w&&&(lj|||wj)) 0&&Nat.beq (wj&&&e.l) 0))&&Nq mk wj lj r
def w5 (j:Nat):List Edge→Bool
 |[]=>true
 |e::r=>(bif Region.binds .any e then Nat.ble (e.on+1) j else true)&&w5 j r
def rE (t:PT Nat) (all:List Oper):List Oper→Nat→List AA→Bool
 |[],_,_=>true
 |o::r,j,es=>w5 j o.after.toList&&(Nq (zH t j) (Q2 o) (looks all o) es&&rE t all r (j+1) (⟨j,Q2 o,looks all o⟩::es))
def gI (t:PT Nat) (i j:Nat):Bool:=!(Nat.testBit (zH t i) j||Nat.testBit (zH t j) i)
def Jp (P:Program) (t:PT Nat) (i:Nat):List Oper→Nat→Bool
 |[],_=>false
 |o::r,j=>zq P o.op&&gI t i j||Jp P t i r (j+1)
def Je (P:Program) (p:Op→Bool) (t:PT Nat) (all:List Oper):List Oper→Nat→Bool
 |[],_=>false
 |o::r,i=>p o.op&&Jp P t i all 0||Je P p t all r (i+1)
def C7 (P:Program) (ops:Array Oper):Bool :=
 rE (gB ops.toList 0 .e) ops.toList ops.toList 0 []&&chain P (gB ops.toList 0 .e) ops.toList 0 none
structure JK where
  i:Nat
  a:AV
  n:Option Nat
  v:AV
structure QR where
  j:Nat
  hb:AH
  ha:AH
def zi (a:AV) (n:Option Nat) (v:AV) (h:AH):Bool :=
 match a with
 | .ptr b off=>(match h.get b with
  |some (.cells c _ _)=>(match n with
   |none=>(match c.dX off with |some x=>yu x v |none=>false)
   |some n=>(match c.fM off n with |some l=>yu (.agg l) v |none=>false))
  |some (.cJ t)=>(match n with
   |none=>(match aL.get t off with |some x=>yu x v |none=>false)
   |some n=>(match Qb [] t off n with |some l=>yu (.agg l) v |none=>false))
  |_=>false)
 | .slice b off len i0 true=>(match n with |some m=>yL h (m/65536) b off (m%65536) i0 len |none=>false)
 | .slice _ _ _ _ false=>true
 | .ak=>true
 | .bU _=>true
 |_=>false
def D9 (a:AV) (nx:Nat):Bool:=match a with | .ptr b _=>Nat.ble (b+1) nx | .slice b _ _ _ true=>Nat.ble (b+1) nx | .slice _ _ _ _ false=>true | .ak=>true | .bU _=>true |_=>false
def ox (a:AV) (n:Option Nat) (v:AV) (hb ha:AH) (nx:Nat):Bool:=match a,n,v with
 | .slice b _ _ _ _,none,.str _=>Nat.ble ha.nx b
 |_,_,_=>zi a n v hb&&(zi a n v ha&&D9 a nx)
def Xk (a:AV) (n:Option Nat) (v:AV) (hb ha:AH) (nx:Nat) (k:R):R:=bif ox a n v hb ha nx then k else none
abbrev AB (t:PT Nat) (i:Nat) (a:AV) (n:Option Nat) (v:AV) (nx:Nat):List QR→R→R
 |[],k=>k
 |⟨j,hb,ha⟩::r,k=>cj (gI t i j) (Xk a n v hb ha nx (AB t i a n v nx r k)) (AB t i a n v nx r k)
abbrev Mb (t:PT Nat) (hs:List QR) (nx:Nat):List JK→R→R
 |[],k=>k
 |⟨i,a,n,v⟩::r,k=>AB t i a n v nx hs (Mb t hs nx r k)
def JZ (r:Operand→Option AV):Op→Option AV
 | .load _ a=>r a
 | .slice _ x _ _ _=>r x
 | .convert _ _ x=>r x
 |_=>none
def gX (P:Program):Op→Option Nat
 | .load t _=>match wz P t with |some i=>i |none=>none
 | .slice t _ _ _ _=>match P.underlying t with
  |some (.slice e)=>(match aM P e with |some sz=>bif Nat.ble (sz+1) 65536 then some (e*65536+sz)else none |none=>none)
  |_=>none
 |_=>none
def XA:List (Nat×Bool×Bool)→Nat→Bool→Option Bool
 |[],_,_=>none
 |x::r,d,w=>bif Nat.beq x.1 d&&(x.2.1==w)then some x.2.2 else bif Nat.beq x.1 d&&x.2.2 then some false else XA r d w
def tw (dst:Option Tmp) (d:Nat):Bool:=match dst with |some t=>Nat.beq t d |none=>false
def cT (dst:Option Tmp):List (Nat×Bool×Bool)→List (Nat×Bool×Bool)
 |[]=>[]
 |x::r=>bif tw dst x.1 then cT dst r else x::cT dst r
abbrev HK (o:Option Bool) (v:AV) (w:Bool) (a b:R):R:=match o with |some true=>a |some false=>b |none=>kL v w a b
def HL:Bool:=false
def GX:Operand→Option Bool
 | .const k=>(match Uv k with |some (.bool b)=>some b |_=>none)
 |_=>none
def C8 (kn:List (Nat×Bool×Bool)) (d:Nat):Option Bool:=match XA kn d true with
 |some true=>some true
 |_=>(match XA kn d false with |some true=>some false |_=>none)
def KV (kn:List (Nat×Bool×Bool)):Op→Option Bool
 | .move (.tmp d)=>C8 kn d
 | .assign (.tmp d)=>C8 kn d
 | .pick (.tmp d) y z=>(match XA kn d true with |some true=>GX y |some false=>GX z |none=>none)
 |_=>none
def Jz (dst:Option Tmp) (o:Op) (kn:List (Nat×Bool×Bool)):List (Nat×Bool×Bool):=bif HL then(match dst with
  |some t=>(match KV kn o with |some c=>(t,true,c)::(t,false,!c)::cT dst kn |none=>cT dst kn)
  |none=>cT dst kn)else cT dst kn
abbrev YL (P:Program) (c:CV) (n:Nat) (all:List Oper):List Oper→Nat→List (Nat×Bool×Bool)→PT AV→AH→List JK→List QR→(PT AV→AH→List JK→List QR→R)→R
 |[],_,_,tm,h,ls,hs,k=>k tm h ls hs
 |o::r,j,kn,tm,h,ls,hs,k=>
  match o.guard with
  |none=>aX P c o.op (ev tm) h λv h'=>UF n tm o.dst v λtm'=>cj (yo P o.op) (ob (JZ (ev tm) o.op) λa=>YL P c n all r (j+1) (Jz o.dst o.op kn) tm' h' (⟨j,a,gX P o.op,v⟩::ls) hs k) (cj (zq P o.op) (YL P c n all r (j+1) (Jz o.dst o.op kn) tm' h' ls (⟨j,h,h'⟩::hs) k) (YL P c n all r (j+1) (Jz o.dst o.op kn) tm' h' ls hs k))
  |some g=>ob (wM all o) λd=>ob (tm.get d) λvg=>HK (XA kn d g.2) vg g.2
   (aX P c o.op (ev tm) h λv h'=>UF n tm o.dst v λtm'=>
    cj (yo P o.op) (ob (JZ (ev tm) o.op) λa=>YL P c n all r (j+1) (Jz o.dst o.op ((d,g.2,true)::kn)) tm' h' (⟨j,a,gX P o.op,v⟩::ls) hs k) (cj (zq P o.op) (YL P c n all r (j+1) (Jz o.dst o.op ((d,g.2,true)::kn)) tm' h' ls (⟨j,h,h'⟩::hs) k) (YL P c n all r (j+1) (Jz o.dst o.op ((d,g.2,true)::kn)) tm' h' ls hs k)))
   (UF n tm o.dst .undef λtm'=>YL P c n all r (j+1) (cT o.dst ((d,g.2,false)::kn)) tm' h ls hs k)
abbrev Ea (P:Program) (c:CV) (n:Nat) (ops:Array Oper) (Ls:List (List Nat)) (tm:PT AV) (h:AH) (k:PT AV→AH→R):R :=
 cj (C7 P ops) ((cj (Je P (yo P) (gB ops.toList 0 .e) ops.toList ops.toList 0) (match Ls with
   |[]=>none
   |L::_=>yH (α:=rb L→AH→R) (λs h=>k (gL L s .e) h)
     λJ=>YL P c n ops.toList ops.toList 0 [] tm h [] [] λtm' h' ls hs=>Mb (gB ops.toList 0 .e) hs h.nx ls (cj (xA tm' L) (J (vi L tm') h') (none))) (Xf P c n ops.toList ops.toList.length ops.toList Ls tm h k))) (none)
def JF (h:AH) (l:Nat) (k:AH→R):R:=match h.get l with
 |some (.loop .ready bO f p L vs d)=>k (h.put l (.loop .busy bO f p L vs d))
 |_=>none
def xR (h:AH) (l:Nat) (j:Option AX):R:=match h.get l with
 |some (.loop _ _ f p L vs d)=>(match j with
  |none=>some (.bool true,h.put l (.loop .ready none f p L vs d))
  |some x=>some (.bool false,h.put l (.loop .done (some x) f p L vs d)))
 |_=>none
def vK (h:AH) (l:Nat) (k:Option AX→AH→R):R:=match h.get l with
 |some (.loop st bO f p L vs d)=>(match st with
  | .busy=>none
  |_=>k bO (h.put l (.loop .exhausted bO f p L vs d)))
 |_=>none
def uN:AX→AX→Bool
 | .normal,.normal=>true
 | .ret,.ret=>true
 | .exit a,.exit b=>Nat.beq a b
 | .goto a,.goto b=>Nat.beq a b
 |_,_=>false
def uO (p:Option AX) (x:AX) (a b:R):R:=match p with |some y=>bif uN y x then a else b |none=>b
def Xw (p:Option AX) (a b:R):R:=match p with |none=>a |some _=>b
def JB:Code→List Nat→List AX
 | .seq a b,l=>JB a l++JB b l
 | .cond _ a b,l=>JB a l++JB b l
 | .block id a,l=>JB a (id::l)
 | .loop a,l=>JB a l
 | .rangeFunc _ _ _ b,l=>JB b l
 | .exit id,l=>bif l.contains id then[]else[.exit id]
 | .ret,_=>[.ret]
 |_,_=>[]
abbrev KY (p:Option AX) (k:AX→R):List AX→R
 |[]=>none
 |x::r=>uO p x (k x) (KY p k r)
def Ng (h:AH) (l:Nat) (k:Nat→R):R:=match h.get l with |some (.loop _ _ _ _ _ _ d)=>k d |_=>none
def ga:(L:List Nat)→PT AV→List AV
 |[],_=>[]
 |t::L,tm=>(match tm.get t with |some v=>v |none=>.undef)::ga L tm
def mj:Pl→Pl | .n _ a _=>a |_=>.z
def sr:Pl→Pl | .n _ _ b=>b |_=>.z
def ss:Pl→Option (List Nat) | .n L _ _=>L |_=>none
def C9:Pl→List (List Nat) | .r l=>l |_=>[]
abbrev vN (P:Program) (N:Nat) (c:CV) (f n:Nat) (rd:Option Nat):Code→List Nat→Pl→PT AV→AH→List Nat→(AX→PT AV→AH→List Nat→R)→R
  | .skip,_,_,tm,h,ds,k=>k .normal tm h ds
  | .region _ ops d,_,pl,tm,h,ds,k=>cj (d) (Ea P c n ops (C9 pl) tm h λtm h=>k .normal tm h ds) (Xf P c n ops.toList ops.toList.length ops.toList (C9 pl) tm h λtm h=>k .normal tm h ds)
  | .seq a b,pos,pl,tm,h,ds,k=>match ss pl with
    | some L => yH (α := rb L → AH → List Nat → R)
        (λs h ds=>vN P N c f n rd b (pos++[1]) (sr pl) (gL L s .e) h ds k)
        λJ=>vN P N c f n rd a (pos++[0]) (mj pl) tm h ds λx tm' h ds=>match x with
          | .normal=>cj (xA tm' L) (J (vi L tm') h ds) (none) |x=>k x tm' h ds
    |none=>vN P N c f n rd a (pos++[0]) (mj pl) tm h ds λx tm' h ds=>match x with
      | .normal=>vN P N c f n rd b (pos++[1]) (sr pl) tm' h ds k
      |x=>k x tm' h ds
  | .cond o a b,pos,pl,tm,h,ds,k=>ob (ev tm o) λv=>zP v (vN P N c f n rd a (pos++[0]) (mj pl) tm h ds k) (vN P N c f n rd b (pos++[1]) (sr pl) tm h ds k)
  | .block id a,pos,pl,tm,h,ds,k=>match ss pl with
    | some L => yH (α := rb L → AH → List Nat → R)
        (λs h ds=>k .normal (gL L s .e) h ds)
        λJ=>vN P N c f n rd a (pos++[0]) (mj pl) tm h ds λx tm' h ds=>match x with
          | .normal=>cj (xA tm' L) (J (vi L tm') h ds) (none) | .exit i=>cj (Nat.beq i id) ((cj (xA tm' L) (J (vi L tm') h ds) (none))) (k (.exit i) tm' h ds) |x=>k x tm' h ds
    |none=>vN P N c f n rd a (pos++[0]) (mj pl) tm h ds λx tm' h ds=>match x with
      | .exit i=>cj (Nat.beq i id) (k .normal tm' h ds) (k (.exit i) tm' h ds)
      |x=>k x tm' h ds
  | .loop a,pos,pl,tm,h,ds,k=>match ss pl with
    | some L => cj (xA tm L) (YI (σ := rb L) N
        (λih s h ds=>vN P N c f n rd a (pos++[0]) (mj pl) (gL L s .e) h ds λx tm' h ds=>match x with
          | .normal=>cj (xA tm' L) (ih (vi L tm') h ds) (none) |x=>k x tm' h ds)
        (vi L tm) h ds) (none)
    |none=>none
  | .exit id,_,_,tm,h,ds,k=>k (.exit id) tm h ds
  | .label _,_,_,tm,h,ds,k=>k .normal tm h ds
  | .goto l,_,_,tm,h,ds,k=>k (.goto l) tm h ds
  | .ret,_,_,tm,h,ds,k=>k .ret tm h ds
  | .rangeFunc g _ _ body,pos,pl,tm,h,ds,k=>ob (ev tm g) λvf=>match ss pl with
    |none=>none
    | some L => cj (xA tm L) ((fun (go : Nat → AH → List Nat → R) => match rd with
       |none=>go h.nx (h.new .ij) (h.nx::ds)
       |some l0=>Ng h l0 λd=>go d h ds)
      λd h1 ds1=>JT c vf [.yield h1.nx] (h1.new (.loop .ready none f pos L (ga L tm) d)) λ_ h2=>
        vK h2 h1.nx λp h3=>Xw p (k .normal tm h3 ds1) (KY p (λx=>k x tm h3 ds1) (JB body []))) (none)
  |_,_,_,_,_,_,_=>none
def zo:List Nat→AH→(AH→R)→R
 |[],h,k=>k h
 |d::r,h,k=>match h.get d with
  |some .ij=>zo r (h.put d .nr) k
  |_=>none
def uP:List AV→Nat→PT AV→PT AV
 |[],_,t=>t
 |a::r,i,t=>uP r (i+1) (t.set i a)
abbrev KR (P:Program) (tm:PT AV) (h:AH):List ResultVar→(List AV→R)→R
 |[],k=>k []
 |x::r,k=>match x with
  | .tmp t=>ob (tm.get t) λv=>KR P tm h r λl=>k (v::l)
  | .cell a t=>ob (tm.get a) λva=>ob (wz P t) λi=>match i with
   |none=>jB h va λv=>KR P tm h r λl=>k (v::l)
   |some n=>zc h va n λv=>KR P tm h r λl=>k (v::l)
def iu (l:List AV):AV:=match l with |[v]=>v |l=>.bJ l
abbrev xX (P:Program) (N:Nat) (pl:Pl) (c:CV) (f:FuncId) (args:List AV) (h:AH):R :=
 ob (P.funcs[f]?) λfn=>ob fn.body λb=>
  vN P N c f fn.ntmps none b [] pl (uP args 0 .e) h [] λx tm h ds=>match x with
   | .normal=>zo ds h λh'=>KR P tm h' fn.results.toList λl=>some (iu l,h')
   | .ret=>zo ds h λh'=>KR P tm h' fn.results.toList λl=>some (iu l,h')
   |_=>none
def zT:Code→List Nat→Option Code
 |c,[]=>some c
 | .seq a b,i::p=>bif Nat.beq i 0 then zT a p else zT b p
 | .cond _ a b,i::p=>bif Nat.beq i 0 then zT a p else zT b p
 | .block _ a,_::p=>zT a p
 | .loop a,_::p=>zT a p
 | .rangeFunc _ _ a b,i::p=>bif Nat.beq i 0 then zT a p else zT b p
 |_,_::_=>none
abbrev Da:List Tmp→List AV→Nat→PT AV→(PT AV→R)→R
 |[],[],_,t,k=>k t
 |p::ps,v::vs,n,t,k=>cj (Nat.ble (p+1) n) (Da ps vs n (t.set p v) k) (none)
 |_,_,_,_,_=>none
abbrev rF:List Nat→List AV→PT AV→(PT AV→R)→R
 |[],[],t,k=>k t
 |x::L,v::vs,t,k=>rF L vs (t.set x v) k
 |_,_,_,_=>none
abbrev Um (P:Program) (N:Nat) (pl:Pl) (c:CV) (f:FuncId) (pos L:List Nat) (l:Nat) (vs args:List AV) (h:AH):R :=
 ob (P.funcs[f]?) λfn=>ob fn.body λb=>ob (zT b pos) λs=>match s with
  | .rangeFunc _ ps assign body=>rF L vs .e λEb=>Da ps.toList args fn.ntmps Eb λtm=>
   vN P N c f fn.ntmps (some l) assign (pos++[0]) (mj pl) tm h [] λx tm h ds=>match x with
    | .normal=>JF h l λh=>vN P N c f fn.ntmps (some l) body (pos++[1]) (sr pl) tm h ds λx _ h _=>match x with
     | .normal=>xR h l none
     |x=>xR h l (some x)
    |_=>none
  |_=>none
def NN:Nat:=1000000000
abbrev WF:=CV→List AV→AH→R
abbrev VF:=CV→Nat→List AV→List AV→AH→R
def fk (P:Program) (f:Nat) (w:WF):Prop:=∀c l h r,w c l h=some r→∃pl,xX P NN pl c f l h=some r
def AD (P:Program) (f:Nat) (pos L:List Nat) (w:VF):Prop:=∀c l x y h r,w c l x y h=some r→∃pl,Um P NN pl c f pos L l x y h=some r
structure RT where
  f:Nat
  pos:List Nat
  L:List Nat
  run:VF
def YZ:List Nat→List Nat→Bool
 |[],[]=>true
 |a::x,b::y=>Nat.beq a b&&YZ x y
 |_,_=>false
def XU:List RT→Nat→List Nat→List Nat→Option VF
 |[],_,_,_=>none
 |x::r,f,pos,L=>bif Nat.beq x.f f&&(YZ x.pos pos&&YZ x.L L)then some x.run else XU r f pos L
inductive BT where
  |no
  |leaf (f:Nat) (w:WF)
  |node (m:Nat) (l r:BT)
def BT.get (t:BT) (f:Nat):Option WF :=
 BT.rec (motive:=λ_=>Option WF) none (λg w=>Bool.rec (motive:=λ_=>Option WF) none (some w) (Nat.beq g f)) (λm _ _ l r=>Bool.rec (motive:=λ_=>Option WF) r l (Nat.ble f m)) t
def BT.all (p:Nat→WF→Prop):BT→Prop
 | .no=>True
 | .leaf f w=>p f w
 | .node _ l r=>l.all p∧r.all p
def BT.fs:BT→List Nat
 | .no=>[]
 | .leaf f _=>[f]
 | .node _ l r=>l.fs++r.fs
def callT (tab:BT) (rt:List RT) (k:Nat):CV :=
 Nat.rec (motive:=λ_=>CV) (λ_ _ _=>none) (λ_ ih v args h=>match v with
  | .fn f first cap=>Option.rec (motive:=λ_=>R) none (λg=>g ih (first++args++cap) h) (BT.get tab f)
  | .yield l=>(match h.get l with
   |some (.loop .ready _ f pos L vs _)=>(match XU rt f pos L with |some g=>g ih l vs args h |none=>none)
   |_=>none)
  |_=>none) k
def isTrue (r:R):Bool:=match r with |some (.bool true,_)=>true |_=>false
def AH.empty:AH:=⟨0,[],.e⟩
end
end Go.Ae
namespace Go.Ae
open Go
noncomputable section
theorem pLn {h:AH} {k:AH→R}:zo [] h k=k h:=rfl
structure tR (x:R) where
 val:R
 property:x=val:=by conv=>lhs;reduce;try dsimp only[pLn]
abbrev tx (P:Program) (pl:Pl) (f:Nat):Type:=(c:CV)→(h:AH)→tR (xX P NN pl c f [] h)
abbrev tz {P:Program} {pl:Pl} {f:Nat} (S:tx P pl f):WF:=λc l h=>match l with |[]=>(S c h).1 |_=>none
theorem Db {P:Program} {pl:Pl} {f:Nat} (S:tx P pl f):fk P f (tz S):=by
 intro c l h r e;unfold tz at e
 split at e
 ·exact⟨pl,(S ..).2.trans e⟩
 ·cases e
abbrev aQ (P:Program) (pl:Pl) (f:Nat):Type:=(c:CV)→(a0:AV)→(h:AH)→tR (xX P NN pl c f [a0] h)
abbrev aR {P:Program} {pl:Pl} {f:Nat} (S:aQ P pl f):WF:=λc l h=>match l with |[a0]=>(S c a0 h).1 |_=>none
theorem aU {P:Program} {pl:Pl} {f:Nat} (S:aQ P pl f):fk P f (aR S):=by
 intro c l h r e;unfold aR at e
 split at e
 ·exact⟨pl,(S ..).2.trans e⟩
 ·cases e
abbrev bC (P:Program) (pl:Pl) (f:Nat):Type:=(c:CV)→(a0 a1:AV)→(h:AH)→tR (xX P NN pl c f [a0,a1] h)
abbrev bB {P:Program} {pl:Pl} {f:Nat} (S:bC P pl f):WF:=λc l h=>match l with |[a0,a1]=>(S c a0 a1 h).1 |_=>none
theorem bD {P:Program} {pl:Pl} {f:Nat} (S:bC P pl f):fk P f (bB S):=by
 intro c l h r e;unfold bB at e
 split at e
 ·exact⟨pl,(S ..).2.trans e⟩
 ·cases e
abbrev cQ (P:Program) (pl:Pl) (f:Nat):Type:=(c:CV)→(a0 a1 a2:AV)→(h:AH)→tR (xX P NN pl c f [a0,a1,a2] h)
abbrev cR {P:Program} {pl:Pl} {f:Nat} (S:cQ P pl f):WF:=λc l h=>match l with |[a0,a1,a2]=>(S c a0 a1 a2 h).1 |_=>none
theorem cX {P:Program} {pl:Pl} {f:Nat} (S:cQ P pl f):fk P f (cR S):=by
 intro c l h r e;unfold cR at e
 split at e
 ·exact⟨pl,(S ..).2.trans e⟩
 ·cases e
abbrev iw (P:Program) (pl:Pl) (f:Nat):Type:=(c:CV)→(a0 a1 a2 a3:AV)→(h:AH)→tR (xX P NN pl c f [a0,a1,a2,a3] h)
abbrev fP {P:Program} {pl:Pl} {f:Nat} (S:iw P pl f):WF:=λc l h=>match l with |[a0,a1,a2,a3]=>(S c a0 a1 a2 a3 h).1 |_=>none
theorem lp {P:Program} {pl:Pl} {f:Nat} (S:iw P pl f):fk P f (fP S):=by
 intro c l h r e;unfold fP at e
 split at e
 ·exact⟨pl,(S ..).2.trans e⟩
 ·cases e
abbrev oy (P:Program) (pl:Pl) (f:Nat):Type:=(c:CV)→(a0 a1 a2 a3 a4:AV)→(h:AH)→tR (xX P NN pl c f [a0,a1,a2,a3,a4] h)
abbrev oz {P:Program} {pl:Pl} {f:Nat} (S:oy P pl f):WF:=λc l h=>match l with |[a0,a1,a2,a3,a4]=>(S c a0 a1 a2 a3 a4 h).1 |_=>none
theorem su {P:Program} {pl:Pl} {f:Nat} (S:oy P pl f):fk P f (oz S):=by
 intro c l h r e;unfold oz at e
 split at e
 ·exact⟨pl,(S ..).2.trans e⟩
 ·cases e
abbrev Dc (P:Program) (pl:Pl) (f:Nat):Type:=(c:CV)→(a0 a1 a2 a3 a4 a5 a6:AV)→(h:AH)→tR (xX P NN pl c f [a0,a1,a2,a3,a4,a5,a6] h)
abbrev Dd {P:Program} {pl:Pl} {f:Nat} (S:Dc P pl f):WF:=λc l h=>match l with |[a0,a1,a2,a3,a4,a5,a6]=>(S c a0 a1 a2 a3 a4 a5 a6 h).1 |_=>none
theorem tO7 {P:Program} {pl:Pl} {f:Nat} (S:Dc P pl f):fk P f (Dd S):=by
 intro c l h r e;unfold Dd at e
 split at e
 ·exact⟨pl,(S ..).2.trans e⟩
 ·cases e
end
end Go.Ae
namespace Go.Ae
open Go
noncomputable section
abbrev Ec (S:CV→AH→R):WF:=λc l h=>match l with |[]=>S c  h |_=>none
theorem qgI {P:Program} {f:Nat} {pl:Pl} {S:CV→AH→R} (q:∀(c:CV) (h:AH),xX P NN pl c f [] h=S c  h):fk P f (Ec S):=by
 intro c l h r e;unfold Ec at e
 split at e
 ·exact⟨pl,by rw[q];exact e⟩
 ·cases e
abbrev sx (S:CV→AV→AH→R):WF:=λc l h=>match l with |[a0]=>S c a0 h |_=>none
theorem Gx {P:Program} {f:Nat} {pl:Pl} {S:CV→AV→AH→R} (q:∀(c:CV) (a0:AV) (h:AH),xX P NN pl c f [a0] h=S c a0 h):fk P f (sx S):=by
 intro c l h r e;unfold sx at e
 split at e
 ·exact⟨pl,by rw[q];exact e⟩
 ·cases e
abbrev AE (S:CV→AV→AV→AH→R):WF:=λc l h=>match l with |[a0,a1]=>S c a0 a1 h |_=>none
theorem Ed {P:Program} {f:Nat} {pl:Pl} {S:CV→AV→AV→AH→R} (q:∀(c:CV) (a0 a1:AV) (h:AH),xX P NN pl c f [a0,a1] h=S c a0 a1 h):fk P f (AE S):=by
 intro c l h r e;unfold AE at e
 split at e
 ·exact⟨pl,by rw[q];exact e⟩
 ·cases e
abbrev Ee (S:CV→AV→AV→AV→AV→AH→R):WF:=λc l h=>match l with |[a0,a1,a2,a3]=>S c a0 a1 a2 a3 h |_=>none
theorem qk8 {P:Program} {f:Nat} {pl:Pl} {S:CV→AV→AV→AV→AV→AH→R} (q:∀(c:CV) (a0 a1 a2 a3:AV) (h:AH),xX P NN pl c f [a0,a1,a2,a3] h=S c a0 a1 a2 a3 h):fk P f (Ee S):=by
 intro c l h r e;unfold Ee at e
 split at e
 ·exact⟨pl,by rw[q];exact e⟩
 ·cases e
abbrev Ef (S:CV→AV→AV→AV→AV→AV→AH→R):WF:=λc l h=>match l with |[a0,a1,a2,a3,a4]=>S c a0 a1 a2 a3 a4 h |_=>none
theorem qvn {P:Program} {f:Nat} {pl:Pl} {S:CV→AV→AV→AV→AV→AV→AH→R} (q:∀(c:CV) (a0 a1 a2 a3 a4:AV) (h:AH),xX P NN pl c f [a0,a1,a2,a3,a4] h=S c a0 a1 a2 a3 a4 h):fk P f (Ef S):=by
 intro c l h r e;unfold Ef at e
 split at e
 ·exact⟨pl,by rw[q];exact e⟩
 ·cases e
end
end Go.Ae
abbrev Go.Ae.iI (n:Nat):Go.Ae.AV:=.int .i64 (.ofNat n)
abbrev Go.Ae.uU (n:Nat):Go.Ae.AV:=.int .u64 (.ofNat n)
namespace Go.Ae
abbrev iQ:=@if_neg
abbrev iJ:=@if_pos
theorem iZ {n:Nat}:Int.ofNat n=(n:Int):=rfl
abbrev iX:=@List.mem_cons_of_mem
abbrev iK:=@List.mem_cons_self
abbrev iV:=@decide_eq_false
abbrev iG:=@decide_eq_true
abbrev iW:=@List.getElem?_eq_getElem
abbrev iY:=@Nat.ble_eq_true_of_le
abbrev iA:=@List.eq_nil_of_length_eq_zero
end Go.Ae
