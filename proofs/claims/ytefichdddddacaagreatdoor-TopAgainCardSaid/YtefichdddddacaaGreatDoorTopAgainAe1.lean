/- The abstract executor of the program's form in Lean, shown sound: values, heaps, operations, code: plain definitions. -/
import Derived.CallsIn
import Derived.OrdersIn
import Derived.Eval
import Derived.RangeFuncIn
import Derived.RangeFuncLeaves
import Derived.Still
import Derived.Lib.ItoaNum
theorem Go.Ae.aN {P : Prop} (h : P :=by simp) : P :=h
theorem Go.Ae.od {P : Prop} (h : P :=by decide) : P :=h
theorem Go.Ae.omQ {P : Prop} (h : P :=by omega) : P :=h
namespace Go.Ae
noncomputable section
def gtab : List (String × IntKind × List Int) := [("internal/strconv.uint64pow10", IntKind.u64, Lib.pow10Tab)]
inductive PT (α:Type) where
  |e
  |n (l:PT α) (v:Option α) (r:PT α)
def PT.get {α:Type} (t:PT α) (i:Nat):Option α :=
 PT.rec (motive:=λ_=>Nat→Option α) (λ_=>none)
  (λ_ v _ l r i=>Bool.rec (motive:=λ_=>Option α) (Bool.rec (motive:=λ_=>Option α) (r (Nat.sub (Nat.div i 2) 1)) (l (Nat.div i 2)) (Nat.beq (Nat.mod i 2) 1)) v (Nat.beq i 0)) t i
def PT.fm {α:Type} (f:Nat) (t:PT α) (i:Nat) (x:α):PT α :=
 Nat.rec (motive:=λ_=>PT α→Nat→PT α) (λ_ _=>.e)
  (λ_ ih t i=>PT.rec (motive:=λ_=>PT α)
   (Bool.rec (motive:=λ_=>PT α) (Bool.rec (motive:=λ_=>PT α) (.n .e none (ih .e (Nat.sub (Nat.div i 2) 1))) (.n (ih .e (Nat.div i 2)) none .e) (Nat.beq (Nat.mod i 2) 1)) (.n .e (some x) .e) (Nat.beq i 0))
   (λl v r _ _=>Bool.rec (motive:=λ_=>PT α) (Bool.rec (motive:=λ_=>PT α) (.n l v (ih r (Nat.sub (Nat.div i 2) 1))) (.n (ih l (Nat.div i 2)) v r) (Nat.beq (Nat.mod i 2) 1)) (.n l (some x) r) (Nat.beq i 0)) t) f t i
def PT.set {α:Type} (t:PT α) (i:Nat) (x:α):PT α:=PT.fm (i+1) t i x
def PT.lm {α:Type} (i m:Nat) (t:PT α):PT α:=PT.rec (motive:=λ_=>PT α) .e (λl _ r _ _=>Bool.rec (motive:=λ_=>PT α) r l (Nat.beq (Nat.land i m) 0)) t
def PT.leaf {α:Type} (t:PT α):Option α:=PT.rec (motive:=λ_=>Option α) none (λ_ v _ _ _=>v) t
def PT.sub {α:Type} (i m:Nat) (f:PT α→PT α) (t:PT α):PT α :=
 PT.rec (motive:=λ_=>PT α) (Bool.rec (motive:=λ_=>PT α) (.n .e none (f .e)) (.n (f .e) none .e) (Nat.beq (Nat.land i m) 0))
  (λl v r _ _=>Bool.rec (motive:=λ_=>PT α) (.n l v (f r)) (.n (f l) v r) (Nat.beq (Nat.land i m) 0)) t
def PT.mark {α:Type} (x:α) (t:PT α):PT α:=PT.rec (motive:=λ_=>PT α) (.n .e (some x) .e) (λl _ r _ _=>.n l (some x) r) t
def PT.iy {α:Type} (t:PT α) (i:Nat):Option α:=PT.leaf (PT.lm i 1 (PT.lm i 2 (PT.lm i 4 (PT.lm i 8 (PT.lm i 16 (PT.lm i 32 (PT.lm i 64 (PT.lm i 128 (PT.lm i 256 (PT.lm i 512 (PT.lm i 1024 (PT.lm i 2048 (t)))))))))))))
def PT.mO {α:Type} (t:PT α) (i:Nat) (x:α):PT α:=PT.sub i 2048 (PT.sub i 1024 (PT.sub i 512 (PT.sub i 256 (PT.sub i 128 (PT.sub i 64 (PT.sub i 32 (PT.sub i 16 (PT.sub i 8 (PT.sub i 4 (PT.sub i 2 (PT.sub i 1 (PT.mark x)))))))))))) t
abbrev aJ (α:Type):=PT (PT α)
def aJ.get {α:Type} (t:aJ α) (i:Nat):Option α:=Option.rec (motive:=λ_=>Option α) none (λs=>PT.iy s i) (PT.get t (Nat.div i 4096))
def aJ.set {α:Type} (t:aJ α) (i:Nat) (x:α):aJ α:=PT.set t (Nat.div i 4096) (PT.mO (Option.rec (motive:=λ_=>PT α) .e (λs=>s) (PT.get t (Nat.div i 4096))) i x)
inductive AV where
  |bool (b:Bool)
  |int (k:IntKind) (n:Int)
  |str (s:List UInt8)
  |ptr (b off:Nat)
  |aO
  /--opn: the room is that of the block,less 'cap' elements ahead;else the room is 'cap'-/
  |slice (b off len cap:Nat) (bf:Bool)
  |ak
  |fn (f:FuncId) (first cap:List AV)
  |yield (l:Nat)
  |dC
  |iface (t:TypeId) (v:AV)
  |cH
  |agg (l:List AV)
  |bM (l:List AV)
  /--an empty slice without room,wherever it points-/
  |bT (a:Addr)
  /--an empty slice behind all that an open block's slice shows: where it points hangs on the room-/
  |tail (b off nm i1:Nat)
  /--a map of the walk's own-/
  |dN (b:Nat)
  deriving Inhabited
def AV.undef:AV:=.bM []
def AV.cells:AV→List AV
 | .agg l=>l
 |v=>[v]
def AV.one:AV→Bool
 | .agg _=>false
 | .bM _=>false
 |_=>true
def wM {α:Type} (l:List α) (i:Nat):Option α :=
 List.rec (motive:=λ_=>Nat→Option α) (λ_=>none) (λa _ ih i=>Bool.rec (motive:=λ_=>Option α) (ih (Nat.sub i 1)) (some a) (Nat.beq i 0)) l i
def yy {α:Type} (n:Nat) (l:List α):Option (List α) :=
 Nat.rec (motive:=λ_=>List α→Option (List α)) (λ_=>some [])
  (λ_ ih l=>List.rec (motive:=λ_=>Option (List α)) none (λa r _=>Option.rec (motive:=λ_=>Option (List α)) none (λs=>some (a::s)) (ih r)) l) n l
def yl {α:Type} (n:Nat) (l:List α):List α :=
 Nat.rec (motive:=λ_=>List α→List α) (λl=>l) (λ_ ih l=>List.rec (motive:=λ_=>List α) [] (λ_ r _=>ih r) l) n l
def U8 {α:Type} (l xs:List α):Option (List α) :=
 List.rec (motive:=λ_=>List α→Option (List α)) (λl=>some l)
  (λx _ ih l=>List.rec (motive:=λ_=>Option (List α)) none (λ_ l _=>Option.rec (motive:=λ_=>Option (List α)) none (λs=>some (x::s)) (ih l)) l) xs l
def kr {α:Type} (l:List α) (off:Nat) (xs:List α):Option (List α) :=
 Nat.rec (motive:=λ_=>List α→Option (List α)) (λl=>U8 l xs)
  (λ_ ih l=>List.rec (motive:=λ_=>Option (List α)) none (λa l _=>Option.rec (motive:=λ_=>Option (List α)) none (λs=>some (a::s)) (ih l)) l) off l
def yr {α:Type} (l:List α):Nat→List α
 | 0=>[]
 |n+1=>l++yr l n
inductive CT where
  |dW (xs:List AV)
  |tree (n:Nat) (z:List AV) (tr:aJ AV)
def Qz (z:List AV) (t:aJ AV) (i:Nat):Option AV:=Option.rec (motive:=λ_=>Option AV) (wM z (Nat.mod i z.length)) (λv=>some v) (aJ.get t i)
def gO (z:List AV) (t:aJ AV) (i:Nat):AV:=match Qz z t i with |some v=>v |none=>.undef
def ZV (t:aJ AV) (i:Nat) (xs:List AV):aJ AV :=
 List.rec (motive:=λ_=>aJ AV→Nat→aJ AV) (λt _=>t) (λx _ ih t i=>ih (aJ.set t i x) (Nat.succ i)) xs t i
def Qs (z:List AV) (t:aJ AV) (i n:Nat):Option (List AV) :=
 Nat.rec (motive:=λ_=>Nat→Option (List AV)) (λ_=>some [])
  (λ_ ih i=>Option.rec (motive:=λ_=>Option (List AV)) none (λv=>Option.rec (motive:=λ_=>Option (List AV)) none (λs=>some (v::s)) (ih (Nat.succ i))) (Qz z t i)) n i
def CT.toList:CT→List AV
 | .dW xs=>xs
 | .tree n z tr=>(List.range n).map (gO z tr)
def CT.len:CT→Nat
 | .dW xs=>xs.length
 | .tree n _ _=>n
def CT.dX (c:CT) (i:Nat):Option AV:=match c with
 | .dW xs=>wM xs i
 | .tree n z tr=>bif Nat.ble (i+1) n then Qz z tr i else none
def CT.fM (c:CT) (off n:Nat):Option (List AV):=match c with
 | .dW xs=>yy n (yl off xs)
 | .tree m z tr=>bif Nat.beq n 0 then some []else bif Nat.ble (off+n) m then Qs z tr off n else none
def CT.write (c:CT) (off:Nat) (xs:List AV):Option CT:=match c with
 | .dW ys=>(kr ys off xs).bind λs=>some (.dW s)
 | .tree n z tr=>bif Nat.ble (off+xs.length) n then some (.tree n z (ZV tr off xs))else none
def CT.ofList (xs:List AV):CT:=bif Nat.ble xs.length 16 then .dW xs else .tree xs.length [] (ZV .e 0 xs)
def CT.uL (z:List AV) (n:Nat):CT:=bif Nat.ble (z.length*n) 16 then .dW (yr z n)else .tree (z.length*n) z .e
def CT.fb (c:CT) (xs:List AV):CT:=match c with
 | .dW ys=>CT.ofList (ys++xs)
 | .tree n z tr=>.tree (n+xs.length) z (ZV tr n xs)
def CT.pre (c:CT) (n:Nat):Option CT:=match c with
 | .dW ys=>(yy n ys).bind λs=>some (.dW s)
 | .tree m z tr=>bif Nat.ble n m then some (.tree n z tr)else none
def CT.C6 (c:CT) (off n:Nat):Option CT:=bif Nat.beq off 0 then c.pre n else(c.fM off n).bind λl=>some (CT.ofList l)
inductive AX where
  |normal
  |exit (id:Nat)
  |goto (l:Nat)
  |ret
inductive cy where
  |cells (c:CT) (elem:TypeId) (bf:Bool)
  |dead
  |iter (s:List UInt8) (pos:Nat)
  |loop (st:LoopState) (bQ:Option AX) (fn:Nat) (pos L:List Nat) (vs:List AV) (d:Nat)
  |hZ
  |np
  /--cells that are the caller's: some are known,none is written-/
  |cI (t:aJ AV)
  /--a map of numbers to numbers: key,value,when it came;the clock-/
  |mp (l:List (Int×Int×Nat)) (clk:Nat)
structure AH where
  nx:Nat
  rc:List (Nat×cy)
  t:aJ cy
def KW (l:List (Nat×cy)) (b:Nat) (d:Option cy):Option cy:=List.rec (motive:=λ_=>Option cy) d (λp _ ih=>Bool.rec (motive:=λ_=>Option cy) ih (some p.2) (Nat.beq p.1 b)) l
def Mx (n:Nat) (l:List (Nat×cy)):List (Nat×cy) :=
 Nat.rec (motive:=λ_=>List (Nat×cy)→List (Nat×cy)) (λ_=>[]) (λ_ ih l=>List.rec (motive:=λ_=>List (Nat×cy)) [] (λp r _=>p::ih r) l) n l
def Ma (l:List (Nat×cy)) (t:aJ cy):aJ cy:=List.rec (motive:=λ_=>aJ cy) t (λp _ ih=>aJ.set ih p.1 p.2) l
def AH.get (h:AH) (b:Nat):Option cy:=KW h.rc b (aJ.get h.t b)
def AH.put (h:AH) (b:Nat) (x:cy):AH:=⟨h.nx,(b,x)::Mx 5 h.rc,Ma (yl 5 h.rc) h.t⟩
def AH.new (h:AH) (x:cy):AH:=⟨Nat.succ h.nx,(h.nx,x)::Mx 5 h.rc,Ma (yl 5 h.rc) h.t⟩
def Gy:Value→Option AV
 | .bool b=>some (.bool b)
 | .int k n=>some (.int k n)
 | .string s=>some (.str s.data.toList)
 | .pointer none=>some .aO
 | .slice none 0 0=>some .ak
 | .nilFunc=>some .dC
 | .nilIface=>some .cH
 |_=>none
def gH {α β:Type} (f:α→Option β):List α→Option (List β)
 |[]=>some []
 |a::r=>(f a).bind λb=>(gH f r).bind λs=>some (b::s)
def UT:Value→Option AV
 | .agg cs=>(gH Gy cs.toList).map .agg
 | .tuple cs=>(gH Gy cs.toList).map .bM
 | .func (.func f) first cap=>bif first.isEmpty&&cap.isEmpty then some (.fn f [] [])else none
 |v=>Gy v
def ev (tm:PT AV):Operand→Option AV
 | .tmp t=>tm.get t
 | .const v=>UT v
 | .global _=>none
 | .func f=>some (.fn f [] [])
def yK (h:AH) (b off n:Nat):Option (List AV) :=
 match h.get b with
 |some (.cells c _ _)=>c.fM off n
 |some (.cI t)=>Qs [] t off n
 |_=>none
def qn (l:List AV):Bool:=l.all AV.one
def gC (h:AH) (b off:Nat) (xs:List AV):Option AH :=
 match h.get b with
 |some (.cells c e o)=>bif qn xs then(c.write off xs).bind λc'=>some (h.put b (.cells c' e o))else none
 |_=>none
def aP (P:Program) (t:TypeId):Option Nat:=(P.info? t).map (·.size)
def en (P:Program) (t:TypeId):Option AV:=(P.info? t).bind λi=>i.zero.bind UT
def fo (P:Program) (t:TypeId):Option Bool:=(P.underlying t).map fun | .struct _=>true | .array _ _=>true |_=>false
def wL (P:Program) (t:TypeId):Option (Option Nat):=(fo P t).bind λa=>bif a then(aP P t).map some else some none
def yV:List AV→List (Nat×Nat×AV)→Option (List AV)
 |cs,[]=>some cs
 |cs,(o,n,v)::r=>bif Nat.beq v.cells.length n then(kr cs o v.cells).bind λEb=>yV Eb r else none
def zv (k:IntKind) (n:Int):Int :=
 match k,n with
 | .i64,.ofNat a=>bif Nat.ble a 9223372036854775807 then .ofNat a else IntKind.wrap .i64 (.ofNat a)
 | .i64,.negSucc a=>bif Nat.ble a 9223372036854775807 then .negSucc a else IntKind.wrap .i64 (.negSucc a)
 | .u64,.ofNat a=>.ofNat (a%18446744073709551616)
 | .u64,.negSucc a=>.ofNat (18446744073709551615-a%18446744073709551616)
 | .u8,.ofNat a=>.ofNat (a%256)
 |k,n=>IntKind.wrap k n
def lC:Int→Int→Bool
 | .ofNat a,.ofNat b=>Nat.beq a b
 | .negSucc a,.negSucc b=>Nat.beq a b
 |_,_=>false
def mP:Int→Int→Bool
 | .ofNat a,.ofNat b=>Nat.ble (a+1) b
 | .ofNat _,.negSucc _=>false
 | .negSucc _,.ofNat _=>true
 | .negSucc a,.negSucc b=>Nat.ble (b+1) a
def QK (op:BinOp) (k:IntKind) (x y:Int):Option AV :=
 match op with
 | .add=>some (.int k (zv k (x+y)))
 | .sub=>some (.int k (zv k (x-y)))
 | .mul=>some (.int k (zv k (x*y)))
 | .quo=>bif lC y 0 then none else some (.int k (zv k (x.tdiv y)))
 | .rem=>bif lC y 0 then none else some (.int k (x.tmod y))
 | .and=>some (.int k (k.wrap (BitVec.ofInt k.bits x&&&BitVec.ofInt k.bits y).toNat))
 | .or=>some (.int k (k.wrap (BitVec.ofInt k.bits x|||BitVec.ofInt k.bits y).toNat))
 | .xor=>some (.int k (k.wrap (BitVec.ofInt k.bits x ^^^ BitVec.ofInt k.bits y).toNat))
 | .andNot=>some (.int k (k.wrap (BitVec.ofInt k.bits x&&& ~~~ BitVec.ofInt k.bits y).toNat))
 | .eql=>some (.bool (lC x y))
 | .neq=>some (.bool (!lC x y))
 | .lss=>some (.bool (mP x y))
 | .leq=>some (.bool (!mP y x))
 | .gtr=>some (.bool (mP y x))
 | .geq=>some (.bool (!mP x y))
 | .shl | .shr=>none
def Ng (op:BinOp) (k:IntKind) (x y:Int):Option AV :=
 bif mP y 0 then none else
 match op with
 | .shl=>some (.int k (zv k (x*2 ^ (min y.toNat k.bits))))
 | .shr=>some (.int k (x.fdiv (2 ^ (min y.toNat k.bits))))
 |_=>none
def ft:List UInt8→List UInt8→Bool
 |[],[]=>true
 |a::x,b::y=>a==b&&ft x y
 |_,_=>false
def O5 (op:BinOp) (x y:List UInt8):Option AV :=
 match op with
 | .add=>bif Nat.ble (x.length+y.length) 1073741824 then some (.str (x++y))else none
 | .eql=>some (.bool (ft x y))
 | .neq=>some (.bool (!ft x y))
 | .lss=>some (.bool (Op.bytesLess x y))
 | .leq=>some (.bool (Op.bytesLess x y||ft x y))
 | .gtr=>some (.bool (!(Op.bytesLess x y||ft x y)))
 | .geq=>some (.bool (!Op.bytesLess x y))
 |_=>none
inductive EK where
  |bool |int |str |ptr |AD |fn |C7
def Kc:TypeDesc→Option EK
 | .bool=>some .bool
 | .int _=>some .int
 | .string=>some .str
 | .pointer _=>some .ptr
 | .slice _=>some .AD
 | .func _ _ _=>some .fn
 | .interface _=>some .C7
 |_=>none
def XY (d:EK) (x y:AV):Option Bool :=
 match d,x,y with
 | .bool,.bool a,.bool b=>some (a==b)
 | .int,.int k a,.int k' b=>bif k==k' then some (lC a b)else none
 | .str,.str a,.str b=>some (ft a b)
 | .ptr,.aO,.aO=>some true
 | .ptr,.aO,.ptr _ _=>some false
 | .ptr,.ptr _ _,.aO=>some false
 | .AD,.ak,.ak=>some true
 | .AD,.ak,.slice ..=>some false
 | .AD,.slice ..,.ak=>some false
 | .fn,.dC,.dC=>some true
 | .fn,.dC,.fn ..=>some false
 | .fn,.fn ..,.dC=>some false
 | .C7,.cH,.iface _ _=>some false
 | .C7,.iface _ _,.cH=>some false
 |_,_,_=>none
inductive ES where
  |lD (k:EK) (o:Nat)
  |len (n:Nat)
def xY:List ES→List AV→List AV→Option Bool
 |[],_,_=>some true
 | .lD d o::r,xs,ys=>(wM xs o).bind λx=>(wM ys o).bind λy=>(XY d x y).bind λe=>bif e then xY r xs ys else some false
 | .len n::r,xs,ys=>bif Nat.ble n xs.length&&Nat.ble n ys.length then xY r xs ys else none
def Q3 (n:Nat):List ES→Bool
 |[]=>true
 | .lD _ o::r=>Nat.ble (o+1) n&&Q3 n r
 | .len m::r=>Nat.ble m n&&Q3 n r
def YV (c:Nat):List ES→List ES
 |[]=>[]
 | .lD k o::r=>.lD k (c+o)::YV c r
 | .len m::r=>.len (c+m)::YV c r
def Xx (P:Program) (nest:List Field→Option (List ES)):List Field→Option (List ES)
 |[]=>some []
 | f :: r => bif f.name == "_" then none else (P.underlying f.type).bind fun u => match u with
  | .struct fs=>(aP P f.type).bind λn=>bif P.stoodInHeld f.type then none else(nest fs.toList).bind λl1=>bif Q3 n l1 then(Xx P nest r).map λl2=>.len (f.offset+n)::(YV f.offset l1++l2)else none
  |u=>(Kc u).bind λk=>match k with
   | .C7=>none
   |k=>(Xx P nest r).map λl=>.lD k f.offset::l
def yt (P:Program):Nat→List Field→Option (List ES)
 | 0,_=>none
 |d+1,fs=>Xx P (yt P d) fs
abbrev R:=Option (AV×AH)
abbrev CV:=AV→List AV→AH→R
abbrev ob {α:Type} (x:Option α) (k:α→R):R:=match x with |some a=>k a |none=>none
abbrev cx (b:Bool) (x y:R):R:=match b with |true=>x |false=>y
def xd {α:Type} (j:α) (f:α→R):R:=f j
def Xi {σ:Type} (N:Nat) (f:(σ→AH→List Nat→R)→σ→AH→List Nat→R):σ→AH→List Nat→R :=
 Nat.rec (motive:=λ_=>σ→AH→List Nat→R) (λ_ _ _=>none) (λ_ ih=>f ih) N
def AV.asBool (v:AV) (f:Bool→R) (d:R):R :=
 AV.rec (motive_1:=λ_=>R) (motive_2:=λ_=>PUnit) (λx0=>f x0) (λ_ _=>d) (λ_=>d) (λ_ _=>d) d (λ_ _ _ _ _=>d) d (λ_ _ _ _ _=>d) (λ_=>d) d (λ_ _ _=>d) d (λ_ _=>d) (λ_ _=>d) (λ_=>d) (λ_ _ _ _=>d) (λ_=>d) ⟨⟩ (λ_ _ _ _=>⟨⟩) v
def AV.asInt (v:AV) (f:IntKind→Int→R) (d:R):R :=
 AV.rec (motive_1:=λ_=>R) (motive_2:=λ_=>PUnit) (λ_=>d) (λx0 x1=>f x0 x1) (λ_=>d) (λ_ _=>d) d (λ_ _ _ _ _=>d) d (λ_ _ _ _ _=>d) (λ_=>d) d (λ_ _ _=>d) d (λ_ _=>d) (λ_ _=>d) (λ_=>d) (λ_ _ _ _=>d) (λ_=>d) ⟨⟩ (λ_ _ _ _=>⟨⟩) v
def AV.mQ (v:AV) (f:Nat→Nat→R) (d:R):R :=
 AV.rec (motive_1:=λ_=>R) (motive_2:=λ_=>PUnit) (λ_=>d) (λ_ _=>d) (λ_=>d) (λx0 x1=>f x0 x1) d (λ_ _ _ _ _=>d) d (λ_ _ _ _ _=>d) (λ_=>d) d (λ_ _ _=>d) d (λ_ _=>d) (λ_ _=>d) (λ_=>d) (λ_ _ _ _=>d) (λ_=>d) ⟨⟩ (λ_ _ _ _=>⟨⟩) v
def AV.asSlice (v:AV) (f:Nat→Nat→Nat→Nat→Bool→R) (d:R):R :=
 AV.rec (motive_1:=λ_=>R) (motive_2:=λ_=>PUnit) (λ_=>d) (λ_ _=>d) (λ_=>d) (λ_ _=>d) d (λx0 x1 x2 x3 x4=>f x0 x1 x2 x3 x4) d (λ_ _ _ _ _=>d) (λ_=>d) d (λ_ _ _=>d) d (λ_ _=>d) (λ_ _=>d) (λ_=>d) (λ_ _ _ _=>d) (λ_=>d) ⟨⟩ (λ_ _ _ _=>⟨⟩) v
def AV.asAgg (v:AV) (f:List AV→R) (d:R):R :=
 AV.rec (motive_1:=λ_=>R) (motive_2:=λ_=>PUnit) (λ_=>d) (λ_ _=>d) (λ_=>d) (λ_ _=>d) d (λ_ _ _ _ _=>d) d (λ_ _ _ _ _=>d) (λ_=>d) d (λ_ _ _=>d) d (λx0 _=>f x0) (λ_ _=>d) (λ_=>d) (λ_ _ _ _=>d) (λ_=>d) ⟨⟩ (λ_ _ _ _=>⟨⟩) v
def AV.AE (v:AV) (f:List AV→R) (d:R):R :=
 AV.rec (motive_1:=λ_=>R) (motive_2:=λ_=>PUnit) (λ_=>d) (λ_ _=>d) (λ_=>d) (λ_ _=>d) d (λ_ _ _ _ _=>d) d (λ_ _ _ _ _=>d) (λ_=>d) d (λ_ _ _=>d) d (λ_ _=>d) (λx0 _=>f x0) (λ_=>d) (λ_ _ _ _=>d) (λ_=>d) ⟨⟩ (λ_ _ _ _=>⟨⟩) v
def kn (k:IntKind):Nat:=IntKind.rec (motive:=λ_=>Nat) 0 1 2 3 4 5 6 7 k
def Ec (a b:IntKind):Bool:=Nat.beq (kn a) (kn b)
def s9 (t w:Bool):Bool:=Bool.rec (motive:=λ_=>Bool) (Bool.rec (motive:=λ_=>Bool) true false w) (Bool.rec (motive:=λ_=>Bool) false true w) t
def ta (x y:Int):Int:=Int.rec (motive:=λ_=>Int) (λa=>Int.rec (motive:=λ_=>Int) (λb=>.ofNat (Nat.add a b)) (λb=>Int.add (.ofNat a) (.negSucc b)) y) (λa=>Int.add (.negSucc a) y) x
def tc (x y:Int):Int:=Int.rec (motive:=λ_=>Int) (λa=>Int.rec (motive:=λ_=>Int) (λb=>Bool.rec (motive:=λ_=>Int) (.negSucc (Nat.sub (Nat.sub b a) 1)) (.ofNat (Nat.sub a b)) (Nat.ble b a)) (λb=>Int.sub (.ofNat a) (.negSucc b)) y) (λa=>Int.sub (.negSucc a) y) x
def NX (x y:Int):Bool:=Int.rec (motive:=λ_=>Bool) (λa=>Int.rec (motive:=λ_=>Bool) (λb=>Nat.ble (Nat.succ a) b) (λ_=>false) y) (λa=>Int.rec (motive:=λ_=>Bool) (λ_=>true) (λb=>Nat.ble (Nat.succ b) a) y) x
def AF (x y:Int):Bool:=Int.rec (motive:=λ_=>Bool) (λa=>Int.rec (motive:=λ_=>Bool) (λb=>Nat.beq a b) (λ_=>false) y) (λa=>Int.rec (motive:=λ_=>Bool) (λ_=>false) (λb=>Nat.beq a b) y) x
def td (b:Bool):Bool:=Bool.rec (motive:=λ_=>Bool) true false b
def Zf (k:IntKind) (n:Int) (f:Int→R):R :=
 IntKind.rec (motive:=λ_=>R) (f (zv .i8 n)) (f (zv .i16 n)) (f (zv .i32 n))
  (Int.rec (motive:=λ_=>R) (λa=>Bool.rec (motive:=λ_=>R) (f (zv .i64 (.ofNat a))) (f (.ofNat a)) (Nat.ble a 9223372036854775807)) (λa=>f (zv .i64 (.negSucc a))) n)
  (f (zv .u8 n)) (f (zv .u16 n)) (f (zv .u32 n))
  (Int.rec (motive:=λ_=>R) (λa=>Bool.rec (motive:=λ_=>R) (f (zv .u64 (.ofNat a))) (f (.ofNat a)) (Nat.ble a 18446744073709551615)) (λa=>f (zv .u64 (.negSucc a))) n) k
def Ed (op:BinOp) (k:IntKind) (x y:Int) (f:AV→R):R :=
 BinOp.rec (motive:=λ_=>R) (Zf k (ta x y) λn=>f (.int k n)) (Zf k (tc x y) λn=>f (.int k n)) (ob (QK .mul k x y) f)
  (ob (QK .quo k x y) f) (ob (QK .rem k x y) f) (ob (QK .and k x y) f) (ob (QK .or k x y) f) (ob (QK .xor k x y) f) (ob (QK .shl k x y) f) (ob (QK .shr k x y) f) (ob (QK .andNot k x y) f)
  (f (.bool (AF x y))) (f (.bool (td (AF x y)))) (f (.bool (NX x y))) (f (.bool (td (NX y x)))) (f (.bool (NX y x))) (f (.bool (td (NX x y)))) op
def zH (v:AV) (a b:R):R:=v.asBool (λt=>Bool.rec (motive:=λ_=>R) b a t) none
def vp (v:AV) (w:Bool) (a b:R):R:=v.asBool (λt=>Bool.rec (motive:=λ_=>R) b a (s9 t w)) b
def gG (c a b:AV) (k:AV→R):R:=c.asBool (λt=>Bool.rec (motive:=λ_=>R) (k b) (k a) t) none
def xE (v:AV) (k:AV→R):R:=match v with | .ptr b o=>k (.ptr b o) | .fn f a c=>k (.fn f a c) | .yield l=>k (.yield l) |_=>none
def qp (v:AV) (off:Nat) (k:AV→R):R:=v.mQ (λb o=>k (.ptr b (Nat.add o off))) none
def Gw (v:AV) (off:Nat) (k:AV→R):R:=v.asAgg (λcs=>Option.rec (motive:=λ_=>R) none k (wM cs off)) none
def YB (v:AV) (off n:Nat) (k:AV→R):R:=match v with | .agg cs=>ob (yy n (yl off cs)) λl=>k (.agg l) |_=>none
def vG (v i:AV) (sz:Nat) (k:AV→R):R :=
 v.asSlice (λb off len _ _=>i.asInt (λ_ n=>Int.rec (motive:=λ_=>R) (λa=>Bool.rec (motive:=λ_=>R) none (k (.ptr b (Nat.add off (Nat.mul a sz)))) (Nat.ble (Nat.succ a) len)) (λ_=>none) n) none) none
def kU (v i:AV) (n sz:Nat) (k:AV→R):R:=match v,i with | .ptr b off,.int _ (.ofNat a)=>bif Nat.ble (a+1) n then k (.ptr b (off+a*sz))else none |_,_=>none
def Yj (v i:AV) (n sz:Nat) (k:AV→R):R:=match v,i with | .agg cs,.int _ (.ofNat a)=>bif Nat.ble (a+1) n then ob (wM cs (a*sz)) k else none |_,_=>none
def Yx (v i:AV) (n sz:Nat) (k:AV→R):R:=match v,i with | .agg cs,.int _ (.ofNat a)=>bif Nat.ble (a+1) n then ob (yy sz (yl (a*sz) cs)) λl=>k (.agg l)else none |_,_=>none
def gP (v i:AV) (k:AV→R):R:=match v,i with | .str s,.int _ (.ofNat a)=>ob (wM s a) λc=>k (.int .u8 (.ofNat c.toNat)) |_,_=>none
def jj (h:AH) (v:AV) (k:AV→R):R :=
 v.mQ (λb off=>Option.rec (motive:=λ_=>R) none (λx=>cy.rec (motive:=λ_=>R) (λc _ _=>Option.rec (motive:=λ_=>R) none k (c.dX off)) none (λ_ _=>none) (λ_ _ _ _ _ _ _=>none) none none (λt=>Option.rec (motive:=λ_=>R) none k (aJ.get t off)) (λ_ _=>none) x) (h.get b)) none
def zi (h:AH) (v:AV) (n:Nat) (k:AV→R):R:=v.mQ (λb off=>Option.rec (motive:=λ_=>R) none (λl=>k (.agg l)) (yK h b off n)) none
def jP (h:AH) (a x:AV) (n:Nat) (k:AH→R):R:=a.mQ (λb off=>Bool.rec (motive:=λ_=>R) none (Option.rec (motive:=λ_=>R) none k (gC h b off x.cells)) (Nat.beq x.cells.length n)) none
def jb (op:BinOp) (x y:AV) (k:AV→R):R:=x.asInt (λk1 a=>y.asInt (λk2 b=>Bool.rec (motive:=λ_=>R) none (Ed op k1 a b k) (Ec k1 k2)) none) none
def wm (op:BinOp) (x y:AV) (k:AV→R):R:=match x,y with | .int k1 a,.int _ b=>ob (Ng op k1 a b) k |_,_=>none
def Vj (op:BinOp) (x y:AV) (k:AV→R):R:=match x,y with | .str a,.str b=>ob (O5 op a b) k |_,_=>none
def ml (d:EK) (neg:Bool) (x y:AV) (k:AV→R):R:=ob (XY d x y) λe=>k (.bool (e !=neg))
def GF (l:List ES) (neg:Bool) (x y:AV) (k:AV→R):R:=match x,y with | .agg a,.agg b=>ob (xY l a b) λe=>k (.bool (e !=neg)) |_,_=>none
def pQ (op:UnOp) (x:AV) (k:AV→R):R :=
 match op,x with
 | .neg,.int d n=>k (.int d (zv d (0-n)))
 | .not,.bool b=>k (.bool (!b))
 | .xor,.int d n=>k (.int d (d.wrap (BitVec.ofInt d.bits (if d.signed then-1 else d.max) ^^^ BitVec.ofInt d.bits n).toNat))
 |_,_=>none
def vM (d:IntKind) (x:AV) (k:AV→R):R:=match x with | .int _ n=>k (.int d (zv d n)) |_=>none
def X9 (x:AV) (k:AV→R):R:=match x with | .str s=>k (.str s) |_=>none
def wD:List AV→Option (List UInt8)
 |[]=>some []
 | .int .u8 (.ofNat n)::r=>(wD r).bind λs=>some (UInt8.ofNat n::s)
 |_=>none
def Xd (h:AH) (x:AV) (k:AV→R):R:=match x with | .ak=>k (.str []) | .slice b off len _ _=>ob (yK h b off len) λcs=>ob (wD cs) λs=>k (.str s) |_=>none
def AG (h:AH) (e:TypeId) (x:AV) (k:AV→AH→R):R:=match x with
 | .str s=>bif Nat.ble s.length 1073741824 then k (.slice h.nx 0 s.length 0 true) (h.new (.cells (CT.ofList (s.map λ(c:UInt8)=>.int .u8 (.ofNat c.toNat))) e true))else none
 |_=>none
def NA (x:AV) (y:Nat):Option Nat:=match x with | .int _ (.ofNat a)=>bif Nat.ble a y then some a else none |_=>none
def yO (x:Option AV) (y Ee:Nat):Option Nat:=match x with |none=>some Ee |some v=>NA v y
def gJ (v:AV) (lo hi:Option AV) (k:AV→R):R:=match v with
 | .str s=>ob (yO hi s.length s.length) λh=>ob (yO lo h 0) λl=>ob (yy (h-l) (yl l s)) λt=>k (.str t)
 |_=>none
def yE (h:AH) (el:TypeId) (b off sz i0 len:Nat):Bool:=match h.get b with
 |some (.cells c e true)=>Nat.beq el e&&(Nat.ble 1 sz&&(Nat.beq off (i0*sz)&&Nat.ble (off+len*sz) c.len))
 |_=>false
def yX (h:AH) (el:TypeId) (sz:Nat) (v:AV) (lo hi:Option AV) (k:AV→R):R:=match v with
 | .slice b off len cap false=>ob (yO hi cap len) λu=>ob (yO lo u 0) λl=>k (.slice b (bif Nat.beq cap l then off else off+l*sz) (u-l) (cap-l) false)
 | .slice b off len i0 true=>bif yE h el b off sz i0 len then
   ob (yO hi len len) λu=>ob (yO lo u 0) λl=>bif Nat.beq l 0 then k (.slice b off u i0 true)else bif Nat.ble (l+1) len then k (.slice b (off+l*sz) (u-l) (i0+l) true)else k (.tail b off (off+l*sz) (i0+l))
  else none
 | .ak=>ob (yO hi 0 0) λ_=>ob (yO lo 0 0) λ_=>k .ak
 | .bT a=>ob (yO hi 0 0) λ_=>ob (yO lo 0 0) λ_=>k (.bT a)
 |_=>none
def gT (n sz:Nat) (v:AV) (lo hi:Option AV) (k:AV→R):R:=match v with
 | .ptr b off=>ob (yO hi n n) λh=>ob (yO lo h 0) λl=>k (.slice b (bif Nat.beq n l then off else off+l*sz) (h-l) (n-l) false)
 |_=>none
def xh (t:TypeId) (z v:AV) (k:AV→R):R:=match v with
 | .iface u x=>bif Nat.beq u t then k (.bM [x,.bool true])else k (.bM [z,.bool false])
 | .cH=>k (.bM [z,.bool false])
 |_=>none
def Qx (t:TypeId) (v:AV) (k:AV→R):R:=match v with | .iface u x=>bif Nat.beq u t then k x else none |_=>none
def xq (v:AV) (i:Nat) (k:AV→R):R:=v.AE (λl=>Option.rec (motive:=λ_=>R) none k (wM l i)) none
def kl (v:AV) (k:AV→R):R:=match v with | .slice _ _ len _ _=>k (.int .i64 (.ofNat len)) | .ak=>k (.int .i64 (.ofNat 0)) | .bT _=>k (.int .i64 (.ofNat 0)) | .tail _ _ _ _=>k (.int .i64 (.ofNat 0)) |_=>none
def JA (v:AV) (k:AV→R):R:=match v with | .str s=>k (.int .i64 (.ofNat s.length)) |_=>none
def AI (mx:Bool):AV→AV→Option AV
 | .int k x,.int k' y=>bif k==k' then some (.int k (bif mx then(bif mP x y then y else x)else(bif mP y x then y else x)))else none
 |_,_=>none
def te (mx:Bool):AV→List AV→Option AV
 |a,[]=>some a
 |a,b::r=>(AI mx a b).bind λc=>te mx c r
def UH:AV→Bool | .int _ _=>true |_=>false
def nq (mx:Bool) (l:List AV) (k:AV→R):R:=match l with |a::r=>bif UH a then ob (te mx a r) k else none |[]=>none
def gc (h:AH) (e:TypeId) (v:AV) (k:AV→AH→R):R:=bif qn v.cells then k (.ptr h.nx 0) (h.new (.cells (CT.ofList v.cells) e false))else none
def yR (z:List AV) (vs:List (Nat×Nat×AV)) (k:AV→R):R:=ob (yV z vs) λl=>k (.agg l)
def yZ (h:AH) (e:TypeId) (z:List AV) (len:Nat) (vs:List (Nat×Nat×AV)) (k:AV→AH→R):R :=
 ob (yV (yr z len) vs) λcs=>bif qn cs then k (.slice h.nx 0 len len false) (h.new (.cells (CT.ofList cs) e false))else none
def Qv (h:AH) (e:TypeId) (z:List AV) (l c:AV) (k:AV→AH→R):R:=match l,c with
 | .int _ (.ofNat ln),.int _ (.ofNat cp)=>bif Nat.ble ln cp&&Nat.ble cp 1073741824 then k (.slice h.nx 0 ln cp false) (h.new (.cells (CT.uL z cp) e false))else none
 |_,_=>none
def JW (h:AH) (sz n:Nat):AV→Option (List AV)
 | .slice b off _ _ _=>yK h b off (n*sz)
 | .ak=>some []
 | .bT _=>bif Nat.beq n 0 then some []else none
 | .tail _ _ _ _=>bif Nat.beq n 0 then some []else none
 | .str s=>(yy n s).map (List.map λ(c:UInt8)=>AV.int .u8 (.ofNat c.toNat))
 |_=>none
def Gk:AV→Option Nat
 | .slice _ _ len _ _=>some len
 | .ak=>some 0
 | .bT _=>some 0
 | .tail _ _ _ _=>some 0
 | .str s=>some s.length
 |_=>none
def U6 (h:AH) (sz n:Nat):AV→Option CT
 | .slice b off _ _ _=>(match h.get b with
  |some (.cells c _ _)=>c.C6 off (n*sz)
  |some (.cI t)=>(Qs [] t off (n*sz)).bind λl=>some (CT.ofList l)
  |_=>none)
 | .ak=>some (.dW [])
 | .bT _=>bif Nat.beq n 0 then some (.dW [])else none
 | .tail _ _ _ _=>bif Nat.beq n 0 then some (.dW [])else none
 | .str s=>(yy n s).bind λl=>some (CT.ofList (l.map λ(c:UInt8)=>AV.int .u8 (.ofNat c.toNat)))
 |_=>none
def yN (h:AH) (e:TypeId) (sz:Nat) (s:AV) (n:Nat) (nc:CT) (k:AV→AH→R):R:=match s with
 | .ak=>bif Nat.beq n 0 then k .ak h else bif Nat.ble n 67108864 then k (.slice h.nx 0 n 0 true) (h.new (.cells nc e true))else none
 | .slice b off len cap false=>
  bif Nat.ble (len+n) cap then(bif Nat.beq n 0 then k (.slice b off len cap false) h else ob (gC h b (off+len*sz) nc.toList) λh'=>k (.slice b off (len+n) cap false) h')
  else bif Nat.ble (len+n) 67108864 then ob (yK h b off (len*sz)) λcW=>k (.slice h.nx 0 (len+n) 0 true) (h.new (.cells (bif Nat.beq len 0 then nc else CT.ofList (cW++nc.toList)) e true))
  else none
 | .slice b off len i0 true=>
  match h.get b with
  |some (.cells c e' true)=>
   bif Nat.ble 1 sz&&(Nat.beq off (i0*sz)&&(Nat.beq e e'&&Nat.ble (off+len*sz) c.len))then
    bif Nat.beq n 0 then k (.slice b off len i0 true) h else
    bif Nat.ble (off+(len+n)*sz) c.len then ob (gC h b (off+len*sz) nc.toList) λh'=>k (.slice b off (len+n) i0 true) h'
    else bif Nat.beq i0 0&&(Nat.ble (len+n) 67108864&&qn nc.toList)then
     ob (c.pre (len*sz)) λcW=>k (.slice h.nx 0 (len+n) 0 true) ((h.put b .dead).new (.cells (cW.fb nc.toList) e true))
    else none
   else none
  |_=>none
 |_=>none
def vC (h:AH) (e:TypeId) (sz:Nat) (s x:AV) (k:AV→AH→R):R :=
 ob (Gk x) λn=>ob (U6 h sz n x) λnc=>bif Nat.beq nc.len (n*sz)then yN h e sz s n nc k else none
def C8 (x:Int):List (Int×Int×Nat)→Nat→Option (Nat×Int×Nat)
 |[],_=>none
 |e::r,i=>bif lC x e.1 then some (i,e.2)else C8 x r (i+1)
def ID (x:Int):List (Int×Int×Nat)→Nat→Option Nat
 |[],_=>none
 |e::r,i=>bif lC (.ofNat e.2.2) x then some i else ID x r (i+1)
def yd (y:Int):List (Int×Int×Nat)→Nat→List (Int×Int×Nat)
 |[],_=>[]
 |e::r,0=>(e.1,y,e.2.2)::r
 |e::r,i+1=>e::yd y r i
def Z8 (h:AH) (v:AV) (k:AV→R):R:=match v with
 | .dN b=>(match h.get b with |some (.mp l _)=>k (.int .i64 (.ofNat l.length)) |_=>none)
 |_=>none
def Up (h:AH) (v i:AV) (k:AV→R):R:=match v,i with
 | .dN b,.int .i64 x=>(match h.get b with |some (.mp l _)=>(match C8 x l 0 with |some e=>k (.int .i64 e.2.1) |none=>k (.int .i64 (.ofNat 0))) |_=>none)
 |_,_=>none
def OB (h:AH) (v i:AV) (k:AV→AH→R):R:=match v,i with
 | .dN b,.int .i64 x=>(match h.get b with
  |some (.mp l c)=>(match C8 x l 0 with |some e=>k (.bM [.int .i64 e.2.1,.int .i64 (.ofNat e.2.2)]) h |none=>k (.bM [.int .i64 (.ofNat 0),.int .i64 (.ofNat c)]) (h.put b (.mp (l++[(x,.ofNat 0,c)]) (c+1))))
  |_=>none)
 |_,_=>none
def AJ (h:AH) (v s y:AV) (k:AH→R):R:=match v,s,y with
 | .dN b,.int .i64 x,.int .i64 z=>(match h.get b with
  |some (.mp l c)=>(match ID x l 0 with |some i=>k (h.put b (.mp (yd z l i) c)) |none=>none)
  |_=>none)
 |_,_,_=>none
def Zg (h:AH) (v i y:AV) (k:AH→R):R:=match v,i,y with
 | .dN b,.int .i64 x,.int .i64 z=>(match h.get b with
  |some (.mp l c)=>(match C8 x l 0 with |some e=>k (h.put b (.mp (yd z l e.1) c)) |none=>k (h.put b (.mp (l++[(x,z,c)]) (c+1))))
  |_=>none)
 |_,_,_=>none
def O8 (h:AH) (v:AV) (k:AV→AH→R):R:=match v with
 | .ptr b 0=>(match h.get b with
  |some (.iter s pos)=>bif Nat.ble (pos+1) s.length then
    k (.bM [.bool true,.int .i64 (.ofNat pos),.int .i32 (Utf8.decode ⟨s.toArray⟩ pos).1]) (h.put b (.iter s (pos+(Utf8.decode ⟨s.toArray⟩ pos).2)))
   else k (.bM [.bool false]) h
  |_=>none)
 |_=>none
def ju (c:CV) (f:AV) (a:List AV) (h:AH) (k:AV→AH→R):R:=Option.rec (motive:=λ_=>R) none (λq=>k q.1 q.2) (c f a h)
def KJ (l:List (Nat×Nat)) (t:Nat):Option Nat:=List.rec (motive:=λ_=>Option Nat) none (λp _ ih=>Bool.rec (motive:=λ_=>Option Nat) ih (some p.2) (Nat.beq p.1 t)) l
def yj (c:CV) (l:List (Nat×Nat)) (v:AV) (a:List AV) (h:AH) (k:AV→AH→R):R:=match v with
 | .iface t x=>Option.rec (motive:=λ_=>R) none (λf=>ju c (.fn f [] []) (x::a) h k) (KJ l t)
 |_=>none
def J9 (c:CV) (f:AV) (a:List AV) (h:AH) (k:AV→AH→R):R:=match f with | .fn _ _ _=>ju c f a h k |_=>none
def Nk (P:Program) (name:String) (t:TypeId):Option Nat :=
 (P.info? t).bind λi=>(i.methods.toList.find? (·.name==name)).bind λm=>bif m.path.isEmpty then m.func.bind λg=>bif g.2 then(P.underlying t).bind λd=>(match d with | .pointer _=>some g.1 |_=>none)else none else none
def OR (P:Program) (name:String):List Nat→List (Nat×Nat)
 |[]=>[]
 |t::r=>match Nk P name t with |some f=>(t,f)::OR P name r |none=>OR P name r
def Nm (P:Program) (name:String):List (Nat×Nat):=OR P name (List.range P.types.size)
def ZG (P:Program) (t:TypeId) (f:Nat):Option Nat :=
 (P.underlying t).bind fun | .struct fs=>(fs[f]?).bind λg=>(aP P g.type).bind λsz=>bif Nat.beq sz 0 then none else some g.offset |_=>none
def Mk (P:Program) (t:TypeId) (f:Nat):Option (Nat×Option Nat) :=
 (P.underlying t).bind fun | .struct fs=>(fs[f]?).bind λg=>(wL P g.type).map λi=>(g.offset,i) |_=>none
def xS (pl:Nat→Option (Nat×Nat)) (r:Operand→Option AV):List (Nat×Operand)→Option (List (Nat×Nat×AV))
 |[]=>some []
 |(i,x)::l=>(pl i).bind λp=>(r x).bind λv=>(xS pl r l).map λs=>(p.1,p.2,v)::s
def wR (P:Program) (fs:List Field):Option (List (Nat×Nat)):=gH (λf=>(aP P f.type).map λn=>(f.offset,n)) fs
def YK (r:Operand→Option AV):Option Operand→Option (Option AV)
 |none=>some none
 |some x=>(r x).map some
abbrev AK (P:Program) (op:BinOp) (t:TypeId) (a b:AV) (k:AV→R):R :=
 match op with
 | .shl=>wm .shl a b k
 | .shr=>wm .shr a b k
 |op=>ob (P.underlying t) λd=>match d with
  | .int _=>jb op a b k
  | .string=>Vj op a b k
  | .struct fs=>match op with
   | .eql=>cx (P.eqGuardType P.depth t||P.stoodInHeld t) (none) (ob (yt P 8 fs.toList) λl=>GF l false a b k)
   | .neq=>cx (P.eqGuardType P.depth t||P.stoodInHeld t) (none) (ob (yt P 8 fs.toList) λl=>GF l true a b k)
   |_=>none
  |d=>match op with
   | .eql=>ob (Kc d) λe=>ml e false a b k
   | .neq=>ob (Kc d) λe=>ml e true a b k
   |_=>none
abbrev Xs (P:Program) (src dst:TypeId) (v:AV) (h:AH) (k:AV→AH→R):R :=
 ob (P.underlying src) λds=>ob (P.underlying dst) λdd=>match dd with
  | .int d=>(match ds with | .int _=>vM d v λz=>k z h |_=>none)
  | .string=>(match ds with
   | .string=>X9 v λz=>k z h
   | .slice e=>ob (P.underlying e) λde=>(match de with | .int .u8=>Xd h v λz=>k z h |_=>none)
   |_=>none)
  |_=>none
def GH (P:Program) (e:TypeId):Option (List AV) :=
 (P.info? e).bind λi=>(en P e).bind λz=>bif Nat.beq z.cells.length i.size&&(qn z.cells&&Nat.ble i.bytes 65536)then some z.cells else none
abbrev bh (P:Program) (c:CV) (o:Op) (r:Operand→Option AV) (h:AH) (k:AV→AH→R):R :=
 match o with
 | .move x=>ob (r x) λv=>k v h
 | .assign x=>ob (r x) λv=>k v h
 | .pick a b d=>ob (r a) λva=>ob (r b) λvb=>ob (r d) λvd=>gG va vb vd λz=>k z h
 | .alloc e=>ob (en P e) λz=>gc h e z k
 | .box e x=>ob (r x) λv=>gc h e v k
 | .build t parts=>ob (en P t) λz=>ob (P.underlying t) λd=>match d with
  | .struct fs=>ob (wR P fs.toList) λpl=>ob (xS (λi=>wM pl i) r parts.toList) λvs=>yR z.cells vs λv=>k v h
  | .array _ e=>ob (aP P e) λsz=>ob (xS (λi=>some (i*sz,sz)) r parts.toList) λvs=>yR z.cells vs λv=>k v h
  |_=>none
 | .buildSlice t len parts=>ob (P.underlying t) λd=>match d with
  | .slice e=>ob (GH P e) λz=>cx (Nat.ble (len*z.length) 16777216) (ob (xS (λi=>some (i*z.length,z.length)) r parts.toList) λvs=>yZ h e z len vs k) (none)
  |_=>none
 | .load t a=>ob (r a) λv=>ob (wL P t) λi=>match i with
  |none=>jj h v λz=>k z h
  |some n=>zi h v n λz=>k z h
 | .store t a x=>ob (r a) λva=>ob (r x) λvx=>ob (aP P t) λn=>jP h va vx n λh'=>k .undef h'
 | .nilCheck x=>ob (r x) λv=>xE v λz=>k z h
 | .binOp op t x y _=>ob (r x) λa=>ob (r y) λb=>AK P op t a b λz=>k z h
 | .unOp op _ x=>ob (r x) λv=>pQ op v λz=>k z h
 | .convert s d x=>ob (r x) λv=>Xs P s d v h k
 | .makeInterface t x=>ob (P.underlying t) λd=>match d with
  | .interface _=>none
  |_=>ob (r x) λv=>k (.iface t v) h
 | .makeFunc fn a cp=>match fn with
  | .func f=>ob (gH r a.toList) λva=>ob (gH r cp.toList) λvc=>k (.fn f va vc) h
  |_=>none
 | .makeSlice t l cp=>ob (P.underlying t) λd=>match d with
  | .slice e=>ob (GH P e) λz=>ob (r l) λvl=>ob (r cp) λvc=>Qv h e z vl vc k
  |_=>none
 | .slice t x lo hi mx=>match mx with
  |some _=>none
  |none=>ob (r x) λv=>ob (YK r lo) λl=>ob (YK r hi) λu=>ob (P.underlying t) λd=>match d with
   | .string=>gJ v l u λz=>k z h
   | .slice e=>ob (aP P e) λsz=>yX h e sz v l u λz=>k z h
   | .array n e=>ob (aP P e) λsz=>gT n sz v l u λz=>k z h
   |_=>none
 | .fieldAddr t x f=>ob (r x) λv=>ob (ZG P t f) λoff=>qp v off λz=>k z h
 | .field t x f=>ob (r x) λv=>ob (Mk P t f) λp=>match p.2 with
  |none=>Gw v p.1 λz=>k z h
  |some n=>YB v p.1 n λz=>k z h
 | .indexAddr t x i=>ob (r x) λv=>ob (r i) λj=>ob (P.underlying t) λd=>match d with
  | .slice e=>ob (aP P e) λsz=>vG v j sz λz=>k z h
  | .array n e=>cx (Nat.ble 2 n) (ob (aP P e) λsz=>kU v j n sz λz=>k z h) (none)
  |_=>none
 | .index t x i=>ob (r x) λv=>ob (r i) λj=>ob (P.underlying t) λd=>match d with
  | .string=>gP v j λz=>k z h
  | .array n e=>ob (aP P e) λsz=>ob (fo P e) λg=>cx (g) (Yx v j n sz λz=>k z h) (Yj v j n sz λz=>k z h)
  |_=>none
 | .typeAssert x _ t ok=>ob (r x) λv=>ob (P.underlying t) λd=>match d with
  | .interface _=>none
  |_=>cx (ok) (ob (en P t) λz=>xh t z v λy=>k y h) (Qx t v λy=>k y h)
 | .extract x i=>ob (r x) λv=>xq v i λz=>k z h
 | .call cl=>match cl.callee with
  | .value f=>ob (r f) λvf=>ob (gH r cl.args.toList) λva=>ju c vf va h k
  | .invoke x name=>ob (r x) λv=>ob (gH r cl.args.toList) λva=>yj c (Nm P name) v va h k
  | .builtin b=>match b with
   | .len=>(match cl.args.toList,cl.argTypes.toList with
    |x::_,t::_=>ob (r x) λv=>ob (P.underlying t) λd=>(match d with
     | .string=>JA v λz=>k z h
     | .array n _=>k (.int .i64 (.ofNat n)) h
     | .slice _=>kl v λz=>k z h
     |_=>none)
    |_,_=>none)
   | .min=>ob (gH r cl.args.toList) λl=>nq false l λz=>k z h
   | .max=>ob (gH r cl.args.toList) λl=>nq true l λz=>k z h
   | .append=>(match cl.args.toList,cl.argTypes.toList with
    |s::x::[],t::u::_=>ob (P.underlying u) λdu=>(match du with
     | .int _=>none
     |_=>ob (P.underlying t) λd=>(match d with
      | .slice e=>ob (GH P e) λz=>ob (r s) λvs=>ob (r x) λvx=>vC h e z.length vs vx k
      |_=>none))
    |_,_=>none)
   |_=>none
 |_=>none
abbrev ch (P:Program) (c:CV) (o:Op) (r:Operand→Option AV) (h:AH):R:=bh P c o r h λv h'=>some (v,h')
def wn (all:List Oper) (o:Oper):Option Nat:=o.guard.bind λg=>(wM all g.1).bind λp=>p.dst
inductive Pl where
  |z
  |n (L:Option (List Nat)) (a b:Pl)
  |r (Ls:List (List Nat))
def has (tm:PT AV) (t:Nat):Bool:=match tm.get t with |some _=>true |none=>false
abbrev pR:List Nat→Type
 |[]=>Unit
 |_::L=>AV×pR L
def vr:(L:List Nat)→PT AV→pR L
 |[],_=>()
 |t::L,tm=>((match tm.get t with |some v=>v |none=>.undef),vr L tm)
def gn:(L:List Nat)→pR L→PT AV→PT AV
 |[],_,a=>a
 |t::L,s,a=>gn L s.2 (a.set t s.1)
def xA (tm:PT AV):List Nat→Bool
 |[]=>true
 |t::L=>has tm t&&xA tm L
abbrev Un (n:Nat) (tm:PT AV) (dst:Option Tmp) (v:AV) (k:PT AV→R):R :=
 match dst with
 |none=>k tm
 |some d=>cx (Nat.ble (d+1) n) (k (tm.set d v)) (none)
abbrev uM (P:Program) (c:CV) (n:Nat):List Oper→PT AV→AH→(PT AV→AH→R)→R
 |[],tm,h,k=>k tm h
 |o::r,tm,h,k=>bh P c o.op (ev tm) h λv h'=>Un n tm o.dst v λtm'=>uM P c n r tm' h' k
abbrev UW (n:Nat):List Oper→PT AV→(PT AV→R)→R
 |[],tm,k=>k tm
 |o::r,tm,k=>Un n tm o.dst .undef λtm'=>UW n r tm' k
def writes (d:Nat):List Oper→Bool
 |[]=>false
 |o::r=>(match o.dst with |some t=>Nat.beq t d |none=>false)||writes d r
def C9 (g:Nat×Bool) (o:Oper):Bool:=match o.guard with |some g'=>Nat.beq g.1 g'.1&&g.2==g'.2 |none=>false
def zy (g:Nat×Bool):List Oper→List Oper×List Oper
 |[]=>([],[])
 |o::r=>bif C9 g o then(o::(zy g r).1,(zy g r).2)else([],o::r)
abbrev YZ (P:Program) (c:CV) (n:Nat) (all:List Oper):Nat→List Oper→List (List Nat)→PT AV→AH→(PT AV→AH→R)→R
 |_,[],_,tm,h,k=>k tm h
 | 0,_::_,_,_,_,_=>none
 |f+1,o::r,Ls,tm,h,k=>match o.guard with
  |none=>bh P c o.op (ev tm) h λv h'=>Un n tm o.dst v λtm'=>YZ P c n all f r Ls tm' h' k
  |some g=>ob (wn all o) λd=>ob (tm.get d) λvg=>
   match Ls with
   |[]=>none
   |L::sf=>cx (writes d (o::(zy g r).1)) none (xd (α:=pR L→AH→R) (λs h=>YZ P c n all f (zy g r).2 sf (gn L s .e) h k) λJ=>vp vg g.2
     (uM P c n (o::(zy g r).1) tm h λtm' h'=>cx (xA tm' L) (J (vr L tm') h') none)
     (UW n (o::(zy g r).1) tm λtm'=>cx (xA tm' L) (J (vr L tm') h) none))
mutual
def yu:AV→AV→Bool
 | .bool a,.bool b=>a==b
 | .int k a,.int k' b=>k==k'&&lC a b
 | .str a,.str b=>ft a b
 | .ptr b o,.ptr b' o'=>Nat.beq b b'&&Nat.beq o o'
 | .aO,.aO=>true
 | .slice b o l c p,.slice b' o' l' c' p'=>Nat.beq b b'&&(Nat.beq o o'&&(Nat.beq l l'&&(Nat.beq c c'&&p==p')))
 | .ak,.ak=>true
 | .fn f a c,.fn f' a' c'=>Nat.beq f f'&&(Yn a a'&&Yn c c')
 | .yield l,.yield l'=>Nat.beq l l'
 | .dC,.dC=>true
 | .iface t v,.iface t' v'=>Nat.beq t t'&&yu v v'
 | .cH,.cH=>true
 | .agg l,.agg l'=>Yn l l'
 | .bM l,.bM l'=>Yn l l'
 | .bT a,.bT a'=>decide (a=a')
 | .tail b o o' i,.tail b' p p' j=>Nat.beq b b'&&(Nat.beq o p&&(Nat.beq o' p'&&Nat.beq i j))
 | .dN b,.dN b'=>Nat.beq b b'
 |_,_=>false
def Yn:List AV→List AV→Bool
 |[],[]=>true
 |a::r,b::s=>yu a b&&Yn r s
 |_,_=>false
end
inductive Cls where
  |pure |load |fresh |dD
def iz (P:Program):Op→Cls
 | .convert s d _=>match P.underlying d with
  |some (.int _)=>.pure
  |some .string=>match P.underlying s with
   |some .string=>.pure
   |some (.slice _)=>.pure
   |_=>.dD
  |some (.slice _)=>match P.underlying s with
   |some .string=>.fresh
   |_=>.dD
  |_=>.dD
 | .move _ | .assign _ | .pick .. | .build .. | .nilCheck _ | .binOp .. | .unOp .. | .makeInterface .. | .makeFunc .. | .slice .. | .fieldAddr .. | .field .. | .indexAddr .. | .index ..
 | .typeAssert .. | .extract ..=>.pure
 | .load ..=>.load
 | .alloc .. | .box .. | .buildSlice .. | .makeSlice ..=>.fresh
 | .call cl=>match cl.callee with
  | .builtin b=>match b with
   | .len=>(match cl.argTypes.toList with |t::_=>(match P.underlying t with |some (.map _ _)=>.dD |_=>.pure) |[]=>.pure)
   | .min=>.pure
   | .max=>.pure
   |_=>.dD
  |_=>.dD
 |_=>.dD
def zz (P:Program) (o:Op):Bool:=match iz P o with | .dD=>true |_=>false
def Ku (o:Op):Bool:=match o with | .load _ _=>true |_=>false
def QJ (P:Program) (o:Op):Bool:=match o with | .slice t _ _ _ _=>(match P.underlying t with |some (.slice _)=>true |_=>false) |_=>false
def wW (P:Program) (o:Op):Bool:=match o with | .convert s d _=>(match P.underlying d with |some .string=>(match P.underlying s with |some (.slice _)=>true |_=>false) |_=>false) |_=>false
def yo (P:Program) (o:Op):Bool:=Ku o||(QJ P o||wW P o)
def gR:List Oper→Nat→PT Nat→PT Nat
 |[],_,t=>t
 |o::r,j,t=>gR r (j+1) (t.set j (o.after.toList.foldl (λs e=>bif Region.binds .any e then s|||(2 ^ e.on|||(match t.get e.on with |some m=>m |none=>0))else s) 0))
def zL (t:PT Nat) (j:Nat):Nat:=match t.get j with |some m=>m |none=>0
def chain (P:Program) (t:PT Nat):List Oper→Nat→Option Nat→Bool
 |[],_,_=>true
 |o::r,j,last=>bif zz P o.op then(match last with |none=>true |some i=>Nat.testBit (zL t j) i)&&chain P t r (j+1) (some j)else chain P t r (j+1) last
def bit (t:Nat):Nat:=2 ^ t
def AL:List Nat→Nat
 |[]=>0
 |a::r=>a|||AL r
def IE:Operand→Nat | .tmp t=>bit t |_=>0
def looks (all:List Oper) (o:Oper):Nat:=AL (o.op.operands.toList.map IE)|||(match o.guard with |some _=>(match wn all o with |some d=>bit d |none=>0) |none=>0)
def Jq (o:Oper):Nat:=match o.dst with |some d=>bit d |none=>0
structure AM where
  i:Nat
  w:Nat
  l:Nat
def NP (mk wj lj:Nat):List AM→Bool
 |[]=>true
 |e::r=>(Nat.testBit mk e.i||(Nat.beq (e.w&&&(lj|||wj)) 0&&Nat.beq (wj&&&e.l) 0))&&NP mk wj lj r
def ky (j:Nat):List Edge→Bool
 |[]=>true
 |e::r=>(bif Region.binds .any e then Nat.ble (e.on+1) j else true)&&ky j r
def rj (t:PT Nat) (all:List Oper):List Oper→Nat→List AM→Bool
 |[],_,_=>true
 |o::r,j,es=>ky j o.after.toList&&(NP (zL t j) (Jq o) (looks all o) es&&rj t all r (j+1) (⟨j,Jq o,looks all o⟩::es))
def gi (t:PT Nat) (i j:Nat):Bool:=!(Nat.testBit (zL t i) j||Nat.testBit (zL t j) i)
def Xk (P:Program) (t:PT Nat) (i:Nat):List Oper→Nat→Bool
 |[],_=>false
 |o::r,j=>zz P o.op&&gi t i j||Xk P t i r (j+1)
def XV (P:Program) (p:Op→Bool) (t:PT Nat) (all:List Oper):List Oper→Nat→Bool
 |[],_=>false
 |o::r,i=>p o.op&&Xk P t i all 0||XV P p t all r (i+1)
def Da (P:Program) (ops:Array Oper):Bool :=
 rj (gR ops.toList 0 .e) ops.toList ops.toList 0 []&&chain P (gR ops.toList 0 .e) ops.toList 0 none
structure JH where
  i:Nat
  a:AV
  n:Option Nat
  v:AV
structure Qi where
  j:Nat
  hb:AH
  ha:AH
def zp (a:AV) (n:Option Nat) (v:AV) (h:AH):Bool :=
 match a with
 | .ptr b off=>(match h.get b with
  |some (.cells c _ _)=>(match n with
   |none=>(match c.dX off with |some x=>yu x v |none=>false)
   |some n=>(match c.fM off n with |some l=>yu (.agg l) v |none=>false))
  |some (.cI t)=>(match n with
   |none=>(match aJ.get t off with |some x=>yu x v |none=>false)
   |some n=>(match Qs [] t off n with |some l=>yu (.agg l) v |none=>false))
  |_=>false)
 | .slice b off len i0 true=>(match n with |some m=>yE h (m/65536) b off (m%65536) i0 len |none=>false)
 | .slice _ _ _ _ false=>true
 | .ak=>true
 | .bT _=>true
 |_=>false
def Ef (a:AV) (nx:Nat):Bool:=match a with | .ptr b _=>Nat.ble (b+1) nx | .slice b _ _ _ true=>Nat.ble (b+1) nx | .slice _ _ _ _ false=>true | .ak=>true | .bT _=>true |_=>false
def pS (a:AV) (n:Option Nat) (v:AV) (hb ha:AH) (nx:Nat):Bool:=match a,n,v with
 | .slice b _ _ _ _,none,.str _=>Nat.ble ha.nx b
 |_,_,_=>zp a n v hb&&(zp a n v ha&&Ef a nx)
def Ys (a:AV) (n:Option Nat) (v:AV) (hb ha:AH) (nx:Nat) (k:R):R:=bif pS a n v hb ha nx then k else none
abbrev AN (t:PT Nat) (i:Nat) (a:AV) (n:Option Nat) (v:AV) (nx:Nat):List Qi→R→R
 |[],k=>k
 |⟨j,hb,ha⟩::r,k=>cx (gi t i j) (Ys a n v hb ha nx (AN t i a n v nx r k)) (AN t i a n v nx r k)
abbrev NV (t:PT Nat) (hs:List Qi) (nx:Nat):List JH→R→R
 |[],k=>k
 |⟨i,a,n,v⟩::r,k=>AN t i a n v nx hs (NV t hs nx r k)
def JF (r:Operand→Option AV):Op→Option AV
 | .load _ a=>r a
 | .slice _ x _ _ _=>r x
 | .convert _ _ x=>r x
 |_=>none
def gk (P:Program):Op→Option Nat
 | .load t _=>match wL P t with |some i=>i |none=>none
 | .slice t _ _ _ _=>match P.underlying t with
  |some (.slice e)=>(match aP P e with |some sz=>bif Nat.ble (sz+1) 65536 then some (e*65536+sz)else none |none=>none)
  |_=>none
 |_=>none
def JB:List (Nat×Bool×Bool)→Nat→Bool→Option Bool
 |[],_,_=>none
 |x::r,d,w=>bif Nat.beq x.1 d&&(x.2.1==w)then some x.2.2 else bif Nat.beq x.1 d&&x.2.2 then some false else JB r d w
def tf (dst:Option Tmp) (d:Nat):Bool:=match dst with |some t=>Nat.beq t d |none=>false
def dq (dst:Option Tmp):List (Nat×Bool×Bool)→List (Nat×Bool×Bool)
 |[]=>[]
 |x::r=>bif tf dst x.1 then dq dst r else x::dq dst r
abbrev IF (o:Option Bool) (v:AV) (w:Bool) (a b:R):R:=match o with |some true=>a |some false=>b |none=>vp v w a b
def IG:Bool:=true
def Je:Operand→Option Bool
 | .const k=>(match UT k with |some (.bool b)=>some b |_=>none)
 |_=>none
def Db (kn:List (Nat×Bool×Bool)) (d:Nat):Option Bool:=match JB kn d true with
 |some true=>some true
 |_=>(match JB kn d false with |some true=>some false |_=>none)
def KS (kn:List (Nat×Bool×Bool)):Op→Option Bool
 | .move (.tmp d)=>Db kn d
 | .assign (.tmp d)=>Db kn d
 | .pick (.tmp d) y z=>(match JB kn d true with |some true=>Je y |some false=>Je z |none=>(match JB kn d false with |some false=>Je y |_=>none))
 |_=>none
def kI (dst:Option Tmp) (o:Op) (kn:List (Nat×Bool×Bool)):List (Nat×Bool×Bool):=bif IG then(match dst with
  |some t=>(match KS kn o with |some c=>(t,true,c)::(t,false,!c)::dq dst kn |none=>dq dst kn)
  |none=>dq dst kn)else dq dst kn
abbrev Yo (P:Program) (c:CV) (n:Nat) (all:List Oper):List Oper→Nat→List (Nat×Bool×Bool)→PT AV→AH→List JH→List Qi→(PT AV→AH→List JH→List Qi→R)→R
 |[],_,_,tm,h,ls,hs,k=>k tm h ls hs
 |o::r,j,kn,tm,h,ls,hs,k=>
  match o.guard with
  |none=>bh P c o.op (ev tm) h λv h'=>Un n tm o.dst v λtm'=>cx (yo P o.op) (ob (JF (ev tm) o.op) λa=>Yo P c n all r (j+1) (kI o.dst o.op kn) tm' h' (⟨j,a,gk P o.op,v⟩::ls) hs k) (cx (zz P o.op) (Yo P c n all r (j+1) (kI o.dst o.op kn) tm' h' ls (⟨j,h,h'⟩::hs) k) (Yo P c n all r (j+1) (kI o.dst o.op kn) tm' h' ls hs k))
  |some g=>ob (wn all o) λd=>ob (tm.get d) λvg=>IF (JB kn d g.2) vg g.2
   (bh P c o.op (ev tm) h λv h'=>Un n tm o.dst v λtm'=>
    cx (yo P o.op) (ob (JF (ev tm) o.op) λa=>Yo P c n all r (j+1) (kI o.dst o.op ((d,g.2,true)::kn)) tm' h' (⟨j,a,gk P o.op,v⟩::ls) hs k) (cx (zz P o.op) (Yo P c n all r (j+1) (kI o.dst o.op ((d,g.2,true)::kn)) tm' h' ls (⟨j,h,h'⟩::hs) k) (Yo P c n all r (j+1) (kI o.dst o.op ((d,g.2,true)::kn)) tm' h' ls hs k)))
   (Un n tm o.dst .undef λtm'=>Yo P c n all r (j+1) (dq o.dst ((d,g.2,false)::kn)) tm' h ls hs k)
abbrev Eg (P:Program) (c:CV) (n:Nat) (ops:Array Oper) (Ls:List (List Nat)) (tm:PT AV) (h:AH) (k:PT AV→AH→R):R :=
 cx (Da P ops) ((cx (XV P (yo P) (gR ops.toList 0 .e) ops.toList ops.toList 0) (match Ls with
   |[]=>none
   |L::_=>xd (α:=pR L→AH→R) (λs h=>k (gn L s .e) h)
     λJ=>Yo P c n ops.toList ops.toList 0 [] tm h [] [] λtm' h' ls hs=>NV (gR ops.toList 0 .e) hs h.nx ls (cx (xA tm' L) (J (vr L tm') h') (none))) (YZ P c n ops.toList ops.toList.length ops.toList Ls tm h k))) (none)
def Jr (h:AH) (l:Nat) (k:AH→R):R:=match h.get l with
 |some (.loop .ready bQ f p L vs d)=>k (h.put l (.loop .busy bQ f p L vs d))
 |_=>none
def xL (h:AH) (l:Nat) (j:Option AX):R:=match h.get l with
 |some (.loop _ _ f p L vs d)=>(match j with
  |none=>some (.bool true,h.put l (.loop .ready none f p L vs d))
  |some x=>some (.bool false,h.put l (.loop .done (some x) f p L vs d)))
 |_=>none
def vY (h:AH) (l:Nat) (k:Option AX→AH→R):R:=match h.get l with
 |some (.loop st bQ f p L vs d)=>(match st with
  | .busy=>none
  |_=>k bQ (h.put l (.loop .exhausted bQ f p L vs d)))
 |_=>none
def uN:AX→AX→Bool
 | .normal,.normal=>true
 | .ret,.ret=>true
 | .exit a,.exit b=>Nat.beq a b
 | .goto a,.goto b=>Nat.beq a b
 |_,_=>false
def uO (p:Option AX) (x:AX) (a b:R):R:=match p with |some y=>bif uN y x then a else b |none=>b
def Xl (p:Option AX) (a b:R):R:=match p with |none=>a |some _=>b
def Jf:Code→List Nat→List AX
 | .seq a b,l=>Jf a l++Jf b l
 | .cond _ a b,l=>Jf a l++Jf b l
 | .block id a,l=>Jf a (id::l)
 | .loop a,l=>Jf a l
 | .rangeFunc _ _ _ b,l=>Jf b l
 | .exit id,l=>bif l.contains id then[]else[.exit id]
 | .ret,_=>[.ret]
 |_,_=>[]
abbrev KU (p:Option AX) (k:AX→R):List AX→R
 |[]=>none
 |x::r=>uO p x (k x) (KU p k r)
def Nb (h:AH) (l:Nat) (k:Nat→R):R:=match h.get l with |some (.loop _ _ _ _ _ _ d)=>k d |_=>none
def wX:(L:List Nat)→PT AV→List AV
 |[],_=>[]
 |t::L,tm=>(match tm.get t with |some v=>v |none=>.undef)::wX L tm
def mn:Pl→Pl | .n _ a _=>a |_=>.z
def sg:Pl→Pl | .n _ _ b=>b |_=>.z
def sh:Pl→Option (List Nat) | .n L _ _=>L |_=>none
def Dc:Pl→List (List Nat) | .r l=>l |_=>[]
abbrev vS (P:Program) (N:Nat) (c:CV) (f n:Nat) (rd:Option Nat):Code→List Nat→Pl→PT AV→AH→List Nat→(AX→PT AV→AH→List Nat→R)→R
  | .skip,_,_,tm,h,ds,k=>k .normal tm h ds
  | .region _ ops d,_,pl,tm,h,ds,k=>cx (d) (Eg P c n ops (Dc pl) tm h λtm h=>k .normal tm h ds) (YZ P c n ops.toList ops.toList.length ops.toList (Dc pl) tm h λtm h=>k .normal tm h ds)
  | .seq a b,pos,pl,tm,h,ds,k=>match sh pl with
    | some L => xd (α := pR L → AH → List Nat → R)
        (λs h ds=>vS P N c f n rd b (pos++[1]) (sg pl) (gn L s .e) h ds k)
        λJ=>vS P N c f n rd a (pos++[0]) (mn pl) tm h ds λx tm' h ds=>match x with
          | .normal=>cx (xA tm' L) (J (vr L tm') h ds) (none) |x=>k x tm' h ds
    |none=>vS P N c f n rd a (pos++[0]) (mn pl) tm h ds λx tm' h ds=>match x with
      | .normal=>vS P N c f n rd b (pos++[1]) (sg pl) tm' h ds k
      |x=>k x tm' h ds
  | .cond o a b,pos,pl,tm,h,ds,k=>ob (ev tm o) λv=>zH v (vS P N c f n rd a (pos++[0]) (mn pl) tm h ds k) (vS P N c f n rd b (pos++[1]) (sg pl) tm h ds k)
  | .block id a,pos,pl,tm,h,ds,k=>match sh pl with
    | some L => xd (α := pR L → AH → List Nat → R)
        (λs h ds=>k .normal (gn L s .e) h ds)
        λJ=>vS P N c f n rd a (pos++[0]) (mn pl) tm h ds λx tm' h ds=>match x with
          | .normal=>cx (xA tm' L) (J (vr L tm') h ds) (none) | .exit i=>cx (Nat.beq i id) ((cx (xA tm' L) (J (vr L tm') h ds) (none))) (k (.exit i) tm' h ds) |x=>k x tm' h ds
    |none=>vS P N c f n rd a (pos++[0]) (mn pl) tm h ds λx tm' h ds=>match x with
      | .exit i=>cx (Nat.beq i id) (k .normal tm' h ds) (k (.exit i) tm' h ds)
      |x=>k x tm' h ds
  | .loop a,pos,pl,tm,h,ds,k=>match sh pl with
    | some L => cx (xA tm L) (Xi (σ := pR L) N
        (λih s h ds=>vS P N c f n rd a (pos++[0]) (mn pl) (gn L s .e) h ds λx tm' h ds=>match x with
          | .normal=>cx (xA tm' L) (ih (vr L tm') h ds) (none) |x=>k x tm' h ds)
        (vr L tm) h ds) (none)
    |none=>none
  | .exit id,_,_,tm,h,ds,k=>k (.exit id) tm h ds
  | .label _,_,_,tm,h,ds,k=>k .normal tm h ds
  | .goto l,_,_,tm,h,ds,k=>k (.goto l) tm h ds
  | .ret,_,_,tm,h,ds,k=>k .ret tm h ds
  | .rangeFunc g _ _ body,pos,pl,tm,h,ds,k=>ob (ev tm g) λvf=>match sh pl with
    |none=>none
    | some L => cx (xA tm L) ((fun (go : Nat → AH → List Nat → R) => match rd with
       |none=>go h.nx (h.new .hZ) (h.nx::ds)
       |some l0=>Nb h l0 λd=>go d h ds)
      λd h1 ds1=>J9 c vf [.yield h1.nx] (h1.new (.loop .ready none f pos L (wX L tm) d)) λ_ h2=>
        vY h2 h1.nx λp h3=>Xl p (k .normal tm h3 ds1) (KU p (λx=>k x tm h3 ds1) (Jf body []))) (none)
  |_,_,_,_,_,_,_=>none
def zl:List Nat→AH→(AH→R)→R
 |[],h,k=>k h
 |d::r,h,k=>match h.get d with
  |some .hZ=>zl r (h.put d .np) k
  |_=>none
def uP:List AV→Nat→PT AV→PT AV
 |[],_,t=>t
 |a::r,i,t=>uP r (i+1) (t.set i a)
abbrev K4 (P:Program) (tm:PT AV) (h:AH):List ResultVar→(List AV→R)→R
 |[],k=>k []
 |x::r,k=>match x with
  | .tmp t=>ob (tm.get t) λv=>K4 P tm h r λl=>k (v::l)
  | .cell a t=>ob (tm.get a) λva=>ob (wL P t) λi=>match i with
   |none=>jj h va λv=>K4 P tm h r λl=>k (v::l)
   |some n=>zi h va n λv=>K4 P tm h r λl=>k (v::l)
def ig (l:List AV):AV:=match l with |[v]=>v |l=>.bM l
abbrev z8 (P:Program) (N:Nat) (pl:Pl) (c:CV) (f:FuncId) (args:List AV) (h:AH):R :=
 ob (P.funcs[f]?) λfn=>ob fn.body λb=>
  vS P N c f fn.ntmps none b [] pl (uP args 0 .e) h [] λx tm h ds=>match x with
   | .normal=>zl ds h λh'=>K4 P tm h' fn.results.toList λl=>some (ig l,h')
   | .ret=>zl ds h λh'=>K4 P tm h' fn.results.toList λl=>some (ig l,h')
   |_=>none
def ze:Code→List Nat→Option Code
 |c,[]=>some c
 | .seq a b,i::p=>bif Nat.beq i 0 then ze a p else ze b p
 | .cond _ a b,i::p=>bif Nat.beq i 0 then ze a p else ze b p
 | .block _ a,_::p=>ze a p
 | .loop a,_::p=>ze a p
 | .rangeFunc _ _ a b,i::p=>bif Nat.beq i 0 then ze a p else ze b p
 |_,_::_=>none
abbrev Dd:List Tmp→List AV→Nat→PT AV→(PT AV→R)→R
 |[],[],_,t,k=>k t
 |p::ps,v::vs,n,t,k=>cx (Nat.ble (p+1) n) (Dd ps vs n (t.set p v) k) (none)
 |_,_,_,_,_=>none
abbrev rk:List Nat→List AV→PT AV→(PT AV→R)→R
 |[],[],t,k=>k t
 |x::L,v::vs,t,k=>rk L vs (t.set x v) k
 |_,_,_,_=>none
abbrev VW (P:Program) (N:Nat) (pl:Pl) (c:CV) (f:FuncId) (pos L:List Nat) (l:Nat) (vs args:List AV) (h:AH):R :=
 ob (P.funcs[f]?) λfn=>ob fn.body λb=>ob (ze b pos) λs=>match s with
  | .rangeFunc _ ps assign body=>rk L vs .e λEh=>Dd ps.toList args fn.ntmps Eh λtm=>
   vS P N c f fn.ntmps (some l) assign (pos++[0]) (mn pl) tm h [] λx tm h ds=>match x with
    | .normal=>Jr h l λh=>vS P N c f fn.ntmps (some l) body (pos++[1]) (sg pl) tm h ds λx _ h _=>match x with
     | .normal=>xL h l none
     |x=>xL h l (some x)
    |_=>none
  |_=>none
def NN:Nat:=1000000000
abbrev WF:=CV→List AV→AH→R
abbrev VF:=CV→Nat→List AV→List AV→AH→R
def fc (P:Program) (f:Nat) (w:WF):Prop:=∀c l h r,w c l h=some r→∃pl,z8 P NN pl c f l h=some r
def AO (P:Program) (f:Nat) (pos L:List Nat) (w:VF):Prop:=∀c l x y h r,w c l x y h=some r→∃pl,VW P NN pl c f pos L l x y h=some r
structure RT where
  f:Nat
  pos:List Nat
  L:List Nat
  run:VF
def YC:List Nat→List Nat→Bool
 |[],[]=>true
 |a::x,b::y=>Nat.beq a b&&YC x y
 |_,_=>false
def X6:List RT→Nat→List Nat→List Nat→Option VF
 |[],_,_,_=>none
 |x::r,f,pos,L=>bif Nat.beq x.f f&&(YC x.pos pos&&YC x.L L)then some x.run else X6 r f pos L
inductive BT where
  |no
  |leaf (f:Nat) (w:WF)
  |node (m:Nat) (l r:BT)
def BT.get (t:BT) (f:Nat):Option WF :=
 BT.rec (motive:=λ_=>Option WF) none (λg w=>Bool.rec (motive:=λ_=>Option WF) none (some w) (Nat.beq g f)) (λm _ _ l r=>Bool.rec (motive:=λ_=>Option WF) r l (Nat.ble f m)) t
def BT.all (p:Nat→WF→Prop):BT→Prop
 | .no=>True
 | .leaf f w=>p f w
 | .node _ l r=>l.all p∧r.all p
def BT.fs:BT→List Nat
 | .no=>[]
 | .leaf f _=>[f]
 | .node _ l r=>l.fs++r.fs
def callT (tab:BT) (rt:List RT) (k:Nat):CV :=
 Nat.rec (motive:=λ_=>CV) (λ_ _ _=>none) (λ_ ih v args h=>match v with
  | .fn f first cap=>Option.rec (motive:=λ_=>R) none (λg=>g ih (first++args++cap) h) (BT.get tab f)
  | .yield l=>(match h.get l with
   |some (.loop .ready _ f pos L vs _)=>(match X6 rt f pos L with |some g=>g ih l vs args h |none=>none)
   |_=>none)
  |_=>none) k
def isTrue (r:R):Bool:=match r with |some (.bool true,_)=>true |_=>false
def AH.empty:AH:=⟨0,[],.e⟩
end
end Go.Ae
namespace Go.Ae
open Go
noncomputable section
theorem pLn {h:AH} {k:AH→R}:zl [] h k=k h:=rfl
structure tR (x:R) where
 val:R
 property:x=val:=by conv=>lhs;reduce;try dsimp only[pLn]
abbrev uQ (P:Program) (pl:Pl) (f:Nat):Type:=(c:CV)→(h:AH)→tR (z8 P NN pl c f [] h)
abbrev uR {P:Program} {pl:Pl} {f:Nat} (S:uQ P pl f):WF:=λc l h=>match l with |[]=>(S c h).1 |_=>none
theorem Ei {P:Program} {pl:Pl} {f:Nat} (S:uQ P pl f):fc P f (uR S):=by
 intro c l h r e;unfold uR at e
 split at e
 ·exact⟨pl,(S ..).2.trans e⟩
 ·cases e
abbrev aU (P:Program) (pl:Pl) (f:Nat):Type:=(c:CV)→(a0:AV)→(h:AH)→tR (z8 P NN pl c f [a0] h)
abbrev aV {P:Program} {pl:Pl} {f:Nat} (S:aU P pl f):WF:=λc l h=>match l with |[a0]=>(S c a0 h).1 |_=>none
theorem aY {P:Program} {pl:Pl} {f:Nat} (S:aU P pl f):fc P f (aV S):=by
 intro c l h r e;unfold aV at e
 split at e
 ·exact⟨pl,(S ..).2.trans e⟩
 ·cases e
abbrev bE (P:Program) (pl:Pl) (f:Nat):Type:=(c:CV)→(a0 a1:AV)→(h:AH)→tR (z8 P NN pl c f [a0,a1] h)
abbrev bC {P:Program} {pl:Pl} {f:Nat} (S:bE P pl f):WF:=λc l h=>match l with |[a0,a1]=>(S c a0 a1 h).1 |_=>none
theorem bI {P:Program} {pl:Pl} {f:Nat} (S:bE P pl f):fc P f (bC S):=by
 intro c l h r e;unfold bC at e
 split at e
 ·exact⟨pl,(S ..).2.trans e⟩
 ·cases e
abbrev cQ (P:Program) (pl:Pl) (f:Nat):Type:=(c:CV)→(a0 a1 a2:AV)→(h:AH)→tR (z8 P NN pl c f [a0,a1,a2] h)
abbrev cG {P:Program} {pl:Pl} {f:Nat} (S:cQ P pl f):WF:=λc l h=>match l with |[a0,a1,a2]=>(S c a0 a1 a2 h).1 |_=>none
theorem cX {P:Program} {pl:Pl} {f:Nat} (S:cQ P pl f):fc P f (cG S):=by
 intro c l h r e;unfold cG at e
 split at e
 ·exact⟨pl,(S ..).2.trans e⟩
 ·cases e
abbrev ij (P:Program) (pl:Pl) (f:Nat):Type:=(c:CV)→(a0 a1 a2 a3:AV)→(h:AH)→tR (z8 P NN pl c f [a0,a1,a2,a3] h)
abbrev ik {P:Program} {pl:Pl} {f:Nat} (S:ij P pl f):WF:=λc l h=>match l with |[a0,a1,a2,a3]=>(S c a0 a1 a2 a3 h).1 |_=>none
theorem lp {P:Program} {pl:Pl} {f:Nat} (S:ij P pl f):fc P f (ik S):=by
 intro c l h r e;unfold ik at e
 split at e
 ·exact⟨pl,(S ..).2.trans e⟩
 ·cases e
abbrev ot (P:Program) (pl:Pl) (f:Nat):Type:=(c:CV)→(a0 a1 a2 a3 a4:AV)→(h:AH)→tR (z8 P NN pl c f [a0,a1,a2,a3,a4] h)
abbrev ou {P:Program} {pl:Pl} {f:Nat} (S:ot P pl f):WF:=λc l h=>match l with |[a0,a1,a2,a3,a4]=>(S c a0 a1 a2 a3 a4 h).1 |_=>none
theorem si {P:Program} {pl:Pl} {f:Nat} (S:ot P pl f):fc P f (ou S):=by
 intro c l h r e;unfold ou at e
 split at e
 ·exact⟨pl,(S ..).2.trans e⟩
 ·cases e
abbrev De (P:Program) (pl:Pl) (f:Nat):Type:=(c:CV)→(a0 a1 a2 a3 a4 a5 a6:AV)→(h:AH)→tR (z8 P NN pl c f [a0,a1,a2,a3,a4,a5,a6] h)
abbrev Df {P:Program} {pl:Pl} {f:Nat} (S:De P pl f):WF:=λc l h=>match l with |[a0,a1,a2,a3,a4,a5,a6]=>(S c a0 a1 a2 a3 a4 a5 a6 h).1 |_=>none
theorem tO7 {P:Program} {pl:Pl} {f:Nat} (S:De P pl f):fc P f (Df S):=by
 intro c l h r e;unfold Df at e
 split at e
 ·exact⟨pl,(S ..).2.trans e⟩
 ·cases e
end
end Go.Ae
namespace Go.Ae
open Go
noncomputable section
abbrev Dh (S:CV→AH→R):WF:=λc l h=>match l with |[]=>S c  h |_=>none
theorem IH {P:Program} {f:Nat} {pl:Pl} {S:CV→AH→R} (q:∀(c:CV) (h:AH),z8 P NN pl c f [] h=S c  h):fc P f (Dh S):=by
 intro c l h r e;unfold Dh at e
 split at e
 ·exact⟨pl,by rw[q];exact e⟩
 ·cases e
abbrev sj (S:CV→AV→AH→R):WF:=λc l h=>match l with |[a0]=>S c a0 h |_=>none
theorem Gc {P:Program} {f:Nat} {pl:Pl} {S:CV→AV→AH→R} (q:∀(c:CV) (a0:AV) (h:AH),z8 P NN pl c f [a0] h=S c a0 h):fc P f (sj S):=by
 intro c l h r e;unfold sj at e
 split at e
 ·exact⟨pl,by rw[q];exact e⟩
 ·cases e
abbrev AP (S:CV→AV→AV→AH→R):WF:=λc l h=>match l with |[a0,a1]=>S c a0 a1 h |_=>none
theorem Ej {P:Program} {f:Nat} {pl:Pl} {S:CV→AV→AV→AH→R} (q:∀(c:CV) (a0 a1:AV) (h:AH),z8 P NN pl c f [a0,a1] h=S c a0 a1 h):fc P f (AP S):=by
 intro c l h r e;unfold AP at e
 split at e
 ·exact⟨pl,by rw[q];exact e⟩
 ·cases e
abbrev Ek (S:CV→AV→AV→AV→AV→AH→R):WF:=λc l h=>match l with |[a0,a1,a2,a3]=>S c a0 a1 a2 a3 h |_=>none
theorem qga {P:Program} {f:Nat} {pl:Pl} {S:CV→AV→AV→AV→AV→AH→R} (q:∀(c:CV) (a0 a1 a2 a3:AV) (h:AH),z8 P NN pl c f [a0,a1,a2,a3] h=S c a0 a1 a2 a3 h):fc P f (Ek S):=by
 intro c l h r e;unfold Ek at e
 split at e
 ·exact⟨pl,by rw[q];exact e⟩
 ·cases e
abbrev El (S:CV→AV→AV→AV→AV→AV→AH→R):WF:=λc l h=>match l with |[a0,a1,a2,a3,a4]=>S c a0 a1 a2 a3 a4 h |_=>none
theorem qwD {P:Program} {f:Nat} {pl:Pl} {S:CV→AV→AV→AV→AV→AV→AH→R} (q:∀(c:CV) (a0 a1 a2 a3 a4:AV) (h:AH),z8 P NN pl c f [a0,a1,a2,a3,a4] h=S c a0 a1 a2 a3 a4 h):fc P f (El S):=by
 intro c l h r e;unfold El at e
 split at e
 ·exact⟨pl,by rw[q];exact e⟩
 ·cases e
end
end Go.Ae
abbrev Go.Ae.iI (n:Nat):Go.Ae.AV:=.int .i64 (.ofNat n)
abbrev Go.Ae.uU (n:Nat):Go.Ae.AV:=.int .u64 (.ofNat n)
namespace Go.Ae
abbrev iQ:=@if_neg
abbrev iJ:=@if_pos
theorem iZ {n:Nat}:Int.ofNat n=(n:Int):=rfl
abbrev iX:=@List.mem_cons_of_mem
abbrev iK:=@List.mem_cons_self
abbrev iV:=@decide_eq_false
abbrev iG:=@decide_eq_true
abbrev iW:=@List.getElem?_eq_getElem
abbrev iY:=@Nat.ble_eq_true_of_le
abbrev iA:=@List.eq_nil_of_length_eq_zero
end Go.Ae
