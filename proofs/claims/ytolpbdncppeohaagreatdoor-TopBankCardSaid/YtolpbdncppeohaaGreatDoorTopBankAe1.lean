/- The abstract executor of the program's form in Lean, shown sound: values, heaps, operations, code: plain definitions. -/
import Derived.CallsIn
import Derived.OrdersIn
import Derived.Eval
import Derived.RangeFuncIn
import Derived.RangeFuncLeaves
import Derived.Still
import Derived.Lib.ItoaNum
theorem Go.Ae.aS {P : Prop} (h : P :=by simp) : P :=h
theorem Go.Ae.od {P : Prop} (h : P :=by decide) : P :=h
theorem Go.Ae.omQ {P : Prop} (h : P :=by omega) : P :=h
namespace Go.Ae
noncomputable section
def gtab : List (String × IntKind × List Int) := [("internal/strconv.uint64pow10", IntKind.u64, Lib.pow10Tab)]
inductive PT (α:Type) where
  |e
  |n (l:PT α) (v:Option α) (r:PT α)
def PT.get {α:Type} (t:PT α) (i:Nat):Option α :=
 PT.rec (motive:=λ_=>Nat→Option α) (λ_=>none)
  (λ_ v _ l r i=>Bool.rec (motive:=λ_=>Option α) (Bool.rec (motive:=λ_=>Option α) (r (Nat.sub (Nat.div i 2) 1)) (l (Nat.div i 2)) (Nat.beq (Nat.mod i 2) 1)) v (Nat.beq i 0)) t i
def PT.im {α:Type} (f:Nat) (t:PT α) (i:Nat) (x:α):PT α :=
 Nat.rec (motive:=λ_=>PT α→Nat→PT α) (λ_ _=>.e)
  (λ_ ih t i=>PT.rec (motive:=λ_=>PT α)
   (Bool.rec (motive:=λ_=>PT α) (Bool.rec (motive:=λ_=>PT α) (.n .e none (ih .e (Nat.sub (Nat.div i 2) 1))) (.n (ih .e (Nat.div i 2)) none .e) (Nat.beq (Nat.mod i 2) 1)) (.n .e (some x) .e) (Nat.beq i 0))
   (λl v r _ _=>Bool.rec (motive:=λ_=>PT α) (Bool.rec (motive:=λ_=>PT α) (.n l v (ih r (Nat.sub (Nat.div i 2) 1))) (.n (ih l (Nat.div i 2)) v r) (Nat.beq (Nat.mod i 2) 1)) (.n l (some x) r) (Nat.beq i 0)) t) f t i
def PT.set {α:Type} (t:PT α) (i:Nat) (x:α):PT α:=PT.im (i+1) t i x
def PT.mF {α:Type} (i m:Nat) (t:PT α):PT α:=PT.rec (motive:=λ_=>PT α) .e (λl _ r _ _=>Bool.rec (motive:=λ_=>PT α) r l (Nat.beq (Nat.land i m) 0)) t
def PT.leaf {α:Type} (t:PT α):Option α:=PT.rec (motive:=λ_=>Option α) none (λ_ v _ _ _=>v) t
def PT.sub {α:Type} (i m:Nat) (f:PT α→PT α) (t:PT α):PT α :=
 PT.rec (motive:=λ_=>PT α) (Bool.rec (motive:=λ_=>PT α) (.n .e none (f .e)) (.n (f .e) none .e) (Nat.beq (Nat.land i m) 0))
  (λl v r _ _=>Bool.rec (motive:=λ_=>PT α) (.n l v (f r)) (.n (f l) v r) (Nat.beq (Nat.land i m) 0)) t
def PT.mark {α:Type} (x:α) (t:PT α):PT α:=PT.rec (motive:=λ_=>PT α) (.n .e (some x) .e) (λl _ r _ _=>.n l (some x) r) t
def PT.lX {α:Type} (t:PT α) (i:Nat):Option α:=PT.leaf (PT.mF i 1 (PT.mF i 2 (PT.mF i 4 (PT.mF i 8 (PT.mF i 16 (PT.mF i 32 (PT.mF i 64 (PT.mF i 128 (PT.mF i 256 (PT.mF i 512 (PT.mF i 1024 (PT.mF i 2048 (t)))))))))))))
def PT.oD {α:Type} (t:PT α) (i:Nat) (x:α):PT α:=PT.sub i 2048 (PT.sub i 1024 (PT.sub i 512 (PT.sub i 256 (PT.sub i 128 (PT.sub i 64 (PT.sub i 32 (PT.sub i 16 (PT.sub i 8 (PT.sub i 4 (PT.sub i 2 (PT.sub i 1 (PT.mark x)))))))))))) t
abbrev aO (α:Type):=PT (PT α)
def aO.get {α:Type} (t:aO α) (i:Nat):Option α:=Option.rec (motive:=λ_=>Option α) none (λs=>PT.lX s i) (PT.get t (Nat.div i 4096))
def aO.set {α:Type} (t:aO α) (i:Nat) (x:α):aO α:=PT.set t (Nat.div i 4096) (PT.oD (Option.rec (motive:=λ_=>PT α) .e (λs=>s) (PT.get t (Nat.div i 4096))) i x)
inductive AV where
  |bool (b:Bool)
  |int (k:IntKind) (n:Int)
  |str (s:List UInt8)
  |ptr (b off:Nat)
  |aU
  /--opn: the room is that of the block,less 'cap' elements ahead;else the room is 'cap'-/
  |slice (b off len cap:Nat) (bn:Bool)
  |ak
  |fn (f:FuncId) (first cap:List AV)
  |yield (l:Nat)
  |dY
  |iface (t:TypeId) (v:AV)
  |dl
  |agg (l:List AV)
  |bV (l:List AV)
  /--an empty slice without room,wherever it points-/
  |ch (a:Addr)
  /--an empty slice behind all that an open block's slice shows: where it points hangs on the room-/
  |tail (b off pb i1:Nat)
  /--a map of the walk's own-/
  |dp (b:Nat)
  deriving Inhabited
def AV.undef:AV:=.bV []
def AV.cells:AV→List AV
 | .agg l=>l
 |v=>[v]
def AV.one:AV→Bool
 | .agg _=>false
 | .bV _=>false
 |_=>true
def Qy {α:Type} (l:List α) (i:Nat):Option α :=
 List.rec (motive:=λ_=>Nat→Option α) (λ_=>none) (λa _ ih i=>Bool.rec (motive:=λ_=>Option α) (ih (Nat.sub i 1)) (some a) (Nat.beq i 0)) l i
def vN {α:Type} (n:Nat) (l:List α):Option (List α) :=
 Nat.rec (motive:=λ_=>List α→Option (List α)) (λ_=>some [])
  (λ_ ih l=>List.rec (motive:=λ_=>Option (List α)) none (λa r _=>Option.rec (motive:=λ_=>Option (List α)) none (λs=>some (a::s)) (ih r)) l) n l
def gK {α:Type} (n:Nat) (l:List α):List α :=
 Nat.rec (motive:=λ_=>List α→List α) (λl=>l) (λ_ ih l=>List.rec (motive:=λ_=>List α) [] (λ_ r _=>ih r) l) n l
def NB {α:Type} (l xs:List α):Option (List α) :=
 List.rec (motive:=λ_=>List α→Option (List α)) (λl=>some l)
  (λx _ ih l=>List.rec (motive:=λ_=>Option (List α)) none (λ_ l _=>Option.rec (motive:=λ_=>Option (List α)) none (λs=>some (x::s)) (ih l)) l) xs l
def Jy {α:Type} (l:List α) (off:Nat) (xs:List α):Option (List α) :=
 Nat.rec (motive:=λ_=>List α→Option (List α)) (λl=>NB l xs)
  (λ_ ih l=>List.rec (motive:=λ_=>Option (List α)) none (λa l _=>Option.rec (motive:=λ_=>Option (List α)) none (λs=>some (a::s)) (ih l)) l) off l
def gC {α:Type} (l:List α):Nat→List α
 | 0=>[]
 |n+1=>l++gC l n
inductive CT where
  |e9 (xs:List AV)
  |tree (n:Nat) (z:List AV) (tr:aO AV)
def JP (z:List AV) (t:aO AV) (i:Nat):Option AV:=Option.rec (motive:=λ_=>Option AV) (Qy z (Nat.mod i z.length)) (λv=>some v) (aO.get t i)
def kg (z:List AV) (t:aO AV) (i:Nat):AV:=match JP z t i with |some v=>v |none=>.undef
def u9 (t:aO AV) (i:Nat) (xs:List AV):aO AV :=
 List.rec (motive:=λ_=>aO AV→Nat→aO AV) (λt _=>t) (λx _ ih t i=>ih (aO.set t i x) (Nat.succ i)) xs t i
def XC (z:List AV) (t:aO AV) (i n:Nat):Option (List AV) :=
 Nat.rec (motive:=λ_=>Nat→Option (List AV)) (λ_=>some [])
  (λ_ ih i=>Option.rec (motive:=λ_=>Option (List AV)) none (λv=>Option.rec (motive:=λ_=>Option (List AV)) none (λs=>some (v::s)) (ih (Nat.succ i))) (JP z t i)) n i
def CT.toList:CT→List AV
 | .e9 xs=>xs
 | .tree n z tr=>(List.range n).map (kg z tr)
def CT.len:CT→Nat
 | .e9 xs=>xs.length
 | .tree n _ _=>n
def CT.fa (c:CT) (i:Nat):Option AV:=match c with
 | .e9 xs=>Qy xs i
 | .tree n z tr=>bif Nat.ble (i+1) n then JP z tr i else none
def CT.iU (c:CT) (off n:Nat):Option (List AV):=match c with
 | .e9 xs=>vN n (gK off xs)
 | .tree m z tr=>bif Nat.beq n 0 then some []else bif Nat.ble (off+n) m then XC z tr off n else none
def CT.write (c:CT) (off:Nat) (xs:List AV):Option CT:=match c with
 | .e9 ys=>(Jy ys off xs).bind λs=>some (.e9 s)
 | .tree n z tr=>bif Nat.ble (off+xs.length) n then some (.tree n z (u9 tr off xs))else none
def CT.ofList (xs:List AV):CT:=bif Nat.ble xs.length 16 then .e9 xs else .tree xs.length [] (u9 .e 0 xs)
def CT.CH (z:List AV) (n:Nat):CT:=bif Nat.ble (z.length*n) 16 then .e9 (gC z n)else .tree (z.length*n) z .e
def CT.iM (c:CT) (xs:List AV):CT:=match c with
 | .e9 ys=>CT.ofList (ys++xs)
 | .tree n z tr=>.tree (n+xs.length) z (u9 tr n xs)
def CT.pre (c:CT) (n:Nat):Option CT:=match c with
 | .e9 ys=>(vN n ys).bind λs=>some (.e9 s)
 | .tree m z tr=>bif Nat.ble n m then some (.tree n z tr)else none
def CT.Hv (c:CT) (off n:Nat):Option CT:=bif Nat.beq off 0 then c.pre n else(c.iU off n).bind λl=>some (CT.ofList l)
inductive AX where
  |normal
  |exit (id:Nat)
  |goto (l:Nat)
  |ret
inductive cV where
  |cells (c:CT) (elem:TypeId) (bn:Bool)
  |dead
  |iter (s:List UInt8) (pos:Nat)
  |loop (st:LoopState) (cj:Option AX) (fn:Nat) (pos L:List Nat) (vs:List AV) (d:Nat)
  |lH
  |pd
  /--cells that are the caller's: some are known,none is written-/
  |dq (t:aO AV)
  /--a map of numbers to numbers: key,value,when it came;the clock-/
  |mp (l:List (Int×Int×Nat)) (clk:Nat)
structure AH where
  nx:Nat
  rc:List (Nat×cV)
  t:aO cV
def VK (l:List (Nat×cV)) (b:Nat) (d:Option cV):Option cV:=List.rec (motive:=λ_=>Option cV) d (λp _ ih=>Bool.rec (motive:=λ_=>Option cV) ih (some p.2) (Nat.beq p.1 b)) l
def O8 (n:Nat) (l:List (Nat×cV)):List (Nat×cV) :=
 Nat.rec (motive:=λ_=>List (Nat×cV)→List (Nat×cV)) (λ_=>[]) (λ_ ih l=>List.rec (motive:=λ_=>List (Nat×cV)) [] (λp r _=>p::ih r) l) n l
def ZB (l:List (Nat×cV)) (t:aO cV):aO cV:=List.rec (motive:=λ_=>aO cV) t (λp _ ih=>aO.set ih p.1 p.2) l
def AH.get (h:AH) (b:Nat):Option cV:=VK h.rc b (aO.get h.t b)
def AH.put (h:AH) (b:Nat) (x:cV):AH:=⟨h.nx,(b,x)::O8 5 h.rc,ZB (gK 5 h.rc) h.t⟩
def AH.new (h:AH) (x:cV):AH:=⟨Nat.succ h.nx,(h.nx,x)::O8 5 h.rc,ZB (gK 5 h.rc) h.t⟩
def UF:Value→Option AV
 | .bool b=>some (.bool b)
 | .int k n=>some (.int k n)
 | .string s=>some (.str s.data.toList)
 | .pointer none=>some .aU
 | .slice none 0 0=>some .ak
 | .nilFunc=>some .dY
 | .nilIface=>some .dl
 |_=>none
def kV {α β:Type} (f:α→Option β):List α→Option (List β)
 |[]=>some []
 |a::r=>(f a).bind λb=>(kV f r).bind λs=>some (b::s)
def DD:Value→Option AV
 | .agg cs=>(kV UF cs.toList).map .agg
 | .tuple cs=>(kV UF cs.toList).map .bV
 | .func (.func f) first cap=>bif first.isEmpty&&cap.isEmpty then some (.fn f [] [])else none
 |v=>UF v
def ev (tm:PT AV):Operand→Option AV
 | .tmp t=>tm.get t
 | .const v=>DD v
 | .global _=>none
 | .func f=>some (.fn f [] [])
def vq (h:AH) (b off n:Nat):Option (List AV) :=
 match h.get b with
 |some (.cells c _ _)=>c.iU off n
 |some (.dq t)=>XC [] t off n
 |_=>none
def jY (l:List AV):Bool:=l.all AV.one
def wW (h:AH) (b off:Nat) (xs:List AV):Option AH :=
 match h.get b with
 |some (.cells c e o)=>bif jY xs then(c.write off xs).bind λc'=>some (h.put b (.cells c' e o))else none
 |_=>none
def aQ (P:Program) (t:TypeId):Option Nat:=(P.info? t).map (·.size)
def dZ (P:Program) (t:TypeId):Option AV:=(P.info? t).bind λi=>i.zero.bind DD
def iq (P:Program) (t:TypeId):Option Bool:=(P.underlying t).map fun | .struct _=>true | .array _ _=>true |_=>false
def Qw (P:Program) (t:TypeId):Option (Option Nat):=(iq P t).bind λa=>bif a then(aQ P t).map some else some none
def vj:List AV→List (Nat×Nat×AV)→Option (List AV)
 |cs,[]=>some cs
 |cs,(o,n,v)::r=>bif Nat.beq v.cells.length n then(Jy cs o v.cells).bind λLh=>vj Lh r else none
def jR (k:IntKind) (n:Int):Int :=
 match k,n with
 | .i64,.ofNat a=>bif Nat.ble a 9223372036854775807 then .ofNat a else IntKind.wrap .i64 (.ofNat a)
 | .i64,.negSucc a=>bif Nat.ble a 9223372036854775807 then .negSucc a else IntKind.wrap .i64 (.negSucc a)
 | .u64,.ofNat a=>.ofNat (a%18446744073709551616)
 | .u64,.negSucc a=>.ofNat (18446744073709551615-a%18446744073709551616)
 | .u8,.ofNat a=>.ofNat (a%256)
 |k,n=>IntKind.wrap k n
def mG:Int→Int→Bool
 | .ofNat a,.ofNat b=>Nat.beq a b
 | .negSucc a,.negSucc b=>Nat.beq a b
 |_,_=>false
def oE:Int→Int→Bool
 | .ofNat a,.ofNat b=>Nat.ble (a+1) b
 | .ofNat _,.negSucc _=>false
 | .negSucc _,.ofNat _=>true
 | .negSucc a,.negSucc b=>Nat.ble (b+1) a
def JL (op:BinOp) (k:IntKind) (x y:Int):Option AV :=
 match op with
 | .add=>some (.int k (jR k (x+y)))
 | .sub=>some (.int k (jR k (x-y)))
 | .mul=>some (.int k (jR k (x*y)))
 | .quo=>bif mG y 0 then none else some (.int k (jR k (x.tdiv y)))
 | .rem=>bif mG y 0 then none else some (.int k (x.tmod y))
 | .and=>some (.int k (k.wrap (BitVec.ofInt k.bits x&&&BitVec.ofInt k.bits y).toNat))
 | .or=>some (.int k (k.wrap (BitVec.ofInt k.bits x|||BitVec.ofInt k.bits y).toNat))
 | .xor=>some (.int k (k.wrap (BitVec.ofInt k.bits x ^^^ BitVec.ofInt k.bits y).toNat))
 | .andNot=>some (.int k (k.wrap (BitVec.ofInt k.bits x&&& ~~~ BitVec.ofInt k.bits y).toNat))
 | .eql=>some (.bool (mG x y))
 | .neq=>some (.bool (!mG x y))
 | .lss=>some (.bool (oE x y))
 | .leq=>some (.bool (!oE y x))
 | .gtr=>some (.bool (oE y x))
 | .geq=>some (.bool (!oE x y))
 | .shl | .shr=>none
def MI (op:BinOp) (k:IntKind) (x y:Int):Option AV :=
 bif oE y 0 then none else
 match op with
 | .shl=>some (.int k (jR k (x*2 ^ (min y.toNat k.bits))))
 | .shr=>some (.int k (x.fdiv (2 ^ (min y.toNat k.bits))))
 |_=>none
def iu:List UInt8→List UInt8→Bool
 |[],[]=>true
 |a::x,b::y=>a==b&&iu x y
 |_,_=>false
def Aa (op:BinOp) (x y:List UInt8):Option AV :=
 match op with
 | .add=>bif Nat.ble (x.length+y.length) 1073741824 then some (.str (x++y))else none
 | .eql=>some (.bool (iu x y))
 | .neq=>some (.bool (!iu x y))
 | .lss=>some (.bool (Op.bytesLess x y))
 | .leq=>some (.bool (Op.bytesLess x y||iu x y))
 | .gtr=>some (.bool (!(Op.bytesLess x y||iu x y)))
 | .geq=>some (.bool (!Op.bytesLess x y))
 |_=>none
inductive EK where
  |bool |int |str |ptr |DE |fn |Hw
def Vh:TypeDesc→Option EK
 | .bool=>some .bool
 | .int _=>some .int
 | .string=>some .str
 | .pointer _=>some .ptr
 | .slice _=>some .DE
 | .func _ _ _=>some .fn
 | .interface _=>some .Hw
 |_=>none
def Ym (d:EK) (x y:AV):Option Bool :=
 match d,x,y with
 | .bool,.bool a,.bool b=>some (a==b)
 | .int,.int k a,.int k' b=>bif k==k' then some (mG a b)else none
 | .str,.str a,.str b=>some (iu a b)
 | .ptr,.aU,.aU=>some true
 | .ptr,.aU,.ptr _ _=>some false
 | .ptr,.ptr _ _,.aU=>some false
 | .DE,.ak,.ak=>some true
 | .DE,.ak,.slice ..=>some false
 | .DE,.slice ..,.ak=>some false
 | .fn,.dY,.dY=>some true
 | .fn,.dY,.fn ..=>some false
 | .fn,.fn ..,.dY=>some false
 | .Hw,.dl,.iface _ _=>some false
 | .Hw,.iface _ _,.dl=>some false
 |_,_,_=>none
inductive ES where
  |mO (k:EK) (o:Nat)
  |len (n:Nat)
def yW:List ES→List AV→List AV→Option Bool
 |[],_,_=>some true
 | .mO d o::r,xs,ys=>(Qy xs o).bind λx=>(Qy ys o).bind λy=>(Ym d x y).bind λe=>bif e then yW r xs ys else some false
 | .len n::r,xs,ys=>bif Nat.ble n xs.length&&Nat.ble n ys.length then yW r xs ys else none
def XN (n:Nat):List ES→Bool
 |[]=>true
 | .mO _ o::r=>Nat.ble (o+1) n&&XN n r
 | .len m::r=>Nat.ble m n&&XN n r
def G4 (c:Nat):List ES→List ES
 |[]=>[]
 | .mO k o::r=>.mO k (c+o)::G4 c r
 | .len m::r=>.len (c+m)::G4 c r
def Yr (P:Program) (nest:List Field→Option (List ES)):List Field→Option (List ES)
 |[]=>some []
 | f :: r => bif f.name == "_" then none else (P.underlying f.type).bind fun u => match u with
  | .struct fs=>(aQ P f.type).bind λn=>bif P.stoodInHeld f.type then none else(nest fs.toList).bind λl1=>bif XN n l1 then(Yr P nest r).map λl2=>.len (f.offset+n)::(G4 f.offset l1++l2)else none
  |u=>(Vh u).bind λk=>match k with
   | .Hw=>none
   |k=>(Yr P nest r).map λl=>.mO k f.offset::l
def gD (P:Program):Nat→List Field→Option (List ES)
 | 0,_=>none
 |d+1,fs=>Yr P (gD P d) fs
abbrev R:=Option (AV×AH)
abbrev CV:=AV→List AV→AH→R
abbrev ob {α:Type} (x:Option α) (k:α→R):R:=match x with |some a=>k a |none=>none
abbrev cE (b:Bool) (x y:R):R:=match b with |true=>x |false=>y
def yc {α:Type} (j:α) (f:α→R):R:=f j
def GM {σ:Type} (N:Nat) (f:(σ→AH→List Nat→R)→σ→AH→List Nat→R):σ→AH→List Nat→R :=
 Nat.rec (motive:=λ_=>σ→AH→List Nat→R) (λ_ _ _=>none) (λ_ ih=>f ih) N
def AV.asBool (v:AV) (f:Bool→R) (d:R):R :=
 AV.rec (motive_1:=λ_=>R) (motive_2:=λ_=>PUnit) (λx0=>f x0) (λ_ _=>d) (λ_=>d) (λ_ _=>d) d (λ_ _ _ _ _=>d) d (λ_ _ _ _ _=>d) (λ_=>d) d (λ_ _ _=>d) d (λ_ _=>d) (λ_ _=>d) (λ_=>d) (λ_ _ _ _=>d) (λ_=>d) ⟨⟩ (λ_ _ _ _=>⟨⟩) v
def AV.asInt (v:AV) (f:IntKind→Int→R) (d:R):R :=
 AV.rec (motive_1:=λ_=>R) (motive_2:=λ_=>PUnit) (λ_=>d) (λx0 x1=>f x0 x1) (λ_=>d) (λ_ _=>d) d (λ_ _ _ _ _=>d) d (λ_ _ _ _ _=>d) (λ_=>d) d (λ_ _ _=>d) d (λ_ _=>d) (λ_ _=>d) (λ_=>d) (λ_ _ _ _=>d) (λ_=>d) ⟨⟩ (λ_ _ _ _=>⟨⟩) v
def AV.oF (v:AV) (f:Nat→Nat→R) (d:R):R :=
 AV.rec (motive_1:=λ_=>R) (motive_2:=λ_=>PUnit) (λ_=>d) (λ_ _=>d) (λ_=>d) (λx0 x1=>f x0 x1) d (λ_ _ _ _ _=>d) d (λ_ _ _ _ _=>d) (λ_=>d) d (λ_ _ _=>d) d (λ_ _=>d) (λ_ _=>d) (λ_=>d) (λ_ _ _ _=>d) (λ_=>d) ⟨⟩ (λ_ _ _ _=>⟨⟩) v
def AV.asSlice (v:AV) (f:Nat→Nat→Nat→Nat→Bool→R) (d:R):R :=
 AV.rec (motive_1:=λ_=>R) (motive_2:=λ_=>PUnit) (λ_=>d) (λ_ _=>d) (λ_=>d) (λ_ _=>d) d (λx0 x1 x2 x3 x4=>f x0 x1 x2 x3 x4) d (λ_ _ _ _ _=>d) (λ_=>d) d (λ_ _ _=>d) d (λ_ _=>d) (λ_ _=>d) (λ_=>d) (λ_ _ _ _=>d) (λ_=>d) ⟨⟩ (λ_ _ _ _=>⟨⟩) v
def AV.asAgg (v:AV) (f:List AV→R) (d:R):R :=
 AV.rec (motive_1:=λ_=>R) (motive_2:=λ_=>PUnit) (λ_=>d) (λ_ _=>d) (λ_=>d) (λ_ _=>d) d (λ_ _ _ _ _=>d) d (λ_ _ _ _ _=>d) (λ_=>d) d (λ_ _ _=>d) d (λx0 _=>f x0) (λ_ _=>d) (λ_=>d) (λ_ _ _ _=>d) (λ_=>d) ⟨⟩ (λ_ _ _ _=>⟨⟩) v
def AV.DF (v:AV) (f:List AV→R) (d:R):R :=
 AV.rec (motive_1:=λ_=>R) (motive_2:=λ_=>PUnit) (λ_=>d) (λ_ _=>d) (λ_=>d) (λ_ _=>d) d (λ_ _ _ _ _=>d) d (λ_ _ _ _ _=>d) (λ_=>d) d (λ_ _ _=>d) d (λ_ _=>d) (λx0 _=>f x0) (λ_=>d) (λ_ _ _ _=>d) (λ_=>d) ⟨⟩ (λ_ _ _ _=>⟨⟩) v
def kn (k:IntKind):Nat:=IntKind.rec (motive:=λ_=>Nat) 0 1 2 3 4 5 6 7 k
def Li (a b:IntKind):Bool:=Nat.beq (kn a) (kn b)
def A9 (t w:Bool):Bool:=Bool.rec (motive:=λ_=>Bool) (Bool.rec (motive:=λ_=>Bool) true false w) (Bool.rec (motive:=λ_=>Bool) false true w) t
def Ba (x y:Int):Int:=Int.rec (motive:=λ_=>Int) (λa=>Int.rec (motive:=λ_=>Int) (λb=>.ofNat (Nat.add a b)) (λb=>Int.add (.ofNat a) (.negSucc b)) y) (λa=>Int.add (.negSucc a) y) x
def Bb (x y:Int):Int:=Int.rec (motive:=λ_=>Int) (λa=>Int.rec (motive:=λ_=>Int) (λb=>Bool.rec (motive:=λ_=>Int) (.negSucc (Nat.sub (Nat.sub b a) 1)) (.ofNat (Nat.sub a b)) (Nat.ble b a)) (λb=>Int.sub (.ofNat a) (.negSucc b)) y) (λa=>Int.sub (.negSucc a) y) x
def Zn (x y:Int):Bool:=Int.rec (motive:=λ_=>Bool) (λa=>Int.rec (motive:=λ_=>Bool) (λb=>Nat.ble (Nat.succ a) b) (λ_=>false) y) (λa=>Int.rec (motive:=λ_=>Bool) (λ_=>true) (λb=>Nat.ble (Nat.succ b) a) y) x
def DG (x y:Int):Bool:=Int.rec (motive:=λ_=>Bool) (λa=>Int.rec (motive:=λ_=>Bool) (λb=>Nat.beq a b) (λ_=>false) y) (λa=>Int.rec (motive:=λ_=>Bool) (λ_=>false) (λb=>Nat.beq a b) y) x
def Bc (b:Bool):Bool:=Bool.rec (motive:=λ_=>Bool) true false b
def DH (k:IntKind) (n:Int) (f:Int→R):R :=
 IntKind.rec (motive:=λ_=>R) (f (jR .i8 n)) (f (jR .i16 n)) (f (jR .i32 n))
  (Int.rec (motive:=λ_=>R) (λa=>Bool.rec (motive:=λ_=>R) (f (jR .i64 (.ofNat a))) (f (.ofNat a)) (Nat.ble a 9223372036854775807)) (λa=>f (jR .i64 (.negSucc a))) n)
  (f (jR .u8 n)) (f (jR .u16 n)) (f (jR .u32 n))
  (Int.rec (motive:=λ_=>R) (λa=>Bool.rec (motive:=λ_=>R) (f (jR .u64 (.ofNat a))) (f (.ofNat a)) (Nat.ble a 18446744073709551615)) (λa=>f (jR .u64 (.negSucc a))) n) k
def Lj (op:BinOp) (k:IntKind) (x y:Int) (f:AV→R):R :=
 BinOp.rec (motive:=λ_=>R) (DH k (Ba x y) λn=>f (.int k n)) (DH k (Bb x y) λn=>f (.int k n)) (ob (JL .mul k x y) f)
  (ob (JL .quo k x y) f) (ob (JL .rem k x y) f) (ob (JL .and k x y) f) (ob (JL .or k x y) f) (ob (JL .xor k x y) f) (ob (JL .shl k x y) f) (ob (JL .shr k x y) f) (ob (JL .andNot k x y) f)
  (f (.bool (DG x y))) (f (.bool (Bc (DG x y)))) (f (.bool (Zn x y))) (f (.bool (Bc (Zn y x)))) (f (.bool (Zn y x))) (f (.bool (Bc (Zn x y)))) op
def xY (v:AV) (a b:R):R:=v.asBool (λt=>Bool.rec (motive:=λ_=>R) b a t) none
def wa (v:AV) (w:Bool) (a b:R):R:=v.asBool (λt=>Bool.rec (motive:=λ_=>R) b a (A9 t w)) b
def gt (c a b:AV) (k:AV→R):R:=c.asBool (λt=>Bool.rec (motive:=λ_=>R) (k b) (k a) t) none
def yF (v:AV) (k:AV→R):R:=match v with | .ptr b o=>k (.ptr b o) | .fn f a c=>k (.fn f a c) | .yield l=>k (.yield l) |_=>none
def jG (v:AV) (off:Nat) (k:AV→R):R:=v.oF (λb o=>k (.ptr b (Nat.add o off))) none
def UE (v:AV) (off:Nat) (k:AV→R):R:=v.asAgg (λcs=>Option.rec (motive:=λ_=>R) none k (Qy cs off)) none
def KW (v:AV) (off n:Nat) (k:AV→R):R:=match v with | .agg cs=>ob (vN n (gK off cs)) λl=>k (.agg l) |_=>none
def gT (v i:AV) (sz:Nat) (k:AV→R):R :=
 v.asSlice (λb off len _ _=>i.asInt (λ_ n=>Int.rec (motive:=λ_=>R) (λa=>Bool.rec (motive:=λ_=>R) none (k (.ptr b (Nat.add off (Nat.mul a sz)))) (Nat.ble (Nat.succ a) len)) (λ_=>none) n) none) none
def Je (v i:AV) (n sz:Nat) (k:AV→R):R:=match v,i with | .ptr b off,.int _ (.ofNat a)=>bif Nat.ble (a+1) n then k (.ptr b (off+a*sz))else none |_,_=>none
def G8 (v i:AV) (n sz:Nat) (k:AV→R):R:=match v,i with | .agg cs,.int _ (.ofNat a)=>bif Nat.ble (a+1) n then ob (Qy cs (a*sz)) k else none |_,_=>none
def KQ (v i:AV) (n sz:Nat) (k:AV→R):R:=match v,i with | .agg cs,.int _ (.ofNat a)=>bif Nat.ble (a+1) n then ob (vN sz (gK (a*sz) cs)) λl=>k (.agg l)else none |_,_=>none
def kw (v i:AV) (k:AV→R):R:=match v,i with | .str s,.int _ (.ofNat a)=>ob (Qy s a) λc=>k (.int .u8 (.ofNat c.toNat)) |_,_=>none
def ja (h:AH) (v:AV) (k:AV→R):R :=
 v.oF (λb off=>Option.rec (motive:=λ_=>R) none (λx=>cV.rec (motive:=λ_=>R) (λc _ _=>Option.rec (motive:=λ_=>R) none k (c.fa off)) none (λ_ _=>none) (λ_ _ _ _ _ _ _=>none) none none (λt=>Option.rec (motive:=λ_=>R) none k (aO.get t off)) (λ_ _=>none) x) (h.get b)) none
def xH (h:AH) (v:AV) (n:Nat) (k:AV→R):R:=v.oF (λb off=>Option.rec (motive:=λ_=>R) none (λl=>k (.agg l)) (vq h b off n)) none
def zx (h:AH) (a x:AV) (n:Nat) (k:AH→R):R:=a.oF (λb off=>Bool.rec (motive:=λ_=>R) none (Option.rec (motive:=λ_=>R) none k (wW h b off x.cells)) (Nat.beq x.cells.length n)) none
def zB (op:BinOp) (x y:AV) (k:AV→R):R:=x.asInt (λk1 a=>y.asInt (λk2 b=>Bool.rec (motive:=λ_=>R) none (Lj op k1 a b k) (Li k1 k2)) none) none
def w5 (op:BinOp) (x y:AV) (k:AV→R):R:=match x,y with | .int k1 a,.int _ b=>ob (MI op k1 a b) k |_,_=>none
def Nb (op:BinOp) (x y:AV) (k:AV→R):R:=match x,y with | .str a,.str b=>ob (Aa op a b) k |_,_=>none
def nY (d:EK) (neg:Bool) (x y:AV) (k:AV→R):R:=ob (Ym d x y) λe=>k (.bool (e !=neg))
def UO (l:List ES) (neg:Bool) (x y:AV) (k:AV→R):R:=match x,y with | .agg a,.agg b=>ob (yW l a b) λe=>k (.bool (e !=neg)) |_,_=>none
def tg (op:UnOp) (x:AV) (k:AV→R):R :=
 match op,x with
 | .neg,.int d n=>k (.int d (jR d (0-n)))
 | .not,.bool b=>k (.bool (!b))
 | .xor,.int d n=>k (.int d (d.wrap (BitVec.ofInt d.bits (if d.signed then-1 else d.max) ^^^ BitVec.ofInt d.bits n).toNat))
 |_,_=>none
def wA (d:IntKind) (x:AV) (k:AV→R):R:=match x with | .int _ n=>k (.int d (jR d n)) |_=>none
def Gr (x:AV) (k:AV→R):R:=match x with | .str s=>k (.str s) |_=>none
def Qz:List AV→Option (List UInt8)
 |[]=>some []
 | .int .u8 (.ofNat n)::r=>(Qz r).bind λs=>some (UInt8.ofNat n::s)
 |_=>none
def GC (h:AH) (x:AV) (k:AV→R):R:=match x with | .ak=>k (.str []) | .slice b off len _ _=>ob (vq h b off len) λcs=>ob (Qz cs) λs=>k (.str s) |_=>none
def Nh (h:AH) (e:TypeId) (x:AV) (k:AV→AH→R):R:=match x with
 | .str s=>bif Nat.ble s.length 1073741824 then k (.slice h.nx 0 s.length 0 true) (h.new (.cells (CT.ofList (s.map λ(c:UInt8)=>.int .u8 (.ofNat c.toNat))) e true))else none
 |_=>none
def tQ (x:AV) (y:Nat):Option Nat:=match x with | .int _ (.ofNat a)=>bif Nat.ble a y then some a else none |_=>none
def vm (x:Option AV) (y Lk:Nat):Option Nat:=match x with |none=>some Lk |some v=>tQ v y
def w6 (v:AV) (lo hi:Option AV) (k:AV→R):R:=match v with
 | .str s=>ob (vm hi s.length s.length) λh=>ob (vm lo h 0) λl=>ob (vN (h-l) (gK l s)) λt=>k (.str t)
 |_=>none
def ve (h:AH) (el:TypeId) (b off sz i0 len:Nat):Bool:=match h.get b with
 |some (.cells c e true)=>Nat.beq el e&&(Nat.ble 1 sz&&(Nat.beq off (i0*sz)&&Nat.ble (off+len*sz) c.len))
 |_=>false
def vW (h:AH) (el:TypeId) (sz:Nat) (v:AV) (lo hi:Option AV) (k:AV→R):R:=match v with
 | .slice b off len cap false=>ob (vm hi cap len) λu=>ob (vm lo u 0) λl=>k (.slice b (bif Nat.beq cap l then off else off+l*sz) (u-l) (cap-l) false)
 | .slice b off len i0 true=>bif ve h el b off sz i0 len then
   ob (vm hi len len) λu=>ob (vm lo u 0) λl=>bif Nat.beq l 0 then k (.slice b off u i0 true)else bif Nat.ble (l+1) len then k (.slice b (off+l*sz) (u-l) (i0+l) true)else k (.tail b off (off+l*sz) (i0+l))
  else none
 | .ak=>ob (vm hi 0 0) λ_=>ob (vm lo 0 0) λ_=>k .ak
 | .ch a=>ob (vm hi 0 0) λ_=>ob (vm lo 0 0) λ_=>k (.ch a)
 |_=>none
def kB (n sz:Nat) (v:AV) (lo hi:Option AV) (k:AV→R):R:=match v with
 | .ptr b off=>ob (vm hi n n) λh=>ob (vm lo h 0) λl=>k (.slice b (bif Nat.beq n l then off else off+l*sz) (h-l) (n-l) false)
 |_=>none
def ym (t:TypeId) (z v:AV) (k:AV→R):R:=match v with
 | .iface u x=>bif Nat.beq u t then k (.bV [x,.bool true])else k (.bV [z,.bool false])
 | .dl=>k (.bV [z,.bool false])
 |_=>none
def JR (t:TypeId) (v:AV) (k:AV→R):R:=match v with | .iface u x=>bif Nat.beq u t then k x else none |_=>none
def yY (v:AV) (i:Nat) (k:AV→R):R:=v.DF (λl=>Option.rec (motive:=λ_=>R) none k (Qy l i)) none
def Jx (v:AV) (k:AV→R):R:=match v with | .slice _ _ len _ _=>k (.int .i64 (.ofNat len)) | .ak=>k (.int .i64 (.ofNat 0)) | .ch _=>k (.int .i64 (.ofNat 0)) | .tail _ _ _ _=>k (.int .i64 (.ofNat 0)) |_=>none
def Xo (v:AV) (k:AV→R):R:=match v with | .str s=>k (.int .i64 (.ofNat s.length)) |_=>none
def DI (mx:Bool):AV→AV→Option AV
 | .int k x,.int k' y=>bif k==k' then some (.int k (bif mx then(bif oE x y then y else x)else(bif oE y x then y else x)))else none
 |_,_=>none
def Bd (mx:Bool):AV→List AV→Option AV
 |a,[]=>some a
 |a,b::r=>(DI mx a b).bind λc=>Bd mx c r
def MU:AV→Bool | .int _ _=>true |_=>false
def pf (mx:Bool) (l:List AV) (k:AV→R):R:=match l with |a::r=>bif MU a then ob (Bd mx a r) k else none |[]=>none
def kF (h:AH) (e:TypeId) (v:AV) (k:AV→AH→R):R:=bif jY v.cells then k (.ptr h.nx 0) (h.new (.cells (CT.ofList v.cells) e false))else none
def vn (z:List AV) (vs:List (Nat×Nat×AV)) (k:AV→R):R:=ob (vj z vs) λl=>k (.agg l)
def vG (h:AH) (e:TypeId) (z:List AV) (len:Nat) (vs:List (Nat×Nat×AV)) (k:AV→AH→R):R :=
 ob (vj (gC z len) vs) λcs=>bif jY cs then k (.slice h.nx 0 len len false) (h.new (.cells (CT.ofList cs) e false))else none
def Ja (h:AH) (e:TypeId) (z:List AV) (l c:AV) (k:AV→AH→R):R:=match l,c with
 | .int _ (.ofNat ln),.int _ (.ofNat cp)=>bif Nat.ble ln cp&&Nat.ble cp 1073741824 then k (.slice h.nx 0 ln cp false) (h.new (.cells (CT.CH z cp) e false))else none
 |_,_=>none
def Qi (h:AH) (sz n:Nat):AV→Option (List AV)
 | .slice b off _ _ _=>vq h b off (n*sz)
 | .ak=>some []
 | .ch _=>bif Nat.beq n 0 then some []else none
 | .tail _ _ _ _=>bif Nat.beq n 0 then some []else none
 | .str s=>(vN n s).map (List.map λ(c:UInt8)=>AV.int .u8 (.ofNat c.toNat))
 |_=>none
def Ju:AV→Option Nat
 | .slice _ _ len _ _=>some len
 | .ak=>some 0
 | .ch _=>some 0
 | .tail _ _ _ _=>some 0
 | .str s=>some s.length
 |_=>none
def Ny (h:AH) (sz n:Nat):AV→Option CT
 | .slice b off _ _ _=>(match h.get b with
  |some (.cells c _ _)=>c.Hv off (n*sz)
  |some (.dq t)=>(XC [] t off (n*sz)).bind λl=>some (CT.ofList l)
  |_=>none)
 | .ak=>some (.e9 [])
 | .ch _=>bif Nat.beq n 0 then some (.e9 [])else none
 | .tail _ _ _ _=>bif Nat.beq n 0 then some (.e9 [])else none
 | .str s=>(vN n s).bind λl=>some (CT.ofList (l.map λ(c:UInt8)=>AV.int .u8 (.ofNat c.toNat)))
 |_=>none
def vi (h:AH) (e:TypeId) (sz:Nat) (s:AV) (n:Nat) (nc:CT) (k:AV→AH→R):R:=match s with
 | .ak=>bif Nat.beq n 0 then k .ak h else bif Nat.ble n 67108864 then k (.slice h.nx 0 n 0 true) (h.new (.cells nc e true))else none
 | .slice b off len cap false=>
  bif Nat.ble (len+n) cap then(bif Nat.beq n 0 then k (.slice b off len cap false) h else ob (wW h b (off+len*sz) nc.toList) λh'=>k (.slice b off (len+n) cap false) h')
  else bif Nat.ble (len+n) 67108864 then ob (vq h b off (len*sz)) λcI=>k (.slice h.nx 0 (len+n) 0 true) (h.new (.cells (bif Nat.beq len 0 then nc else CT.ofList (cI++nc.toList)) e true))
  else none
 | .slice b off len i0 true=>
  match h.get b with
  |some (.cells c e' true)=>
   bif Nat.ble 1 sz&&(Nat.beq off (i0*sz)&&(Nat.beq e e'&&Nat.ble (off+len*sz) c.len))then
    bif Nat.beq n 0 then k (.slice b off len i0 true) h else
    bif Nat.ble (off+(len+n)*sz) c.len then ob (wW h b (off+len*sz) nc.toList) λh'=>k (.slice b off (len+n) i0 true) h'
    else bif Nat.beq i0 0&&(Nat.ble (len+n) 67108864&&jY nc.toList)then
     ob (c.pre (len*sz)) λcI=>k (.slice h.nx 0 (len+n) 0 true) ((h.put b .dead).new (.cells (cI.iM nc.toList) e true))
    else none
   else none
  |_=>none
 |_=>none
def wY (h:AH) (e:TypeId) (sz:Nat) (s x:AV) (k:AV→AH→R):R :=
 ob (Ju x) λn=>ob (Ny h sz n x) λnc=>bif Nat.beq nc.len (n*sz)then vi h e sz s n nc k else none
def Mr (h:AH) (sz:Nat) (d s:AV) (k:AV→AH→R):R :=
 ob (Ju s) λn=>ob (Ju d) λm=>ob (Qi h sz (Nat.min n m) s) λcs=>match d with
  | .slice b off _ _ _=>bif Nat.beq (Nat.min n m) 0 then k (.int .i64 (.ofNat 0)) h else ob (wW h b off cs) λh'=>k (.int .i64 (.ofNat (Nat.min n m))) h'
  | .ak=>k (.int .i64 (.ofNat 0)) h
  |_=>none
def Kk (h:AH) (v:AV) (k:AV→AH→R):R:=match v with | .str s=>k (.ptr h.nx 0) (h.new (.iter s 0)) |_=>none
def QT (x:Int):List (Int×Int×Nat)→Nat→Option (Nat×Int×Nat)
 |[],_=>none
 |e::r,i=>bif mG x e.1 then some (i,e.2)else QT x r (i+1)
def Hx (x:Int):List (Int×Int×Nat)→Nat→Option Nat
 |[],_=>none
 |e::r,i=>bif mG (.ofNat e.2.2) x then some i else Hx x r (i+1)
def yA (y:Int):List (Int×Int×Nat)→Nat→List (Int×Int×Nat)
 |[],_=>[]
 |e::r,0=>(e.1,y,e.2.2)::r
 |e::r,i+1=>e::yA y r i
def XQ (h:AH) (k:AV→AH→R):R:=k (.dp h.nx) (h.new (.mp [] 0))
def NF (h:AH) (v:AV) (k:AV→R):R:=match v with
 | .dp b=>(match h.get b with |some (.mp l _)=>k (.int .i64 (.ofNat l.length)) |_=>none)
 |_=>none
def KZ (h:AH) (v i:AV) (k:AV→R):R:=match v,i with
 | .dp b,.int .i64 x=>(match h.get b with |some (.mp l _)=>(match QT x l 0 with |some e=>k (.int .i64 e.2.1) |none=>k (.int .i64 (.ofNat 0))) |_=>none)
 |_,_=>none
def Vi (h:AH) (v i:AV) (k:AV→AH→R):R:=match v,i with
 | .dp b,.int .i64 x=>(match h.get b with
  |some (.mp l c)=>(match QT x l 0 with |some e=>k (.bV [.int .i64 e.2.1,.int .i64 (.ofNat e.2.2)]) h |none=>k (.bV [.int .i64 (.ofNat 0),.int .i64 (.ofNat c)]) (h.put b (.mp (l++[(x,.ofNat 0,c)]) (c+1))))
  |_=>none)
 |_,_=>none
def Be (h:AH) (v s y:AV) (k:AH→R):R:=match v,s,y with
 | .dp b,.int .i64 x,.int .i64 z=>(match h.get b with
  |some (.mp l c)=>(match Hx x l 0 with |some i=>k (h.put b (.mp (yA z l i) c)) |none=>none)
  |_=>none)
 |_,_,_=>none
def Ma (h:AH) (v i y:AV) (k:AH→R):R:=match v,i,y with
 | .dp b,.int .i64 x,.int .i64 z=>(match h.get b with
  |some (.mp l c)=>(match QT x l 0 with |some e=>k (h.put b (.mp (yA z l e.1) c)) |none=>k (h.put b (.mp (l++[(x,z,c)]) (c+1))))
  |_=>none)
 |_,_,_=>none
def ND (h:AH) (v i:AV) (k:AV→AH→R):R:=match v,i with
 | .dp b,.int .i64 x=>(match h.get b with
  |some (.mp l c)=>(match QT x l 0 with |some e=>k (.bV []) (h.put b (.mp (l.eraseIdx e.1) c)) |none=>k (.bV []) (h.put b (.mp l c)))
  |_=>none)
 |_,_=>none
def Bf (P:Program) (t:TypeId):Bool:=match P.underlying t with
 |some (.map kt et)=>(match P.underlying kt,P.underlying et,dZ P et with |some (.int .i64),some (.int .i64),some (.int .i64 (.ofNat 0))=>true |_,_,_=>false)
 |_=>false
def MY (h:AH) (v:AV) (k:AV→AH→R):R:=match v with
 | .ptr b 0=>(match h.get b with
  |some (.iter s pos)=>bif Nat.ble (pos+1) s.length then
    k (.bV [.bool true,.int .i64 (.ofNat pos),.int .i32 (Utf8.decode ⟨s.toArray⟩ pos).1]) (h.put b (.iter s (pos+(Utf8.decode ⟨s.toArray⟩ pos).2)))
   else k (.bV [.bool false]) h
  |_=>none)
 |_=>none
def ze (c:CV) (f:AV) (a:List AV) (h:AH) (k:AV→AH→R):R:=Option.rec (motive:=λ_=>R) none (λq=>k q.1 q.2) (c f a h)
def U8 (l:List (Nat×Nat)) (t:Nat):Option Nat:=List.rec (motive:=λ_=>Option Nat) none (λp _ ih=>Bool.rec (motive:=λ_=>Option Nat) ih (some p.2) (Nat.beq p.1 t)) l
def vB (c:CV) (l:List (Nat×Nat)) (v:AV) (a:List AV) (h:AH) (k:AV→AH→R):R:=match v with
 | .iface t x=>Option.rec (motive:=λ_=>R) none (λf=>ze c (.fn f [] []) (x::a) h k) (U8 l t)
 |_=>none
def YT (c:CV) (f:AV) (a:List AV) (h:AH) (k:AV→AH→R):R:=match f with | .fn _ _ _=>ze c f a h k |_=>none
def Z5 (P:Program) (name:String) (t:TypeId):Option Nat :=
 (P.info? t).bind λi=>(i.methods.toList.find? (·.name==name)).bind λm=>bif m.path.isEmpty then m.func.bind λg=>bif g.2 then(P.underlying t).bind λd=>(match d with | .pointer _=>some g.1 |_=>none)else none else none
def DJ (P:Program) (name:String):List Nat→List (Nat×Nat)
 |[]=>[]
 |t::r=>match Z5 P name t with |some f=>(t,f)::DJ P name r |none=>DJ P name r
def Ll (P:Program) (name:String):List (Nat×Nat):=DJ P name (List.range P.types.size)
def Ts (P:Program) (t:TypeId) (f:Nat):Option Nat :=
 (P.underlying t).bind fun | .struct fs=>(fs[f]?).bind λg=>(aQ P g.type).bind λsz=>bif Nat.beq sz 0 then none else some g.offset |_=>none
def O9 (P:Program) (t:TypeId) (f:Nat):Option (Nat×Option Nat) :=
 (P.underlying t).bind fun | .struct fs=>(fs[f]?).bind λg=>(Qw P g.type).map λi=>(g.offset,i) |_=>none
def yS (pl:Nat→Option (Nat×Nat)) (r:Operand→Option AV):List (Nat×Operand)→Option (List (Nat×Nat×AV))
 |[]=>some []
 |(i,x)::l=>(pl i).bind λp=>(r x).bind λv=>(yS pl r l).map λs=>(p.1,p.2,v)::s
def QE (P:Program) (fs:List Field):Option (List (Nat×Nat)):=kV (λf=>(aQ P f.type).map λn=>(f.offset,n)) fs
def G3 (r:Operand→Option AV):Option Operand→Option (Option AV)
 |none=>some none
 |some x=>(r x).map some
abbrev DK (P:Program) (op:BinOp) (t:TypeId) (a b:AV) (k:AV→R):R :=
 match op with
 | .shl=>w5 .shl a b k
 | .shr=>w5 .shr a b k
 |op=>ob (P.underlying t) λd=>match d with
  | .int _=>zB op a b k
  | .string=>Nb op a b k
  | .struct fs=>match op with
   | .eql=>cE (P.eqGuardType P.depth t||P.stoodInHeld t) (none) (ob (gD P 8 fs.toList) λl=>UO l false a b k)
   | .neq=>cE (P.eqGuardType P.depth t||P.stoodInHeld t) (none) (ob (gD P 8 fs.toList) λl=>UO l true a b k)
   |_=>none
  |d=>match op with
   | .eql=>ob (Vh d) λe=>nY e false a b k
   | .neq=>ob (Vh d) λe=>nY e true a b k
   |_=>none
abbrev Gb (P:Program) (src dst:TypeId) (v:AV) (h:AH) (k:AV→AH→R):R :=
 ob (P.underlying src) λds=>ob (P.underlying dst) λdd=>match dd with
  | .int d=>(match ds with | .int _=>wA d v λz=>k z h |_=>none)
  | .string=>(match ds with
   | .string=>Gr v λz=>k z h
   | .slice e=>ob (P.underlying e) λde=>(match de with | .int .u8=>GC h v λz=>k z h |_=>none)
   |_=>none)
  | .slice e=>(match ds with
   | .string=>ob (P.underlying e) λde=>(match de with | .int .u8=>ob (aQ P e) λsz=>cE (Nat.beq sz 1) (Nh h e v k) none |_=>none)
   |_=>none)
  |_=>none
def UP (P:Program) (e:TypeId):Option (List AV) :=
 (P.info? e).bind λi=>(dZ P e).bind λz=>bif Nat.beq z.cells.length i.size&&(jY z.cells&&Nat.ble i.bytes 65536)then some z.cells else none
abbrev bc (P:Program) (c:CV) (o:Op) (r:Operand→Option AV) (h:AH) (k:AV→AH→R):R :=
 match o with
 | .move x=>ob (r x) λv=>k v h
 | .assign x=>ob (r x) λv=>k v h
 | .pick a b d=>ob (r a) λva=>ob (r b) λvb=>ob (r d) λvd=>gt va vb vd λz=>k z h
 | .alloc e=>ob (dZ P e) λz=>kF h e z k
 | .box e x=>ob (r x) λv=>kF h e v k
 | .build t parts=>ob (dZ P t) λz=>ob (P.underlying t) λd=>match d with
  | .struct fs=>ob (QE P fs.toList) λpl=>ob (yS (λi=>Qy pl i) r parts.toList) λvs=>vn z.cells vs λv=>k v h
  | .array _ e=>ob (aQ P e) λsz=>ob (yS (λi=>some (i*sz,sz)) r parts.toList) λvs=>vn z.cells vs λv=>k v h
  |_=>none
 | .buildSlice t len parts=>ob (P.underlying t) λd=>match d with
  | .slice e=>ob (UP P e) λz=>cE (Nat.ble (len*z.length) 16777216) (ob (yS (λi=>some (i*z.length,z.length)) r parts.toList) λvs=>vG h e z len vs k) (none)
  |_=>none
 | .load t a=>ob (r a) λv=>ob (Qw P t) λi=>match i with
  |none=>ja h v λz=>k z h
  |some n=>xH h v n λz=>k z h
 | .store t a x=>ob (r a) λva=>ob (r x) λvx=>ob (aQ P t) λn=>zx h va vx n λh'=>k .undef h'
 | .nilCheck x=>ob (r x) λv=>yF v λz=>k z h
 | .binOp op t x y _=>ob (r x) λa=>ob (r y) λb=>DK P op t a b λz=>k z h
 | .unOp op _ x=>ob (r x) λv=>tg op v λz=>k z h
 | .convert s d x=>ob (r x) λv=>Gb P s d v h k
 | .makeInterface t x=>ob (P.underlying t) λd=>match d with
  | .interface _=>none
  |_=>ob (r x) λv=>k (.iface t v) h
 | .makeFunc fn a cp=>match fn with
  | .func f=>ob (kV r a.toList) λva=>ob (kV r cp.toList) λvc=>k (.fn f va vc) h
  |_=>none
 | .makeSlice t l cp=>ob (P.underlying t) λd=>match d with
  | .slice e=>ob (UP P e) λz=>ob (r l) λvl=>ob (r cp) λvc=>Ja h e z vl vc k
  |_=>none
 | .slice t x lo hi mx=>match mx with
  |some _=>none
  |none=>ob (r x) λv=>ob (G3 r lo) λl=>ob (G3 r hi) λu=>ob (P.underlying t) λd=>match d with
   | .string=>w6 v l u λz=>k z h
   | .slice e=>ob (aQ P e) λsz=>vW h e sz v l u λz=>k z h
   | .array n e=>ob (aQ P e) λsz=>kB n sz v l u λz=>k z h
   |_=>none
 | .fieldAddr t x f=>ob (r x) λv=>ob (Ts P t f) λoff=>jG v off λz=>k z h
 | .field t x f=>ob (r x) λv=>ob (O9 P t f) λp=>match p.2 with
  |none=>UE v p.1 λz=>k z h
  |some n=>KW v p.1 n λz=>k z h
 | .indexAddr t x i=>ob (r x) λv=>ob (r i) λj=>ob (P.underlying t) λd=>match d with
  | .slice e=>ob (aQ P e) λsz=>gT v j sz λz=>k z h
  | .array n e=>cE (Nat.ble 2 n) (ob (aQ P e) λsz=>Je v j n sz λz=>k z h) (none)
  |_=>none
 | .index t x i=>ob (r x) λv=>ob (r i) λj=>ob (P.underlying t) λd=>match d with
  | .string=>kw v j λz=>k z h
  | .array n e=>ob (aQ P e) λsz=>ob (iq P e) λg=>cE (g) (KQ v j n sz λz=>k z h) (G8 v j n sz λz=>k z h)
  |_=>none
 | .typeAssert x _ t ok=>ob (r x) λv=>ob (P.underlying t) λd=>match d with
  | .interface _=>none
  |_=>cE (ok) (ob (dZ P t) λz=>ym t z v λy=>k y h) (JR t v λy=>k y h)
 | .extract x i=>ob (r x) λv=>yY v i λz=>k z h
 | .makeMap t hint=>match hint with
  |none=>cE (Bf P t) (XQ h k) none
  |some _=>none
 | .lookup t x i ok=>cE (Bf P t&&!ok) (ob (r x) λv=>ob (r i) λj=>KZ h v j λz=>k z h) none
 | .mapEntry t x i=>cE (Bf P t) (ob (r x) λv=>ob (r i) λj=>Vi h v j k) none
 | .mapUpdate t x s y=>cE (Bf P t) (ob (r x) λv=>ob (r s) λj=>ob (r y) λu=>Ma h v j u λh'=>k .undef h') none
 | .entryStore _ x s y=>ob (r x) λv=>ob (r s) λj=>ob (r y) λu=>Be h v j u λh'=>k .undef h'
 | .range t x=>ob (P.underlying t) λd=>match d with
  | .string=>ob (r x) λv=>Kk h v k
  |_=>none
 | .next it s=>cE (s) (ob (r it) λv=>MY h v k) (none)
 | .call cl=>match cl.callee with
  | .value f=>ob (r f) λvf=>ob (kV r cl.args.toList) λva=>ze c vf va h k
  | .invoke x name=>ob (r x) λv=>ob (kV r cl.args.toList) λva=>vB c (Ll P name) v va h k
  | .builtin b=>match b with
   | .len=>(match cl.args.toList,cl.argTypes.toList with
    |x::_,t::_=>ob (r x) λv=>ob (P.underlying t) λd=>(match d with
     | .string=>Xo v λz=>k z h
     | .array n _=>k (.int .i64 (.ofNat n)) h
     | .slice _=>Jx v λz=>k z h
     | .map _ _=>NF h v λz=>k z h
     |_=>none)
    |_,_=>none)
   | .min=>ob (kV r cl.args.toList) λl=>pf false l λz=>k z h
   | .max=>ob (kV r cl.args.toList) λl=>pf true l λz=>k z h
   | .append=>(match cl.args.toList,cl.argTypes.toList with
    |s::x::[],t::u::_=>ob (P.underlying u) λdu=>(match du with
     | .int _=>none
     |_=>ob (P.underlying t) λd=>(match d with
      | .slice e=>ob (UP P e) λz=>ob (r s) λvs=>ob (r x) λvx=>wY h e z.length vs vx k
      |_=>none))
    |_,_=>none)
   | .copy=>(match cl.args.toList,cl.argTypes.toList with
    |s::x::[],t::_=>ob (P.underlying t) λd=>(match d with
      | .slice e=>ob (aQ P e) λsz=>ob (r s) λvs=>ob (r x) λvx=>Mr h sz vs vx k
      |_=>none)
    |_,_=>none)
   | .delete=>(match cl.args.toList,cl.argTypes.toList with
    |s::x::[],t::_=>cE (Bf P t) (ob (r s) λvs=>ob (r x) λvx=>ND h vs vx k) none
    |_,_=>none)
   |_=>none
 |_=>none
abbrev cM (P:Program) (c:CV) (o:Op) (r:Operand→Option AV) (h:AH):R:=bc P c o r h λv h'=>some (v,h')
def QM (all:List Oper) (o:Oper):Option Nat:=o.guard.bind λg=>(Qy all g.1).bind λp=>p.dst
inductive Pl where
  |z
  |n (L:Option (List Nat)) (a b:Pl)
  |r (Ls:List (List Nat))
def has (tm:PT AV) (t:Nat):Bool:=match tm.get t with |some _=>true |none=>false
abbrev tj:List Nat→Type
 |[]=>Unit
 |_::L=>AV×tj L
def wb:(L:List Nat)→PT AV→tj L
 |[],_=>()
 |t::L,tm=>((match tm.get t with |some v=>v |none=>.undef),wb L tm)
def kM:(L:List Nat)→tj L→PT AV→PT AV
 |[],_,a=>a
 |t::L,s,a=>kM L s.2 (a.set t s.1)
def yv (tm:PT AV):List Nat→Bool
 |[]=>true
 |t::L=>has tm t&&yv tm L
abbrev NZ (n:Nat) (tm:PT AV) (dst:Option Tmp) (v:AV) (k:PT AV→R):R :=
 match dst with
 |none=>k tm
 |some d=>cE (Nat.ble (d+1) n) (k (tm.set d v)) (none)
abbrev CJ (P:Program) (c:CV) (n:Nat):List Oper→PT AV→AH→(PT AV→AH→R)→R
 |[],tm,h,k=>k tm h
 |o::r,tm,h,k=>bc P c o.op (ev tm) h λv h'=>NZ n tm o.dst v λtm'=>CJ P c n r tm' h' k
abbrev Mx (n:Nat):List Oper→PT AV→(PT AV→R)→R
 |[],tm,k=>k tm
 |o::r,tm,k=>NZ n tm o.dst .undef λtm'=>Mx n r tm' k
def writes (d:Nat):List Oper→Bool
 |[]=>false
 |o::r=>(match o.dst with |some t=>Nat.beq t d |none=>false)||writes d r
def Hy (g:Nat×Bool) (o:Oper):Bool:=match o.guard with |some g'=>Nat.beq g.1 g'.1&&g.2==g'.2 |none=>false
def xQ (g:Nat×Bool):List Oper→List Oper×List Oper
 |[]=>([],[])
 |o::r=>bif Hy g o then(o::(xQ g r).1,(xQ g r).2)else([],o::r)
abbrev Gu (P:Program) (c:CV) (n:Nat) (all:List Oper):Nat→List Oper→List (List Nat)→PT AV→AH→(PT AV→AH→R)→R
 |_,[],_,tm,h,k=>k tm h
 | 0,_::_,_,_,_,_=>none
 |f+1,o::r,Ls,tm,h,k=>match o.guard with
  |none=>bc P c o.op (ev tm) h λv h'=>NZ n tm o.dst v λtm'=>Gu P c n all f r Ls tm' h' k
  |some g=>ob (QM all o) λd=>ob (tm.get d) λvg=>
   match Ls with
   |[]=>none
   |L::Ab=>cE (writes d (o::(xQ g r).1)) none (yc (α:=tj L→AH→R) (λs h=>Gu P c n all f (xQ g r).2 Ab (kM L s .e) h k) λJ=>wa vg g.2
     (CJ P c n (o::(xQ g r).1) tm h λtm' h'=>cE (yv tm' L) (J (wb L tm') h') none)
     (Mx n (o::(xQ g r).1) tm λtm'=>cE (yv tm' L) (J (wb L tm') h) none))
mutual
def gE:AV→AV→Bool
 | .bool a,.bool b=>a==b
 | .int k a,.int k' b=>k==k'&&mG a b
 | .str a,.str b=>iu a b
 | .ptr b o,.ptr b' o'=>Nat.beq b b'&&Nat.beq o o'
 | .aU,.aU=>true
 | .slice b o l c p,.slice b' o' l' c' p'=>Nat.beq b b'&&(Nat.beq o o'&&(Nat.beq l l'&&(Nat.beq c c'&&p==p')))
 | .ak,.ak=>true
 | .fn f a c,.fn f' a' c'=>Nat.beq f f'&&(Kb a a'&&Kb c c')
 | .yield l,.yield l'=>Nat.beq l l'
 | .dY,.dY=>true
 | .iface t v,.iface t' v'=>Nat.beq t t'&&gE v v'
 | .dl,.dl=>true
 | .agg l,.agg l'=>Kb l l'
 | .bV l,.bV l'=>Kb l l'
 | .ch a,.ch a'=>decide (a=a')
 | .tail b o o' i,.tail b' p p' j=>Nat.beq b b'&&(Nat.beq o p&&(Nat.beq o' p'&&Nat.beq i j))
 | .dp b,.dp b'=>Nat.beq b b'
 |_,_=>false
def Kb:List AV→List AV→Bool
 |[],[]=>true
 |a::r,b::s=>gE a b&&Kb r s
 |_,_=>false
end
inductive Cls where
  |pure |load |fresh |ed
def la (P:Program):Op→Cls
 | .convert s d _=>match P.underlying d with
  |some (.int _)=>.pure
  |some .string=>match P.underlying s with
   |some .string=>.pure
   |some (.slice _)=>.pure
   |_=>.ed
  |some (.slice _)=>match P.underlying s with
   |some .string=>.fresh
   |_=>.ed
  |_=>.ed
 | .move _ | .assign _ | .pick .. | .build .. | .nilCheck _ | .binOp .. | .unOp .. | .makeInterface .. | .makeFunc .. | .slice .. | .fieldAddr .. | .field .. | .indexAddr .. | .index ..
 | .typeAssert .. | .extract ..=>.pure
 | .load ..=>.load
 | .alloc .. | .box .. | .buildSlice .. | .makeSlice ..=>.fresh
 | .call cl=>match cl.callee with
  | .builtin b=>match b with
   | .len=>(match cl.argTypes.toList with |t::_=>(match P.underlying t with |some (.map _ _)=>.ed |_=>.pure) |[]=>.pure)
   | .min=>.pure
   | .max=>.pure
   |_=>.ed
  |_=>.ed
 |_=>.ed
def z6 (P:Program) (o:Op):Bool:=match la P o with | .ed=>true |_=>false
def V6 (o:Op):Bool:=match o with | .load _ _=>true |_=>false
def JE (P:Program) (o:Op):Bool:=match o with | .slice t _ _ _ _=>(match P.underlying t with |some (.slice _)=>true |_=>false) |_=>false
def QQ (P:Program) (o:Op):Bool:=match o with | .convert s d _=>(match P.underlying d with |some .string=>(match P.underlying s with |some (.slice _)=>true |_=>false) |_=>false) |_=>false
def gg (P:Program) (o:Op):Bool:=V6 o||(JE P o||QQ P o)
def ky:List Oper→Nat→PT Nat→PT Nat
 |[],_,t=>t
 |o::r,j,t=>ky r (j+1) (t.set j (o.after.toList.foldl (λs e=>bif Region.binds .any e then s|||(2 ^ e.on|||(match t.get e.on with |some m=>m |none=>0))else s) 0))
def xq (t:PT Nat) (j:Nat):Nat:=match t.get j with |some m=>m |none=>0
def chain (P:Program) (t:PT Nat):List Oper→Nat→Option Nat→Bool
 |[],_,_=>true
 |o::r,j,last=>bif z6 P o.op then(match last with |none=>true |some i=>Nat.testBit (xq t j) i)&&chain P t r (j+1) (some j)else chain P t r (j+1) last
def bit (t:Nat):Nat:=2 ^ t
def DL:List Nat→Nat
 |[]=>0
 |a::r=>a|||DL r
def Tt:Operand→Nat | .tmp t=>bit t |_=>0
def looks (all:List Oper) (o:Oper):Nat:=DL (o.op.operands.toList.map Tt)|||(match o.guard with |some _=>(match QM all o with |some d=>bit d |none=>0) |none=>0)
def Xe (o:Oper):Nat:=match o.dst with |some d=>bit d |none=>0
structure DM where
  i:Nat
  w:Nat
  l:Nat
def Hz (mk wj lj:Nat):List DM→Bool
 |[]=>true
 |e::r=>(Nat.testBit mk e.i||(Nat.beq (e.w&&&(lj|||wj)) 0&&Nat.beq (wj&&&e.l) 0))&&Hz mk wj lj r
def Qp (j:Nat):List Edge→Bool
 |[]=>true
 |e::r=>(bif Region.binds .any e then Nat.ble (e.on+1) j else true)&&Qp j r
def tS (t:PT Nat) (all:List Oper):List Oper→Nat→List DM→Bool
 |[],_,_=>true
 |o::r,j,es=>Qp j o.after.toList&&(Hz (xq t j) (Xe o) (looks all o) es&&tS t all r (j+1) (⟨j,Xe o,looks all o⟩::es))
def kL (t:PT Nat) (i j:Nat):Bool:=!(Nat.testBit (xq t i) j||Nat.testBit (xq t j) i)
def Ys (P:Program) (t:PT Nat) (i:Nat):List Oper→Nat→Bool
 |[],_=>false
 |o::r,j=>z6 P o.op&&kL t i j||Ys P t i r (j+1)
def Yf (P:Program) (p:Op→Bool) (t:PT Nat) (all:List Oper):List Oper→Nat→Bool
 |[],_=>false
 |o::r,i=>p o.op&&Ys P t i all 0||Yf P p t all r (i+1)
def HK (P:Program) (ops:Array Oper):Bool :=
 tS (ky ops.toList 0 .e) ops.toList ops.toList 0 []&&chain P (ky ops.toList 0 .e) ops.toList 0 none
structure X0 where
  i:Nat
  a:AV
  n:Option Nat
  v:AV
structure Xq where
  j:Nat
  hb:AH
  ha:AH
def xU (a:AV) (n:Option Nat) (v:AV) (h:AH):Bool :=
 match a with
 | .ptr b off=>(match h.get b with
  |some (.cells c _ _)=>(match n with
   |none=>(match c.fa off with |some x=>gE x v |none=>false)
   |some n=>(match c.iU off n with |some l=>gE (.agg l) v |none=>false))
  |some (.dq t)=>(match n with
   |none=>(match aO.get t off with |some x=>gE x v |none=>false)
   |some n=>(match XC [] t off n with |some l=>gE (.agg l) v |none=>false))
  |_=>false)
 | .slice b off len i0 true=>(match n with |some m=>ve h (m/65536) b off (m%65536) i0 len |none=>false)
 | .slice _ _ _ _ false=>true
 | .ak=>true
 | .ch _=>true
 |_=>false
def Lm (a:AV) (nx:Nat):Bool:=match a with | .ptr b _=>Nat.ble (b+1) nx | .slice b _ _ _ true=>Nat.ble (b+1) nx | .slice _ _ _ _ false=>true | .ak=>true | .ch _=>true |_=>false
def tp (a:AV) (n:Option Nat) (v:AV) (hb ha:AH) (nx:Nat):Bool:=match a,n,v with
 | .slice b _ _ _ _,none,.str _=>Nat.ble ha.nx b
 |_,_,_=>xU a n v hb&&(xU a n v ha&&Lm a nx)
def Kh (a:AV) (n:Option Nat) (v:AV) (hb ha:AH) (nx:Nat) (k:R):R:=bif tp a n v hb ha nx then k else none
abbrev DN (t:PT Nat) (i:Nat) (a:AV) (n:Option Nat) (v:AV) (nx:Nat):List Xq→R→R
 |[],k=>k
 |⟨j,hb,ha⟩::r,k=>cE (kL t i j) (Kh a n v hb ha nx (DN t i a n v nx r k)) (DN t i a n v nx r k)
abbrev Zp (t:PT Nat) (hs:List Xq) (nx:Nat):List X0→R→R
 |[],k=>k
 |⟨i,a,n,v⟩::r,k=>DN t i a n v nx hs (Zp t hs nx r k)
def Xt (r:Operand→Option AV):Op→Option AV
 | .load _ a=>r a
 | .slice _ x _ _ _=>r x
 | .convert _ _ x=>r x
 |_=>none
def kZ (P:Program):Op→Option Nat
 | .load t _=>match Qw P t with |some i=>i |none=>none
 | .slice t _ _ _ _=>match P.underlying t with
  |some (.slice e)=>(match aQ P e with |some sz=>bif Nat.ble (sz+1) 65536 then some (e*65536+sz)else none |none=>none)
  |_=>none
 |_=>none
def OO:List (Nat×Bool×Bool)→Nat→Bool→Option Bool
 |[],_,_=>none
 |x::r,d,w=>bif Nat.beq x.1 d&&(x.2.1==w)then some x.2.2 else bif Nat.beq x.1 d&&x.2.2 then some false else OO r d w
def Bh (dst:Option Tmp) (d:Nat):Bool:=match dst with |some t=>Nat.beq t d |none=>false
def cZ (dst:Option Tmp):List (Nat×Bool×Bool)→List (Nat×Bool×Bool)
 |[]=>[]
 |x::r=>bif Bh dst x.1 then cZ dst r else x::cZ dst r
abbrev Tu (o:Option Bool) (v:AV) (w:Bool) (a b:R):R:=match o with |some true=>a |some false=>b |none=>wa v w a b
abbrev Kd (P:Program) (c:CV) (n:Nat) (all:List Oper):List Oper→Nat→List (Nat×Bool×Bool)→PT AV→AH→List X0→List Xq→(PT AV→AH→List X0→List Xq→R)→R
 |[],_,_,tm,h,ls,hs,k=>k tm h ls hs
 |o::r,j,kn,tm,h,ls,hs,k=>
  match o.guard with
  |none=>bc P c o.op (ev tm) h λv h'=>NZ n tm o.dst v λtm'=>cE (gg P o.op) (ob (Xt (ev tm) o.op) λa=>Kd P c n all r (j+1) (cZ o.dst kn) tm' h' (⟨j,a,kZ P o.op,v⟩::ls) hs k) (cE (z6 P o.op) (Kd P c n all r (j+1) (cZ o.dst kn) tm' h' ls (⟨j,h,h'⟩::hs) k) (Kd P c n all r (j+1) (cZ o.dst kn) tm' h' ls hs k))
  |some g=>ob (QM all o) λd=>ob (tm.get d) λvg=>Tu (OO kn d g.2) vg g.2
   (bc P c o.op (ev tm) h λv h'=>NZ n tm o.dst v λtm'=>
    cE (gg P o.op) (ob (Xt (ev tm) o.op) λa=>Kd P c n all r (j+1) (cZ o.dst ((d,g.2,true)::kn)) tm' h' (⟨j,a,kZ P o.op,v⟩::ls) hs k) (cE (z6 P o.op) (Kd P c n all r (j+1) (cZ o.dst ((d,g.2,true)::kn)) tm' h' ls (⟨j,h,h'⟩::hs) k) (Kd P c n all r (j+1) (cZ o.dst ((d,g.2,true)::kn)) tm' h' ls hs k)))
   (NZ n tm o.dst .undef λtm'=>Kd P c n all r (j+1) (cZ o.dst ((d,g.2,false)::kn)) tm' h ls hs k)
abbrev Ln (P:Program) (c:CV) (n:Nat) (ops:Array Oper) (Ls:List (List Nat)) (tm:PT AV) (h:AH) (k:PT AV→AH→R):R :=
 cE (HK P ops) ((cE (Yf P (gg P) (ky ops.toList 0 .e) ops.toList ops.toList 0) (match Ls with
   |[]=>none
   |L::_=>yc (α:=tj L→AH→R) (λs h=>k (kM L s .e) h)
     λJ=>Kd P c n ops.toList ops.toList 0 [] tm h [] [] λtm' h' ls hs=>Zp (ky ops.toList 0 .e) hs h.nx ls (cE (yv tm' L) (J (wb L tm') h') (none))) (Gu P c n ops.toList ops.toList.length ops.toList Ls tm h k))) (none)
def YD (h:AH) (l:Nat) (k:AH→R):R:=match h.get l with
 |some (.loop .ready cj f p L vs d)=>k (h.put l (.loop .busy cj f p L vs d))
 |_=>none
def yI (h:AH) (l:Nat) (j:Option AX):R:=match h.get l with
 |some (.loop _ _ f p L vs d)=>(match j with
  |none=>some (.bool true,h.put l (.loop .ready none f p L vs d))
  |some x=>some (.bool false,h.put l (.loop .done (some x) f p L vs d)))
 |_=>none
def wQ (h:AH) (l:Nat) (k:Option AX→AH→R):R:=match h.get l with
 |some (.loop st cj f p L vs d)=>(match st with
  | .busy=>none
  |_=>k cj (h.put l (.loop .exhausted cj f p L vs d)))
 |_=>none
def CK:AX→AX→Bool
 | .normal,.normal=>true
 | .ret,.ret=>true
 | .exit a,.exit b=>Nat.beq a b
 | .goto a,.goto b=>Nat.beq a b
 |_,_=>false
def CM (p:Option AX) (x:AX) (a b:R):R:=match p with |some y=>bif CK y x then a else b |none=>b
def GN (p:Option AX) (a b:R):R:=match p with |none=>a |some _=>b
def Yy:Code→List Nat→List AX
 | .seq a b,l=>Yy a l++Yy b l
 | .cond _ a b,l=>Yy a l++Yy b l
 | .block id a,l=>Yy a (id::l)
 | .loop a,l=>Yy a l
 | .rangeFunc _ _ _ b,l=>Yy b l
 | .exit id,l=>bif l.contains id then[]else[.exit id]
 | .ret,_=>[.ret]
 |_,_=>[]
abbrev Vc (p:Option AX) (k:AX→R):List AX→R
 |[]=>none
 |x::r=>CM p x (k x) (Vc p k r)
def HL (h:AH) (l:Nat) (k:Nat→R):R:=match h.get l with |some (.loop _ _ _ _ _ _ d)=>k d |_=>none
def kf:(L:List Nat)→PT AV→List AV
 |[],_=>[]
 |t::L,tm=>(match tm.get t with |some v=>v |none=>.undef)::kf L tm
def nZ:Pl→Pl | .n _ a _=>a |_=>.z
def Ac:Pl→Pl | .n _ _ b=>b |_=>.z
def Ad:Pl→Option (List Nat) | .n L _ _=>L |_=>none
def HM:Pl→List (List Nat) | .r l=>l |_=>[]
abbrev wE (P:Program) (N:Nat) (c:CV) (f n:Nat) (rd:Option Nat):Code→List Nat→Pl→PT AV→AH→List Nat→(AX→PT AV→AH→List Nat→R)→R
  | .skip,_,_,tm,h,ds,k=>k .normal tm h ds
  | .region _ ops d,_,pl,tm,h,ds,k=>cE (d) (Ln P c n ops (HM pl) tm h λtm h=>k .normal tm h ds) (Gu P c n ops.toList ops.toList.length ops.toList (HM pl) tm h λtm h=>k .normal tm h ds)
  | .seq a b,pos,pl,tm,h,ds,k=>match Ad pl with
    | some L => yc (α := tj L → AH → List Nat → R)
        (λs h ds=>wE P N c f n rd b (pos++[1]) (Ac pl) (kM L s .e) h ds k)
        λJ=>wE P N c f n rd a (pos++[0]) (nZ pl) tm h ds λx tm' h ds=>match x with
          | .normal=>cE (yv tm' L) (J (wb L tm') h ds) (none) |x=>k x tm' h ds
    |none=>wE P N c f n rd a (pos++[0]) (nZ pl) tm h ds λx tm' h ds=>match x with
      | .normal=>wE P N c f n rd b (pos++[1]) (Ac pl) tm' h ds k
      |x=>k x tm' h ds
  | .cond o a b,pos,pl,tm,h,ds,k=>ob (ev tm o) λv=>xY v (wE P N c f n rd a (pos++[0]) (nZ pl) tm h ds k) (wE P N c f n rd b (pos++[1]) (Ac pl) tm h ds k)
  | .block id a,pos,pl,tm,h,ds,k=>match Ad pl with
    | some L => yc (α := tj L → AH → List Nat → R)
        (λs h ds=>k .normal (kM L s .e) h ds)
        λJ=>wE P N c f n rd a (pos++[0]) (nZ pl) tm h ds λx tm' h ds=>match x with
          | .normal=>cE (yv tm' L) (J (wb L tm') h ds) (none) | .exit i=>cE (Nat.beq i id) ((cE (yv tm' L) (J (wb L tm') h ds) (none))) (k (.exit i) tm' h ds) |x=>k x tm' h ds
    |none=>wE P N c f n rd a (pos++[0]) (nZ pl) tm h ds λx tm' h ds=>match x with
      | .exit i=>cE (Nat.beq i id) (k .normal tm' h ds) (k (.exit i) tm' h ds)
      |x=>k x tm' h ds
  | .loop a,pos,pl,tm,h,ds,k=>match Ad pl with
    | some L => cE (yv tm L) (GM (σ := tj L) N
        (λih s h ds=>wE P N c f n rd a (pos++[0]) (nZ pl) (kM L s .e) h ds λx tm' h ds=>match x with
          | .normal=>cE (yv tm' L) (ih (wb L tm') h ds) (none) |x=>k x tm' h ds)
        (wb L tm) h ds) (none)
    |none=>none
  | .exit id,_,_,tm,h,ds,k=>k (.exit id) tm h ds
  | .label _,_,_,tm,h,ds,k=>k .normal tm h ds
  | .goto l,_,_,tm,h,ds,k=>k (.goto l) tm h ds
  | .ret,_,_,tm,h,ds,k=>k .ret tm h ds
  | .rangeFunc g _ _ body,pos,pl,tm,h,ds,k=>ob (ev tm g) λvf=>match Ad pl with
    |none=>none
    | some L => cE (yv tm L) ((fun (go : Nat → AH → List Nat → R) => match rd with
       |none=>go h.nx (h.new .lH) (h.nx::ds)
       |some l0=>HL h l0 λd=>go d h ds)
      λd h1 ds1=>YT c vf [.yield h1.nx] (h1.new (.loop .ready none f pos L (kf L tm) d)) λ_ h2=>
        wQ h2 h1.nx λp h3=>GN p (k .normal tm h3 ds1) (Vc p (λx=>k x tm h3 ds1) (Yy body []))) (none)
  |_,_,_,_,_,_,_=>none
def xL:List Nat→AH→(AH→R)→R
 |[],h,k=>k h
 |d::r,h,k=>match h.get d with
  |some .lH=>xL r (h.put d .pd) k
  |_=>none
def CN:List AV→Nat→PT AV→PT AV
 |[],_,t=>t
 |a::r,i,t=>CN r (i+1) (t.set i a)
abbrev MQ (P:Program) (tm:PT AV) (h:AH):List ResultVar→(List AV→R)→R
 |[],k=>k []
 |x::r,k=>match x with
  | .tmp t=>ob (tm.get t) λv=>MQ P tm h r λl=>k (v::l)
  | .cell a t=>ob (tm.get a) λva=>ob (Qw P t) λi=>match i with
   |none=>ja h va λv=>MQ P tm h r λl=>k (v::l)
   |some n=>xH h va n λv=>MQ P tm h r λl=>k (v::l)
def lM (l:List AV):AV:=match l with |[v]=>v |l=>.bV l
abbrev xh (P:Program) (N:Nat) (pl:Pl) (c:CV) (f:FuncId) (args:List AV) (h:AH):R :=
 ob (P.funcs[f]?) λfn=>ob fn.body λb=>
  wE P N c f fn.ntmps none b [] pl (CN args 0 .e) h [] λx tm h ds=>match x with
   | .normal=>xL ds h λh'=>MQ P tm h' fn.results.toList λl=>some (lM l,h')
   | .ret=>xL ds h λh'=>MQ P tm h' fn.results.toList λl=>some (lM l,h')
   |_=>none
def xF:Code→List Nat→Option Code
 |c,[]=>some c
 | .seq a b,i::p=>bif Nat.beq i 0 then xF a p else xF b p
 | .cond _ a b,i::p=>bif Nat.beq i 0 then xF a p else xF b p
 | .block _ a,_::p=>xF a p
 | .loop a,_::p=>xF a p
 | .rangeFunc _ _ a b,i::p=>bif Nat.beq i 0 then xF a p else xF b p
 |_,_::_=>none
abbrev HO:List Tmp→List AV→Nat→PT AV→(PT AV→R)→R
 |[],[],_,t,k=>k t
 |p::ps,v::vs,n,t,k=>cE (Nat.ble (p+1) n) (HO ps vs n (t.set p v) k) (none)
 |_,_,_,_,_=>none
abbrev tT:List Nat→List AV→PT AV→(PT AV→R)→R
 |[],[],t,k=>k t
 |x::L,v::vs,t,k=>tT L vs (t.set x v) k
 |_,_,_,_=>none
abbrev NR (P:Program) (N:Nat) (pl:Pl) (c:CV) (f:FuncId) (pos L:List Nat) (l:Nat) (vs args:List AV) (h:AH):R :=
 ob (P.funcs[f]?) λfn=>ob fn.body λb=>ob (xF b pos) λs=>match s with
  | .rangeFunc _ ps assign body=>tT L vs .e λLo=>HO ps.toList args fn.ntmps Lo λtm=>
   wE P N c f fn.ntmps (some l) assign (pos++[0]) (nZ pl) tm h [] λx tm h ds=>match x with
    | .normal=>YD h l λh=>wE P N c f fn.ntmps (some l) body (pos++[1]) (Ac pl) tm h ds λx _ h _=>match x with
     | .normal=>yI h l none
     |x=>yI h l (some x)
    |_=>none
  |_=>none
def NN:Nat:=1000000000
abbrev WF:=CV→List AV→AH→R
abbrev VF:=CV→Nat→List AV→List AV→AH→R
def hZ (P:Program) (f:Nat) (w:WF):Prop:=∀c l h r,w c l h=some r→∃pl,xh P NN pl c f l h=some r
def DO (P:Program) (f:Nat) (pos L:List Nat) (w:VF):Prop:=∀c l x y h r,w c l x y h=some r→∃pl,NR P NN pl c f pos L l x y h=some r
structure RT where
  f:Nat
  pos:List Nat
  L:List Nat
  run:VF
def KY:List Nat→List Nat→Bool
 |[],[]=>true
 |a::x,b::y=>Nat.beq a b&&KY x y
 |_,_=>false
def Gm:List RT→Nat→List Nat→List Nat→Option VF
 |[],_,_,_=>none
 |x::r,f,pos,L=>bif Nat.beq x.f f&&(KY x.pos pos&&KY x.L L)then some x.run else Gm r f pos L
inductive BT where
  |no
  |leaf (f:Nat) (w:WF)
  |node (m:Nat) (l r:BT)
def BT.get (t:BT) (f:Nat):Option WF :=
 BT.rec (motive:=λ_=>Option WF) none (λg w=>Bool.rec (motive:=λ_=>Option WF) none (some w) (Nat.beq g f)) (λm _ _ l r=>Bool.rec (motive:=λ_=>Option WF) r l (Nat.ble f m)) t
def BT.all (p:Nat→WF→Prop):BT→Prop
 | .no=>True
 | .leaf f w=>p f w
 | .node _ l r=>l.all p∧r.all p
def BT.fs:BT→List Nat
 | .no=>[]
 | .leaf f _=>[f]
 | .node _ l r=>l.fs++r.fs
def callT (tab:BT) (rt:List RT) (k:Nat):CV :=
 Nat.rec (motive:=λ_=>CV) (λ_ _ _=>none) (λ_ ih v args h=>match v with
  | .fn f first cap=>Option.rec (motive:=λ_=>R) none (λg=>g ih (first++args++cap) h) (BT.get tab f)
  | .yield l=>(match h.get l with
   |some (.loop .ready _ f pos L vs _)=>(match Gm rt f pos L with |some g=>g ih l vs args h |none=>none)
   |_=>none)
  |_=>none) k
def isTrue (r:R):Bool:=match r with |some (.bool true,_)=>true |_=>false
def AH.empty:AH:=⟨0,[],.e⟩
end
end Go.Ae
namespace Go.Ae
open Go
noncomputable section
theorem pLn {h:AH} {k:AH→R}:xL [] h k=k h:=rfl
structure tR (x:R) where
 val:R
 property:x=val:=by conv=>lhs;reduce;try dsimp only[pLn]
abbrev CO (P:Program) (pl:Pl) (f:Nat):Type:=(c:CV)→(h:AH)→tR (xh P NN pl c f [] h)
abbrev CP {P:Program} {pl:Pl} {f:Nat} (S:CO P pl f):WF:=λc l h=>match l with |[]=>(S c h).1 |_=>none
theorem Lp {P:Program} {pl:Pl} {f:Nat} (S:CO P pl f):hZ P f (CP S):=by
 intro c l h r e;unfold CP at e
 split at e
 ·exact⟨pl,(S ..).2.trans e⟩
 ·cases e
abbrev aY (P:Program) (pl:Pl) (f:Nat):Type:=(c:CV)→(a0:AV)→(h:AH)→tR (xh P NN pl c f [a0] h)
abbrev aZ {P:Program} {pl:Pl} {f:Nat} (S:aY P pl f):WF:=λc l h=>match l with |[a0]=>(S c a0 h).1 |_=>none
theorem bf {P:Program} {pl:Pl} {f:Nat} (S:aY P pl f):hZ P f (aZ S):=by
 intro c l h r e;unfold aZ at e
 split at e
 ·exact⟨pl,(S ..).2.trans e⟩
 ·cases e
abbrev bN (P:Program) (pl:Pl) (f:Nat):Type:=(c:CV)→(a0 a1:AV)→(h:AH)→tR (xh P NN pl c f [a0,a1] h)
abbrev bM {P:Program} {pl:Pl} {f:Nat} (S:bN P pl f):WF:=λc l h=>match l with |[a0,a1]=>(S c a0 a1 h).1 |_=>none
theorem bR {P:Program} {pl:Pl} {f:Nat} (S:bN P pl f):hZ P f (bM S):=by
 intro c l h r e;unfold bM at e
 split at e
 ·exact⟨pl,(S ..).2.trans e⟩
 ·cases e
abbrev dh (P:Program) (pl:Pl) (f:Nat):Type:=(c:CV)→(a0 a1 a2:AV)→(h:AH)→tR (xh P NN pl c f [a0,a1,a2] h)
abbrev da {P:Program} {pl:Pl} {f:Nat} (S:dh P pl f):WF:=λc l h=>match l with |[a0,a1,a2]=>(S c a0 a1 a2 h).1 |_=>none
theorem dx {P:Program} {pl:Pl} {f:Nat} (S:dh P pl f):hZ P f (da S):=by
 intro c l h r e;unfold da at e
 split at e
 ·exact⟨pl,(S ..).2.trans e⟩
 ·cases e
abbrev lN (P:Program) (pl:Pl) (f:Nat):Type:=(c:CV)→(a0 a1 a2 a3:AV)→(h:AH)→tR (xh P NN pl c f [a0,a1,a2,a3] h)
abbrev lf {P:Program} {pl:Pl} {f:Nat} (S:lN P pl f):WF:=λc l h=>match l with |[a0,a1,a2,a3]=>(S c a0 a1 a2 a3 h).1 |_=>none
theorem mH {P:Program} {pl:Pl} {f:Nat} (S:lN P pl f):hZ P f (lf S):=by
 intro c l h r e;unfold lf at e
 split at e
 ·exact⟨pl,(S ..).2.trans e⟩
 ·cases e
abbrev rz (P:Program) (pl:Pl) (f:Nat):Type:=(c:CV)→(a0 a1 a2 a3 a4:AV)→(h:AH)→tR (xh P NN pl c f [a0,a1,a2,a3,a4] h)
abbrev rA {P:Program} {pl:Pl} {f:Nat} (S:rz P pl f):WF:=λc l h=>match l with |[a0,a1,a2,a3,a4]=>(S c a0 a1 a2 a3 a4 h).1 |_=>none
theorem Af {P:Program} {pl:Pl} {f:Nat} (S:rz P pl f):hZ P f (rA S):=by
 intro c l h r e;unfold rA at e
 split at e
 ·exact⟨pl,(S ..).2.trans e⟩
 ·cases e
abbrev HQ (P:Program) (pl:Pl) (f:Nat):Type:=(c:CV)→(a0 a1 a2 a3 a4 a5 a6:AV)→(h:AH)→tR (xh P NN pl c f [a0,a1,a2,a3,a4,a5,a6] h)
abbrev HR {P:Program} {pl:Pl} {f:Nat} (S:HQ P pl f):WF:=λc l h=>match l with |[a0,a1,a2,a3,a4,a5,a6]=>(S c a0 a1 a2 a3 a4 a5 a6 h).1 |_=>none
theorem tO7 {P:Program} {pl:Pl} {f:Nat} (S:HQ P pl f):hZ P f (HR S):=by
 intro c l h r e;unfold HR at e
 split at e
 ·exact⟨pl,(S ..).2.trans e⟩
 ·cases e
end
end Go.Ae
namespace Go.Ae
open Go
noncomputable section
abbrev Ia (S:CV→AH→R):WF:=λc l h=>match l with |[]=>S c  h |_=>none
theorem Tv {P:Program} {f:Nat} {pl:Pl} {S:CV→AH→R} (q:∀(c:CV) (h:AH),xh P NN pl c f [] h=S c  h):hZ P f (Ia S):=by
 intro c l h r e;unfold Ia at e
 split at e
 ·exact⟨pl,by rw[q];exact e⟩
 ·cases e
abbrev Ag (S:CV→AV→AH→R):WF:=λc l h=>match l with |[a0]=>S c a0 h |_=>none
theorem Uf {P:Program} {f:Nat} {pl:Pl} {S:CV→AV→AH→R} (q:∀(c:CV) (a0:AV) (h:AH),xh P NN pl c f [a0] h=S c a0 h):hZ P f (Ag S):=by
 intro c l h r e;unfold Ag at e
 split at e
 ·exact⟨pl,by rw[q];exact e⟩
 ·cases e
abbrev DP (S:CV→AV→AV→AH→R):WF:=λc l h=>match l with |[a0,a1]=>S c a0 a1 h |_=>none
theorem Lq {P:Program} {f:Nat} {pl:Pl} {S:CV→AV→AV→AH→R} (q:∀(c:CV) (a0 a1:AV) (h:AH),xh P NN pl c f [a0,a1] h=S c a0 a1 h):hZ P f (DP S):=by
 intro c l h r e;unfold DP at e
 split at e
 ·exact⟨pl,by rw[q];exact e⟩
 ·cases e
abbrev Lr (S:CV→AV→AV→AV→AV→AH→R):WF:=λc l h=>match l with |[a0,a1,a2,a3]=>S c a0 a1 a2 a3 h |_=>none
theorem jXt {P:Program} {f:Nat} {pl:Pl} {S:CV→AV→AV→AV→AV→AH→R} (q:∀(c:CV) (a0 a1 a2 a3:AV) (h:AH),xh P NN pl c f [a0,a1,a2,a3] h=S c a0 a1 a2 a3 h):hZ P f (Lr S):=by
 intro c l h r e;unfold Lr at e
 split at e
 ·exact⟨pl,by rw[q];exact e⟩
 ·cases e
abbrev Lt (S:CV→AV→AV→AV→AV→AV→AH→R):WF:=λc l h=>match l with |[a0,a1,a2,a3,a4]=>S c a0 a1 a2 a3 a4 h |_=>none
theorem jKm {P:Program} {f:Nat} {pl:Pl} {S:CV→AV→AV→AV→AV→AV→AH→R} (q:∀(c:CV) (a0 a1 a2 a3 a4:AV) (h:AH),xh P NN pl c f [a0,a1,a2,a3,a4] h=S c a0 a1 a2 a3 a4 h):hZ P f (Lt S):=by
 intro c l h r e;unfold Lt at e
 split at e
 ·exact⟨pl,by rw[q];exact e⟩
 ·cases e
end
end Go.Ae
abbrev Go.Ae.iI (n:Nat):Go.Ae.AV:=.int .i64 (.ofNat n)
abbrev Go.Ae.uU (n:Nat):Go.Ae.AV:=.int .u64 (.ofNat n)
namespace Go.Ae
abbrev iQ:=@if_neg
abbrev iJ:=@if_pos
theorem iZ {n:Nat}:Int.ofNat n=(n:Int):=rfl
abbrev iX:=@List.mem_cons_of_mem
abbrev iK:=@List.mem_cons_self
abbrev iV:=@decide_eq_false
abbrev iG:=@decide_eq_true
abbrev iW:=@List.getElem?_eq_getElem
abbrev iY:=@Nat.ble_eq_true_of_le
abbrev iA:=@List.eq_nil_of_length_eq_zero
end Go.Ae
