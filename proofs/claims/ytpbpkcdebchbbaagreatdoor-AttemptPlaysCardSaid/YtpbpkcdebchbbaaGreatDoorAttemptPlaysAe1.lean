/- The abstract executor of the program's form in Lean, shown sound: values, heaps, operations, code: plain definitions. -/
import Derived.CallsIn
import Derived.OrdersIn
import Derived.Eval
import Derived.RangeFuncIn
import Derived.RangeFuncLeaves
import Derived.Still
import Derived.Lib.ItoaNum
theorem Go.Ae.aA {P : Prop} (h : P :=by simp) : P :=h
theorem Go.Ae.od {P : Prop} (h : P :=by decide) : P :=h
theorem Go.Ae.omQ {P : Prop} (h : P :=by omega) : P :=h
namespace Go.Ae
noncomputable section
def gtab : List (String × IntKind × List Int) := [("internal/strconv.uint64pow10", IntKind.u64, Lib.pow10Tab)]
inductive PT (α:Type) where
  |e
  |n (l:PT α) (v:Option α) (r:PT α)
def PT.get {α:Type} (t:PT α) (i:Nat):Option α :=
 PT.rec (motive:=λ_=>Nat→Option α) (λ_=>none)
  (λ_ v _ l r i=>Bool.rec (motive:=λ_=>Option α) (Bool.rec (motive:=λ_=>Option α) (r (Nat.sub (Nat.div i 2) 1)) (l (Nat.div i 2)) (Nat.beq (Nat.mod i 2) 1)) v (Nat.beq i 0)) t i
def PT.ic {α:Type} (f:Nat) (t:PT α) (i:Nat) (x:α):PT α :=
 Nat.rec (motive:=λ_=>PT α→Nat→PT α) (λ_ _=>.e)
  (λ_ ih t i=>PT.rec (motive:=λ_=>PT α)
   (Bool.rec (motive:=λ_=>PT α) (Bool.rec (motive:=λ_=>PT α) (.n .e none (ih .e (Nat.sub (Nat.div i 2) 1))) (.n (ih .e (Nat.div i 2)) none .e) (Nat.beq (Nat.mod i 2) 1)) (.n .e (some x) .e) (Nat.beq i 0))
   (λl v r _ _=>Bool.rec (motive:=λ_=>PT α) (Bool.rec (motive:=λ_=>PT α) (.n l v (ih r (Nat.sub (Nat.div i 2) 1))) (.n (ih l (Nat.div i 2)) v r) (Nat.beq (Nat.mod i 2) 1)) (.n l (some x) r) (Nat.beq i 0)) t) f t i
def PT.set {α:Type} (t:PT α) (i:Nat) (x:α):PT α:=PT.ic (i+1) t i x
def PT.mH {α:Type} (i m:Nat) (t:PT α):PT α:=PT.rec (motive:=λ_=>PT α) .e (λl _ r _ _=>Bool.rec (motive:=λ_=>PT α) r l (Nat.beq (Nat.land i m) 0)) t
def PT.leaf {α:Type} (t:PT α):Option α:=PT.rec (motive:=λ_=>Option α) none (λ_ v _ _ _=>v) t
def PT.sub {α:Type} (i m:Nat) (f:PT α→PT α) (t:PT α):PT α :=
 PT.rec (motive:=λ_=>PT α) (Bool.rec (motive:=λ_=>PT α) (.n .e none (f .e)) (.n (f .e) none .e) (Nat.beq (Nat.land i m) 0))
  (λl v r _ _=>Bool.rec (motive:=λ_=>PT α) (.n l v (f r)) (.n (f l) v r) (Nat.beq (Nat.land i m) 0)) t
def PT.mark {α:Type} (x:α) (t:PT α):PT α:=PT.rec (motive:=λ_=>PT α) (.n .e (some x) .e) (λl _ r _ _=>.n l (some x) r) t
def PT.lW {α:Type} (t:PT α) (i:Nat):Option α:=PT.leaf (PT.mH i 1 (PT.mH i 2 (PT.mH i 4 (PT.mH i 8 (PT.mH i 16 (PT.mH i 32 (PT.mH i 64 (PT.mH i 128 (PT.mH i 256 (PT.mH i 512 (PT.mH i 1024 (PT.mH i 2048 (t)))))))))))))
def PT.oO {α:Type} (t:PT α) (i:Nat) (x:α):PT α:=PT.sub i 2048 (PT.sub i 1024 (PT.sub i 512 (PT.sub i 256 (PT.sub i 128 (PT.sub i 64 (PT.sub i 32 (PT.sub i 16 (PT.sub i 8 (PT.sub i 4 (PT.sub i 2 (PT.sub i 1 (PT.mark x)))))))))))) t
abbrev aE (α:Type):=PT (PT α)
def aE.get {α:Type} (t:aE α) (i:Nat):Option α:=Option.rec (motive:=λ_=>Option α) none (λs=>PT.lW s i) (PT.get t (Nat.div i 4096))
def aE.set {α:Type} (t:aE α) (i:Nat) (x:α):aE α:=PT.set t (Nat.div i 4096) (PT.oO (Option.rec (motive:=λ_=>PT α) .e (λs=>s) (PT.get t (Nat.div i 4096))) i x)
inductive AV where
  |bool (b:Bool)
  |int (k:IntKind) (n:Int)
  |str (s:List UInt8)
  |ptr (b off:Nat)
  |au
  /--opn: the room is that of the block,less 'cap' elements ahead;else the room is 'cap'-/
  |slice (b off len cap:Nat) (ay:Bool)
  |ad
  |fn (f:FuncId) (first cap:List AV)
  |yield (l:Nat)
  |ei
  |iface (t:TypeId) (v:AV)
  |cN
  |agg (l:List AV)
  |bm (l:List AV)
  /--an empty slice without room,wherever it points-/
  |bX (a:Addr)
  /--an empty slice behind all that an open block's slice shows: where it points hangs on the room-/
  |tail (b off pL i1:Nat)
  /--a map of the walk's own-/
  |eO (b:Nat)
  deriving Inhabited
def AV.undef:AV:=.bm []
def AV.cells:AV→List AV
 | .agg l=>l
 |v=>[v]
def AV.one:AV→Bool
 | .agg _=>false
 | .bm _=>false
 |_=>true
def wm {α:Type} (l:List α) (i:Nat):Option α :=
 List.rec (motive:=λ_=>Nat→Option α) (λ_=>none) (λa _ ih i=>Bool.rec (motive:=λ_=>Option α) (ih (Nat.sub i 1)) (some a) (Nat.beq i 0)) l i
def vE {α:Type} (n:Nat) (l:List α):Option (List α) :=
 Nat.rec (motive:=λ_=>List α→Option (List α)) (λ_=>some [])
  (λ_ ih l=>List.rec (motive:=λ_=>Option (List α)) none (λa r _=>Option.rec (motive:=λ_=>Option (List α)) none (λs=>some (a::s)) (ih r)) l) n l
def vh {α:Type} (n:Nat) (l:List α):List α :=
 Nat.rec (motive:=λ_=>List α→List α) (λl=>l) (λ_ ih l=>List.rec (motive:=λ_=>List α) [] (λ_ r _=>ih r) l) n l
def Ve {α:Type} (l xs:List α):Option (List α) :=
 List.rec (motive:=λ_=>List α→Option (List α)) (λl=>some l)
  (λx _ ih l=>List.rec (motive:=λ_=>Option (List α)) none (λ_ l _=>Option.rec (motive:=λ_=>Option (List α)) none (λs=>some (x::s)) (ih l)) l) xs l
def QU {α:Type} (l:List α) (off:Nat) (xs:List α):Option (List α) :=
 Nat.rec (motive:=λ_=>List α→Option (List α)) (λl=>Ve l xs)
  (λ_ ih l=>List.rec (motive:=λ_=>Option (List α)) none (λa l _=>Option.rec (motive:=λ_=>Option (List α)) none (λs=>some (a::s)) (ih l)) l) off l
def gA {α:Type} (l:List α):Nat→List α
 | 0=>[]
 |n+1=>l++gA l n
inductive CT where
  |ff (xs:List AV)
  |tree (n:Nat) (z:List AV) (tr:aE AV)
def Qm (z:List AV) (t:aE AV) (i:Nat):Option AV:=Option.rec (motive:=λ_=>Option AV) (wm z (Nat.mod i z.length)) (λv=>some v) (aE.get t i)
def wD (z:List AV) (t:aE AV) (i:Nat):AV:=match Qm z t i with |some v=>v |none=>.undef
def ZS (t:aE AV) (i:Nat) (xs:List AV):aE AV :=
 List.rec (motive:=λ_=>aE AV→Nat→aE AV) (λt _=>t) (λx _ ih t i=>ih (aE.set t i x) (Nat.succ i)) xs t i
def JC (z:List AV) (t:aE AV) (i n:Nat):Option (List AV) :=
 Nat.rec (motive:=λ_=>Nat→Option (List AV)) (λ_=>some [])
  (λ_ ih i=>Option.rec (motive:=λ_=>Option (List AV)) none (λv=>Option.rec (motive:=λ_=>Option (List AV)) none (λs=>some (v::s)) (ih (Nat.succ i))) (Qm z t i)) n i
def CT.toList:CT→List AV
 | .ff xs=>xs
 | .tree n z tr=>(List.range n).map (wD z tr)
def CT.len:CT→Nat
 | .ff xs=>xs.length
 | .tree n _ _=>n
def CT.fg (c:CT) (i:Nat):Option AV:=match c with
 | .ff xs=>wm xs i
 | .tree n z tr=>bif Nat.ble (i+1) n then Qm z tr i else none
def CT.iO (c:CT) (off n:Nat):Option (List AV):=match c with
 | .ff xs=>vE n (vh off xs)
 | .tree m z tr=>bif Nat.beq n 0 then some []else bif Nat.ble (off+n) m then JC z tr off n else none
def CT.write (c:CT) (off:Nat) (xs:List AV):Option CT:=match c with
 | .ff ys=>(QU ys off xs).bind λs=>some (.ff s)
 | .tree n z tr=>bif Nat.ble (off+xs.length) n then some (.tree n z (ZS tr off xs))else none
def CT.ofList (xs:List AV):CT:=bif Nat.ble xs.length 16 then .ff xs else .tree xs.length [] (ZS .e 0 xs)
def CT.C3 (z:List AV) (n:Nat):CT:=bif Nat.ble (z.length*n) 16 then .ff (gA z n)else .tree (z.length*n) z .e
def CT.ix (c:CT) (xs:List AV):CT:=match c with
 | .ff ys=>CT.ofList (ys++xs)
 | .tree n z tr=>.tree (n+xs.length) z (ZS tr n xs)
def CT.pre (c:CT) (n:Nat):Option CT:=match c with
 | .ff ys=>(vE n ys).bind λs=>some (.ff s)
 | .tree m z tr=>bif Nat.ble n m then some (.tree n z tr)else none
def CT.Ib (c:CT) (off n:Nat):Option CT:=bif Nat.beq off 0 then c.pre n else(c.iO off n).bind λl=>some (CT.ofList l)
inductive AX where
  |normal
  |exit (id:Nat)
  |goto (l:Nat)
  |ret
inductive cK where
  |cells (c:CT) (elem:TypeId) (ay:Bool)
  |dead
  |iter (s:List UInt8) (pos:Nat)
  |loop (st:LoopState) (bT:Option AX) (fn:Nat) (pos L:List Nat) (vs:List AV) (d:Nat)
  |lI
  |pM
  /--cells that are the caller's: some are known,none is written-/
  |cO (t:aE AV)
  /--a map of numbers to numbers: key,value,when it came;the clock-/
  |mp (l:List (Int×Int×Nat)) (clk:Nat)
structure AH where
  nx:Nat
  rc:List (Nat×cK)
  t:aE cK
def Kr (l:List (Nat×cK)) (b:Nat) (d:Option cK):Option cK:=List.rec (motive:=λ_=>Option cK) d (λp _ ih=>Bool.rec (motive:=λ_=>Option cK) ih (some p.2) (Nat.beq p.1 b)) l
def M6 (n:Nat) (l:List (Nat×cK)):List (Nat×cK) :=
 Nat.rec (motive:=λ_=>List (Nat×cK)→List (Nat×cK)) (λ_=>[]) (λ_ ih l=>List.rec (motive:=λ_=>List (Nat×cK)) [] (λp r _=>p::ih r) l) n l
def Nw (l:List (Nat×cK)) (t:aE cK):aE cK:=List.rec (motive:=λ_=>aE cK) t (λp _ ih=>aE.set ih p.1 p.2) l
def AH.get (h:AH) (b:Nat):Option cK:=Kr h.rc b (aE.get h.t b)
def AH.put (h:AH) (b:Nat) (x:cK):AH:=⟨h.nx,(b,x)::M6 5 h.rc,Nw (vh 5 h.rc) h.t⟩
def AH.new (h:AH) (x:cK):AH:=⟨Nat.succ h.nx,(h.nx,x)::M6 5 h.rc,Nw (vh 5 h.rc) h.t⟩
def KV:Value→Option AV
 | .bool b=>some (.bool b)
 | .int k n=>some (.int k n)
 | .string s=>some (.str s.data.toList)
 | .pointer none=>some .au
 | .slice none 0 0=>some .ad
 | .nilFunc=>some .ei
 | .nilIface=>some .cN
 |_=>none
def ww {α β:Type} (f:α→Option β):List α→Option (List β)
 |[]=>some []
 |a::r=>(f a).bind λb=>(ww f r).bind λs=>some (b::s)
def Vv:Value→Option AV
 | .agg cs=>(ww KV cs.toList).map .agg
 | .tuple cs=>(ww KV cs.toList).map .bm
 | .func (.func f) first cap=>bif first.isEmpty&&cap.isEmpty then some (.fn f [] [])else none
 |v=>KV v
def ev (tm:PT AV):Operand→Option AV
 | .tmp t=>tm.get t
 | .const v=>Vv v
 | .global _=>none
 | .func f=>some (.fn f [] [])
def vK (h:AH) (b off n:Nat):Option (List AV) :=
 match h.get b with
 |some (.cells c _ _)=>c.iO off n
 |some (.cO t)=>JC [] t off n
 |_=>none
def jV (l:List AV):Bool:=l.all AV.one
def wx (h:AH) (b off:Nat) (xs:List AV):Option AH :=
 match h.get b with
 |some (.cells c e o)=>bif jV xs then(c.write off xs).bind λc'=>some (h.put b (.cells c' e o))else none
 |_=>none
def aM (P:Program) (t:TypeId):Option Nat:=(P.info? t).map (·.size)
def fo (P:Program) (t:TypeId):Option AV:=(P.info? t).bind λi=>i.zero.bind Vv
def ie (P:Program) (t:TypeId):Option Bool:=(P.underlying t).map fun | .struct _=>true | .array _ _=>true |_=>false
def kE (P:Program) (t:TypeId):Option (Option Nat):=(ie P t).bind λa=>bif a then(aM P t).map some else some none
def vG:List AV→List (Nat×Nat×AV)→Option (List AV)
 |cs,[]=>some cs
 |cs,(o,n,v)::r=>bif Nat.beq v.cells.length n then(QU cs o v.cells).bind λLi=>vG Li r else none
def zC (k:IntKind) (n:Int):Int :=
 match k,n with
 | .i64,.ofNat a=>bif Nat.ble a 9223372036854775807 then .ofNat a else IntKind.wrap .i64 (.ofNat a)
 | .i64,.negSucc a=>bif Nat.ble a 9223372036854775807 then .negSucc a else IntKind.wrap .i64 (.negSucc a)
 | .u64,.ofNat a=>.ofNat (a%18446744073709551616)
 | .u64,.negSucc a=>.ofNat (18446744073709551615-a%18446744073709551616)
 | .u8,.ofNat a=>.ofNat (a%256)
 |k,n=>IntKind.wrap k n
def eV:Int→Int→Bool
 | .ofNat a,.ofNat b=>Nat.beq a b
 | .negSucc a,.negSucc b=>Nat.beq a b
 |_,_=>false
def oP:Int→Int→Bool
 | .ofNat a,.ofNat b=>Nat.ble (a+1) b
 | .ofNat _,.negSucc _=>false
 | .negSucc _,.ofNat _=>true
 | .negSucc a,.negSucc b=>Nat.ble (b+1) a
def QH (op:BinOp) (k:IntKind) (x y:Int):Option AV :=
 match op with
 | .add=>some (.int k (zC k (x+y)))
 | .sub=>some (.int k (zC k (x-y)))
 | .mul=>some (.int k (zC k (x*y)))
 | .quo=>bif eV y 0 then none else some (.int k (zC k (x.tdiv y)))
 | .rem=>bif eV y 0 then none else some (.int k (x.tmod y))
 | .and=>some (.int k (k.wrap (BitVec.ofInt k.bits x&&&BitVec.ofInt k.bits y).toNat))
 | .or=>some (.int k (k.wrap (BitVec.ofInt k.bits x|||BitVec.ofInt k.bits y).toNat))
 | .xor=>some (.int k (k.wrap (BitVec.ofInt k.bits x ^^^ BitVec.ofInt k.bits y).toNat))
 | .andNot=>some (.int k (k.wrap (BitVec.ofInt k.bits x&&& ~~~ BitVec.ofInt k.bits y).toNat))
 | .eql=>some (.bool (eV x y))
 | .neq=>some (.bool (!eV x y))
 | .lss=>some (.bool (oP x y))
 | .leq=>some (.bool (!oP y x))
 | .gtr=>some (.bool (oP y x))
 | .geq=>some (.bool (!oP x y))
 | .shl | .shr=>none
def N3 (op:BinOp) (k:IntKind) (x y:Int):Option AV :=
 bif oP y 0 then none else
 match op with
 | .shl=>some (.int k (zC k (x*2 ^ (min y.toNat k.bits))))
 | .shr=>some (.int k (x.fdiv (2 ^ (min y.toNat k.bits))))
 |_=>none
def ig:List UInt8→List UInt8→Bool
 |[],[]=>true
 |a::x,b::y=>a==b&&ig x y
 |_,_=>false
def ZC (op:BinOp) (x y:List UInt8):Option AV :=
 match op with
 | .add=>bif Nat.ble (x.length+y.length) 1073741824 then some (.str (x++y))else none
 | .eql=>some (.bool (ig x y))
 | .neq=>some (.bool (!ig x y))
 | .lss=>some (.bool (Op.bytesLess x y))
 | .leq=>some (.bool (Op.bytesLess x y||ig x y))
 | .gtr=>some (.bool (!(Op.bytesLess x y||ig x y)))
 | .geq=>some (.bool (!Op.bytesLess x y))
 |_=>none
inductive EK where
  |bool |int |str |ptr |DW |fn |Ic
def UE:TypeDesc→Option EK
 | .bool=>some .bool
 | .int _=>some .int
 | .string=>some .str
 | .pointer _=>some .ptr
 | .slice _=>some .DW
 | .func _ _ _=>some .fn
 | .interface _=>some .Ic
 |_=>none
def Xh (d:EK) (x y:AV):Option Bool :=
 match d,x,y with
 | .bool,.bool a,.bool b=>some (a==b)
 | .int,.int k a,.int k' b=>bif k==k' then some (eV a b)else none
 | .str,.str a,.str b=>some (ig a b)
 | .ptr,.au,.au=>some true
 | .ptr,.au,.ptr _ _=>some false
 | .ptr,.ptr _ _,.au=>some false
 | .DW,.ad,.ad=>some true
 | .DW,.ad,.slice ..=>some false
 | .DW,.slice ..,.ad=>some false
 | .fn,.ei,.ei=>some true
 | .fn,.ei,.fn ..=>some false
 | .fn,.fn ..,.ei=>some false
 | .Ic,.cN,.iface _ _=>some false
 | .Ic,.iface _ _,.cN=>some false
 |_,_,_=>none
inductive ES where
  |b6 (k:EK) (o:Nat)
  |len (n:Nat)
def xk:List ES→List AV→List AV→Option Bool
 |[],_,_=>some true
 | .b6 d o::r,xs,ys=>(wm xs o).bind λx=>(wm ys o).bind λy=>(Xh d x y).bind λe=>bif e then xk r xs ys else some false
 | .len n::r,xs,ys=>bif Nat.ble n xs.length&&Nat.ble n ys.length then xk r xs ys else none
def JM (n:Nat):List ES→Bool
 |[]=>true
 | .b6 _ o::r=>Nat.ble (o+1) n&&JM n r
 | .len m::r=>Nat.ble m n&&JM n r
def Ym (c:Nat):List ES→List ES
 |[]=>[]
 | .b6 k o::r=>.b6 k (c+o)::Ym c r
 | .len m::r=>.len (c+m)::Ym c r
def Xm (P:Program) (nest:List Field→Option (List ES)):List Field→Option (List ES)
 |[]=>some []
 | f :: r => bif f.name == "_" then none else (P.underlying f.type).bind fun u => match u with
  | .struct fs=>(aM P f.type).bind λn=>bif P.stoodInHeld f.type then none else(nest fs.toList).bind λl1=>bif JM n l1 then(Xm P nest r).map λl2=>.len (f.offset+n)::(Ym f.offset l1++l2)else none
  |u=>(UE u).bind λk=>match k with
   | .Ic=>none
   |k=>(Xm P nest r).map λl=>.b6 k f.offset::l
def vu (P:Program):Nat→List Field→Option (List ES)
 | 0,_=>none
 |d+1,fs=>Xm P (vu P d) fs
abbrev R:=Option (AV×AH)
abbrev CV:=AV→List AV→AH→R
abbrev ob {α:Type} (x:Option α) (k:α→R):R:=match x with |some a=>k a |none=>none
abbrev cJ (b:Bool) (x y:R):R:=match b with |true=>x |false=>y
def zg {α:Type} (j:α) (f:α→R):R:=f j
def wN {σ:Type} (N:Nat) (f:(σ→AH→List Nat→R)→σ→AH→List Nat→R):σ→AH→List Nat→R :=
 Nat.rec (motive:=λ_=>σ→AH→List Nat→R) (λ_ _ _=>none) (λ_ ih=>f ih) N
def AV.asBool (v:AV) (f:Bool→R) (d:R):R :=
 AV.rec (motive_1:=λ_=>R) (motive_2:=λ_=>PUnit) (λx0=>f x0) (λ_ _=>d) (λ_=>d) (λ_ _=>d) d (λ_ _ _ _ _=>d) d (λ_ _ _ _ _=>d) (λ_=>d) d (λ_ _ _=>d) d (λ_ _=>d) (λ_ _=>d) (λ_=>d) (λ_ _ _ _=>d) (λ_=>d) ⟨⟩ (λ_ _ _ _=>⟨⟩) v
def AV.asInt (v:AV) (f:IntKind→Int→R) (d:R):R :=
 AV.rec (motive_1:=λ_=>R) (motive_2:=λ_=>PUnit) (λ_=>d) (λx0 x1=>f x0 x1) (λ_=>d) (λ_ _=>d) d (λ_ _ _ _ _=>d) d (λ_ _ _ _ _=>d) (λ_=>d) d (λ_ _ _=>d) d (λ_ _=>d) (λ_ _=>d) (λ_=>d) (λ_ _ _ _=>d) (λ_=>d) ⟨⟩ (λ_ _ _ _=>⟨⟩) v
def AV.oQ (v:AV) (f:Nat→Nat→R) (d:R):R :=
 AV.rec (motive_1:=λ_=>R) (motive_2:=λ_=>PUnit) (λ_=>d) (λ_ _=>d) (λ_=>d) (λx0 x1=>f x0 x1) d (λ_ _ _ _ _=>d) d (λ_ _ _ _ _=>d) (λ_=>d) d (λ_ _ _=>d) d (λ_ _=>d) (λ_ _=>d) (λ_=>d) (λ_ _ _ _=>d) (λ_=>d) ⟨⟩ (λ_ _ _ _=>⟨⟩) v
def AV.asSlice (v:AV) (f:Nat→Nat→Nat→Nat→Bool→R) (d:R):R :=
 AV.rec (motive_1:=λ_=>R) (motive_2:=λ_=>PUnit) (λ_=>d) (λ_ _=>d) (λ_=>d) (λ_ _=>d) d (λx0 x1 x2 x3 x4=>f x0 x1 x2 x3 x4) d (λ_ _ _ _ _=>d) (λ_=>d) d (λ_ _ _=>d) d (λ_ _=>d) (λ_ _=>d) (λ_=>d) (λ_ _ _ _=>d) (λ_=>d) ⟨⟩ (λ_ _ _ _=>⟨⟩) v
def AV.asAgg (v:AV) (f:List AV→R) (d:R):R :=
 AV.rec (motive_1:=λ_=>R) (motive_2:=λ_=>PUnit) (λ_=>d) (λ_ _=>d) (λ_=>d) (λ_ _=>d) d (λ_ _ _ _ _=>d) d (λ_ _ _ _ _=>d) (λ_=>d) d (λ_ _ _=>d) d (λx0 _=>f x0) (λ_ _=>d) (λ_=>d) (λ_ _ _ _=>d) (λ_=>d) ⟨⟩ (λ_ _ _ _=>⟨⟩) v
def AV.DX (v:AV) (f:List AV→R) (d:R):R :=
 AV.rec (motive_1:=λ_=>R) (motive_2:=λ_=>PUnit) (λ_=>d) (λ_ _=>d) (λ_=>d) (λ_ _=>d) d (λ_ _ _ _ _=>d) d (λ_ _ _ _ _=>d) (λ_=>d) d (λ_ _ _=>d) d (λ_ _=>d) (λx0 _=>f x0) (λ_=>d) (λ_ _ _ _=>d) (λ_=>d) ⟨⟩ (λ_ _ _ _=>⟨⟩) v
def kn (k:IntKind):Nat:=IntKind.rec (motive:=λ_=>Nat) 0 1 2 3 4 5 6 7 k
def Lj (a b:IntKind):Bool:=Nat.beq (kn a) (kn b)
def Bg (t w:Bool):Bool:=Bool.rec (motive:=λ_=>Bool) (Bool.rec (motive:=λ_=>Bool) true false w) (Bool.rec (motive:=λ_=>Bool) false true w) t
def Bh (x y:Int):Int:=Int.rec (motive:=λ_=>Int) (λa=>Int.rec (motive:=λ_=>Int) (λb=>.ofNat (Nat.add a b)) (λb=>Int.add (.ofNat a) (.negSucc b)) y) (λa=>Int.add (.negSucc a) y) x
def Bi (x y:Int):Int:=Int.rec (motive:=λ_=>Int) (λa=>Int.rec (motive:=λ_=>Int) (λb=>Bool.rec (motive:=λ_=>Int) (.negSucc (Nat.sub (Nat.sub b a) 1)) (.ofNat (Nat.sub a b)) (Nat.ble b a)) (λb=>Int.sub (.ofNat a) (.negSucc b)) y) (λa=>Int.sub (.negSucc a) y) x
def Nh (x y:Int):Bool:=Int.rec (motive:=λ_=>Bool) (λa=>Int.rec (motive:=λ_=>Bool) (λb=>Nat.ble (Nat.succ a) b) (λ_=>false) y) (λa=>Int.rec (motive:=λ_=>Bool) (λ_=>true) (λb=>Nat.ble (Nat.succ b) a) y) x
def DY (x y:Int):Bool:=Int.rec (motive:=λ_=>Bool) (λa=>Int.rec (motive:=λ_=>Bool) (λb=>Nat.beq a b) (λ_=>false) y) (λa=>Int.rec (motive:=λ_=>Bool) (λ_=>false) (λb=>Nat.beq a b) y) x
def Bj (b:Bool):Bool:=Bool.rec (motive:=λ_=>Bool) true false b
def DZ (k:IntKind) (n:Int) (f:Int→R):R :=
 IntKind.rec (motive:=λ_=>R) (f (zC .i8 n)) (f (zC .i16 n)) (f (zC .i32 n))
  (Int.rec (motive:=λ_=>R) (λa=>Bool.rec (motive:=λ_=>R) (f (zC .i64 (.ofNat a))) (f (.ofNat a)) (Nat.ble a 9223372036854775807)) (λa=>f (zC .i64 (.negSucc a))) n)
  (f (zC .u8 n)) (f (zC .u16 n)) (f (zC .u32 n))
  (Int.rec (motive:=λ_=>R) (λa=>Bool.rec (motive:=λ_=>R) (f (zC .u64 (.ofNat a))) (f (.ofNat a)) (Nat.ble a 18446744073709551615)) (λa=>f (zC .u64 (.negSucc a))) n) k
def Lk (op:BinOp) (k:IntKind) (x y:Int) (f:AV→R):R :=
 BinOp.rec (motive:=λ_=>R) (DZ k (Bh x y) λn=>f (.int k n)) (DZ k (Bi x y) λn=>f (.int k n)) (ob (QH .mul k x y) f)
  (ob (QH .quo k x y) f) (ob (QH .rem k x y) f) (ob (QH .and k x y) f) (ob (QH .or k x y) f) (ob (QH .xor k x y) f) (ob (QH .shl k x y) f) (ob (QH .shr k x y) f) (ob (QH .andNot k x y) f)
  (f (.bool (DY x y))) (f (.bool (Bj (DY x y)))) (f (.bool (Nh x y))) (f (.bool (Bj (Nh y x)))) (f (.bool (Nh y x))) (f (.bool (Bj (Nh x y)))) op
def jw (v:AV) (a b:R):R:=v.asBool (λt=>Bool.rec (motive:=λ_=>R) b a t) none
def xe (v:AV) (w:Bool) (a b:R):R:=v.asBool (λt=>Bool.rec (motive:=λ_=>R) b a (Bg t w)) b
def zo (c a b:AV) (k:AV→R):R:=c.asBool (λt=>Bool.rec (motive:=λ_=>R) (k b) (k a) t) none
def jo (v:AV) (k:AV→R):R:=match v with | .ptr b o=>k (.ptr b o) | .fn f a c=>k (.fn f a c) | .yield l=>k (.yield l) |_=>none
def qI (v:AV) (off:Nat) (k:AV→R):R:=v.oQ (λb o=>k (.ptr b (Nat.add o off))) none
def Xk (v:AV) (off:Nat) (k:AV→R):R:=v.asAgg (λcs=>Option.rec (motive:=λ_=>R) none k (wm cs off)) none
def Xa (v:AV) (off n:Nat) (k:AV→R):R:=match v with | .agg cs=>ob (vE n (vh off cs)) λl=>k (.agg l) |_=>none
def xy (v i:AV) (sz:Nat) (k:AV→R):R :=
 v.asSlice (λb off len _ _=>i.asInt (λ_ n=>Int.rec (motive:=λ_=>R) (λa=>Bool.rec (motive:=λ_=>R) none (k (.ptr b (Nat.add off (Nat.mul a sz)))) (Nat.ble (Nat.succ a) len)) (λ_=>none) n) none) none
def gp (v i:AV) (n sz:Nat) (k:AV→R):R:=match v,i with | .ptr b off,.int _ (.ofNat a)=>bif Nat.ble (a+1) n then k (.ptr b (off+a*sz))else none |_,_=>none
def QM (v i:AV) (n sz:Nat) (k:AV→R):R:=match v,i with | .agg cs,.int _ (.ofNat a)=>bif Nat.ble (a+1) n then ob (wm cs (a*sz)) k else none |_,_=>none
def XH (v i:AV) (n sz:Nat) (k:AV→R):R:=match v,i with | .agg cs,.int _ (.ofNat a)=>bif Nat.ble (a+1) n then ob (vE sz (vh (a*sz) cs)) λl=>k (.agg l)else none |_,_=>none
def gR (v i:AV) (k:AV→R):R:=match v,i with | .str s,.int _ (.ofNat a)=>ob (wm s a) λc=>k (.int .u8 (.ofNat c.toNat)) |_,_=>none
def ql (h:AH) (v:AV) (k:AV→R):R :=
 v.oQ (λb off=>Option.rec (motive:=λ_=>R) none (λx=>cK.rec (motive:=λ_=>R) (λc _ _=>Option.rec (motive:=λ_=>R) none k (c.fg off)) none (λ_ _=>none) (λ_ _ _ _ _ _ _=>none) none none (λt=>Option.rec (motive:=λ_=>R) none k (aE.get t off)) (λ_ _=>none) x) (h.get b)) none
def q8 (h:AH) (v:AV) (n:Nat) (k:AV→R):R:=v.oQ (λb off=>Option.rec (motive:=λ_=>R) none (λl=>k (.agg l)) (vK h b off n)) none
def qn (h:AH) (a x:AV) (n:Nat) (k:AH→R):R:=a.oQ (λb off=>Bool.rec (motive:=λ_=>R) none (Option.rec (motive:=λ_=>R) none k (wx h b off x.cells)) (Nat.beq x.cells.length n)) none
def jY (op:BinOp) (x y:AV) (k:AV→R):R:=x.asInt (λk1 a=>y.asInt (λk2 b=>Bool.rec (motive:=λ_=>R) none (Lk op k1 a b k) (Lj k1 k2)) none) none
def wb (op:BinOp) (x y:AV) (k:AV→R):R:=match x,y with | .int k1 a,.int _ b=>ob (N3 op k1 a b) k |_,_=>none
def XF (op:BinOp) (x y:AV) (k:AV→R):R:=match x,y with | .str a,.str b=>ob (ZC op a b) k |_,_=>none
def lJ (d:EK) (neg:Bool) (x y:AV) (k:AV→R):R:=ob (Xh d x y) λe=>k (.bool (e !=neg))
def kU (l:List ES) (neg:Bool) (x y:AV) (k:AV→R):R:=match x,y with | .agg a,.agg b=>ob (xk l a b) λe=>k (.bool (e !=neg)) |_,_=>none
def lX (op:UnOp) (x:AV) (k:AV→R):R :=
 match op,x with
 | .neg,.int d n=>k (.int d (zC d (0-n)))
 | .not,.bool b=>k (.bool (!b))
 | .xor,.int d n=>k (.int d (d.wrap (BitVec.ofInt d.bits (if d.signed then-1 else d.max) ^^^ BitVec.ofInt d.bits n).toNat))
 |_,_=>none
def vr (d:IntKind) (x:AV) (k:AV→R):R:=match x with | .int _ n=>k (.int d (zC d n)) |_=>none
def XA (x:AV) (k:AV→R):R:=match x with | .str s=>k (.str s) |_=>none
def kB:List AV→Option (List UInt8)
 |[]=>some []
 | .int .u8 (.ofNat n)::r=>(kB r).bind λs=>some (UInt8.ofNat n::s)
 |_=>none
def Xv (h:AH) (x:AV) (k:AV→R):R:=match x with | .ad=>k (.str []) | .slice b off len _ _=>ob (vK h b off len) λcs=>ob (kB cs) λs=>k (.str s) |_=>none
def C4 (h:AH) (e:TypeId) (x:AV) (k:AV→AH→R):R:=match x with
 | .str s=>bif Nat.ble s.length 1073741824 then k (.slice h.nx 0 s.length 0 true) (h.new (.cells (CT.ofList (s.map λ(c:UInt8)=>.int .u8 (.ofNat c.toNat))) e true))else none
 |_=>none
def N6 (x:AV) (y:Nat):Option Nat:=match x with | .int _ (.ofNat a)=>bif Nat.ble a y then some a else none |_=>none
def vO (x:Option AV) (y ej:Nat):Option Nat:=match x with |none=>some ej |some v=>N6 v y
def gL (v:AV) (lo hi:Option AV) (k:AV→R):R:=match v with
 | .str s=>ob (vO hi s.length s.length) λh=>ob (vO lo h 0) λl=>ob (vE (h-l) (vh l s)) λt=>k (.str t)
 |_=>none
def vL (h:AH) (el:TypeId) (b off sz i0 len:Nat):Bool:=match h.get b with
 |some (.cells c e true)=>Nat.beq el e&&(Nat.ble 1 sz&&(Nat.beq off (i0*sz)&&Nat.ble (off+len*sz) c.len))
 |_=>false
def yX (h:AH) (el:TypeId) (sz:Nat) (v:AV) (lo hi:Option AV) (k:AV→R):R:=match v with
 | .slice b off len cap false=>ob (vO hi cap len) λu=>ob (vO lo u 0) λl=>k (.slice b (bif Nat.beq cap l then off else off+l*sz) (u-l) (cap-l) false)
 | .slice b off len i0 true=>bif vL h el b off sz i0 len then
   ob (vO hi len len) λu=>ob (vO lo u 0) λl=>bif Nat.beq l 0 then k (.slice b off u i0 true)else bif Nat.ble (l+1) len then k (.slice b (off+l*sz) (u-l) (i0+l) true)else k (.tail b off (off+l*sz) (i0+l))
  else none
 | .ad=>ob (vO hi 0 0) λ_=>ob (vO lo 0 0) λ_=>k .ad
 | .bX a=>ob (vO hi 0 0) λ_=>ob (vO lo 0 0) λ_=>k (.bX a)
 |_=>none
def gT (n sz:Nat) (v:AV) (lo hi:Option AV) (k:AV→R):R:=match v with
 | .ptr b off=>ob (vO hi n n) λh=>ob (vO lo h 0) λl=>k (.slice b (bif Nat.beq n l then off else off+l*sz) (h-l) (n-l) false)
 |_=>none
def yx (t:TypeId) (z v:AV) (k:AV→R):R:=match v with
 | .iface u x=>bif Nat.beq u t then k (.bm [x,.bool true])else k (.bm [z,.bool false])
 | .cN=>k (.bm [z,.bool false])
 |_=>none
def kr (t:TypeId) (v:AV) (k:AV→R):R:=match v with | .iface u x=>bif Nat.beq u t then k x else none |_=>none
def zX (v:AV) (i:Nat) (k:AV→R):R:=v.DX (λl=>Option.rec (motive:=λ_=>R) none k (wm l i)) none
def xi (v:AV) (k:AV→R):R:=match v with | .slice _ _ len _ _=>k (.int .i64 (.ofNat len)) | .ad=>k (.int .i64 (.ofNat 0)) | .bX _=>k (.int .i64 (.ofNat 0)) | .tail _ _ _ _=>k (.int .i64 (.ofNat 0)) |_=>none
def Q7 (v:AV) (k:AV→R):R:=match v with | .str s=>k (.int .i64 (.ofNat s.length)) |_=>none
def D4 (mx:Bool):AV→AV→Option AV
 | .int k x,.int k' y=>bif k==k' then some (.int k (bif mx then(bif oP x y then y else x)else(bif oP y x then y else x)))else none
 |_,_=>none
def Bk (mx:Bool):AV→List AV→Option AV
 |a,[]=>some a
 |a,b::r=>(D4 mx a b).bind λc=>Bk mx c r
def VV:AV→Bool | .int _ _=>true |_=>false
def oR (mx:Bool) (l:List AV) (k:AV→R):R:=match l with |a::r=>bif VV a then ob (Bk mx a r) k else none |[]=>none
def vQ (h:AH) (e:TypeId) (v:AV) (k:AV→AH→R):R:=bif jV v.cells then k (.ptr h.nx 0) (h.new (.cells (CT.ofList v.cells) e false))else none
def jf (z:List AV) (vs:List (Nat×Nat×AV)) (k:AV→R):R:=ob (vG z vs) λl=>k (.agg l)
def zR (h:AH) (e:TypeId) (z:List AV) (len:Nat) (vs:List (Nat×Nat×AV)) (k:AV→AH→R):R :=
 ob (vG (gA z len) vs) λcs=>bif jV cs then k (.slice h.nx 0 len len false) (h.new (.cells (CT.ofList cs) e false))else none
def QC (h:AH) (e:TypeId) (z:List AV) (l c:AV) (k:AV→AH→R):R:=match l,c with
 | .int _ (.ofNat ln),.int _ (.ofNat cp)=>bif Nat.ble ln cp&&Nat.ble cp 1073741824 then k (.slice h.nx 0 ln cp false) (h.new (.cells (CT.C3 z cp) e false))else none
 |_,_=>none
def Jh (h:AH) (sz n:Nat):AV→Option (List AV)
 | .slice b off _ _ _=>vK h b off (n*sz)
 | .ad=>some []
 | .bX _=>bif Nat.beq n 0 then some []else none
 | .tail _ _ _ _=>bif Nat.beq n 0 then some []else none
 | .str s=>(vE n s).map (List.map λ(c:UInt8)=>AV.int .u8 (.ofNat c.toNat))
 |_=>none
def KX:AV→Option Nat
 | .slice _ _ len _ _=>some len
 | .ad=>some 0
 | .bX _=>some 0
 | .tail _ _ _ _=>some 0
 | .str s=>some s.length
 |_=>none
def Vb (h:AH) (sz n:Nat):AV→Option CT
 | .slice b off _ _ _=>(match h.get b with
  |some (.cells c _ _)=>c.Ib off (n*sz)
  |some (.cO t)=>(JC [] t off (n*sz)).bind λl=>some (CT.ofList l)
  |_=>none)
 | .ad=>some (.ff [])
 | .bX _=>bif Nat.beq n 0 then some (.ff [])else none
 | .tail _ _ _ _=>bif Nat.beq n 0 then some (.ff [])else none
 | .str s=>(vE n s).bind λl=>some (CT.ofList (l.map λ(c:UInt8)=>AV.int .u8 (.ofNat c.toNat)))
 |_=>none
def vV (h:AH) (e:TypeId) (sz:Nat) (s:AV) (n:Nat) (nc:CT) (k:AV→AH→R):R:=match s with
 | .ad=>bif Nat.beq n 0 then k .ad h else bif Nat.ble n 67108864 then k (.slice h.nx 0 n 0 true) (h.new (.cells nc e true))else none
 | .slice b off len cap false=>
  bif Nat.ble (len+n) cap then(bif Nat.beq n 0 then k (.slice b off len cap false) h else ob (wx h b (off+len*sz) nc.toList) λh'=>k (.slice b off (len+n) cap false) h')
  else bif Nat.ble (len+n) 67108864 then ob (vK h b off (len*sz)) λcr=>k (.slice h.nx 0 (len+n) 0 true) (h.new (.cells (bif Nat.beq len 0 then nc else CT.ofList (cr++nc.toList)) e true))
  else none
 | .slice b off len i0 true=>
  match h.get b with
  |some (.cells c e' true)=>
   bif Nat.ble 1 sz&&(Nat.beq off (i0*sz)&&(Nat.beq e e'&&Nat.ble (off+len*sz) c.len))then
    bif Nat.beq n 0 then k (.slice b off len i0 true) h else
    bif Nat.ble (off+(len+n)*sz) c.len then ob (wx h b (off+len*sz) nc.toList) λh'=>k (.slice b off (len+n) i0 true) h'
    else bif Nat.beq i0 0&&(Nat.ble (len+n) 67108864&&jV nc.toList)then
     ob (c.pre (len*sz)) λcr=>k (.slice h.nx 0 (len+n) 0 true) ((h.put b .dead).new (.cells (cr.ix nc.toList) e true))
    else none
   else none
  |_=>none
 |_=>none
def z6 (h:AH) (e:TypeId) (sz:Nat) (s x:AV) (k:AV→AH→R):R :=
 ob (KX x) λn=>ob (Vb h sz n x) λnc=>bif Nat.beq nc.len (n*sz)then vV h e sz s n nc k else none
def Ie (x:Int):List (Int×Int×Nat)→Nat→Option (Nat×Int×Nat)
 |[],_=>none
 |e::r,i=>bif eV x e.1 then some (i,e.2)else Ie x r (i+1)
def Tj (x:Int):List (Int×Int×Nat)→Nat→Option Nat
 |[],_=>none
 |e::r,i=>bif eV (.ofNat e.2.2) x then some i else Tj x r (i+1)
def xC (y:Int):List (Int×Int×Nat)→Nat→List (Int×Int×Nat)
 |[],_=>[]
 |e::r,0=>(e.1,y,e.2.2)::r
 |e::r,i+1=>e::xC y r i
def NH (h:AH) (v:AV) (k:AV→R):R:=match v with
 | .eO b=>(match h.get b with |some (.mp l _)=>k (.int .i64 (.ofNat l.length)) |_=>none)
 |_=>none
def KC (h:AH) (v i:AV) (k:AV→R):R:=match v,i with
 | .eO b,.int .i64 x=>(match h.get b with |some (.mp l _)=>(match Ie x l 0 with |some e=>k (.int .i64 e.2.1) |none=>k (.int .i64 (.ofNat 0))) |_=>none)
 |_,_=>none
def MY (h:AH) (v i:AV) (k:AV→AH→R):R:=match v,i with
 | .eO b,.int .i64 x=>(match h.get b with
  |some (.mp l c)=>(match Ie x l 0 with |some e=>k (.bm [.int .i64 e.2.1,.int .i64 (.ofNat e.2.2)]) h |none=>k (.bm [.int .i64 (.ofNat 0),.int .i64 (.ofNat c)]) (h.put b (.mp (l++[(x,.ofNat 0,c)]) (c+1))))
  |_=>none)
 |_,_=>none
def C5 (h:AH) (v s y:AV) (k:AH→R):R:=match v,s,y with
 | .eO b,.int .i64 x,.int .i64 z=>(match h.get b with
  |some (.mp l c)=>(match Tj x l 0 with |some i=>k (h.put b (.mp (xC z l i) c)) |none=>none)
  |_=>none)
 |_,_,_=>none
def Ml (h:AH) (v i y:AV) (k:AH→R):R:=match v,i,y with
 | .eO b,.int .i64 x,.int .i64 z=>(match h.get b with
  |some (.mp l c)=>(match Ie x l 0 with |some e=>k (h.put b (.mp (xC z l e.1) c)) |none=>k (h.put b (.mp (l++[(x,z,c)]) (c+1))))
  |_=>none)
 |_,_,_=>none
def MN (h:AH) (v:AV) (k:AV→AH→R):R:=match v with
 | .ptr b 0=>(match h.get b with
  |some (.iter s pos)=>bif Nat.ble (pos+1) s.length then
    k (.bm [.bool true,.int .i64 (.ofNat pos),.int .i32 (Utf8.decode ⟨s.toArray⟩ pos).1]) (h.put b (.iter s (pos+(Utf8.decode ⟨s.toArray⟩ pos).2)))
   else k (.bm [.bool false]) h
  |_=>none)
 |_=>none
def jC (c:CV) (f:AV) (a:List AV) (h:AH) (k:AV→AH→R):R:=Option.rec (motive:=λ_=>R) none (λq=>k q.1 q.2) (c f a h)
def Kl (l:List (Nat×Nat)) (t:Nat):Option Nat:=List.rec (motive:=λ_=>Option Nat) none (λp _ ih=>Bool.rec (motive:=λ_=>Option Nat) ih (some p.2) (Nat.beq p.1 t)) l
def yp (c:CV) (l:List (Nat×Nat)) (v:AV) (a:List AV) (h:AH) (k:AV→AH→R):R:=match v with
 | .iface t x=>Option.rec (motive:=λ_=>R) none (λf=>jC c (.fn f [] []) (x::a) h k) (Kl l t)
 |_=>none
def Jo (c:CV) (f:AV) (a:List AV) (h:AH) (k:AV→AH→R):R:=match f with | .fn _ _ _=>jC c f a h k |_=>none
def Nu (P:Program) (name:String) (t:TypeId):Option Nat :=
 (P.info? t).bind λi=>(i.methods.toList.find? (·.name==name)).bind λm=>bif m.path.isEmpty then m.func.bind λg=>bif g.2 then(P.underlying t).bind λd=>(match d with | .pointer _=>some g.1 |_=>none)else none else none
def ZZ (P:Program) (name:String):List Nat→List (Nat×Nat)
 |[]=>[]
 |t::r=>match Nu P name t with |some f=>(t,f)::ZZ P name r |none=>ZZ P name r
def OD (P:Program) (name:String):List (Nat×Nat):=ZZ P name (List.range P.types.size)
def ZT (P:Program) (t:TypeId) (f:Nat):Option Nat :=
 (P.underlying t).bind fun | .struct fs=>(fs[f]?).bind λg=>(aM P g.type).bind λsz=>bif Nat.beq sz 0 then none else some g.offset |_=>none
def M7 (P:Program) (t:TypeId) (f:Nat):Option (Nat×Option Nat) :=
 (P.underlying t).bind fun | .struct fs=>(fs[f]?).bind λg=>(kE P g.type).map λi=>(g.offset,i) |_=>none
def yH (pl:Nat→Option (Nat×Nat)) (r:Operand→Option AV):List (Nat×Operand)→Option (List (Nat×Nat×AV))
 |[]=>some []
 |(i,x)::l=>(pl i).bind λp=>(r x).bind λv=>(yH pl r l).map λs=>(p.1,p.2,v)::s
def kN (P:Program) (fs:List Field):Option (List (Nat×Nat)):=ww (λf=>(aM P f.type).map λn=>(f.offset,n)) fs
def Yh (r:Operand→Option AV):Option Operand→Option (Option AV)
 |none=>some none
 |some x=>(r x).map some
abbrev D5 (P:Program) (op:BinOp) (t:TypeId) (a b:AV) (k:AV→R):R :=
 match op with
 | .shl=>wb .shl a b k
 | .shr=>wb .shr a b k
 |op=>ob (P.underlying t) λd=>match d with
  | .int _=>jY op a b k
  | .string=>XF op a b k
  | .struct fs=>match op with
   | .eql=>cJ (P.eqGuardType P.depth t||P.stoodInHeld t) (none) (ob (vu P 8 fs.toList) λl=>kU l false a b k)
   | .neq=>cJ (P.eqGuardType P.depth t||P.stoodInHeld t) (none) (ob (vu P 8 fs.toList) λl=>kU l true a b k)
   |_=>none
  |d=>match op with
   | .eql=>ob (UE d) λe=>lJ e false a b k
   | .neq=>ob (UE d) λe=>lJ e true a b k
   |_=>none
abbrev YH (P:Program) (src dst:TypeId) (v:AV) (h:AH) (k:AV→AH→R):R :=
 ob (P.underlying src) λds=>ob (P.underlying dst) λdd=>match dd with
  | .int d=>(match ds with | .int _=>vr d v λz=>k z h |_=>none)
  | .string=>(match ds with
   | .string=>XA v λz=>k z h
   | .slice e=>ob (P.underlying e) λde=>(match de with | .int .u8=>Xv h v λz=>k z h |_=>none)
   |_=>none)
  |_=>none
def Kj (P:Program) (e:TypeId):Option (List AV) :=
 (P.info? e).bind λi=>(fo P e).bind λz=>bif Nat.beq z.cells.length i.size&&(jV z.cells&&Nat.ble i.bytes 65536)then some z.cells else none
abbrev bh (P:Program) (c:CV) (o:Op) (r:Operand→Option AV) (h:AH) (k:AV→AH→R):R :=
 match o with
 | .move x=>ob (r x) λv=>k v h
 | .assign x=>ob (r x) λv=>k v h
 | .pick a b d=>ob (r a) λva=>ob (r b) λvb=>ob (r d) λvd=>zo va vb vd λz=>k z h
 | .alloc e=>ob (fo P e) λz=>vQ h e z k
 | .box e x=>ob (r x) λv=>vQ h e v k
 | .build t parts=>ob (fo P t) λz=>ob (P.underlying t) λd=>match d with
  | .struct fs=>ob (kN P fs.toList) λpl=>ob (yH (λi=>wm pl i) r parts.toList) λvs=>jf z.cells vs λv=>k v h
  | .array _ e=>ob (aM P e) λsz=>ob (yH (λi=>some (i*sz,sz)) r parts.toList) λvs=>jf z.cells vs λv=>k v h
  |_=>none
 | .buildSlice t len parts=>ob (P.underlying t) λd=>match d with
  | .slice e=>ob (Kj P e) λz=>cJ (Nat.ble (len*z.length) 16777216) (ob (yH (λi=>some (i*z.length,z.length)) r parts.toList) λvs=>zR h e z len vs k) (none)
  |_=>none
 | .load t a=>ob (r a) λv=>ob (kE P t) λi=>match i with
  |none=>ql h v λz=>k z h
  |some n=>q8 h v n λz=>k z h
 | .store t a x=>ob (r a) λva=>ob (r x) λvx=>ob (aM P t) λn=>qn h va vx n λh'=>k .undef h'
 | .nilCheck x=>ob (r x) λv=>jo v λz=>k z h
 | .binOp op t x y _=>ob (r x) λa=>ob (r y) λb=>D5 P op t a b λz=>k z h
 | .unOp op _ x=>ob (r x) λv=>lX op v λz=>k z h
 | .convert s d x=>ob (r x) λv=>YH P s d v h k
 | .makeInterface t x=>ob (P.underlying t) λd=>match d with
  | .interface _=>none
  |_=>ob (r x) λv=>k (.iface t v) h
 | .makeFunc fn a cp=>match fn with
  | .func f=>ob (ww r a.toList) λva=>ob (ww r cp.toList) λvc=>k (.fn f va vc) h
  |_=>none
 | .makeSlice t l cp=>ob (P.underlying t) λd=>match d with
  | .slice e=>ob (Kj P e) λz=>ob (r l) λvl=>ob (r cp) λvc=>QC h e z vl vc k
  |_=>none
 | .slice t x lo hi mx=>match mx with
  |some _=>none
  |none=>ob (r x) λv=>ob (Yh r lo) λl=>ob (Yh r hi) λu=>ob (P.underlying t) λd=>match d with
   | .string=>gL v l u λz=>k z h
   | .slice e=>ob (aM P e) λsz=>yX h e sz v l u λz=>k z h
   | .array n e=>ob (aM P e) λsz=>gT n sz v l u λz=>k z h
   |_=>none
 | .fieldAddr t x f=>ob (r x) λv=>ob (ZT P t f) λoff=>qI v off λz=>k z h
 | .field t x f=>ob (r x) λv=>ob (M7 P t f) λp=>match p.2 with
  |none=>Xk v p.1 λz=>k z h
  |some n=>Xa v p.1 n λz=>k z h
 | .indexAddr t x i=>ob (r x) λv=>ob (r i) λj=>ob (P.underlying t) λd=>match d with
  | .slice e=>ob (aM P e) λsz=>xy v j sz λz=>k z h
  | .array n e=>cJ (Nat.ble 2 n) (ob (aM P e) λsz=>gp v j n sz λz=>k z h) (none)
  |_=>none
 | .index t x i=>ob (r x) λv=>ob (r i) λj=>ob (P.underlying t) λd=>match d with
  | .string=>gR v j λz=>k z h
  | .array n e=>ob (aM P e) λsz=>ob (ie P e) λg=>cJ (g) (XH v j n sz λz=>k z h) (QM v j n sz λz=>k z h)
  |_=>none
 | .typeAssert x _ t ok=>ob (r x) λv=>ob (P.underlying t) λd=>match d with
  | .interface _=>none
  |_=>cJ (ok) (ob (fo P t) λz=>yx t z v λy=>k y h) (kr t v λy=>k y h)
 | .extract x i=>ob (r x) λv=>zX v i λz=>k z h
 | .call cl=>match cl.callee with
  | .value f=>ob (r f) λvf=>ob (ww r cl.args.toList) λva=>jC c vf va h k
  | .invoke x name=>ob (r x) λv=>ob (ww r cl.args.toList) λva=>yp c (OD P name) v va h k
  | .builtin b=>match b with
   | .len=>(match cl.args.toList,cl.argTypes.toList with
    |x::_,t::_=>ob (r x) λv=>ob (P.underlying t) λd=>(match d with
     | .string=>Q7 v λz=>k z h
     | .array n _=>k (.int .i64 (.ofNat n)) h
     | .slice _=>xi v λz=>k z h
     |_=>none)
    |_,_=>none)
   | .min=>ob (ww r cl.args.toList) λl=>oR false l λz=>k z h
   | .max=>ob (ww r cl.args.toList) λl=>oR true l λz=>k z h
   | .append=>(match cl.args.toList,cl.argTypes.toList with
    |s::x::[],t::u::_=>ob (P.underlying u) λdu=>(match du with
     | .int _=>none
     |_=>ob (P.underlying t) λd=>(match d with
      | .slice e=>ob (Kj P e) λz=>ob (r s) λvs=>ob (r x) λvx=>z6 h e z.length vs vx k
      |_=>none))
    |_,_=>none)
   |_=>none
 |_=>none
abbrev cn (P:Program) (c:CV) (o:Op) (r:Operand→Option AV) (h:AH):R:=bh P c o r h λv h'=>some (v,h')
def kS (all:List Oper) (o:Oper):Option Nat:=o.guard.bind λg=>(wm all g.1).bind λp=>p.dst
inductive Pl where
  |z
  |n (L:Option (List Nat)) (a b:Pl)
  |r (Ls:List (List Nat))
def has (tm:PT AV) (t:Nat):Bool:=match tm.get t with |some _=>true |none=>false
abbrev tK:List Nat→Type
 |[]=>Unit
 |_::L=>AV×tK L
def g9:(L:List Nat)→PT AV→tK L
 |[],_=>()
 |t::L,tm=>((match tm.get t with |some v=>v |none=>.undef),g9 L tm)
def wP:(L:List Nat)→tK L→PT AV→PT AV
 |[],_,a=>a
 |t::L,s,a=>wP L s.2 (a.set t s.1)
def yK (tm:PT AV):List Nat→Bool
 |[]=>true
 |t::L=>has tm t&&yK tm L
abbrev VI (n:Nat) (tm:PT AV) (dst:Option Tmp) (v:AV) (k:PT AV→R):R :=
 match dst with
 |none=>k tm
 |some d=>cJ (Nat.ble (d+1) n) (k (tm.set d v)) (none)
abbrev C6 (P:Program) (c:CV) (n:Nat):List Oper→PT AV→AH→(PT AV→AH→R)→R
 |[],tm,h,k=>k tm h
 |o::r,tm,h,k=>bh P c o.op (ev tm) h λv h'=>VI n tm o.dst v λtm'=>C6 P c n r tm' h' k
abbrev Uu (n:Nat):List Oper→PT AV→(PT AV→R)→R
 |[],tm,k=>k tm
 |o::r,tm,k=>VI n tm o.dst .undef λtm'=>Uu n r tm' k
def writes (d:Nat):List Oper→Bool
 |[]=>false
 |o::r=>(match o.dst with |some t=>Nat.beq t d |none=>false)||writes d r
def Ig (g:Nat×Bool) (o:Oper):Bool:=match o.guard with |some g'=>Nat.beq g.1 g'.1&&g.2==g'.2 |none=>false
def zp (g:Nat×Bool):List Oper→List Oper×List Oper
 |[]=>([],[])
 |o::r=>bif Ig g o then(o::(zp g r).1,(zp g r).2)else([],o::r)
abbrev Ye (P:Program) (c:CV) (n:Nat) (all:List Oper):Nat→List Oper→List (List Nat)→PT AV→AH→(PT AV→AH→R)→R
 |_,[],_,tm,h,k=>k tm h
 | 0,_::_,_,_,_,_=>none
 |f+1,o::r,Ls,tm,h,k=>match o.guard with
  |none=>bh P c o.op (ev tm) h λv h'=>VI n tm o.dst v λtm'=>Ye P c n all f r Ls tm' h' k
  |some g=>ob (kS all o) λd=>ob (tm.get d) λvg=>
   match Ls with
   |[]=>none
   |L::Ak=>cJ (writes d (o::(zp g r).1)) none (zg (α:=tK L→AH→R) (λs h=>Ye P c n all f (zp g r).2 Ak (wP L s .e) h k) λJ=>xe vg g.2
     (C6 P c n (o::(zp g r).1) tm h λtm' h'=>cJ (yK tm' L) (J (g9 L tm') h') none)
     (Uu n (o::(zp g r).1) tm λtm'=>cJ (yK tm' L) (J (g9 L tm') h) none))
mutual
def gJ:AV→AV→Bool
 | .bool a,.bool b=>a==b
 | .int k a,.int k' b=>k==k'&&eV a b
 | .str a,.str b=>ig a b
 | .ptr b o,.ptr b' o'=>Nat.beq b b'&&Nat.beq o o'
 | .au,.au=>true
 | .slice b o l c p,.slice b' o' l' c' p'=>Nat.beq b b'&&(Nat.beq o o'&&(Nat.beq l l'&&(Nat.beq c c'&&p==p')))
 | .ad,.ad=>true
 | .fn f a c,.fn f' a' c'=>Nat.beq f f'&&(Gg a a'&&Gg c c')
 | .yield l,.yield l'=>Nat.beq l l'
 | .ei,.ei=>true
 | .iface t v,.iface t' v'=>Nat.beq t t'&&gJ v v'
 | .cN,.cN=>true
 | .agg l,.agg l'=>Gg l l'
 | .bm l,.bm l'=>Gg l l'
 | .bX a,.bX a'=>decide (a=a')
 | .tail b o o' i,.tail b' p p' j=>Nat.beq b b'&&(Nat.beq o p&&(Nat.beq o' p'&&Nat.beq i j))
 | .eO b,.eO b'=>Nat.beq b b'
 |_,_=>false
def Gg:List AV→List AV→Bool
 |[],[]=>true
 |a::r,b::s=>gJ a b&&Gg r s
 |_,_=>false
end
inductive Cls where
  |pure |load |fresh |ek
def lY (P:Program):Op→Cls
 | .convert s d _=>match P.underlying d with
  |some (.int _)=>.pure
  |some .string=>match P.underlying s with
   |some .string=>.pure
   |some (.slice _)=>.pure
   |_=>.ek
  |some (.slice _)=>match P.underlying s with
   |some .string=>.fresh
   |_=>.ek
  |_=>.ek
 | .move _ | .assign _ | .pick .. | .build .. | .nilCheck _ | .binOp .. | .unOp .. | .makeInterface .. | .makeFunc .. | .slice .. | .fieldAddr .. | .field .. | .indexAddr .. | .index ..
 | .typeAssert .. | .extract ..=>.pure
 | .load ..=>.load
 | .alloc .. | .box .. | .buildSlice .. | .makeSlice ..=>.fresh
 | .call cl=>match cl.callee with
  | .builtin b=>match b with
   | .len=>(match cl.argTypes.toList with |t::_=>(match P.underlying t with |some (.map _ _)=>.ek |_=>.pure) |[]=>.pure)
   | .min=>.pure
   | .max=>.pure
   |_=>.ek
  |_=>.ek
 |_=>.ek
def zd (P:Program) (o:Op):Bool:=match lY P o with | .ek=>true |_=>false
def Uc (o:Op):Bool:=match o with | .load _ _=>true |_=>false
def Qc (P:Program) (o:Op):Bool:=match o with | .slice t _ _ _ _=>(match P.underlying t with |some (.slice _)=>true |_=>false) |_=>false
def kJ (P:Program) (o:Op):Bool:=match o with | .convert s d _=>(match P.underlying d with |some .string=>(match P.underlying s with |some (.slice _)=>true |_=>false) |_=>false) |_=>false
def vm (P:Program) (o:Op):Bool:=Uc o||(Qc P o||kJ P o)
def wE:List Oper→Nat→PT Nat→PT Nat
 |[],_,t=>t
 |o::r,j,t=>wE r (j+1) (t.set j (o.after.toList.foldl (λs e=>bif Region.binds .any e then s|||(2 ^ e.on|||(match t.get e.on with |some m=>m |none=>0))else s) 0))
def xZ (t:PT Nat) (j:Nat):Nat:=match t.get j with |some m=>m |none=>0
def chain (P:Program) (t:PT Nat):List Oper→Nat→Option Nat→Bool
 |[],_,_=>true
 |o::r,j,last=>bif zd P o.op then(match last with |none=>true |some i=>Nat.testBit (xZ t j) i)&&chain P t r (j+1) (some j)else chain P t r (j+1) last
def bit (t:Nat):Nat:=2 ^ t
def D6:List Nat→Nat
 |[]=>0
 |a::r=>a|||D6 r
def Tk:Operand→Nat | .tmp t=>bit t |_=>0
def looks (all:List Oper) (o:Oper):Nat:=D6 (o.op.operands.toList.map Tk)|||(match o.guard with |some _=>(match kS all o with |some d=>bit d |none=>0) |none=>0)
def Jl (o:Oper):Nat:=match o.dst with |some d=>bit d |none=>0
structure D7 where
  i:Nat
  w:Nat
  l:Nat
def OY (mk wj lj:Nat):List D7→Bool
 |[]=>true
 |e::r=>(Nat.testBit mk e.i||(Nat.beq (e.w&&&(lj|||wj)) 0&&Nat.beq (wj&&&e.l) 0))&&OY mk wj lj r
def QY (j:Nat):List Edge→Bool
 |[]=>true
 |e::r=>(bif Region.binds .any e then Nat.ble (e.on+1) j else true)&&QY j r
def tY (t:PT Nat) (all:List Oper):List Oper→Nat→List D7→Bool
 |[],_,_=>true
 |o::r,j,es=>QY j o.after.toList&&(OY (xZ t j) (Jl o) (looks all o) es&&tY t all r (j+1) (⟨j,Jl o,looks all o⟩::es))
def wO (t:PT Nat) (i j:Nat):Bool:=!(Nat.testBit (xZ t i) j||Nat.testBit (xZ t j) i)
def Xn (P:Program) (t:PT Nat) (i:Nat):List Oper→Nat→Bool
 |[],_=>false
 |o::r,j=>zd P o.op&&wO t i j||Xn P t i r (j+1)
def Xd (P:Program) (p:Op→Bool) (t:PT Nat) (all:List Oper):List Oper→Nat→Bool
 |[],_=>false
 |o::r,i=>p o.op&&Xn P t i all 0||Xd P p t all r (i+1)
def Ih (P:Program) (ops:Array Oper):Bool :=
 tY (wE ops.toList 0 .e) ops.toList ops.toList 0 []&&chain P (wE ops.toList 0 .e) ops.toList 0 none
structure J7 where
  i:Nat
  a:AV
  n:Option Nat
  v:AV
structure Jv where
  j:Nat
  hb:AH
  ha:AH
def xG (a:AV) (n:Option Nat) (v:AV) (h:AH):Bool :=
 match a with
 | .ptr b off=>(match h.get b with
  |some (.cells c _ _)=>(match n with
   |none=>(match c.fg off with |some x=>gJ x v |none=>false)
   |some n=>(match c.iO off n with |some l=>gJ (.agg l) v |none=>false))
  |some (.cO t)=>(match n with
   |none=>(match aE.get t off with |some x=>gJ x v |none=>false)
   |some n=>(match JC [] t off n with |some l=>gJ (.agg l) v |none=>false))
  |_=>false)
 | .slice b off len i0 true=>(match n with |some m=>vL h (m/65536) b off (m%65536) i0 len |none=>false)
 | .slice _ _ _ _ false=>true
 | .ad=>true
 | .bX _=>true
 |_=>false
def D8 (a:AV) (nx:Nat):Bool:=match a with | .ptr b _=>Nat.ble (b+1) nx | .slice b _ _ _ true=>Nat.ble (b+1) nx | .slice _ _ _ _ false=>true | .ad=>true | .bX _=>true |_=>false
def rY (a:AV) (n:Option Nat) (v:AV) (hb ha:AH) (nx:Nat):Bool:=match a,n,v with
 | .slice b _ _ _ _,none,.str _=>Nat.ble ha.nx b
 |_,_,_=>xG a n v hb&&(xG a n v ha&&D8 a nx)
def ve (a:AV) (n:Option Nat) (v:AV) (hb ha:AH) (nx:Nat) (k:R):R:=bif rY a n v hb ha nx then k else none
abbrev D9 (t:PT Nat) (i:Nat) (a:AV) (n:Option Nat) (v:AV) (nx:Nat):List Jv→R→R
 |[],k=>k
 |⟨j,hb,ha⟩::r,k=>cJ (wO t i j) (ve a n v hb ha nx (D9 t i a n v nx r k)) (D9 t i a n v nx r k)
abbrev Nl (t:PT Nat) (hs:List Jv) (nx:Nat):List J7→R→R
 |[],k=>k
 |⟨i,a,n,v⟩::r,k=>D9 t i a n v nx hs (Nl t hs nx r k)
def J6 (r:Operand→Option AV):Op→Option AV
 | .load _ a=>r a
 | .slice _ x _ _ _=>r x
 | .convert _ _ x=>r x
 |_=>none
def wY (P:Program):Op→Option Nat
 | .load t _=>match kE P t with |some i=>i |none=>none
 | .slice t _ _ _ _=>match P.underlying t with
  |some (.slice e)=>(match aM P e with |some sz=>bif Nat.ble (sz+1) 65536 then some (e*65536+sz)else none |none=>none)
  |_=>none
 |_=>none
def J2:List (Nat×Bool×Bool)→Nat→Bool→Option Bool
 |[],_,_=>none
 |x::r,d,w=>bif Nat.beq x.1 d&&(x.2.1==w)then some x.2.2 else bif Nat.beq x.1 d&&x.2.2 then some false else J2 r d w
def Bl (dst:Option Tmp) (d:Nat):Bool:=match dst with |some t=>Nat.beq t d |none=>false
def dy (dst:Option Tmp):List (Nat×Bool×Bool)→List (Nat×Bool×Bool)
 |[]=>[]
 |x::r=>bif Bl dst x.1 then dy dst r else x::dy dst r
abbrev Tl (o:Option Bool) (v:AV) (w:Bool) (a b:R):R:=match o with |some true=>a |some false=>b |none=>xe v w a b
def Tm:Bool:=true
def Xy:Operand→Option Bool
 | .const k=>(match Vv k with |some (.bool b)=>some b |_=>none)
 |_=>none
def Ii (kn:List (Nat×Bool×Bool)) (d:Nat):Option Bool:=match J2 kn d true with
 |some true=>some true
 |_=>(match J2 kn d false with |some true=>some false |_=>none)
def Uw (kn:List (Nat×Bool×Bool)):Op→Option Bool
 | .move (.tmp d)=>Ii kn d
 | .assign (.tmp d)=>Ii kn d
 | .pick (.tmp d) y z=>(match J2 kn d true with |some true=>Xy y |some false=>Xy z |none=>(match J2 kn d false with |some false=>Xy y |_=>none))
 |_=>none
def Qg (dst:Option Tmp) (o:Op) (kn:List (Nat×Bool×Bool)):List (Nat×Bool×Bool):=bif Tm then(match dst with
  |some t=>(match Uw kn o with |some c=>(t,true,c)::(t,false,!c)::dy dst kn |none=>dy dst kn)
  |none=>dy dst kn)else dy dst kn
abbrev Gy (P:Program) (c:CV) (n:Nat) (all:List Oper):List Oper→Nat→List (Nat×Bool×Bool)→PT AV→AH→List J7→List Jv→(PT AV→AH→List J7→List Jv→R)→R
 |[],_,_,tm,h,ls,hs,k=>k tm h ls hs
 |o::r,j,kn,tm,h,ls,hs,k=>
  match o.guard with
  |none=>bh P c o.op (ev tm) h λv h'=>VI n tm o.dst v λtm'=>cJ (vm P o.op) (ob (J6 (ev tm) o.op) λa=>Gy P c n all r (j+1) (Qg o.dst o.op kn) tm' h' (⟨j,a,wY P o.op,v⟩::ls) hs k) (cJ (zd P o.op) (Gy P c n all r (j+1) (Qg o.dst o.op kn) tm' h' ls (⟨j,h,h'⟩::hs) k) (Gy P c n all r (j+1) (Qg o.dst o.op kn) tm' h' ls hs k))
  |some g=>ob (kS all o) λd=>ob (tm.get d) λvg=>Tl (J2 kn d g.2) vg g.2
   (bh P c o.op (ev tm) h λv h'=>VI n tm o.dst v λtm'=>
    cJ (vm P o.op) (ob (J6 (ev tm) o.op) λa=>Gy P c n all r (j+1) (Qg o.dst o.op ((d,g.2,true)::kn)) tm' h' (⟨j,a,wY P o.op,v⟩::ls) hs k) (cJ (zd P o.op) (Gy P c n all r (j+1) (Qg o.dst o.op ((d,g.2,true)::kn)) tm' h' ls (⟨j,h,h'⟩::hs) k) (Gy P c n all r (j+1) (Qg o.dst o.op ((d,g.2,true)::kn)) tm' h' ls hs k)))
   (VI n tm o.dst .undef λtm'=>Gy P c n all r (j+1) (dy o.dst ((d,g.2,false)::kn)) tm' h ls hs k)
abbrev Ll (P:Program) (c:CV) (n:Nat) (ops:Array Oper) (Ls:List (List Nat)) (tm:PT AV) (h:AH) (k:PT AV→AH→R):R :=
 cJ (Ih P ops) ((cJ (Xd P (vm P) (wE ops.toList 0 .e) ops.toList ops.toList 0) (match Ls with
   |[]=>none
   |L::_=>zg (α:=tK L→AH→R) (λs h=>k (wP L s .e) h)
     λJ=>Gy P c n ops.toList ops.toList 0 [] tm h [] [] λtm' h' ls hs=>Nl (wE ops.toList 0 .e) hs h.nx ls (cJ (yK tm' L) (J (g9 L tm') h') (none))) (Ye P c n ops.toList ops.toList.length ops.toList Ls tm h k))) (none)
def Jb (h:AH) (l:Nat) (k:AH→R):R:=match h.get l with
 |some (.loop .ready bT f p L vs d)=>k (h.put l (.loop .busy bT f p L vs d))
 |_=>none
def yJ (h:AH) (l:Nat) (j:Option AX):R:=match h.get l with
 |some (.loop _ _ f p L vs d)=>(match j with
  |none=>some (.bool true,h.put l (.loop .ready none f p L vs d))
  |some x=>some (.bool false,h.put l (.loop .done (some x) f p L vs d)))
 |_=>none
def vt (h:AH) (l:Nat) (k:Option AX→AH→R):R:=match h.get l with
 |some (.loop st bT f p L vs d)=>(match st with
  | .busy=>none
  |_=>k bT (h.put l (.loop .exhausted bT f p L vs d)))
 |_=>none
def C7:AX→AX→Bool
 | .normal,.normal=>true
 | .ret,.ret=>true
 | .exit a,.exit b=>Nat.beq a b
 | .goto a,.goto b=>Nat.beq a b
 |_,_=>false
def Bm (p:Option AX) (x:AX) (a b:R):R:=match p with |some y=>bif C7 y x then a else b |none=>b
def XW (p:Option AX) (a b:R):R:=match p with |none=>a |some _=>b
def XB:Code→List Nat→List AX
 | .seq a b,l=>XB a l++XB b l
 | .cond _ a b,l=>XB a l++XB b l
 | .block id a,l=>XB a (id::l)
 | .loop a,l=>XB a l
 | .rangeFunc _ _ _ b,l=>XB b l
 | .exit id,l=>bif l.contains id then[]else[.exit id]
 | .ret,_=>[.ret]
 |_,_=>[]
abbrev UC (p:Option AX) (k:AX→R):List AX→R
 |[]=>none
 |x::r=>Bm p x (k x) (UC p k r)
def VS (h:AH) (l:Nat) (k:Nat→R):R:=match h.get l with |some (.loop _ _ _ _ _ _ d)=>k d |_=>none
def w7:(L:List Nat)→PT AV→List AV
 |[],_=>[]
 |t::L,tm=>(match tm.get t with |some v=>v |none=>.undef)::w7 L tm
def nV:Pl→Pl | .n _ a _=>a |_=>.z
def Al:Pl→Pl | .n _ _ b=>b |_=>.z
def Am:Pl→Option (List Nat) | .n L _ _=>L |_=>none
def Ij:Pl→List (List Nat) | .r l=>l |_=>[]
abbrev ge (P:Program) (N:Nat) (c:CV) (f n:Nat) (rd:Option Nat):Code→List Nat→Pl→PT AV→AH→List Nat→(AX→PT AV→AH→List Nat→R)→R
  | .skip,_,_,tm,h,ds,k=>k .normal tm h ds
  | .region _ ops d,_,pl,tm,h,ds,k=>cJ (d) (Ll P c n ops (Ij pl) tm h λtm h=>k .normal tm h ds) (Ye P c n ops.toList ops.toList.length ops.toList (Ij pl) tm h λtm h=>k .normal tm h ds)
  | .seq a b,pos,pl,tm,h,ds,k=>match Am pl with
    | some L => zg (α := tK L → AH → List Nat → R)
        (λs h ds=>ge P N c f n rd b (pos++[1]) (Al pl) (wP L s .e) h ds k)
        λJ=>ge P N c f n rd a (pos++[0]) (nV pl) tm h ds λx tm' h ds=>match x with
          | .normal=>cJ (yK tm' L) (J (g9 L tm') h ds) (none) |x=>k x tm' h ds
    |none=>ge P N c f n rd a (pos++[0]) (nV pl) tm h ds λx tm' h ds=>match x with
      | .normal=>ge P N c f n rd b (pos++[1]) (Al pl) tm' h ds k
      |x=>k x tm' h ds
  | .cond o a b,pos,pl,tm,h,ds,k=>ob (ev tm o) λv=>jw v (ge P N c f n rd a (pos++[0]) (nV pl) tm h ds k) (ge P N c f n rd b (pos++[1]) (Al pl) tm h ds k)
  | .block id a,pos,pl,tm,h,ds,k=>match Am pl with
    | some L => zg (α := tK L → AH → List Nat → R)
        (λs h ds=>k .normal (wP L s .e) h ds)
        λJ=>ge P N c f n rd a (pos++[0]) (nV pl) tm h ds λx tm' h ds=>match x with
          | .normal=>cJ (yK tm' L) (J (g9 L tm') h ds) (none) | .exit i=>cJ (Nat.beq i id) ((cJ (yK tm' L) (J (g9 L tm') h ds) (none))) (k (.exit i) tm' h ds) |x=>k x tm' h ds
    |none=>ge P N c f n rd a (pos++[0]) (nV pl) tm h ds λx tm' h ds=>match x with
      | .exit i=>cJ (Nat.beq i id) (k .normal tm' h ds) (k (.exit i) tm' h ds)
      |x=>k x tm' h ds
  | .loop a,pos,pl,tm,h,ds,k=>match Am pl with
    | some L => cJ (yK tm L) (wN (σ := tK L) N
        (λih s h ds=>ge P N c f n rd a (pos++[0]) (nV pl) (wP L s .e) h ds λx tm' h ds=>match x with
          | .normal=>cJ (yK tm' L) (ih (g9 L tm') h ds) (none) |x=>k x tm' h ds)
        (g9 L tm) h ds) (none)
    |none=>none
  | .exit id,_,_,tm,h,ds,k=>k (.exit id) tm h ds
  | .label _,_,_,tm,h,ds,k=>k .normal tm h ds
  | .goto l,_,_,tm,h,ds,k=>k (.goto l) tm h ds
  | .ret,_,_,tm,h,ds,k=>k .ret tm h ds
  | .rangeFunc g _ _ body,pos,pl,tm,h,ds,k=>ob (ev tm g) λvf=>match Am pl with
    |none=>none
    | some L => cJ (yK tm L) ((fun (go : Nat → AH → List Nat → R) => match rd with
       |none=>go h.nx (h.new .lI) (h.nx::ds)
       |some l0=>VS h l0 λd=>go d h ds)
      λd h1 ds1=>Jo c vf [.yield h1.nx] (h1.new (.loop .ready none f pos L (w7 L tm) d)) λ_ h2=>
        vt h2 h1.nx λp h3=>XW p (k .normal tm h3 ds1) (UC p (λx=>k x tm h3 ds1) (XB body []))) (none)
  |_,_,_,_,_,_,_=>none
def jR:List Nat→AH→(AH→R)→R
 |[],h,k=>k h
 |d::r,h,k=>match h.get d with
  |some .lI=>jR r (h.put d .pM) k
  |_=>none
def C8:List AV→Nat→PT AV→PT AV
 |[],_,t=>t
 |a::r,i,t=>C8 r (i+1) (t.set i a)
abbrev Ue (P:Program) (tm:PT AV) (h:AH):List ResultVar→(List AV→R)→R
 |[],k=>k []
 |x::r,k=>match x with
  | .tmp t=>ob (tm.get t) λv=>Ue P tm h r λl=>k (v::l)
  | .cell a t=>ob (tm.get a) λva=>ob (kE P t) λi=>match i with
   |none=>ql h va λv=>Ue P tm h r λl=>k (v::l)
   |some n=>q8 h va n λv=>Ue P tm h r λl=>k (v::l)
def lP (l:List AV):AV:=match l with |[v]=>v |l=>.bm l
abbrev zU (P:Program) (N:Nat) (pl:Pl) (c:CV) (f:FuncId) (args:List AV) (h:AH):R :=
 ob (P.funcs[f]?) λfn=>ob fn.body λb=>
  ge P N c f fn.ntmps none b [] pl (C8 args 0 .e) h [] λx tm h ds=>match x with
   | .normal=>jR ds h λh'=>Ue P tm h' fn.results.toList λl=>some (lP l,h')
   | .ret=>jR ds h λh'=>Ue P tm h' fn.results.toList λl=>some (lP l,h')
   |_=>none
def xg:Code→List Nat→Option Code
 |c,[]=>some c
 | .seq a b,i::p=>bif Nat.beq i 0 then xg a p else xg b p
 | .cond _ a b,i::p=>bif Nat.beq i 0 then xg a p else xg b p
 | .block _ a,_::p=>xg a p
 | .loop a,_::p=>xg a p
 | .rangeFunc _ _ a b,i::p=>bif Nat.beq i 0 then xg a p else xg b p
 |_,_::_=>none
abbrev Ik:List Tmp→List AV→Nat→PT AV→(PT AV→R)→R
 |[],[],_,t,k=>k t
 |p::ps,v::vs,n,t,k=>cJ (Nat.ble (p+1) n) (Ik ps vs n (t.set p v) k) (none)
 |_,_,_,_,_=>none
abbrev tZ:List Nat→List AV→PT AV→(PT AV→R)→R
 |[],[],t,k=>k t
 |x::L,v::vs,t,k=>tZ L vs (t.set x v) k
 |_,_,_,_=>none
abbrev Vu (P:Program) (N:Nat) (pl:Pl) (c:CV) (f:FuncId) (pos L:List Nat) (l:Nat) (vs args:List AV) (h:AH):R :=
 ob (P.funcs[f]?) λfn=>ob fn.body λb=>ob (xg b pos) λs=>match s with
  | .rangeFunc _ ps assign body=>tZ L vs .e λLm=>Ik ps.toList args fn.ntmps Lm λtm=>
   ge P N c f fn.ntmps (some l) assign (pos++[0]) (nV pl) tm h [] λx tm h ds=>match x with
    | .normal=>Jb h l λh=>ge P N c f fn.ntmps (some l) body (pos++[1]) (Al pl) tm h ds λx _ h _=>match x with
     | .normal=>yJ h l none
     |x=>yJ h l (some x)
    |_=>none
  |_=>none
def NN:Nat:=1000000000
abbrev WF:=CV→List AV→AH→R
abbrev VF:=CV→Nat→List AV→List AV→AH→R
def eG (P:Program) (f:Nat) (w:WF):Prop:=∀c l h r,w c l h=some r→∃pl,zU P NN pl c f l h=some r
def Ea (P:Program) (f:Nat) (pos L:List Nat) (w:VF):Prop:=∀c l x y h r,w c l x y h=some r→∃pl,Vu P NN pl c f pos L l x y h=some r
structure RT where
  f:Nat
  pos:List Nat
  L:List Nat
  run:VF
def Yu:List Nat→List Nat→Bool
 |[],[]=>true
 |a::x,b::y=>Nat.beq a b&&Yu x y
 |_,_=>false
def YR:List RT→Nat→List Nat→List Nat→Option VF
 |[],_,_,_=>none
 |x::r,f,pos,L=>bif Nat.beq x.f f&&(Yu x.pos pos&&Yu x.L L)then some x.run else YR r f pos L
inductive BT where
  |no
  |leaf (f:Nat) (w:WF)
  |node (m:Nat) (l r:BT)
def BT.get (t:BT) (f:Nat):Option WF :=
 BT.rec (motive:=λ_=>Option WF) none (λg w=>Bool.rec (motive:=λ_=>Option WF) none (some w) (Nat.beq g f)) (λm _ _ l r=>Bool.rec (motive:=λ_=>Option WF) r l (Nat.ble f m)) t
def BT.all (p:Nat→WF→Prop):BT→Prop
 | .no=>True
 | .leaf f w=>p f w
 | .node _ l r=>l.all p∧r.all p
def BT.fs:BT→List Nat
 | .no=>[]
 | .leaf f _=>[f]
 | .node _ l r=>l.fs++r.fs
def callT (tab:BT) (rt:List RT) (k:Nat):CV :=
 Nat.rec (motive:=λ_=>CV) (λ_ _ _=>none) (λ_ ih v args h=>match v with
  | .fn f first cap=>Option.rec (motive:=λ_=>R) none (λg=>g ih (first++args++cap) h) (BT.get tab f)
  | .yield l=>(match h.get l with
   |some (.loop .ready _ f pos L vs _)=>(match YR rt f pos L with |some g=>g ih l vs args h |none=>none)
   |_=>none)
  |_=>none) k
def isTrue (r:R):Bool:=match r with |some (.bool true,_)=>true |_=>false
def AH.empty:AH:=⟨0,[],.e⟩
end
end Go.Ae
namespace Go.Ae
open Go
noncomputable section
theorem pLn {h:AH} {k:AH→R}:jR [] h k=k h:=rfl
structure tR (x:R) where
 val:R
 property:x=val:=by conv=>lhs;reduce;try dsimp only[pLn]
abbrev Eb (P:Program) (pl:Pl) (f:Nat):Type:=(c:CV)→(h:AH)→tR (zU P NN pl c f [] h)
abbrev Ec {P:Program} {pl:Pl} {f:Nat} (S:Eb P pl f):WF:=λc l h=>match l with |[]=>(S c h).1 |_=>none
theorem Tn {P:Program} {pl:Pl} {f:Nat} (S:Eb P pl f):eG P f (Ec S):=by
 intro c l h r e;unfold Ec at e
 split at e
 ·exact⟨pl,(S ..).2.trans e⟩
 ·cases e
abbrev aI (P:Program) (pl:Pl) (f:Nat):Type:=(c:CV)→(a0:AV)→(h:AH)→tR (zU P NN pl c f [a0] h)
abbrev aJ {P:Program} {pl:Pl} {f:Nat} (S:aI P pl f):WF:=λc l h=>match l with |[a0]=>(S c a0 h).1 |_=>none
theorem aK {P:Program} {pl:Pl} {f:Nat} (S:aI P pl f):eG P f (aJ S):=by
 intro c l h r e;unfold aJ at e
 split at e
 ·exact⟨pl,(S ..).2.trans e⟩
 ·cases e
abbrev bn (P:Program) (pl:Pl) (f:Nat):Type:=(c:CV)→(a0 a1:AV)→(h:AH)→tR (zU P NN pl c f [a0,a1] h)
abbrev bj {P:Program} {pl:Pl} {f:Nat} (S:bn P pl f):WF:=λc l h=>match l with |[a0,a1]=>(S c a0 a1 h).1 |_=>none
theorem bu {P:Program} {pl:Pl} {f:Nat} (S:bn P pl f):eG P f (bj S):=by
 intro c l h r e;unfold bj at e
 split at e
 ·exact⟨pl,(S ..).2.trans e⟩
 ·cases e
abbrev cD (P:Program) (pl:Pl) (f:Nat):Type:=(c:CV)→(a0 a1 a2:AV)→(h:AH)→tR (zU P NN pl c f [a0,a1,a2] h)
abbrev cE {P:Program} {pl:Pl} {f:Nat} (S:cD P pl f):WF:=λc l h=>match l with |[a0,a1,a2]=>(S c a0 a1 a2 h).1 |_=>none
theorem cL {P:Program} {pl:Pl} {f:Nat} (S:cD P pl f):eG P f (cE S):=by
 intro c l h r e;unfold cE at e
 split at e
 ·exact⟨pl,(S ..).2.trans e⟩
 ·cases e
abbrev lQ (P:Program) (pl:Pl) (f:Nat):Type:=(c:CV)→(a0 a1 a2 a3:AV)→(h:AH)→tR (zU P NN pl c f [a0,a1,a2,a3] h)
abbrev lR {P:Program} {pl:Pl} {f:Nat} (S:lQ P pl f):WF:=λc l h=>match l with |[a0,a1,a2,a3]=>(S c a0 a1 a2 a3 h).1 |_=>none
theorem mI {P:Program} {pl:Pl} {f:Nat} (S:lQ P pl f):eG P f (lR S):=by
 intro c l h r e;unfold lR at e
 split at e
 ·exact⟨pl,(S ..).2.trans e⟩
 ·cases e
abbrev rN (P:Program) (pl:Pl) (f:Nat):Type:=(c:CV)→(a0 a1 a2 a3 a4:AV)→(h:AH)→tR (zU P NN pl c f [a0,a1,a2,a3,a4] h)
abbrev rO {P:Program} {pl:Pl} {f:Nat} (S:rN P pl f):WF:=λc l h=>match l with |[a0,a1,a2,a3,a4]=>(S c a0 a1 a2 a3 a4 h).1 |_=>none
theorem ua {P:Program} {pl:Pl} {f:Nat} (S:rN P pl f):eG P f (rO S):=by
 intro c l h r e;unfold rO at e
 split at e
 ·exact⟨pl,(S ..).2.trans e⟩
 ·cases e
abbrev Ed (P:Program) (pl:Pl) (f:Nat):Type:=(c:CV)→(a0 a1 a2 a3 a4 a5 a6:AV)→(h:AH)→tR (zU P NN pl c f [a0,a1,a2,a3,a4,a5,a6] h)
abbrev Ee {P:Program} {pl:Pl} {f:Nat} (S:Ed P pl f):WF:=λc l h=>match l with |[a0,a1,a2,a3,a4,a5,a6]=>(S c a0 a1 a2 a3 a4 a5 a6 h).1 |_=>none
theorem To {P:Program} {pl:Pl} {f:Nat} (S:Ed P pl f):eG P f (Ee S):=by
 intro c l h r e;unfold Ee at e
 split at e
 ·exact⟨pl,(S ..).2.trans e⟩
 ·cases e
end
end Go.Ae
namespace Go.Ae
open Go
noncomputable section
abbrev Il (S:CV→AH→R):WF:=λc l h=>match l with |[]=>S c  h |_=>none
theorem Tp {P:Program} {f:Nat} {pl:Pl} {S:CV→AH→R} (q:∀(c:CV) (h:AH),zU P NN pl c f [] h=S c  h):eG P f (Il S):=by
 intro c l h r e;unfold Il at e
 split at e
 ·exact⟨pl,by rw[q];exact e⟩
 ·cases e
abbrev rZ (S:CV→AV→AH→R):WF:=λc l h=>match l with |[a0]=>S c a0 h |_=>none
theorem Jm {P:Program} {f:Nat} {pl:Pl} {S:CV→AV→AH→R} (q:∀(c:CV) (a0:AV) (h:AH),zU P NN pl c f [a0] h=S c a0 h):eG P f (rZ S):=by
 intro c l h r e;unfold rZ at e
 split at e
 ·exact⟨pl,by rw[q];exact e⟩
 ·cases e
abbrev tL (S:CV→AV→AV→AH→R):WF:=λc l h=>match l with |[a0,a1]=>S c a0 a1 h |_=>none
theorem XN {P:Program} {f:Nat} {pl:Pl} {S:CV→AV→AV→AH→R} (q:∀(c:CV) (a0 a1:AV) (h:AH),zU P NN pl c f [a0,a1] h=S c a0 a1 h):eG P f (tL S):=by
 intro c l h r e;unfold tL at e
 split at e
 ·exact⟨pl,by rw[q];exact e⟩
 ·cases e
abbrev Ln (S:CV→AV→AV→AV→AV→AH→R):WF:=λc l h=>match l with |[a0,a1,a2,a3]=>S c a0 a1 a2 a3 h |_=>none
theorem qw0 {P:Program} {f:Nat} {pl:Pl} {S:CV→AV→AV→AV→AV→AH→R} (q:∀(c:CV) (a0 a1 a2 a3:AV) (h:AH),zU P NN pl c f [a0,a1,a2,a3] h=S c a0 a1 a2 a3 h):eG P f (Ln S):=by
 intro c l h r e;unfold Ln at e
 split at e
 ·exact⟨pl,by rw[q];exact e⟩
 ·cases e
abbrev Lo (S:CV→AV→AV→AV→AV→AV→AH→R):WF:=λc l h=>match l with |[a0,a1,a2,a3,a4]=>S c a0 a1 a2 a3 a4 h |_=>none
theorem qym {P:Program} {f:Nat} {pl:Pl} {S:CV→AV→AV→AV→AV→AV→AH→R} (q:∀(c:CV) (a0 a1 a2 a3 a4:AV) (h:AH),zU P NN pl c f [a0,a1,a2,a3,a4] h=S c a0 a1 a2 a3 a4 h):eG P f (Lo S):=by
 intro c l h r e;unfold Lo at e
 split at e
 ·exact⟨pl,by rw[q];exact e⟩
 ·cases e
end
end Go.Ae
abbrev Go.Ae.iI (n:Nat):Go.Ae.AV:=.int .i64 (.ofNat n)
abbrev Go.Ae.uU (n:Nat):Go.Ae.AV:=.int .u64 (.ofNat n)
namespace Go.Ae
abbrev iQ:=@if_neg
abbrev iJ:=@if_pos
theorem iZ {n:Nat}:Int.ofNat n=(n:Int):=rfl
abbrev iX:=@List.mem_cons_of_mem
abbrev iK:=@List.mem_cons_self
abbrev iV:=@decide_eq_false
abbrev iG:=@decide_eq_true
abbrev iW:=@List.getElem?_eq_getElem
abbrev iY:=@Nat.ble_eq_true_of_le
abbrev iA:=@List.eq_nil_of_length_eq_zero
end Go.Ae
