/- The abstract executor of the program's form in Lean, shown sound: values, heaps, operations, code: plain definitions. -/
import Derived.CallsIn
import Derived.OrdersIn
import Derived.Eval
import Derived.RangeFuncIn
import Derived.RangeFuncLeaves
import Derived.Still
import Derived.Lib.ItoaNum
theorem Go.Ae.aM {P : Prop} (h : P :=by simp) : P :=h
theorem Go.Ae.od {P : Prop} (h : P :=by decide) : P :=h
theorem Go.Ae.omQ {P : Prop} (h : P :=by omega) : P :=h
namespace Go.Ae
noncomputable section
def Cq : List (String × IntKind × List Int) := []
inductive PT (α:Type) where
  |e
  |n (l:PT α) (v:Option α) (r:PT α)
def PT.get {α:Type} (t:PT α) (i:Nat):Option α :=
 PT.rec (motive:=λ_=>Nat→Option α) (λ_=>none)
  (λ_ v _ l r i=>Bool.rec (motive:=λ_=>Option α) (Bool.rec (motive:=λ_=>Option α) (r (Nat.sub (Nat.div i 2) 1)) (l (Nat.div i 2)) (Nat.beq (Nat.mod i 2) 1)) v (Nat.beq i 0)) t i
def PT.lm {α:Type} (f:Nat) (t:PT α) (i:Nat) (x:α):PT α :=
 Nat.rec (motive:=λ_=>PT α→Nat→PT α) (λ_ _=>.e)
  (λ_ ih t i=>PT.rec (motive:=λ_=>PT α)
   (Bool.rec (motive:=λ_=>PT α) (Bool.rec (motive:=λ_=>PT α) (.n .e none (ih .e (Nat.sub (Nat.div i 2) 1))) (.n (ih .e (Nat.div i 2)) none .e) (Nat.beq (Nat.mod i 2) 1)) (.n .e (some x) .e) (Nat.beq i 0))
   (λl v r _ _=>Bool.rec (motive:=λ_=>PT α) (Bool.rec (motive:=λ_=>PT α) (.n l v (ih r (Nat.sub (Nat.div i 2) 1))) (.n (ih l (Nat.div i 2)) v r) (Nat.beq (Nat.mod i 2) 1)) (.n l (some x) r) (Nat.beq i 0)) t) f t i
def PT.set {α:Type} (t:PT α) (i:Nat) (x:α):PT α:=PT.lm (i+1) t i x
def PT.nu {α:Type} (i m:Nat) (t:PT α):PT α:=PT.rec (motive:=λ_=>PT α) .e (λl _ r _ _=>Bool.rec (motive:=λ_=>PT α) r l (Nat.beq (Nat.land i m) 0)) t
def PT.leaf {α:Type} (t:PT α):Option α:=PT.rec (motive:=λ_=>Option α) none (λ_ v _ _ _=>v) t
def PT.sub {α:Type} (i m:Nat) (f:PT α→PT α) (t:PT α):PT α :=
 PT.rec (motive:=λ_=>PT α) (Bool.rec (motive:=λ_=>PT α) (.n .e none (f .e)) (.n (f .e) none .e) (Nat.beq (Nat.land i m) 0))
  (λl v r _ _=>Bool.rec (motive:=λ_=>PT α) (.n l v (f r)) (.n (f l) v r) (Nat.beq (Nat.land i m) 0)) t
def PT.mark {α:Type} (x:α) (t:PT α):PT α:=PT.rec (motive:=λ_=>PT α) (.n .e (some x) .e) (λl _ r _ _=>.n l (some x) r) t
def PT.mM {α:Type} (t:PT α) (i:Nat):Option α:=PT.leaf (PT.nu i 1 (PT.nu i 2 (PT.nu i 4 (PT.nu i 8 (PT.nu i 16 (PT.nu i 32 (PT.nu i 64 (PT.nu i 128 (PT.nu i 256 (PT.nu i 512 (PT.nu i 1024 (PT.nu i 2048 (t)))))))))))))
def PT.pO {α:Type} (t:PT α) (i:Nat) (x:α):PT α:=PT.sub i 2048 (PT.sub i 1024 (PT.sub i 512 (PT.sub i 256 (PT.sub i 128 (PT.sub i 64 (PT.sub i 32 (PT.sub i 16 (PT.sub i 8 (PT.sub i 4 (PT.sub i 2 (PT.sub i 1 (PT.mark x)))))))))))) t
abbrev aH (α:Type):=PT (PT α)
def aH.get {α:Type} (t:aH α) (i:Nat):Option α:=Option.rec (motive:=λ_=>Option α) none (λs=>PT.mM s i) (PT.get t (Nat.div i 4096))
def aH.set {α:Type} (t:aH α) (i:Nat) (x:α):aH α:=PT.set t (Nat.div i 4096) (PT.pO (Option.rec (motive:=λ_=>PT α) .e (λs=>s) (PT.get t (Nat.div i 4096))) i x)
inductive AV where
  |bool (b:Bool)
  |int (k:IntKind) (n:Int)
  |str (s:List UInt8)
  |ptr (b off:Nat)
  |aW
  /--opn: the room is that of the block,less 'cap' elements ahead;else the room is 'cap'-/
  |slice (b off len cap:Nat) (aO:Bool)
  |aj
  |fn (f:FuncId) (first cap:List AV)
  |yield (l:Nat)
  |eR
  |iface (t:TypeId) (v:AV)
  |dQ
  |agg (l:List AV)
  |cA (l:List AV)
  /--an empty slice without room,wherever it points-/
  |bM (a:Addr)
  /--an empty slice behind all that an open block's slice shows: where it points hangs on the room-/
  |tail (b off rI i1:Nat)
  /--a map of the walk's own-/
  |da (b:Nat)
  deriving Inhabited
def AV.undef:AV:=.cA []
def AV.cells:AV→List AV
 | .agg l=>l
 |v=>[v]
def AV.one:AV→Bool
 | .agg _=>false
 | .cA _=>false
 |_=>true
def kN {α:Type} (l:List α) (i:Nat):Option α :=
 List.rec (motive:=λ_=>Nat→Option α) (λ_=>none) (λa _ ih i=>Bool.rec (motive:=λ_=>Option α) (ih (Nat.sub i 1)) (some a) (Nat.beq i 0)) l i
def vh {α:Type} (n:Nat) (l:List α):Option (List α) :=
 Nat.rec (motive:=λ_=>List α→Option (List α)) (λ_=>some [])
  (λ_ ih l=>List.rec (motive:=λ_=>Option (List α)) none (λa r _=>Option.rec (motive:=λ_=>Option (List α)) none (λs=>some (a::s)) (ih r)) l) n l
def gj {α:Type} (n:Nat) (l:List α):List α :=
 Nat.rec (motive:=λ_=>List α→List α) (λl=>l) (λ_ ih l=>List.rec (motive:=λ_=>List α) [] (λ_ r _=>ih r) l) n l
def NF {α:Type} (l xs:List α):Option (List α) :=
 List.rec (motive:=λ_=>List α→Option (List α)) (λl=>some l)
  (λx _ ih l=>List.rec (motive:=λ_=>Option (List α)) none (λ_ l _=>Option.rec (motive:=λ_=>Option (List α)) none (λs=>some (x::s)) (ih l)) l) xs l
def JE {α:Type} (l:List α) (off:Nat) (xs:List α):Option (List α) :=
 Nat.rec (motive:=λ_=>List α→Option (List α)) (λl=>NF l xs)
  (λ_ ih l=>List.rec (motive:=λ_=>Option (List α)) none (λa l _=>Option.rec (motive:=λ_=>Option (List α)) none (λs=>some (a::s)) (ih l)) l) off l
def gu {α:Type} (l:List α):Nat→List α
 | 0=>[]
 |n+1=>l++gu l n
inductive CT where
  |fG (xs:List AV)
  |tree (n:Nat) (z:List AV) (tr:aH AV)
def Jb (z:List AV) (t:aH AV) (i:Nat):Option AV:=Option.rec (motive:=λ_=>Option AV) (kN z (Nat.mod i z.length)) (λv=>some v) (aH.get t i)
def kY (z:List AV) (t:aH AV) (i:Nat):AV:=match Jb z t i with |some v=>v |none=>.undef
def Bj (t:aH AV) (i:Nat) (xs:List AV):aH AV :=
 List.rec (motive:=λ_=>aH AV→Nat→aH AV) (λt _=>t) (λx _ ih t i=>ih (aH.set t i x) (Nat.succ i)) xs t i
def XC (z:List AV) (t:aH AV) (i n:Nat):Option (List AV) :=
 Nat.rec (motive:=λ_=>Nat→Option (List AV)) (λ_=>some [])
  (λ_ ih i=>Option.rec (motive:=λ_=>Option (List AV)) none (λv=>Option.rec (motive:=λ_=>Option (List AV)) none (λs=>some (v::s)) (ih (Nat.succ i))) (Jb z t i)) n i
def CT.toList:CT→List AV
 | .fG xs=>xs
 | .tree n z tr=>(List.range n).map (kY z tr)
def CT.len:CT→Nat
 | .fG xs=>xs.length
 | .tree n _ _=>n
def CT.fN (c:CT) (i:Nat):Option AV:=match c with
 | .fG xs=>kN xs i
 | .tree n z tr=>bif Nat.ble (i+1) n then Jb z tr i else none
def CT.lT (c:CT) (off n:Nat):Option (List AV):=match c with
 | .fG xs=>vh n (gj off xs)
 | .tree m z tr=>bif Nat.beq n 0 then some []else bif Nat.ble (off+n) m then XC z tr off n else none
def CT.write (c:CT) (off:Nat) (xs:List AV):Option CT:=match c with
 | .fG ys=>(JE ys off xs).bind λs=>some (.fG s)
 | .tree n z tr=>bif Nat.ble (off+xs.length) n then some (.tree n z (Bj tr off xs))else none
def CT.ofList (xs:List AV):CT:=bif Nat.ble xs.length 16 then .fG xs else .tree xs.length [] (Bj .e 0 xs)
def CT.Ep (z:List AV) (n:Nat):CT:=bif Nat.ble (z.length*n) 16 then .fG (gu z n)else .tree (z.length*n) z .e
def CT.lH (c:CT) (xs:List AV):CT:=match c with
 | .fG ys=>CT.ofList (ys++xs)
 | .tree n z tr=>.tree (n+xs.length) z (Bj tr n xs)
def CT.pre (c:CT) (n:Nat):Option CT:=match c with
 | .fG ys=>(vh n ys).bind λs=>some (.fG s)
 | .tree m z tr=>bif Nat.ble n m then some (.tree n z tr)else none
def CT.Pe (c:CT) (off n:Nat):Option CT:=bif Nat.beq off 0 then c.pre n else(c.lT off n).bind λl=>some (CT.ofList l)
inductive AX where
  |normal
  |exit (id:Nat)
  |goto (l:Nat)
  |ret
inductive cW where
  |cells (c:CT) (elem:TypeId) (aO:Bool)
  |dead
  |iter (s:List UInt8) (pos:Nat)
  |loop (st:LoopState) (dp:Option AX) (fn:Nat) (pos L:List Nat) (vs:List AV) (d:Nat)
  |Er
  |sF
  /--cells that are the caller's: some are known,none is written-/
  |dh (t:aH AV)
  /--a map of numbers to numbers: key,value,when it came;the clock-/
  |mp (l:List (Int×Int×Nat)) (clk:Nat)
structure AH where
  nx:Nat
  rc:List (Nat×cW)
  t:aH cW
def VZ (l:List (Nat×cW)) (b:Nat) (d:Option cW):Option cW:=List.rec (motive:=λ_=>Option cW) d (λp _ ih=>Bool.rec (motive:=λ_=>Option cW) ih (some p.2) (Nat.beq p.1 b)) l
def On (n:Nat) (l:List (Nat×cW)):List (Nat×cW) :=
 Nat.rec (motive:=λ_=>List (Nat×cW)→List (Nat×cW)) (λ_=>[]) (λ_ ih l=>List.rec (motive:=λ_=>List (Nat×cW)) [] (λp r _=>p::ih r) l) n l
def Zx (l:List (Nat×cW)) (t:aH cW):aH cW:=List.rec (motive:=λ_=>aH cW) t (λp _ ih=>aH.set ih p.1 p.2) l
def AH.get (h:AH) (b:Nat):Option cW:=VZ h.rc b (aH.get h.t b)
def AH.put (h:AH) (b:Nat) (x:cW):AH:=⟨h.nx,(b,x)::On 5 h.rc,Zx (gj 5 h.rc) h.t⟩
def AH.new (h:AH) (x:cW):AH:=⟨Nat.succ h.nx,(h.nx,x)::On 5 h.rc,Zx (gj 5 h.rc) h.t⟩
def UL:Value→Option AV
 | .bool b=>some (.bool b)
 | .int k n=>some (.int k n)
 | .string s=>some (.str s.data.toList)
 | .pointer none=>some .aW
 | .slice none 0 0=>some .aj
 | .nilFunc=>some .eR
 | .nilIface=>some .dQ
 |_=>none
def kX {α β:Type} (f:α→Option β):List α→Option (List β)
 |[]=>some []
 |a::r=>(f a).bind λb=>(kX f r).bind λs=>some (b::s)
def Fv:Value→Option AV
 | .agg cs=>(kX UL cs.toList).map .agg
 | .tuple cs=>(kX UL cs.toList).map .cA
 | .func (.func f) first cap=>bif first.isEmpty&&cap.isEmpty then some (.fn f [] [])else none
 |v=>UL v
def ev (tm:PT AV):Operand→Option AV
 | .tmp t=>tm.get t
 | .const v=>Fv v
 | .global _=>none
 | .func f=>some (.fn f [] [])
def yo (h:AH) (b off n:Nat):Option (List AV) :=
 match h.get b with
 |some (.cells c _ _)=>c.lT off n
 |some (.dh t)=>XC [] t off n
 |_=>none
def jW (l:List AV):Bool:=l.all AV.one
def wK (h:AH) (b off:Nat) (xs:List AV):Option AH :=
 match h.get b with
 |some (.cells c e o)=>bif jW xs then(c.write off xs).bind λc'=>some (h.put b (.cells c' e o))else none
 |_=>none
def aK (P:Program) (t:TypeId):Option Nat:=(P.info? t).map (·.size)
def ff (P:Program) (t:TypeId):Option AV:=(P.info? t).bind λi=>i.zero.bind Fv
def lr (P:Program) (t:TypeId):Option Bool:=(P.underlying t).map fun | .struct _=>true | .array _ _=>true |_=>false
def QW (P:Program) (t:TypeId):Option (Option Nat):=(lr P t).bind λa=>bif a then(aK P t).map some else some none
def gn:List AV→List (Nat×Nat×AV)→Option (List AV)
 |cs,[]=>some cs
 |cs,(o,n,v)::r=>bif Nat.beq v.cells.length n then(JE cs o v.cells).bind λSe=>gn Se r else none
def zu (k:IntKind) (n:Int):Int :=
 match k,n with
 | .i64,.ofNat a=>bif Nat.ble a 9223372036854775807 then .ofNat a else IntKind.wrap .i64 (.ofNat a)
 | .i64,.negSucc a=>bif Nat.ble a 9223372036854775807 then .negSucc a else IntKind.wrap .i64 (.negSucc a)
 | .u64,.ofNat a=>.ofNat (a%18446744073709551616)
 | .u64,.negSucc a=>.ofNat (18446744073709551615-a%18446744073709551616)
 | .u8,.ofNat a=>.ofNat (a%256)
 |k,n=>IntKind.wrap k n
def ny:Int→Int→Bool
 | .ofNat a,.ofNat b=>Nat.beq a b
 | .negSucc a,.negSucc b=>Nat.beq a b
 |_,_=>false
def pP:Int→Int→Bool
 | .ofNat a,.ofNat b=>Nat.ble (a+1) b
 | .ofNat _,.negSucc _=>false
 | .negSucc _,.ofNat _=>true
 | .negSucc a,.negSucc b=>Nat.ble (b+1) a
def JP (op:BinOp) (k:IntKind) (x y:Int):Option AV :=
 match op with
 | .add=>some (.int k (zu k (x+y)))
 | .sub=>some (.int k (zu k (x-y)))
 | .mul=>some (.int k (zu k (x*y)))
 | .quo=>bif ny y 0 then none else some (.int k (zu k (x.tdiv y)))
 | .rem=>bif ny y 0 then none else some (.int k (x.tmod y))
 | .and=>some (.int k (k.wrap (BitVec.ofInt k.bits x&&&BitVec.ofInt k.bits y).toNat))
 | .or=>some (.int k (k.wrap (BitVec.ofInt k.bits x|||BitVec.ofInt k.bits y).toNat))
 | .xor=>some (.int k (k.wrap (BitVec.ofInt k.bits x ^^^ BitVec.ofInt k.bits y).toNat))
 | .andNot=>some (.int k (k.wrap (BitVec.ofInt k.bits x&&& ~~~ BitVec.ofInt k.bits y).toNat))
 | .eql=>some (.bool (ny x y))
 | .neq=>some (.bool (!ny x y))
 | .lss=>some (.bool (pP x y))
 | .leq=>some (.bool (!pP y x))
 | .gtr=>some (.bool (pP y x))
 | .geq=>some (.bool (!pP x y))
 | .shl | .shr=>none
def MI (op:BinOp) (k:IntKind) (x y:Int):Option AV :=
 bif pP y 0 then none else
 match op with
 | .shl=>some (.int k (zu k (x*2 ^ (min y.toNat k.bits))))
 | .shr=>some (.int k (x.fdiv (2 ^ (min y.toNat k.bits))))
 |_=>none
def lU:List UInt8→List UInt8→Bool
 |[],[]=>true
 |a::x,b::y=>a==b&&lU x y
 |_,_=>false
def Cr (op:BinOp) (x y:List UInt8):Option AV :=
 match op with
 | .add=>bif Nat.ble (x.length+y.length) 1073741824 then some (.str (x++y))else none
 | .eql=>some (.bool (lU x y))
 | .neq=>some (.bool (!lU x y))
 | .lss=>some (.bool (Op.bytesLess x y))
 | .leq=>some (.bool (Op.bytesLess x y||lU x y))
 | .gtr=>some (.bool (!(Op.bytesLess x y||lU x y)))
 | .geq=>some (.bool (!Op.bytesLess x y))
 |_=>none
inductive EK where
  |bool |int |str |ptr |Pf |fn |Pg
def Va:TypeDesc→Option EK
 | .bool=>some .bool
 | .int _=>some .int
 | .string=>some .str
 | .pointer _=>some .ptr
 | .slice _=>some .Pf
 | .func _ _ _=>some .fn
 | .interface _=>some .Pg
 |_=>none
def Y7 (d:EK) (x y:AV):Option Bool :=
 match d,x,y with
 | .bool,.bool a,.bool b=>some (a==b)
 | .int,.int k a,.int k' b=>bif k==k' then some (ny a b)else none
 | .str,.str a,.str b=>some (lU a b)
 | .ptr,.aW,.aW=>some true
 | .ptr,.aW,.ptr _ _=>some false
 | .ptr,.ptr _ _,.aW=>some false
 | .Pf,.aj,.aj=>some true
 | .Pf,.aj,.slice ..=>some false
 | .Pf,.slice ..,.aj=>some false
 | .fn,.eR,.eR=>some true
 | .fn,.eR,.fn ..=>some false
 | .fn,.fn ..,.eR=>some false
 | .Pg,.dQ,.iface _ _=>some false
 | .Pg,.iface _ _,.dQ=>some false
 |_,_,_=>none
inductive ES where
  |nK (k:EK) (o:Nat)
  |len (n:Nat)
def yV:List ES→List AV→List AV→Option Bool
 |[],_,_=>some true
 | .nK d o::r,xs,ys=>(kN xs o).bind λx=>(kN ys o).bind λy=>(Y7 d x y).bind λe=>bif e then yV r xs ys else some false
 | .len n::r,xs,ys=>bif Nat.ble n xs.length&&Nat.ble n ys.length then yV r xs ys else none
def XT (n:Nat):List ES→Bool
 |[]=>true
 | .nK _ o::r=>Nat.ble (o+1) n&&XT n r
 | .len m::r=>Nat.ble m n&&XT n r
def KZ (c:Nat):List ES→List ES
 |[]=>[]
 | .nK k o::r=>.nK k (c+o)::KZ c r
 | .len m::r=>.len (c+m)::KZ c r
def Y9 (P:Program) (nest:List Field→Option (List ES)):List Field→Option (List ES)
 |[]=>some []
 | f :: r => bif f.name == "_" then none else (P.underlying f.type).bind fun u => match u with
  | .struct fs=>(aK P f.type).bind λn=>bif P.stoodInHeld f.type then none else(nest fs.toList).bind λl1=>bif XT n l1 then(Y9 P nest r).map λl2=>.len (f.offset+n)::(KZ f.offset l1++l2)else none
  |u=>(Va u).bind λk=>match k with
   | .Pg=>none
   |k=>(Y9 P nest r).map λl=>.nK k f.offset::l
def gg (P:Program):Nat→List Field→Option (List ES)
 | 0,_=>none
 |d+1,fs=>Y9 P (gg P d) fs
abbrev R:=Option (AV×AH)
abbrev CV:=AV→List AV→AH→R
abbrev ob {α:Type} (x:Option α) (k:α→R):R:=match x with |some a=>k a |none=>none
abbrev cK (b:Bool) (x y:R):R:=match b with |true=>x |false=>y
def vL {α:Type} (j:α) (f:α→R):R:=f j
def Kh {σ:Type} (N:Nat) (f:(σ→AH→List Nat→R)→σ→AH→List Nat→R):σ→AH→List Nat→R :=
 Nat.rec (motive:=λ_=>σ→AH→List Nat→R) (λ_ _ _=>none) (λ_ ih=>f ih) N
def AV.asBool (v:AV) (f:Bool→R) (d:R):R :=
 AV.rec (motive_1:=λ_=>R) (motive_2:=λ_=>PUnit) (λx0=>f x0) (λ_ _=>d) (λ_=>d) (λ_ _=>d) d (λ_ _ _ _ _=>d) d (λ_ _ _ _ _=>d) (λ_=>d) d (λ_ _ _=>d) d (λ_ _=>d) (λ_ _=>d) (λ_=>d) (λ_ _ _ _=>d) (λ_=>d) ⟨⟩ (λ_ _ _ _=>⟨⟩) v
def AV.asInt (v:AV) (f:IntKind→Int→R) (d:R):R :=
 AV.rec (motive_1:=λ_=>R) (motive_2:=λ_=>PUnit) (λ_=>d) (λx0 x1=>f x0 x1) (λ_=>d) (λ_ _=>d) d (λ_ _ _ _ _=>d) d (λ_ _ _ _ _=>d) (λ_=>d) d (λ_ _ _=>d) d (λ_ _=>d) (λ_ _=>d) (λ_=>d) (λ_ _ _ _=>d) (λ_=>d) ⟨⟩ (λ_ _ _ _=>⟨⟩) v
def AV.pQ (v:AV) (f:Nat→Nat→R) (d:R):R :=
 AV.rec (motive_1:=λ_=>R) (motive_2:=λ_=>PUnit) (λ_=>d) (λ_ _=>d) (λ_=>d) (λx0 x1=>f x0 x1) d (λ_ _ _ _ _=>d) d (λ_ _ _ _ _=>d) (λ_=>d) d (λ_ _ _=>d) d (λ_ _=>d) (λ_ _=>d) (λ_=>d) (λ_ _ _ _=>d) (λ_=>d) ⟨⟩ (λ_ _ _ _=>⟨⟩) v
def AV.asSlice (v:AV) (f:Nat→Nat→Nat→Nat→Bool→R) (d:R):R :=
 AV.rec (motive_1:=λ_=>R) (motive_2:=λ_=>PUnit) (λ_=>d) (λ_ _=>d) (λ_=>d) (λ_ _=>d) d (λx0 x1 x2 x3 x4=>f x0 x1 x2 x3 x4) d (λ_ _ _ _ _=>d) (λ_=>d) d (λ_ _ _=>d) d (λ_ _=>d) (λ_ _=>d) (λ_=>d) (λ_ _ _ _=>d) (λ_=>d) ⟨⟩ (λ_ _ _ _=>⟨⟩) v
def AV.asAgg (v:AV) (f:List AV→R) (d:R):R :=
 AV.rec (motive_1:=λ_=>R) (motive_2:=λ_=>PUnit) (λ_=>d) (λ_ _=>d) (λ_=>d) (λ_ _=>d) d (λ_ _ _ _ _=>d) d (λ_ _ _ _ _=>d) (λ_=>d) d (λ_ _ _=>d) d (λx0 _=>f x0) (λ_ _=>d) (λ_=>d) (λ_ _ _ _=>d) (λ_=>d) ⟨⟩ (λ_ _ _ _=>⟨⟩) v
def AV.Fw (v:AV) (f:List AV→R) (d:R):R :=
 AV.rec (motive_1:=λ_=>R) (motive_2:=λ_=>PUnit) (λ_=>d) (λ_ _=>d) (λ_=>d) (λ_ _=>d) d (λ_ _ _ _ _=>d) d (λ_ _ _ _ _=>d) (λ_=>d) d (λ_ _ _=>d) d (λ_ _=>d) (λx0 _=>f x0) (λ_=>d) (λ_ _ _ _=>d) (λ_=>d) ⟨⟩ (λ_ _ _ _=>⟨⟩) v
def kn (k:IntKind):Nat:=IntKind.rec (motive:=λ_=>Nat) 0 1 2 3 4 5 6 7 k
def Sf (a b:IntKind):Bool:=Nat.beq (kn a) (kn b)
def Ct (t w:Bool):Bool:=Bool.rec (motive:=λ_=>Bool) (Bool.rec (motive:=λ_=>Bool) true false w) (Bool.rec (motive:=λ_=>Bool) false true w) t
def Cu (x y:Int):Int:=Int.rec (motive:=λ_=>Int) (λa=>Int.rec (motive:=λ_=>Int) (λb=>.ofNat (Nat.add a b)) (λb=>Int.add (.ofNat a) (.negSucc b)) y) (λa=>Int.add (.negSucc a) y) x
def Cv (x y:Int):Int:=Int.rec (motive:=λ_=>Int) (λa=>Int.rec (motive:=λ_=>Int) (λb=>Bool.rec (motive:=λ_=>Int) (.negSucc (Nat.sub (Nat.sub b a) 1)) (.ofNat (Nat.sub a b)) (Nat.ble b a)) (λb=>Int.sub (.ofNat a) (.negSucc b)) y) (λa=>Int.sub (.negSucc a) y) x
def ZU (x y:Int):Bool:=Int.rec (motive:=λ_=>Bool) (λa=>Int.rec (motive:=λ_=>Bool) (λb=>Nat.ble (Nat.succ a) b) (λ_=>false) y) (λa=>Int.rec (motive:=λ_=>Bool) (λ_=>true) (λb=>Nat.ble (Nat.succ b) a) y) x
def Fx (x y:Int):Bool:=Int.rec (motive:=λ_=>Bool) (λa=>Int.rec (motive:=λ_=>Bool) (λb=>Nat.beq a b) (λ_=>false) y) (λa=>Int.rec (motive:=λ_=>Bool) (λ_=>false) (λb=>Nat.beq a b) y) x
def Cw (b:Bool):Bool:=Bool.rec (motive:=λ_=>Bool) true false b
def Fy (k:IntKind) (n:Int) (f:Int→R):R :=
 IntKind.rec (motive:=λ_=>R) (f (zu .i8 n)) (f (zu .i16 n)) (f (zu .i32 n))
  (Int.rec (motive:=λ_=>R) (λa=>Bool.rec (motive:=λ_=>R) (f (zu .i64 (.ofNat a))) (f (.ofNat a)) (Nat.ble a 9223372036854775807)) (λa=>f (zu .i64 (.negSucc a))) n)
  (f (zu .u8 n)) (f (zu .u16 n)) (f (zu .u32 n))
  (Int.rec (motive:=λ_=>R) (λa=>Bool.rec (motive:=λ_=>R) (f (zu .u64 (.ofNat a))) (f (.ofNat a)) (Nat.ble a 18446744073709551615)) (λa=>f (zu .u64 (.negSucc a))) n) k
def Sh (op:BinOp) (k:IntKind) (x y:Int) (f:AV→R):R :=
 BinOp.rec (motive:=λ_=>R) (Fy k (Cu x y) λn=>f (.int k n)) (Fy k (Cv x y) λn=>f (.int k n)) (ob (JP .mul k x y) f)
  (ob (JP .quo k x y) f) (ob (JP .rem k x y) f) (ob (JP .and k x y) f) (ob (JP .or k x y) f) (ob (JP .xor k x y) f) (ob (JP .shl k x y) f) (ob (JP .shr k x y) f) (ob (JP .andNot k x y) f)
  (f (.bool (Fx x y))) (f (.bool (Cw (Fx x y)))) (f (.bool (ZU x y))) (f (.bool (Cw (ZU y x)))) (f (.bool (ZU y x))) (f (.bool (Cw (ZU x y)))) op
def zU (v:AV) (a b:R):R:=v.asBool (λt=>Bool.rec (motive:=λ_=>R) b a t) none
def JB (v:AV) (w:Bool) (a b:R):R:=v.asBool (λt=>Bool.rec (motive:=λ_=>R) b a (Ct t w)) b
def w4 (c a b:AV) (k:AV→R):R:=c.asBool (λt=>Bool.rec (motive:=λ_=>R) (k b) (k a) t) none
def zn (v:AV) (k:AV→R):R:=match v with | .ptr b o=>k (.ptr b o) | .fn f a c=>k (.fn f a c) | .yield l=>k (.yield l) |_=>none
def qH (v:AV) (off:Nat) (k:AV→R):R:=v.pQ (λb o=>k (.ptr b (Nat.add o off))) none
def Gt (v:AV) (off:Nat) (k:AV→R):R:=v.asAgg (λcs=>Option.rec (motive:=λ_=>R) none k (kN cs off)) none
def Kg (v:AV) (off n:Nat) (k:AV→R):R:=match v with | .agg cs=>ob (vh n (gj off cs)) λl=>k (.agg l) |_=>none
def yt (v i:AV) (sz:Nat) (k:AV→R):R :=
 v.asSlice (λb off len _ _=>i.asInt (λ_ n=>Int.rec (motive:=λ_=>R) (λa=>Bool.rec (motive:=λ_=>R) none (k (.ptr b (Nat.add off (Nat.mul a sz)))) (Nat.ble (Nat.succ a) len)) (λ_=>none) n) none) none
def Ji (v i:AV) (n sz:Nat) (k:AV→R):R:=match v,i with | .ptr b off,.int _ (.ofNat a)=>bif Nat.ble (a+1) n then k (.ptr b (off+a*sz))else none |_,_=>none
def J6 (v i:AV) (n sz:Nat) (k:AV→R):R:=match v,i with | .agg cs,.int _ (.ofNat a)=>bif Nat.ble (a+1) n then ob (kN cs (a*sz)) k else none |_,_=>none
def KV (v i:AV) (n sz:Nat) (k:AV→R):R:=match v,i with | .agg cs,.int _ (.ofNat a)=>bif Nat.ble (a+1) n then ob (vh sz (gj (a*sz) cs)) λl=>k (.agg l)else none |_,_=>none
def X8 (v i:AV) (k:AV→R):R:=match v,i with | .str s,.int _ (.ofNat a)=>ob (kN s a) λc=>k (.int .u8 (.ofNat c.toNat)) |_,_=>none
def jK (h:AH) (v:AV) (k:AV→R):R :=
 v.pQ (λb off=>Option.rec (motive:=λ_=>R) none (λx=>cW.rec (motive:=λ_=>R) (λc _ _=>Option.rec (motive:=λ_=>R) none k (c.fN off)) none (λ_ _=>none) (λ_ _ _ _ _ _ _=>none) none none (λt=>Option.rec (motive:=λ_=>R) none k (aH.get t off)) (λ_ _=>none) x) (h.get b)) none
def jr (h:AH) (v:AV) (n:Nat) (k:AV→R):R:=v.pQ (λb off=>Option.rec (motive:=λ_=>R) none (λl=>k (.agg l)) (yo h b off n)) none
def jw (h:AH) (a x:AV) (n:Nat) (k:AH→R):R:=a.pQ (λb off=>Bool.rec (motive:=λ_=>R) none (Option.rec (motive:=λ_=>R) none k (wK h b off x.cells)) (Nat.beq x.cells.length n)) none
def j6 (op:BinOp) (x y:AV) (k:AV→R):R:=x.asInt (λk1 a=>y.asInt (λk2 b=>Bool.rec (motive:=λ_=>R) none (Sh op k1 a b k) (Sf k1 k2)) none) none
def wh (op:BinOp) (x y:AV) (k:AV→R):R:=match x,y with | .int k1 a,.int _ b=>ob (MI op k1 a b) k |_,_=>none
def Uc (op:BinOp) (x y:AV) (k:AV→R):R:=match x,y with | .str a,.str b=>ob (Cr op a b) k |_,_=>none
def sh (d:EK) (neg:Bool) (x y:AV) (k:AV→R):R:=ob (Y7 d x y) λe=>k (.bool (e !=neg))
def UP (l:List ES) (neg:Bool) (x y:AV) (k:AV→R):R:=match x,y with | .agg a,.agg b=>ob (yV l a b) λe=>k (.bool (e !=neg)) |_,_=>none
def sG (op:UnOp) (x:AV) (k:AV→R):R :=
 match op,x with
 | .neg,.int d n=>k (.int d (zu d (0-n)))
 | .not,.bool b=>k (.bool (!b))
 | .xor,.int d n=>k (.int d (d.wrap (BitVec.ofInt d.bits (if d.signed then-1 else d.max) ^^^ BitVec.ofInt d.bits n).toNat))
 |_,_=>none
def QI (d:IntKind) (x:AV) (k:AV→R):R:=match x with | .int _ n=>k (.int d (zu d n)) |_=>none
def G3 (x:AV) (k:AV→R):R:=match x with | .str s=>k (.str s) |_=>none
def Xo:List AV→Option (List UInt8)
 |[]=>some []
 | .int .u8 (.ofNat n)::r=>(Xo r).bind λs=>some (UInt8.ofNat n::s)
 |_=>none
def Nf (h:AH) (x:AV) (k:AV→R):R:=match x with | .aj=>k (.str []) | .slice b off len _ _=>ob (yo h b off len) λcs=>ob (Xo cs) λs=>k (.str s) |_=>none
def Bk (h:AH) (e:TypeId) (x:AV) (k:AV→AH→R):R:=match x with
 | .str s=>bif Nat.ble s.length 1073741824 then k (.slice h.nx 0 s.length 0 true) (h.new (.cells (CT.ofList (s.map λ(c:UInt8)=>.int .u8 (.ofNat c.toNat))) e true))else none
 |_=>none
def Z4 (x:AV) (y:Nat):Option Nat:=match x with | .int _ (.ofNat a)=>bif Nat.ble a y then some a else none |_=>none
def vI (x:Option AV) (y fg:Nat):Option Nat:=match x with |none=>some fg |some v=>Z4 v y
def XR (v:AV) (lo hi:Option AV) (k:AV→R):R:=match v with
 | .str s=>ob (vI hi s.length s.length) λh=>ob (vI lo h 0) λl=>ob (vh (h-l) (gj l s)) λt=>k (.str t)
 |_=>none
def vJ (h:AH) (el:TypeId) (b off sz i0 len:Nat):Bool:=match h.get b with
 |some (.cells c e true)=>Nat.beq el e&&(Nat.ble 1 sz&&(Nat.beq off (i0*sz)&&Nat.ble (off+len*sz) c.len))
 |_=>false
def xC (h:AH) (el:TypeId) (sz:Nat) (v:AV) (lo hi:Option AV) (k:AV→R):R:=match v with
 | .slice b off len cap false=>ob (vI hi cap len) λu=>ob (vI lo u 0) λl=>k (.slice b (bif Nat.beq cap l then off else off+l*sz) (u-l) (cap-l) false)
 | .slice b off len i0 true=>bif vJ h el b off sz i0 len then
   ob (vI hi len len) λu=>ob (vI lo u 0) λl=>bif Nat.beq l 0 then k (.slice b off u i0 true)else bif Nat.ble (l+1) len then k (.slice b (off+l*sz) (u-l) (i0+l) true)else k (.tail b off (off+l*sz) (i0+l))
  else none
 | .aj=>ob (vI hi 0 0) λ_=>ob (vI lo 0 0) λ_=>k .aj
 | .bM a=>ob (vI hi 0 0) λ_=>ob (vI lo 0 0) λ_=>k (.bM a)
 |_=>none
def YQ (n sz:Nat) (v:AV) (lo hi:Option AV) (k:AV→R):R:=match v with
 | .ptr b off=>ob (vI hi n n) λh=>ob (vI lo h 0) λl=>k (.slice b (bif Nat.beq n l then off else off+l*sz) (h-l) (n-l) false)
 |_=>none
def wR (t:TypeId) (z v:AV) (k:AV→R):R:=match v with
 | .iface u x=>bif Nat.beq u t then k (.cA [x,.bool true])else k (.cA [z,.bool false])
 | .dQ=>k (.cA [z,.bool false])
 |_=>none
def Jc (t:TypeId) (v:AV) (k:AV→R):R:=match v with | .iface u x=>bif Nat.beq u t then k x else none |_=>none
def wn (v:AV) (i:Nat) (k:AV→R):R:=v.Fw (λl=>Option.rec (motive:=λ_=>R) none k (kN l i)) none
def kH (v:AV) (k:AV→R):R:=match v with | .slice _ _ len _ _=>k (.int .i64 (.ofNat len)) | .aj=>k (.int .i64 (.ofNat 0)) | .bM _=>k (.int .i64 (.ofNat 0)) | .tail _ _ _ _=>k (.int .i64 (.ofNat 0)) |_=>none
def YX (v:AV) (k:AV→R):R:=match v with | .str s=>k (.int .i64 (.ofNat s.length)) |_=>none
def Fz (mx:Bool):AV→AV→Option AV
 | .int k x,.int k' y=>bif k==k' then some (.int k (bif mx then(bif pP x y then y else x)else(bif pP y x then y else x)))else none
 |_,_=>none
def Cy (mx:Bool):AV→List AV→Option AV
 |a,[]=>some a
 |a,b::r=>(Fz mx a b).bind λc=>Cy mx c r
def MS:AV→Bool | .int _ _=>true |_=>false
def rJ (mx:Bool) (l:List AV) (k:AV→R):R:=match l with |a::r=>bif MS a then ob (Cy mx a r) k else none |[]=>none
def J4 (h:AH) (e:TypeId) (v:AV) (k:AV→AH→R):R:=bif jW v.cells then k (.ptr h.nx 0) (h.new (.cells (CT.ofList v.cells) e false))else none
def zc (z:List AV) (vs:List (Nat×Nat×AV)) (k:AV→R):R:=ob (gn z vs) λl=>k (.agg l)
def xd (h:AH) (e:TypeId) (z:List AV) (len:Nat) (vs:List (Nat×Nat×AV)) (k:AV→AH→R):R :=
 ob (gn (gu z len) vs) λcs=>bif jW cs then k (.slice h.nx 0 len len false) (h.new (.cells (CT.ofList cs) e false))else none
def YG (h:AH) (e:TypeId) (z:List AV) (l c:AV) (k:AV→AH→R):R:=match l,c with
 | .int _ (.ofNat ln),.int _ (.ofNat cp)=>bif Nat.ble ln cp&&Nat.ble cp 1073741824 then k (.slice h.nx 0 ln cp false) (h.new (.cells (CT.Ep z cp) e false))else none
 |_,_=>none
def kJ (h:AH) (sz n:Nat):AV→Option (List AV)
 | .slice b off _ _ _=>yo h b off (n*sz)
 | .aj=>some []
 | .bM _=>bif Nat.beq n 0 then some []else none
 | .tail _ _ _ _=>bif Nat.beq n 0 then some []else none
 | .str s=>(vh n s).map (List.map λ(c:UInt8)=>AV.int .u8 (.ofNat c.toNat))
 |_=>none
def QF:AV→Option Nat
 | .slice _ _ len _ _=>some len
 | .aj=>some 0
 | .bM _=>some 0
 | .tail _ _ _ _=>some 0
 | .str s=>some s.length
 |_=>none
def NB (h:AH) (sz n:Nat):AV→Option CT
 | .slice b off _ _ _=>(match h.get b with
  |some (.cells c _ _)=>c.Pe off (n*sz)
  |some (.dh t)=>(XC [] t off (n*sz)).bind λl=>some (CT.ofList l)
  |_=>none)
 | .aj=>some (.fG [])
 | .bM _=>bif Nat.beq n 0 then some (.fG [])else none
 | .tail _ _ _ _=>bif Nat.beq n 0 then some (.fG [])else none
 | .str s=>(vh n s).bind λl=>some (CT.ofList (l.map λ(c:UInt8)=>AV.int .u8 (.ofNat c.toNat)))
 |_=>none
def vt (h:AH) (e:TypeId) (sz:Nat) (s:AV) (n:Nat) (nc:CT) (k:AV→AH→R):R:=match s with
 | .aj=>bif Nat.beq n 0 then k .aj h else bif Nat.ble n 67108864 then k (.slice h.nx 0 n 0 true) (h.new (.cells nc e true))else none
 | .slice b off len cap false=>
  bif Nat.ble (len+n) cap then(bif Nat.beq n 0 then k (.slice b off len cap false) h else ob (wK h b (off+len*sz) nc.toList) λh'=>k (.slice b off (len+n) cap false) h')
  else bif Nat.ble (len+n) 67108864 then ob (yo h b off (len*sz)) λbU=>k (.slice h.nx 0 (len+n) 0 true) (h.new (.cells (bif Nat.beq len 0 then nc else CT.ofList (bU++nc.toList)) e true))
  else none
 | .slice b off len i0 true=>
  match h.get b with
  |some (.cells c e' true)=>
   bif Nat.ble 1 sz&&(Nat.beq off (i0*sz)&&(Nat.beq e e'&&Nat.ble (off+len*sz) c.len))then
    bif Nat.beq n 0 then k (.slice b off len i0 true) h else
    bif Nat.ble (off+(len+n)*sz) c.len then ob (wK h b (off+len*sz) nc.toList) λh'=>k (.slice b off (len+n) i0 true) h'
    else bif Nat.beq i0 0&&(Nat.ble (len+n) 67108864&&jW nc.toList)then
     ob (c.pre (len*sz)) λbU=>k (.slice h.nx 0 (len+n) 0 true) ((h.put b .dead).new (.cells (bU.lH nc.toList) e true))
    else none
   else none
  |_=>none
 |_=>none
def xH (h:AH) (e:TypeId) (sz:Nat) (s x:AV) (k:AV→AH→R):R :=
 ob (QF x) λn=>ob (NB h sz n x) λnc=>bif Nat.beq nc.len (n*sz)then vt h e sz s n nc k else none
def K7 (h:AH) (sz:Nat) (d s:AV) (k:AV→AH→R):R :=
 ob (QF s) λn=>ob (QF d) λm=>ob (kJ h sz (Nat.min n m) s) λcs=>match d with
  | .slice b off _ _ _=>bif Nat.beq (Nat.min n m) 0 then k (.int .i64 (.ofNat 0)) h else ob (wK h b off cs) λh'=>k (.int .i64 (.ofNat (Nat.min n m))) h'
  | .aj=>k (.int .i64 (.ofNat 0)) h
  |_=>none
def KC (h:AH) (v:AV) (k:AV→AH→R):R:=match v with | .str s=>k (.ptr h.nx 0) (h.new (.iter s 0)) |_=>none
def QT (x:Int):List (Int×Int×Nat)→Nat→Option (Nat×Int×Nat)
 |[],_=>none
 |e::r,i=>bif ny x e.1 then some (i,e.2)else QT x r (i+1)
def Ph (x:Int):List (Int×Int×Nat)→Nat→Option Nat
 |[],_=>none
 |e::r,i=>bif ny (.ofNat e.2.2) x then some i else Ph x r (i+1)
def yO (y:Int):List (Int×Int×Nat)→Nat→List (Int×Int×Nat)
 |[],_=>[]
 |e::r,0=>(e.1,y,e.2.2)::r
 |e::r,i+1=>e::yO y r i
def XZ (h:AH) (k:AV→AH→R):R:=k (.da h.nx) (h.new (.mp [] 0))
def NO (h:AH) (v:AV) (k:AV→R):R:=match v with
 | .da b=>(match h.get b with |some (.mp l _)=>k (.int .i64 (.ofNat l.length)) |_=>none)
 |_=>none
def KY (h:AH) (v i:AV) (k:AV→R):R:=match v,i with
 | .da b,.int .i64 x=>(match h.get b with |some (.mp l _)=>(match QT x l 0 with |some e=>k (.int .i64 e.2.1) |none=>k (.int .i64 (.ofNat 0))) |_=>none)
 |_,_=>none
def Vb (h:AH) (v i:AV) (k:AV→AH→R):R:=match v,i with
 | .da b,.int .i64 x=>(match h.get b with
  |some (.mp l c)=>(match QT x l 0 with |some e=>k (.cA [.int .i64 e.2.1,.int .i64 (.ofNat e.2.2)]) h |none=>k (.cA [.int .i64 (.ofNat 0),.int .i64 (.ofNat c)]) (h.put b (.mp (l++[(x,.ofNat 0,c)]) (c+1))))
  |_=>none)
 |_,_=>none
def Cz (h:AH) (v s y:AV) (k:AH→R):R:=match v,s,y with
 | .da b,.int .i64 x,.int .i64 z=>(match h.get b with
  |some (.mp l c)=>(match Ph x l 0 with |some i=>k (h.put b (.mp (yO z l i) c)) |none=>none)
  |_=>none)
 |_,_,_=>none
def MU (h:AH) (v i y:AV) (k:AH→R):R:=match v,i,y with
 | .da b,.int .i64 x,.int .i64 z=>(match h.get b with
  |some (.mp l c)=>(match QT x l 0 with |some e=>k (h.put b (.mp (yO z l e.1) c)) |none=>k (h.put b (.mp (l++[(x,z,c)]) (c+1))))
  |_=>none)
 |_,_,_=>none
def NI (h:AH) (v i:AV) (k:AV→AH→R):R:=match v,i with
 | .da b,.int .i64 x=>(match h.get b with
  |some (.mp l c)=>(match QT x l 0 with |some e=>k (.cA []) (h.put b (.mp (l.eraseIdx e.1) c)) |none=>k (.cA []) (h.put b (.mp l c)))
  |_=>none)
 |_,_=>none
def CA (P:Program) (t:TypeId):Bool:=match P.underlying t with
 |some (.map kt et)=>(match P.underlying kt,P.underlying et,ff P et with |some (.int .i64),some (.int .i64),some (.int .i64 (.ofNat 0))=>true |_,_,_=>false)
 |_=>false
def Mq (h:AH) (v:AV) (k:AV→AH→R):R:=match v with
 | .ptr b 0=>(match h.get b with
  |some (.iter s pos)=>bif Nat.ble (pos+1) s.length then
    k (.cA [.bool true,.int .i64 (.ofNat pos),.int .i32 (Utf8.decode ⟨s.toArray⟩ pos).1]) (h.put b (.iter s (pos+(Utf8.decode ⟨s.toArray⟩ pos).2)))
   else k (.cA [.bool false]) h
  |_=>none)
 |_=>none
def xS (c:CV) (f:AV) (a:List AV) (h:AH) (k:AV→AH→R):R:=Option.rec (motive:=λ_=>R) none (λq=>k q.1 q.2) (c f a h)
def Zz (l:List (Nat×Nat)) (t:Nat):Option Nat:=List.rec (motive:=λ_=>Option Nat) none (λp _ ih=>Bool.rec (motive:=λ_=>Option Nat) ih (some p.2) (Nat.beq p.1 t)) l
def JT (c:CV) (l:List (Nat×Nat)) (v:AV) (a:List AV) (h:AH) (k:AV→AH→R):R:=match v with
 | .iface t x=>Option.rec (motive:=λ_=>R) none (λf=>xS c (.fn f [] []) (x::a) h k) (Zz l t)
 |_=>none
def Nz (c:CV) (f:AV) (a:List AV) (h:AH) (k:AV→AH→R):R:=match f with | .fn _ _ _=>xS c f a h k |_=>none
def Zr (P:Program) (name:String) (t:TypeId):Option Nat :=
 (P.info? t).bind λi=>(i.methods.toList.find? (·.name==name)).bind λm=>bif m.path.isEmpty then m.func.bind λg=>bif g.2 then(P.underlying t).bind λd=>(match d with | .pointer _=>some g.1 |_=>none)else none else none
def FA (P:Program) (name:String):List Nat→List (Nat×Nat)
 |[]=>[]
 |t::r=>match Zr P name t with |some f=>(t,f)::FA P name r |none=>FA P name r
def Si (P:Program) (name:String):List (Nat×Nat):=FA P name (List.range P.types.size)
def qJ5 (P:Program) (t:TypeId) (f:Nat):Option Nat :=
 (P.underlying t).bind fun | .struct fs=>(fs[f]?).bind λg=>(aK P g.type).bind λsz=>bif Nat.beq sz 0 then none else some g.offset |_=>none
def Oo (P:Program) (t:TypeId) (f:Nat):Option (Nat×Option Nat) :=
 (P.underlying t).bind fun | .struct fs=>(fs[f]?).bind λg=>(QW P g.type).map λi=>(g.offset,i) |_=>none
def yd (pl:Nat→Option (Nat×Nat)) (r:Operand→Option AV):List (Nat×Operand)→Option (List (Nat×Nat×AV))
 |[]=>some []
 |(i,x)::l=>(pl i).bind λp=>(r x).bind λv=>(yd pl r l).map λs=>(p.1,p.2,v)::s
def Qw (P:Program) (fs:List Field):Option (List (Nat×Nat)):=kX (λf=>(aK P f.type).map λn=>(f.offset,n)) fs
def G9 (r:Operand→Option AV):Option Operand→Option (Option AV)
 |none=>some none
 |some x=>(r x).map some
abbrev FB (P:Program) (op:BinOp) (t:TypeId) (a b:AV) (k:AV→R):R :=
 match op with
 | .shl=>wh .shl a b k
 | .shr=>wh .shr a b k
 |op=>ob (P.underlying t) λd=>match d with
  | .int _=>j6 op a b k
  | .string=>Uc op a b k
  | .struct fs=>match op with
   | .eql=>cK (P.eqGuardType P.depth t||P.stoodInHeld t) (none) (ob (gg P 8 fs.toList) λl=>UP l false a b k)
   | .neq=>cK (P.eqGuardType P.depth t||P.stoodInHeld t) (none) (ob (gg P 8 fs.toList) λl=>UP l true a b k)
   |_=>none
  |d=>match op with
   | .eql=>ob (Va d) λe=>sh e false a b k
   | .neq=>ob (Va d) λe=>sh e true a b k
   |_=>none
abbrev NU (P:Program) (src dst:TypeId) (v:AV) (h:AH) (k:AV→AH→R):R :=
 ob (P.underlying src) λds=>ob (P.underlying dst) λdd=>match dd with
  | .int d=>(match ds with | .int _=>QI d v λz=>k z h |_=>none)
  | .string=>(match ds with
   | .string=>G3 v λz=>k z h
   | .slice e=>ob (P.underlying e) λde=>(match de with | .int .u8=>Nf h v λz=>k z h |_=>none)
   |_=>none)
  | .slice e=>(match ds with
   | .string=>ob (P.underlying e) λde=>(match de with | .int .u8=>ob (aK P e) λsz=>cK (Nat.beq sz 1) (Bk h e v k) none |_=>none)
   |_=>none)
  |_=>none
def US (P:Program) (e:TypeId):Option (List AV) :=
 (P.info? e).bind λi=>(ff P e).bind λz=>bif Nat.beq z.cells.length i.size&&(jW z.cells&&Nat.ble i.bytes 65536)then some z.cells else none
abbrev aX (P:Program) (c:CV) (o:Op) (r:Operand→Option AV) (h:AH) (k:AV→AH→R):R :=
 match o with
 | .move x=>ob (r x) λv=>k v h
 | .assign x=>ob (r x) λv=>k v h
 | .pick a b d=>ob (r a) λva=>ob (r b) λvb=>ob (r d) λvd=>w4 va vb vd λz=>k z h
 | .alloc e=>ob (ff P e) λz=>J4 h e z k
 | .box e x=>ob (r x) λv=>J4 h e v k
 | .build t parts=>ob (ff P t) λz=>ob (P.underlying t) λd=>match d with
  | .struct fs=>ob (Qw P fs.toList) λpl=>ob (yd (λi=>kN pl i) r parts.toList) λvs=>zc z.cells vs λv=>k v h
  | .array _ e=>ob (aK P e) λsz=>ob (yd (λi=>some (i*sz,sz)) r parts.toList) λvs=>zc z.cells vs λv=>k v h
  |_=>none
 | .buildSlice t len parts=>ob (P.underlying t) λd=>match d with
  | .slice e=>ob (US P e) λz=>cK (Nat.ble (len*z.length) 16777216) (ob (yd (λi=>some (i*z.length,z.length)) r parts.toList) λvs=>xd h e z len vs k) (none)
  |_=>none
 | .load t a=>ob (r a) λv=>ob (QW P t) λi=>match i with
  |none=>jK h v λz=>k z h
  |some n=>jr h v n λz=>k z h
 | .store t a x=>ob (r a) λva=>ob (r x) λvx=>ob (aK P t) λn=>jw h va vx n λh'=>k .undef h'
 | .nilCheck x=>ob (r x) λv=>zn v λz=>k z h
 | .binOp op t x y _=>ob (r x) λa=>ob (r y) λb=>FB P op t a b λz=>k z h
 | .unOp op _ x=>ob (r x) λv=>sG op v λz=>k z h
 | .convert s d x=>ob (r x) λv=>NU P s d v h k
 | .makeInterface t x=>ob (P.underlying t) λd=>match d with
  | .interface _=>none
  |_=>ob (r x) λv=>k (.iface t v) h
 | .makeFunc fn a cp=>match fn with
  | .func f=>ob (kX r a.toList) λva=>ob (kX r cp.toList) λvc=>k (.fn f va vc) h
  |_=>none
 | .makeSlice t l cp=>ob (P.underlying t) λd=>match d with
  | .slice e=>ob (US P e) λz=>ob (r l) λvl=>ob (r cp) λvc=>YG h e z vl vc k
  |_=>none
 | .slice t x lo hi mx=>match mx with
  |some _=>none
  |none=>ob (r x) λv=>ob (G9 r lo) λl=>ob (G9 r hi) λu=>ob (P.underlying t) λd=>match d with
   | .string=>XR v l u λz=>k z h
   | .slice e=>ob (aK P e) λsz=>xC h e sz v l u λz=>k z h
   | .array n e=>ob (aK P e) λsz=>YQ n sz v l u λz=>k z h
   |_=>none
 | .fieldAddr t x f=>ob (r x) λv=>ob (qJ5 P t f) λoff=>qH v off λz=>k z h
 | .field t x f=>ob (r x) λv=>ob (Oo P t f) λp=>match p.2 with
  |none=>Gt v p.1 λz=>k z h
  |some n=>Kg v p.1 n λz=>k z h
 | .indexAddr t x i=>ob (r x) λv=>ob (r i) λj=>ob (P.underlying t) λd=>match d with
  | .slice e=>ob (aK P e) λsz=>yt v j sz λz=>k z h
  | .array n e=>cK (Nat.ble 2 n) (ob (aK P e) λsz=>Ji v j n sz λz=>k z h) (none)
  |_=>none
 | .index t x i=>ob (r x) λv=>ob (r i) λj=>ob (P.underlying t) λd=>match d with
  | .string=>X8 v j λz=>k z h
  | .array n e=>ob (aK P e) λsz=>ob (lr P e) λg=>cK (g) (KV v j n sz λz=>k z h) (J6 v j n sz λz=>k z h)
  |_=>none
 | .typeAssert x _ t ok=>ob (r x) λv=>ob (P.underlying t) λd=>match d with
  | .interface _=>none
  |_=>cK (ok) (ob (ff P t) λz=>wR t z v λy=>k y h) (Jc t v λy=>k y h)
 | .extract x i=>ob (r x) λv=>wn v i λz=>k z h
 | .makeMap t hint=>match hint with
  |none=>cK (CA P t) (XZ h k) none
  |some _=>none
 | .lookup t x i ok=>cK (CA P t&&!ok) (ob (r x) λv=>ob (r i) λj=>KY h v j λz=>k z h) none
 | .mapEntry t x i=>cK (CA P t) (ob (r x) λv=>ob (r i) λj=>Vb h v j k) none
 | .mapUpdate t x s y=>cK (CA P t) (ob (r x) λv=>ob (r s) λj=>ob (r y) λu=>MU h v j u λh'=>k .undef h') none
 | .entryStore _ x s y=>ob (r x) λv=>ob (r s) λj=>ob (r y) λu=>Cz h v j u λh'=>k .undef h'
 | .range t x=>ob (P.underlying t) λd=>match d with
  | .string=>ob (r x) λv=>KC h v k
  |_=>none
 | .next it s=>cK (s) (ob (r it) λv=>Mq h v k) (none)
 | .call cl=>match cl.callee with
  | .value f=>ob (r f) λvf=>ob (kX r cl.args.toList) λva=>xS c vf va h k
  | .invoke x name=>ob (r x) λv=>ob (kX r cl.args.toList) λva=>JT c (Si P name) v va h k
  | .builtin b=>match b with
   | .len=>(match cl.args.toList,cl.argTypes.toList with
    |x::_,t::_=>ob (r x) λv=>ob (P.underlying t) λd=>(match d with
     | .string=>YX v λz=>k z h
     | .array n _=>k (.int .i64 (.ofNat n)) h
     | .slice _=>kH v λz=>k z h
     | .map _ _=>NO h v λz=>k z h
     |_=>none)
    |_,_=>none)
   | .min=>ob (kX r cl.args.toList) λl=>rJ false l λz=>k z h
   | .max=>ob (kX r cl.args.toList) λl=>rJ true l λz=>k z h
   | .append=>(match cl.args.toList,cl.argTypes.toList with
    |s::x::[],t::u::_=>ob (P.underlying u) λdu=>(match du with
     | .int _=>none
     |_=>ob (P.underlying t) λd=>(match d with
      | .slice e=>ob (US P e) λz=>ob (r s) λvs=>ob (r x) λvx=>xH h e z.length vs vx k
      |_=>none))
    |_,_=>none)
   | .copy=>(match cl.args.toList,cl.argTypes.toList with
    |s::x::[],t::_=>ob (P.underlying t) λd=>(match d with
      | .slice e=>ob (aK P e) λsz=>ob (r s) λvs=>ob (r x) λvx=>K7 h sz vs vx k
      |_=>none)
    |_,_=>none)
   | .delete=>(match cl.args.toList,cl.argTypes.toList with
    |s::x::[],t::_=>cK (CA P t) (ob (r s) λvs=>ob (r x) λvx=>NI h vs vx k) none
    |_,_=>none)
   |_=>none
 |_=>none
abbrev dt (P:Program) (c:CV) (o:Op) (r:Operand→Option AV) (h:AH):R:=aX P c o r h λv h'=>some (v,h')
def QC (all:List Oper) (o:Oper):Option Nat:=o.guard.bind λg=>(kN all g.1).bind λp=>p.dst
inductive Pl where
  |z
  |n (L:Option (List Nat)) (a b:Pl)
  |r (Ls:List (List Nat))
def has (tm:PT AV) (t:Nat):Bool:=match tm.get t with |some _=>true |none=>false
abbrev uA:List Nat→Type
 |[]=>Unit
 |_::L=>AV×uA L
def wa:(L:List Nat)→PT AV→uA L
 |[],_=>()
 |t::L,tm=>((match tm.get t with |some v=>v |none=>.undef),wa L tm)
def kD:(L:List Nat)→uA L→PT AV→PT AV
 |[],_,a=>a
 |t::L,s,a=>kD L s.2 (a.set t s.1)
def yA (tm:PT AV):List Nat→Bool
 |[]=>true
 |t::L=>has tm t&&yA tm L
abbrev M4 (n:Nat) (tm:PT AV) (dst:Option Tmp) (v:AV) (k:PT AV→R):R :=
 match dst with
 |none=>k tm
 |some d=>cK (Nat.ble (d+1) n) (k (tm.set d v)) (none)
abbrev Es (P:Program) (c:CV) (n:Nat):List Oper→PT AV→AH→(PT AV→AH→R)→R
 |[],tm,h,k=>k tm h
 |o::r,tm,h,k=>aX P c o.op (ev tm) h λv h'=>M4 n tm o.dst v λtm'=>Es P c n r tm' h' k
abbrev Mz (n:Nat):List Oper→PT AV→(PT AV→R)→R
 |[],tm,k=>k tm
 |o::r,tm,k=>M4 n tm o.dst .undef λtm'=>Mz n r tm' k
def writes (d:Nat):List Oper→Bool
 |[]=>false
 |o::r=>(match o.dst with |some t=>Nat.beq t d |none=>false)||writes d r
def Pj (g:Nat×Bool) (o:Oper):Bool:=match o.guard with |some g'=>Nat.beq g.1 g'.1&&g.2==g'.2 |none=>false
def xQ (g:Nat×Bool):List Oper→List Oper×List Oper
 |[]=>([],[])
 |o::r=>bif Pj g o then(o::(xQ g r).1,(xQ g r).2)else([],o::r)
abbrev G8 (P:Program) (c:CV) (n:Nat) (all:List Oper):Nat→List Oper→List (List Nat)→PT AV→AH→(PT AV→AH→R)→R
 |_,[],_,tm,h,k=>k tm h
 | 0,_::_,_,_,_,_=>none
 |f+1,o::r,Ls,tm,h,k=>match o.guard with
  |none=>aX P c o.op (ev tm) h λv h'=>M4 n tm o.dst v λtm'=>G8 P c n all f r Ls tm' h' k
  |some g=>ob (QC all o) λd=>ob (tm.get d) λvg=>
   match Ls with
   |[]=>none
   |L::Bl=>cK (writes d (o::(xQ g r).1)) none (vL (α:=uA L→AH→R) (λs h=>G8 P c n all f (xQ g r).2 Bl (kD L s .e) h k) λJ=>JB vg g.2
     (Es P c n (o::(xQ g r).1) tm h λtm' h'=>cK (yA tm' L) (J (wa L tm') h') none)
     (Mz n (o::(xQ g r).1) tm λtm'=>cK (yA tm' L) (J (wa L tm') h) none))
mutual
def gw:AV→AV→Bool
 | .bool a,.bool b=>a==b
 | .int k a,.int k' b=>k==k'&&ny a b
 | .str a,.str b=>lU a b
 | .ptr b o,.ptr b' o'=>Nat.beq b b'&&Nat.beq o o'
 | .aW,.aW=>true
 | .slice b o l c p,.slice b' o' l' c' p'=>Nat.beq b b'&&(Nat.beq o o'&&(Nat.beq l l'&&(Nat.beq c c'&&p==p')))
 | .aj,.aj=>true
 | .fn f a c,.fn f' a' c'=>Nat.beq f f'&&(Kf a a'&&Kf c c')
 | .yield l,.yield l'=>Nat.beq l l'
 | .eR,.eR=>true
 | .iface t v,.iface t' v'=>Nat.beq t t'&&gw v v'
 | .dQ,.dQ=>true
 | .agg l,.agg l'=>Kf l l'
 | .cA l,.cA l'=>Kf l l'
 | .bM a,.bM a'=>decide (a=a')
 | .tail b o o' i,.tail b' p p' j=>Nat.beq b b'&&(Nat.beq o p&&(Nat.beq o' p'&&Nat.beq i j))
 | .da b,.da b'=>Nat.beq b b'
 |_,_=>false
def Kf:List AV→List AV→Bool
 |[],[]=>true
 |a::r,b::s=>gw a b&&Kf r s
 |_,_=>false
end
inductive Cls where
  |pure |load |fresh |fH
def mX (P:Program):Op→Cls
 | .convert s d _=>match P.underlying d with
  |some (.int _)=>.pure
  |some .string=>match P.underlying s with
   |some .string=>.pure
   |_=>.fH
  |_=>.fH
 | .move _ | .assign _ | .pick .. | .build .. | .nilCheck _ | .binOp .. | .unOp .. | .makeInterface .. | .makeFunc .. | .slice .. | .fieldAddr .. | .field .. | .indexAddr .. | .index ..
 | .typeAssert .. | .extract ..=>.pure
 | .load ..=>.load
 | .alloc .. | .box .. | .buildSlice .. | .makeSlice ..=>.fresh
 | .call cl=>match cl.callee with
  | .builtin b=>match b with
   | .len=>(match cl.argTypes.toList with |t::_=>(match P.underlying t with |some (.map _ _)=>.fH |_=>.pure) |[]=>.pure)
   | .min=>.pure
   | .max=>.pure
   |_=>.fH
  |_=>.fH
 |_=>.fH
def xj (P:Program) (o:Op):Bool:=match mX P o with | .fH=>true |_=>false
def V2 (o:Op):Bool:=match o with | .load _ _=>true |_=>false
def Yj (P:Program) (o:Op):Bool:=match o with | .slice t _ _ _ _=>(match P.underlying t with |some (.slice _)=>true |_=>false) |_=>false
def gR (P:Program) (o:Op):Bool:=V2 o||Yj P o
def kq:List Oper→Nat→PT Nat→PT Nat
 |[],_,t=>t
 |o::r,j,t=>kq r (j+1) (t.set j (o.after.toList.foldl (λs e=>bif Region.binds .any e then s|||(2 ^ e.on|||(match t.get e.on with |some m=>m |none=>0))else s) 0))
def xg (t:PT Nat) (j:Nat):Nat:=match t.get j with |some m=>m |none=>0
def chain (P:Program) (t:PT Nat):List Oper→Nat→Option Nat→Bool
 |[],_,_=>true
 |o::r,j,last=>bif xj P o.op then(match last with |none=>true |some i=>Nat.testBit (xg t j) i)&&chain P t r (j+1) (some j)else chain P t r (j+1) last
def bit (t:Nat):Nat:=2 ^ t
def FC:List Nat→Nat
 |[]=>0
 |a::r=>a|||FC r
def rdO:Operand→Nat | .tmp t=>bit t |_=>0
def JA (all:List Oper) (o:Oper):Nat:=FC (o.op.operands.toList.map rdO)|||(match o.guard with |some _=>(match QC all o with |some d=>bit d |none=>0) |none=>0)
def X5 (o:Oper):Nat:=match o.dst with |some d=>bit d |none=>0
structure FD where
  i:Nat
  w:Nat
  l:Nat
def Pk (mk wj lj:Nat):List FD→Bool
 |[]=>true
 |e::r=>(Nat.testBit mk e.i||(Nat.beq (e.w&&&(lj|||wj)) 0&&Nat.beq (wj&&&e.l) 0))&&Pk mk wj lj r
def Qp (j:Nat):List Edge→Bool
 |[]=>true
 |e::r=>(bif Region.binds .any e then Nat.ble (e.on+1) j else true)&&Qp j r
def uQ (t:PT Nat) (all:List Oper):List Oper→Nat→List FD→Bool
 |[],_,_=>true
 |o::r,j,es=>Qp j o.after.toList&&(Pk (xg t j) (X5 o) (JA all o) es&&uQ t all r (j+1) (⟨j,X5 o,JA all o⟩::es))
def QY (t:PT Nat) (i j:Nat):Bool:=!(Nat.testBit (xg t i) j||Nat.testBit (xg t j) i)
def GQ (P:Program) (t:PT Nat) (i:Nat):List Oper→Nat→Bool
 |[],_=>false
 |o::r,j=>xj P o.op&&QY t i j||GQ P t i r (j+1)
def Y4 (P:Program) (p:Op→Bool) (t:PT Nat) (all:List Oper):List Oper→Nat→Bool
 |[],_=>false
 |o::r,i=>p o.op&&GQ P t i all 0||Y4 P p t all r (i+1)
def Pm (P:Program) (ops:Array Oper):Bool :=
 uQ (kq ops.toList 0 .e) ops.toList ops.toList 0 []&&chain P (kq ops.toList 0 .e) ops.toList 0 none
structure Yz where
  i:Nat
  a:AV
  n:Option Nat
  v:AV
structure Xx where
  j:Nat
  hb:AH
  ha:AH
def zR (a:AV) (n:Option Nat) (v:AV) (h:AH):Bool :=
 match a with
 | .ptr b off=>(match h.get b with
  |some (.cells c _ _)=>(match n with
   |none=>(match c.fN off with |some x=>gw x v |none=>false)
   |some n=>(match c.lT off n with |some l=>gw (.agg l) v |none=>false))
  |some (.dh t)=>(match n with
   |none=>(match aH.get t off with |some x=>gw x v |none=>false)
   |some n=>(match XC [] t off n with |some l=>gw (.agg l) v |none=>false))
  |_=>false)
 | .slice b off len i0 true=>(match n with |some m=>vJ h (m/65536) b off (m%65536) i0 len |none=>false)
 | .slice _ _ _ _ false=>true
 | .aj=>true
 | .bM _=>true
 |_=>false
def Uj (a:AV) (nx:Nat):Bool:=match a with | .ptr b _=>Nat.ble (b+1) nx | .slice b _ _ _ true=>Nat.ble (b+1) nx | .slice _ _ _ _ false=>true | .aj=>true | .bM _=>true |_=>false
def kA (a:AV) (n:Option Nat) (v:AV) (hb ha:AH) (nx:Nat) (k:R):R:=bif zR a n v hb&&(zR a n v ha&&Uj a nx)then k else none
abbrev FE (t:PT Nat) (i:Nat) (a:AV) (n:Option Nat) (v:AV) (nx:Nat):List Xx→R→R
 |[],k=>k
 |⟨j,hb,ha⟩::r,k=>cK (QY t i j) (kA a n v hb ha nx (FE t i a n v nx r k)) (FE t i a n v nx r k)
abbrev Zb (t:PT Nat) (hs:List Xx) (nx:Nat):List Yz→R→R
 |[],k=>k
 |⟨i,a,n,v⟩::r,k=>FE t i a n v nx hs (Zb t hs nx r k)
def Yu (r:Operand→Option AV):Op→Option AV
 | .load _ a=>r a
 | .slice _ x _ _ _=>r x
 |_=>none
def wF (P:Program):Op→Option Nat
 | .load t _=>match QW P t with |some i=>i |none=>none
 | .slice t _ _ _ _=>match P.underlying t with
  |some (.slice e)=>(match aK P e with |some sz=>bif Nat.ble (sz+1) 65536 then some (e*65536+sz)else none |none=>none)
  |_=>none
 |_=>none
def OD:List (Nat×Bool×Bool)→Nat→Bool→Option Bool
 |[],_,_=>none
 |x::r,d,w=>bif Nat.beq x.1 d&&(x.2.1==w)then some x.2.2 else bif Nat.beq x.1 d&&x.2.2 then some false else OD r d w
def CC (dst:Option Tmp) (d:Nat):Bool:=match dst with |some t=>Nat.beq t d |none=>false
def cV (dst:Option Tmp):List (Nat×Bool×Bool)→List (Nat×Bool×Bool)
 |[]=>[]
 |x::r=>bif CC dst x.1 then cV dst r else x::cV dst r
abbrev jQt (o:Option Bool) (v:AV) (w:Bool) (a b:R):R:=match o with |some true=>a |some false=>b |none=>JB v w a b
abbrev Kl (P:Program) (c:CV) (n:Nat) (all:List Oper):List Oper→Nat→List (Nat×Bool×Bool)→PT AV→AH→List Yz→List Xx→(PT AV→AH→List Yz→List Xx→R)→R
 |[],_,_,tm,h,ls,hs,k=>k tm h ls hs
 |o::r,j,kn,tm,h,ls,hs,k=>
  match o.guard with
  |none=>aX P c o.op (ev tm) h λv h'=>M4 n tm o.dst v λtm'=>cK (gR P o.op) (ob (Yu (ev tm) o.op) λa=>Kl P c n all r (j+1) (cV o.dst kn) tm' h' (⟨j,a,wF P o.op,v⟩::ls) hs k) (cK (xj P o.op) (Kl P c n all r (j+1) (cV o.dst kn) tm' h' ls (⟨j,h,h'⟩::hs) k) (Kl P c n all r (j+1) (cV o.dst kn) tm' h' ls hs k))
  |some g=>ob (QC all o) λd=>ob (tm.get d) λvg=>jQt (OD kn d g.2) vg g.2
   (aX P c o.op (ev tm) h λv h'=>M4 n tm o.dst v λtm'=>
    cK (gR P o.op) (ob (Yu (ev tm) o.op) λa=>Kl P c n all r (j+1) (cV o.dst ((d,g.2,true)::kn)) tm' h' (⟨j,a,wF P o.op,v⟩::ls) hs k) (cK (xj P o.op) (Kl P c n all r (j+1) (cV o.dst ((d,g.2,true)::kn)) tm' h' ls (⟨j,h,h'⟩::hs) k) (Kl P c n all r (j+1) (cV o.dst ((d,g.2,true)::kn)) tm' h' ls hs k)))
   (M4 n tm o.dst .undef λtm'=>Kl P c n all r (j+1) (cV o.dst ((d,g.2,false)::kn)) tm' h ls hs k)
abbrev Sj (P:Program) (c:CV) (n:Nat) (ops:Array Oper) (Ls:List (List Nat)) (tm:PT AV) (h:AH) (k:PT AV→AH→R):R :=
 cK (Pm P ops) ((cK (Y4 P (gR P) (kq ops.toList 0 .e) ops.toList ops.toList 0) (match Ls with
   |[]=>none
   |L::_=>vL (α:=uA L→AH→R) (λs h=>k (kD L s .e) h)
     λJ=>Kl P c n ops.toList ops.toList 0 [] tm h [] [] λtm' h' ls hs=>Zb (kq ops.toList 0 .e) hs h.nx ls (cK (yA tm' L) (J (wa L tm') h') (none))) (G8 P c n ops.toList ops.toList.length ops.toList Ls tm h k))) (none)
def Z8 (h:AH) (l:Nat) (k:AH→R):R:=match h.get l with
 |some (.loop .ready dp f p L vs d)=>k (h.put l (.loop .busy dp f p L vs d))
 |_=>none
def Q5 (h:AH) (l:Nat) (j:Option AX):R:=match h.get l with
 |some (.loop _ _ f p L vs d)=>(match j with
  |none=>some (.bool true,h.put l (.loop .ready none f p L vs d))
  |some x=>some (.bool false,h.put l (.loop .done (some x) f p L vs d)))
 |_=>none
def Xv (h:AH) (l:Nat) (k:Option AX→AH→R):R:=match h.get l with
 |some (.loop st dp f p L vs d)=>(match st with
  | .busy=>none
  |_=>k dp (h.put l (.loop .exhausted dp f p L vs d)))
 |_=>none
def uR:AX→AX→Bool
 | .normal,.normal=>true
 | .ret,.ret=>true
 | .exit a,.exit b=>Nat.beq a b
 | .goto a,.goto b=>Nat.beq a b
 |_,_=>false
def Pn (p:Option AX) (x:AX) (a b:R):R:=match p with |some y=>bif uR y x then a else b |none=>b
def OV (p:Option AX) (a b:R):R:=match p with |none=>a |some _=>b
def YT:Code→List Nat→List AX
 | .seq a b,l=>YT a l++YT b l
 | .cond _ a b,l=>YT a l++YT b l
 | .block id a,l=>YT a (id::l)
 | .loop a,l=>YT a l
 | .rangeFunc _ _ _ b,l=>YT b l
 | .exit id,l=>bif l.contains id then[]else[.exit id]
 | .ret,_=>[.ret]
 |_,_=>[]
abbrev VP (p:Option AX) (k:AX→R):List AX→R
 |[]=>none
 |x::r=>Pn p x (k x) (VP p k r)
def Po (h:AH) (l:Nat) (k:Nat→R):R:=match h.get l with |some (.loop _ _ _ _ _ _ d)=>k d |_=>none
def kU:(L:List Nat)→PT AV→List AV
 |[],_=>[]
 |t::L,tm=>(match tm.get t with |some v=>v |none=>.undef)::kU L tm
def oY:Pl→Pl | .n _ a _=>a |_=>.z
def Bm:Pl→Pl | .n _ _ b=>b |_=>.z
def Bn:Pl→Option (List Nat) | .n L _ _=>L |_=>none
def Pp:Pl→List (List Nat) | .r l=>l |_=>[]
abbrev wE (P:Program) (N:Nat) (c:CV) (f n:Nat) (rd:Option Nat):Code→List Nat→Pl→PT AV→AH→List Nat→(AX→PT AV→AH→List Nat→R)→R
  | .skip,_,_,tm,h,ds,k=>k .normal tm h ds
  | .region _ ops d,_,pl,tm,h,ds,k=>cK (d) (Sj P c n ops (Pp pl) tm h λtm h=>k .normal tm h ds) (G8 P c n ops.toList ops.toList.length ops.toList (Pp pl) tm h λtm h=>k .normal tm h ds)
  | .seq a b,pos,pl,tm,h,ds,k=>match Bn pl with
    | some L => vL (α := uA L → AH → List Nat → R)
        (λs h ds=>wE P N c f n rd b (pos++[1]) (Bm pl) (kD L s .e) h ds k)
        λJ=>wE P N c f n rd a (pos++[0]) (oY pl) tm h ds λx tm' h ds=>match x with
          | .normal=>cK (yA tm' L) (J (wa L tm') h ds) (none) |x=>k x tm' h ds
    |none=>wE P N c f n rd a (pos++[0]) (oY pl) tm h ds λx tm' h ds=>match x with
      | .normal=>wE P N c f n rd b (pos++[1]) (Bm pl) tm' h ds k
      |x=>k x tm' h ds
  | .cond o a b,pos,pl,tm,h,ds,k=>ob (ev tm o) λv=>zU v (wE P N c f n rd a (pos++[0]) (oY pl) tm h ds k) (wE P N c f n rd b (pos++[1]) (Bm pl) tm h ds k)
  | .block id a,pos,pl,tm,h,ds,k=>match Bn pl with
    | some L => vL (α := uA L → AH → List Nat → R)
        (λs h ds=>k .normal (kD L s .e) h ds)
        λJ=>wE P N c f n rd a (pos++[0]) (oY pl) tm h ds λx tm' h ds=>match x with
          | .normal=>cK (yA tm' L) (J (wa L tm') h ds) (none) | .exit i=>cK (Nat.beq i id) ((cK (yA tm' L) (J (wa L tm') h ds) (none))) (k (.exit i) tm' h ds) |x=>k x tm' h ds
    |none=>wE P N c f n rd a (pos++[0]) (oY pl) tm h ds λx tm' h ds=>match x with
      | .exit i=>cK (Nat.beq i id) (k .normal tm' h ds) (k (.exit i) tm' h ds)
      |x=>k x tm' h ds
  | .loop a,pos,pl,tm,h,ds,k=>match Bn pl with
    | some L => cK (yA tm L) (Kh (σ := uA L) N
        (λih s h ds=>wE P N c f n rd a (pos++[0]) (oY pl) (kD L s .e) h ds λx tm' h ds=>match x with
          | .normal=>cK (yA tm' L) (ih (wa L tm') h ds) (none) |x=>k x tm' h ds)
        (wa L tm) h ds) (none)
    |none=>none
  | .exit id,_,_,tm,h,ds,k=>k (.exit id) tm h ds
  | .label _,_,_,tm,h,ds,k=>k .normal tm h ds
  | .goto l,_,_,tm,h,ds,k=>k (.goto l) tm h ds
  | .ret,_,_,tm,h,ds,k=>k .ret tm h ds
  | .rangeFunc g _ _ body,pos,pl,tm,h,ds,k=>ob (ev tm g) λvf=>match Bn pl with
    |none=>none
    | some L => cK (yA tm L) ((fun (go : Nat → AH → List Nat → R) => match rd with
       |none=>go h.nx (h.new .Er) (h.nx::ds)
       |some l0=>Po h l0 λd=>go d h ds)
      λd h1 ds1=>Nz c vf [.yield h1.nx] (h1.new (.loop .ready none f pos L (kU L tm) d)) λ_ h2=>
        Xv h2 h1.nx λp h3=>OV p (k .normal tm h3 ds1) (VP p (λx=>k x tm h3 ds1) (YT body []))) (none)
  |_,_,_,_,_,_,_=>none
def zT:List Nat→AH→(AH→R)→R
 |[],h,k=>k h
 |d::r,h,k=>match h.get d with
  |some .Er=>zT r (h.put d .sF) k
  |_=>none
def Et:List AV→Nat→PT AV→PT AV
 |[],_,t=>t
 |a::r,i,t=>Et r (i+1) (t.set i a)
abbrev V7 (P:Program) (tm:PT AV) (h:AH):List ResultVar→(List AV→R)→R
 |[],k=>k []
 |x::r,k=>match x with
  | .tmp t=>ob (tm.get t) λv=>V7 P tm h r λl=>k (v::l)
  | .cell a t=>ob (tm.get a) λva=>ob (QW P t) λi=>match i with
   |none=>jK h va λv=>V7 P tm h r λl=>k (v::l)
   |some n=>jr h va n λv=>V7 P tm h r λl=>k (v::l)
def mC (l:List AV):AV:=match l with |[v]=>v |l=>.cA l
abbrev gP (P:Program) (N:Nat) (pl:Pl) (c:CV) (f:FuncId) (args:List AV) (h:AH):R :=
 ob (P.funcs[f]?) λfn=>ob fn.body λb=>
  wE P N c f fn.ntmps none b [] pl (Et args 0 .e) h [] λx tm h ds=>match x with
   | .normal=>zT ds h λh'=>V7 P tm h' fn.results.toList λl=>some (mC l,h')
   | .ret=>zT ds h λh'=>V7 P tm h' fn.results.toList λl=>some (mC l,h')
   |_=>none
def xM:Code→List Nat→Option Code
 |c,[]=>some c
 | .seq a b,i::p=>bif Nat.beq i 0 then xM a p else xM b p
 | .cond _ a b,i::p=>bif Nat.beq i 0 then xM a p else xM b p
 | .block _ a,_::p=>xM a p
 | .loop a,_::p=>xM a p
 | .rangeFunc _ _ a b,i::p=>bif Nat.beq i 0 then xM a p else xM b p
 |_,_::_=>none
abbrev Pq:List Tmp→List AV→Nat→PT AV→(PT AV→R)→R
 |[],[],_,t,k=>k t
 |p::ps,v::vs,n,t,k=>cK (Nat.ble (p+1) n) (Pq ps vs n (t.set p v) k) (none)
 |_,_,_,_,_=>none
abbrev uS:List Nat→List AV→PT AV→(PT AV→R)→R
 |[],[],t,k=>k t
 |x::L,v::vs,t,k=>uS L vs (t.set x v) k
 |_,_,_,_=>none
abbrev Sk (P:Program) (N:Nat) (pl:Pl) (c:CV) (f:FuncId) (pos L:List Nat) (l:Nat) (vs args:List AV) (h:AH):R :=
 ob (P.funcs[f]?) λfn=>ob fn.body λb=>ob (xM b pos) λs=>match s with
  | .rangeFunc _ ps assign body=>uS L vs .e λSm=>Pq ps.toList args fn.ntmps Sm λtm=>
   wE P N c f fn.ntmps (some l) assign (pos++[0]) (oY pl) tm h [] λx tm h ds=>match x with
    | .normal=>Z8 h l λh=>wE P N c f fn.ntmps (some l) body (pos++[1]) (Bm pl) tm h ds λx _ h _=>match x with
     | .normal=>Q5 h l none
     |x=>Q5 h l (some x)
    |_=>none
  |_=>none
def NN:Nat:=1000000000
abbrev WF:=CV→List AV→AH→R
abbrev VF:=CV→Nat→List AV→List AV→AH→R
def pR (P:Program) (f:Nat) (w:WF):Prop:=∀c l h r,w c l h=some r→∃pl,gP P NN pl c f l h=some r
def Sn (P:Program) (f:Nat) (pos L:List Nat) (w:VF):Prop:=∀c l x y h r,w c l x y h=some r→∃pl,Sk P NN pl c f pos L l x y h=some r
structure RT where
  f:Nat
  pos:List Nat
  L:List Nat
  run:VF
def Ky:List Nat→List Nat→Bool
 |[],[]=>true
 |a::x,b::y=>Nat.beq a b&&Ky x y
 |_,_=>false
def MZ:List RT→Nat→List Nat→List Nat→Option VF
 |[],_,_,_=>none
 |x::r,f,pos,L=>bif Nat.beq x.f f&&(Ky x.pos pos&&Ky x.L L)then some x.run else MZ r f pos L
inductive BT where
  |no
  |leaf (f:Nat) (w:WF)
  |node (m:Nat) (l r:BT)
def BT.get (t:BT) (f:Nat):Option WF :=
 BT.rec (motive:=λ_=>Option WF) none (λg w=>Bool.rec (motive:=λ_=>Option WF) none (some w) (Nat.beq g f)) (λm _ _ l r=>Bool.rec (motive:=λ_=>Option WF) r l (Nat.ble f m)) t
def BT.all (p:Nat→WF→Prop):BT→Prop
 | .no=>True
 | .leaf f w=>p f w
 | .node _ l r=>l.all p∧r.all p
def BT.fs:BT→List Nat
 | .no=>[]
 | .leaf f _=>[f]
 | .node _ l r=>l.fs++r.fs
def callT (tab:BT) (rt:List RT) (k:Nat):CV :=
 Nat.rec (motive:=λ_=>CV) (λ_ _ _=>none) (λ_ ih v args h=>match v with
  | .fn f first cap=>Option.rec (motive:=λ_=>R) none (λg=>g ih (first++args++cap) h) (BT.get tab f)
  | .yield l=>(match h.get l with
   |some (.loop .ready _ f pos L vs _)=>(match MZ rt f pos L with |some g=>g ih l vs args h |none=>none)
   |_=>none)
  |_=>none) k
def isTrue (r:R):Bool:=match r with |some (.bool true,_)=>true |_=>false
def AH.empty:AH:=⟨0,[],.e⟩
end
end Go.Ae
namespace Go.Ae
open Go
noncomputable section
theorem pLn {h:AH} {k:AH→R}:zT [] h k=k h:=rfl
structure tR (x:R) where
 val:R
 property:x=val:=by conv=>lhs;reduce;try dsimp only[pLn]
abbrev So (P:Program) (pl:Pl) (f:Nat):Type:=(c:CV)→(h:AH)→tR (gP P NN pl c f [] h)
abbrev Sp {P:Program} {pl:Pl} {f:Nat} (S:So P pl f):WF:=λc l h=>match l with |[]=>(S c h).1 |_=>none
theorem tO0 {P:Program} {pl:Pl} {f:Nat} (S:So P pl f):pR P f (Sp S):=by
 intro c l h r e;unfold Sp at e
 split at e
 ·exact⟨pl,(S ..).2.trans e⟩
 ·cases e
abbrev cX (P:Program) (pl:Pl) (f:Nat):Type:=(c:CV)→(a0:AV)→(h:AH)→tR (gP P NN pl c f [a0] h)
abbrev cY {P:Program} {pl:Pl} {f:Nat} (S:cX P pl f):WF:=λc l h=>match l with |[a0]=>(S c a0 h).1 |_=>none
theorem dl {P:Program} {pl:Pl} {f:Nat} (S:cX P pl f):pR P f (cY S):=by
 intro c l h r e;unfold cY at e
 split at e
 ·exact⟨pl,(S ..).2.trans e⟩
 ·cases e
abbrev dM (P:Program) (pl:Pl) (f:Nat):Type:=(c:CV)→(a0 a1:AV)→(h:AH)→tR (gP P NN pl c f [a0,a1] h)
abbrev dN {P:Program} {pl:Pl} {f:Nat} (S:dM P pl f):WF:=λc l h=>match l with |[a0,a1]=>(S c a0 a1 h).1 |_=>none
theorem dX {P:Program} {pl:Pl} {f:Nat} (S:dM P pl f):pR P f (dN S):=by
 intro c l h r e;unfold dN at e
 split at e
 ·exact⟨pl,(S ..).2.trans e⟩
 ·cases e
abbrev lu (P:Program) (pl:Pl) (f:Nat):Type:=(c:CV)→(a0 a1 a2:AV)→(h:AH)→tR (gP P NN pl c f [a0,a1,a2] h)
abbrev lf {P:Program} {pl:Pl} {f:Nat} (S:lu P pl f):WF:=λc l h=>match l with |[a0,a1,a2]=>(S c a0 a1 a2 h).1 |_=>none
theorem mw {P:Program} {pl:Pl} {f:Nat} (S:lu P pl f):pR P f (lf S):=by
 intro c l h r e;unfold lf at e
 split at e
 ·exact⟨pl,(S ..).2.trans e⟩
 ·cases e
abbrev Bo (P:Program) (pl:Pl) (f:Nat):Type:=(c:CV)→(a0 a1 a2 a3:AV)→(h:AH)→tR (gP P NN pl c f [a0,a1,a2,a3] h)
abbrev uB {P:Program} {pl:Pl} {f:Nat} (S:Bo P pl f):WF:=λc l h=>match l with |[a0,a1,a2,a3]=>(S c a0 a1 a2 a3 h).1 |_=>none
theorem FG {P:Program} {pl:Pl} {f:Nat} (S:Bo P pl f):pR P f (uB S):=by
 intro c l h r e;unfold uB at e
 split at e
 ·exact⟨pl,(S ..).2.trans e⟩
 ·cases e
abbrev CD (P:Program) (pl:Pl) (f:Nat):Type:=(c:CV)→(a0 a1 a2 a3 a4:AV)→(h:AH)→tR (gP P NN pl c f [a0,a1,a2,a3,a4] h)
abbrev Bp {P:Program} {pl:Pl} {f:Nat} (S:CD P pl f):WF:=λc l h=>match l with |[a0,a1,a2,a3,a4]=>(S c a0 a1 a2 a3 a4 h).1 |_=>none
theorem Ps {P:Program} {pl:Pl} {f:Nat} (S:CD P pl f):pR P f (Bp S):=by
 intro c l h r e;unfold Bp at e
 split at e
 ·exact⟨pl,(S ..).2.trans e⟩
 ·cases e
abbrev Pt (P:Program) (pl:Pl) (f:Nat):Type:=(c:CV)→(a0 a1 a2 a3 a4 a5 a6:AV)→(h:AH)→tR (gP P NN pl c f [a0,a1,a2,a3,a4,a5,a6] h)
abbrev Pu {P:Program} {pl:Pl} {f:Nat} (S:Pt P pl f):WF:=λc l h=>match l with |[a0,a1,a2,a3,a4,a5,a6]=>(S c a0 a1 a2 a3 a4 a5 a6 h).1 |_=>none
theorem tO7 {P:Program} {pl:Pl} {f:Nat} (S:Pt P pl f):pR P f (Pu S):=by
 intro c l h r e;unfold Pu at e
 split at e
 ·exact⟨pl,(S ..).2.trans e⟩
 ·cases e
end
end Go.Ae
namespace Go.Ae
open Go
noncomputable section
abbrev Pv (S:CV→AV→AH→R):WF:=λc l h=>match l with |[a0]=>S c a0 h |_=>none
theorem qvN {P:Program} {f:Nat} {pl:Pl} {S:CV→AV→AH→R} (q:∀(c:CV) (a0:AV) (h:AH),gP P NN pl c f [a0] h=S c a0 h):pR P f (Pv S):=by
 intro c l h r e;unfold Pv at e
 split at e
 ·exact⟨pl,by rw[q];exact e⟩
 ·cases e
abbrev Pw (S:CV→AV→AV→AH→R):WF:=λc l h=>match l with |[a0,a1]=>S c a0 a1 h |_=>none
theorem qvH {P:Program} {f:Nat} {pl:Pl} {S:CV→AV→AV→AH→R} (q:∀(c:CV) (a0 a1:AV) (h:AH),gP P NN pl c f [a0,a1] h=S c a0 a1 h):pR P f (Pw S):=by
 intro c l h r e;unfold Pw at e
 split at e
 ·exact⟨pl,by rw[q];exact e⟩
 ·cases e
end
end Go.Ae
abbrev Go.Ae.iI (n:Nat):Go.Ae.AV:=.int .i64 (.ofNat n)
abbrev Go.Ae.uU (n:Nat):Go.Ae.AV:=.int .u64 (.ofNat n)
namespace Go.Ae
abbrev iQ:=@if_neg
abbrev iJ:=@if_pos
theorem iZ {n:Nat}:Int.ofNat n=(n:Int):=rfl
abbrev iX:=@List.mem_cons_of_mem
abbrev iK:=@List.mem_cons_self
abbrev iV:=@decide_eq_false
abbrev iG:=@decide_eq_true
abbrev iW:=@List.getElem?_eq_getElem
abbrev iY:=@Nat.ble_eq_true_of_le
abbrev iA:=@List.eq_nil_of_length_eq_zero
end Go.Ae
