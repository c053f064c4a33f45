/- The abstract executor of the program's form in Lean, shown sound: values, heaps, operations, code: plain definitions. -/
import Derived.CallsIn
import Derived.OrdersIn
import Derived.Eval
import Derived.RangeFuncIn
import Derived.RangeFuncLeaves
import Derived.Still
namespace Go.Ae
noncomputable section

/-- tables of the program that its code reads: by name (a seat that has one writes it here) -/
def gtab : List (String × IntKind × List Int) := []

/-- Trees keyed by numbers. -/
inductive PT (α : Type) where
  | e
  | n (l : PT α) (v : Option α) (r : PT α)

/- What the kernel walks most is said by the recursors themselves. -/
def PT.get {α : Type} (t : PT α) (i : Nat) : Option α :=
  PT.rec (motive := fun _ => Nat → Option α) (fun _ => none)
    (fun _ v _ l r i => Bool.rec (motive := fun _ => Option α) (Bool.rec (motive := fun _ => Option α) (r (Nat.sub (Nat.div i 2) 1)) (l (Nat.div i 2)) (Nat.beq (Nat.mod i 2) 1)) v (Nat.beq i 0)) t i

def PT.setF {α : Type} (f : Nat) (t : PT α) (i : Nat) (x : α) : PT α :=
  Nat.rec (motive := fun _ => PT α → Nat → PT α) (fun _ _ => .e)
    (fun _ ih t i => PT.rec (motive := fun _ => PT α)
      (Bool.rec (motive := fun _ => PT α) (Bool.rec (motive := fun _ => PT α) (.n .e none (ih .e (Nat.sub (Nat.div i 2) 1))) (.n (ih .e (Nat.div i 2)) none .e) (Nat.beq (Nat.mod i 2) 1)) (.n .e (some x) .e) (Nat.beq i 0))
      (fun l v r _ _ => Bool.rec (motive := fun _ => PT α) (Bool.rec (motive := fun _ => PT α) (.n l v (ih r (Nat.sub (Nat.div i 2) 1))) (.n (ih l (Nat.div i 2)) v r) (Nat.beq (Nat.mod i 2) 1)) (.n l (some x) r) (Nat.beq i 0)) t) f t i

def PT.set {α : Type} (t : PT α) (i : Nat) (x : α) : PT α := PT.setF (i + 1) t i x

/-- the kid that the bit of m leads to -/
def PT.kid {α : Type} (i m : Nat) (t : PT α) : PT α := PT.rec (motive := fun _ => PT α) .e (fun l _ r _ _ => Bool.rec (motive := fun _ => PT α) r l (Nat.beq (Nat.land i m) 0)) t
def PT.leaf {α : Type} (t : PT α) : Option α := PT.rec (motive := fun _ => Option α) none (fun _ v _ _ _ => v) t
def PT.sub {α : Type} (i m : Nat) (f : PT α → PT α) (t : PT α) : PT α :=
  PT.rec (motive := fun _ => PT α) (Bool.rec (motive := fun _ => PT α) (.n .e none (f .e)) (.n (f .e) none .e) (Nat.beq (Nat.land i m) 0))
    (fun l v r _ _ => Bool.rec (motive := fun _ => PT α) (.n l v (f r)) (.n (f l) v r) (Nat.beq (Nat.land i m) 0)) t
def PT.mark {α : Type} (x : α) (t : PT α) : PT α := PT.rec (motive := fun _ => PT α) (.n .e (some x) .e) (fun l _ r _ _ => .n l (some x) r) t
def PT.get12 {α : Type} (t : PT α) (i : Nat) : Option α := PT.leaf (PT.kid i 1 (PT.kid i 2 (PT.kid i 4 (PT.kid i 8 (PT.kid i 16 (PT.kid i 32 (PT.kid i 64 (PT.kid i 128 (PT.kid i 256 (PT.kid i 512 (PT.kid i 1024 (PT.kid i 2048 (t)))))))))))))
def PT.set12 {α : Type} (t : PT α) (i : Nat) (x : α) : PT α := PT.sub i 2048 (PT.sub i 1024 (PT.sub i 512 (PT.sub i 256 (PT.sub i 128 (PT.sub i 64 (PT.sub i 32 (PT.sub i 16 (PT.sub i 8 (PT.sub i 4 (PT.sub i 2 (PT.sub i 1 (PT.mark x)))))))))))) t

/-- Trees of trees: what the kernel walks most. -/
abbrev Trie (α : Type) := PT (PT α)
def Trie.get {α : Type} (t : Trie α) (i : Nat) : Option α := Option.rec (motive := fun _ => Option α) none (fun s => PT.get12 s i) (PT.get t (Nat.div i 4096))
def Trie.set {α : Type} (t : Trie α) (i : Nat) (x : α) : Trie α := PT.set t (Nat.div i 4096) (PT.set12 (Option.rec (motive := fun _ => PT α) .e (fun s => s) (PT.get t (Nat.div i 4096))) i x)

/-- Abstract values: places name abstract blocks. -/
inductive AV where
  | bool (b : Bool)
  | int (k : IntKind) (n : Int)
  | str (s : List UInt8)
  | ptr (b off : Nat)
  | nilp
  /-- opn: the room is that of the block, less 'cap' elements ahead; else the room is 'cap' -/
  | slice (b off len cap : Nat) (opn : Bool)
  | nils
  | fn (f : FuncId) (first cap : List AV)
  | yield (l : Nat)
  | nilf
  | iface (t : TypeId) (v : AV)
  | nili
  | agg (l : List AV)
  | tup (l : List AV)
  /-- an empty slice without room, wherever it points -/
  | empt (a : Addr)
  /-- an empty slice behind all that an open block's slice shows: where it points hangs on the room -/
  | tail (b off off' i1 : Nat)
  /-- a map of the walk's own -/
  | mapv (b : Nat)
  deriving Inhabited

def AV.undef : AV := .tup []

def AV.cells : AV → List AV
  | .agg l => l
  | v => [v]

def AV.one : AV → Bool
  | .agg _ => false
  | .tup _ => false
  | _ => true

/-! ### lists of cells -/
def lget {α : Type} (l : List α) (i : Nat) : Option α :=
  List.rec (motive := fun _ => Nat → Option α) (fun _ => none) (fun a _ ih i => Bool.rec (motive := fun _ => Option α) (ih (Nat.sub i 1)) (some a) (Nat.beq i 0)) l i

/-- the first n -/
def ltake {α : Type} (n : Nat) (l : List α) : Option (List α) :=
  Nat.rec (motive := fun _ => List α → Option (List α)) (fun _ => some [])
    (fun _ ih l => List.rec (motive := fun _ => Option (List α)) none (fun a r _ => Option.rec (motive := fun _ => Option (List α)) none (fun s => some (a :: s)) (ih r)) l) n l

def ldrop {α : Type} (n : Nat) (l : List α) : List α :=
  Nat.rec (motive := fun _ => List α → List α) (fun l => l) (fun _ ih l => List.rec (motive := fun _ => List α) [] (fun _ r _ => ih r) l) n l

def lput {α : Type} (l xs : List α) : Option (List α) :=
  List.rec (motive := fun _ => List α → Option (List α)) (fun l => some l)
    (fun x _ ih l => List.rec (motive := fun _ => Option (List α)) none (fun _ l _ => Option.rec (motive := fun _ => Option (List α)) none (fun s => some (x :: s)) (ih l)) l) xs l

/-- put the cells xs at off: all inside -/
def lputAt {α : Type} (l : List α) (off : Nat) (xs : List α) : Option (List α) :=
  Nat.rec (motive := fun _ => List α → Option (List α)) (fun l => lput l xs)
    (fun _ ih l => List.rec (motive := fun _ => Option (List α)) none (fun a l _ => Option.rec (motive := fun _ => Option (List α)) none (fun s => some (a :: s)) (ih l)) l) off l

def repl {α : Type} (l : List α) : Nat → List α
  | 0 => []
  | n + 1 => l ++ repl l n

/-- Cells: a short list; or a tree over cells that come round. -/
inductive CT where
  | lst (xs : List AV)
  | tree (n : Nat) (z : List AV) (tr : Trie AV)

def tcell (z : List AV) (t : Trie AV) (i : Nat) : Option AV := Option.rec (motive := fun _ => Option AV) (lget z (Nat.mod i z.length)) (fun v => some v) (Trie.get t i)
def tcellD (z : List AV) (t : Trie AV) (i : Nat) : AV := match tcell z t i with | some v => v | none => .undef
def setL (t : Trie AV) (i : Nat) (xs : List AV) : Trie AV :=
  List.rec (motive := fun _ => Trie AV → Nat → Trie AV) (fun t _ => t) (fun x _ ih t i => ih (Trie.set t i x) (Nat.succ i)) xs t i
def readT (z : List AV) (t : Trie AV) (i n : Nat) : Option (List AV) :=
  Nat.rec (motive := fun _ => Nat → Option (List AV)) (fun _ => some [])
    (fun _ ih i => Option.rec (motive := fun _ => Option (List AV)) none (fun v => Option.rec (motive := fun _ => Option (List AV)) none (fun s => some (v :: s)) (ih (Nat.succ i))) (tcell z t i)) n i
def CT.toList : CT → List AV
  | .lst xs => xs
  | .tree n z tr => (List.range n).map (tcellD z tr)
def CT.len : CT → Nat
  | .lst xs => xs.length
  | .tree n _ _ => n
def CT.get1 (c : CT) (i : Nat) : Option AV := match c with
  | .lst xs => lget xs i
  | .tree n z tr => bif Nat.ble (i + 1) n then tcell z tr i else none
def CT.readN (c : CT) (off n : Nat) : Option (List AV) := match c with
  | .lst xs => ltake n (ldrop off xs)
  | .tree m z tr => bif Nat.beq n 0 then some [] else bif Nat.ble (off + n) m then readT z tr off n else none
def CT.write (c : CT) (off : Nat) (xs : List AV) : Option CT := match c with
  | .lst ys => (lputAt ys off xs).bind fun s => some (.lst s)
  | .tree n z tr => bif Nat.ble (off + xs.length) n then some (.tree n z (setL tr off xs)) else none
def CT.ofList (xs : List AV) : CT := bif Nat.ble xs.length 16 then .lst xs else .tree xs.length [] (setL .e 0 xs)
def CT.rep (z : List AV) (n : Nat) : CT := bif Nat.ble (z.length * n) 16 then .lst (repl z n) else .tree (z.length * n) z .e
def CT.app (c : CT) (xs : List AV) : CT := match c with
  | .lst ys => CT.ofList (ys ++ xs)
  | .tree n z tr => .tree (n + xs.length) z (setL tr n xs)
def CT.pre (c : CT) (n : Nat) : Option CT := match c with
  | .lst ys => (ltake n ys).bind fun s => some (.lst s)
  | .tree m z tr => bif Nat.ble n m then some (.tree n z tr) else none
def CT.seg (c : CT) (off n : Nat) : Option CT := bif Nat.beq off 0 then c.pre n else (c.readN off n).bind fun l => some (CT.ofList l)

/-- how a piece of code is left -/
inductive AX where
  | normal
  | exit (id : Nat)
  | goto (l : Nat)
  | ret

inductive Blk where
  | cells (c : CT) (elem : TypeId) (opn : Bool)
  | dead
  | iter (s : List UInt8) (pos : Nat)
  | loop (st : LoopState) (pend : Option AX) (fn : Nat) (pos L : List Nat) (vs : List AV) (d : Nat)
  | dfd
  | took
  /-- cells that are the caller's: some are known, none is written -/
  | inp (t : Trie AV)
  /-- a map of numbers to numbers: key, value, when it came; the clock -/
  | mp (l : List (Int × Int × Nat)) (clk : Nat)

/-- what was written last stands ahead of the tree -/
structure AH where
  nx : Nat
  rc : List (Nat × Blk)
  t : Trie Blk

def look (l : List (Nat × Blk)) (b : Nat) (d : Option Blk) : Option Blk := List.rec (motive := fun _ => Option Blk) d (fun p _ ih => Bool.rec (motive := fun _ => Option Blk) ih (some p.2) (Nat.beq p.1 b)) l
def keep3 (n : Nat) (l : List (Nat × Blk)) : List (Nat × Blk) :=
  Nat.rec (motive := fun _ => List (Nat × Blk) → List (Nat × Blk)) (fun _ => []) (fun _ ih l => List.rec (motive := fun _ => List (Nat × Blk)) [] (fun p r _ => p :: ih r) l) n l
def spill (l : List (Nat × Blk)) (t : Trie Blk) : Trie Blk := List.rec (motive := fun _ => Trie Blk) t (fun p _ ih => Trie.set ih p.1 p.2) l
def AH.get (h : AH) (b : Nat) : Option Blk := look h.rc b (Trie.get h.t b)
def AH.put (h : AH) (b : Nat) (x : Blk) : AH := ⟨h.nx, (b, x) :: keep3 5 h.rc, spill (ldrop 5 h.rc) h.t⟩
def AH.new (h : AH) (x : Blk) : AH := ⟨Nat.succ h.nx, (h.nx, x) :: keep3 5 h.rc, spill (ldrop 5 h.rc) h.t⟩

/-! ### constants -/
def ofVal1 : Value → Option AV
  | .bool b => some (.bool b)
  | .int k n => some (.int k n)
  | .string s => some (.str s.data.toList)
  | .pointer none => some .nilp
  | .slice none 0 0 => some .nils
  | .nilFunc => some .nilf
  | .nilIface => some .nili
  | _ => none

def mapO {α β : Type} (f : α → Option β) : List α → Option (List β)
  | [] => some []
  | a :: r => (f a).bind fun b => (mapO f r).bind fun s => some (b :: s)

def ofVal : Value → Option AV
  | .agg cs => (mapO ofVal1 cs.toList).map .agg
  | .tuple cs => (mapO ofVal1 cs.toList).map .tup
  | .func (.func f) first cap => bif first.isEmpty && cap.isEmpty then some (.fn f [] []) else none
  | v => ofVal1 v

def ev (tm : PT AV) : Operand → Option AV
  | .tmp t => tm.get t
  | .const v => ofVal v
  | .global _ => none
  | .func f => some (.fn f [] [])

def readAt (h : AH) (b off n : Nat) : Option (List AV) :=
  match h.get b with
  | some (.cells c _ _) => c.readN off n
  | some (.inp t) => readT [] t off n
  | _ => none

def allOne (l : List AV) : Bool := l.all AV.one

def writeAt (h : AH) (b off : Nat) (xs : List AV) : Option AH :=
  match h.get b with
  | some (.cells c e o) => bif allOne xs then (c.write off xs).bind fun c' => some (h.put b (.cells c' e o)) else none
  | _ => none

/-! ### types -/
def cellsOf? (P : Program) (t : TypeId) : Option Nat := (P.info? t).map (·.size)
def zero? (P : Program) (t : TypeId) : Option AV := (P.info? t).bind fun i => i.zero.bind ofVal
def agg? (P : Program) (t : TypeId) : Option Bool := (P.underlying t).map fun | .struct _ => true | .array _ _ => true | _ => false

/-- none: one cell · some n: an aggregate of n cells -/
def partInfo (P : Program) (t : TypeId) : Option (Option Nat) := (agg? P t).bind fun a => bif a then (cellsOf? P t).map some else some none

/-- put parts (place, size, value) into cells -/
def afill : List AV → List (Nat × Nat × AV) → Option (List AV)
  | cs, [] => some cs
  | cs, (o, n, v) :: r => bif Nat.beq v.cells.length n then (lputAt cs o v.cells).bind fun cs' => afill cs' r else none

/-! ### numbers -/
def awrap (k : IntKind) (n : Int) : Int :=
  match k, n with
  | .i64, .ofNat a => bif Nat.ble a 9223372036854775807 then .ofNat a else IntKind.wrap .i64 (.ofNat a)
  | .i64, .negSucc a => bif Nat.ble a 9223372036854775807 then .negSucc a else IntKind.wrap .i64 (.negSucc a)
  | .u64, .ofNat a => .ofNat (a % 18446744073709551616)
  | .u64, .negSucc a => .ofNat (18446744073709551615 - a % 18446744073709551616)
  | .u8, .ofNat a => .ofNat (a % 256)
  | k, n => IntKind.wrap k n

def ieq : Int → Int → Bool
  | .ofNat a, .ofNat b => Nat.beq a b
  | .negSucc a, .negSucc b => Nat.beq a b
  | _, _ => false

def ilt : Int → Int → Bool
  | .ofNat a, .ofNat b => Nat.ble (a + 1) b
  | .ofNat _, .negSucc _ => false
  | .negSucc _, .ofNat _ => true
  | .negSucc a, .negSucc b => Nat.ble (b + 1) a

def aint (op : BinOp) (k : IntKind) (x y : Int) : Option AV :=
  match op with
  | .add => some (.int k (awrap k (x + y)))
  | .sub => some (.int k (awrap k (x - y)))
  | .mul => some (.int k (awrap k (x * y)))
  | .quo => bif ieq y 0 then none else some (.int k (awrap k (x.tdiv y)))
  | .rem => bif ieq y 0 then none else some (.int k (x.tmod y))
  | .and => some (.int k (k.wrap (BitVec.ofInt k.bits x &&& BitVec.ofInt k.bits y).toNat))
  | .or => some (.int k (k.wrap (BitVec.ofInt k.bits x ||| BitVec.ofInt k.bits y).toNat))
  | .xor => some (.int k (k.wrap (BitVec.ofInt k.bits x ^^^ BitVec.ofInt k.bits y).toNat))
  | .andNot => some (.int k (k.wrap (BitVec.ofInt k.bits x &&& ~~~ BitVec.ofInt k.bits y).toNat))
  | .eql => some (.bool (ieq x y))
  | .neq => some (.bool (!ieq x y))
  | .lss => some (.bool (ilt x y))
  | .leq => some (.bool (!ilt y x))
  | .gtr => some (.bool (ilt y x))
  | .geq => some (.bool (!ilt x y))
  | .shl | .shr => none

def ashift (op : BinOp) (k : IntKind) (x y : Int) : Option AV :=
  bif ilt y 0 then none else
  match op with
  | .shl => some (.int k (awrap k (x * 2 ^ (min y.toNat k.bits))))
  | .shr => some (.int k (x.fdiv (2 ^ (min y.toNat k.bits))))
  | _ => none

def seq? : List UInt8 → List UInt8 → Bool
  | [], [] => true
  | a :: x, b :: y => a == b && seq? x y
  | _, _ => false

def astr (op : BinOp) (x y : List UInt8) : Option AV :=
  match op with
  | .add => bif Nat.ble (x.length + y.length) 1073741824 then some (.str (x ++ y)) else none
  | .eql => some (.bool (seq? x y))
  | .neq => some (.bool (!seq? x y))
  | .lss => some (.bool (Op.bytesLess x y))
  | .leq => some (.bool (Op.bytesLess x y || seq? x y))
  | .gtr => some (.bool (!(Op.bytesLess x y || seq? x y)))
  | .geq => some (.bool (!Op.bytesLess x y))
  | _ => none

/-- what can be held against each other -/
inductive EK where
  | bool | int | str | ptr | slc | fn | ifc

def ekOf : TypeDesc → Option EK
  | .bool => some .bool
  | .int _ => some .int
  | .string => some .str
  | .pointer _ => some .ptr
  | .slice _ => some .slc
  | .func _ _ _ => some .fn
  | .interface _ => some .ifc
  | _ => none

def basicEq (d : EK) (x y : AV) : Option Bool :=
  match d, x, y with
  | .bool, .bool a, .bool b => some (a == b)
  | .int, .int k a, .int k' b => bif k == k' then some (ieq a b) else none
  | .str, .str a, .str b => some (seq? a b)
  | .ptr, .nilp, .nilp => some true
  | .ptr, .nilp, .ptr _ _ => some false
  | .ptr, .ptr _ _, .nilp => some false
  | .slc, .nils, .nils => some true
  | .slc, .nils, .slice .. => some false
  | .slc, .slice .., .nils => some false
  | .fn, .nilf, .nilf => some true
  | .fn, .nilf, .fn .. => some false
  | .fn, .fn .., .nilf => some false
  | .ifc, .nili, .iface _ _ => some false
  | .ifc, .iface _ _, .nili => some false
  | _, _, _ => none

/-- a struct's parts, laid out: a basic one; so many cells there must be -/
inductive ES where
  | bas (k : EK) (o : Nat)
  | len (n : Nat)

def partsEq : List ES → List AV → List AV → Option Bool
  | [], _, _ => some true
  | .bas d o :: r, xs, ys => (lget xs o).bind fun x => (lget ys o).bind fun y => (basicEq d x y).bind fun e => bif e then partsEq r xs ys else some false
  | .len n :: r, xs, ys => bif Nat.ble n xs.length && Nat.ble n ys.length then partsEq r xs ys else none
def insideE (n : Nat) : List ES → Bool
  | [] => true
  | .bas _ o :: r => Nat.ble (o + 1) n && insideE n r
  | .len m :: r => Nat.ble m n && insideE n r
def shiftE (c : Nat) : List ES → List ES
  | [] => []
  | .bas k o :: r => .bas k (c + o) :: shiftE c r
  | .len m :: r => .len (c + m) :: shiftE c r

def structL (P : Program) (nest : List Field → Option (List ES)) : List Field → Option (List ES)
  | [] => some []
  | f :: r => bif f.name == "_" then none else (P.underlying f.type).bind fun u => match u with
    | .struct fs => (cellsOf? P f.type).bind fun n => bif P.stoodInHeld f.type then none else (nest fs.toList).bind fun l1 => bif insideE n l1 then (structL P nest r).map fun l2 => .len (f.offset + n) :: (shiftE f.offset l1 ++ l2) else none
    | u => (ekOf u).bind fun k => match k with
      | .ifc => none
      | k => (structL P nest r).map fun l => .bas k f.offset :: l
/-- a struct of basic parts: what they are, and where -/
def structInfo (P : Program) : Nat → List Field → Option (List ES)
  | 0, _ => none
  | d + 1, fs => structL P (structInfo P d) fs

/-! ### the answer, and the primitives: each hands on what it has made -/
abbrev R := Option (AV × AH)
abbrev CV := AV → List AV → AH → R

abbrev ob {α : Type} (x : Option α) (k : α → R) : R := match x with | some a => k a | none => none
/-- a branch of the walk's own -/
abbrev cnd (b : Bool) (x y : R) : R := match b with | true => x | false => y
def joinC {α : Type} (j : α) (f : α → R) : R := f j
def loopC {σ : Type} (N : Nat) (f : (σ → AH → List Nat → R) → σ → AH → List Nat → R) : σ → AH → List Nat → R :=
  Nat.rec (motive := fun _ => σ → AH → List Nat → R) (fun _ _ _ => none) (fun _ ih => f ih) N

/-! What the kernel walks most, by the recursors. -/
def AV.asBool (v : AV) (f : Bool → R) (d : R) : R :=
  AV.rec (motive_1 := fun _ => R) (motive_2 := fun _ => PUnit) (fun x0 => f x0) (fun _ _ => d) (fun _ => d) (fun _ _ => d) d (fun _ _ _ _ _ => d) d (fun _ _ _ _ _ => d) (fun _ => d) d (fun _ _ _ => d) d (fun _ _ => d) (fun _ _ => d) (fun _ => d) (fun _ _ _ _ => d) (fun _ => d) ⟨⟩ (fun _ _ _ _ => ⟨⟩) v
def AV.asInt (v : AV) (f : IntKind → Int → R) (d : R) : R :=
  AV.rec (motive_1 := fun _ => R) (motive_2 := fun _ => PUnit) (fun _ => d) (fun x0 x1 => f x0 x1) (fun _ => d) (fun _ _ => d) d (fun _ _ _ _ _ => d) d (fun _ _ _ _ _ => d) (fun _ => d) d (fun _ _ _ => d) d (fun _ _ => d) (fun _ _ => d) (fun _ => d) (fun _ _ _ _ => d) (fun _ => d) ⟨⟩ (fun _ _ _ _ => ⟨⟩) v
def AV.asPtr (v : AV) (f : Nat → Nat → R) (d : R) : R :=
  AV.rec (motive_1 := fun _ => R) (motive_2 := fun _ => PUnit) (fun _ => d) (fun _ _ => d) (fun _ => d) (fun x0 x1 => f x0 x1) d (fun _ _ _ _ _ => d) d (fun _ _ _ _ _ => d) (fun _ => d) d (fun _ _ _ => d) d (fun _ _ => d) (fun _ _ => d) (fun _ => d) (fun _ _ _ _ => d) (fun _ => d) ⟨⟩ (fun _ _ _ _ => ⟨⟩) v
def AV.asSlice (v : AV) (f : Nat → Nat → Nat → Nat → Bool → R) (d : R) : R :=
  AV.rec (motive_1 := fun _ => R) (motive_2 := fun _ => PUnit) (fun _ => d) (fun _ _ => d) (fun _ => d) (fun _ _ => d) d (fun x0 x1 x2 x3 x4 => f x0 x1 x2 x3 x4) d (fun _ _ _ _ _ => d) (fun _ => d) d (fun _ _ _ => d) d (fun _ _ => d) (fun _ _ => d) (fun _ => d) (fun _ _ _ _ => d) (fun _ => d) ⟨⟩ (fun _ _ _ _ => ⟨⟩) v
def AV.asAgg (v : AV) (f : List AV → R) (d : R) : R :=
  AV.rec (motive_1 := fun _ => R) (motive_2 := fun _ => PUnit) (fun _ => d) (fun _ _ => d) (fun _ => d) (fun _ _ => d) d (fun _ _ _ _ _ => d) d (fun _ _ _ _ _ => d) (fun _ => d) d (fun _ _ _ => d) d (fun x0 _ => f x0) (fun _ _ => d) (fun _ => d) (fun _ _ _ _ => d) (fun _ => d) ⟨⟩ (fun _ _ _ _ => ⟨⟩) v
def AV.asTup (v : AV) (f : List AV → R) (d : R) : R :=
  AV.rec (motive_1 := fun _ => R) (motive_2 := fun _ => PUnit) (fun _ => d) (fun _ _ => d) (fun _ => d) (fun _ _ => d) d (fun _ _ _ _ _ => d) d (fun _ _ _ _ _ => d) (fun _ => d) d (fun _ _ _ => d) d (fun _ _ => d) (fun x0 _ => f x0) (fun _ => d) (fun _ _ _ _ => d) (fun _ => d) ⟨⟩ (fun _ _ _ _ => ⟨⟩) v
def kn (k : IntKind) : Nat := IntKind.rec (motive := fun _ => Nat) 0 1 2 3 4 5 6 7 k
def keq (a b : IntKind) : Bool := Nat.beq (kn a) (kn b)
def beqF (t w : Bool) : Bool := Bool.rec (motive := fun _ => Bool) (Bool.rec (motive := fun _ => Bool) true false w) (Bool.rec (motive := fun _ => Bool) false true w) t
def iadd (x y : Int) : Int := Int.rec (motive := fun _ => Int) (fun a => Int.rec (motive := fun _ => Int) (fun b => .ofNat (Nat.add a b)) (fun b => Int.add (.ofNat a) (.negSucc b)) y) (fun a => Int.add (.negSucc a) y) x
def isub (x y : Int) : Int := Int.rec (motive := fun _ => Int) (fun a => Int.rec (motive := fun _ => Int) (fun b => Bool.rec (motive := fun _ => Int) (.negSucc (Nat.sub (Nat.sub b a) 1)) (.ofNat (Nat.sub a b)) (Nat.ble b a)) (fun b => Int.sub (.ofNat a) (.negSucc b)) y) (fun a => Int.sub (.negSucc a) y) x
def iltF (x y : Int) : Bool := Int.rec (motive := fun _ => Bool) (fun a => Int.rec (motive := fun _ => Bool) (fun b => Nat.ble (Nat.succ a) b) (fun _ => false) y) (fun a => Int.rec (motive := fun _ => Bool) (fun _ => true) (fun b => Nat.ble (Nat.succ b) a) y) x
def ieqF (x y : Int) : Bool := Int.rec (motive := fun _ => Bool) (fun a => Int.rec (motive := fun _ => Bool) (fun b => Nat.beq a b) (fun _ => false) y) (fun a => Int.rec (motive := fun _ => Bool) (fun _ => false) (fun b => Nat.beq a b) y) x
def notF (b : Bool) : Bool := Bool.rec (motive := fun _ => Bool) true false b
def wrapK (k : IntKind) (n : Int) (f : Int → R) : R :=
  IntKind.rec (motive := fun _ => R) (f (awrap .i8 n)) (f (awrap .i16 n)) (f (awrap .i32 n))
    (Int.rec (motive := fun _ => R) (fun a => Bool.rec (motive := fun _ => R) (f (awrap .i64 (.ofNat a))) (f (.ofNat a)) (Nat.ble a 9223372036854775807)) (fun a => f (awrap .i64 (.negSucc a))) n)
    (f (awrap .u8 n)) (f (awrap .u16 n)) (f (awrap .u32 n))
    (Int.rec (motive := fun _ => R) (fun a => Bool.rec (motive := fun _ => R) (f (awrap .u64 (.ofNat a))) (f (.ofNat a)) (Nat.ble a 18446744073709551615)) (fun a => f (awrap .u64 (.negSucc a))) n) k
def aintK (op : BinOp) (k : IntKind) (x y : Int) (f : AV → R) : R :=
  BinOp.rec (motive := fun _ => R) (wrapK k (iadd x y) fun n => f (.int k n)) (wrapK k (isub x y) fun n => f (.int k n)) (ob (aint .mul k x y) f)
    (ob (aint .quo k x y) f) (ob (aint .rem k x y) f) (ob (aint .and k x y) f) (ob (aint .or k x y) f) (ob (aint .xor k x y) f) (ob (aint .shl k x y) f) (ob (aint .shr k x y) f) (ob (aint .andNot k x y) f)
    (f (.bool (ieqF x y))) (f (.bool (notF (ieqF x y)))) (f (.bool (iltF x y))) (f (.bool (notF (iltF y x)))) (f (.bool (iltF y x))) (f (.bool (notF (iltF x y)))) op

def pCond (v : AV) (a b : R) : R := v.asBool (fun t => Bool.rec (motive := fun _ => R) b a t) none
def pWant (v : AV) (w : Bool) (a b : R) : R := v.asBool (fun t => Bool.rec (motive := fun _ => R) b a (beqF t w)) b
def pPick (c a b : AV) (k : AV → R) : R := c.asBool (fun t => Bool.rec (motive := fun _ => R) (k b) (k a) t) none
def pNil (v : AV) (k : AV → R) : R := match v with | .ptr b o => k (.ptr b o) | .fn f a c => k (.fn f a c) | .yield l => k (.yield l) | _ => none
def pFieldA (v : AV) (off : Nat) (k : AV → R) : R := v.asPtr (fun b o => k (.ptr b (Nat.add o off))) none
def pPart1 (v : AV) (off : Nat) (k : AV → R) : R := v.asAgg (fun cs => Option.rec (motive := fun _ => R) none k (lget cs off)) none
def pPartN (v : AV) (off n : Nat) (k : AV → R) : R := match v with | .agg cs => ob (ltake n (ldrop off cs)) fun l => k (.agg l) | _ => none
def pIdxS (v i : AV) (sz : Nat) (k : AV → R) : R :=
  v.asSlice (fun b off len _ _ => i.asInt (fun _ n => Int.rec (motive := fun _ => R) (fun a => Bool.rec (motive := fun _ => R) none (k (.ptr b (Nat.add off (Nat.mul a sz)))) (Nat.ble (Nat.succ a) len)) (fun _ => none) n) none) none
def pIdxP (v i : AV) (n sz : Nat) (k : AV → R) : R := match v, i with | .ptr b off, .int _ (.ofNat a) => bif Nat.ble (a + 1) n then k (.ptr b (off + a * sz)) else none | _, _ => none
def pIdxA1 (v i : AV) (n sz : Nat) (k : AV → R) : R := match v, i with | .agg cs, .int _ (.ofNat a) => bif Nat.ble (a + 1) n then ob (lget cs (a * sz)) k else none | _, _ => none
def pIdxAN (v i : AV) (n sz : Nat) (k : AV → R) : R := match v, i with | .agg cs, .int _ (.ofNat a) => bif Nat.ble (a + 1) n then ob (ltake sz (ldrop (a * sz) cs)) fun l => k (.agg l) else none | _, _ => none
def pIdxStr (v i : AV) (k : AV → R) : R := match v, i with | .str s, .int _ (.ofNat a) => ob (lget s a) fun c => k (.int .u8 (.ofNat c.toNat)) | _, _ => none
def pLoad1 (h : AH) (v : AV) (k : AV → R) : R :=
  v.asPtr (fun b off => Option.rec (motive := fun _ => R) none (fun x => Blk.rec (motive := fun _ => R) (fun c _ _ => Option.rec (motive := fun _ => R) none k (c.get1 off)) none (fun _ _ => none) (fun _ _ _ _ _ _ _ => none) none none (fun t => Option.rec (motive := fun _ => R) none k (Trie.get t off)) (fun _ _ => none) x) (h.get b)) none
def pLoadN (h : AH) (v : AV) (n : Nat) (k : AV → R) : R := v.asPtr (fun b off => Option.rec (motive := fun _ => R) none (fun l => k (.agg l)) (readAt h b off n)) none
def pStore (h : AH) (a x : AV) (n : Nat) (k : AH → R) : R := a.asPtr (fun b off => Bool.rec (motive := fun _ => R) none (Option.rec (motive := fun _ => R) none k (writeAt h b off x.cells)) (Nat.beq x.cells.length n)) none
def pInt (op : BinOp) (x y : AV) (k : AV → R) : R := x.asInt (fun k1 a => y.asInt (fun k2 b => Bool.rec (motive := fun _ => R) none (aintK op k1 a b k) (keq k1 k2)) none) none
def pShift (op : BinOp) (x y : AV) (k : AV → R) : R := match x, y with | .int k1 a, .int _ b => ob (ashift op k1 a b) k | _, _ => none
def pStr (op : BinOp) (x y : AV) (k : AV → R) : R := match x, y with | .str a, .str b => ob (astr op a b) k | _, _ => none
def pEq (d : EK) (neg : Bool) (x y : AV) (k : AV → R) : R := ob (basicEq d x y) fun e => k (.bool (e != neg))
def pEqS (l : List ES) (neg : Bool) (x y : AV) (k : AV → R) : R := match x, y with | .agg a, .agg b => ob (partsEq l a b) fun e => k (.bool (e != neg)) | _, _ => none
def pUn (op : UnOp) (x : AV) (k : AV → R) : R :=
  match op, x with
  | .neg, .int d n => k (.int d (awrap d (0 - n)))
  | .not, .bool b => k (.bool (!b))
  | .xor, .int d n => k (.int d (d.wrap (BitVec.ofInt d.bits (if d.signed then -1 else d.max) ^^^ BitVec.ofInt d.bits n).toNat))
  | _, _ => none
def pConvI (d : IntKind) (x : AV) (k : AV → R) : R := match x with | .int _ n => k (.int d (awrap d n)) | _ => none
def pIsStr (x : AV) (k : AV → R) : R := match x with | .str s => k (.str s) | _ => none
def bytesOf : List AV → Option (List UInt8)
  | [] => some []
  | .int .u8 (.ofNat n) :: r => (bytesOf r).bind fun s => some (UInt8.ofNat n :: s)
  | _ => none
def pB2S (h : AH) (x : AV) (k : AV → R) : R := match x with | .nils => k (.str []) | .slice b off len _ _ => ob (readAt h b off len) fun cs => ob (bytesOf cs) fun s => k (.str s) | _ => none
def pS2B (h : AH) (e : TypeId) (x : AV) (k : AV → AH → R) : R := match x with
  | .str s => bif Nat.ble s.length 1073741824 then k (.slice h.nx 0 s.length 0 true) (h.new (.cells (CT.ofList (s.map fun (c : UInt8) => .int .u8 (.ofNat c.toNat))) e true)) else none
  | _ => none

def natA (x : AV) (y : Nat) : Option Nat := match x with | .int _ (.ofNat a) => bif Nat.ble a y then some a else none | _ => none
def natO (x : Option AV) (y dflt : Nat) : Option Nat := match x with | none => some dflt | some v => natA v y
def pSliceS (v : AV) (lo hi : Option AV) (k : AV → R) : R := match v with
  | .str s => ob (natO hi s.length s.length) fun h => ob (natO lo h 0) fun l => ob (ltake (h - l) (ldrop l s)) fun t => k (.str t)
  | _ => none
/-- does a slice of an open block lie in what is known of it? -/
def openFits (h : AH) (el : TypeId) (b off sz i0 len : Nat) : Bool := match h.get b with
  | some (.cells c e true) => Nat.beq el e && (Nat.ble 1 sz && (Nat.beq off (i0 * sz) && Nat.ble (off + len * sz) c.len))
  | _ => false
/-- a cut of a slice (elements of sz cells) -/
def pSlice (h : AH) (el : TypeId) (sz : Nat) (v : AV) (lo hi : Option AV) (k : AV → R) : R := match v with
  | .slice b off len cap false => ob (natO hi cap len) fun u => ob (natO lo u 0) fun l => k (.slice b (bif Nat.beq cap l then off else off + l * sz) (u - l) (cap - l) false)
  | .slice b off len i0 true => bif openFits h el b off sz i0 len then
      ob (natO hi len len) fun u => ob (natO lo u 0) fun l =>
        bif Nat.beq l 0 then k (.slice b off u i0 true) else bif Nat.ble (l + 1) len then k (.slice b (off + l * sz) (u - l) (i0 + l) true) else k (.tail b off (off + l * sz) (i0 + l))
    else none
  | .nils => ob (natO hi 0 0) fun _ => ob (natO lo 0 0) fun _ => k .nils
  | .empt a => ob (natO hi 0 0) fun _ => ob (natO lo 0 0) fun _ => k (.empt a)
  | _ => none
def pSliceP (n sz : Nat) (v : AV) (lo hi : Option AV) (k : AV → R) : R := match v with
  | .ptr b off => ob (natO hi n n) fun h => ob (natO lo h 0) fun l => k (.slice b (bif Nat.beq n l then off else off + l * sz) (h - l) (n - l) false)
  | _ => none
def pAssertOk (t : TypeId) (z v : AV) (k : AV → R) : R := match v with
  | .iface u x => bif Nat.beq u t then k (.tup [x, .bool true]) else k (.tup [z, .bool false])
  | .nili => k (.tup [z, .bool false])
  | _ => none
def pAssert (t : TypeId) (v : AV) (k : AV → R) : R := match v with | .iface u x => bif Nat.beq u t then k x else none | _ => none
def pExtract (v : AV) (i : Nat) (k : AV → R) : R := v.asTup (fun l => Option.rec (motive := fun _ => R) none k (lget l i)) none
def pLenS (v : AV) (k : AV → R) : R := match v with | .slice _ _ len _ _ => k (.int .i64 (.ofNat len)) | .nils => k (.int .i64 (.ofNat 0)) | .empt _ => k (.int .i64 (.ofNat 0)) | .tail _ _ _ _ => k (.int .i64 (.ofNat 0)) | _ => none
def pLenStr (v : AV) (k : AV → R) : R := match v with | .str s => k (.int .i64 (.ofNat s.length)) | _ => none
def mm2 (mx : Bool) : AV → AV → Option AV
  | .int k x, .int k' y => bif k == k' then some (.int k (bif mx then (bif ilt x y then y else x) else (bif ilt y x then y else x))) else none
  | _, _ => none
def mmL (mx : Bool) : AV → List AV → Option AV
  | a, [] => some a
  | a, b :: r => (mm2 mx a b).bind fun c => mmL mx c r
def isInt : AV → Bool | .int _ _ => true | _ => false
def pMM (mx : Bool) (l : List AV) (k : AV → R) : R := match l with | a :: r => bif isInt a then ob (mmL mx a r) k else none | [] => none
def pBox (h : AH) (e : TypeId) (v : AV) (k : AV → AH → R) : R := bif allOne v.cells then k (.ptr h.nx 0) (h.new (.cells (CT.ofList v.cells) e false)) else none
def pBuild (z : List AV) (vs : List (Nat × Nat × AV)) (k : AV → R) : R := ob (afill z vs) fun l => k (.agg l)
def pBuildS (h : AH) (e : TypeId) (z : List AV) (len : Nat) (vs : List (Nat × Nat × AV)) (k : AV → AH → R) : R :=
  ob (afill (repl z len) vs) fun cs => bif allOne cs then k (.slice h.nx 0 len len false) (h.new (.cells (CT.ofList cs) e false)) else none
def pMake (h : AH) (e : TypeId) (z : List AV) (l c : AV) (k : AV → AH → R) : R := match l, c with
  | .int _ (.ofNat ln), .int _ (.ofNat cp) => bif Nat.ble ln cp && Nat.ble cp 1073741824 then k (.slice h.nx 0 ln cp false) (h.new (.cells (CT.rep z cp) e false)) else none
  | _, _ => none

/-- the cells of a slice or a string -/
def firstOf (h : AH) (sz n : Nat) : AV → Option (List AV)
  | .slice b off _ _ _ => readAt h b off (n * sz)
  | .nils => some []
  | .empt _ => bif Nat.beq n 0 then some [] else none
  | .tail _ _ _ _ => bif Nat.beq n 0 then some [] else none
  | .str s => (ltake n s).map (List.map fun (c : UInt8) => AV.int .u8 (.ofNat c.toNat))
  | _ => none

def lenOfV : AV → Option Nat
  | .slice _ _ len _ _ => some len
  | .nils => some 0
  | .empt _ => some 0
  | .tail _ _ _ _ => some 0
  | .str s => some s.length
  | _ => none

def firstC (h : AH) (sz n : Nat) : AV → Option CT
  | .slice b off _ _ _ => (match h.get b with
    | some (.cells c _ _) => c.seg off (n * sz)
    | some (.inp t) => (readT [] t off (n * sz)).bind fun l => some (CT.ofList l)
    | _ => none)
  | .nils => some (.lst [])
  | .empt _ => bif Nat.beq n 0 then some (.lst []) else none
  | .tail _ _ _ _ => bif Nat.beq n 0 then some (.lst []) else none
  | .str s => (ltake n s).bind fun l => some (CT.ofList (l.map fun (c : UInt8) => AV.int .u8 (.ofNat c.toNat)))
  | _ => none
/-- append, what is appended being at hand: n elements of sz cells -/
def pAppendTo (h : AH) (e : TypeId) (sz : Nat) (s : AV) (n : Nat) (nc : CT) (k : AV → AH → R) : R := match s with
  | .nils => bif Nat.beq n 0 then k .nils h else bif Nat.ble n 67108864 then k (.slice h.nx 0 n 0 true) (h.new (.cells nc e true)) else none
  | .slice b off len cap false =>
    bif Nat.ble (len + n) cap then (bif Nat.beq n 0 then k (.slice b off len cap false) h else ob (writeAt h b (off + len * sz) nc.toList) fun h' => k (.slice b off (len + n) cap false) h')
    else bif Nat.ble (len + n) 67108864 then ob (readAt h b off (len * sz)) fun old => k (.slice h.nx 0 (len + n) 0 true) (h.new (.cells (bif Nat.beq len 0 then nc else CT.ofList (old ++ nc.toList)) e true))
    else none
  | .slice b off len i0 true =>
    match h.get b with
    | some (.cells c e' true) =>
      bif Nat.ble 1 sz && (Nat.beq off (i0 * sz) && (Nat.beq e e' && Nat.ble (off + len * sz) c.len)) then
        bif Nat.beq n 0 then k (.slice b off len i0 true) h else
        bif Nat.ble (off + (len + n) * sz) c.len then ob (writeAt h b (off + len * sz) nc.toList) fun h' => k (.slice b off (len + n) i0 true) h'
        else bif Nat.beq i0 0 && (Nat.ble (len + n) 67108864 && allOne nc.toList) then
          ob (c.pre (len * sz)) fun old => k (.slice h.nx 0 (len + n) 0 true) ((h.put b .dead).new (.cells (old.app nc.toList) e true))
        else none
      else none
    | _ => none
  | _ => none
def pAppend (h : AH) (e : TypeId) (sz : Nat) (s x : AV) (k : AV → AH → R) : R :=
  ob (lenOfV x) fun n => ob (firstC h sz n x) fun nc => bif Nat.beq nc.len (n * sz) then pAppendTo h e sz s n nc k else none
def pCopy (h : AH) (sz : Nat) (d s : AV) (k : AV → AH → R) : R :=
  ob (lenOfV s) fun n => ob (lenOfV d) fun m => ob (firstOf h sz (Nat.min n m) s) fun cs => match d with
    | .slice b off _ _ _ => bif Nat.beq (Nat.min n m) 0 then k (.int .i64 (.ofNat 0)) h else ob (writeAt h b off cs) fun h' => k (.int .i64 (.ofNat (Nat.min n m))) h'
    | .nils => k (.int .i64 (.ofNat 0)) h
    | _ => none
def pRange (h : AH) (v : AV) (k : AV → AH → R) : R := match v with | .str s => k (.ptr h.nx 0) (h.new (.iter s 0)) | _ => none
/-! ### maps of numbers to numbers -/
def findE (x : Int) : List (Int × Int × Nat) → Nat → Option (Nat × Int × Nat)
  | [], _ => none
  | e :: r, i => bif ieq x e.1 then some (i, e.2) else findE x r (i + 1)
def findS (x : Int) : List (Int × Int × Nat) → Nat → Option Nat
  | [], _ => none
  | e :: r, i => bif ieq (.ofNat e.2.2) x then some i else findS x r (i + 1)
def setV (y : Int) : List (Int × Int × Nat) → Nat → List (Int × Int × Nat)
  | [], _ => []
  | e :: r, 0 => (e.1, y, e.2.2) :: r
  | e :: r, i + 1 => e :: setV y r i
def pMakeMap (h : AH) (k : AV → AH → R) : R := k (.mapv h.nx) (h.new (.mp [] 0))
def pLenM (h : AH) (v : AV) (k : AV → R) : R := match v with
  | .mapv b => (match h.get b with | some (.mp l _) => k (.int .i64 (.ofNat l.length)) | _ => none)
  | _ => none
def pLookM (h : AH) (v i : AV) (k : AV → R) : R := match v, i with
  | .mapv b, .int .i64 x => (match h.get b with | some (.mp l _) => (match findE x l 0 with | some e => k (.int .i64 e.2.1) | none => k (.int .i64 (.ofNat 0))) | _ => none)
  | _, _ => none
/-- a map's word, made if it is not there, with its stamp -/
def pEntM (h : AH) (v i : AV) (k : AV → AH → R) : R := match v, i with
  | .mapv b, .int .i64 x => (match h.get b with
    | some (.mp l c) => (match findE x l 0 with | some e => k (.tup [.int .i64 e.2.1, .int .i64 (.ofNat e.2.2)]) h | none => k (.tup [.int .i64 (.ofNat 0), .int .i64 (.ofNat c)]) (h.put b (.mp (l ++ [(x, .ofNat 0, c)]) (c + 1))))
    | _ => none)
  | _, _ => none
def pStM (h : AH) (v s y : AV) (k : AH → R) : R := match v, s, y with
  | .mapv b, .int .i64 x, .int .i64 z => (match h.get b with
    | some (.mp l c) => (match findS x l 0 with | some i => k (h.put b (.mp (setV z l i) c)) | none => none)
    | _ => none)
  | _, _, _ => none
/-- a map's word at a key, made if it is not there -/
def pSetM (h : AH) (v i y : AV) (k : AH → R) : R := match v, i, y with
  | .mapv b, .int .i64 x, .int .i64 z => (match h.get b with
    | some (.mp l c) => (match findE x l 0 with | some e => k (h.put b (.mp (setV z l e.1) c)) | none => k (h.put b (.mp (l ++ [(x, z, c)]) (c + 1))))
    | _ => none)
  | _, _, _ => none
def pDelM (h : AH) (v i : AV) (k : AV → AH → R) : R := match v, i with
  | .mapv b, .int .i64 x => (match h.get b with
    | some (.mp l c) => (match findE x l 0 with | some e => k (.tup []) (h.put b (.mp (l.eraseIdx e.1) c)) | none => k (.tup []) (h.put b (.mp l c)))
    | _ => none)
  | _, _ => none
/-- a map of numbers to numbers -/
def mapI (P : Program) (t : TypeId) : Bool := match P.underlying t with
  | some (.map kt et) => (match P.underlying kt, P.underlying et, zero? P et with | some (.int .i64), some (.int .i64), some (.int .i64 (.ofNat 0)) => true | _, _, _ => false)
  | _ => false
def pNext (h : AH) (v : AV) (k : AV → AH → R) : R := match v with
  | .ptr b 0 => (match h.get b with
    | some (.iter s pos) => bif Nat.ble (pos + 1) s.length then
        k (.tup [.bool true, .int .i64 (.ofNat pos), .int .i32 (Utf8.decode ⟨s.toArray⟩ pos).1]) (h.put b (.iter s (pos + (Utf8.decode ⟨s.toArray⟩ pos).2)))
      else k (.tup [.bool false]) h
    | _ => none)
  | _ => none
def pCall (c : CV) (f : AV) (a : List AV) (h : AH) (k : AV → AH → R) : R := Option.rec (motive := fun _ => R) none (fun q => k q.1 q.2) (c f a h)
/-- a call of a method: by the dynamic type -/
def findM (l : List (Nat × Nat)) (t : Nat) : Option Nat := List.rec (motive := fun _ => Option Nat) none (fun p _ ih => Bool.rec (motive := fun _ => Option Nat) ih (some p.2) (Nat.beq p.1 t)) l
def pInvoke (c : CV) (l : List (Nat × Nat)) (v : AV) (a : List AV) (h : AH) (k : AV → AH → R) : R := match v with
  | .iface t x => Option.rec (motive := fun _ => R) none (fun f => pCall c (.fn f [] []) (x :: a) h k) (findM l t)
  | _ => none
/-- a call of a function alone, not of a round -/
def pCallF (c : CV) (f : AV) (a : List AV) (h : AH) (k : AV → AH → R) : R := match f with | .fn _ _ _ => pCall c f a h k | _ => none

/-! ### operations -/
/-- the functions of a method, by type: pointers' own ones -/
def methOf (P : Program) (name : String) (t : TypeId) : Option Nat :=
  (P.info? t).bind fun i => (i.methods.toList.find? (·.name == name)).bind fun m => bif m.path.isEmpty then m.func.bind fun g => bif g.2 then (P.underlying t).bind fun d => (match d with | .pointer _ => some g.1 | _ => none) else none else none
def methL (P : Program) (name : String) : List Nat → List (Nat × Nat)
  | [] => []
  | t :: r => match methOf P name t with | some f => (t, f) :: methL P name r | none => methL P name r
def methTab (P : Program) (name : String) : List (Nat × Nat) := methL P name (List.range P.types.size)
def fieldOff (P : Program) (t : TypeId) (f : Nat) : Option Nat :=
  (P.underlying t).bind fun | .struct fs => (fs[f]?).bind fun g => (cellsOf? P g.type).bind fun sz => bif Nat.beq sz 0 then none else some g.offset | _ => none
def fieldPart (P : Program) (t : TypeId) (f : Nat) : Option (Nat × Option Nat) :=
  (P.underlying t).bind fun | .struct fs => (fs[f]?).bind fun g => (partInfo P g.type).map fun i => (g.offset, i) | _ => none

def partsOf (pl : Nat → Option (Nat × Nat)) (r : Operand → Option AV) : List (Nat × Operand) → Option (List (Nat × Nat × AV))
  | [] => some []
  | (i, x) :: l => (pl i).bind fun p => (r x).bind fun v => (partsOf pl r l).map fun s => (p.1, p.2, v) :: s

def fieldPlaces (P : Program) (fs : List Field) : Option (List (Nat × Nat)) := mapO (fun f => (cellsOf? P f.type).map fun n => (f.offset, n)) fs

def optO (r : Operand → Option AV) : Option Operand → Option (Option AV)
  | none => some none
  | some x => (r x).map some

abbrev binK (P : Program) (op : BinOp) (t : TypeId) (a b : AV) (k : AV → R) : R :=
  match op with
  | .shl => pShift .shl a b k
  | .shr => pShift .shr a b k
  | op => ob (P.underlying t) fun d => match d with
    | .int _ => pInt op a b k
    | .string => pStr op a b k
    | .struct fs => match op with
      | .eql => cnd (P.eqGuardType P.depth t || P.stoodInHeld t) (none) (ob (structInfo P 8 fs.toList) fun l => pEqS l false a b k)
      | .neq => cnd (P.eqGuardType P.depth t || P.stoodInHeld t) (none) (ob (structInfo P 8 fs.toList) fun l => pEqS l true a b k)
      | _ => none
    | d => match op with
      | .eql => ob (ekOf d) fun e => pEq e false a b k
      | .neq => ob (ekOf d) fun e => pEq e true a b k
      | _ => none

abbrev convK (P : Program) (src dst : TypeId) (v : AV) (h : AH) (k : AV → AH → R) : R :=
  ob (P.underlying src) fun ds => ob (P.underlying dst) fun dd => match dd with
    | .int d => (match ds with | .int _ => pConvI d v fun z => k z h | _ => none)
    | .string => (match ds with
      | .string => pIsStr v fun z => k z h
      | .slice e => ob (P.underlying e) fun de => (match de with | .int .u8 => pB2S h v fun z => k z h | _ => none)
      | _ => none)
    | .slice e => (match ds with
      | .string => ob (P.underlying e) fun de => (match de with | .int .u8 => ob (cellsOf? P e) fun sz => cnd (Nat.beq sz 1) (pS2B h e v k) none | _ => none)
      | _ => none)
    | _ => none

/-- is a type's zero value of so many cells, each of one -/
def zeroOk (P : Program) (e : TypeId) : Option (List AV) :=
  (P.info? e).bind fun i => (zero? P e).bind fun z => bif Nat.beq z.cells.length i.size && (allOne z.cells && Nat.ble i.bytes 65536) then some z.cells else none

abbrev opK (P : Program) (c : CV) (o : Op) (r : Operand → Option AV) (h : AH) (k : AV → AH → R) : R :=
  match o with
  | .move x => ob (r x) fun v => k v h
  | .assign x => ob (r x) fun v => k v h
  | .pick a b d => ob (r a) fun va => ob (r b) fun vb => ob (r d) fun vd => pPick va vb vd fun z => k z h
  | .alloc e => ob (zero? P e) fun z => pBox h e z k
  | .box e x => ob (r x) fun v => pBox h e v k
  | .build t parts => ob (zero? P t) fun z => ob (P.underlying t) fun d => match d with
    | .struct fs => ob (fieldPlaces P fs.toList) fun pl => ob (partsOf (fun i => lget pl i) r parts.toList) fun vs => pBuild z.cells vs fun v => k v h
    | .array _ e => ob (cellsOf? P e) fun sz => ob (partsOf (fun i => some (i * sz, sz)) r parts.toList) fun vs => pBuild z.cells vs fun v => k v h
    | _ => none
  | .buildSlice t len parts => ob (P.underlying t) fun d => match d with
    | .slice e => ob (zeroOk P e) fun z => cnd (Nat.ble (len * z.length) 16777216) (ob (partsOf (fun i => some (i * z.length, z.length)) r parts.toList) fun vs => pBuildS h e z len vs k) (none)
    | _ => none
  | .load t a => ob (r a) fun v => ob (partInfo P t) fun i => match i with
    | none => pLoad1 h v fun z => k z h
    | some n => pLoadN h v n fun z => k z h
  | .store t a x => ob (r a) fun va => ob (r x) fun vx => ob (cellsOf? P t) fun n => pStore h va vx n fun h' => k .undef h'
  | .nilCheck x => ob (r x) fun v => pNil v fun z => k z h
  | .binOp op t x y _ => ob (r x) fun a => ob (r y) fun b => binK P op t a b fun z => k z h
  | .unOp op _ x => ob (r x) fun v => pUn op v fun z => k z h
  | .convert s d x => ob (r x) fun v => convK P s d v h k
  | .makeInterface t x => ob (P.underlying t) fun d => match d with
    | .interface _ => none
    | _ => ob (r x) fun v => k (.iface t v) h
  | .makeFunc fn a cp => match fn with
    | .func f => ob (mapO r a.toList) fun va => ob (mapO r cp.toList) fun vc => k (.fn f va vc) h
    | _ => none
  | .makeSlice t l cp => ob (P.underlying t) fun d => match d with
    | .slice e => ob (zeroOk P e) fun z => ob (r l) fun vl => ob (r cp) fun vc => pMake h e z vl vc k
    | _ => none
  | .slice t x lo hi mx => match mx with
    | some _ => none
    | none => ob (r x) fun v => ob (optO r lo) fun l => ob (optO r hi) fun u => ob (P.underlying t) fun d => match d with
      | .string => pSliceS v l u fun z => k z h
      | .slice e => ob (cellsOf? P e) fun sz => pSlice h e sz v l u fun z => k z h
      | .array n e => ob (cellsOf? P e) fun sz => pSliceP n sz v l u fun z => k z h
      | _ => none
  | .fieldAddr t x f => ob (r x) fun v => ob (fieldOff P t f) fun off => pFieldA v off fun z => k z h
  | .field t x f => ob (r x) fun v => ob (fieldPart P t f) fun p => match p.2 with
    | none => pPart1 v p.1 fun z => k z h
    | some n => pPartN v p.1 n fun z => k z h
  | .indexAddr t x i => ob (r x) fun v => ob (r i) fun j => ob (P.underlying t) fun d => match d with
    | .slice e => ob (cellsOf? P e) fun sz => pIdxS v j sz fun z => k z h
    | .array n e => cnd (Nat.ble 2 n) (ob (cellsOf? P e) fun sz => pIdxP v j n sz fun z => k z h) (none)
    | _ => none
  | .index t x i => ob (r x) fun v => ob (r i) fun j => ob (P.underlying t) fun d => match d with
    | .string => pIdxStr v j fun z => k z h
    | .array n e => ob (cellsOf? P e) fun sz => ob (agg? P e) fun g => cnd (g) (pIdxAN v j n sz fun z => k z h) (pIdxA1 v j n sz fun z => k z h)
    | _ => none
  | .typeAssert x _ t ok => ob (r x) fun v => ob (P.underlying t) fun d => match d with
    | .interface _ => none
    | _ => cnd (ok) (ob (zero? P t) fun z => pAssertOk t z v fun y => k y h) (pAssert t v fun y => k y h)
  | .extract x i => ob (r x) fun v => pExtract v i fun z => k z h
  | .makeMap t hint => match hint with
    | none => cnd (mapI P t) (pMakeMap h k) none
    | some _ => none
  | .lookup t x i ok => cnd (mapI P t && !ok) (ob (r x) fun v => ob (r i) fun j => pLookM h v j fun z => k z h) none
  | .mapEntry t x i => cnd (mapI P t) (ob (r x) fun v => ob (r i) fun j => pEntM h v j k) none
  | .mapUpdate t x s y => cnd (mapI P t) (ob (r x) fun v => ob (r s) fun j => ob (r y) fun u => pSetM h v j u fun h' => k .undef h') none
  | .entryStore _ x s y => ob (r x) fun v => ob (r s) fun j => ob (r y) fun u => pStM h v j u fun h' => k .undef h'
  | .range t x => ob (P.underlying t) fun d => match d with
    | .string => ob (r x) fun v => pRange h v k
    | _ => none
  | .next it s => cnd (s) (ob (r it) fun v => pNext h v k) (none)
  | .call cl => match cl.callee with
    | .value f => ob (r f) fun vf => ob (mapO r cl.args.toList) fun va => pCall c vf va h k
    | .invoke x name => ob (r x) fun v => ob (mapO r cl.args.toList) fun va => pInvoke c (methTab P name) v va h k
    | .builtin b => match b with
      | .len => (match cl.args.toList, cl.argTypes.toList with
        | x :: _, t :: _ => ob (r x) fun v => ob (P.underlying t) fun d => (match d with
          | .string => pLenStr v fun z => k z h
          | .array n _ => k (.int .i64 (.ofNat n)) h
          | .slice _ => pLenS v fun z => k z h
          | .map _ _ => pLenM h v fun z => k z h
          | _ => none)
        | _, _ => none)
      | .min => ob (mapO r cl.args.toList) fun l => pMM false l fun z => k z h
      | .max => ob (mapO r cl.args.toList) fun l => pMM true l fun z => k z h
      | .append => (match cl.args.toList, cl.argTypes.toList with
        | s :: x :: [], t :: u :: _ => ob (P.underlying u) fun du => (match du with
          | .int _ => none
          | _ => ob (P.underlying t) fun d => (match d with
            | .slice e => ob (zeroOk P e) fun z => ob (r s) fun vs => ob (r x) fun vx => pAppend h e z.length vs vx k
            | _ => none))
        | _, _ => none)
      | .copy => (match cl.args.toList, cl.argTypes.toList with
        | s :: x :: [], t :: _ => ob (P.underlying t) fun d => (match d with
            | .slice e => ob (cellsOf? P e) fun sz => ob (r s) fun vs => ob (r x) fun vx => pCopy h sz vs vx k
            | _ => none)
        | _, _ => none)
      | .delete => (match cl.args.toList, cl.argTypes.toList with
        | s :: x :: [], t :: _ => cnd (mapI P t) (ob (r s) fun vs => ob (r x) fun vx => pDelM h vs vx k) none
        | _, _ => none)
      | _ => none
  | _ => none

/-- the operation alone -/
abbrev opS (P : Program) (c : CV) (o : Op) (r : Operand → Option AV) (h : AH) : R := opK P c o r h fun v h' => some (v, h')

/-! ### slots -/
def guardD (all : List Oper) (o : Oper) : Option Nat := o.guard.bind fun g => (lget all g.1).bind fun p => p.dst

/-- which slots are carried over where ways meet: any choice is sound -/
inductive Pl where
  | z
  | n (L : Option (List Nat)) (a b : Pl)
  | r (Ls : List (List Nat))

def has (tm : PT AV) (t : Nat) : Bool := match tm.get t with | some _ => true | none => false
def Tup : List Nat → Type
  | [] => Unit
  | _ :: L => AV × Tup L
def tupOf : (L : List Nat) → PT AV → Tup L
  | [], _ => ()
  | t :: L, tm => ((match tm.get t with | some v => v | none => .undef), tupOf L tm)
def tmOfT : (L : List Nat) → Tup L → PT AV → PT AV
  | [], _, a => a
  | t :: L, s, a => tmOfT L s.2 (a.set t s.1)
def allHas (tm : PT AV) : List Nat → Bool
  | [] => true
  | t :: L => has tm t && allHas tm L

/-! ### regions -/
abbrev putD (n : Nat) (tm : PT AV) (dst : Option Tmp) (v : AV) (k : PT AV → R) : R :=
  match dst with
  | none => k tm
  | some d => cnd (Nat.ble (d + 1) n) (k (tm.set d v)) (none)

/-- operations without guards, or whose guard holds -/
abbrev runK (P : Program) (c : CV) (n : Nat) : List Oper → PT AV → AH → (PT AV → AH → R) → R
  | [], tm, h, k => k tm h
  | o :: r, tm, h, k => opK P c o.op (ev tm) h fun v h' => putD n tm o.dst v fun tm' => runK P c n r tm' h' k

abbrev skipK (n : Nat) : List Oper → PT AV → (PT AV → R) → R
  | [], tm, k => k tm
  | o :: r, tm, k => putD n tm o.dst .undef fun tm' => skipK n r tm' k

def writes (d : Nat) : List Oper → Bool
  | [] => false
  | o :: r => (match o.dst with | some t => Nat.beq t d | none => false) || writes d r
def sameG (g : Nat × Bool) (o : Oper) : Bool := match o.guard with | some g' => Nat.beq g.1 g'.1 && g.2 == g'.2 | none => false
def spanG (g : Nat × Bool) : List Oper → List Oper × List Oper
  | [] => ([], [])
  | o :: r => bif sameG g o then (o :: (spanG g r).1, (spanG g r).2) else ([], o :: r)

abbrev seqK (P : Program) (c : CV) (n : Nat) (all : List Oper) : Nat → List Oper → List (List Nat) → PT AV → AH → (PT AV → AH → R) → R
  | _, [], _, tm, h, k => k tm h
  | 0, _ :: _, _, _, _, _ => none
  | f + 1, o :: r, Ls, tm, h, k => match o.guard with
    | none => opK P c o.op (ev tm) h fun v h' => putD n tm o.dst v fun tm' => seqK P c n all f r Ls tm' h' k
    | some g => ob (guardD all o) fun d => ob (tm.get d) fun vg =>
      match Ls with
      | [] => none
      | L :: Ls' => cnd (writes d (o :: (spanG g r).1)) none (joinC (α := Tup L → AH → R) (fun s h => seqK P c n all f (spanG g r).2 Ls' (tmOfT L s .e) h k) fun J => pWant vg g.2
          (runK P c n (o :: (spanG g r).1) tm h fun tm' h' => cnd (allHas tm' L) (J (tupOf L tm') h') none)
          (skipK n (o :: (spanG g r).1) tm fun tm' => cnd (allHas tm' L) (J (tupOf L tm') h) none))

/-! ### regions that draw their order -/
mutual
def aveq : AV → AV → Bool
  | .bool a, .bool b => a == b
  | .int k a, .int k' b => k == k' && ieq a b
  | .str a, .str b => seq? a b
  | .ptr b o, .ptr b' o' => Nat.beq b b' && Nat.beq o o'
  | .nilp, .nilp => true
  | .slice b o l c p, .slice b' o' l' c' p' => Nat.beq b b' && (Nat.beq o o' && (Nat.beq l l' && (Nat.beq c c' && p == p')))
  | .nils, .nils => true
  | .fn f a c, .fn f' a' c' => Nat.beq f f' && (aveqs a a' && aveqs c c')
  | .yield l, .yield l' => Nat.beq l l'
  | .nilf, .nilf => true
  | .iface t v, .iface t' v' => Nat.beq t t' && aveq v v'
  | .nili, .nili => true
  | .agg l, .agg l' => aveqs l l'
  | .tup l, .tup l' => aveqs l l'
  | .empt a, .empt a' => decide (a = a')
  | .tail b o o' i, .tail b' p p' j => Nat.beq b b' && (Nat.beq o p && (Nat.beq o' p' && Nat.beq i j))
  | .mapv b, .mapv b' => Nat.beq b b'
  | _, _ => false
def aveqs : List AV → List AV → Bool
  | [], [] => true
  | a :: r, b :: s => aveq a b && aveqs r s
  | _, _ => false
end

inductive Cls where
  | pure | load | fresh | heavy

def cls (P : Program) : Op → Cls
  | .convert s d _ => match P.underlying d with
    | some (.int _) => .pure
    | some .string => match P.underlying s with
      | some .string => .pure
      | _ => .heavy
    | _ => .heavy
  | .move _ | .assign _ | .pick .. | .build .. | .nilCheck _ | .binOp .. | .unOp .. | .makeInterface .. | .makeFunc .. | .slice .. | .fieldAddr .. | .field .. | .indexAddr .. | .index ..
  | .typeAssert .. | .extract .. => .pure
  | .load .. => .load
  | .alloc .. | .box .. | .buildSlice .. | .makeSlice .. => .fresh
  | .call cl => match cl.callee with
    | .builtin b => match b with
      | .len => (match cl.argTypes.toList with | t :: _ => (match P.underlying t with | some (.map _ _) => .heavy | _ => .pure) | [] => .pure)
      | .min => .pure
      | .max => .pure
      | _ => .heavy
    | _ => .heavy
  | _ => .heavy
def isHeavy (P : Program) (o : Op) : Bool := match cls P o with | .heavy => true | _ => false
def isLoad (o : Op) : Bool := match o with | .load _ _ => true | _ => false
/-- a cut of a slice looks at what is known of its block -/
def isCut (P : Program) (o : Op) : Bool := match o with | .slice t _ _ _ _ => (match P.underlying t with | some (.slice _) => true | _ => false) | _ => false
/-- loads, and cuts of slices -/
def isLook (P : Program) (o : Op) : Bool := isLoad o || isCut P o

/-- bit i of the j-th: i stands ahead of j, in whatever order -/
def masks : List Oper → Nat → PT Nat → PT Nat
  | [], _, t => t
  | o :: r, j, t => masks r (j + 1) (t.set j (o.after.toList.foldl (fun s e => bif Region.binds .any e then s ||| (2 ^ e.on ||| (match t.get e.on with | some m => m | none => 0)) else s) 0))
def maskOf (t : PT Nat) (j : Nat) : Nat := match t.get j with | some m => m | none => 0
/-- the heavy ones stand in one chain -/
def chain (P : Program) (t : PT Nat) : List Oper → Nat → Option Nat → Bool
  | [], _, _ => true
  | o :: r, j, last => bif isHeavy P o.op then (match last with | none => true | some i => Nat.testBit (maskOf t j) i) && chain P t r (j + 1) (some j) else chain P t r (j + 1) last
def bit (t : Nat) : Nat := 2 ^ t
def orL : List Nat → Nat
  | [] => 0
  | a :: r => a ||| orL r
def rdO : Operand → Nat | .tmp t => bit t | _ => 0
/-- the slots that an operation looks at, its guard's too -/
def looks (all : List Oper) (o : Oper) : Nat := orL (o.op.operands.toList.map rdO) ||| (match o.guard with | some _ => (match guardD all o with | some d => bit d | none => 0) | none => 0)
def dstBit (o : Oper) : Nat := match o.dst with | some d => bit d | none => 0
structure Ent where
  i : Nat
  w : Nat
  l : Nat
def apartE (mk wj lj : Nat) : List Ent → Bool
  | [] => true
  | e :: r => (Nat.testBit mk e.i || (Nat.beq (e.w &&& (lj ||| wj)) 0 && Nat.beq (wj &&& e.l) 0)) && apartE mk wj lj r
def edgesBack (j : Nat) : List Edge → Bool
  | [] => true
  | e :: r => (bif Region.binds .any e then Nat.ble (e.on + 1) j else true) && edgesBack j r
/-- the text's order is one of the orders; two that may come either way round do not look at what the other writes -/
def lexE (t : PT Nat) (all : List Oper) : List Oper → Nat → List Ent → Bool
  | [], _, _ => true
  | o :: r, j, es => edgesBack j o.after.toList && (apartE (maskOf t j) (dstBit o) (looks all o) es && lexE t all r (j + 1) (⟨j, dstBit o, looks all o⟩ :: es))
/-- a load and a heavy one that may come either way round -/
def loose (t : PT Nat) (i j : Nat) : Bool := !(Nat.testBit (maskOf t i) j || Nat.testBit (maskOf t j) i)
def anyLoose2 (P : Program) (t : PT Nat) (i : Nat) : List Oper → Nat → Bool
  | [], _ => false
  | o :: r, j => isHeavy P o.op && loose t i j || anyLoose2 P t i r (j + 1)
def anyLoose (P : Program) (p : Op → Bool) (t : PT Nat) (all : List Oper) : List Oper → Nat → Bool
  | [], _ => false
  | o :: r, i => p o.op && anyLoose2 P t i all 0 || anyLoose P p t all r (i + 1)
def statR (P : Program) (ops : Array Oper) : Bool :=
  lexE (masks ops.toList 0 .e) ops.toList ops.toList 0 [] && chain P (masks ops.toList 0 .e) ops.toList 0 none

structure LRec where
  i : Nat
  a : AV
  n : Option Nat
  v : AV
structure HRec where
  j : Nat
  hb : AH
  ha : AH
def loadsAs (a : AV) (n : Option Nat) (v : AV) (h : AH) : Bool :=
  match a with
  | .ptr b off => (match h.get b with
    | some (.cells c _ _) => (match n with
      | none => (match c.get1 off with | some x => aveq x v | none => false)
      | some n => (match c.readN off n with | some l => aveq (.agg l) v | none => false))
    | some (.inp t) => (match n with
      | none => (match Trie.get t off with | some x => aveq x v | none => false)
      | some n => (match readT [] t off n with | some l => aveq (.agg l) v | none => false))
    | _ => false)
  | .slice b off len i0 true => (match n with | some m => openFits h (m / 65536) b off (m % 65536) i0 len | none => false)
  | .slice _ _ _ _ false => true
  | .nils => true
  | .empt _ => true
  | _ => false
def blkLt (a : AV) (nx : Nat) : Bool := match a with | .ptr b _ => Nat.ble (b + 1) nx | .slice b _ _ _ true => Nat.ble (b + 1) nx | .slice _ _ _ _ false => true | .nils => true | .empt _ => true | _ => false
def pChk (a : AV) (n : Option Nat) (v : AV) (hb ha : AH) (nx : Nat) (k : R) : R := bif loadsAs a n v hb && (loadsAs a n v ha && blkLt a nx) then k else none
abbrev chk1 (t : PT Nat) (i : Nat) (a : AV) (n : Option Nat) (v : AV) (nx : Nat) : List HRec → R → R
  | [], k => k
  | ⟨j, hb, ha⟩ :: r, k => cnd (loose t i j) (pChk a n v hb ha nx (chk1 t i a n v nx r k)) (chk1 t i a n v nx r k)
abbrev chkAll (t : PT Nat) (hs : List HRec) (nx : Nat) : List LRec → R → R
  | [], k => k
  | ⟨i, a, n, v⟩ :: r, k => chk1 t i a n v nx hs (chkAll t hs nx r k)

def loadA (r : Operand → Option AV) : Op → Option AV
  | .load _ a => r a
  | .slice _ x _ _ _ => r x
  | _ => none
def loadN (P : Program) : Op → Option Nat
  | .load t _ => match partInfo P t with | some i => i | none => none
  | .slice t _ _ _ _ => match P.underlying t with
    | some (.slice e) => (match cellsOf? P e with | some sz => bif Nat.ble (sz + 1) 65536 then some (e * 65536 + sz) else none | none => none)
    | _ => none
  | _ => none

/-- what is known of guards: their slot, what was wanted, whether it was so -/
def lookG : List (Nat × Bool × Bool) → Nat → Bool → Option Bool
  | [], _, _ => none
  | x :: r, d, w => bif Nat.beq x.1 d && (x.2.1 == w) then some x.2.2 else bif Nat.beq x.1 d && x.2.2 then some false else lookG r d w
def hitG (dst : Option Tmp) (d : Nat) : Bool := match dst with | some t => Nat.beq t d | none => false
def dropG (dst : Option Tmp) : List (Nat × Bool × Bool) → List (Nat × Bool × Bool)
  | [] => []
  | x :: r => bif hitG dst x.1 then dropG dst r else x :: dropG dst r
abbrev pKnow (o : Option Bool) (v : AV) (w : Bool) (a b : R) : R := match o with | some true => a | some false => b | none => pWant v w a b

/-- the walk in the text's order, with what was loaded and what was turned -/
abbrev recK (P : Program) (c : CV) (n : Nat) (all : List Oper) : List Oper → Nat → List (Nat × Bool × Bool) → PT AV → AH → List LRec → List HRec → (PT AV → AH → List LRec → List HRec → R) → R
  | [], _, _, tm, h, ls, hs, k => k tm h ls hs
  | o :: r, j, kn, tm, h, ls, hs, k =>
    match o.guard with
    | none => opK P c o.op (ev tm) h fun v h' => putD n tm o.dst v fun tm' =>
      cnd (isLook P o.op) (ob (loadA (ev tm) o.op) fun a => recK P c n all r (j + 1) (dropG o.dst kn) tm' h' (⟨j, a, loadN P o.op, v⟩ :: ls) hs k) (cnd (isHeavy P o.op) (recK P c n all r (j + 1) (dropG o.dst kn) tm' h' ls (⟨j, h, h'⟩ :: hs) k) (recK P c n all r (j + 1) (dropG o.dst kn) tm' h' ls hs k))
    | some g => ob (guardD all o) fun d => ob (tm.get d) fun vg => pKnow (lookG kn d g.2) vg g.2
      (opK P c o.op (ev tm) h fun v h' => putD n tm o.dst v fun tm' =>
        cnd (isLook P o.op) (ob (loadA (ev tm) o.op) fun a => recK P c n all r (j + 1) (dropG o.dst ((d, g.2, true) :: kn)) tm' h' (⟨j, a, loadN P o.op, v⟩ :: ls) hs k) (cnd (isHeavy P o.op) (recK P c n all r (j + 1) (dropG o.dst ((d, g.2, true) :: kn)) tm' h' ls (⟨j, h, h'⟩ :: hs) k) (recK P c n all r (j + 1) (dropG o.dst ((d, g.2, true) :: kn)) tm' h' ls hs k)))
      (putD n tm o.dst .undef fun tm' => recK P c n all r (j + 1) (dropG o.dst ((d, g.2, false) :: kn)) tm' h ls hs k)

abbrev drawK (P : Program) (c : CV) (n : Nat) (ops : Array Oper) (Ls : List (List Nat)) (tm : PT AV) (h : AH) (k : PT AV → AH → R) : R :=
  cnd (statR P ops) ((cnd (anyLoose P (isLook P) (masks ops.toList 0 .e) ops.toList ops.toList 0) (match Ls with
      | [] => none
      | L :: _ => joinC (α := Tup L → AH → R) (fun s h => k (tmOfT L s .e) h)
          fun J => recK P c n ops.toList ops.toList 0 [] tm h [] [] fun tm' h' ls hs => chkAll (masks ops.toList 0 .e) hs h.nx ls (cnd (allHas tm' L) (J (tupOf L tm') h') (none))) (seqK P c n ops.toList ops.toList.length ops.toList Ls tm h k))) (none)

/-! ### code -/
def pBegin (h : AH) (l : Nat) (k : AH → R) : R := match h.get l with
  | some (.loop .ready pend f p L vs d) => k (h.put l (.loop .busy pend f p L vs d))
  | _ => none
def pEndRound (h : AH) (l : Nat) (j : Option AX) : R := match h.get l with
  | some (.loop _ _ f p L vs d) => (match j with
    | none => some (.bool true, h.put l (.loop .ready none f p L vs d))
    | some x => some (.bool false, h.put l (.loop .done (some x) f p L vs d)))
  | _ => none
def pEndLoop (h : AH) (l : Nat) (k : Option AX → AH → R) : R := match h.get l with
  | some (.loop st pend f p L vs d) => (match st with
    | .busy => none
    | _ => k pend (h.put l (.loop .exhausted pend f p L vs d)))
  | _ => none
def axEq : AX → AX → Bool
  | .normal, .normal => true
  | .ret, .ret => true
  | .exit a, .exit b => Nat.beq a b
  | .goto a, .goto b => Nat.beq a b
  | _, _ => false
def pIs (p : Option AX) (x : AX) (a b : R) : R := match p with | some y => bif axEq y x then a else b | none => b
def pNone (p : Option AX) (a b : R) : R := match p with | none => a | some _ => b
/-- the ways in which a round's body may jump -/
def jumps : Code → List Nat → List AX
  | .seq a b, l => jumps a l ++ jumps b l
  | .cond _ a b, l => jumps a l ++ jumps b l
  | .block id a, l => jumps a (id :: l)
  | .loop a, l => jumps a l
  | .rangeFunc _ _ _ b, l => jumps b l
  | .exit id, l => bif l.contains id then [] else [.exit id]
  | .ret, _ => [.ret]
  | _, _ => []
abbrev jumpK (p : Option AX) (k : AX → R) : List AX → R
  | [] => none
  | x :: r => pIs p x (k x) (jumpK p k r)
def pLoopD (h : AH) (l : Nat) (k : Nat → R) : R := match h.get l with | some (.loop _ _ _ _ _ _ d) => k d | _ => none

def listOf : (L : List Nat) → PT AV → List AV
  | [], _ => []
  | t :: L, tm => (match tm.get t with | some v => v | none => .undef) :: listOf L tm

def plA : Pl → Pl | .n _ a _ => a | _ => .z
def plB : Pl → Pl | .n _ _ b => b | _ => .z
def plL : Pl → Option (List Nat) | .n L _ _ => L | _ => none
def plR : Pl → List (List Nat) | .r l => l | _ => []

abbrev execK (P : Program) (N : Nat) (c : CV) (f n : Nat) (rd : Option Nat) : Code → List Nat → Pl → PT AV → AH → List Nat → (AX → PT AV → AH → List Nat → R) → R
  | .skip, _, _, tm, h, ds, k => k .normal tm h ds
  | .region _ ops d, _, pl, tm, h, ds, k => cnd (d) (drawK P c n ops (plR pl) tm h fun tm h => k .normal tm h ds) (seqK P c n ops.toList ops.toList.length ops.toList (plR pl) tm h fun tm h => k .normal tm h ds)
  | .seq a b, pos, pl, tm, h, ds, k => match plL pl with
    | some L => joinC (α := Tup L → AH → List Nat → R)
        (fun s h ds => execK P N c f n rd b (pos ++ [1]) (plB pl) (tmOfT L s .e) h ds k)
        fun J => execK P N c f n rd a (pos ++ [0]) (plA pl) tm h ds fun x tm' h ds => match x with
          | .normal => cnd (allHas tm' L) (J (tupOf L tm') h ds) (none) | x => k x tm' h ds
    | none => execK P N c f n rd a (pos ++ [0]) (plA pl) tm h ds fun x tm' h ds => match x with
      | .normal => execK P N c f n rd b (pos ++ [1]) (plB pl) tm' h ds k
      | x => k x tm' h ds
  | .cond o a b, pos, pl, tm, h, ds, k => ob (ev tm o) fun v => pCond v (execK P N c f n rd a (pos ++ [0]) (plA pl) tm h ds k) (execK P N c f n rd b (pos ++ [1]) (plB pl) tm h ds k)
  | .block id a, pos, pl, tm, h, ds, k => match plL pl with
    | some L => joinC (α := Tup L → AH → List Nat → R)
        (fun s h ds => k .normal (tmOfT L s .e) h ds)
        fun J => execK P N c f n rd a (pos ++ [0]) (plA pl) tm h ds fun x tm' h ds => match x with
          | .normal => cnd (allHas tm' L) (J (tupOf L tm') h ds) (none) | .exit i => cnd (Nat.beq i id) ((cnd (allHas tm' L) (J (tupOf L tm') h ds) (none))) (k (.exit i) tm' h ds) | x => k x tm' h ds
    | none => execK P N c f n rd a (pos ++ [0]) (plA pl) tm h ds fun x tm' h ds => match x with
      | .exit i => cnd (Nat.beq i id) (k .normal tm' h ds) (k (.exit i) tm' h ds)
      | x => k x tm' h ds
  | .loop a, pos, pl, tm, h, ds, k => match plL pl with
    | some L => cnd (allHas tm L) (loopC (σ := Tup L) N
        (fun ih s h ds => execK P N c f n rd a (pos ++ [0]) (plA pl) (tmOfT L s .e) h ds fun x tm' h ds => match x with
          | .normal => cnd (allHas tm' L) (ih (tupOf L tm') h ds) (none) | x => k x tm' h ds)
        (tupOf L tm) h ds) (none)
    | none => none
  | .exit id, _, _, tm, h, ds, k => k (.exit id) tm h ds
  | .label _, _, _, tm, h, ds, k => k .normal tm h ds
  | .goto l, _, _, tm, h, ds, k => k (.goto l) tm h ds
  | .ret, _, _, tm, h, ds, k => k .ret tm h ds
  | .rangeFunc g _ _ body, pos, pl, tm, h, ds, k => ob (ev tm g) fun vf => match plL pl with
    | none => none
    | some L => cnd (allHas tm L) ((fun (go : Nat → AH → List Nat → R) => match rd with
       | none => go h.nx (h.new .dfd) (h.nx :: ds)
       | some l0 => pLoopD h l0 fun d => go d h ds)
      fun d h1 ds1 => pCallF c vf [.yield h1.nx] (h1.new (.loop .ready none f pos L (listOf L tm) d)) fun _ h2 =>
        pEndLoop h2 h1.nx fun p h3 => pNone p (k .normal tm h3 ds1) (jumpK p (fun x => k x tm h3 ds1) (jumps body []))) (none)
  | _, _, _, _, _, _, _ => none

def pLeave : List Nat → AH → (AH → R) → R
  | [], h, k => k h
  | d :: r, h, k => match h.get d with
    | some .dfd => pLeave r (h.put d .took) k
    | _ => none

def tmOf : List AV → Nat → PT AV → PT AV
  | [], _, t => t
  | a :: r, i, t => tmOf r (i + 1) (t.set i a)

abbrev resK (P : Program) (tm : PT AV) (h : AH) : List ResultVar → (List AV → R) → R
  | [], k => k []
  | x :: r, k => match x with
    | .tmp t => ob (tm.get t) fun v => resK P tm h r fun l => k (v :: l)
    | .cell a t => ob (tm.get a) fun va => ob (partInfo P t) fun i => match i with
      | none => pLoad1 h va fun v => resK P tm h r fun l => k (v :: l)
      | some n => pLoadN h va n fun v => resK P tm h r fun l => k (v :: l)

def one? (l : List AV) : AV := match l with | [v] => v | l => .tup l

/-- a function's body, its callees by 'c' -/
abbrev enterK (P : Program) (N : Nat) (pl : Pl) (c : CV) (f : FuncId) (args : List AV) (h : AH) : R :=
  ob (P.funcs[f]?) fun fn => ob fn.body fun b =>
    execK P N c f fn.ntmps none b [] pl (tmOf args 0 .e) h [] fun x tm h ds => match x with
      | .normal => pLeave ds h fun h' => resK P tm h' fn.results.toList fun l => some (one? l, h')
      | .ret => pLeave ds h fun h' => resK P tm h' fn.results.toList fun l => some (one? l, h')
      | _ => none

/-- the statement that stands at a place of a function's code -/
def codeAt : Code → List Nat → Option Code
  | c, [] => some c
  | .seq a b, i :: p => bif Nat.beq i 0 then codeAt a p else codeAt b p
  | .cond _ a b, i :: p => bif Nat.beq i 0 then codeAt a p else codeAt b p
  | .block _ a, _ :: p => codeAt a p
  | .loop a, _ :: p => codeAt a p
  | .rangeFunc _ _ a b, i :: p => bif Nat.beq i 0 then codeAt a p else codeAt b p
  | _, _ :: _ => none

abbrev setPs : List Tmp → List AV → Nat → PT AV → (PT AV → R) → R
  | [], [], _, t, k => k t
  | p :: ps, v :: vs, n, t, k => cnd (Nat.ble (p + 1) n) (setPs ps vs n (t.set p v) k) (none)
  | _, _, _, _, _ => none

abbrev zipK : List Nat → List AV → PT AV → (PT AV → R) → R
  | [], [], t, k => k t
  | x :: L, v :: vs, t, k => zipK L vs (t.set x v) k
  | _, _, _, _ => none

/-- one round of the loop block l: the body of the range over a function at 'pos' of f -/
abbrev roundK (P : Program) (N : Nat) (pl : Pl) (c : CV) (f : FuncId) (pos L : List Nat) (l : Nat) (vs args : List AV) (h : AH) : R :=
  ob (P.funcs[f]?) fun fn => ob fn.body fun b => ob (codeAt b pos) fun s => match s with
    | .rangeFunc _ ps assign body => zipK L vs .e fun tm0 => setPs ps.toList args fn.ntmps tm0 fun tm =>
      execK P N c f fn.ntmps (some l) assign (pos ++ [0]) (plA pl) tm h [] fun x tm h ds => match x with
        | .normal => pBegin h l fun h => execK P N c f fn.ntmps (some l) body (pos ++ [1]) (plB pl) tm h ds fun x _ h _ => match x with
          | .normal => pEndRound h l none
          | x => pEndRound h l (some x)
        | _ => none
    | _ => none

/-! ### tables of bodies -/
def NN : Nat := 1000000000
abbrev WF := CV → List AV → AH → R
abbrev VF := CV → Nat → List AV → List AV → AH → R
def WOk (P : Program) (f : Nat) (w : WF) : Prop := ∀ c l h r, w c l h = some r → ∃ pl, enterK P NN pl c f l h = some r
def VOk (P : Program) (f : Nat) (pos L : List Nat) (w : VF) : Prop := ∀ c l x y h r, w c l x y h = some r → ∃ pl, roundK P NN pl c f pos L l x y h = some r
structure RT where
  f : Nat
  pos : List Nat
  L : List Nat
  run : VF
def natsEq : List Nat → List Nat → Bool
  | [], [] => true
  | a :: x, b :: y => Nat.beq a b && natsEq x y
  | _, _ => false
def findRT : List RT → Nat → List Nat → List Nat → Option VF
  | [], _, _, _ => none
  | x :: r, f, pos, L => bif Nat.beq x.f f && (natsEq x.pos pos && natsEq x.L L) then some x.run else findRT r f pos L
def ptOf {α : Type} : List (Nat × α) → Trie α
  | [] => .e
  | p :: r => Trie.set (ptOf r) p.1 p.2
/-- a table of bodies: balanced by tests -/
inductive BT where
  | no
  | leaf (f : Nat) (w : WF)
  | node (m : Nat) (l r : BT)
def BT.get (t : BT) (f : Nat) : Option WF :=
  BT.rec (motive := fun _ => Option WF) none (fun g w => Bool.rec (motive := fun _ => Option WF) none (some w) (Nat.beq g f)) (fun m _ _ l r => Bool.rec (motive := fun _ => Option WF) r l (Nat.ble f m)) t
def BT.all (p : Nat → WF → Prop) : BT → Prop
  | .no => True
  | .leaf f w => p f w
  | .node _ l r => l.all p ∧ r.all p
def BT.fs : BT → List Nat
  | .no => []
  | .leaf f _ => [f]
  | .node _ l r => l.fs ++ r.fs
def callT (tab : BT) (rt : List RT) (k : Nat) : CV :=
  Nat.rec (motive := fun _ => CV) (fun _ _ _ => none) (fun _ ih v args h => match v with
    | .fn f first cap => Option.rec (motive := fun _ => R) none (fun g => g ih (first ++ args ++ cap) h) (BT.get tab f)
    | .yield l => (match h.get l with
      | some (.loop .ready _ f pos L vs _) => (match findRT rt f pos L with | some g => g ih l vs args h | none => none)
      | _ => none)
    | _ => none) k
def isTrue (r : R) : Bool := match r with | some (.bool true, _) => true | _ => false
def AH.empty : AH := ⟨0, [], .e⟩

end
end Go.Ae
