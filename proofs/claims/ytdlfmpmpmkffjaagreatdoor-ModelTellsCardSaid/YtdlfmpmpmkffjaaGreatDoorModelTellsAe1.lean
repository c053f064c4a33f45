/- The abstract executor of the program's form in Lean, shown sound: values, heaps, operations, code: plain definitions. -/
import Derived.CallsIn
import Derived.OrdersIn
import Derived.Eval
import Derived.RangeFuncIn
import Derived.RangeFuncLeaves
import Derived.Still
import Derived.Lib.ItoaNum
namespace Go.Ae
noncomputable section
def gtab : List (String × IntKind × List Int) := [("internal/strconv.uint64pow10", IntKind.u64, Lib.pow10Tab)]
inductive PT (α : Type) where
  | e
  | n (l : PT α) (v : Option α) (r : PT α)
def PT.get {α : Type} (t : PT α) (i : Nat) : Option α :=
 PT.rec (motive := fun _ => Nat → Option α) (fun _ => none)
  (fun _ v _ l r i => Bool.rec (motive := fun _ => Option α) (Bool.rec (motive := fun _ => Option α) (r (Nat.sub (Nat.div i 2) 1)) (l (Nat.div i 2)) (Nat.beq (Nat.mod i 2) 1)) v (Nat.beq i 0)) t i
def PT.setF {α : Type} (f : Nat) (t : PT α) (i : Nat) (x : α) : PT α :=
 Nat.rec (motive := fun _ => PT α → Nat → PT α) (fun _ _ => .e)
  (fun _ ih t i => PT.rec (motive := fun _ => PT α)
   (Bool.rec (motive := fun _ => PT α) (Bool.rec (motive := fun _ => PT α) (.n .e none (ih .e (Nat.sub (Nat.div i 2) 1))) (.n (ih .e (Nat.div i 2)) none .e) (Nat.beq (Nat.mod i 2) 1)) (.n .e (some x) .e) (Nat.beq i 0))
   (fun l v r _ _ => Bool.rec (motive := fun _ => PT α) (Bool.rec (motive := fun _ => PT α) (.n l v (ih r (Nat.sub (Nat.div i 2) 1))) (.n (ih l (Nat.div i 2)) v r) (Nat.beq (Nat.mod i 2) 1)) (.n l (some x) r) (Nat.beq i 0)) t) f t i
def PT.set {α : Type} (t : PT α) (i : Nat) (x : α) : PT α := PT.setF (i + 1) t i x
def PT.kid {α : Type} (i m : Nat) (t : PT α) : PT α := PT.rec (motive := fun _ => PT α) .e (fun l _ r _ _ => Bool.rec (motive := fun _ => PT α) r l (Nat.beq (Nat.land i m) 0)) t
def PT.leaf {α : Type} (t : PT α) : Option α := PT.rec (motive := fun _ => Option α) none (fun _ v _ _ _ => v) t
def PT.sub {α : Type} (i m : Nat) (f : PT α → PT α) (t : PT α) : PT α :=
 PT.rec (motive := fun _ => PT α) (Bool.rec (motive := fun _ => PT α) (.n .e none (f .e)) (.n (f .e) none .e) (Nat.beq (Nat.land i m) 0))
  (fun l v r _ _ => Bool.rec (motive := fun _ => PT α) (.n l v (f r)) (.n (f l) v r) (Nat.beq (Nat.land i m) 0)) t
def PT.mark {α : Type} (x : α) (t : PT α) : PT α := PT.rec (motive := fun _ => PT α) (.n .e (some x) .e) (fun l _ r _ _ => .n l (some x) r) t
def PT.get12 {α : Type} (t : PT α) (i : Nat) : Option α := PT.leaf (PT.kid i 1 (PT.kid i 2 (PT.kid i 4 (PT.kid i 8 (PT.kid i 16 (PT.kid i 32 (PT.kid i 64 (PT.kid i 128 (PT.kid i 256 (PT.kid i 512 (PT.kid i 1024 (PT.kid i 2048 (t)))))))))))))
def PT.set12 {α : Type} (t : PT α) (i : Nat) (x : α) : PT α := PT.sub i 2048 (PT.sub i 1024 (PT.sub i 512 (PT.sub i 256 (PT.sub i 128 (PT.sub i 64 (PT.sub i 32 (PT.sub i 16 (PT.sub i 8 (PT.sub i 4 (PT.sub i 2 (PT.sub i 1 (PT.mark x)))))))))))) t
abbrev Trie (α : Type) := PT (PT α)
def Trie.get {α : Type} (t : Trie α) (i : Nat) : Option α := Option.rec (motive := fun _ => Option α) none (fun s => PT.get12 s i) (PT.get t (Nat.div i 4096))
def Trie.set {α : Type} (t : Trie α) (i : Nat) (x : α) : Trie α := PT.set t (Nat.div i 4096) (PT.set12 (Option.rec (motive := fun _ => PT α) .e (fun s => s) (PT.get t (Nat.div i 4096))) i x)
inductive AV where
  | bool (b : Bool)
  | int (k : IntKind) (n : Int)
  | str (s : List UInt8)
  | ptr (b off : Nat)
  | nilp
  /-- opn: the room is that of the block, less 'cap' elements ahead; else the room is 'cap' -/
  | slice (b off len cap : Nat) (opn : Bool)
  | nils
  | fn (f : FuncId) (first cap : List AV)
  | yield (l : Nat)
  | nilf
  | iface (t : TypeId) (v : AV)
  | nili
  | agg (l : List AV)
  | tup (l : List AV)
  /-- an empty slice without room, wherever it points -/
  | empt (a : Addr)
  /-- an empty slice behind all that an open block's slice shows: where it points hangs on the room -/
  | tail (b off off' i1 : Nat)
  /-- a map of the walk's own -/
  | mapv (b : Nat)
  deriving Inhabited
def AV.undef : AV := .tup []
def AV.cells : AV → List AV
 | .agg l => l
 | v => [v]
def AV.one : AV → Bool
 | .agg _ => false
 | .tup _ => false
 | _ => true
def y6 {α : Type} (l : List α) (i : Nat) : Option α :=
 List.rec (motive := fun _ => Nat → Option α) (fun _ => none) (fun a _ ih i => Bool.rec (motive := fun _ => Option α) (ih (Nat.sub i 1)) (some a) (Nat.beq i 0)) l i
def xI {α : Type} (n : Nat) (l : List α) : Option (List α) :=
 Nat.rec (motive := fun _ => List α → Option (List α)) (fun _ => some [])
  (fun _ ih l => List.rec (motive := fun _ => Option (List α)) none (fun a r _ => Option.rec (motive := fun _ => Option (List α)) none (fun s => some (a :: s)) (ih r)) l) n l
def xi {α : Type} (n : Nat) (l : List α) : List α :=
 Nat.rec (motive := fun _ => List α → List α) (fun l => l) (fun _ ih l => List.rec (motive := fun _ => List α) [] (fun _ r _ => ih r) l) n l
def YF {α : Type} (l xs : List α) : Option (List α) :=
 List.rec (motive := fun _ => List α → Option (List α)) (fun l => some l)
  (fun x _ ih l => List.rec (motive := fun _ => Option (List α)) none (fun _ l _ => Option.rec (motive := fun _ => Option (List α)) none (fun s => some (x :: s)) (ih l)) l) xs l
def gY {α : Type} (l : List α) (off : Nat) (xs : List α) : Option (List α) :=
 Nat.rec (motive := fun _ => List α → Option (List α)) (fun l => YF l xs)
  (fun _ ih l => List.rec (motive := fun _ => Option (List α)) none (fun a l _ => Option.rec (motive := fun _ => Option (List α)) none (fun s => some (a :: s)) (ih l)) l) off l
def yw {α : Type} (l : List α) : Nat → List α
 | 0 => []
 | n + 1 => l ++ yw l n
inductive CT where
  | lst (xs : List AV)
  | tree (n : Nat) (z : List AV) (tr : Trie AV)
def gM (z : List AV) (t : Trie AV) (i : Nat) : Option AV := Option.rec (motive := fun _ => Option AV) (y6 z (Nat.mod i z.length)) (fun v => some v) (Trie.get t i)
def yP (z : List AV) (t : Trie AV) (i : Nat) : AV := match gM z t i with | some v => v | none => .undef
def UY (t : Trie AV) (i : Nat) (xs : List AV) : Trie AV :=
 List.rec (motive := fun _ => Trie AV → Nat → Trie AV) (fun t _ => t) (fun x _ ih t i => ih (Trie.set t i x) (Nat.succ i)) xs t i
def gr (z : List AV) (t : Trie AV) (i n : Nat) : Option (List AV) :=
 Nat.rec (motive := fun _ => Nat → Option (List AV)) (fun _ => some [])
  (fun _ ih i => Option.rec (motive := fun _ => Option (List AV)) none (fun v => Option.rec (motive := fun _ => Option (List AV)) none (fun s => some (v :: s)) (ih (Nat.succ i))) (gM z t i)) n i
def CT.toList : CT → List AV
 | .lst xs => xs
 | .tree n z tr => (List.range n).map (yP z tr)
def CT.len : CT → Nat
 | .lst xs => xs.length
 | .tree n _ _ => n
def CT.get1 (c : CT) (i : Nat) : Option AV := match c with
 | .lst xs => y6 xs i
 | .tree n z tr => bif Nat.ble (i + 1) n then gM z tr i else none
def CT.readN (c : CT) (off n : Nat) : Option (List AV) := match c with
 | .lst xs => xI n (xi off xs)
 | .tree m z tr => bif Nat.beq n 0 then some [] else bif Nat.ble (off + n) m then gr z tr off n else none
def CT.write (c : CT) (off : Nat) (xs : List AV) : Option CT := match c with
 | .lst ys => (gY ys off xs).bind fun s => some (.lst s)
 | .tree n z tr => bif Nat.ble (off + xs.length) n then some (.tree n z (UY tr off xs)) else none
def CT.ofList (xs : List AV) : CT := bif Nat.ble xs.length 16 then .lst xs else .tree xs.length [] (UY .e 0 xs)
def CT.rep (z : List AV) (n : Nat) : CT := bif Nat.ble (z.length * n) 16 then .lst (yw z n) else .tree (z.length * n) z .e
def CT.app (c : CT) (xs : List AV) : CT := match c with
 | .lst ys => CT.ofList (ys ++ xs)
 | .tree n z tr => .tree (n + xs.length) z (UY tr n xs)
def CT.pre (c : CT) (n : Nat) : Option CT := match c with
 | .lst ys => (xI n ys).bind fun s => some (.lst s)
 | .tree m z tr => bif Nat.ble n m then some (.tree n z tr) else none
def CT.seg (c : CT) (off n : Nat) : Option CT := bif Nat.beq off 0 then c.pre n else (c.readN off n).bind fun l => some (CT.ofList l)
inductive AX where
  | normal
  | exit (id : Nat)
  | goto (l : Nat)
  | ret
inductive Blk where
  | cells (c : CT) (elem : TypeId) (opn : Bool)
  | dead
  | iter (s : List UInt8) (pos : Nat)
  | loop (st : LoopState) (pend : Option AX) (fn : Nat) (pos L : List Nat) (vs : List AV) (d : Nat)
  | dfd
  | took
  /-- cells that are the caller's: some are known, none is written -/
  | inp (t : Trie AV)
  /-- a map of numbers to numbers: key, value, when it came; the clock -/
  | mp (l : List (Int × Int × Nat)) (clk : Nat)
structure AH where
  nx : Nat
  rc : List (Nat × Blk)
  t : Trie Blk
def Js (l : List (Nat × Blk)) (b : Nat) (d : Option Blk) : Option Blk := List.rec (motive := fun _ => Option Blk) d (fun p _ ih => Bool.rec (motive := fun _ => Option Blk) ih (some p.2) (Nat.beq p.1 b)) l
def Y2 (n : Nat) (l : List (Nat × Blk)) : List (Nat × Blk) :=
 Nat.rec (motive := fun _ => List (Nat × Blk) → List (Nat × Blk)) (fun _ => []) (fun _ ih l => List.rec (motive := fun _ => List (Nat × Blk)) [] (fun p r _ => p :: ih r) l) n l
def Gj (l : List (Nat × Blk)) (t : Trie Blk) : Trie Blk := List.rec (motive := fun _ => Trie Blk) t (fun p _ ih => Trie.set ih p.1 p.2) l
def AH.get (h : AH) (b : Nat) : Option Blk := Js h.rc b (Trie.get h.t b)
def AH.put (h : AH) (b : Nat) (x : Blk) : AH := ⟨h.nx, (b, x) :: Y2 5 h.rc, Gj (xi 5 h.rc) h.t⟩
def AH.new (h : AH) (x : Blk) : AH := ⟨Nat.succ h.nx, (h.nx, x) :: Y2 5 h.rc, Gj (xi 5 h.rc) h.t⟩
def JF : Value → Option AV
 | .bool b => some (.bool b)
 | .int k n => some (.int k n)
 | .string s => some (.str s.data.toList)
 | .pointer none => some .nilp
 | .slice none 0 0 => some .nils
 | .nilFunc => some .nilf
 | .nilIface => some .nili
 | _ => none
def yf {α β : Type} (f : α → Option β) : List α → Option (List β)
 | [] => some []
 | a :: r => (f a).bind fun b => (yf f r).bind fun s => some (b :: s)
def Kc : Value → Option AV
 | .agg cs => (yf JF cs.toList).map .agg
 | .tuple cs => (yf JF cs.toList).map .tup
 | .func (.func f) first cap => bif first.isEmpty && cap.isEmpty then some (.fn f [] []) else none
 | v => JF v
def ev (tm : PT AV) : Operand → Option AV
 | .tmp t => tm.get t
 | .const v => Kc v
 | .global _ => none
 | .func f => some (.fn f [] [])
def xQ (h : AH) (b off n : Nat) : Option (List AV) :=
 match h.get b with
 | some (.cells c _ _) => c.readN off n
 | some (.inp t) => gr [] t off n
 | _ => none
def q9 (l : List AV) : Bool := l.all AV.one
def yv (h : AH) (b off : Nat) (xs : List AV) : Option AH :=
 match h.get b with
 | some (.cells c e o) => bif q9 xs then (c.write off xs).bind fun c' => some (h.put b (.cells c' e o)) else none
 | _ => none
def cellsOf? (P : Program) (t : TypeId) : Option Nat := (P.info? t).map (·.size)
def zero? (P : Program) (t : TypeId) : Option AV := (P.info? t).bind fun i => i.zero.bind Kc
def agg? (P : Program) (t : TypeId) : Option Bool := (P.underlying t).map fun | .struct _ => true | .array _ _ => true | _ => false
def vF (P : Program) (t : TypeId) : Option (Option Nat) := (agg? P t).bind fun a => bif a then (cellsOf? P t).map some else some none
def yd : List AV → List (Nat × Nat × AV) → Option (List AV)
 | cs, [] => some cs
 | cs, (o, n, v) :: r => bif Nat.beq v.cells.length n then (gY cs o v.cells).bind fun cs' => yd cs' r else none
def j4 (k : IntKind) (n : Int) : Int :=
 match k, n with
 | .i64, .ofNat a => bif Nat.ble a 9223372036854775807 then .ofNat a else IntKind.wrap .i64 (.ofNat a)
 | .i64, .negSucc a => bif Nat.ble a 9223372036854775807 then .negSucc a else IntKind.wrap .i64 (.negSucc a)
 | .u64, .ofNat a => .ofNat (a % 18446744073709551616)
 | .u64, .negSucc a => .ofNat (18446744073709551615 - a % 18446744073709551616)
 | .u8, .ofNat a => .ofNat (a % 256)
 | k, n => IntKind.wrap k n
def ieq : Int → Int → Bool
 | .ofNat a, .ofNat b => Nat.beq a b
 | .negSucc a, .negSucc b => Nat.beq a b
 | _, _ => false
def ilt : Int → Int → Bool
 | .ofNat a, .ofNat b => Nat.ble (a + 1) b
 | .ofNat _, .negSucc _ => false
 | .negSucc _, .ofNat _ => true
 | .negSucc a, .negSucc b => Nat.ble (b + 1) a
def gB (op : BinOp) (k : IntKind) (x y : Int) : Option AV :=
 match op with
 | .add => some (.int k (j4 k (x + y)))
 | .sub => some (.int k (j4 k (x - y)))
 | .mul => some (.int k (j4 k (x * y)))
 | .quo => bif ieq y 0 then none else some (.int k (j4 k (x.tdiv y)))
 | .rem => bif ieq y 0 then none else some (.int k (x.tmod y))
 | .and => some (.int k (k.wrap (BitVec.ofInt k.bits x &&& BitVec.ofInt k.bits y).toNat))
 | .or => some (.int k (k.wrap (BitVec.ofInt k.bits x ||| BitVec.ofInt k.bits y).toNat))
 | .xor => some (.int k (k.wrap (BitVec.ofInt k.bits x ^^^ BitVec.ofInt k.bits y).toNat))
 | .andNot => some (.int k (k.wrap (BitVec.ofInt k.bits x &&& ~~~ BitVec.ofInt k.bits y).toNat))
 | .eql => some (.bool (ieq x y))
 | .neq => some (.bool (!ieq x y))
 | .lss => some (.bool (ilt x y))
 | .leq => some (.bool (!ilt y x))
 | .gtr => some (.bool (ilt y x))
 | .geq => some (.bool (!ilt x y))
 | .shl | .shr => none
def G8 (op : BinOp) (k : IntKind) (x y : Int) : Option AV :=
 bif ilt y 0 then none else
 match op with
 | .shl => some (.int k (j4 k (x * 2 ^ (min y.toNat k.bits))))
 | .shr => some (.int k (x.fdiv (2 ^ (min y.toNat k.bits))))
 | _ => none
def seq? : List UInt8 → List UInt8 → Bool
 | [], [] => true
 | a :: x, b :: y => a == b && seq? x y
 | _, _ => false
def Um (op : BinOp) (x y : List UInt8) : Option AV :=
 match op with
 | .add => bif Nat.ble (x.length + y.length) 1073741824 then some (.str (x ++ y)) else none
 | .eql => some (.bool (seq? x y))
 | .neq => some (.bool (!seq? x y))
 | .lss => some (.bool (Op.bytesLess x y))
 | .leq => some (.bool (Op.bytesLess x y || seq? x y))
 | .gtr => some (.bool (!(Op.bytesLess x y || seq? x y)))
 | .geq => some (.bool (!Op.bytesLess x y))
 | _ => none
inductive EK where
  | bool | int | str | ptr | slc | fn | ifc
def Xr : TypeDesc → Option EK
 | .bool => some .bool
 | .int _ => some .int
 | .string => some .str
 | .pointer _ => some .ptr
 | .slice _ => some .slc
 | .func _ _ _ => some .fn
 | .interface _ => some .ifc
 | _ => none
def kb (d : EK) (x y : AV) : Option Bool :=
 match d, x, y with
 | .bool, .bool a, .bool b => some (a == b)
 | .int, .int k a, .int k' b => bif k == k' then some (ieq a b) else none
 | .str, .str a, .str b => some (seq? a b)
 | .ptr, .nilp, .nilp => some true
 | .ptr, .nilp, .ptr _ _ => some false
 | .ptr, .ptr _ _, .nilp => some false
 | .slc, .nils, .nils => some true
 | .slc, .nils, .slice .. => some false
 | .slc, .slice .., .nils => some false
 | .fn, .nilf, .nilf => some true
 | .fn, .nilf, .fn .. => some false
 | .fn, .fn .., .nilf => some false
 | .ifc, .nili, .iface _ _ => some false
 | .ifc, .iface _ _, .nili => some false
 | _, _, _ => none
inductive ES where
  | bas (k : EK) (o : Nat)
  | len (n : Nat)
def zO : List ES → List AV → List AV → Option Bool
 | [], _, _ => some true
 | .bas d o :: r, xs, ys => (y6 xs o).bind fun x => (y6 ys o).bind fun y => (kb d x y).bind fun e => bif e then zO r xs ys else some false
 | .len n :: r, xs, ys => bif Nat.ble n xs.length && Nat.ble n ys.length then zO r xs ys else none
def wx (n : Nat) : List ES → Bool
 | [] => true
 | .bas _ o :: r => Nat.ble (o + 1) n && wx n r
 | .len m :: r => Nat.ble m n && wx n r
def Qq (c : Nat) : List ES → List ES
 | [] => []
 | .bas k o :: r => .bas k (c + o) :: Qq c r
 | .len m :: r => .len (c + m) :: Qq c r
def ko (P : Program) (nest : List Field → Option (List ES)) : List Field → Option (List ES)
 | [] => some []
 | f :: r => bif f.name == "_" then none else (P.underlying f.type).bind fun u => match u with
  | .struct fs => (cellsOf? P f.type).bind fun n => bif P.stoodInHeld f.type then none else (nest fs.toList).bind fun l1 => bif wx n l1 then (ko P nest r).map fun l2 => .len (f.offset + n) :: (Qq f.offset l1 ++ l2) else none
  | u => (Xr u).bind fun k => match k with
   | .ifc => none
   | k => (ko P nest r).map fun l => .bas k f.offset :: l
def xh (P : Program) : Nat → List Field → Option (List ES)
 | 0, _ => none
 | d + 1, fs => ko P (xh P d) fs
abbrev R := Option (AV × AH)
abbrev CV := AV → List AV → AH → R
abbrev ob {α : Type} (x : Option α) (k : α → R) : R := match x with | some a => k a | none => none
abbrev cnd (b : Bool) (x y : R) : R := match b with | true => x | false => y
def zN {α : Type} (j : α) (f : α → R) : R := f j
def kQ {σ : Type} (N : Nat) (f : (σ → AH → List Nat → R) → σ → AH → List Nat → R) : σ → AH → List Nat → R :=
 Nat.rec (motive := fun _ => σ → AH → List Nat → R) (fun _ _ _ => none) (fun _ ih => f ih) N
def AV.asBool (v : AV) (f : Bool → R) (d : R) : R :=
 AV.rec (motive_1 := fun _ => R) (motive_2 := fun _ => PUnit) (fun x0 => f x0) (fun _ _ => d) (fun _ => d) (fun _ _ => d) d (fun _ _ _ _ _ => d) d (fun _ _ _ _ _ => d) (fun _ => d) d (fun _ _ _ => d) d (fun _ _ => d) (fun _ _ => d) (fun _ => d) (fun _ _ _ _ => d) (fun _ => d) ⟨⟩ (fun _ _ _ _ => ⟨⟩) v
def AV.asInt (v : AV) (f : IntKind → Int → R) (d : R) : R :=
 AV.rec (motive_1 := fun _ => R) (motive_2 := fun _ => PUnit) (fun _ => d) (fun x0 x1 => f x0 x1) (fun _ => d) (fun _ _ => d) d (fun _ _ _ _ _ => d) d (fun _ _ _ _ _ => d) (fun _ => d) d (fun _ _ _ => d) d (fun _ _ => d) (fun _ _ => d) (fun _ => d) (fun _ _ _ _ => d) (fun _ => d) ⟨⟩ (fun _ _ _ _ => ⟨⟩) v
def AV.asPtr (v : AV) (f : Nat → Nat → R) (d : R) : R :=
 AV.rec (motive_1 := fun _ => R) (motive_2 := fun _ => PUnit) (fun _ => d) (fun _ _ => d) (fun _ => d) (fun x0 x1 => f x0 x1) d (fun _ _ _ _ _ => d) d (fun _ _ _ _ _ => d) (fun _ => d) d (fun _ _ _ => d) d (fun _ _ => d) (fun _ _ => d) (fun _ => d) (fun _ _ _ _ => d) (fun _ => d) ⟨⟩ (fun _ _ _ _ => ⟨⟩) v
def AV.asSlice (v : AV) (f : Nat → Nat → Nat → Nat → Bool → R) (d : R) : R :=
 AV.rec (motive_1 := fun _ => R) (motive_2 := fun _ => PUnit) (fun _ => d) (fun _ _ => d) (fun _ => d) (fun _ _ => d) d (fun x0 x1 x2 x3 x4 => f x0 x1 x2 x3 x4) d (fun _ _ _ _ _ => d) (fun _ => d) d (fun _ _ _ => d) d (fun _ _ => d) (fun _ _ => d) (fun _ => d) (fun _ _ _ _ => d) (fun _ => d) ⟨⟩ (fun _ _ _ _ => ⟨⟩) v
def AV.asAgg (v : AV) (f : List AV → R) (d : R) : R :=
 AV.rec (motive_1 := fun _ => R) (motive_2 := fun _ => PUnit) (fun _ => d) (fun _ _ => d) (fun _ => d) (fun _ _ => d) d (fun _ _ _ _ _ => d) d (fun _ _ _ _ _ => d) (fun _ => d) d (fun _ _ _ => d) d (fun x0 _ => f x0) (fun _ _ => d) (fun _ => d) (fun _ _ _ _ => d) (fun _ => d) ⟨⟩ (fun _ _ _ _ => ⟨⟩) v
def AV.asTup (v : AV) (f : List AV → R) (d : R) : R :=
 AV.rec (motive_1 := fun _ => R) (motive_2 := fun _ => PUnit) (fun _ => d) (fun _ _ => d) (fun _ => d) (fun _ _ => d) d (fun _ _ _ _ _ => d) d (fun _ _ _ _ _ => d) (fun _ => d) d (fun _ _ _ => d) d (fun _ _ => d) (fun x0 _ => f x0) (fun _ => d) (fun _ _ _ _ => d) (fun _ => d) ⟨⟩ (fun _ _ _ _ => ⟨⟩) v
def kn (k : IntKind) : Nat := IntKind.rec (motive := fun _ => Nat) 0 1 2 3 4 5 6 7 k
def keq (a b : IntKind) : Bool := Nat.beq (kn a) (kn b)
def beqF (t w : Bool) : Bool := Bool.rec (motive := fun _ => Bool) (Bool.rec (motive := fun _ => Bool) true false w) (Bool.rec (motive := fun _ => Bool) false true w) t
def iadd (x y : Int) : Int := Int.rec (motive := fun _ => Int) (fun a => Int.rec (motive := fun _ => Int) (fun b => .ofNat (Nat.add a b)) (fun b => Int.add (.ofNat a) (.negSucc b)) y) (fun a => Int.add (.negSucc a) y) x
def isub (x y : Int) : Int := Int.rec (motive := fun _ => Int) (fun a => Int.rec (motive := fun _ => Int) (fun b => Bool.rec (motive := fun _ => Int) (.negSucc (Nat.sub (Nat.sub b a) 1)) (.ofNat (Nat.sub a b)) (Nat.ble b a)) (fun b => Int.sub (.ofNat a) (.negSucc b)) y) (fun a => Int.sub (.negSucc a) y) x
def KV (x y : Int) : Bool := Int.rec (motive := fun _ => Bool) (fun a => Int.rec (motive := fun _ => Bool) (fun b => Nat.ble (Nat.succ a) b) (fun _ => false) y) (fun a => Int.rec (motive := fun _ => Bool) (fun _ => true) (fun b => Nat.ble (Nat.succ b) a) y) x
def qJD (x y : Int) : Bool := Int.rec (motive := fun _ => Bool) (fun a => Int.rec (motive := fun _ => Bool) (fun b => Nat.beq a b) (fun _ => false) y) (fun a => Int.rec (motive := fun _ => Bool) (fun _ => false) (fun b => Nat.beq a b) y) x
def Vl (b : Bool) : Bool := Bool.rec (motive := fun _ => Bool) true false b
def Ki (k : IntKind) (n : Int) (f : Int → R) : R :=
 IntKind.rec (motive := fun _ => R) (f (j4 .i8 n)) (f (j4 .i16 n)) (f (j4 .i32 n))
  (Int.rec (motive := fun _ => R) (fun a => Bool.rec (motive := fun _ => R) (f (j4 .i64 (.ofNat a))) (f (.ofNat a)) (Nat.ble a 9223372036854775807)) (fun a => f (j4 .i64 (.negSucc a))) n)
  (f (j4 .u8 n)) (f (j4 .u16 n)) (f (j4 .u32 n))
  (Int.rec (motive := fun _ => R) (fun a => Bool.rec (motive := fun _ => R) (f (j4 .u64 (.ofNat a))) (f (.ofNat a)) (Nat.ble a 18446744073709551615)) (fun a => f (j4 .u64 (.negSucc a))) n) k
def Ou (op : BinOp) (k : IntKind) (x y : Int) (f : AV → R) : R :=
 BinOp.rec (motive := fun _ => R) (Ki k (iadd x y) fun n => f (.int k n)) (Ki k (isub x y) fun n => f (.int k n)) (ob (gB .mul k x y) f)
  (ob (gB .quo k x y) f) (ob (gB .rem k x y) f) (ob (gB .and k x y) f) (ob (gB .or k x y) f) (ob (gB .xor k x y) f) (ob (gB .shl k x y) f) (ob (gB .shr k x y) f) (ob (gB .andNot k x y) f)
  (f (.bool (qJD x y))) (f (.bool (Vl (qJD x y)))) (f (.bool (KV x y))) (f (.bool (Vl (KV y x)))) (f (.bool (KV y x))) (f (.bool (Vl (KV x y)))) op
def jO (v : AV) (a b : R) : R := v.asBool (fun t => Bool.rec (motive := fun _ => R) b a t) none
def xf (v : AV) (w : Bool) (a b : R) : R := v.asBool (fun t => Bool.rec (motive := fun _ => R) b a (beqF t w)) b
def x9 (c a b : AV) (k : AV → R) : R := c.asBool (fun t => Bool.rec (motive := fun _ => R) (k b) (k a) t) none
def zd (v : AV) (k : AV → R) : R := match v with | .ptr b o => k (.ptr b o) | .fn f a c => k (.fn f a c) | .yield l => k (.yield l) | _ => none
def qa (v : AV) (off : Nat) (k : AV → R) : R := v.asPtr (fun b o => k (.ptr b (Nat.add o off))) none
def JL (v : AV) (off : Nat) (k : AV → R) : R := v.asAgg (fun cs => Option.rec (motive := fun _ => R) none k (y6 cs off)) none
def Qx (v : AV) (off n : Nat) (k : AV → R) : R := match v with | .agg cs => ob (xI n (xi off cs)) fun l => k (.agg l) | _ => none
def xj (v i : AV) (sz : Nat) (k : AV → R) : R :=
 v.asSlice (fun b off len _ _ => i.asInt (fun _ n => Int.rec (motive := fun _ => R) (fun a => Bool.rec (motive := fun _ => R) none (k (.ptr b (Nat.add off (Nat.mul a sz)))) (Nat.ble (Nat.succ a) len)) (fun _ => none) n) none) none
def yl (v i : AV) (n sz : Nat) (k : AV → R) : R := match v, i with | .ptr b off, .int _ (.ofNat a) => bif Nat.ble (a + 1) n then k (.ptr b (off + a * sz)) else none | _, _ => none
def ga (v i : AV) (n sz : Nat) (k : AV → R) : R := match v, i with | .agg cs, .int _ (.ofNat a) => bif Nat.ble (a + 1) n then ob (y6 cs (a * sz)) k else none | _, _ => none
def Qk (v i : AV) (n sz : Nat) (k : AV → R) : R := match v, i with | .agg cs, .int _ (.ofNat a) => bif Nat.ble (a + 1) n then ob (xI sz (xi (a * sz) cs)) fun l => k (.agg l) else none | _, _ => none
def yh (v i : AV) (k : AV → R) : R := match v, i with | .str s, .int _ (.ofNat a) => ob (y6 s a) fun c => k (.int .u8 (.ofNat c.toNat)) | _, _ => none
def qm (h : AH) (v : AV) (k : AV → R) : R :=
 v.asPtr (fun b off => Option.rec (motive := fun _ => R) none (fun x => Blk.rec (motive := fun _ => R) (fun c _ _ => Option.rec (motive := fun _ => R) none k (c.get1 off)) none (fun _ _ => none) (fun _ _ _ _ _ _ _ => none) none none (fun t => Option.rec (motive := fun _ => R) none k (Trie.get t off)) (fun _ _ => none) x) (h.get b)) none
def ji (h : AH) (v : AV) (n : Nat) (k : AV → R) : R := v.asPtr (fun b off => Option.rec (motive := fun _ => R) none (fun l => k (.agg l)) (xQ h b off n)) none
def jX (h : AH) (a x : AV) (n : Nat) (k : AH → R) : R := a.asPtr (fun b off => Bool.rec (motive := fun _ => R) none (Option.rec (motive := fun _ => R) none k (yv h b off x.cells)) (Nat.beq x.cells.length n)) none
def jZ (op : BinOp) (x y : AV) (k : AV → R) : R := x.asInt (fun k1 a => y.asInt (fun k2 b => Bool.rec (motive := fun _ => R) none (Ou op k1 a b k) (keq k1 k2)) none) none
def vN (op : BinOp) (x y : AV) (k : AV → R) : R := match x, y with | .int k1 a, .int _ b => ob (G8 op k1 a b) k | _, _ => none
def kp (op : BinOp) (x y : AV) (k : AV → R) : R := match x, y with | .str a, .str b => ob (Um op a b) k | _, _ => none
def pEq (d : EK) (neg : Bool) (x y : AV) (k : AV → R) : R := ob (kb d x y) fun e => k (.bool (e != neg))
def Ju (l : List ES) (neg : Bool) (x y : AV) (k : AV → R) : R := match x, y with | .agg a, .agg b => ob (zO l a b) fun e => k (.bool (e != neg)) | _, _ => none
def pUn (op : UnOp) (x : AV) (k : AV → R) : R :=
 match op, x with
 | .neg, .int d n => k (.int d (j4 d (0 - n)))
 | .not, .bool b => k (.bool (!b))
 | .xor, .int d n => k (.int d (d.wrap (BitVec.ofInt d.bits (if d.signed then -1 else d.max) ^^^ BitVec.ofInt d.bits n).toNat))
 | _, _ => none
def yB (d : IntKind) (x : AV) (k : AV → R) : R := match x with | .int _ n => k (.int d (j4 d n)) | _ => none
def QH (x : AV) (k : AV → R) : R := match x with | .str s => k (.str s) | _ => none
def vz : List AV → Option (List UInt8)
 | [] => some []
 | .int .u8 (.ofNat n) :: r => (vz r).bind fun s => some (UInt8.ofNat n :: s)
 | _ => none
def Jr (h : AH) (x : AV) (k : AV → R) : R := match x with | .nils => k (.str []) | .slice b off len _ _ => ob (xQ h b off len) fun cs => ob (vz cs) fun s => k (.str s) | _ => none
def K8 (h : AH) (e : TypeId) (x : AV) (k : AV → AH → R) : R := match x with
 | .str s => bif Nat.ble s.length 1073741824 then k (.slice h.nx 0 s.length 0 true) (h.new (.cells (CT.ofList (s.map fun (c : UInt8) => .int .u8 (.ofNat c.toNat))) e true)) else none
 | _ => none
def G6 (x : AV) (y : Nat) : Option Nat := match x with | .int _ (.ofNat a) => bif Nat.ble a y then some a else none | _ => none
def xE (x : Option AV) (y dflt : Nat) : Option Nat := match x with | none => some dflt | some v => G6 v y
def ya (v : AV) (lo hi : Option AV) (k : AV → R) : R := match v with
 | .str s => ob (xE hi s.length s.length) fun h => ob (xE lo h 0) fun l => ob (xI (h - l) (xi l s)) fun t => k (.str t)
 | _ => none
def xL (h : AH) (el : TypeId) (b off sz i0 len : Nat) : Bool := match h.get b with
 | some (.cells c e true) => Nat.beq el e && (Nat.ble 1 sz && (Nat.beq off (i0 * sz) && Nat.ble (off + len * sz) c.len))
 | _ => false
def zS (h : AH) (el : TypeId) (sz : Nat) (v : AV) (lo hi : Option AV) (k : AV → R) : R := match v with
 | .slice b off len cap false => ob (xE hi cap len) fun u => ob (xE lo u 0) fun l => k (.slice b (bif Nat.beq cap l then off else off + l * sz) (u - l) (cap - l) false)
 | .slice b off len i0 true => bif xL h el b off sz i0 len then
   ob (xE hi len len) fun u => ob (xE lo u 0) fun l =>
    bif Nat.beq l 0 then k (.slice b off u i0 true) else bif Nat.ble (l + 1) len then k (.slice b (off + l * sz) (u - l) (i0 + l) true) else k (.tail b off (off + l * sz) (i0 + l))
  else none
 | .nils => ob (xE hi 0 0) fun _ => ob (xE lo 0 0) fun _ => k .nils
 | .empt a => ob (xE hi 0 0) fun _ => ob (xE lo 0 0) fun _ => k (.empt a)
 | _ => none
def yR (n sz : Nat) (v : AV) (lo hi : Option AV) (k : AV → R) : R := match v with
 | .ptr b off => ob (xE hi n n) fun h => ob (xE lo h 0) fun l => k (.slice b (bif Nat.beq n l then off else off + l * sz) (h - l) (n - l) false)
 | _ => none
def xJ (t : TypeId) (z v : AV) (k : AV → R) : R := match v with
 | .iface u x => bif Nat.beq u t then k (.tup [x, .bool true]) else k (.tup [z, .bool false])
 | .nili => k (.tup [z, .bool false])
 | _ => none
def gO (t : TypeId) (v : AV) (k : AV → R) : R := match v with | .iface u x => bif Nat.beq u t then k x else none | _ => none
def zr (v : AV) (i : Nat) (k : AV → R) : R := v.asTup (fun l => Option.rec (motive := fun _ => R) none k (y6 l i)) none
def xA (v : AV) (k : AV → R) : R := match v with | .slice _ _ len _ _ => k (.int .i64 (.ofNat len)) | .nils => k (.int .i64 (.ofNat 0)) | .empt _ => k (.int .i64 (.ofNat 0)) | .tail _ _ _ _ => k (.int .i64 (.ofNat 0)) | _ => none
def wF (v : AV) (k : AV → R) : R := match v with | .str s => k (.int .i64 (.ofNat s.length)) | _ => none
def mm2 (mx : Bool) : AV → AV → Option AV
 | .int k x, .int k' y => bif k == k' then some (.int k (bif mx then (bif ilt x y then y else x) else (bif ilt y x then y else x))) else none
 | _, _ => none
def mmL (mx : Bool) : AV → List AV → Option AV
 | a, [] => some a
 | a, b :: r => (mm2 mx a b).bind fun c => mmL mx c r
def X9 : AV → Bool | .int _ _ => true | _ => false
def pMM (mx : Bool) (l : List AV) (k : AV → R) : R := match l with | a :: r => bif X9 a then ob (mmL mx a r) k else none | [] => none
def vB (h : AH) (e : TypeId) (v : AV) (k : AV → AH → R) : R := bif q9 v.cells then k (.ptr h.nx 0) (h.new (.cells (CT.ofList v.cells) e false)) else none
def jS (z : List AV) (vs : List (Nat × Nat × AV)) (k : AV → R) : R := ob (yd z vs) fun l => k (.agg l)
def j0 (h : AH) (e : TypeId) (z : List AV) (len : Nat) (vs : List (Nat × Nat × AV)) (k : AV → AH → R) : R :=
 ob (yd (yw z len) vs) fun cs => bif q9 cs then k (.slice h.nx 0 len len false) (h.new (.cells (CT.ofList cs) e false)) else none
def gP (h : AH) (e : TypeId) (z : List AV) (l c : AV) (k : AV → AH → R) : R := match l, c with
 | .int _ (.ofNat ln), .int _ (.ofNat cp) => bif Nat.ble ln cp && Nat.ble cp 1073741824 then k (.slice h.nx 0 ln cp false) (h.new (.cells (CT.rep z cp) e false)) else none
 | _, _ => none
def yS (h : AH) (sz n : Nat) : AV → Option (List AV)
 | .slice b off _ _ _ => xQ h b off (n * sz)
 | .nils => some []
 | .empt _ => bif Nat.beq n 0 then some [] else none
 | .tail _ _ _ _ => bif Nat.beq n 0 then some [] else none
 | .str s => (xI n s).map (List.map fun (c : UInt8) => AV.int .u8 (.ofNat c.toNat))
 | _ => none
def gC : AV → Option Nat
 | .slice _ _ len _ _ => some len
 | .nils => some 0
 | .empt _ => some 0
 | .tail _ _ _ _ => some 0
 | .str s => some s.length
 | _ => none
def XP (h : AH) (sz n : Nat) : AV → Option CT
 | .slice b off _ _ _ => (match h.get b with
  | some (.cells c _ _) => c.seg off (n * sz)
  | some (.inp t) => (gr [] t off (n * sz)).bind fun l => some (CT.ofList l)
  | _ => none)
 | .nils => some (.lst [])
 | .empt _ => bif Nat.beq n 0 then some (.lst []) else none
 | .tail _ _ _ _ => bif Nat.beq n 0 then some (.lst []) else none
 | .str s => (xI n s).bind fun l => some (CT.ofList (l.map fun (c : UInt8) => AV.int .u8 (.ofNat c.toNat)))
 | _ => none
def xO (h : AH) (e : TypeId) (sz : Nat) (s : AV) (n : Nat) (nc : CT) (k : AV → AH → R) : R := match s with
 | .nils => bif Nat.beq n 0 then k .nils h else bif Nat.ble n 67108864 then k (.slice h.nx 0 n 0 true) (h.new (.cells nc e true)) else none
 | .slice b off len cap false =>
  bif Nat.ble (len + n) cap then (bif Nat.beq n 0 then k (.slice b off len cap false) h else ob (yv h b (off + len * sz) nc.toList) fun h' => k (.slice b off (len + n) cap false) h')
  else bif Nat.ble (len + n) 67108864 then ob (xQ h b off (len * sz)) fun old => k (.slice h.nx 0 (len + n) 0 true) (h.new (.cells (bif Nat.beq len 0 then nc else CT.ofList (old ++ nc.toList)) e true))
  else none
 | .slice b off len i0 true =>
  match h.get b with
  | some (.cells c e' true) =>
   bif Nat.ble 1 sz && (Nat.beq off (i0 * sz) && (Nat.beq e e' && Nat.ble (off + len * sz) c.len)) then
    bif Nat.beq n 0 then k (.slice b off len i0 true) h else
    bif Nat.ble (off + (len + n) * sz) c.len then ob (yv h b (off + len * sz) nc.toList) fun h' => k (.slice b off (len + n) i0 true) h'
    else bif Nat.beq i0 0 && (Nat.ble (len + n) 67108864 && q9 nc.toList) then
     ob (c.pre (len * sz)) fun old => k (.slice h.nx 0 (len + n) 0 true) ((h.put b .dead).new (.cells (old.app nc.toList) e true))
    else none
   else none
  | _ => none
 | _ => none
def zQ (h : AH) (e : TypeId) (sz : Nat) (s x : AV) (k : AV → AH → R) : R :=
 ob (gC x) fun n => ob (XP h sz n x) fun nc => bif Nat.beq nc.len (n * sz) then xO h e sz s n nc k else none
def Qc (h : AH) (sz : Nat) (d s : AV) (k : AV → AH → R) : R :=
 ob (gC s) fun n => ob (gC d) fun m => ob (yS h sz (Nat.min n m) s) fun cs => match d with
  | .slice b off _ _ _ => bif Nat.beq (Nat.min n m) 0 then k (.int .i64 (.ofNat 0)) h else ob (yv h b off cs) fun h' => k (.int .i64 (.ofNat (Nat.min n m))) h'
  | .nils => k (.int .i64 (.ofNat 0)) h
  | _ => none
def QA (h : AH) (v : AV) (k : AV → AH → R) : R := match v with | .str s => k (.ptr h.nx 0) (h.new (.iter s 0)) | _ => none
def vT (x : Int) : List (Int × Int × Nat) → Nat → Option (Nat × Int × Nat)
 | [], _ => none
 | e :: r, i => bif ieq x e.1 then some (i, e.2) else vT x r (i + 1)
def MP (x : Int) : List (Int × Int × Nat) → Nat → Option Nat
 | [], _ => none
 | e :: r, i => bif ieq (.ofNat e.2.2) x then some i else MP x r (i + 1)
def XN (y : Int) : List (Int × Int × Nat) → Nat → List (Int × Int × Nat)
 | [], _ => []
 | e :: r, 0 => (e.1, y, e.2.2) :: r
 | e :: r, i + 1 => e :: XN y r i
def wQ (h : AH) (k : AV → AH → R) : R := k (.mapv h.nx) (h.new (.mp [] 0))
def Xa (h : AH) (v : AV) (k : AV → R) : R := match v with
 | .mapv b => (match h.get b with | some (.mp l _) => k (.int .i64 (.ofNat l.length)) | _ => none)
 | _ => none
def QV (h : AH) (v i : AV) (k : AV → R) : R := match v, i with
 | .mapv b, .int .i64 x => (match h.get b with | some (.mp l _) => (match vT x l 0 with | some e => k (.int .i64 e.2.1) | none => k (.int .i64 (.ofNat 0))) | _ => none)
 | _, _ => none
def YQ (h : AH) (v i : AV) (k : AV → AH → R) : R := match v, i with
 | .mapv b, .int .i64 x => (match h.get b with
  | some (.mp l c) => (match vT x l 0 with | some e => k (.tup [.int .i64 e.2.1, .int .i64 (.ofNat e.2.2)]) h | none => k (.tup [.int .i64 (.ofNat 0), .int .i64 (.ofNat c)]) (h.put b (.mp (l ++ [(x, .ofNat 0, c)]) (c + 1))))
  | _ => none)
 | _, _ => none
def U8 (h : AH) (v s y : AV) (k : AH → R) : R := match v, s, y with
 | .mapv b, .int .i64 x, .int .i64 z => (match h.get b with
  | some (.mp l c) => (match MP x l 0 with | some i => k (h.put b (.mp (XN z l i) c)) | none => none)
  | _ => none)
 | _, _, _ => none
def Xc (h : AH) (v i y : AV) (k : AH → R) : R := match v, i, y with
 | .mapv b, .int .i64 x, .int .i64 z => (match h.get b with
  | some (.mp l c) => (match vT x l 0 with | some e => k (h.put b (.mp (XN z l e.1) c)) | none => k (h.put b (.mp (l ++ [(x, z, c)]) (c + 1))))
  | _ => none)
 | _, _, _ => none
def Xm (h : AH) (v i : AV) (k : AV → AH → R) : R := match v, i with
 | .mapv b, .int .i64 x => (match h.get b with
  | some (.mp l c) => (match vT x l 0 with | some e => k (.tup []) (h.put b (.mp (l.eraseIdx e.1) c)) | none => k (.tup []) (h.put b (.mp l c)))
  | _ => none)
 | _, _ => none
def Vy (P : Program) (t : TypeId) : Bool := match P.underlying t with
 | some (.map kt et) => (match P.underlying kt, P.underlying et, zero? P et with | some (.int .i64), some (.int .i64), some (.int .i64 (.ofNat 0)) => true | _, _, _ => false)
 | _ => false
def X5 (h : AH) (v : AV) (k : AV → AH → R) : R := match v with
 | .ptr b 0 => (match h.get b with
  | some (.iter s pos) => bif Nat.ble (pos + 1) s.length then
    k (.tup [.bool true, .int .i64 (.ofNat pos), .int .i32 (Utf8.decode ⟨s.toArray⟩ pos).1]) (h.put b (.iter s (pos + (Utf8.decode ⟨s.toArray⟩ pos).2)))
   else k (.tup [.bool false]) h
  | _ => none)
 | _ => none
def jf (c : CV) (f : AV) (a : List AV) (h : AH) (k : AV → AH → R) : R := Option.rec (motive := fun _ => R) none (fun q => k q.1 q.2) (c f a h)
def Gv (l : List (Nat × Nat)) (t : Nat) : Option Nat := List.rec (motive := fun _ => Option Nat) none (fun p _ ih => Bool.rec (motive := fun _ => Option Nat) ih (some p.2) (Nat.beq p.1 t)) l
def gF (c : CV) (l : List (Nat × Nat)) (v : AV) (a : List AV) (h : AH) (k : AV → AH → R) : R := match v with
 | .iface t x => Option.rec (motive := fun _ => R) none (fun f => jf c (.fn f [] []) (x :: a) h k) (Gv l t)
 | _ => none
def kF (c : CV) (f : AV) (a : List AV) (h : AH) (k : AV → AH → R) : R := match f with | .fn _ _ _ => jf c f a h k | _ => none
def Kj (P : Program) (name : String) (t : TypeId) : Option Nat :=
 (P.info? t).bind fun i => (i.methods.toList.find? (·.name == name)).bind fun m => bif m.path.isEmpty then m.func.bind fun g => bif g.2 then (P.underlying t).bind fun d => (match d with | .pointer _ => some g.1 | _ => none) else none else none
def KU (P : Program) (name : String) : List Nat → List (Nat × Nat)
 | [] => []
 | t :: r => match Kj P name t with | some f => (t, f) :: KU P name r | none => KU P name r
def G4 (P : Program) (name : String) : List (Nat × Nat) := KU P name (List.range P.types.size)
def UK (P : Program) (t : TypeId) (f : Nat) : Option Nat :=
 (P.underlying t).bind fun | .struct fs => (fs[f]?).bind fun g => (cellsOf? P g.type).bind fun sz => bif Nat.beq sz 0 then none else some g.offset | _ => none
def Yp (P : Program) (t : TypeId) (f : Nat) : Option (Nat × Option Nat) :=
 (P.underlying t).bind fun | .struct fs => (fs[f]?).bind fun g => (vF P g.type).map fun i => (g.offset, i) | _ => none
def zu (pl : Nat → Option (Nat × Nat)) (r : Operand → Option AV) : List (Nat × Operand) → Option (List (Nat × Nat × AV))
 | [] => some []
 | (i, x) :: l => (pl i).bind fun p => (r x).bind fun v => (zu pl r l).map fun s => (p.1, p.2, v) :: s
def vL (P : Program) (fs : List Field) : Option (List (Nat × Nat)) := yf (fun f => (cellsOf? P f.type).map fun n => (f.offset, n)) fs
def QF (r : Operand → Option AV) : Option Operand → Option (Option AV)
 | none => some none
 | some x => (r x).map some
abbrev qQU (P : Program) (op : BinOp) (t : TypeId) (a b : AV) (k : AV → R) : R :=
 match op with
 | .shl => vN .shl a b k
 | .shr => vN .shr a b k
 | op => ob (P.underlying t) fun d => match d with
  | .int _ => jZ op a b k
  | .string => kp op a b k
  | .struct fs => match op with
   | .eql => cnd (P.eqGuardType P.depth t || P.stoodInHeld t) (none) (ob (xh P 8 fs.toList) fun l => Ju l false a b k)
   | .neq => cnd (P.eqGuardType P.depth t || P.stoodInHeld t) (none) (ob (xh P 8 fs.toList) fun l => Ju l true a b k)
   | _ => none
  | d => match op with
   | .eql => ob (Xr d) fun e => pEq e false a b k
   | .neq => ob (Xr d) fun e => pEq e true a b k
   | _ => none
abbrev Yj (P : Program) (src dst : TypeId) (v : AV) (h : AH) (k : AV → AH → R) : R :=
 ob (P.underlying src) fun ds => ob (P.underlying dst) fun dd => match dd with
  | .int d => (match ds with | .int _ => yB d v fun z => k z h | _ => none)
  | .string => (match ds with
   | .string => QH v fun z => k z h
   | .slice e => ob (P.underlying e) fun de => (match de with | .int .u8 => Jr h v fun z => k z h | _ => none)
   | _ => none)
  | .slice e => (match ds with
   | .string => ob (P.underlying e) fun de => (match de with | .int .u8 => ob (cellsOf? P e) fun sz => cnd (Nat.beq sz 1) (K8 h e v k) none | _ => none)
   | _ => none)
  | _ => none
def JP (P : Program) (e : TypeId) : Option (List AV) :=
 (P.info? e).bind fun i => (zero? P e).bind fun z => bif Nat.beq z.cells.length i.size && (q9 z.cells && Nat.ble i.bytes 65536) then some z.cells else none
abbrev opK (P : Program) (c : CV) (o : Op) (r : Operand → Option AV) (h : AH) (k : AV → AH → R) : R :=
 match o with
 | .move x => ob (r x) fun v => k v h
 | .assign x => ob (r x) fun v => k v h
 | .pick a b d => ob (r a) fun va => ob (r b) fun vb => ob (r d) fun vd => x9 va vb vd fun z => k z h
 | .alloc e => ob (zero? P e) fun z => vB h e z k
 | .box e x => ob (r x) fun v => vB h e v k
 | .build t parts => ob (zero? P t) fun z => ob (P.underlying t) fun d => match d with
  | .struct fs => ob (vL P fs.toList) fun pl => ob (zu (fun i => y6 pl i) r parts.toList) fun vs => jS z.cells vs fun v => k v h
  | .array _ e => ob (cellsOf? P e) fun sz => ob (zu (fun i => some (i * sz, sz)) r parts.toList) fun vs => jS z.cells vs fun v => k v h
  | _ => none
 | .buildSlice t len parts => ob (P.underlying t) fun d => match d with
  | .slice e => ob (JP P e) fun z => cnd (Nat.ble (len * z.length) 16777216) (ob (zu (fun i => some (i * z.length, z.length)) r parts.toList) fun vs => j0 h e z len vs k) (none)
  | _ => none
 | .load t a => ob (r a) fun v => ob (vF P t) fun i => match i with
  | none => qm h v fun z => k z h
  | some n => ji h v n fun z => k z h
 | .store t a x => ob (r a) fun va => ob (r x) fun vx => ob (cellsOf? P t) fun n => jX h va vx n fun h' => k .undef h'
 | .nilCheck x => ob (r x) fun v => zd v fun z => k z h
 | .binOp op t x y _ => ob (r x) fun a => ob (r y) fun b => qQU P op t a b fun z => k z h
 | .unOp op _ x => ob (r x) fun v => pUn op v fun z => k z h
 | .convert s d x => ob (r x) fun v => Yj P s d v h k
 | .makeInterface t x => ob (P.underlying t) fun d => match d with
  | .interface _ => none
  | _ => ob (r x) fun v => k (.iface t v) h
 | .makeFunc fn a cp => match fn with
  | .func f => ob (yf r a.toList) fun va => ob (yf r cp.toList) fun vc => k (.fn f va vc) h
  | _ => none
 | .makeSlice t l cp => ob (P.underlying t) fun d => match d with
  | .slice e => ob (JP P e) fun z => ob (r l) fun vl => ob (r cp) fun vc => gP h e z vl vc k
  | _ => none
 | .slice t x lo hi mx => match mx with
  | some _ => none
  | none => ob (r x) fun v => ob (QF r lo) fun l => ob (QF r hi) fun u => ob (P.underlying t) fun d => match d with
   | .string => ya v l u fun z => k z h
   | .slice e => ob (cellsOf? P e) fun sz => zS h e sz v l u fun z => k z h
   | .array n e => ob (cellsOf? P e) fun sz => yR n sz v l u fun z => k z h
   | _ => none
 | .fieldAddr t x f => ob (r x) fun v => ob (UK P t f) fun off => qa v off fun z => k z h
 | .field t x f => ob (r x) fun v => ob (Yp P t f) fun p => match p.2 with
  | none => JL v p.1 fun z => k z h
  | some n => Qx v p.1 n fun z => k z h
 | .indexAddr t x i => ob (r x) fun v => ob (r i) fun j => ob (P.underlying t) fun d => match d with
  | .slice e => ob (cellsOf? P e) fun sz => xj v j sz fun z => k z h
  | .array n e => cnd (Nat.ble 2 n) (ob (cellsOf? P e) fun sz => yl v j n sz fun z => k z h) (none)
  | _ => none
 | .index t x i => ob (r x) fun v => ob (r i) fun j => ob (P.underlying t) fun d => match d with
  | .string => yh v j fun z => k z h
  | .array n e => ob (cellsOf? P e) fun sz => ob (agg? P e) fun g => cnd (g) (Qk v j n sz fun z => k z h) (ga v j n sz fun z => k z h)
  | _ => none
 | .typeAssert x _ t ok => ob (r x) fun v => ob (P.underlying t) fun d => match d with
  | .interface _ => none
  | _ => cnd (ok) (ob (zero? P t) fun z => xJ t z v fun y => k y h) (gO t v fun y => k y h)
 | .extract x i => ob (r x) fun v => zr v i fun z => k z h
 | .makeMap t hint => match hint with
  | none => cnd (Vy P t) (wQ h k) none
  | some _ => none
 | .lookup t x i ok => cnd (Vy P t && !ok) (ob (r x) fun v => ob (r i) fun j => QV h v j fun z => k z h) none
 | .mapEntry t x i => cnd (Vy P t) (ob (r x) fun v => ob (r i) fun j => YQ h v j k) none
 | .mapUpdate t x s y => cnd (Vy P t) (ob (r x) fun v => ob (r s) fun j => ob (r y) fun u => Xc h v j u fun h' => k .undef h') none
 | .entryStore _ x s y => ob (r x) fun v => ob (r s) fun j => ob (r y) fun u => U8 h v j u fun h' => k .undef h'
 | .range t x => ob (P.underlying t) fun d => match d with
  | .string => ob (r x) fun v => QA h v k
  | _ => none
 | .next it s => cnd (s) (ob (r it) fun v => X5 h v k) (none)
 | .call cl => match cl.callee with
  | .value f => ob (r f) fun vf => ob (yf r cl.args.toList) fun va => jf c vf va h k
  | .invoke x name => ob (r x) fun v => ob (yf r cl.args.toList) fun va => gF c (G4 P name) v va h k
  | .builtin b => match b with
   | .len => (match cl.args.toList, cl.argTypes.toList with
    | x :: _, t :: _ => ob (r x) fun v => ob (P.underlying t) fun d => (match d with
     | .string => wF v fun z => k z h
     | .array n _ => k (.int .i64 (.ofNat n)) h
     | .slice _ => xA v fun z => k z h
     | .map _ _ => Xa h v fun z => k z h
     | _ => none)
    | _, _ => none)
   | .min => ob (yf r cl.args.toList) fun l => pMM false l fun z => k z h
   | .max => ob (yf r cl.args.toList) fun l => pMM true l fun z => k z h
   | .append => (match cl.args.toList, cl.argTypes.toList with
    | s :: x :: [], t :: u :: _ => ob (P.underlying u) fun du => (match du with
     | .int _ => none
     | _ => ob (P.underlying t) fun d => (match d with
      | .slice e => ob (JP P e) fun z => ob (r s) fun vs => ob (r x) fun vx => zQ h e z.length vs vx k
      | _ => none))
    | _, _ => none)
   | .copy => (match cl.args.toList, cl.argTypes.toList with
    | s :: x :: [], t :: _ => ob (P.underlying t) fun d => (match d with
      | .slice e => ob (cellsOf? P e) fun sz => ob (r s) fun vs => ob (r x) fun vx => Qc h sz vs vx k
      | _ => none)
    | _, _ => none)
   | .delete => (match cl.args.toList, cl.argTypes.toList with
    | s :: x :: [], t :: _ => cnd (Vy P t) (ob (r s) fun vs => ob (r x) fun vx => Xm h vs vx k) none
    | _, _ => none)
   | _ => none
 | _ => none
abbrev opS (P : Program) (c : CV) (o : Op) (r : Operand → Option AV) (h : AH) : R := opK P c o r h fun v h' => some (v, h')
def vP (all : List Oper) (o : Oper) : Option Nat := o.guard.bind fun g => (y6 all g.1).bind fun p => p.dst
inductive Pl where
  | z
  | n (L : Option (List Nat)) (a b : Pl)
  | r (Ls : List (List Nat))
def has (tm : PT AV) (t : Nat) : Bool := match tm.get t with | some _ => true | none => false
abbrev Tup : List Nat → Type
 | [] => Unit
 | _ :: L => AV × Tup L
def yL : (L : List Nat) → PT AV → Tup L
 | [], _ => ()
 | t :: L, tm => ((match tm.get t with | some v => v | none => .undef), yL L tm)
def yp : (L : List Nat) → Tup L → PT AV → PT AV
 | [], _, a => a
 | t :: L, s, a => yp L s.2 (a.set t s.1)
def zc (tm : PT AV) : List Nat → Bool
 | [] => true
 | t :: L => has tm t && zc tm L
abbrev XT (n : Nat) (tm : PT AV) (dst : Option Tmp) (v : AV) (k : PT AV → R) : R :=
 match dst with
 | none => k tm
 | some d => cnd (Nat.ble (d + 1) n) (k (tm.set d v)) (none)
abbrev Oq (P : Program) (c : CV) (n : Nat) : List Oper → PT AV → AH → (PT AV → AH → R) → R
 | [], tm, h, k => k tm h
 | o :: r, tm, h, k => opK P c o.op (ev tm) h fun v h' => XT n tm o.dst v fun tm' => Oq P c n r tm' h' k
abbrev YX (n : Nat) : List Oper → PT AV → (PT AV → R) → R
 | [], tm, k => k tm
 | o :: r, tm, k => XT n tm o.dst .undef fun tm' => YX n r tm' k
def vW (d : Nat) : List Oper → Bool
 | [] => false
 | o :: r => (match o.dst with | some t => Nat.beq t d | none => false) || vW d r
def MG (g : Nat × Bool) (o : Oper) : Bool := match o.guard with | some g' => Nat.beq g.1 g'.1 && g.2 == g'.2 | none => false
def jr (g : Nat × Bool) : List Oper → List Oper × List Oper
 | [] => ([], [])
 | o :: r => bif MG g o then (o :: (jr g r).1, (jr g r).2) else ([], o :: r)
abbrev Qj (P : Program) (c : CV) (n : Nat) (all : List Oper) : Nat → List Oper → List (List Nat) → PT AV → AH → (PT AV → AH → R) → R
 | _, [], _, tm, h, k => k tm h
 | 0, _ :: _, _, _, _, _ => none
 | f + 1, o :: r, Ls, tm, h, k => match o.guard with
  | none => opK P c o.op (ev tm) h fun v h' => XT n tm o.dst v fun tm' => Qj P c n all f r Ls tm' h' k
  | some g => ob (vP all o) fun d => ob (tm.get d) fun vg =>
   match Ls with
   | [] => none
   | L :: Ls' => cnd (vW d (o :: (jr g r).1)) none (zN (α := Tup L → AH → R) (fun s h => Qj P c n all f (jr g r).2 Ls' (yp L s .e) h k) fun J => xf vg g.2
     (Oq P c n (o :: (jr g r).1) tm h fun tm' h' => cnd (zc tm' L) (J (yL L tm') h') none)
     (YX n (o :: (jr g r).1) tm fun tm' => cnd (zc tm' L) (J (yL L tm') h) none))
mutual
def xo : AV → AV → Bool
 | .bool a, .bool b => a == b
 | .int k a, .int k' b => k == k' && ieq a b
 | .str a, .str b => seq? a b
 | .ptr b o, .ptr b' o' => Nat.beq b b' && Nat.beq o o'
 | .nilp, .nilp => true
 | .slice b o l c p, .slice b' o' l' c' p' => Nat.beq b b' && (Nat.beq o o' && (Nat.beq l l' && (Nat.beq c c' && p == p')))
 | .nils, .nils => true
 | .fn f a c, .fn f' a' c' => Nat.beq f f' && (Q6 a a' && Q6 c c')
 | .yield l, .yield l' => Nat.beq l l'
 | .nilf, .nilf => true
 | .iface t v, .iface t' v' => Nat.beq t t' && xo v v'
 | .nili, .nili => true
 | .agg l, .agg l' => Q6 l l'
 | .tup l, .tup l' => Q6 l l'
 | .empt a, .empt a' => decide (a = a')
 | .tail b o o' i, .tail b' p p' j => Nat.beq b b' && (Nat.beq o p && (Nat.beq o' p' && Nat.beq i j))
 | .mapv b, .mapv b' => Nat.beq b b'
 | _, _ => false
def Q6 : List AV → List AV → Bool
 | [], [] => true
 | a :: r, b :: s => xo a b && Q6 r s
 | _, _ => false
end
inductive Cls where
  | pure | load | fresh | heavy
def cls (P : Program) : Op → Cls
 | .convert s d _ => match P.underlying d with
  | some (.int _) => .pure
  | some .string => match P.underlying s with
   | some .string => .pure
   | _ => .heavy
  | _ => .heavy
 | .move _ | .assign _ | .pick .. | .build .. | .nilCheck _ | .binOp .. | .unOp .. | .makeInterface .. | .makeFunc .. | .slice .. | .fieldAddr .. | .field .. | .indexAddr .. | .index ..
 | .typeAssert .. | .extract .. => .pure
 | .load .. => .load
 | .alloc .. | .box .. | .buildSlice .. | .makeSlice .. => .fresh
 | .call cl => match cl.callee with
  | .builtin b => match b with
   | .len => (match cl.argTypes.toList with | t :: _ => (match P.underlying t with | some (.map _ _) => .heavy | _ => .pure) | [] => .pure)
   | .min => .pure
   | .max => .pure
   | _ => .heavy
  | _ => .heavy
 | _ => .heavy
def ju (P : Program) (o : Op) : Bool := match cls P o with | .heavy => true | _ => false
def Xz (o : Op) : Bool := match o with | .load _ _ => true | _ => false
def wP (P : Program) (o : Op) : Bool := match o with | .slice t _ _ _ _ => (match P.underlying t with | some (.slice _) => true | _ => false) | _ => false
def yZ (P : Program) (o : Op) : Bool := Xz o || wP P o
def yO : List Oper → Nat → PT Nat → PT Nat
 | [], _, t => t
 | o :: r, j, t => yO r (j + 1) (t.set j (o.after.toList.foldl (fun s e => bif Region.binds .any e then s ||| (2 ^ e.on ||| (match t.get e.on with | some m => m | none => 0)) else s) 0))
def j8 (t : PT Nat) (j : Nat) : Nat := match t.get j with | some m => m | none => 0
def chain (P : Program) (t : PT Nat) : List Oper → Nat → Option Nat → Bool
 | [], _, _ => true
 | o :: r, j, last => bif ju P o.op then (match last with | none => true | some i => Nat.testBit (j8 t j) i) && chain P t r (j + 1) (some j) else chain P t r (j + 1) last
def bit (t : Nat) : Nat := 2 ^ t
def orL : List Nat → Nat
 | [] => 0
 | a :: r => a ||| orL r
def rdO : Operand → Nat | .tmp t => bit t | _ => 0
def gA (all : List Oper) (o : Oper) : Nat := orL (o.op.operands.toList.map rdO) ||| (match o.guard with | some _ => (match vP all o with | some d => bit d | none => 0) | none => 0)
def wk (o : Oper) : Nat := match o.dst with | some d => bit d | none => 0
structure Ent where
  i : Nat
  w : Nat
  l : Nat
def Kz (mk wj lj : Nat) : List Ent → Bool
 | [] => true
 | e :: r => (Nat.testBit mk e.i || (Nat.beq (e.w &&& (lj ||| wj)) 0 && Nat.beq (wj &&& e.l) 0)) && Kz mk wj lj r
def gK (j : Nat) : List Edge → Bool
 | [] => true
 | e :: r => (bif Region.binds .any e then Nat.ble (e.on + 1) j else true) && gK j r
def lexE (t : PT Nat) (all : List Oper) : List Oper → Nat → List Ent → Bool
 | [], _, _ => true
 | o :: r, j, es => gK j o.after.toList && (Kz (j8 t j) (wk o) (gA all o) es && lexE t all r (j + 1) (⟨j, wk o, gA all o⟩ :: es))
def vy (t : PT Nat) (i j : Nat) : Bool := !(Nat.testBit (j8 t i) j || Nat.testBit (j8 t j) i)
def kh (P : Program) (t : PT Nat) (i : Nat) : List Oper → Nat → Bool
 | [], _ => false
 | o :: r, j => ju P o.op && vy t i j || kh P t i r (j + 1)
def kA (P : Program) (p : Op → Bool) (t : PT Nat) (all : List Oper) : List Oper → Nat → Bool
 | [], _ => false
 | o :: r, i => p o.op && kh P t i all 0 || kA P p t all r (i + 1)
def My (P : Program) (ops : Array Oper) : Bool :=
 lexE (yO ops.toList 0 .e) ops.toList ops.toList 0 [] && chain P (yO ops.toList 0 .e) ops.toList 0 none
structure wR where
  i : Nat
  a : AV
  n : Option Nat
  v : AV
structure wZ where
  j : Nat
  hb : AH
  ha : AH
def jR (a : AV) (n : Option Nat) (v : AV) (h : AH) : Bool :=
 match a with
 | .ptr b off => (match h.get b with
  | some (.cells c _ _) => (match n with
   | none => (match c.get1 off with | some x => xo x v | none => false)
   | some n => (match c.readN off n with | some l => xo (.agg l) v | none => false))
  | some (.inp t) => (match n with
   | none => (match Trie.get t off with | some x => xo x v | none => false)
   | some n => (match gr [] t off n with | some l => xo (.agg l) v | none => false))
  | _ => false)
 | .slice b off len i0 true => (match n with | some m => xL h (m / 65536) b off (m % 65536) i0 len | none => false)
 | .slice _ _ _ _ false => true
 | .nils => true
 | .empt _ => true
 | _ => false
def JX (a : AV) (nx : Nat) : Bool := match a with | .ptr b _ => Nat.ble (b + 1) nx | .slice b _ _ _ true => Nat.ble (b + 1) nx | .slice _ _ _ _ false => true | .nils => true | .empt _ => true | _ => false
def wT (a : AV) (n : Option Nat) (v : AV) (hb ha : AH) (nx : Nat) (k : R) : R := bif jR a n v hb && (jR a n v ha && JX a nx) then k else none
abbrev Z0 (t : PT Nat) (i : Nat) (a : AV) (n : Option Nat) (v : AV) (nx : Nat) : List wZ → R → R
 | [], k => k
 | ⟨j, hb, ha⟩ :: r, k => cnd (vy t i j) (wT a n v hb ha nx (Z0 t i a n v nx r k)) (Z0 t i a n v nx r k)
abbrev Gs (t : PT Nat) (hs : List wZ) (nx : Nat) : List wR → R → R
 | [], k => k
 | ⟨i, a, n, v⟩ :: r, k => Z0 t i a n v nx hs (Gs t hs nx r k)
def wb (r : Operand → Option AV) : Op → Option AV
 | .load _ a => r a
 | .slice _ x _ _ _ => r x
 | _ => none
def yH (P : Program) : Op → Option Nat
 | .load t _ => match vF P t with | some i => i | none => none
 | .slice t _ _ _ _ => match P.underlying t with
  | some (.slice e) => (match cellsOf? P e with | some sz => bif Nat.ble (sz + 1) 65536 then some (e * 65536 + sz) else none | none => none)
  | _ => none
 | _ => none
def YT : List (Nat × Bool × Bool) → Nat → Bool → Option Bool
 | [], _, _ => none
 | x :: r, d, w => bif Nat.beq x.1 d && (x.2.1 == w) then some x.2.2 else bif Nat.beq x.1 d && x.2.2 then some false else YT r d w
def hitG (dst : Option Tmp) (d : Nat) : Bool := match dst with | some t => Nat.beq t d | none => false
def dropG (dst : Option Tmp) : List (Nat × Bool × Bool) → List (Nat × Bool × Bool)
 | [] => []
 | x :: r => bif hitG dst x.1 then dropG dst r else x :: dropG dst r
abbrev qKT (o : Option Bool) (v : AV) (w : Bool) (a b : R) : R := match o with | some true => a | some false => b | none => xf v w a b
abbrev QN (P : Program) (c : CV) (n : Nat) (all : List Oper) : List Oper → Nat → List (Nat × Bool × Bool) → PT AV → AH → List wR → List wZ → (PT AV → AH → List wR → List wZ → R) → R
 | [], _, _, tm, h, ls, hs, k => k tm h ls hs
 | o :: r, j, kn, tm, h, ls, hs, k =>
  match o.guard with
  | none => opK P c o.op (ev tm) h fun v h' => XT n tm o.dst v fun tm' =>
   cnd (yZ P o.op) (ob (wb (ev tm) o.op) fun a => QN P c n all r (j + 1) (dropG o.dst kn) tm' h' (⟨j, a, yH P o.op, v⟩ :: ls) hs k) (cnd (ju P o.op) (QN P c n all r (j + 1) (dropG o.dst kn) tm' h' ls (⟨j, h, h'⟩ :: hs) k) (QN P c n all r (j + 1) (dropG o.dst kn) tm' h' ls hs k))
  | some g => ob (vP all o) fun d => ob (tm.get d) fun vg => qKT (YT kn d g.2) vg g.2
   (opK P c o.op (ev tm) h fun v h' => XT n tm o.dst v fun tm' =>
    cnd (yZ P o.op) (ob (wb (ev tm) o.op) fun a => QN P c n all r (j + 1) (dropG o.dst ((d, g.2, true) :: kn)) tm' h' (⟨j, a, yH P o.op, v⟩ :: ls) hs k) (cnd (ju P o.op) (QN P c n all r (j + 1) (dropG o.dst ((d, g.2, true) :: kn)) tm' h' ls (⟨j, h, h'⟩ :: hs) k) (QN P c n all r (j + 1) (dropG o.dst ((d, g.2, true) :: kn)) tm' h' ls hs k)))
   (XT n tm o.dst .undef fun tm' => QN P c n all r (j + 1) (dropG o.dst ((d, g.2, false) :: kn)) tm' h ls hs k)
abbrev qQC (P : Program) (c : CV) (n : Nat) (ops : Array Oper) (Ls : List (List Nat)) (tm : PT AV) (h : AH) (k : PT AV → AH → R) : R :=
 cnd (My P ops) ((cnd (kA P (yZ P) (yO ops.toList 0 .e) ops.toList ops.toList 0) (match Ls with
   | [] => none
   | L :: _ => zN (α := Tup L → AH → R) (fun s h => k (yp L s .e) h)
     fun J => QN P c n ops.toList ops.toList 0 [] tm h [] [] fun tm' h' ls hs => Gs (yO ops.toList 0 .e) hs h.nx ls (cnd (zc tm' L) (J (yL L tm') h') (none))) (Qj P c n ops.toList ops.toList.length ops.toList Ls tm h k))) (none)
def w8 (h : AH) (l : Nat) (k : AH → R) : R := match h.get l with
 | some (.loop .ready pend f p L vs d) => k (h.put l (.loop .busy pend f p L vs d))
 | _ => none
def zm (h : AH) (l : Nat) (j : Option AX) : R := match h.get l with
 | some (.loop _ _ f p L vs d) => (match j with
  | none => some (.bool true, h.put l (.loop .ready none f p L vs d))
  | some x => some (.bool false, h.put l (.loop .done (some x) f p L vs d)))
 | _ => none
def yj (h : AH) (l : Nat) (k : Option AX → AH → R) : R := match h.get l with
 | some (.loop st pend f p L vs d) => (match st with
  | .busy => none
  | _ => k pend (h.put l (.loop .exhausted pend f p L vs d)))
 | _ => none
def ND : AX → AX → Bool
 | .normal, .normal => true
 | .ret, .ret => true
 | .exit a, .exit b => Nat.beq a b
 | .goto a, .goto b => Nat.beq a b
 | _, _ => false
def pIs (p : Option AX) (x : AX) (a b : R) : R := match p with | some y => bif ND y x then a else b | none => b
def k7 (p : Option AX) (a b : R) : R := match p with | none => a | some _ => b
def wo : Code → List Nat → List AX
 | .seq a b, l => wo a l ++ wo b l
 | .cond _ a b, l => wo a l ++ wo b l
 | .block id a, l => wo a (id :: l)
 | .loop a, l => wo a l
 | .rangeFunc _ _ _ b, l => wo b l
 | .exit id, l => bif l.contains id then [] else [.exit id]
 | .ret, _ => [.ret]
 | _, _ => []
abbrev YA (p : Option AX) (k : AX → R) : List AX → R
 | [] => none
 | x :: r => pIs p x (k x) (YA p k r)
def Gf (h : AH) (l : Nat) (k : Nat → R) : R := match h.get l with | some (.loop _ _ _ _ _ _ d) => k d | _ => none
def y0 : (L : List Nat) → PT AV → List AV
 | [], _ => []
 | t :: L, tm => (match tm.get t with | some v => v | none => .undef) :: y0 L tm
def plA : Pl → Pl | .n _ a _ => a | _ => .z
def plB : Pl → Pl | .n _ _ b => b | _ => .z
def plL : Pl → Option (List Nat) | .n L _ _ => L | _ => none
def plR : Pl → List (List Nat) | .r l => l | _ => []
abbrev yD (P : Program) (N : Nat) (c : CV) (f n : Nat) (rd : Option Nat) : Code → List Nat → Pl → PT AV → AH → List Nat → (AX → PT AV → AH → List Nat → R) → R
  | .skip, _, _, tm, h, ds, k => k .normal tm h ds
  | .region _ ops d, _, pl, tm, h, ds, k => cnd (d) (qQC P c n ops (plR pl) tm h fun tm h => k .normal tm h ds) (Qj P c n ops.toList ops.toList.length ops.toList (plR pl) tm h fun tm h => k .normal tm h ds)
  | .seq a b, pos, pl, tm, h, ds, k => match plL pl with
    | some L => zN (α := Tup L → AH → List Nat → R)
        (fun s h ds => yD P N c f n rd b (pos ++ [1]) (plB pl) (yp L s .e) h ds k)
        fun J => yD P N c f n rd a (pos ++ [0]) (plA pl) tm h ds fun x tm' h ds => match x with
          | .normal => cnd (zc tm' L) (J (yL L tm') h ds) (none) | x => k x tm' h ds
    | none => yD P N c f n rd a (pos ++ [0]) (plA pl) tm h ds fun x tm' h ds => match x with
      | .normal => yD P N c f n rd b (pos ++ [1]) (plB pl) tm' h ds k
      | x => k x tm' h ds
  | .cond o a b, pos, pl, tm, h, ds, k => ob (ev tm o) fun v => jO v (yD P N c f n rd a (pos ++ [0]) (plA pl) tm h ds k) (yD P N c f n rd b (pos ++ [1]) (plB pl) tm h ds k)
  | .block id a, pos, pl, tm, h, ds, k => match plL pl with
    | some L => zN (α := Tup L → AH → List Nat → R)
        (fun s h ds => k .normal (yp L s .e) h ds)
        fun J => yD P N c f n rd a (pos ++ [0]) (plA pl) tm h ds fun x tm' h ds => match x with
          | .normal => cnd (zc tm' L) (J (yL L tm') h ds) (none) | .exit i => cnd (Nat.beq i id) ((cnd (zc tm' L) (J (yL L tm') h ds) (none))) (k (.exit i) tm' h ds) | x => k x tm' h ds
    | none => yD P N c f n rd a (pos ++ [0]) (plA pl) tm h ds fun x tm' h ds => match x with
      | .exit i => cnd (Nat.beq i id) (k .normal tm' h ds) (k (.exit i) tm' h ds)
      | x => k x tm' h ds
  | .loop a, pos, pl, tm, h, ds, k => match plL pl with
    | some L => cnd (zc tm L) (kQ (σ := Tup L) N
        (fun ih s h ds => yD P N c f n rd a (pos ++ [0]) (plA pl) (yp L s .e) h ds fun x tm' h ds => match x with
          | .normal => cnd (zc tm' L) (ih (yL L tm') h ds) (none) | x => k x tm' h ds)
        (yL L tm) h ds) (none)
    | none => none
  | .exit id, _, _, tm, h, ds, k => k (.exit id) tm h ds
  | .label _, _, _, tm, h, ds, k => k .normal tm h ds
  | .goto l, _, _, tm, h, ds, k => k (.goto l) tm h ds
  | .ret, _, _, tm, h, ds, k => k .ret tm h ds
  | .rangeFunc g _ _ body, pos, pl, tm, h, ds, k => ob (ev tm g) fun vf => match plL pl with
    | none => none
    | some L => cnd (zc tm L) ((fun (go : Nat → AH → List Nat → R) => match rd with
       | none => go h.nx (h.new .dfd) (h.nx :: ds)
       | some l0 => Gf h l0 fun d => go d h ds)
      fun d h1 ds1 => kF c vf [.yield h1.nx] (h1.new (.loop .ready none f pos L (y0 L tm) d)) fun _ h2 =>
        yj h2 h1.nx fun p h3 => k7 p (k .normal tm h3 ds1) (YA p (fun x => k x tm h3 ds1) (wo body []))) (none)
  | _, _, _, _, _, _, _ => none
def jB : List Nat → AH → (AH → R) → R
 | [], h, k => k h
 | d :: r, h, k => match h.get d with
  | some .dfd => jB r (h.put d .took) k
  | _ => none
def NS : List AV → Nat → PT AV → PT AV
 | [], _, t => t
 | a :: r, i, t => NS r (i + 1) (t.set i a)
abbrev XC (P : Program) (tm : PT AV) (h : AH) : List ResultVar → (List AV → R) → R
 | [], k => k []
 | x :: r, k => match x with
  | .tmp t => ob (tm.get t) fun v => XC P tm h r fun l => k (v :: l)
  | .cell a t => ob (tm.get a) fun va => ob (vF P t) fun i => match i with
   | none => qm h va fun v => XC P tm h r fun l => k (v :: l)
   | some n => ji h va n fun v => XC P tm h r fun l => k (v :: l)
def one? (l : List AV) : AV := match l with | [v] => v | l => .tup l
abbrev zb (P : Program) (N : Nat) (pl : Pl) (c : CV) (f : FuncId) (args : List AV) (h : AH) : R :=
 ob (P.funcs[f]?) fun fn => ob fn.body fun b =>
  yD P N c f fn.ntmps none b [] pl (NS args 0 .e) h [] fun x tm h ds => match x with
   | .normal => jB ds h fun h' => XC P tm h' fn.results.toList fun l => some (one? l, h')
   | .ret => jB ds h fun h' => XC P tm h' fn.results.toList fun l => some (one? l, h')
   | _ => none
def zq : Code → List Nat → Option Code
 | c, [] => some c
 | .seq a b, i :: p => bif Nat.beq i 0 then zq a p else zq b p
 | .cond _ a b, i :: p => bif Nat.beq i 0 then zq a p else zq b p
 | .block _ a, _ :: p => zq a p
 | .loop a, _ :: p => zq a p
 | .rangeFunc _ _ a b, i :: p => bif Nat.beq i 0 then zq a p else zq b p
 | _, _ :: _ => none
abbrev Ma : List Tmp → List AV → Nat → PT AV → (PT AV → R) → R
 | [], [], _, t, k => k t
 | p :: ps, v :: vs, n, t, k => cnd (Nat.ble (p + 1) n) (Ma ps vs n (t.set p v) k) (none)
 | _, _, _, _, _ => none
abbrev zipK : List Nat → List AV → PT AV → (PT AV → R) → R
 | [], [], t, k => k t
 | x :: L, v :: vs, t, k => zipK L vs (t.set x v) k
 | _, _, _, _ => none
abbrev XL (P : Program) (N : Nat) (pl : Pl) (c : CV) (f : FuncId) (pos L : List Nat) (l : Nat) (vs args : List AV) (h : AH) : R :=
 ob (P.funcs[f]?) fun fn => ob fn.body fun b => ob (zq b pos) fun s => match s with
  | .rangeFunc _ ps assign body => zipK L vs .e fun tm0 => Ma ps.toList args fn.ntmps tm0 fun tm =>
   yD P N c f fn.ntmps (some l) assign (pos ++ [0]) (plA pl) tm h [] fun x tm h ds => match x with
    | .normal => w8 h l fun h => yD P N c f fn.ntmps (some l) body (pos ++ [1]) (plB pl) tm h ds fun x _ h _ => match x with
     | .normal => zm h l none
     | x => zm h l (some x)
    | _ => none
  | _ => none
def NN : Nat := 1000000000
abbrev WF := CV → List AV → AH → R
abbrev VF := CV → Nat → List AV → List AV → AH → R
def WOk (P : Program) (f : Nat) (w : WF) : Prop := ∀ c l h r, w c l h = some r → ∃ pl, zb P NN pl c f l h = some r
def VOk (P : Program) (f : Nat) (pos L : List Nat) (w : VF) : Prop := ∀ c l x y h r, w c l x y h = some r → ∃ pl, XL P NN pl c f pos L l x y h = some r
structure RT where
  f : Nat
  pos : List Nat
  L : List Nat
  run : VF
def QL : List Nat → List Nat → Bool
 | [], [] => true
 | a :: x, b :: y => Nat.beq a b && QL x y
 | _, _ => false
def QW : List RT → Nat → List Nat → List Nat → Option VF
 | [], _, _, _ => none
 | x :: r, f, pos, L => bif Nat.beq x.f f && (QL x.pos pos && QL x.L L) then some x.run else QW r f pos L
inductive BT where
  | no
  | leaf (f : Nat) (w : WF)
  | node (m : Nat) (l r : BT)
def BT.get (t : BT) (f : Nat) : Option WF :=
 BT.rec (motive := fun _ => Option WF) none (fun g w => Bool.rec (motive := fun _ => Option WF) none (some w) (Nat.beq g f)) (fun m _ _ l r => Bool.rec (motive := fun _ => Option WF) r l (Nat.ble f m)) t
def BT.all (p : Nat → WF → Prop) : BT → Prop
 | .no => True
 | .leaf f w => p f w
 | .node _ l r => l.all p ∧ r.all p
def BT.fs : BT → List Nat
 | .no => []
 | .leaf f _ => [f]
 | .node _ l r => l.fs ++ r.fs
def callT (tab : BT) (rt : List RT) (k : Nat) : CV :=
 Nat.rec (motive := fun _ => CV) (fun _ _ _ => none) (fun _ ih v args h => match v with
  | .fn f first cap => Option.rec (motive := fun _ => R) none (fun g => g ih (first ++ args ++ cap) h) (BT.get tab f)
  | .yield l => (match h.get l with
   | some (.loop .ready _ f pos L vs _) => (match QW rt f pos L with | some g => g ih l vs args h | none => none)
   | _ => none)
  | _ => none) k
def isTrue (r : R) : Bool := match r with | some (.bool true, _) => true | _ => false
def AH.empty : AH := ⟨0, [], .e⟩
end
end Go.Ae
namespace Go.Ae
open Go
noncomputable section
abbrev tE0 (P : Program) (pl : Pl) (f : Nat) : Type := (c : CV) → (h : AH) → { r : R // zb P NN pl c f [] h = r }
abbrev tD0 {P : Program} {pl : Pl} {f : Nat} (S : tE0 P pl f) : WF := fun c l h => match l with | [] => (S c h).1 | _ => none
theorem tO0 {P : Program} {pl : Pl} {f : Nat} (S : tE0 P pl f) : WOk P f (tD0 S) := by
 intro c l h r e
 unfold tD0 at e
 split at e
 ·exact ⟨pl, (S ..).2.trans e⟩
 ·cases e
abbrev tE1 (P : Program) (pl : Pl) (f : Nat) : Type := (c : CV) → (a0 : AV) → (h : AH) → { r : R // zb P NN pl c f [a0] h = r }
abbrev tD1 {P : Program} {pl : Pl} {f : Nat} (S : tE1 P pl f) : WF := fun c l h => match l with | [a0] => (S c a0 h).1 | _ => none
theorem tO1 {P : Program} {pl : Pl} {f : Nat} (S : tE1 P pl f) : WOk P f (tD1 S) := by
 intro c l h r e
 unfold tD1 at e
 split at e
 ·exact ⟨pl, (S ..).2.trans e⟩
 ·cases e
abbrev tE2 (P : Program) (pl : Pl) (f : Nat) : Type := (c : CV) → (a0 a1 : AV) → (h : AH) → { r : R // zb P NN pl c f [a0, a1] h = r }
abbrev tD2 {P : Program} {pl : Pl} {f : Nat} (S : tE2 P pl f) : WF := fun c l h => match l with | [a0, a1] => (S c a0 a1 h).1 | _ => none
theorem tO2 {P : Program} {pl : Pl} {f : Nat} (S : tE2 P pl f) : WOk P f (tD2 S) := by
 intro c l h r e
 unfold tD2 at e
 split at e
 ·exact ⟨pl, (S ..).2.trans e⟩
 ·cases e
abbrev tE3 (P : Program) (pl : Pl) (f : Nat) : Type := (c : CV) → (a0 a1 a2 : AV) → (h : AH) → { r : R // zb P NN pl c f [a0, a1, a2] h = r }
abbrev tD3 {P : Program} {pl : Pl} {f : Nat} (S : tE3 P pl f) : WF := fun c l h => match l with | [a0, a1, a2] => (S c a0 a1 a2 h).1 | _ => none
theorem tO3 {P : Program} {pl : Pl} {f : Nat} (S : tE3 P pl f) : WOk P f (tD3 S) := by
 intro c l h r e
 unfold tD3 at e
 split at e
 ·exact ⟨pl, (S ..).2.trans e⟩
 ·cases e
abbrev tE4 (P : Program) (pl : Pl) (f : Nat) : Type := (c : CV) → (a0 a1 a2 a3 : AV) → (h : AH) → { r : R // zb P NN pl c f [a0, a1, a2, a3] h = r }
abbrev tD4 {P : Program} {pl : Pl} {f : Nat} (S : tE4 P pl f) : WF := fun c l h => match l with | [a0, a1, a2, a3] => (S c a0 a1 a2 a3 h).1 | _ => none
theorem tO4 {P : Program} {pl : Pl} {f : Nat} (S : tE4 P pl f) : WOk P f (tD4 S) := by
 intro c l h r e
 unfold tD4 at e
 split at e
 ·exact ⟨pl, (S ..).2.trans e⟩
 ·cases e
abbrev tE5 (P : Program) (pl : Pl) (f : Nat) : Type := (c : CV) → (a0 a1 a2 a3 a4 : AV) → (h : AH) → { r : R // zb P NN pl c f [a0, a1, a2, a3, a4] h = r }
abbrev tD5 {P : Program} {pl : Pl} {f : Nat} (S : tE5 P pl f) : WF := fun c l h => match l with | [a0, a1, a2, a3, a4] => (S c a0 a1 a2 a3 a4 h).1 | _ => none
theorem tO5 {P : Program} {pl : Pl} {f : Nat} (S : tE5 P pl f) : WOk P f (tD5 S) := by
 intro c l h r e
 unfold tD5 at e
 split at e
 ·exact ⟨pl, (S ..).2.trans e⟩
 ·cases e
abbrev tE6 (P : Program) (pl : Pl) (f : Nat) : Type := (c : CV) → (a0 a1 a2 a3 a4 a5 : AV) → (h : AH) → { r : R // zb P NN pl c f [a0, a1, a2, a3, a4, a5] h = r }
abbrev tD6 {P : Program} {pl : Pl} {f : Nat} (S : tE6 P pl f) : WF := fun c l h => match l with | [a0, a1, a2, a3, a4, a5] => (S c a0 a1 a2 a3 a4 a5 h).1 | _ => none
theorem tO6 {P : Program} {pl : Pl} {f : Nat} (S : tE6 P pl f) : WOk P f (tD6 S) := by
 intro c l h r e
 unfold tD6 at e
 split at e
 ·exact ⟨pl, (S ..).2.trans e⟩
 ·cases e
theorem pLn {h : AH} {k : AH → R} : jB [] h k = k h := rfl
end
end Go.Ae
namespace Go.Ae
open Go
noncomputable section
abbrev w_0 (S : CV → AH → R) : WF := fun c l h => match l with | [] => S c  h | _ => none
theorem OS {P : Program} {f : Nat} {pl : Pl} {S : CV → AH → R} (q : ∀ (c : CV) (h : AH), zb P NN pl c f [] h = S c  h) : WOk P f (w_0 S) := by
 intro c l h r e
 unfold w_0 at e
 split at e
 ·exact ⟨pl, by rw [q]; exact e⟩
 ·cases e
abbrev w_1 (S : CV → AV → AH → R) : WF := fun c l h => match l with | [a0] => S c a0 h | _ => none
theorem JI {P : Program} {f : Nat} {pl : Pl} {S : CV → AV → AH → R} (q : ∀ (c : CV) (a0 : AV) (h : AH), zb P NN pl c f [a0] h = S c a0 h) : WOk P f (w_1 S) := by
 intro c l h r e
 unfold w_1 at e
 split at e
 ·exact ⟨pl, by rw [q]; exact e⟩
 ·cases e
abbrev w_2 (S : CV → AV → AV → AH → R) : WF := fun c l h => match l with | [a0, a1] => S c a0 a1 h | _ => none
theorem ZW {P : Program} {f : Nat} {pl : Pl} {S : CV → AV → AV → AH → R} (q : ∀ (c : CV) (a0 a1 : AV) (h : AH), zb P NN pl c f [a0, a1] h = S c a0 a1 h) : WOk P f (w_2 S) := by
 intro c l h r e
 unfold w_2 at e
 split at e
 ·exact ⟨pl, by rw [q]; exact e⟩
 ·cases e
abbrev w_5 (S : CV → AV → AV → AV → AV → AV → AH → R) : WF := fun c l h => match l with | [a0, a1, a2, a3, a4] => S c a0 a1 a2 a3 a4 h | _ => none
theorem qK1 {P : Program} {f : Nat} {pl : Pl} {S : CV → AV → AV → AV → AV → AV → AH → R} (q : ∀ (c : CV) (a0 a1 a2 a3 a4 : AV) (h : AH), zb P NN pl c f [a0, a1, a2, a3, a4] h = S c a0 a1 a2 a3 a4 h) : WOk P f (w_5 S) := by
 intro c l h r e
 unfold w_5 at e
 split at e
 ·exact ⟨pl, by rw [q]; exact e⟩
 ·cases e
end
end Go.Ae
abbrev Go.Ae.iI (n : Nat) : Go.Ae.AV := .int .i64 (.ofNat n)
abbrev Go.Ae.uU (n : Nat) : Go.Ae.AV := .int .u64 (.ofNat n)
