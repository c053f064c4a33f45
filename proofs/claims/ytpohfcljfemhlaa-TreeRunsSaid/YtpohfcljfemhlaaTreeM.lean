/- Trees: what the program's calls do to a draft: the plain acts; bits of a node's word. -/
import Derived.Test.YtpohfcljfemhlaaDraftD
namespace Go.Proofs.Ytpohfcljfemhlaa.arenaParts
open Go Go.Ae arenaPlays
set_option maxRecDepth 100000

/-! ### bits -/
theorem bvi {a : Int} (h : 0 ≤ a ∧ a < 18446744073709551616) : (BitVec.ofInt 64 a).toNat = a.toNat := by
  rw [BitVec.toNat_ofInt, show ((2 ^ 64 : Nat) : Int) = 18446744073709551616 from rfl, Int.emod_eq_of_lt h.1 h.2]
theorem wrapN {n : Nat} (h : n < 18446744073709551616) : IntKind.u64.wrap (n : Int) = (n : Int) := by
  rw [wrap_u64]; omega
theorem ww_and1 {a : Int} {K : AV → Go.Ae.R} {Q : AV → AH → Prop} (h : 0 ≤ a ∧ a < 18446744073709551616) (w : wp (K (.int .u64 (a % 2))) Q) : wp (pInt .and (.int .u64 a) (.int .u64 ((1 : Nat) : Int)) K) Q := by
  rw [pInt_k]
  simp only [aint]
  have e : ((BitVec.ofInt IntKind.u64.bits a &&& BitVec.ofInt IntKind.u64.bits ((1 : Nat) : Int)).toNat : Int) = a % 2 := by
    show (((BitVec.ofInt 64 a &&& BitVec.ofInt 64 ((1 : Nat) : Int)).toNat : Nat) : Int) = a % 2
    rw [BitVec.toNat_and, bvi h, bvi (by omega), show (((1 : Nat) : Int)).toNat = 1 from rfl, Nat.and_one_is_mod]
    omega
  rw [e, wrap_u64, show a % 2 % 18446744073709551616 = a % 2 by omega]
  exact w
theorem ww_or1 {a b : Int} {K : AV → Go.Ae.R} {Q : AV → AH → Prop} (h : 0 ≤ a ∧ a * 2 < 18446744073709551616) (hb : 0 ≤ b ∧ b < 2) (w : wp (K (.int .u64 (a * 2 + b))) Q) : wp (pInt .or (.int .u64 (a * 2)) (.int .u64 b) K) Q := by
  rw [pInt_k]
  simp only [aint]
  have e : ((BitVec.ofInt IntKind.u64.bits (a * 2) ||| BitVec.ofInt IntKind.u64.bits b).toNat : Int) = a * 2 + b := by
    show (((BitVec.ofInt 64 (a * 2) ||| BitVec.ofInt 64 b).toNat : Nat) : Int) = a * 2 + b
    rw [BitVec.toNat_or, bvi (by omega), bvi (by omega), show (a * 2).toNat = 2 ^ 1 * a.toNat by omega, ← Nat.two_pow_add_eq_or_of_lt (by omega)]
    omega
  rw [e, wrap_u64, show (a * 2 + b) % 18446744073709551616 = a * 2 + b by omega]
  exact w
/-- the other colour -/
def flipW (w : Int) : Int := if w % 2 = 1 then w - 1 else w + 1
theorem ww_xor1 {a : Int} {K : AV → Go.Ae.R} {Q : AV → AH → Prop} (h : 0 ≤ a ∧ a < 18446744073709551616) (w : wp (K (.int .u64 (flipW a))) Q) : wp (pInt .xor (.int .u64 a) (.int .u64 ((1 : Nat) : Int)) K) Q := by
  rw [pInt_k]
  simp only [aint]
  have e : ((BitVec.ofInt IntKind.u64.bits a ^^^ BitVec.ofInt IntKind.u64.bits ((1 : Nat) : Int)).toNat : Int) = flipW a := by
    show (((BitVec.ofInt 64 a ^^^ BitVec.ofInt 64 ((1 : Nat) : Int)).toNat : Nat) : Int) = flipW a
    rw [BitVec.toNat_xor, bvi h, bvi (by omega), show (((1 : Nat) : Int)).toNat = 1 from rfl]
    have h1 := Nat.xor_div_two (a := a.toNat) (b := 1)
    have h0 : (1 : Nat) / 2 = 0 := rfl
    rw [h0, Nat.xor_zero] at h1
    have h2 : (a.toNat ^^^ 1) % 2 = (a.toNat % 2) ^^^ 1 := by
      have := Nat.xor_mod_two_pow (a := a.toNat) (b := 1) (n := 1)
      rwa [show 2 ^ 1 = 2 from rfl, show 1 % 2 = 1 from rfl] at this
    rcases Nat.mod_two_eq_zero_or_one a.toNat with h3 | h3 <;> rw [h3] at h2
    all_goals simp only [Nat.zero_xor, Nat.xor_self] at h2
    all_goals unfold flipW
    all_goals split <;> omega
  rw [e, wrap_u64, show flipW a % 18446744073709551616 = flipW a by unfold flipW; split <;> omega]
  exact w
theorem flip_b {a : Int} (h : 0 ≤ a ∧ a < 18446744073709551616) : 0 ≤ flipW a ∧ flipW a < 18446744073709551616 := by unfold flipW; split <;> omega
theorem ww_shl1 {a : Int} {q : IntKind} {K : AV → Go.Ae.R} {Q : AV → AH → Prop} (h : 0 ≤ a ∧ a * 2 < 18446744073709551616) (w : wp (K (.int .u64 (a * 2))) Q) : wp (pShift .shl (.int .u64 a) (.int q ((1 : Nat) : Int)) K) Q := by
  refine ww_shl (by omega) ?_
  rw [show (2 : Int) ^ (min (((1 : Nat) : Int)).toNat IntKind.u64.bits) = 2 from rfl, wrapU (by omega)]
  exact w
theorem ww_shr1 {a : Int} {q : IntKind} {K : AV → Go.Ae.R} {Q : AV → AH → Prop} (w : wp (K (.int .u64 (a / 2))) Q) : wp (pShift .shr (.int .u64 a) (.int q ((1 : Nat) : Int)) K) Q := by
  refine ww_shr (by omega) ?_
  rw [show (2 : Int) ^ (min (((1 : Nat) : Int)).toNat IntKind.u64.bits) = 2 from rfl, Int.fdiv_eq_ediv_of_nonneg _ (by omega)]
  exact w

/-! ### the acts -/
variable {α : Type}
/-- a step on the way down: a node, a side (0 low, 1 high) -/
abbrev StpT := Int × Int
def nameA (w : Int) (k : Int → Act α) : Act α := if 2147483648 ≤ w then .fail 2 else k w
def childA (at_ side : Int) (k : Int → Act α) : Act α := if at_ = 0 then .fail 2 else if side = 1 then placeA (at_ + 3) k else .read (at_ + 2) fun w => nameA (w / 2) k
def redA (at_ : Int) (k : Bool → Act α) : Act α := if at_ = 0 then k false else .read (at_ + 2) fun w => k (decide (w % 2 = 1))
def hangA (at_ side c : Int) (k : Act α) : Act α := if side = 1 then .take [(at_ + 3, c)] k else .read (at_ + 2) fun w => .take [(at_ + 2, c * 2 + w % 2)] k
def paintA (at_ : Int) (red : Bool) (k : Act α) : Act α := if at_ = 0 then .fail 2 else .read (at_ + 2) fun w => if decide (w % 2 = 1) = red then k else .take [(at_ + 2, flipW w)] k
/-- the n-th step of a way -/
def wayN (way : List StpT) (n : Nat) : StpT := (way[n]?).getD (0, 0)
def linkA (root : Int) (way : List StpT) (n : Nat) (at_ : Int) (k : Act α) : Act α := match n with
  | 0 => .take [(root, at_)] k
  | m + 1 => hangA (wayN way m).1 (wayN way m).2 at_ k
def turnA (at_ side : Int) (k : Int → Act α) : Act α := childA at_ (1 - side) fun up => childA up side fun c => hangA at_ (1 - side) c (hangA up side at_ (k up))
def seekL (key : Int) (k : Int → List StpT → Act α) : Nat → Int → List StpT → Act α
  | 0, a, way => if a = 0 then k 0 way else .fail 2
  | m + 1, a, way => if a = 0 then k 0 way else .step (.read a fun here => if here = key then k a way else
      childA a (if here < key then 1 else 0) fun c => seekL key k m c (way ++ [(a, if here < key then 1 else 0)]))
def seekA (root key : Int) (k : Int → List StpT → Act α) : Act α := placeA root fun a => seekL key k 2049 a []

def straightA (root : Int) (way : List StpT) (up grand : StpT) (k : Act α) : Act α :=
  let c := turnA grand.1 (1 - grand.2) fun a => paintA a false (paintA grand.1 true (linkA root way (way.length - 2) a k))
  if up.2 = grand.2 then c else turnA up.1 grand.2 fun u => hangA grand.1 grand.2 u c
def raisedL (root : Int) (k : Act α) : Nat → List StpT → Act α
  | 0, way => if 2 ≤ way.length then .fail 2 else placeA root fun a => paintA a false k
  | m + 1, way => if 2 ≤ way.length then .step (redA (wayN way (way.length - 1)).1 fun r => if r = false then k else
        childA (wayN way (way.length - 2)).1 (1 - (wayN way (way.length - 2)).2) fun uncle => redA uncle fun ru =>
        if ru = false then straightA root way (wayN way (way.length - 1)) (wayN way (way.length - 2)) k else
        paintA (wayN way (way.length - 1)).1 false (paintA uncle false (paintA (wayN way (way.length - 2)).1 true (raisedL root k m (way.take (way.length - 2))))))
      else placeA root fun a => paintA a false k
def putA (sz : Nat) (root key x : Int) : Act Bool := seekA root key fun a way =>
  if a ≠ 0 then .take [(a + 1, x)] (.ret false) else
    allocA sz 4 fun n => .take [(n, key)] (.take [(n + 1, x)] (.take [(n + 2, 1)] (.take [(n + 3, 0)] (linkA root way way.length n (raisedL root (.ret true) 2049 way)))))
def getA (root key : Int) : Act (Int × Bool) := seekA root key fun a _ => if a ≠ 0 then .read (a + 1) fun x => .ret (x, true) else .ret (0, false)

def heirL (k : Int → List StpT → Act α) : Nat → Int → List StpT → Act α
  | 0, _, _ => .fail 2
  | m + 1, a, way => .step (childA a 0 fun nx => if nx = 0 then k a way else heirL k m nx (way ++ [(a, 0)]))
def heirA (a : Int) (way : List StpT) (k : Int → List StpT → Act α) : Act α := childA a 1 fun c => heirL k 2049 c (way ++ [(a, 1)])
def lentB (root : Int) (way : List StpT) (up : StpT) (other : Int) (k : Act α) : Act α :=
  turnA up.1 up.2 fun _ => redA up.1 fun ru => paintA other ru (paintA up.1 false (childA other (1 - up.2) fun c => paintA c false (linkA root way (way.length - 1) other k)))
def lentA (root : Int) (way : List StpT) (up : StpT) (other : Int) (k : Act α) : Act α :=
  childA other (1 - up.2) fun c => redA c fun rc => if rc = false then turnA other (1 - up.2) fun inner => hangA up.1 (1 - up.2) inner (paintA inner false (paintA other true (lentB root way up inner k)))
    else lentB root way up other k
def loweredL (root : Int) (k : Act α) : Nat → List StpT → Act α
  | 0, way => if 0 < way.length then .fail 2 else k
  | m + 1, way => if 0 < way.length then .step (
      childA (wayN way (way.length - 1)).1 (1 - (wayN way (way.length - 1)).2) fun other => redA other fun ro =>
      if ro = true then turnA (wayN way (way.length - 1)).1 (wayN way (way.length - 1)).2 fun _ => paintA other false (paintA (wayN way (way.length - 1)).1 true (linkA root way (way.length - 1) other
        (loweredL root k m (way.set (way.length - 1) (other, (wayN way (way.length - 1)).2) ++ [wayN way (way.length - 1)]))))
      else childA other 0 fun l => redA l fun rl => if rl = true then lentA root way (wayN way (way.length - 1)) other k else
        childA other 1 fun r => redA r fun rr => if rr = true then lentA root way (wayN way (way.length - 1)) other k else
        paintA other true (redA (wayN way (way.length - 1)).1 fun ru => if ru = true then paintA (wayN way (way.length - 1)).1 false k else loweredL root k m (way.take (way.length - 1)))) else k
def cutC (sz : Nat) (root a : Int) (way : List StpT) (only : Int) (k : Act α) : Act α :=
  redA a fun wasRed => linkA root way way.length only (if wasRed = true then freeAc sz a k else redA only fun ro => if ro = true then paintA only false (freeAc sz a k) else loweredL root (freeAc sz a k) 2049 way)
def cutB (sz : Nat) (root a : Int) (way : List StpT) (k : Act α) : Act α := childA a 0 fun o => if o = 0 then childA a 1 fun o => cutC sz root a way o k else cutC sz root a way o k
def cutA (sz : Nat) (root a : Int) (way : List StpT) (k : Act α) : Act α :=
  childA a 0 fun l => if l = 0 then cutB sz root a way k else childA a 1 fun r => if r = 0 then cutB sz root a way k else
    heirA a way fun hr way2 => .read hr fun w => .take [(a, w)] (.read (hr + 1) fun x => .take [(a + 1, x)] (cutB sz root hr way2 k))
def delA (sz : Nat) (root key : Int) : Act Bool := seekA root key fun a way => if a ≠ 0 then cutA sz root a way (.ret true) else .ret false

abbrev PairT := Int × Int
def betweenA (lo hi : Int) : Nat → Int → List PairT → (List PairT → Act α) → Act α
  | 0, a, out, k => if a = 0 then k out else .fail 2
  | m + 1, a, out, k => if a = 0 then k out else .step (.read a fun key =>
      let k2 : List PairT → Act α := fun out => if key < hi then childA a 1 fun c => betweenA lo hi m c out k else k out
      let k1 : List PairT → Act α := fun out => if lo ≤ key ∧ key ≤ hi then .read (a + 1) fun x => k2 (out ++ [(key, x)]) else k2 out
      if lo < key then childA a 0 fun c => betweenA lo hi m c out k1 else k1 out)
def rangeA (root lo hi : Int) : Act (List PairT) := placeA root fun a => betweenA lo hi 2049 a [] fun out => .ret out
def deepA : Nat → Int → (Int → Act α) → Act α
  | 0, a, k => if a = 0 then k 0 else .fail 2
  | m + 1, a, k => if a = 0 then k 0 else .step (childA a 0 fun l => deepA m l fun x => childA a 1 fun r => deepA m r fun y => k (1 + max x y))
def deepT (root : Int) : Act Int := placeA root fun a => deepA 2049 a fun n => .ret n
end Go.Proofs.Ytpohfcljfemhlaa.arenaParts
