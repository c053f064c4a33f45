/- Lemmas for 'quietus/quietuslaw30.JudgeParts': What a transaction knows and writes, as plain data: cells, levels, views; Write sets: by the program; Levels of cells and frees: by the program; Views: by the program; Blocks of words: by the program; Blocks and lists of words: the plain law; Views: by the documents own text; Views: by the documents own text: copies, kept levels, the views; Blocks of words: by the documents own text; The blocks of words: by the program, by the documents own text; The lists of words: by the program, by the documents own text; Blocks, lists, blocks at rest: each somewhere once: the plain law; Steps more; Is an operation safe: both sides tell safeM; Maps of numbers to numbers: what they hold; the steps on them; Is each block somewhere, once: the programs side, with a map; Is each block somewhere, once: the documents side; Numbers brought into bounds; The words of a heap out of drawn ones; Are two lists of numbers the same?; Are two lists of words the same?; Are two lists of cells the same?; An ask on both; what both show; ArenaPlays comes to true for every argument: its own walk; ArenaFull comes to true for every argument: its own walk; The blocks part the arena: the plain law of ArenaParts; The heaps that are drawn are parted; which blocks are live, in a list, at rest. No condition. -/
import Derived.Test.YtcmjgcfkhommkaaGreatDoorJudgePartsAe7
import Derived.Test.YtcmjgcfkhommkaaGreatDoorJudgePartsT
import Derived.KernelRfl
namespace Go.Proofs.YtcmjgcfkhommkaaGreatDoor
open Go Go.Ae

abbrev Cl : Type := Int × Int
def encC (c : Int × Int) : List AV := [.int .i64 c.1, .int .u64 c.2]

def getC (p : Int) : List Cl → Option Int
  | [] => none
  | c :: l => if c.1 = p then some c.2 else getC p l
def putC (p v : Int) : List Cl → List Cl
  | [] => [(p, v)]
  | c :: l => if c.1 = p then (p, v) :: l else c :: putC p v l
theorem putC_len {p v : Int} {l : List Cl} : (putC p v l).length = if getC p l = none then l.length + 1 else l.length := by
  induction l with
  | nil => simp [putC, getC]
  | cons c l ih =>
    unfold putC getC
    split
    · simp
    · rw [List.length_cons, ih]
      split <;> simp
/-- all places inside -/
def InC (l : List Cl) : Prop := ∀ c ∈ l, 1 ≤ c.1 ∧ c.1 < 256
theorem InC.put {l : List Cl} {p v : Int} (h : InC l) (hp : 1 ≤ p ∧ p < 256) : InC (putC p v l) := by
  induction l with
  | nil => intro c hc; simp [putC] at hc; subst hc; exact hp
  | cons a l ih =>
    unfold putC
    split
    · intro c hc
      rcases List.mem_cons.1 hc with rfl | hc
      · exact hp
      · exact h c (List.mem_cons_of_mem _ hc)
    · intro c hc
      rcases List.mem_cons.1 hc with rfl | hc
      · exact h _ (List.mem_cons_self ..)
      · exact ih (fun c hc => h c (List.mem_cons_of_mem _ hc)) c hc
/-- no place twice -/
def UnC (l : List Cl) : Prop := (l.map (·.1)).Nodup
theorem getC_mem {p : Int} {l : List Cl} : getC p l = none ↔ p ∉ l.map (·.1) := by
  induction l with
  | nil => simp [getC]
  | cons c l ih =>
    unfold getC
    split
    · rename_i h; simp [h]
    · rename_i h
      rw [ih, List.map_cons, List.mem_cons, not_or]
      exact ⟨fun h' => ⟨fun h2 => h h2.symm, h'⟩, fun h' => h'.2⟩
theorem putC_keys {p v : Int} {l : List Cl} : (putC p v l).map (·.1) = if getC p l = none then l.map (·.1) ++ [p] else l.map (·.1) := by
  induction l with
  | nil => simp [putC, getC]
  | cons c l ih =>
    unfold putC getC
    split
    · rename_i h; simp [h]
    · rw [List.map_cons, ih]
      split <;> simp
theorem UnC.put {l : List Cl} {p v : Int} (h : UnC l) : UnC (putC p v l) := by
  unfold UnC
  rw [putC_keys]
  split
  · rename_i hp
    rw [getC_mem] at hp
    rw [List.nodup_append]
    exact ⟨h, by simp, fun a ha b hb => by rw [List.mem_singleton] at hb; subst hb; rintro rfl; exact hp ha⟩
  · exact h
/-! ### a write set -/
/-! ### levels, the inmost first: cells, frees -/
abbrev LvM : Type := List Cl × List Int
def getL (p : Int) : List LvM → Option Int
  | [] => none
  | x :: r => match getC p x.1 with | some v => some v | none => getL p r
def heldL (lv : List LvM) : Nat := (lv.map fun x => x.1.length).sum
structure OkL (most : Nat) (lv : List LvM) : Prop where
  held : heldL lv ≤ most
  le : most ≤ 96
  ins : ∀ x ∈ lv, InC x.1
  un : ∀ x ∈ lv, UnC x.1
  one : 1 ≤ lv.length
  deep : lv.length ≤ 6
def putL (most : Nat) (lv : List LvM) (p v : Int) : Int × List LvM :=
  match lv with
  | [] => (0, [])
  | x :: r => if p < 1 ∨ 256 ≤ p then (2, lv) else if getC p x.1 = none ∧ most ≤ heldL lv then (5, lv) else (0, (putC p v x.1, x.2) :: r)
def takeL (most : Nat) (was lv : List LvM) : List Cl → Int × List LvM
  | [] => (0, lv)
  | c :: cs => if (putL most lv c.1 c.2).1 = 0 then takeL most was (putL most lv c.1 c.2).2 cs else ((putL most lv c.1 c.2).1, was)
def dropL (lv : List LvM) : Int × List LvM := if lv.length = 1 then (10, lv) else (0, lv.tail)
theorem takeL_cons {most : Nat} {was lv : List LvM} {c : Cl} {cs : List Cl} : takeL most was lv (c :: cs) = if (putL most lv c.1 c.2).1 = 0 then takeL most was (putL most lv c.1 c.2).2 cs else ((putL most lv c.1 c.2).1, was) := rfl
theorem heldL_cons {x : LvM} {r : List LvM} : heldL (x :: r) = x.1.length + heldL r := by simp [heldL]
theorem putL_ok {most : Nat} {lv : List LvM} {p v : Int} (O : OkL most lv) : OkL most (putL most lv p v).2 ∧ (putL most lv p v).2.length = lv.length := by
  cases lv with
  | nil => have := O.one; simp at this
  | cons x r =>
    unfold putL
    dsimp only
    split
    · exact ⟨O, rfl⟩
    · rename_i hp
      split
      · exact ⟨O, rfl⟩
      · rename_i h1
        have hh := O.held
        rw [heldL_cons] at hh
        refine ⟨⟨?_, O.le, ?_, ?_, by simp, O.deep⟩, rfl⟩
        · show heldL ((putC p v x.1, x.2) :: r) ≤ most
          rw [heldL_cons, putC_len]
          split
          · rename_i h2
            rw [heldL_cons] at h1
            have : ¬ most ≤ x.1.length + heldL r := fun h3 => h1 ⟨h2, h3⟩
            omega
          · exact hh
        · intro y hy
          rcases List.mem_cons.1 hy with rfl | hy
          · exact (O.ins x (List.mem_cons_self ..)).put (by omega)
          · exact O.ins y (List.mem_cons_of_mem _ hy)
        · intro y hy
          rcases List.mem_cons.1 hy with rfl | hy
          · exact (O.un x (List.mem_cons_self ..)).put
          · exact O.un y (List.mem_cons_of_mem _ hy)
theorem takeL_ok {most : Nat} {was : List LvM} (W : OkL most was) : ∀ {cs : List Cl} {lv : List LvM}, OkL most lv → lv.length = was.length → OkL most (takeL most was lv cs).2 ∧ (takeL most was lv cs).2.length = was.length := by
  intro cs
  induction cs with
  | nil => intro lv O hl; exact ⟨O, hl⟩
  | cons c cs ih =>
    intro lv O hl
    unfold takeL
    split
    · exact ih (putL_ok O).1 ((putL_ok O).2.trans hl)
    · exact ⟨W, rfl⟩
theorem dropL_ok {most : Nat} {lv : List LvM} (O : OkL most lv) : OkL most (dropL lv).2 := by
  unfold dropL
  split
  · exact O
  · rename_i h1
    cases lv with
    | nil => have := O.one; simp at this
    | cons x r =>
      have hh := O.held
      have h2 := O.deep
      rw [heldL_cons] at hh
      simp at h1 h2
      refine ⟨by show heldL r ≤ most; omega, O.le, fun y hy => O.ins y (List.mem_cons_of_mem _ hy), fun y hy => O.un y (List.mem_cons_of_mem _ hy), ?_, by show r.length ≤ 6; omega⟩
      show 1 ≤ r.length
      cases r with
      | nil => simp at h1
      | cons _ _ => simp
end Go.Proofs.YtcmjgcfkhommkaaGreatDoor
namespace Go.Proofs.YtcmjgcfkhommkaaGreatDoor
open Go Go.Ae
set_option maxRecDepth 100000

variable {g h : AH} {L R : List SP}

/-- a write set: room, cells -/
def WrC (w m : Nat) (l : List Cl) : SP := .ex fun v => .all [ObjC w [.int .i64 (m : Int), v], SliC 35 2 l.length v (l.flatMap encC)]
theorem WrC.E {w m : Nat} {l : List Cl} (H : HS g h (WrC w m l :: R)) : ∃ v, HS g h (ObjC w [.int .i64 (m : Int), v] :: SliC 35 2 l.length v (l.flatMap encC) :: R) := by
  obtain ⟨v, H⟩ := H.exE
  exact ⟨v, H.allE⟩
theorem WrC.I {w m : Nat} {l : List Cl} {v : AV} (H : HS g h (ObjC w [.int .i64 (m : Int), v] :: SliC 35 2 l.length v (l.flatMap encC) :: R)) : HS g h (WrC w m l :: R) :=
  HS.exI v (HS.allI H)

end Go.Proofs.YtcmjgcfkhommkaaGreatDoor
namespace Go.Proofs.YtcmjgcfkhommkaaGreatDoor
open Go Go.Ae
set_option maxRecDepth 100000

variable {g h : AH} {L R : List SP}

/-- a level: its write set, its frees -/
def LvC (a : Nat) (x : LvM) : SP := .ex fun w => .ex fun fv => .all [ObjC a [.ptr w 0, fv], WrC w 96 x.1, SliC 3 1 x.2.length fv (x.2.map (.int .i64))]
theorem LvC.E {a : Nat} {x : LvM} (H : HS g h (LvC a x :: R)) : ∃ w fv, HS g h (ObjC a [.ptr w 0, fv] :: WrC w 96 x.1 :: SliC 3 1 x.2.length fv (x.2.map (.int .i64)) :: R) := by
  obtain ⟨w, H⟩ := H.exE
  obtain ⟨fv, H⟩ := H.exE
  exact ⟨w, fv, H.allE⟩
theorem LvC.I {a w : Nat} {fv : AV} {x : LvM} (H : HS g h (ObjC a [.ptr w 0, fv] :: WrC w 96 x.1 :: SliC 3 1 x.2.length fv (x.2.map (.int .i64)) :: R)) : HS g h (LvC a x :: R) :=
  HS.exI w (HS.exI fv (HS.allI H))
def ptrsA (ps : List Nat) : List AV := ps.reverse.map fun a => .ptr a 0
/-- all levels, the inmost first -/
def LgC (q most : Nat) (lv : List LvM) : SP := .ex fun v => .ex fun ps : List Nat => .all (.pur (ps.length = lv.length) :: ObjC q [.int .i64 (most : Int), v] :: SliC 150 1 lv.length v (ptrsA ps) :: List.zipWith LvC ps lv)
theorem LgC.E {q most : Nat} {lv : List LvM} (H : HS g h (LgC q most lv :: R)) : ∃ v ps, ps.length = lv.length ∧ HS g h (ObjC q [.int .i64 (most : Int), v] :: SliC 150 1 lv.length v (ptrsA ps) :: (List.zipWith LvC ps lv ++ R)) := by
  obtain ⟨v, H⟩ := H.exE
  obtain ⟨ps, H⟩ := H.exE
  obtain ⟨e, H⟩ := HS.purE (H.allE)
  exact ⟨v, ps, e, H⟩
theorem LgC.I {q most : Nat} {lv : List LvM} {v : AV} {ps : List Nat} (e : ps.length = lv.length) (H : HS g h (ObjC q [.int .i64 (most : Int), v] :: SliC 150 1 lv.length v (ptrsA ps) :: (List.zipWith LvC ps lv ++ R))) : HS g h (LgC q most lv :: R) :=
  HS.exI v (HS.exI ps (HS.allI (HS.purI e H)))
/-- with its inmost one at hand -/
theorem LgC.E1 {q most : Nat} {x : LvM} {r : List LvM} (H : HS g h (LgC q most (x :: r) :: R)) : ∃ v a ps, ps.length = r.length ∧ HS g h (ObjC q [.int .i64 (most : Int), v] :: SliC 150 1 (r.length + 1) v (ptrsA (a :: ps)) :: LvC a x :: (List.zipWith LvC ps r ++ R)) := by
  obtain ⟨v, ps, e, H⟩ := LgC.E H
  cases ps with
  | nil => simp at e
  | cons a ps => exact ⟨v, a, ps, by simpa using e, H⟩
theorem OkL.len {most : Nat} {lv : List LvM} (O : OkL most lv) {x : LvM} (hx : x ∈ lv) : x.1.length ≤ 96 := by
  have h1 := O.held
  have h2 := O.le
  have : x.1.length ≤ heldL lv := by
    clear h1 O
    induction lv with
    | nil => cases hx
    | cons y r ih =>
      rw [heldL_cons]
      rcases List.mem_cons.1 hx with rfl | hx
      · omega
      · have := ih hx; omega
  omega

theorem putL_tail {most : Nat} {x : LvM} {r : List LvM} {p v : Int} : ∃ c, (putL most (x :: r) p v).2 = (c, x.2) :: r := by
  unfold putL
  dsimp only
  split
  · exact ⟨x.1, rfl⟩
  · split
    · exact ⟨x.1, rfl⟩
    · exact ⟨_, rfl⟩

end Go.Proofs.YtcmjgcfkhommkaaGreatDoor
namespace Go.Proofs.YtcmjgcfkhommkaaGreatDoor
open Go Go.Ae
set_option maxRecDepth 100000

variable {g h : AH} {L R : List SP}

/-- what is known, and what is to be written -/
structure VM where
  sz : Nat
  K : List Cl
  most : Nat
  lv : List LvM
  need : Int
structure OkV (M : VM) : Prop where
  lo : 32 ≤ M.sz
  hi : M.sz ≤ 256
  lvs : OkL M.most M.lv
  ins : ∀ c ∈ M.K, 1 ≤ c.1 ∧ c.1 < M.sz
  un : UnC M.K
  fr : ∀ x ∈ M.lv, x.2.length < 100000
def readV (M : VM) (p : Int) : (Int × Int) × VM :=
  if 1 ≤ p ∧ p < M.sz then match getL p M.lv with
    | some x => ((x, 0), M)
    | none => match getC p M.K with
      | some x => ((x, 0), M)
      | none => ((0, 11), { M with need := p })
  else ((0, 2), M)
def takeV (M : VM) (cs : List Cl) : Int × VM :=
  if ∀ c ∈ cs, 1 ≤ c.1 ∧ c.1 < M.sz then ((takeL M.most M.lv M.lv cs).1, { M with lv := (takeL M.most M.lv M.lv cs).2 }) else (2, M)
def dropV (M : VM) : Int × VM := ((dropL M.lv).1, { M with lv := (dropL M.lv).2 })
/-- different numbers below n: at most n -/
theorem nodup_le : ∀ (n : Nat) (l : List Int), l.Nodup → (∀ x ∈ l, 0 ≤ x ∧ x < n) → l.length ≤ n := by
  intro n
  induction n with
  | zero =>
    intro l _ h
    cases l with
    | nil => exact Nat.le_refl _
    | cons x l => have := h x (List.mem_cons_self ..); omega
  | succ n ih =>
    intro l hd h
    by_cases hx : (n : Int) ∈ l
    · have := ih (l.erase n) (hd.erase _) (fun x hx' => by
        have h1 := h x (List.mem_of_mem_erase hx')
        have h2 : x ≠ n := by rintro rfl; exact (List.Nodup.not_mem_erase hd) hx'
        omega)
      rw [List.length_erase_of_mem hx] at this
      omega
    · have := ih l hd (fun x hx' => by
        have h1 := h x hx'
        have h2 : x ≠ n := by rintro rfl; exact hx hx'
        omega)
      omega
def encF (f : Int × Bool) : List AV := [.int .u64 f.1, .bool f.2]
def factM (K : List Cl) (i : Nat) : Int × Bool := match getC (i : Int) K with | some x => (x, true) | none => (0, false)
def factsM (sz : Nat) (K : List Cl) : List (Int × Bool) := (List.range sz).map (factM K)
theorem enc_row {α : Type} {sz : Nat} {enc : α → List AV} (he : ∀ a, (enc a).length = sz) {l : List α} {i : Nat} {a : α} (h : l[i]? = some a) : ((l.flatMap enc).drop (i * sz)).take sz = enc a := by
  obtain ⟨hi, e⟩ := List.getElem?_eq_some_iff.1 h
  rw [flat_drop (sz := sz) enc he, List.drop_eq_getElem_cons hi, e, List.flatMap_cons, ← he a, List.take_left]
def ViewC (v : Nat) (M : VM) : SP := .ex fun fv => .ex fun ov => .ex fun q => .ex fun e => .all [ObjC v [fv, ov, .ptr q 0, .int .i64 M.need], SliC e 2 M.sz fv ((factsM M.sz M.K).flatMap encF),
  SliC 3 1 M.K.length ov (M.K.map fun c => .int .i64 c.1), LgC q M.most M.lv]
theorem ViewC.E {v : Nat} {M : VM} (H : HS g h (ViewC v M :: R)) : ∃ fv ov q e, HS g h (ObjC v [fv, ov, .ptr q 0, .int .i64 M.need] :: SliC e 2 M.sz fv ((factsM M.sz M.K).flatMap encF) ::
    SliC 3 1 M.K.length ov (M.K.map fun c => .int .i64 c.1) :: LgC q M.most M.lv :: R) := by
  obtain ⟨fv, H⟩ := H.exE
  obtain ⟨ov, H⟩ := H.exE
  obtain ⟨q, H⟩ := H.exE
  obtain ⟨e, H⟩ := H.exE
  exact ⟨fv, ov, q, e, H.allE⟩
theorem ViewC.I {v : Nat} {M : VM} {fv ov : AV} {q : Nat} {e : TypeId} (H : HS g h (ObjC v [fv, ov, .ptr q 0, .int .i64 M.need] :: SliC e 2 M.sz fv ((factsM M.sz M.K).flatMap encF) ::
    SliC 3 1 M.K.length ov (M.K.map fun c => .int .i64 c.1) :: LgC q M.most M.lv :: R)) : HS g h (ViewC v M :: R) :=
  HS.exI fv (HS.exI ov (HS.exI q (HS.exI e (HS.allI H))))

def szZ (n : Int) : Nat := (max 32 (min n 256)).toNat
theorem readV_ok {M : VM} {p : Int} (O : OkV M) : OkV (readV M p).2 := by
  unfold readV
  repeat' split
  all_goals exact ⟨O.lo, O.hi, O.lvs, O.ins, O.un, O.fr⟩
theorem putL_fr {most : Nat} {lv : List LvM} {p v : Int} {n : Nat} (h : ∀ x ∈ lv, x.2.length < n) : ∀ x ∈ (putL most lv p v).2, x.2.length < n := by
  cases lv with
  | nil => exact h
  | cons y r =>
    obtain ⟨c, hc⟩ := putL_tail (most := most) (x := y) (r := r) (p := p) (v := v)
    rw [hc]
    intro x hx
    rcases List.mem_cons.1 hx with rfl | hx
    · exact h y (List.mem_cons_self ..)
    · exact h x (List.mem_cons_of_mem _ hx)
theorem takeL_fr {most : Nat} {was : List LvM} {n : Nat} (hw : ∀ x ∈ was, x.2.length < n) : ∀ {cs : List Cl} {lv : List LvM}, (∀ x ∈ lv, x.2.length < n) → ∀ x ∈ (takeL most was lv cs).2, x.2.length < n := by
  intro cs
  induction cs with
  | nil => intro lv h; exact h
  | cons c cs ih =>
    intro lv h
    rw [takeL_cons]
    split
    · exact ih (putL_fr h)
    · exact hw
theorem takeV_ok {M : VM} {cs : List Cl} (O : OkV M) : OkV (takeV M cs).2 := by
  unfold takeV
  split
  · exact ⟨O.lo, O.hi, (takeL_ok O.lvs O.lvs rfl).1, O.ins, O.un, takeL_fr O.fr O.fr⟩
  · exact O
/-- all words are known -/
def wordAt (zs : List Int) (i : Nat) : Int := zs[i]?.getD 0
def kW (zs : List Int) : List Cl := (List.range (szZ zs.length - 1)).map fun i => (((i + 1 : Nat) : Int), wordAt zs (i + 1))
def wholeV (zs : List Int) (most : Int) : VM := ⟨szZ zs.length, kW zs, (max 0 (min most 96)).toNat, [([], [])], 0⟩
end Go.Proofs.YtcmjgcfkhommkaaGreatDoor
namespace Go.Proofs.YtcmjgcfkhommkaaGreatDoor
open Go Go.Ae
set_option maxRecDepth 100000

variable {g h : AH} {L R : List SP}

def sizeA (x : Int) : Int := if x = 1 then 2 else if x = 2 then 4 else if x = 3 then 8 else if x = 4 then 16 else 0
def classA (x : Int) : Int := if x < 1 then 0 else if x ≤ 2 then 1 else if x ≤ 4 then 2 else if x ≤ 8 then 3 else if x ≤ 16 then 4 else 0
theorem sizeA_b (x : Int) : 0 ≤ sizeA x ∧ sizeA x ≤ 16 := by unfold sizeA; repeat' split <;> omega
theorem classA_b (x : Int) : 0 ≤ classA x ∧ classA x ≤ 4 := by unfold classA; repeat' split <;> omega

/-- words are never below 0 -/
structure WdV (M : VM) : Prop where
  k : ∀ c ∈ M.K, 0 ≤ c.2 ∧ c.2 < 18446744073709551616
  l : ∀ x ∈ M.lv, ∀ c ∈ x.1, 0 ≤ c.2 ∧ c.2 < 18446744073709551616
theorem getC_prop {P : Int → Prop} {p x : Int} : ∀ {l : List Cl}, (∀ c ∈ l, P c.2) → getC p l = some x → P x := by
  intro l
  induction l with
  | nil => intro _ h; cases h
  | cons c l ih =>
    intro h e
    unfold getC at e
    split at e
    · cases e; exact h c (List.mem_cons_self ..)
    · exact ih (fun d hd => h d (List.mem_cons_of_mem _ hd)) e
theorem getL_prop {P : Int → Prop} {p x : Int} : ∀ {lv : List LvM}, (∀ y ∈ lv, ∀ c ∈ y.1, P c.2) → getL p lv = some x → P x := by
  intro lv
  induction lv with
  | nil => intro _ h; cases h
  | cons y r ih =>
    intro h e
    unfold getL at e
    split at e
    · rename_i v hv
      cases e; exact getC_prop (h y (List.mem_cons_self ..)) hv
    · exact ih (fun z hz => h z (List.mem_cons_of_mem _ hz)) e
theorem WdV.read {M : VM} {p : Int} (W : WdV M) : 0 ≤ (readV M p).1.1 ∧ (readV M p).1.1 < 18446744073709551616 := by
  unfold readV
  split
  · split
    · rename_i x hx
      exact getL_prop (P := fun x => 0 ≤ x ∧ x < 18446744073709551616) W.l hx
    · split
      · rename_i x hx
        exact getC_prop (P := fun x => 0 ≤ x ∧ x < 18446744073709551616) W.k hx
      · show (0 : Int) ≤ 0 ∧ (0 : Int) < 18446744073709551616; omega
  · show (0 : Int) ≤ 0 ∧ (0 : Int) < 18446744073709551616; omega
theorem WdV.read2 {M : VM} {p : Int} (W : WdV M) : WdV (readV M p).2 := by
  unfold readV
  repeat' split
  all_goals exact ⟨W.k, W.l⟩
def WdC (cs : List Cl) : Prop := ∀ c ∈ cs, 0 ≤ c.2 ∧ c.2 < 18446744073709551616
theorem WdC.put {l : List Cl} {p v : Int} (h : WdC l) (hv : 0 ≤ v ∧ v < 18446744073709551616) : WdC (putC p v l) := by
  induction l with
  | nil => intro c hc; simp [putC] at hc; subst hc; exact hv
  | cons a l ih =>
    unfold putC
    split
    · intro c hc
      rcases List.mem_cons.1 hc with rfl | hc
      · exact hv
      · exact h c (List.mem_cons_of_mem _ hc)
    · intro c hc
      rcases List.mem_cons.1 hc with rfl | hc
      · exact h _ (List.mem_cons_self ..)
      · exact ih (fun c hc => h c (List.mem_cons_of_mem _ hc)) c hc
theorem takeL_wd {most : Nat} {was : List LvM} (hw : ∀ x ∈ was, WdC x.1) : ∀ {cs : List Cl} {lv : List LvM}, WdC cs → (∀ x ∈ lv, WdC x.1) → ∀ x ∈ (takeL most was lv cs).2, WdC x.1 := by
  intro cs
  induction cs with
  | nil => intro lv _ h; exact h
  | cons c cs ih =>
    intro lv hc h
    rw [takeL_cons]
    split
    · refine ih (fun d hd => hc d (List.mem_cons_of_mem _ hd)) ?_
      cases lv with
      | nil => exact h
      | cons y r =>
        unfold putL
        dsimp only
        split
        · exact h
        · split
          · exact h
          · intro x hx
            rcases List.mem_cons.1 hx with rfl | hx
            · exact (show WdC y.1 from h y (List.mem_cons_self ..)).put (hc c (List.mem_cons_self ..))
            · exact h x (List.mem_cons_of_mem _ hx)
    · exact hw
theorem WdV.take {M : VM} {cs : List Cl} (W : WdV M) (hc : WdC cs) : WdV (takeV M cs).2 := by
  unfold takeV
  split
  · exact ⟨W.k, takeL_wd W.l hc W.l⟩
  · exact W

/-! ### what is done on a view -/
def againV (M : VM) (c b : Int) : (Int × Int) × VM :=
  if 2147483648 ≤ b then ((0, 2), M) else
  if (readV M b).1.2 = 0 then
    (if (takeV (readV M b).2 [(c, (readV M b).1.1), (b - 1, c + 8)]).1 = 0 then ((b, 0), (takeV (readV M b).2 [(c, (readV M b).1.1), (b - 1, c + 8)]).2)
      else ((0, (takeV (readV M b).2 [(c, (readV M b).1.1), (b - 1, c + 8)]).1), (takeV (readV M b).2 [(c, (readV M b).1.1), (b - 1, c + 8)]).2))
  else ((0, (readV M b).1.2), (readV M b).2)
def grownV (M : VM) (c : Int) : (Int × Int) × VM :=
  if (readV M 5).1.2 = 0 then
    (if (readV M 5).1.1 < 14 ∨ 2147483648 ≤ (readV M 5).1.1 ∨ (M.sz : Int) < (readV M 5).1.1 + 1 + sizeA c then ((0, 4), (readV M 5).2)
      else if (takeV (readV M 5).2 [(5, (readV M 5).1.1 + 1 + sizeA c), ((readV M 5).1.1, c + 8)]).1 = 0 then (((readV M 5).1.1 + 1, 0), (takeV (readV M 5).2 [(5, (readV M 5).1.1 + 1 + sizeA c), ((readV M 5).1.1, c + 8)]).2)
      else ((0, (takeV (readV M 5).2 [(5, (readV M 5).1.1 + 1 + sizeA c), ((readV M 5).1.1, c + 8)]).1), (takeV (readV M 5).2 [(5, (readV M 5).1.1 + 1 + sizeA c), ((readV M 5).1.1, c + 8)]).2))
  else ((0, (readV M 5).1.2), (readV M 5).2)
def allocV (M : VM) (n : Int) : (Int × Int) × VM :=
  if classA n = 0 then ((0, 3), M) else
  if (readV M (classA n)).1.2 = 0 then
    (if (readV M (classA n)).1.1 = 0 then grownV (readV M (classA n)).2 (classA n) else againV (readV M (classA n)).2 (classA n) (readV M (classA n)).1.1)
  else ((0, (readV M (classA n)).1.2), (readV M (classA n)).2)
def headA (w : Int) : Int × Bool := if 1 ≤ w ∧ w ≤ 4 then (w, false) else if 9 ≤ w ∧ w ≤ 12 then (w - 8, true) else (0, false)
def askV (M : VM) (b : Int) : (Int × Bool × Int) × VM :=
  if b ≤ 14 ∨ M.sz ≤ b then ((0, false, 2), M) else
  if (readV M (b - 1)).1.2 = 0 then
    (if (headA (readV M (b - 1)).1.1).1 = 0 then ((0, false, 2), (readV M (b - 1)).2) else (((headA (readV M (b - 1)).1.1).1, (headA (readV M (b - 1)).1.1).2, 0), (readV M (b - 1)).2))
  else ((0, false, (readV M (b - 1)).1.2), (readV M (b - 1)).2)
theorem headA_b (w : Int) : 0 ≤ (headA w).1 ∧ (headA w).1 ≤ 4 := by
  unfold headA
  repeat' split
  all_goals dsimp only
  all_goals omega
theorem askV_ok {M : VM} {b : Int} (O : OkV M) : OkV (askV M b).2 := by
  unfold askV
  split
  · exact O
  · split
    · split <;> exact readV_ok O
    · exact readV_ok O
theorem askV_wd {M : VM} {b : Int} (O : WdV M) : WdV (askV M b).2 := by
  unfold askV
  split
  · exact O
  · split
    · split <;> exact O.read2
    · exact O.read2
/-! ### the walks -/
theorem asize_ok {n : Nat} (hn : 1 ≤ n) {x : Int} : wp (callT tab rtab n (.fn 21 [] []) [.int .i64 x] h) fun v h' => v = .int .i64 (sizeA x) ∧ h' = h := by
  (refine ww_fn (g := W21) rfl (by omega) fun k hk => ?_; show wp (S21 (callT tab rtab k) _ _) _; unfold S21; try simp only [Int.ofNat_eq_natCast])
  repeat' (first | with_reducible refine ww_condT ?_ | with_reducible refine ww_condF ?_ | (with_reducible refine ww_wantTT ?_; try dsimp only) | (with_reducible refine ww_wantTF ?_; try dsimp only) | (with_reducible refine ww_wantFT ?_; try dsimp only) | (with_reducible refine ww_wantFF ?_; try dsimp only) | (with_reducible refine ww_wantU ?_; try dsimp only) | with_reducible refine ww_pickT ?_ | with_reducible refine ww_pickF ?_ | (with_reducible refine ww_joinS ?_; try dsimp only) | with_reducible refine ww_leave ?_ | with_reducible refine ww_notT ?_ | with_reducible refine ww_notF ?_ | with_reducible refine ww_addI (by omega) ?_ | with_reducible refine ww_subI (by omega) ?_ | with_reducible refine ww_addU (by omega) ?_ | with_reducible refine ww_subU (by omega) ?_ | with_reducible refine ww_min ?_ | with_reducible refine ww_max ?_ | with_reducible refine ww_lssC (fun hc => ?_) (fun hc => ?_) | with_reducible refine ww_leqC (fun hc => ?_) (fun hc => ?_) | with_reducible refine ww_gtrC (fun hc => ?_) (fun hc => ?_) | with_reducible refine ww_geqC (fun hc => ?_) (fun hc => ?_) | with_reducible refine ww_eqlC (fun hc => ?_) (fun hc => ?_) | with_reducible refine ww_neqC (fun hc => ?_) (fun hc => ?_) | with_reducible refine ww_condB (fun hc => ?_) (fun hc => ?_))
  · refine ww_ret ⟨?_, rfl⟩
    unfold sizeA; congr 1; repeat' split <;> omega
  · refine ww_ret ⟨?_, rfl⟩
    unfold sizeA; congr 1; repeat' split <;> omega
  · refine ww_shl (by omega) ?_
    refine ww_ret ⟨?_, rfl⟩
    rcases (show x = 1 ∨ x = 2 ∨ x = 3 ∨ x = 4 by omega) with rfl | rfl | rfl | rfl <;> rfl
theorem ahead_ok {n : Nat} (hn : 1 ≤ n) {c : Int} (hc : 0 ≤ c ∧ c ≤ 4) : wp (callT tab rtab n (.fn 33 [] []) [.int .i64 c] h) fun v h' => v = .int .i64 c ∧ h' = h := by
  (refine ww_fn (g := W33) rfl (by omega) fun k hk => ?_; show wp (S33 (callT tab rtab k) _ _) _; unfold S33; try simp only [Int.ofNat_eq_natCast])
  with_reducible (refine ww_addI (by omega) ?_)
  exact ww_ret ⟨by congr 1; omega, rfl⟩
theorem aheader_ok {n : Nat} (hn : 1 ≤ n) {w : Int} : wp (callT tab rtab n (.fn 32 [] []) [.int .u64 w] h) fun v h' => v = .tup [.int .i64 (headA w).1, .bool (headA w).2] ∧ h' = h := by
  (refine ww_fn (g := W32) rfl (by omega) fun k hk => ?_; show wp (S32 (callT tab rtab k) _ _) _; unfold S32; try simp only [Int.ofNat_eq_natCast])
  unfold headA
  by_cases h1 : 1 ≤ w ∧ w ≤ 4
  · rw [if_pos h1]
    with_reducible (refine ww_geqT (by omega) ?_; refine ww_joinS ?_; (try dsimp only); refine ww_wantTT ?_; (try dsimp only); refine ww_leqT (by omega) ?_; refine ww_pickT ?_; refine ww_condT ?_; refine ww_convII (by omega) ?_)
    exact ww_ret ⟨rfl, rfl⟩
  · rw [if_neg h1]
    by_cases h2 : 9 ≤ w ∧ w ≤ 12
    · rw [if_pos h2]
      with_reducible (refine ww_geqT (by omega) ?_; refine ww_joinS ?_; (try dsimp only); refine ww_wantTT ?_; (try dsimp only); refine ww_leqF (by omega) ?_; refine ww_pickT ?_; refine ww_condF ?_; refine ww_geqT (by omega) ?_; refine ww_joinS ?_; (try dsimp only); refine ww_wantTT ?_; (try dsimp only); refine ww_leqT (by omega) ?_; refine ww_pickT ?_; refine ww_condT ?_; refine ww_subU (by omega) ?_; refine ww_convII (by omega) ?_)
      exact ww_ret ⟨rfl, rfl⟩
    · rw [if_neg h2]
      repeat' (first | with_reducible refine ww_condT ?_ | with_reducible refine ww_condF ?_ | (with_reducible refine ww_wantTT ?_; try dsimp only) | (with_reducible refine ww_wantTF ?_; try dsimp only) | (with_reducible refine ww_wantFT ?_; try dsimp only) | (with_reducible refine ww_wantFF ?_; try dsimp only) | (with_reducible refine ww_wantU ?_; try dsimp only) | with_reducible refine ww_pickT ?_ | with_reducible refine ww_pickF ?_ | (with_reducible refine ww_joinS ?_; try dsimp only) | with_reducible refine ww_leave ?_ | with_reducible refine ww_notT ?_ | with_reducible refine ww_notF ?_ | with_reducible refine ww_addI (by omega) ?_ | with_reducible refine ww_subI (by omega) ?_ | with_reducible refine ww_addU (by omega) ?_ | with_reducible refine ww_subU (by omega) ?_ | with_reducible refine ww_min ?_ | with_reducible refine ww_max ?_ | with_reducible refine ww_eqlT (by omega) ?_ | with_reducible refine ww_eqlF (by omega) ?_ | with_reducible refine ww_neqT (by omega) ?_ | with_reducible refine ww_neqF (by omega) ?_ | with_reducible refine ww_lssT (by omega) ?_ | with_reducible refine ww_lssF (by omega) ?_ | with_reducible refine ww_leqT (by omega) ?_ | with_reducible refine ww_leqF (by omega) ?_ | with_reducible refine ww_gtrT (by omega) ?_ | with_reducible refine ww_gtrF (by omega) ?_ | with_reducible refine ww_geqT (by omega) ?_ | with_reducible refine ww_geqF (by omega) ?_ | with_reducible refine ww_lssC (fun hc => ?_) (fun hc => ?_) | with_reducible refine ww_leqC (fun hc => ?_) (fun hc => ?_) | with_reducible refine ww_gtrC (fun hc => ?_) (fun hc => ?_) | with_reducible refine ww_geqC (fun hc => ?_) (fun hc => ?_) | with_reducible refine ww_eqlC (fun hc => ?_) (fun hc => ?_) | with_reducible refine ww_neqC (fun hc => ?_) (fun hc => ?_) | with_reducible refine ww_condB (fun hc => ?_) (fun hc => ?_))
      all_goals exact ww_ret ⟨rfl, rfl⟩

end Go.Proofs.YtcmjgcfkhommkaaGreatDoor
namespace Go.Proofs.YtcmjgcfkhommkaaGreatDoor
open Go Go.Ae

abbrev BlkT : Type := Int × Int × Bool
def encB (b : BlkT) : List AV := [.int .i64 b.1, .int .i64 b.2.1, .bool b.2.2]
theorem sizeA_pos {x : Int} (h : 1 ≤ x ∧ x ≤ 4) : 2 ≤ sizeA x := by unfold sizeA; repeat' split <;> omega
theorem sizeA_zero {x : Int} (h : ¬ (1 ≤ x ∧ x ≤ 4)) : sizeA x = 0 := by unfold sizeA; repeat' split <;> omega

def hd (ws : List Int) (a : Int) : Int × Bool := headA (wordAt ws a.toNat)
def parseM (ws : List Int) (e : Int) : Nat → Int → List BlkT → Option (List BlkT)
  | 0, _, _ => none
  | m + 1, a, acc => if e ≤ a then some acc else
      if (hd ws a).1 = 0 ∨ e < a + 1 + sizeA (hd ws a).1 then none
      else parseM ws e m (a + 1 + sizeA (hd ws a).1) (acc ++ [(a + 1, (hd ws a).1, (hd ws a).2)])
theorem parseM_s {ws : List Int} {e : Int} {m : Nat} {a : Int} {acc : List BlkT} : parseM ws e (m + 1) a acc = if e ≤ a then some acc else
      if (hd ws a).1 = 0 ∨ e < a + 1 + sizeA (hd ws a).1 then none
      else parseM ws e m (a + 1 + sizeA (hd ws a).1) (acc ++ [(a + 1, (hd ws a).1, (hd ws a).2)]) := rfl
def blocksM (ws : List Int) : Option (List BlkT) :=
  if ws.length < 32 ∨ 256 < ws.length ∨ wordAt ws 5 < 14 ∨ (ws.length : Int) < wordAt ws 5 then none else parseM ws (wordAt ws 5) 301 14 []

/-- what stands at each one's place -/
def BlkOk (n : Nat) (bs : List BlkT) : Prop := ∀ b ∈ bs, 15 ≤ b.1 ∧ b.1 < n
theorem parseM_ok {ws : List Int} {e : Int} {n : Nat} (he : e ≤ n) : ∀ m a acc bs, 14 ≤ a → BlkOk n acc → parseM ws e m a acc = some bs → BlkOk n bs := by
  intro m
  induction m with
  | zero => intro a acc bs _ _ h; cases h
  | succ m ih =>
    intro a acc bs ha hk h
    rw [parseM_s] at h
    split at h
    · cases h; exact hk
    · rename_i h1
      split at h
      · cases h
      · rename_i h2
        have hb := headA_b (wordAt ws a.toNat)
        have hp : ¬ (hd ws a).1 = 0 := fun hh => h2 (.inl hh)
        have hs := sizeA_pos (x := (hd ws a).1) (by unfold hd at *; omega)
        refine ih _ _ _ (by omega) ?_ h
        intro b hb
        rcases List.mem_append.1 hb with hb | hb
        · exact hk b hb
        · rw [List.mem_singleton] at hb
          subst hb
          dsimp only
          omega
theorem blocksM_ok {ws : List Int} {bs : List BlkT} (h : blocksM ws = some bs) : BlkOk ws.length bs ∧ 32 ≤ ws.length ∧ ws.length ≤ 256 := by
  unfold blocksM at h
  split at h
  · cases h
  · rename_i h1
    exact ⟨parseM_ok (by omega) _ _ _ _ (by omega) (fun b hb => by cases hb) h, by omega, by omega⟩

def rowM (ws : List Int) (bs : List BlkT) (c : Int) : Nat → Int → List Int → Option (List Int)
  | 0, _, _ => none
  | m + 1, w, acc => if w = 0 then some acc else if (w, c, false) ∈ bs ∧ w ∉ acc then rowM ws bs c m (wordAt ws w.toNat) (acc ++ [w]) else none
theorem rowM_s {ws : List Int} {bs : List BlkT} {c : Int} {m : Nat} {w : Int} {acc : List Int} : rowM ws bs c (m + 1) w acc = if w = 0 then some acc else if (w, c, false) ∈ bs ∧ w ∉ acc then rowM ws bs c m (wordAt ws w.toNat) (acc ++ [w]) else none := rfl
def rowsM (ws : List Int) (bs : List BlkT) : Nat → Int → List (List Int) → Option (List (List Int))
  | 0, _, ls => some ls
  | k + 1, c, ls => (rowM ws bs c 301 (wordAt ws c.toNat) []).bind fun r => rowsM ws bs k (c + 1) (ls ++ [r])
def listsM (ws : List Int) : Option (List (List Int)) := (blocksM ws).bind fun bs => rowsM ws bs 4 1 []
end Go.Proofs.YtcmjgcfkhommkaaGreatDoor
namespace Go.Proofs.YtcmjgcfkhommkaaGreatDoor
open Go Go.Ae
set_option maxRecDepth 100000

variable {g h : AH} {L R : List SP}

theorem Sel.app {A A' : List SP} {P : SP} (s : Sel A P A') (R : List SP) : Sel (A ++ R) P (A' ++ R) := by
  induction s with
  | here => exact .here
  | there s ih => exact .there ih
/-! ### levels -/
def RlC (p : AV × AV) (x : LvM) : SP := .all [SliC 35 2 x.1.length p.1 (x.1.flatMap encC), SliC 3 1 x.2.length p.2 (x.2.map (.int .i64))]
theorem RlC.E {p : AV × AV} {x : LvM} (H : HS g h (RlC p x :: R)) : HS g h (SliC 35 2 x.1.length p.1 (x.1.flatMap encC) :: SliC 3 1 x.2.length p.2 (x.2.map (.int .i64)) :: R) := H.allE
theorem RlC.I {p : AV × AV} {x : LvM} (H : HS g h (SliC 35 2 x.1.length p.1 (x.1.flatMap encC) :: SliC 3 1 x.2.length p.2 (x.2.map (.int .i64)) :: R)) : HS g h (RlC p x :: R) := H.allI
def cellsR (ps : List (AV × AV)) : List AV := ps.reverse.flatMap fun p => [p.1, p.2]
end Go.Proofs.YtcmjgcfkhommkaaGreatDoor
namespace Go.Proofs.YtcmjgcfkhommkaaGreatDoor
open Go Go.Ae
set_option maxRecDepth 100000

variable {g h : AH} {L R : List SP}

def frS (lv : List LvM) : Nat := (lv.map fun x => x.2.length).sum
theorem frS_cons (x : LvM) (r : List LvM) : frS (x :: r) = x.2.length + frS r := by simp [frS]
/-! ### views -/
end Go.Proofs.YtcmjgcfkhommkaaGreatDoor
namespace Go.Proofs.YtcmjgcfkhommkaaGreatDoor
open Go Go.Ae
set_option maxRecDepth 100000

variable {g h : AH} {L R : List SP}

theorem rsize_ok {n : Nat} (hn : 1 ≤ n) {x : Int} : wp (callT tab rtab n (.fn 24 [] []) [.int .i64 x] h) fun v h' => v = .int .i64 (sizeA x) ∧ h' = h := by
  (refine ww_fn (g := W24) rfl (by omega) fun k hk => ?_; show wp (S24 (callT tab rtab k) _ _) _; unfold S24; try simp only [Int.ofNat_eq_natCast])
  repeat' (first | with_reducible refine ww_condT ?_ | with_reducible refine ww_condF ?_ | (with_reducible refine ww_wantTT ?_; try dsimp only) | (with_reducible refine ww_wantTF ?_; try dsimp only) | (with_reducible refine ww_wantFT ?_; try dsimp only) | (with_reducible refine ww_wantFF ?_; try dsimp only) | (with_reducible refine ww_wantU ?_; try dsimp only) | with_reducible refine ww_pickT ?_ | with_reducible refine ww_pickF ?_ | (with_reducible refine ww_joinS ?_; try dsimp only) | with_reducible refine ww_leave ?_ | with_reducible refine ww_notT ?_ | with_reducible refine ww_notF ?_ | with_reducible refine ww_addI (by omega) ?_ | with_reducible refine ww_subI (by omega) ?_ | with_reducible refine ww_addU (by omega) ?_ | with_reducible refine ww_subU (by omega) ?_ | with_reducible refine ww_min ?_ | with_reducible refine ww_max ?_ | with_reducible refine ww_lssC (fun hc => ?_) (fun hc => ?_) | with_reducible refine ww_leqC (fun hc => ?_) (fun hc => ?_) | with_reducible refine ww_gtrC (fun hc => ?_) (fun hc => ?_) | with_reducible refine ww_geqC (fun hc => ?_) (fun hc => ?_) | with_reducible refine ww_eqlC (fun hc => ?_) (fun hc => ?_) | with_reducible refine ww_neqC (fun hc => ?_) (fun hc => ?_) | with_reducible refine ww_condB (fun hc => ?_) (fun hc => ?_))
  · refine ww_ret ⟨?_, rfl⟩
    unfold sizeA; congr 1; repeat' split <;> omega
  · refine ww_ret ⟨?_, rfl⟩
    unfold sizeA; congr 1; repeat' split <;> omega
  · refine ww_convIU (by omega) (ww_shl (by omega) ?_)
    refine ww_ret ⟨?_, rfl⟩
    rcases (show x = 1 ∨ x = 2 ∨ x = 3 ∨ x = 4 by omega) with rfl | rfl | rfl | rfl <;> rfl
theorem rplaceA_ok {n : Nat} (hn : 1 ≤ n) {w : Int} (hw : 0 ≤ w) : wp (callT tab rtab n (.fn 37 [] []) [.int .u64 w] h) fun v h' => v = .int .i64 (if 2147483648 ≤ w then -1 else w) ∧ h' = h := by
  (refine ww_fn (g := W37) rfl (by omega) fun k hk => ?_; show wp (S37 (callT tab rtab k) _ _) _; unfold S37; try simp only [Int.ofNat_eq_natCast])
  by_cases h1 : 2147483648 ≤ w
  · rw [if_pos h1]
    with_reducible (refine ww_geqT (by omega) ?_; refine ww_condT ?_)
    exact ww_ret ⟨rfl, rfl⟩
  · rw [if_neg h1]
    with_reducible (refine ww_geqF (by omega) ?_; refine ww_condF ?_; refine ww_convII (by omega) ?_)
    exact ww_ret ⟨rfl, rfl⟩

/-! the same as by the program -/
end Go.Proofs.YtcmjgcfkhommkaaGreatDoor
namespace Go.Proofs.YtcmjgcfkhommkaaGreatDoor
open Go Go.Ae
set_option maxRecDepth 100000

variable {g h : AH} {L R : List SP}

/-- blocks that were told: none, or their row -/
def BlsC (v : AV) (o : Option (List BlkT)) : SP := match o with
  | none => .pur (v = .nils)
  | some bs => SliC 76 3 bs.length v (bs.flatMap encB)

theorem wordAt_get {zs : List Int} {i : Nat} (hi : i < zs.length) : (zs.map (AV.int .u64))[i]? = some (.int .u64 (wordAt zs i)) := by
  unfold wordAt
  rw [List.getElem?_map, List.getElem?_eq_getElem hi]; rfl
theorem wordAt_b {zs : List Int} (hz : ∀ z ∈ zs, 0 ≤ z ∧ z < 18446744073709551616) (i : Nat) : 0 ≤ wordAt zs i ∧ wordAt zs i < 18446744073709551616 := by
  unfold wordAt
  cases h : zs[i]? with
  | none => simp
  | some z => exact hz z (List.mem_of_getElem? h)

theorem ablocks_ok {n : Nat} (hn : 3 ≤ n) {zs : List Int} {a0 : AV} (H : HS g h R) (S : Rd g R 1 zs.length a0 (zs.map (.int .u64))) (hz : ∀ z ∈ zs, 0 ≤ z ∧ z < 18446744073709551616) :
    wp (callT tab rtab n (.fn 19 [] []) [a0] h) fun r h' => ∃ v, r = .tup [v, .int .i64 (if (blocksM zs).isSome then 0 else 12)] ∧ HS g h' (BlsC v (blocksM zs) :: R) := by
  (refine ww_fn (g := W19) rfl (by omega) fun k hk => ?_; show wp (S19 (callT tab rtab k) _ _) _; unfold S19; try simp only [Int.ofNat_eq_natCast])
  have h5 := wordAt_b hz 5
  have hBM : blocksM zs = if zs.length < 32 ∨ 256 < zs.length ∨ wordAt zs 5 < 14 ∨ (zs.length : Int) < wordAt zs 5 then none else parseM zs (wordAt zs 5) 301 14 [] := rfl
  generalize blocksM zs = oB at *
  refine ww_len (S.sl H) ?_
  by_cases c1 : zs.length < 32
  · rw [if_pos (.inl c1)] at hBM
    subst hBM
    with_reducible (refine ww_lssT (by omega) ?_; refine ww_joinS ?_; (try dsimp only); refine ww_wantTF ?_; (try dsimp only); refine ww_pickT ?_; refine ww_joinS ?_; (try dsimp only); refine ww_wantTF ?_; (try dsimp only); refine ww_pickT ?_; refine ww_joinS ?_; (try dsimp only); refine ww_wantTF ?_; (try dsimp only); refine ww_pickT ?_; refine ww_condT ?_)
    exact ww_ret ⟨.nils, rfl, H.purI rfl⟩
  by_cases c2 : 256 < zs.length
  · rw [if_pos (.inr (.inl c2))] at hBM
    subst hBM
    with_reducible (refine ww_lssF (by omega) ?_; refine ww_joinS ?_; (try dsimp only); refine ww_wantFF ?_; (try dsimp only); refine ww_gtrT (by omega) ?_; refine ww_pickF ?_; refine ww_joinS ?_; (try dsimp only); refine ww_wantTF ?_; (try dsimp only); refine ww_pickT ?_; refine ww_joinS ?_; (try dsimp only); refine ww_wantTF ?_; (try dsimp only); refine ww_pickT ?_; refine ww_condT ?_)
    exact ww_ret ⟨.nils, rfl, H.purI rfl⟩
  with_reducible (refine ww_lssF (by omega) ?_; refine ww_joinS ?_; (try dsimp only); refine ww_wantFF ?_; (try dsimp only); refine ww_gtrF (by omega) ?_; refine ww_pickF ?_; refine ww_joinS ?_; (try dsimp only); refine ww_wantFF ?_; (try dsimp only))
  refine ww_idx1 (i := 5) (S.sl H) (wordAt_get (by omega)) ?_
  by_cases c3 : wordAt zs 5 < 14
  · rw [if_pos (.inr (.inr (.inl c3)))] at hBM
    subst hBM
    with_reducible (refine ww_lssT (by omega) ?_; refine ww_pickF ?_; refine ww_joinS ?_; (try dsimp only); refine ww_wantTF ?_; (try dsimp only); refine ww_pickT ?_; refine ww_condT ?_)
    exact ww_ret ⟨.nils, rfl, H.purI rfl⟩
  with_reducible (refine ww_lssF (by omega) ?_; refine ww_pickF ?_; refine ww_joinS ?_; (try dsimp only); refine ww_wantFF ?_; (try dsimp only))
  refine ww_idx1 (i := 5) (S.sl H) (wordAt_get (by omega)) ?_
  with_reducible (refine ww_convIU (by omega) ?_)
  by_cases c4 : (zs.length : Int) < wordAt zs 5
  · rw [if_pos (.inr (.inr (.inr c4)))] at hBM
    subst hBM
    with_reducible (refine ww_gtrT (by omega) ?_; refine ww_pickF ?_; refine ww_condT ?_)
    exact ww_ret ⟨.nils, rfl, H.purI rfl⟩
  rw [if_neg (by omega)] at hBM
  with_reducible (refine ww_gtrF (by omega) ?_; refine ww_pickF ?_; refine ww_condF ?_)
  refine ww_idx1 (i := 5) (S.sl H) (wordAt_get (by omega)) ?_
  with_reducible (refine ww_convII (by omega) ?_)
  generalize hend : wordAt zs 5 = e at *
  refine ww_iter (fun m s h' => ∃ (a : Int) (acc : List BlkT) (ov : AV), s = (.int .i64 a, ov, .int .i64 e, a0, ()) ∧ 14 + 3 * (acc.length : Int) ≤ a ∧ a ≤ e ∧ m = (e - a).toNat ∧ oB = parseM zs e (301 - acc.length) a acc ∧
    HS g h' (SliC 76 3 acc.length ov (acc.flatMap encB) :: R)) ?_ (m := (e - 14).toNat) (by show _ < 1000000000; omega) ⟨14, [], .nils, rfl, by simp, by omega, rfl, hBM, H.nils⟩
  clear H
  rintro m ih s h' hih ⟨a, acc, ov, rfl, h1, h2, rfl, hP, H⟩
  dsimp only
  obtain ⟨f, hf⟩ : ∃ f, 301 - acc.length = f + 1 := ⟨300 - acc.length, by omega⟩
  rw [hf, parseM_s] at hP
  refine ww_lssC (fun hlt => ww_condT ?_) fun hge => ww_condF (ww_leave (ww_ret ?_))
  · rw [if_neg (by omega)] at hP
    obtain ⟨p, rfl⟩ : ∃ p : Nat, a = (p : Int) := ⟨a.toNat, by omega⟩
    refine ww_idx1 (S.sl H.drop) (wordAt_get (by omega)) ?_
    refine ww_call (aheader_ok (by omega)) ?_
    rintro _ h' ⟨rfl, rfl⟩
    have hhb := headA_b (wordAt zs p)
    have hsb := sizeA_b (headA (wordAt zs p)).1
    have hhd : hd zs (p : Int) = headA (wordAt zs p) := rfl
    rw [hhd] at hP
    generalize headA (wordAt zs p) = q at *
    with_reducible (refine ww_extract (by with_unfolding_all exact rfl) ?_; refine ww_extract (by with_unfolding_all exact rfl) ?_; refine ww_addI (by omega) ?_)
    refine ww_call (asize_ok (by omega)) ?_
    rintro _ h' ⟨rfl, rfl⟩
    with_reducible (refine ww_addI (by omega) ?_)
    by_cases q0 : q.1 = 0
    · rw [if_pos (.inl q0)] at hP
      rw [hP]
      with_reducible (refine ww_eqlT (by omega) ?_; refine ww_joinS ?_; (try dsimp only); refine ww_wantTF ?_; (try dsimp only); refine ww_pickT ?_; refine ww_condT ?_; refine ww_leave ?_)
      exact ww_ret ⟨.nils, rfl, H.drop.purI rfl⟩
    by_cases q1 : e < (p : Int) + 1 + sizeA q.1
    · rw [if_pos (.inr q1)] at hP
      rw [hP]
      with_reducible (refine ww_eqlF (by omega) ?_; refine ww_joinS ?_; (try dsimp only); refine ww_wantFF ?_; (try dsimp only); refine ww_gtrT (by omega) ?_; refine ww_pickF ?_; refine ww_condT ?_; refine ww_leave ?_)
      exact ww_ret ⟨.nils, rfl, H.drop.purI rfl⟩
    rw [if_neg (by omega)] at hP
    have hs2 := sizeA_pos (x := q.1) (by omega)
    with_reducible (refine ww_eqlF (by omega) ?_; refine ww_joinS ?_; (try dsimp only); refine ww_wantFF ?_; (try dsimp only); refine ww_gtrF (by omega) ?_; refine ww_pickF ?_; refine ww_condF ?_; refine ww_addI (by omega) ?_; refine ww_build (by with_unfolding_all exact rfl) ?_)
    refine ww_buildSH (n := 1) (l := [.int .i64 ((p : Int) + 1), .int .i64 q.1, .bool q.2]) (sz := 3) H rfl rfl rfl rfl fun v5 h5 H5 => ?_
    refine ww_appH (H5.sel (.there .here)) (H5.sl .here) (by omega) (by omega) rfl fun v6 h6 H6 => ?_
    refine hih (e - ((p : Int) + 1 + sizeA q.1)).toNat _ _ (by omega) ⟨(p : Int) + 1 + sizeA q.1, acc ++ [((p : Int) + 1, q.1, q.2)], v6, rfl, by simp; omega, by omega, rfl, ?_, ?_⟩
    · rw [hP, show 301 - (acc ++ [((p : Int) + 1, q.1, q.2)]).length = f by simp; omega]
    · rw [List.flatMap_append, List.length_append]
      exact H6.sub (.cons .here (.drop (.refl)))
  · rw [if_pos (by omega)] at hP
    rw [hP]
    exact ⟨ov, rfl, H⟩
theorem rblocks_ok {n : Nat} (hn : 2 ≤ n) {zs : List Int} {a0 : AV} (H : HS g h R) (S : Rd g R 1 zs.length a0 (zs.map (.int .u64))) (hz : ∀ z ∈ zs, 0 ≤ z ∧ z < 18446744073709551616) :
    wp (callT tab rtab n (.fn 22 [] []) [a0] h) fun r h' => ∃ v, r = .tup [v, .bool (blocksM zs).isSome] ∧ HS g h' (BlsC v (blocksM zs) :: R) := by
  (refine ww_fn (g := W22) rfl (by omega) fun k hk => ?_; show wp (S22 (callT tab rtab k) _ _) _; unfold S22; try simp only [Int.ofNat_eq_natCast])
  have h5 := wordAt_b hz 5
  have hBM : blocksM zs = if zs.length < 32 ∨ 256 < zs.length ∨ wordAt zs 5 < 14 ∨ (zs.length : Int) < wordAt zs 5 then none else parseM zs (wordAt zs 5) 301 14 [] := rfl
  generalize blocksM zs = oB at *
  refine ww_len (S.sl H) ?_
  by_cases c1 : zs.length < 32
  · rw [if_pos (.inl c1)] at hBM
    subst hBM
    with_reducible (refine ww_lssT (by omega) ?_; refine ww_joinS ?_; (try dsimp only); refine ww_wantTF ?_; (try dsimp only); refine ww_pickT ?_; refine ww_condT ?_)
    exact ww_ret ⟨.nils, rfl, H.purI rfl⟩
  with_reducible (refine ww_lssF (by omega) ?_; refine ww_joinS ?_; (try dsimp only); refine ww_wantFF ?_; (try dsimp only))
  refine ww_len (S.sl H) ?_
  by_cases c2 : 256 < zs.length
  · rw [if_pos (.inr (.inl c2))] at hBM
    subst hBM
    with_reducible (refine ww_gtrT (by omega) ?_; refine ww_pickF ?_; refine ww_condT ?_)
    exact ww_ret ⟨.nils, rfl, H.purI rfl⟩
  with_reducible (refine ww_gtrF (by omega) ?_; refine ww_pickF ?_; refine ww_condF ?_)
  refine ww_idx1 (i := 5) (S.sl H) (wordAt_get (by omega)) ?_
  refine ww_call (rplaceA_ok (by omega) h5.1) ?_
  rintro _ _ ⟨rfl, rfl⟩
  by_cases c3 : wordAt zs 5 < 14
  · rw [if_pos (.inr (.inr (.inl c3)))] at hBM
    subst hBM
    rw [if_neg (by omega)]
    with_reducible (refine ww_lssT (by omega) ?_; refine ww_joinS ?_; (try dsimp only); refine ww_wantTF ?_; (try dsimp only); refine ww_pickT ?_; refine ww_condT ?_)
    exact ww_ret ⟨.nils, rfl, H.purI rfl⟩
  by_cases c4 : (zs.length : Int) < wordAt zs 5
  · rw [if_pos (.inr (.inr (.inr c4)))] at hBM
    subst hBM
    by_cases c5 : 2147483648 ≤ wordAt zs 5
    · rw [if_pos c5]
      with_reducible (refine ww_lssT (by omega) ?_; refine ww_joinS ?_; (try dsimp only); refine ww_wantTF ?_; (try dsimp only); refine ww_pickT ?_; refine ww_condT ?_)
      exact ww_ret ⟨.nils, rfl, H.purI rfl⟩
    · rw [if_neg c5]
      with_reducible (refine ww_lssF (by omega) ?_; refine ww_joinS ?_; (try dsimp only); refine ww_wantFF ?_; (try dsimp only))
      refine ww_len (S.sl H) ?_
      with_reducible (refine ww_gtrT (by omega) ?_; refine ww_pickF ?_; refine ww_condT ?_)
      exact ww_ret ⟨.nils, rfl, H.purI rfl⟩
  rw [if_neg (by omega)] at hBM
  rw [if_neg (by omega)]
  with_reducible (refine ww_lssF (by omega) ?_; refine ww_joinS ?_; (try dsimp only); refine ww_wantFF ?_; (try dsimp only))
  refine ww_len (S.sl H) ?_
  with_reducible (refine ww_gtrF (by omega) ?_; refine ww_pickF ?_; refine ww_condF ?_)
  generalize hend : wordAt zs 5 = e at *
  refine ww_iter (fun m s h' => ∃ (a : Int) (acc : List BlkT) (ov : AV), s = (.int .i64 a, ov, .int .i64 e, a0, ()) ∧ 14 + 3 * (acc.length : Int) ≤ a ∧ a ≤ e ∧ m = (e - a).toNat ∧ oB = parseM zs e (301 - acc.length) a acc ∧
    HS g h' (SliC 76 3 acc.length ov (acc.flatMap encB) :: R)) ?_ (m := (e - 14).toNat) (by show _ < 1000000000; omega) ⟨14, [], .nils, rfl, by simp, by omega, rfl, hBM, H.nils⟩
  clear H
  rintro m ih s h' hih ⟨a, acc, ov, rfl, h1, h2, rfl, hP, H⟩
  dsimp only
  obtain ⟨f, hf⟩ : ∃ f, 301 - acc.length = f + 1 := ⟨300 - acc.length, by omega⟩
  rw [hf, parseM_s] at hP
  refine ww_lssC (fun hlt => ww_condT ?_) fun hge => ww_condF (ww_leave (ww_ret ?_))
  · rw [if_neg (by omega)] at hP
    obtain ⟨p, rfl⟩ : ∃ p : Nat, a = (p : Int) := ⟨a.toNat, by omega⟩
    have hwb := wordAt_b hz p
    have hhd : hd zs (p : Int) = headA (wordAt zs p) := rfl
    rw [hhd] at hP
    refine ww_idx1 (S.sl H.drop) (wordAt_get (by omega)) ?_
    generalize wordAt zs p = w at *
    refine ww_addI (by omega) (ww_gtr (ww_build rfl ?_))
    refine ww_boxA H rfl fun b h3 H3 => ww_stH H3 .here rfl (by show 0 + 3 ≤ 3; omega) rfl fun h4 H4 => ?_
    have H5 : HS g h4 (ObjC b [.int .i64 ((p : Int) + 1), .int .i64 0, .bool (decide (8 < w))] :: SliC 76 3 acc.length ov (acc.flatMap encB) :: R) := H4
    clear H3 H4 H
    by_cases w1 : 16 < w
    · have hq : (headA w).1 = 0 := by unfold headA; rw [if_neg (by omega), if_neg (by omega)]
      rw [if_pos (.inl hq)] at hP
      rw [hP]
      with_reducible (refine ww_gtrT (by omega) ?_; refine ww_condT ?_; refine ww_leave ?_)
      exact ww_ret ⟨.nils, rfl, H5.drop.drop.purI rfl⟩
    with_reducible (refine ww_gtrF (by omega) ?_; refine ww_condF ?_; refine ww_convII (by omega) ?_; refine ww_field0 ?_)
    refine ww_st1H H5 (b := b) .here ⟨rfl, rfl⟩ (by simp) fun h6 H6 => ?_
    simp only [List.set_cons_zero, List.set_cons_succ] at H6
    refine ww_joinD [] (fun s g' => s = (.ptr b 0, .int .i64 (p : Int), ov, .int .i64 e, a0, ()) ∧ HS g g' (ObjC b [.int .i64 ((p : Int) + 1), .int .i64 (if 8 < w then w - 8 else w), .bool (decide (8 < w))] :: SliC 76 3 acc.length ov (acc.flatMap encB) :: R)) ?_ ?_
    · intro j hj
      by_cases w8 : 8 < w
      · rw [decide_eq_true w8] at H6
        with_reducible (refine ww_field0 ?_; refine ww_ldH (by assumption) .here (by with_unfolding_all exact rfl) ?_; refine ww_condT ?_; refine ww_convII (by omega) ?_; refine ww_subI (by omega) ?_; refine ww_field0 ?_)
        refine ww_st1H H6 (b := b) .here ⟨rfl, rfl⟩ (by simp) fun h7 H7 => hj _ _ ⟨rfl, ?_⟩
        simp only [List.set_cons_zero, List.set_cons_succ] at H7
        rw [decide_eq_true w8, if_pos w8]
        exact H7
      · rw [decide_eq_false w8] at H6
        with_reducible (refine ww_field0 ?_; refine ww_ldH (by assumption) .here (by with_unfolding_all exact rfl) ?_; refine ww_condF ?_)
        refine hj _ _ ⟨rfl, ?_⟩
        rw [decide_eq_false w8, if_neg w8]
        exact H6
    rintro s g' ⟨rfl, H7⟩
    clear H5 H6
    dsimp only
    have hcl : 0 ≤ (if 8 < w then w - 8 else w) ∧ (if 8 < w then w - 8 else w) ≤ 8 := by split <;> omega
    have hc1 : 1 ≤ (if 8 < w then w - 8 else w) ∧ (if 8 < w then w - 8 else w) ≤ 4 → headA w = ((if 8 < w then w - 8 else w), decide (8 < w)) := by
      unfold headA
      by_cases w8 : 8 < w
      · rw [if_pos w8, decide_eq_true w8]; intro hh; rw [if_neg (by omega), if_pos (by omega)]
      · rw [if_neg w8, decide_eq_false w8]; intro hh; rw [if_pos (by omega)]
    have hc0 : ¬ (1 ≤ (if 8 < w then w - 8 else w) ∧ (if 8 < w then w - 8 else w) ≤ 4) → (headA w).1 = 0 := by
      unfold headA
      by_cases w8 : 8 < w
      · rw [if_pos w8]; intro hh; rw [if_neg (by omega), if_neg (by omega)]
      · rw [if_neg w8]; intro hh; rw [if_neg (by omega), if_neg (by omega)]
    generalize (if 8 < w then w - 8 else w) = cl at *
    with_reducible (refine ww_field0 ?_; refine ww_ldH (by assumption) .here (by with_unfolding_all exact rfl) ?_)
    refine ww_call (rsize_ok (by omega)) ?_
    rintro _ h8 ⟨rfl, rfl⟩
    by_cases c5 : 1 ≤ cl ∧ cl ≤ 4
    · rw [hc1 c5] at hP
      dsimp only at hP
      have hs2 := sizeA_pos c5
      have hs3 := sizeA_b cl
      with_reducible (refine ww_eqlF (by omega) ?_; refine ww_joinS ?_; (try dsimp only); refine ww_wantFF ?_; (try dsimp only); refine ww_addI (by omega) ?_; refine ww_field0 ?_; refine ww_ldH (by assumption) .here (by with_unfolding_all exact rfl) ?_)
      refine ww_call (rsize_ok (by omega)) ?_
      rintro _ h8 ⟨rfl, rfl⟩
      with_reducible (refine ww_addI (by omega) ?_)
      by_cases q1 : e < (p : Int) + 1 + sizeA cl
      · rw [if_pos (.inr q1)] at hP
        rw [hP]
        with_reducible (refine ww_gtrT (by omega) ?_; refine ww_pickF ?_; refine ww_condT ?_; refine ww_leave ?_)
        exact ww_ret ⟨.nils, rfl, H7.drop.drop.purI rfl⟩
      rw [if_neg (by omega)] at hP
      with_reducible (refine ww_gtrF (by omega) ?_; refine ww_pickF ?_; refine ww_condF ?_)
      refine ww_ldNH H7 (b := b) (l := [.int .i64 ((p : Int) + 1), .int .i64 cl, .bool (decide (8 < w))]) .here rfl (by omega) rfl ?_
      refine ww_buildSH (n := 1) (l := [.int .i64 ((p : Int) + 1), .int .i64 cl, .bool (decide (8 < w))]) (sz := 3) H7 rfl rfl rfl rfl fun v5 h5 H5 => ?_
      refine ww_appH (H5.sel (.there (.there .here))) (H5.sl .here) (by omega) (by omega) rfl fun v6 h6 H6 => ?_
      with_reducible (refine ww_addI (by omega) ?_; refine ww_field0 ?_; refine ww_ldH (by assumption) (.there (.there .here)) (by with_unfolding_all exact rfl) ?_)
      refine ww_call (rsize_ok (by omega)) ?_
      rintro _ h8 ⟨rfl, rfl⟩
      with_reducible (refine ww_addI (by omega) ?_)
      refine hih (e - ((p : Int) + 1 + sizeA cl)).toNat _ _ (by omega) ⟨(p : Int) + 1 + sizeA cl, acc ++ [((p : Int) + 1, cl, decide (8 < w))], v6, rfl, by simp; omega, by omega, rfl, ?_, ?_⟩
      · rw [hP, show 301 - (acc ++ [((p : Int) + 1, cl, decide (8 < w))]).length = f by simp; omega]
      · rw [List.flatMap_append, List.length_append]
        exact H6.sub (.cons .here (.drop (.drop (.refl))))
    · rw [if_pos (.inl (hc0 c5))] at hP
      rw [hP, sizeA_zero c5]
      with_reducible (refine ww_eqlT (by omega) ?_; refine ww_joinS ?_; (try dsimp only); refine ww_wantTF ?_; (try dsimp only); refine ww_pickT ?_; refine ww_condT ?_; refine ww_leave ?_)
      exact ww_ret ⟨.nils, rfl, H7.drop.drop.purI rfl⟩
  · rw [if_pos (by omega)] at hP
    rw [hP]
    exact ⟨ov, rfl, H⟩
end Go.Proofs.YtcmjgcfkhommkaaGreatDoor
namespace Go.Proofs.YtcmjgcfkhommkaaGreatDoor
open Go Go.Ae
set_option maxRecDepth 100000

variable {g h : AH} {L R : List SP}

/-- rows of numbers -/
def RowI (v : AV) (l : List Int) : SP := SliC 3 1 l.length v (l.map (.int .i64))
def LlC (v : AV) (ls : List (List Int)) : SP := .ex fun rs : List AV => .all [.pur (rs.length = ls.length), SliC 38 1 ls.length v rs, .all (List.zipWith RowI rs ls)]
def LlsC (v : AV) (o : Option (List (List Int))) : SP := match o with
  | none => .pur (v = .nils)
  | some ls => LlC v ls
theorem LlC.E {v : AV} {ls : List (List Int)} (H : HS g h (LlC v ls :: R)) : ∃ rs : List AV, rs.length = ls.length ∧ HS g h (SliC 38 1 ls.length v rs :: .all (List.zipWith RowI rs ls) :: R) := by
  obtain ⟨rs, H⟩ := H.exE
  obtain ⟨e, H⟩ := HS.purE (H.allE)
  exact ⟨rs, e, H⟩
theorem LlC.I {v : AV} {ls : List (List Int)} {rs : List AV} (e : rs.length = ls.length) (H : HS g h (SliC 38 1 ls.length v rs :: .all (List.zipWith RowI rs ls) :: R)) : HS g h (LlC v ls :: R) :=
  HS.exI rs (HS.allI (HS.purI e H))
theorem zip_selI : ∀ {rs : List AV} {ls : List (List Int)} {i : Nat} {r : AV} {l : List Int}, rs[i]? = some r → ls[i]? = some l → ∃ T, Sel (List.zipWith RowI rs ls) (RowI r l) T := by
  intro rs
  induction rs with
  | nil => intro ls i r l h; simp at h
  | cons b rs ih =>
    intro ls i r l h1 h2
    cases ls with
    | nil => simp at h2
    | cons y ls =>
      cases i with
      | zero =>
        simp at h1 h2
        subst h1; subst h2
        exact ⟨_, .here⟩
      | succ i =>
        obtain ⟨T, s⟩ := ih (ls := ls) (i := i) (by simpa using h1) (by simpa using h2)
        exact ⟨_, .there s⟩
/-- one row more behind -/
theorem HS.allSnoc {rs : List AV} {ls : List (List Int)} {r : AV} {l : List Int} (e : rs.length = ls.length) (H : HS g h (RowI r l :: .all (List.zipWith RowI rs ls) :: R)) : HS g h (.all (List.zipWith RowI (rs ++ [r]) (ls ++ [l])) :: R) := by
  have e2 : List.zipWith RowI (rs ++ [r]) (ls ++ [l]) = List.zipWith RowI rs ls ++ [RowI r l] := by rw [List.zipWith_append e]; rfl
  rw [e2]
  have H1 : HS g h (.all (List.zipWith RowI rs ls) :: RowI r l :: R) := H.sub (.cons (.there .here) (.refl))
  have H2 := H1.allE
  refine HS.allI ?_
  rw [List.append_assoc]
  exact H2

/-! ### does a number stand in a row? -/
theorem aindexI_ok {D : Nat → Prop} {n : Nat} (hn : 1 ≤ n) {x : Int} {v : AV} {l : List Int} (S : Sl D h 1 l.length v (l.map (.int .i64))) (hl : l.length < 1000000) :
    wp (callT tab rtab n (.fn 49 [] []) [v, .int .i64 x] h) fun r h' => (∃ i : Int, r = .int .i64 i ∧ (0 ≤ i ↔ x ∈ l)) ∧ h' = h := by
  (refine ww_fn (g := W49) rfl (by omega) fun k hk => ?_; show wp (S49 (callT tab rtab k) _ _ _) _; unfold S49; try simp only [Int.ofNat_eq_natCast])
  refine ww_len S ?_
  refine ww_iter (fun m s h' => ∃ i : Nat, s = (.int .i64 (i : Int), .int .i64 (l.length : Int), .int .i64 x, v, ()) ∧ i ≤ l.length ∧ m = l.length - i ∧ h' = h ∧ x ∉ l.take i)
    ?_ (m := l.length) (by show _ < 1000000000; omega) ⟨0, rfl, by omega, by omega, rfl, by simp⟩
  rintro m ih s h' hih ⟨i, rfl, h1, rfl, rfl, hno⟩
  dsimp only
  refine ww_lssC (fun hlt => ww_condT ?_) fun hge => ww_condF (ww_leave (ww_ret ⟨⟨_, rfl, ?_⟩, rfl⟩))
  · have hi : i < l.length := by omega
    refine ww_idx1 (i := i) S (x := .int .i64 l[i]) (by rw [List.getElem?_map, List.getElem?_eq_getElem hi]; rfl) ?_
    refine ww_eqlC (fun he => ww_condT (ww_leave (ww_ret ⟨⟨_, rfl, ⟨fun _ => ?_, fun _ => by omega⟩⟩, rfl⟩))) fun hne => ww_condF (ww_addI (by omega) (hih (l.length - (i + 1)) _ _ (by omega) ⟨i + 1, rfl, by omega, rfl, rfl, ?_⟩))
    · rw [he]; exact List.getElem_mem hi
    · rw [List.take_succ_eq_append_getElem hi, List.mem_append, List.mem_singleton]
      rintro (h | h)
      · exact hno h
      · exact hne h
  · rw [List.take_of_length_le (by omega)] at hno
    exact ⟨fun h => absurd h (by show ¬ (0 : Int) ≤ -1; omega), fun h => absurd h hno⟩
theorem acontains_ok {D : Nat → Prop} {n : Nat} (hn : 2 ≤ n) {x : Int} {v : AV} {l : List Int} (S : Sl D h 1 l.length v (l.map (.int .i64))) (hl : l.length < 1000000) :
    wp (callT tab rtab n (.fn 36 [] []) [v, .int .i64 x] h) fun r h' => r = .bool (decide (x ∈ l)) ∧ h' = h := by
  (refine ww_fn (g := W36) rfl (by omega) fun k hk => ?_; show wp (S36 (callT tab rtab k) _ _ _) _; unfold S36; try simp only [Int.ofNat_eq_natCast])
  refine ww_call (aindexI_ok (by omega) S hl) ?_
  rintro _ _ ⟨⟨i, rfl, hi⟩, rfl⟩
  refine ww_geq (ww_ret ⟨?_, rfl⟩)
  congr 1
  exact decide_eq_decide.2 hi

/-- the first block that is so -/
theorem bindex_ok {n : Nat} (hn : 2 ≤ n) {w c : Int} {v : AV} {bw bc : Nat} {bs : List BlkT} {R1 R2 R3 : List SP} (H : HS g h L) (s : Sel L (SliC 76 3 bs.length v (bs.flatMap encB)) R1) (s1 : Sel L (ObjC bw [.int .u64 w]) R2) (s2 : Sel L (ObjC bc [.int .i64 c]) R3)
    (hb : ∀ b ∈ bs, 0 ≤ b.1 ∧ b.1 < 1000000) (hl : bs.length < 1000000) :
    wp (callT tab rtab n (.fn 34 [] []) [v, .fn 35 [] [.ptr bw 0, .ptr bc 0]] h) fun r h' => HS g h' L ∧
      ((∃ i : Nat, r = .int .i64 (i : Int) ∧ bs[i]? = some (w, c, false)) ∨ (r = .int .i64 (-1) ∧ (w, c, false) ∉ bs)) := by
  (refine ww_fn (g := W34) rfl (by omega) fun k hk => ?_; show wp (S34 (callT tab rtab k) _ _ _) _; unfold S34; try simp only [Int.ofNat_eq_natCast])
  refine ww_len (H.sl s) ?_
  refine ww_iter (fun m st h' => ∃ i : Nat, st = (.int .i64 (i : Int), .int .i64 (bs.length : Int), .fn 35 [] [.ptr bw 0, .ptr bc 0], v, ()) ∧ i ≤ bs.length ∧ m = bs.length - i ∧ HS g h' L ∧ (w, c, false) ∉ bs.take i)
    ?_ (m := bs.length) (by show _ < 1000000000; omega) ⟨0, rfl, by omega, by omega, H, by simp⟩
  rintro m ih st h' hih ⟨i, rfl, h1, rfl, H, h2⟩
  dsimp only
  refine ww_lssC (fun hlt => ww_condT ?_) fun hge => ww_condF (ww_leave (ww_ret ⟨H, .inr ⟨rfl, ?_⟩⟩))
  · have hi : i < bs.length := by omega
    have hc : bs[i]? = some bs[i] := List.getElem?_eq_getElem hi
    have hbi := hb bs[i] (List.getElem_mem hi)
    refine ww_idxN (l := encB bs[i]) (H.sl s) hi (by omega) (enc_row (sz := 3) (fun _ => rfl) hc) ?_
    have hnext : (w, c, false) ≠ bs[i] → (w, c, false) ∉ bs.take (i + 1) := by
      intro hne
      rw [List.take_succ_eq_append_getElem hi, List.mem_append, List.mem_singleton]
      rintro (h | h)
      · exact h2 h
      · exact hne h
    refine ww_call (Q' := fun v h2 => v = .bool (decide (bs[i] = (w, c, false))) ∧ HS g h2 L) (ww_fc (g := W35) rfl (by omega) fun k hk => ?_) ?_
    · show wp (S35 (callT tab rtab k) _ _ _ _) _
      unfold S35
      refine ww_boxA H rfl fun b h3 H3 => ?_
      generalize bs[i] = bb at *
      obtain ⟨x, y, z⟩ := bb
      have H4 : HS g h3 (ObjC b [.int .i64 x, .int .i64 y, .bool z] :: L) := H3
      dsimp only at hbi
      refine ww_field0 (ww_ldH H4 .here rfl (ww_convIU (by omega) (ww_ldH H4 (.there s1) rfl ?_)))
      by_cases e1 : x = w
      · subst e1
        refine ww_eqlT rfl ?_
        with_reducible (refine ww_joinS ?_; (try dsimp only); refine ww_wantTT ?_; (try dsimp only); refine ww_field0 ?_; refine ww_ldH (by assumption) .here (by with_unfolding_all exact rfl) ?_)
        refine ww_ldH H4 (.there s2) rfl ?_
        by_cases e2 : y = c
        · subst e2
          with_reducible (refine ww_eqlT (by omega) ?_; refine ww_pickT ?_; refine ww_joinS ?_; (try dsimp only); refine ww_wantTT ?_; (try dsimp only); refine ww_field0 ?_; refine ww_ldH (by assumption) .here (by with_unfolding_all exact rfl) ?_)
          cases z
          · with_reducible (refine ww_notF ?_; refine ww_pickT ?_)
            exact ww_ret ⟨by simp, H3.drop⟩
          · with_reducible (refine ww_notT ?_; refine ww_pickT ?_)
            exact ww_ret ⟨by simp, H3.drop⟩
        · refine ww_eqlF e2 ?_
          with_reducible (refine ww_pickT ?_; refine ww_joinS ?_; (try dsimp only); refine ww_wantFT ?_; (try dsimp only); refine ww_pickF ?_)
          exact ww_ret ⟨by simp [e2], H3.drop⟩
      · refine ww_eqlF e1 ?_
        with_reducible (refine ww_joinS ?_; (try dsimp only); refine ww_wantFT ?_; (try dsimp only); refine ww_pickF ?_; refine ww_joinS ?_; (try dsimp only); refine ww_wantFT ?_; (try dsimp only); refine ww_pickF ?_)
        exact ww_ret ⟨by simp [e1], H3.drop⟩
    · rintro _ h3 ⟨rfl, H3⟩
      refine ww_cond (fun he => ww_leave (ww_ret ⟨H3, .inl ⟨i, rfl, by rw [hc, he]⟩⟩)) fun hne => ww_addI (by omega) ?_
      exact hih (bs.length - (i + 1)) _ _ (by omega) ⟨i + 1, rfl, by omega, rfl, H3, hnext fun h => hne h.symm⟩
  · rw [List.take_of_length_le (by omega)] at h2
    exact h2

theorem rowsM_s {ws : List Int} {bs : List BlkT} {k : Nat} {c : Int} {ls : List (List Int)} : rowsM ws bs (k + 1) c ls = (rowM ws bs c 301 (wordAt ws c.toNat) []).bind fun r => rowsM ws bs k (c + 1) (ls ++ [r]) := rfl
theorem mid_get {rs tl : List AV} {cv : AV} {k : Nat} (h : rs.length = k) : (rs ++ [cv] ++ tl)[k]? = some cv := by
  rw [List.append_assoc, List.getElem?_append_right (by omega), h, Nat.sub_self]; rfl
theorem mid_set {rs tl : List AV} {cv dv : AV} {k : Nat} (h : rs.length = k) : (rs ++ [cv] ++ tl).set k dv = rs ++ [dv] ++ tl := by
  rw [List.append_assoc, List.set_append_right _ _ (by omega), h, Nat.sub_self]; simp
theorem rep_mid {rs : List AV} {k : Nat} (hk : k < 4) : rs ++ List.replicate (4 - k) AV.nils = rs ++ [AV.nils] ++ List.replicate (3 - k) AV.nils := by
  rw [show 4 - k = (3 - k) + 1 by omega, List.replicate_succ, List.append_assoc]; rfl
theorem row_len {acc : List Int} {n : Nat} (hd : acc.Nodup) (hr : ∀ x ∈ acc, 15 ≤ x ∧ x < (n : Int)) (hn : n ≤ 256) : acc.length ≤ 256 := by
  have := nodup_le n acc hd fun x hx => by have := hr x hx; omega
  omega
theorem nodup_snoc {acc : List Int} {w : Int} (hd : acc.Nodup) (hw : w ∉ acc) : (acc ++ [w]).Nodup := by
  rw [List.nodup_append]
  exact ⟨hd, by simp, fun a ha b hb => by rw [List.mem_singleton] at hb; subst hb; rintro rfl; exact hw ha⟩

theorem alists_ok {n : Nat} (hn : 5 ≤ n) {zs : List Int} {a0 : AV} (H : HS g h R) (S : Rd g R 1 zs.length a0 (zs.map (.int .u64))) (hz : ∀ z ∈ zs, 0 ≤ z ∧ z < 18446744073709551616) :
    wp (callT tab rtab n (.fn 20 [] []) [a0] h) fun r h' => ∃ v, r = .tup [v, .int .i64 (if (listsM zs).isSome then 0 else 12)] ∧ HS g h' (LlsC v (listsM zs) :: R) := by
  (refine ww_fn (g := W20) rfl (by omega) fun k hk => ?_; show wp (S20 (callT tab rtab k) _ _) _; unfold S20; try simp only [Int.ofNat_eq_natCast])
  refine ww_call (ablocks_ok (by omega) H S hz) ?_
  rintro _ h1 ⟨bv, rfl, H⟩
  have hLM : listsM zs = (blocksM zs).bind fun bs => rowsM zs bs 4 1 [] := rfl
  generalize listsM zs = oL at *
  cases hB : blocksM zs with
  | none =>
    rw [hB] at H hLM
    have hLM : oL = none := hLM
    subst hLM
    simp only [Option.isSome_none, Bool.false_eq_true, if_false, Option.bind_none]
    obtain ⟨e, H9⟩ := HS.purE H
    subst e
    with_reducible (refine ww_extract (by with_unfolding_all exact rfl) ?_; refine ww_extract (by with_unfolding_all exact rfl) ?_; refine ww_neqT (by omega) ?_; refine ww_condT ?_)
    exact ww_ret ⟨.nils, rfl, H9.purI rfl⟩
  | some bs =>
    rw [hB] at H hLM
    have hL0 : rowsM zs bs 4 1 [] = oL := hLM.symm
    obtain ⟨hbo, hz1, hz2⟩ := blocksM_ok hB
    have H : HS g h1 (SliC 76 3 bs.length bv (bs.flatMap encB) :: R) := H
    simp only [Option.isSome_some, if_true, Option.bind_some]
    with_reducible (refine ww_extract (by with_unfolding_all exact rfl) ?_; refine ww_extract (by with_unfolding_all exact rfl) ?_; refine ww_neqF (by omega) ?_; refine ww_condF ?_)
    refine ww_makeN (n := 4) H (by omega) fun ov h2 H => ?_
    refine ww_box1 H ⟨rfl, rfl⟩ fun bc h3 H => ww_st1H H (b := bc) .here ⟨rfl, rfl⟩ (by simp) fun h4 H => ?_
    simp only [List.set_cons_zero] at H
    have hbl : bs.length < 1000000 := by
      unfold blocksM at hB
      split at hB
      · cases hB
      · have key : ∀ m a acc bs', (14 : Int) + 3 * acc.length ≤ a → a ≤ wordAt zs 5 → parseM zs (wordAt zs 5) m a acc = some bs' → 14 + 3 * (bs'.length : Int) ≤ wordAt zs 5 := by
          intro m
          induction m with
          | zero => intro a acc bs' _ _ h; cases h
          | succ m ih =>
            intro a acc bs' ha he h
            rw [parseM_s] at h
            split at h
            · cases h; omega
            · split at h
              · cases h
              · rename_i h2
                have hb := headA_b (wordAt zs a.toNat)
                have hp : ¬ (hd zs a).1 = 0 := fun hh => h2 (.inl hh)
                have hs := sizeA_pos (x := (hd zs a).1) (by unfold hd at *; omega)
                exact ih _ _ _ (by simp; omega) (by omega) h
        have := key _ _ _ _ (by simp) (by omega) hB
        omega
    refine ww_iter (fun m s h' => ∃ (k : Nat) (bc : Nat) (rs : List AV) (ls : List (List Int)), s = (.ptr bc 0, ov, bv, a0, ()) ∧ k ≤ 4 ∧ m = 4 - k ∧ rs.length = k ∧ ls.length = k ∧ oL = rowsM zs bs (4 - k) ((k : Int) + 1) ls ∧
      HS g h' (ObjC bc [.int .i64 ((k : Int) + 1)] :: SliC 38 1 4 ov (rs ++ List.replicate (4 - k) .nils) :: .all (List.zipWith RowI rs ls) :: SliC 76 3 bs.length bv (bs.flatMap encB) :: R))
      ?_ (m := 4) (by show 4 < 1000000000; omega) ⟨0, bc, [], [], rfl, by omega, by omega, rfl, rfl, hL0.symm, (HS.allI (A := []) H).sub (.cons (.there .here) (.cons (.there .here) (.cons .here (.cons .here .refl))))⟩
    clear H
    rintro m ih s h5 hih ⟨k, bc, rs, ls, rfl, hk, rfl, hrs, hls, hM, H⟩
    dsimp only
    with_reducible (refine ww_ldH (by assumption) .here (by with_unfolding_all exact rfl) ?_)
    by_cases hk4 : k < 4
    · with_reducible (refine ww_leqT (by omega) ?_; refine ww_condT ?_; refine ww_ldH (by assumption) .here (by with_unfolding_all exact rfl) ?_)
      refine ww_call (ahead_ok (by omega) (by omega)) ?_
      rintro _ h5 ⟨rfl, rfl⟩
      rw [show (k : Int) + 1 = ((k + 1 : Nat) : Int) by omega]
      refine ww_idx1 (S.sl H.drop.drop.drop.drop) (wordAt_get (by omega)) ?_
      have hw0 := wordAt_b hz (k + 1)
      refine ww_box1 H ⟨rfl, rfl⟩ fun bw h6 H => ww_st1H H (b := bw) .here ⟨rfl, rfl⟩ (by simp) fun h7 H => ?_
      simp only [List.set_cons_zero] at H
      rw [rep_mid hk4] at H
      rw [show 4 - k = (3 - k) + 1 by omega, rowsM_s, show ((k : Int) + 1).toNat = k + 1 by omega] at hM
      generalize hR0 : rowM zs bs ((k : Int) + 1) 301 (wordAt zs (k + 1)) [] = oR at hM
      refine ww_iter (fun m s h' => ∃ (bw : Nat) (w : Int) (acc : List Int) (cv : AV), s = (.ptr bw 0, .ptr bc 0, ov, bv, a0, ()) ∧ acc.Nodup ∧ (∀ x ∈ acc, 15 ≤ x ∧ x < (zs.length : Int)) ∧ (0 ≤ w ∧ w < 18446744073709551616) ∧ m = 256 - acc.length ∧
        oR = rowM zs bs ((k : Int) + 1) (301 - acc.length) w acc ∧
        HS g h' (ObjC bw [.int .u64 w] :: ObjC bc [.int .i64 ((k : Int) + 1)] :: SliC 3 1 acc.length cv (acc.map (.int .i64)) :: SliC 38 1 4 ov (rs ++ [cv] ++ List.replicate (3 - k) .nils) ::
          .all (List.zipWith RowI rs ls) :: SliC 76 3 bs.length bv (bs.flatMap encB) :: R))
        ?_ (m := 256) (by show 256 < 1000000000; omega) ⟨bw, _, [], .nils, rfl, List.nodup_nil, (fun x hx => by cases hx), hw0, by simp, hR0.symm, (H.nils).sub (.cons (.there .here) (.cons (.there .here) (.cons .here .refl)))⟩
      clear H
      rintro m2 ih2 s h8 hih2 ⟨bw, w, acc, cv, rfl, hnd, hrg, hw, rfl, hR, H⟩
      dsimp only
      have hal := row_len hnd hrg hz2
      obtain ⟨f, hf⟩ : ∃ f, 301 - acc.length = f + 1 := ⟨300 - acc.length, by omega⟩
      rw [hf, rowM_s] at hR
      with_reducible (refine ww_ldH (by assumption) .here (by with_unfolding_all exact rfl) ?_)
      by_cases w0 : w = 0
      · rw [if_pos w0] at hR
        rw [hR, Option.bind_some] at hM
        with_reducible (refine ww_neqF (by omega) ?_; refine ww_condF ?_; refine ww_ldH (by assumption) (.there .here) (by with_unfolding_all exact rfl) ?_)
        refine ww_box1 H ⟨rfl, rfl⟩ fun bc2 h9 H => ww_st1H H (b := bc2) .here ⟨rfl, rfl⟩ (by simp) fun h10 H => ?_
        simp only [List.set_cons_zero] at H
        with_reducible (refine ww_ldH (by assumption) .here (by with_unfolding_all exact rfl) ?_; refine ww_addI (by omega) ?_)
        refine ww_st1H H (b := bc2) .here ⟨rfl, rfl⟩ (by simp) fun h11 H => ?_
        simp only [List.set_cons_zero] at H
        refine hih (4 - (k + 1)) _ _ (by omega) ⟨k + 1, bc2, rs ++ [cv], ls ++ [acc], rfl, by omega, rfl, by simp [hrs], by simp [hls], ?_, ?_⟩
        · rw [hM, show 4 - (k + 1) = 3 - k by omega]; rfl
        · have H2 : HS g h11 (RowI cv acc :: .all (List.zipWith RowI rs ls) :: ObjC bc2 [.int .i64 ((k : Int) + 1 + ((1 : Nat) : Int))] :: SliC 38 1 4 ov (rs ++ [cv] ++ List.replicate (3 - k) .nils) :: SliC 76 3 bs.length bv (bs.flatMap encB) :: R) :=
            H.sub (.cons (.there (.there (.there .here))) (.cons (.there (.there (.there (.there .here)))) (.cons .here (.cons (.there (.there .here)) (.cons (.there (.there .here)) (.drop (.drop .refl)))))))
          have H3 := HS.allSnoc (hrs.trans hls.symm) H2
          rw [show 4 - (k + 1) = 3 - k by omega, show ((k + 1 : Nat) : Int) + 1 = (k : Int) + 1 + ((1 : Nat) : Int) by omega]
          exact H3.sub (.cons (.there .here) (.cons (.there .here) (.cons .here .refl)))
      · rw [if_neg w0] at hR
        with_reducible (refine ww_neqT (by omega) ?_; refine ww_condT ?_)
        refine ww_call (bindex_ok (by omega) H (.there (.there (.there (.there (.there .here))))) .here (.there .here) (fun b hb => by have := hbo b hb; omega) hbl) ?_
        rintro _ h9 ⟨H, ⟨i, rfl, hi⟩ | ⟨rfl, hno⟩⟩
        · have hmem : (w, (k : Int) + 1, false) ∈ bs := List.mem_of_getElem? hi
          have hil := (List.getElem?_eq_some_iff.1 hi).1
          have hwr := hbo _ hmem
          dsimp only at hwr
          have hcell : (bs.flatMap encB)[i * 3 + 0]? = some (.int .i64 w) := by rw [flat_get (sz := 3) encB (fun _ => rfl) _ _ _ (by omega), hi]; rfl
          obtain ⟨p, rfl⟩ : ∃ p : Nat, w = (p : Int) := ⟨w.toNat, by omega⟩
          with_reducible (refine ww_lssF (by omega) ?_; refine ww_joinS ?_; (try dsimp only); refine ww_wantFF ?_; (try dsimp only); refine ww_ldH (by assumption) (.there .here) (by with_unfolding_all exact rfl) ?_; refine ww_subI (by omega) ?_)
          rw [show (k : Int) + 1 - ((1 : Nat) : Int) = (k : Int) by omega]
          refine ww_idx1 (H.sl (.there (.there (.there .here)))) (mid_get hrs) ?_
          refine ww_idxF (H.sl (.there (.there (.there (.there (.there .here)))))) (by omega) hil hcell ?_
          refine ww_call (acontains_ok (by omega) (H.sl (.there (.there .here))) (by omega)) ?_
          rintro _ h9 ⟨rfl, rfl⟩
          by_cases hin : (p : Int) ∈ acc
          · rw [decide_eq_true hin]
            rw [if_neg (fun h => h.2 hin)] at hR
            rw [hR] at hM
            rw [hM]
            with_reducible (refine ww_pickF ?_; refine ww_condT ?_; refine ww_leave ?_)
            exact ww_ret ⟨.nils, rfl, (H.sub (.drop (.drop (.drop (.drop (.drop (.drop .refl))))))).purI rfl⟩
          · rw [decide_eq_false hin]
            rw [if_pos ⟨hmem, hin⟩] at hR
            with_reducible (refine ww_pickF ?_; refine ww_condF ?_; refine ww_joinS ?_; (try dsimp only); refine ww_ldH (by assumption) (.there .here) (by with_unfolding_all exact rfl) ?_; refine ww_subI (by omega) ?_; refine ww_ldH (by assumption) (.there .here) (by with_unfolding_all exact rfl) ?_; refine ww_subI (by omega) ?_)
            rw [show (k : Int) + 1 - ((1 : Nat) : Int) = (k : Int) by omega]
            refine ww_idx1 (H.sl (.there (.there (.there .here)))) (mid_get hrs) ?_
            refine ww_idxF (H.sl (.there (.there (.there (.there (.there .here)))))) (by omega) hil hcell ?_
            refine ww_buildSH (n := 1) (l := [.int .i64 (p : Int)]) (sz := 1) H rfl rfl rfl rfl fun v10 h10 H10 => ?_
            refine ww_appH (H10.sel (.there (.there (.there .here)))) (H10.sl .here) (by omega) (by omega) rfl fun v11 h11 H11 => ?_
            refine ww_slI (H11.sel (.there (.there (.there (.there .here))))) (by omega) (H11.one .here) fun h12 H12 => ?_
            rw [mid_set hrs] at H12
            with_reducible (refine ww_chkH (by assumption) (.there (.there .here)) (by with_unfolding_all exact rfl) (by assumption) (.there (.there (.there .here))) (by with_unfolding_all exact rfl) (HS.lt (by assumption) (.there .here)) ?_)
            refine ww_idxF (H12.sl (.there (.there (.there (.there (.there (.there .here))))))) (by omega) hil hcell ?_
            have HR : HS g h12 R := H12.sub (.drop (.drop (.drop (.drop (.drop (.drop (.drop .refl)))))))
            refine ww_idx1 (S.sl HR) (wordAt_get (by omega)) ?_
            refine ww_st1H H12 (b := bw) (.there (.there (.there .here))) ⟨rfl, rfl⟩ (by simp) fun h13 H13 => ?_
            simp only [List.set_cons_zero] at H13
            with_reducible (refine ww_ldH (by assumption) .here (by with_unfolding_all exact rfl) ?_)
            refine ww_box1 H13 ⟨rfl, rfl⟩ fun bw2 h14 H14 => ww_st1H H14 (b := bw2) .here ⟨rfl, rfl⟩ (by simp) fun h15 H15 => ?_
            simp only [List.set_cons_zero] at H15
            have hnd2 := nodup_snoc hnd hin
            have hrg2 : ∀ x ∈ acc ++ [(p : Int)], 15 ≤ x ∧ x < (zs.length : Int) := by
              intro x hx
              rcases List.mem_append.1 hx with hx | hx
              · exact hrg x hx
              · rw [List.mem_singleton] at hx; subst hx; exact hwr
            have hal2 := row_len hnd2 hrg2 hz2
            rw [List.length_append, List.length_singleton] at hal2
            refine hih2 (256 - (acc.length + 1)) _ _ (by omega) ⟨bw2, wordAt zs p, acc ++ [(p : Int)], v11, rfl, hnd2, hrg2, wordAt_b hz p, by simp, ?_, ?_⟩
            · rw [hR, show 301 - (acc ++ [(p : Int)]).length = f by simp; omega]; rfl
            · rw [List.map_append, List.length_append]
              exact H15.sub (.cons .here (.cons (.there (.there (.there (.there .here)))) (.cons (.there (.there .here)) (.cons (.there .here) (.cons (.there (.there .here)) (.cons (.there (.there .here)) (.drop (.drop (.refl)))))))))
        · rw [if_neg (fun h => hno h.1)] at hR
          rw [hR] at hM
          rw [hM]
          refine ww_lssT (by show (-1 : Int) < ((0 : Nat) : Int); omega) ?_
          with_reducible (refine ww_joinS ?_; (try dsimp only); refine ww_wantTF ?_; (try dsimp only); refine ww_pickT ?_; refine ww_condT ?_; refine ww_leave ?_)
          exact ww_ret ⟨.nils, rfl, (H.sub (.drop (.drop (.drop (.drop (.drop (.drop .refl))))))).purI rfl⟩
    · obtain rfl : k = 4 := by omega
      with_reducible (refine ww_leqF (by omega) ?_; refine ww_condF ?_; refine ww_leave ?_)
      have hM : oL = some ls := hM
      rw [hM]
      refine ww_ret ⟨ov, rfl, ?_⟩
      rw [show 4 - 4 = 0 from rfl, List.replicate_zero, List.append_nil] at H
      refine LlC.I (rs := rs) (hrs.trans hls.symm) ?_
      rw [hls]
      exact H.sub (.cons (.there .here) (.cons (.there .here) (.drop (.drop .refl))))

theorem blocks_len {zs : List Int} {bs : List BlkT} (hB : blocksM zs = some bs) : bs.length < 1000 := by
  have hz2 := (blocksM_ok hB).2.2
  unfold blocksM at hB
  split at hB
  · cases hB
  · have key : ∀ m a acc bs', (14 : Int) + 3 * (acc.length : Int) ≤ a → a ≤ wordAt zs 5 → parseM zs (wordAt zs 5) m a acc = some bs' → 14 + 3 * (bs'.length : Int) ≤ wordAt zs 5 := by
      intro m
      induction m with
      | zero => intro a acc bs' _ _ h; cases h
      | succ m ih =>
        intro a acc bs' ha he h
        rw [parseM_s] at h
        split at h
        · cases h; omega
        · split at h
          · cases h
          · rename_i h2
            have hb := headA_b (wordAt zs a.toNat)
            have hp : ¬ (hd zs a).1 = 0 := fun hh => h2 (.inl hh)
            have hs := sizeA_pos (x := (hd zs a).1) (by unfold hd at *; omega)
            exact ih _ _ _ (by simp; omega) (by omega) h
    have := key _ _ _ _ (by simp) (by omega) hB
    omega

theorem rlists_ok {n : Nat} (hn : 3 ≤ n) {zs : List Int} {a0 : AV} (H : HS g h R) (S : Rd g R 1 zs.length a0 (zs.map (.int .u64))) (hz : ∀ z ∈ zs, 0 ≤ z ∧ z < 18446744073709551616) :
    wp (callT tab rtab n (.fn 23 [] []) [a0] h) fun r h' => ∃ v, r = .tup [v, .bool (listsM zs).isSome] ∧ HS g h' (LlsC v (listsM zs) :: R) := by
  (refine ww_fn (g := W23) rfl (by omega) fun k hk => ?_; show wp (S23 (callT tab rtab k) _ _) _; unfold S23; try simp only [Int.ofNat_eq_natCast])
  refine ww_call (rblocks_ok (by omega) H S hz) ?_
  rintro _ h1 ⟨bv, rfl, H⟩
  have hLM : listsM zs = (blocksM zs).bind fun bs => rowsM zs bs 4 1 [] := rfl
  generalize listsM zs = oL at *
  cases hB : blocksM zs with
  | none =>
    rw [hB] at H hLM
    have hLM : oL = none := hLM
    subst hLM
    simp only [Option.isSome_none, Option.bind_none]
    obtain ⟨e, H9⟩ := HS.purE H
    subst e
    with_reducible (refine ww_extract (by with_unfolding_all exact rfl) ?_; refine ww_extract (by with_unfolding_all exact rfl) ?_; refine ww_notF ?_; refine ww_condT ?_)
    exact ww_ret ⟨.nils, rfl, H9.purI rfl⟩
  | some bs =>
    rw [hB] at H hLM
    have hL0 : rowsM zs bs 4 1 [] = oL := hLM.symm
    obtain ⟨hbo, hz1, hz2⟩ := blocksM_ok hB
    have hbl := blocks_len hB
    have H : HS g h1 (SliC 76 3 bs.length bv (bs.flatMap encB) :: R) := H
    simp only [Option.isSome_some, Option.bind_some]
    with_reducible (refine ww_extract (by with_unfolding_all exact rfl) ?_; refine ww_extract (by with_unfolding_all exact rfl) ?_; refine ww_notT ?_; refine ww_condF ?_)
    refine ww_iter (fun m s h' => ∃ (k : Nat) (ov : AV) (rs : List AV) (ls : List (List Int)), s = (.int .i64 ((k : Int) + 1), ov, bv, a0, ()) ∧ k ≤ 4 ∧ m = 4 - k ∧ rs.length = k ∧ ls.length = k ∧ oL = rowsM zs bs (4 - k) ((k : Int) + 1) ls ∧
      HS g h' (SliC 38 1 k ov rs :: .all (List.zipWith RowI rs ls) :: SliC 76 3 bs.length bv (bs.flatMap encB) :: R))
      ?_ (m := 4) (by show 4 < 1000000000; omega) ⟨0, .nils, [], [], rfl, by omega, by omega, rfl, rfl, hL0.symm, (HS.allI (A := []) H).nils⟩
    clear H
    rintro m ih s h5 hih ⟨k, ov, rs, ls, rfl, hk, rfl, hrs, hls, hM, H⟩
    dsimp only
    by_cases hk4 : k < 4
    · with_reducible (refine ww_leqT (by omega) ?_; refine ww_condT ?_; refine ww_addI (by omega) ?_; refine ww_subI (by omega) ?_)
      rw [show ((1 : Nat) : Int) + ((k : Int) + 1) - ((1 : Nat) : Int) = ((k + 1 : Nat) : Int) by omega]
      refine ww_idx1 (S.sl H.drop.drop.drop) (wordAt_get (by omega)) ?_
      have hw0 := wordAt_b hz (k + 1)
      rw [show 4 - k = (3 - k) + 1 by omega, rowsM_s, show ((k : Int) + 1).toNat = k + 1 by omega] at hM
      generalize hR0 : rowM zs bs ((k : Int) + 1) 301 (wordAt zs (k + 1)) [] = oR at hM
      refine ww_iter (fun m s h' => ∃ (w : Int) (acc : List Int) (cv : AV), s = (.int .u64 w, cv, .int .i64 ((k : Int) + 1), ov, bv, a0, ()) ∧ acc.Nodup ∧ (∀ x ∈ acc, 15 ≤ x ∧ x < (zs.length : Int)) ∧ (0 ≤ w ∧ w < 18446744073709551616) ∧ m = 256 - acc.length ∧
        oR = rowM zs bs ((k : Int) + 1) (301 - acc.length) w acc ∧
        HS g h' (SliC 3 1 acc.length cv (acc.map (.int .i64)) :: SliC 38 1 k ov rs :: .all (List.zipWith RowI rs ls) :: SliC 76 3 bs.length bv (bs.flatMap encB) :: R))
        ?_ (m := 256) (by show 256 < 1000000000; omega) ⟨_, [], .nils, rfl, List.nodup_nil, (fun x hx => by cases hx), hw0, by simp, hR0.symm, H.nils⟩
      clear H
      rintro m2 ih2 s h8 hih2 ⟨w, acc, cv, rfl, hnd, hrg, hw, rfl, hR, H⟩
      dsimp only
      have hal := row_len hnd hrg hz2
      obtain ⟨f, hf⟩ : ∃ f, 301 - acc.length = f + 1 := ⟨300 - acc.length, by omega⟩
      rw [hf, rowM_s] at hR
      by_cases w0 : w = 0
      · rw [if_pos w0] at hR
        rw [hR, Option.bind_some] at hM
        with_reducible (refine ww_neqF (by omega) ?_; refine ww_condF ?_)
        have o1 := H.one .here
        refine ww_buildSH (n := 1) (l := [cv]) (sz := 1) H rfl rfl (by show (bif Nat.beq cv.cells.length 1 then (lputAt [AV.nils] 0 cv.cells).bind fun cs' => some cs' else none) = _; rw [o1.1]; rfl) (by simp [allOne, o1.2]) fun v9 h9 H9 => ?_
        refine ww_appH (H9.sel (.there (.there .here))) (H9.sl .here) (by omega) (by omega) (by simp [allOne, o1.2]) fun v10 h10 H10 => ?_
        refine ww_addI (by omega) (hih (4 - (k + 1)) _ _ (by omega) ⟨k + 1, v10, rs ++ [cv], ls ++ [acc], rfl, by omega, rfl, by simp [hrs], by simp [hls], ?_, ?_⟩)
        · rw [hM, show 4 - (k + 1) = 3 - k by omega]; rfl
        · have H2 : HS g h10 (RowI cv acc :: .all (List.zipWith RowI rs ls) :: SliC 38 1 (k + 1) v10 (rs ++ [cv]) :: SliC 76 3 bs.length bv (bs.flatMap encB) :: R) :=
            H10.sub (.cons (.there (.there .here)) (.cons (.there (.there .here)) (.cons .here (.drop .refl))))
          exact (HS.allSnoc (hrs.trans hls.symm) H2).sub (.cons (.there .here) (.refl))
      · rw [if_neg w0] at hR
        refine ww_neqT w0 (ww_condT ?_)
        -- is there such a block?
        refine ww_iter (fun m s h' => ∃ i : Nat, s = (.int .i64 (i : Int), .bool (decide ((w, (k : Int) + 1, false) ∈ bs.take i)), .int .u64 w, cv, .int .i64 ((k : Int) + 1), ov, bv, a0, ()) ∧ i ≤ bs.length ∧ m = bs.length - i ∧ h' = h8)
          ?_ (m := bs.length) (by show _ < 1000000000; omega) ⟨0, by simp, by omega, by omega, rfl⟩
        rintro m3 ih3 s h9 hih3 ⟨i, rfl, hi1, rfl, rfl⟩
        dsimp only
        refine ww_len (H.sl (.there (.there (.there .here)))) ?_
        refine ww_lssC (fun hlt => ww_condT ?_) fun hge => ww_condF ?_
        · have hi : i < bs.length := by omega
          have hci : bs[i]? = some bs[i] := List.getElem?_eq_getElem hi
          have hbi := hbo bs[i] (List.getElem_mem hi)
          have hcell : ∀ f, f < 3 → (bs.flatMap encB)[i * 3 + f]? = (encB bs[i])[f]? := by
            intro f hf; rw [flat_get (sz := 3) encB (fun _ => rfl) _ _ _ hf, hci]; rfl
          have hnext : ∀ b : Bool, b = (decide ((w, (k : Int) + 1, false) ∈ bs.take i) || decide (bs[i] = (w, (k : Int) + 1, false))) →
              wp (ih3 (.int .i64 ((i : Int) + ((1 : Nat) : Int)), .bool b, .int .u64 w, cv, .int .i64 ((k : Int) + 1), ov, bv, a0, ()) h9 []) fun r h' => ∃ v, r = .tup [v, .bool oL.isSome] ∧ HS g h' (LlsC v oL :: R) := by
            rintro b rfl
            refine hih3 (bs.length - (i + 1)) _ _ (by omega) ⟨i + 1, ?_, by omega, rfl, rfl⟩
            have : (decide ((w, (k : Int) + 1, false) ∈ bs.take i) || decide (bs[i] = (w, (k : Int) + 1, false))) = decide ((w, (k : Int) + 1, false) ∈ bs.take (i + 1)) := by
              rw [List.take_succ_eq_append_getElem hi]
              simp only [List.mem_append, List.mem_singleton]
              by_cases q : (w, (k : Int) + 1, false) = bs[i]
              · simp [q]
              · have q2 : ¬ bs[i] = (w, (k : Int) + 1, false) := fun h => q h.symm
                simp [q, q2]
            rw [this]; rfl
          generalize hbe : bs[i] = bb at *
          obtain ⟨x, y, z⟩ := bb
          dsimp only at hbi
          refine ww_joinS ?_
          refine ww_idxF (x := .int .i64 x) (H.sl (.there (.there (.there .here)))) (by omega) hi (hcell 0 (by omega)) (ww_convIU (by omega) ?_)
          by_cases e1 : x = w
          · refine ww_eqlT e1 ?_
            with_reducible (refine ww_joinS ?_; (try dsimp only); refine ww_wantTT ?_; (try dsimp only))
            refine ww_idxF (x := .int .i64 y) (H.sl (.there (.there (.there .here)))) (by omega) hi (hcell 1 (by omega)) ?_
            by_cases e2 : y = (k : Int) + 1
            · refine ww_eqlT e2 ?_
              with_reducible (refine ww_pickT ?_; refine ww_joinS ?_; (try dsimp only); refine ww_wantTT ?_; (try dsimp only))
              refine ww_idxF (x := .bool z) (H.sl (.there (.there (.there .here)))) (by omega) hi (hcell 2 (by omega)) ?_
              cases z
              · with_reducible (refine ww_notF ?_; refine ww_pickT ?_; refine ww_condT ?_; refine ww_addI (by omega) ?_)
                exact hnext _ (by simp [e1, e2])
              · with_reducible (refine ww_notT ?_; refine ww_pickT ?_; refine ww_condF ?_; refine ww_addI (by omega) ?_)
                exact hnext _ (by simp)
            · refine ww_eqlF e2 ?_
              with_reducible (refine ww_pickT ?_; refine ww_joinS ?_; (try dsimp only); refine ww_wantFT ?_; (try dsimp only); refine ww_pickF ?_; refine ww_condF ?_; refine ww_addI (by omega) ?_)
              exact hnext _ (by simp [e2])
          · refine ww_eqlF e1 ?_
            with_reducible (refine ww_joinS ?_; (try dsimp only); refine ww_wantFT ?_; (try dsimp only); refine ww_pickF ?_; refine ww_joinS ?_; (try dsimp only); refine ww_wantFT ?_; (try dsimp only); refine ww_pickF ?_; refine ww_condF ?_; refine ww_addI (by omega) ?_)
            exact hnext _ (by simp [e1])
        · obtain rfl : i = bs.length := by omega
          rw [List.take_length]
          clear hih3 ih3
          refine ww_iter (fun m s h' => ∃ i : Nat, s = (.int .i64 (i : Int), .bool (decide ((w, (k : Int) + 1, false) ∈ bs ∧ w ∉ acc.take i)), .int .u64 w, cv, .int .i64 ((k : Int) + 1), ov, bv, a0, ()) ∧ i ≤ acc.length ∧ m = acc.length - i ∧ h' = h9)
            ?_ (m := acc.length) (by show _ < 1000000000; omega) ⟨0, by simp, by omega, by omega, rfl⟩
          rintro m3 ih3 s h9 hih3 ⟨i, rfl, hi1, rfl, rfl⟩
          dsimp only
          refine ww_len (H.sl .here) ?_
          refine ww_lssC (fun hlt => ww_condT ?_) fun hge => ww_condF ?_
          · have hi : i < acc.length := by omega
            have hai := hrg acc[i] (List.getElem_mem hi)
            refine ww_joinS ?_
            refine ww_idx1 (x := .int .i64 acc[i]) (H.sl .here) (by rw [List.getElem?_map, List.getElem?_eq_getElem hi]; rfl) (ww_convIU (by omega) ?_)
            refine ww_eqlC (fun he => ww_condT (ww_addI (by omega) (hih3 (acc.length - (i + 1)) _ _ (by omega) ⟨i + 1, ?_, by omega, rfl, rfl⟩))) fun hne => ww_condF (ww_addI (by omega) (hih3 (acc.length - (i + 1)) _ _ (by omega) ⟨i + 1, ?_, by omega, rfl, rfl⟩))
            · have : w ∈ acc.take (i + 1) := by rw [List.take_succ_eq_append_getElem hi, List.mem_append]; exact .inr (List.mem_singleton.2 he.symm)
              simp [this]
            · have : w ∉ acc.take (i + 1) ↔ w ∉ acc.take i := by
                rw [List.take_succ_eq_append_getElem hi, List.mem_append, List.mem_singleton]
                exact ⟨fun h h' => h (.inl h'), fun h h' => h'.elim h fun h' => hne h'.symm⟩
              simp [this]
          · obtain rfl : i = acc.length := by omega
            rw [List.take_length]
            by_cases hin : (w, (k : Int) + 1, false) ∈ bs ∧ w ∉ acc
            · rw [decide_eq_true hin]
              rw [if_pos hin] at hR
              have hwr := hbo _ hin.1
              dsimp only at hwr
              obtain ⟨p, rfl⟩ : ∃ p : Nat, w = (p : Int) := ⟨w.toNat, by omega⟩
              with_reducible (refine ww_notT ?_; refine ww_condF ?_; refine ww_convII (by omega) ?_)
              refine ww_buildSH (n := 1) (l := [.int .i64 (p : Int)]) (sz := 1) H rfl rfl rfl rfl fun v10 h10 H10 => ?_
              refine ww_appH (H10.sel (.there .here)) (H10.sl .here) (by omega) (by omega) rfl fun v11 h11 H11 => ?_
              with_reducible (refine ww_convII (by omega) ?_)
              refine ww_idx1 (S.sl H11.drop.drop.drop.drop.drop) (wordAt_get (by omega)) ?_
              have hnd2 := nodup_snoc hnd hin.2
              have hrg2 : ∀ x ∈ acc ++ [(p : Int)], 15 ≤ x ∧ x < (zs.length : Int) := by
                intro x hx
                rcases List.mem_append.1 hx with hx | hx
                · exact hrg x hx
                · rw [List.mem_singleton] at hx; subst hx; exact hwr
              have hal2 := row_len hnd2 hrg2 hz2
              rw [List.length_append, List.length_singleton] at hal2
              refine hih2 (256 - (acc.length + 1)) _ _ (by omega) ⟨wordAt zs p, acc ++ [(p : Int)], v11, rfl, hnd2, hrg2, wordAt_b hz p, by simp, ?_, ?_⟩
              · rw [hR, show 301 - (acc ++ [(p : Int)]).length = f by simp; omega]; rfl
              · rw [List.map_append, List.length_append]
                exact H11.sub (.cons .here (.cons (.there .here) (.cons (.there .here) (.cons (.there .here) (.drop (.refl))))))
            · rw [decide_eq_false hin]
              rw [if_neg hin] at hR
              rw [hR] at hM
              have hM : oL = none := hM
              rw [hM]
              with_reducible (refine ww_notF ?_; refine ww_condT ?_; refine ww_leave ?_)
              exact ww_ret ⟨.nils, rfl, (H.sub (.drop (.drop (.drop (.drop .refl))))).purI rfl⟩
    · obtain rfl : k = 4 := by omega
      with_reducible (refine ww_leqF (by omega) ?_; refine ww_condF ?_; refine ww_leave ?_)
      have hM : oL = some ls := hM
      rw [hM]
      refine ww_ret ⟨ov, rfl, ?_⟩
      refine LlC.I (rs := rs) (hrs.trans hls.symm) ?_
      rw [hls]
      exact H.sub (.cons .here (.cons .here (.drop .refl)))
end Go.Proofs.YtcmjgcfkhommkaaGreatDoor
namespace Go.Proofs.YtcmjgcfkhommkaaGreatDoor
open Go Go.Ae

/-- blocks stand one behind the other -/
def Up (bs : List BlkT) : Prop := bs.Pairwise fun a b => a.1 < b.1
theorem parseM_up {ws : List Int} {e : Int} : ∀ m a acc bs, Up acc → (∀ b ∈ acc, b.1 ≤ a) → parseM ws e m a acc = some bs → Up bs := by
  intro m
  induction m with
  | zero => intro a acc bs _ _ h; cases h
  | succ m ih =>
    intro a acc bs hu ha h
    rw [parseM_s] at h
    split at h
    · cases h; exact hu
    · split at h
      · cases h
      · rename_i h2
        have hb := headA_b (wordAt ws a.toNat)
        have hp : ¬ (hd ws a).1 = 0 := fun hh => h2 (.inl hh)
        have hs := sizeA_pos (x := (hd ws a).1) (by unfold hd at *; omega)
        refine ih _ _ _ ?_ ?_ h
        · refine List.pairwise_append.2 ⟨hu, List.pairwise_singleton .., fun x hx y hy => ?_⟩
          rw [List.mem_singleton.1 hy]
          have := ha x hx
          dsimp only; omega
        · intro b hb
          rcases List.mem_append.1 hb with hb | hb
          · have := ha b hb; omega
          · rw [List.mem_singleton.1 hb]; dsimp only; omega
theorem blocksM_up {ws : List Int} {bs : List BlkT} (h : blocksM ws = some bs) : Up bs := by
  unfold blocksM at h
  split at h
  · cases h
  · exact parseM_up _ _ _ _ List.Pairwise.nil (fun b hb => by cases hb) h
theorem Up.nodup {bs : List BlkT} (h : Up bs) : (bs.map (·.1)).Nodup := by
  unfold Up at h
  refine List.pairwise_map.2 (h.imp ?_)
  intro a b hab
  omega
theorem rowM_in {ws : List Int} {bs : List BlkT} {c : Int} : ∀ {m : Nat} {w : Int} {acc r : List Int}, rowM ws bs c m w acc = some r → (∀ x ∈ acc, (x, c, false) ∈ bs) → ∀ x ∈ r, (x, c, false) ∈ bs := by
  intro m
  induction m with
  | zero => intro w acc r h; cases h
  | succ m ih =>
    intro w acc r h ha
    rw [rowM_s] at h
    split at h
    · cases h; exact ha
    · split at h
      · rename_i h2
        refine ih h fun x hx => ?_
        rcases List.mem_append.1 hx with hx | hx
        · exact ha x hx
        · rw [List.mem_singleton.1 hx]; exact h2.1
      · cases h
theorem rowsM_in {ws : List Int} {bs : List BlkT} : ∀ {k : Nat} {c : Int} {ls r : List (List Int)}, rowsM ws bs k c ls = some r → (∀ l ∈ ls, ∀ x ∈ l, ∃ b ∈ bs, b.1 = x ∧ b.2.2 = false) → ∀ l ∈ r, ∀ x ∈ l, ∃ b ∈ bs, b.1 = x ∧ b.2.2 = false := by
  intro k
  induction k with
  | zero => intro c ls r h; cases h; exact fun h => h
  | succ k ih =>
    intro c ls r h hl
    unfold rowsM at h
    obtain ⟨row, hr, h⟩ := Option.bind_eq_some_iff.1 h
    refine ih h fun l hl2 => ?_
    rcases List.mem_append.1 hl2 with h2 | h2
    · exact hl l h2
    · rw [List.mem_singleton.1 h2]
      intro x hx
      exact ⟨_, rowM_in hr (fun x hx => by cases hx) x hx, rfl, rfl⟩
theorem lists_in {ws : List Int} {ls : List (List Int)} (h : listsM ws = some ls) : ∃ bs, blocksM ws = some bs ∧ ∀ l ∈ ls, ∀ x ∈ l, ∃ b ∈ bs, b.1 = x ∧ b.2.2 = false := by
  obtain ⟨bs, hb, h⟩ := Option.bind_eq_some_iff.1 h
  exact ⟨bs, hb, rowsM_in h fun l hl => by cases hl⟩

/-- is each block somewhere, once? the lists' blocks and those at rest -/
def partsB (bs : List BlkT) (fs rs : List Int) : Bool :=
  bs.all (fun b => decide (b.2.2 = true ↔ (fs ++ rs).count b.1 = 0) && decide ((fs ++ rs).count b.1 ≤ 1)) && (fs ++ rs).all fun x => bs.any fun b => decide (b.1 = x)
/-- as the document counts -/
def countB (b : BlkT) (fs rs : List Int) : Nat := (if b.2.2 = true then 1 else 0) + fs.count b.1 + rs.count b.1
def partsD (bs : List BlkT) (fs rs : List Int) : Bool := bs.all (fun b => decide (countB b fs rs = 1)) && decide ((bs.map fun b => rs.count b.1).sum = rs.length)
theorem sum_all : ∀ {bs : List BlkT} {rs : List Int}, (bs.map (·.1)).Nodup → (bs.map fun b => rs.count b.1).sum = (rs.filter fun x => bs.any fun b => decide (b.1 = x)).length := by
  intro bs rs hn
  induction rs with
  | nil =>
    induction bs with
    | nil => rfl
    | cons b bs ih => rw [List.map_cons, List.nodup_cons] at hn; rw [List.map_cons, List.sum_cons, ih hn.2]; simp
  | cons x rs ih =>
    have e : (bs.map fun b => (x :: rs).count b.1).sum = (bs.map fun b => rs.count b.1).sum + (bs.map fun b => (decide (b.1 = x)).toNat).sum := by
      clear ih hn
      induction bs with
      | nil => rfl
      | cons b bs ih =>
        simp only [List.map_cons, List.sum_cons]
        rw [ih, List.count_cons]
        by_cases h : b.1 = x
        · have h2 : (x == b.1) = true := by simp [h]
          rw [h2, decide_eq_true h, if_pos rfl]
          show _ = _ + (1 + _); omega
        · have h2 : (x == b.1) = false := by simpa using fun h' : x = b.1 => h h'.symm
          rw [h2, decide_eq_false h, if_neg (by simp)]
          show _ = _ + (0 + _); omega
    have e2 : (bs.map fun b => (decide (b.1 = x)).toNat).sum = (bs.any fun b => decide (b.1 = x)).toNat := by
      clear ih e
      induction bs with
      | nil => rfl
      | cons b bs ih =>
        rw [List.map_cons, List.nodup_cons] at hn
        rw [List.map_cons, List.sum_cons, List.any_cons, ih hn.2]
        by_cases h : b.1 = x
        · have hno : (bs.any fun b => decide (b.1 = x)) = false := by
            refine List.any_eq_false.2 fun d hd => ?_
            simp only [decide_eq_true_eq]
            intro hh
            exact hn.1 (List.mem_map.2 ⟨d, hd, hh.trans h.symm⟩)
          rw [hno, decide_eq_true h]; rfl
        · rw [decide_eq_false h, Bool.false_or]; show 0 + _ = _; omega
    rw [e, e2, ih, List.filter_cons]
    cases hb : (bs.any fun b => decide (b.1 = x))
    · rw [if_neg (by simp)]; rfl
    · rw [if_pos rfl]; rfl
theorem parts_same {bs : List BlkT} {fs rs : List Int} (hu : Up bs) (hf : ∀ x ∈ fs, ∃ b ∈ bs, b.1 = x) : partsB bs fs rs = partsD bs fs rs := by
  unfold partsB partsD
  congr 1
  · congr 1
    funext b
    rw [← Bool.decide_and]
    refine decide_eq_decide.2 ?_
    unfold countB
    rw [List.count_append]
    cases b.2.2 <;> simp <;> omega
  · rw [sum_all hu.nodup]
    have h1 : ((rs.filter fun x => bs.any fun b => decide (b.1 = x)).length = rs.length) ↔ ∀ x ∈ rs, (bs.any fun b => decide (b.1 = x)) = true := List.length_filter_eq_length_iff
    rw [Bool.eq_iff_iff, decide_eq_true_iff, h1, List.all_eq_true]
    constructor
    · intro h x hx; exact h x (List.mem_append.2 (.inr hx))
    · intro h x hx
      rcases List.mem_append.1 hx with hx | hx
      · obtain ⟨b, hb, e⟩ := hf x hx
        exact List.any_eq_true.2 ⟨b, hb, by simpa using e⟩
      · exact h x hx
/-- does an operation let the words of the listed blocks alone? -/
def hitL (at_ : Int) (c : Nat) (l : List Int) : Bool := l.any fun b => decide (b < at_ ∧ at_ < b + sizeA (c : Int))
def hitLs (at_ : Int) : Nat → List (List Int) → Bool
  | _, [] => false
  | c, l :: r => hitL at_ c l || hitLs at_ (c + 1) r
def safeM (zs : List Int) (kind at_ : Int) : Bool := if kind ≠ 1 ∧ kind ≠ 2 then true else match listsM zs with
  | none => true
  | some ls => !hitLs at_ 1 ls
end Go.Proofs.YtcmjgcfkhommkaaGreatDoor
namespace Go.Proofs.YtcmjgcfkhommkaaGreatDoor
open Go Go.Ae
set_option maxRecDepth 100000

variable {g h : AH} {L R : List SP}

theorem sl_one1 {D : Nat → Prop} {sz n : Nat} {v : AV} {xs : List AV} (S : Sl D h sz n v xs) : One v := by cases S <;> exact ⟨rfl, rfl⟩
end Go.Proofs.YtcmjgcfkhommkaaGreatDoor
namespace Go.Proofs.YtcmjgcfkhommkaaGreatDoor
open Go Go.Ae
set_option maxRecDepth 100000

variable {g h : AH} {L R : List SP}

theorem rowM_len {ws : List Int} {bs : List BlkT} {c : Int} : ∀ {m : Nat} {w : Int} {acc r : List Int}, rowM ws bs c m w acc = some r → r.length ≤ acc.length + m := by
  intro m
  induction m with
  | zero => intro w acc r h; cases h
  | succ m ih =>
    intro w acc r h
    rw [rowM_s] at h
    split at h
    · cases h; omega
    · split at h
      · have := ih h
        simp at this
        omega
      · cases h
theorem rowsM_len {ws : List Int} {bs : List BlkT} : ∀ {k : Nat} {c : Int} {ls r : List (List Int)}, (∀ l ∈ ls, l.length ≤ 301) → rowsM ws bs k c ls = some r → r.length = ls.length + k ∧ ∀ l ∈ r, l.length ≤ 301 := by
  intro k
  induction k with
  | zero => intro c ls r hl h; cases h; exact ⟨rfl, hl⟩
  | succ k ih =>
    intro c ls r hl h
    unfold rowsM at h
    cases hr : rowM ws bs c 301 (wordAt ws c.toNat) [] with
    | none => rw [hr] at h; cases h
    | some row =>
      rw [hr] at h
      have h9 := rowM_len hr
      have := ih (fun l hl2 => by
        rcases List.mem_append.1 hl2 with h2 | h2
        · exact hl l h2
        · rw [List.mem_singleton] at h2; subst h2; simpa using h9) h
      refine ⟨?_, this.2⟩
      have h10 := this.1
      simp at h10
      omega
theorem lls_b {zs : List Int} {ls : List (List Int)} (h : listsM zs = some ls) : ls.length = 4 ∧ (∀ l ∈ ls, l.length ≤ 301) ∧ ∀ l ∈ ls, ∀ x ∈ l, 15 ≤ x ∧ x < 256 := by
  obtain ⟨bs, hb, hi⟩ := lists_in h
  obtain ⟨k1, _, k3⟩ := blocksM_ok hb
  refine ⟨?_, ?_, fun l hl x hx => ?_⟩
  · obtain ⟨_, _, h2⟩ := Option.bind_eq_some_iff.1 h
    simpa using (rowsM_len (fun l hl => by simp at hl) h2).1
  · obtain ⟨_, _, h2⟩ := Option.bind_eq_some_iff.1 h
    exact (rowsM_len (fun l hl => by simp at hl) h2).2
  · obtain ⟨b, hm, e, _⟩ := hi l hl x hx
    have := k1 b hm
    omega
/-- an operation -/
structure OpL (xs : List AV) (kd at_ : Int) : Prop where
  len : xs.length = 10
  one : allOne xs = true
  k : xs[0]? = some (.int .i64 kd)
  a : xs[1]? = some (.int .i64 at_)
end Go.Proofs.YtcmjgcfkhommkaaGreatDoor
namespace Go.Proofs.YtcmjgcfkhommkaaGreatDoor
open Go Go.Ae
set_option maxRecDepth 100000

abbrev MpE : Type := Int × Int × Nat
/-- a map's rows, its clock: it tells f, at the keys K -/
structure MpOk (l : List MpE) (c : Nat) (f : Int → Int) (K : Int → Prop) : Prop where
  key : ∀ x, (∃ e ∈ l, e.1 = x) ↔ K x
  val : ∀ e ∈ l, e.2.1 = f e.1
  nd : (l.map (·.1)).Nodup
  bn : (l.map (·.2.2)).Nodup
  bl : ∀ e ∈ l, e.2.2 < c
  zero : ∀ x, ¬ K x → f x = 0
theorem MpOk.nil : MpOk [] 0 (fun _ => 0) (fun _ => False) :=
  ⟨fun x => ⟨fun ⟨e, h, _⟩ => (by cases h), False.elim⟩, fun e h => (by cases h), List.nodup_nil, List.nodup_nil, fun e h => (by cases h), fun _ _ => rfl⟩
theorem findE_no {x : Int} : ∀ {l : List MpE} {i : Nat}, findE x l i = none → ∀ e ∈ l, e.1 ≠ x := by
  intro l
  induction l with
  | nil => intro i _ e h; cases h
  | cons a l ih =>
    intro i h e he
    unfold findE at h
    rw [ieq_b] at h
    cases hb : (x == a.1)
    · rw [hb] at h
      simp only [cond_false] at h
      rcases List.mem_cons.1 he with rfl | he
      · intro hh; rw [hh] at hb; simp at hb
      · exact ih h e he
    · rw [hb] at h; simp only [cond_true] at h; cases h
theorem setV_set {y : Int} : ∀ {l : List MpE} {i : Nat} {e : MpE}, l[i]? = some e → setV y l i = l.set i (e.1, y, e.2.2) := by
  intro l
  induction l with
  | nil => intro i e h; simp at h
  | cons a l ih =>
    intro i e h
    cases i with
    | zero => simp at h; subst h; rfl
    | succ i => rw [List.getElem?_cons_succ] at h; show a :: setV y l i = a :: l.set i _; rw [ih h]
def incM (x : Int) (l : List MpE) (c : Nat) : List MpE × Nat := match findE x l 0 with
  | some e => (setV (e.2.1 + 1) l e.1, c)
  | none => (l ++ [(x, 1, c)], c + 1)
def delM (x : Int) (l : List MpE) : List MpE := match findE x l 0 with
  | some e => l.eraseIdx e.1
  | none => l
def getM (x : Int) (l : List MpE) : Int := match findE x l 0 with
  | some e => e.2.1
  | none => 0
variable {l : List MpE} {c : Nat} {f : Int → Int} {K : Int → Prop} {x : Int}
theorem MpOk.get (M : MpOk l c f K) : getM x l = f x := by
  unfold getM
  cases h : findE x l 0 with
  | some e =>
    obtain ⟨_, h2⟩ := findE_at h
    exact M.val (x, e.2) (List.mem_of_getElem? h2)
  | none => exact (M.zero x fun hk => by obtain ⟨e, he, h2⟩ := (M.key x).2 hk; exact findE_no h e he h2).symm
theorem MpOk.inc (M : MpOk l c f K) : MpOk (incM x l c).1 (incM x l c).2 (fun y => if y = x then f x + 1 else f y) (fun y => K y ∨ y = x) := by
  unfold incM
  cases h : findE x l 0 with
  | some e =>
    obtain ⟨_, h2⟩ := findE_at h
    rw [Nat.sub_zero] at h2
    have hm := List.mem_of_getElem? h2
    have hv := M.val _ hm
    have hK : K x := (M.key x).1 ⟨_, hm, rfl⟩
    dsimp only at hv ⊢
    rw [setV_set h2]
    dsimp only
    have hlt := (List.getElem?_eq_some_iff.1 h2).1
    have hkeys : (l.set e.1 (x, e.2.1 + 1, e.2.2)).map (·.1) = l.map (·.1) := by
      rw [List.map_set]
      apply List.ext_getElem?
      intro j
      rw [List.getElem?_set]
      split
      · rename_i hj; subst hj; rw [if_pos (by simpa using hlt), List.getElem?_map, h2]; rfl
      · rfl
    have hborn : (l.set e.1 (x, e.2.1 + 1, e.2.2)).map (·.2.2) = l.map (·.2.2) := by
      rw [List.map_set]
      apply List.ext_getElem?
      intro j
      rw [List.getElem?_set]
      split
      · rename_i hj; subst hj; rw [if_pos (by simpa using hlt), List.getElem?_map, h2]; rfl
      · rfl
    have hmem : ∀ d ∈ l.set e.1 (x, e.2.1 + 1, e.2.2), d = (x, e.2.1 + 1, e.2.2) ∨ (d ∈ l ∧ d.1 ≠ x) := by
      intro d hd
      obtain ⟨j, hj⟩ := List.getElem?_of_mem hd
      rw [List.getElem?_set] at hj
      by_cases hne : e.1 = j
      · rw [if_pos hne, if_pos hlt] at hj
        cases hj; exact .inl rfl
      · rw [if_neg hne] at hj
        refine .inr ⟨List.mem_of_getElem? hj, fun hh => hne ?_⟩
        have hjl := (List.getElem?_eq_some_iff.1 hj).1
        have a1 : (l.map (·.1))[e.1]? = some x := by rw [List.getElem?_map, h2]; rfl
        have a2 : (l.map (·.1))[j]? = some x := by rw [List.getElem?_map, hj, ← hh]; rfl
        exact (List.getElem?_inj (by simpa using hlt) M.nd).1 (a1.trans a2.symm)
    refine ⟨fun y => ?_, fun d hd => ?_, by rw [hkeys]; exact M.nd, by rw [hborn]; exact M.bn, fun d hd => ?_, fun y hy => ?_⟩
    · have e1 : (∃ d ∈ l.set e.1 (x, e.2.1 + 1, e.2.2), d.1 = y) ↔ y ∈ (l.set e.1 (x, e.2.1 + 1, e.2.2)).map (·.1) := List.mem_map.symm
      rw [e1, hkeys]
      have e2 : y ∈ l.map (·.1) ↔ K y := by rw [← M.key y]; exact List.mem_map
      rw [e2]
      exact ⟨.inl, fun h => h.elim id fun h => h ▸ hK⟩
    · rcases hmem d hd with rfl | ⟨h3, h4⟩
      · dsimp only; rw [if_pos rfl, hv]
      · rw [if_neg h4]; exact M.val d h3
    · rcases hmem d hd with rfl | ⟨h3, _⟩
      · have := M.bl _ hm; exact this
      · exact M.bl d h3
    · rw [if_neg (fun hh => hy (.inr hh))]; exact M.zero y fun hh => hy (.inl hh)
  | none =>
    have hno := findE_no h
    have hnK : ¬ K x := fun hk => by obtain ⟨e, he, h2⟩ := (M.key x).2 hk; exact hno e he h2
    dsimp only
    refine ⟨fun y => ?_, fun d hd => ?_, ?_, ?_, fun d hd => ?_, fun y hy => ?_⟩
    · rw [← M.key y]
      constructor
      · rintro ⟨d, hd, h2⟩
        rcases List.mem_append.1 hd with hd | hd
        · exact .inl ⟨d, hd, h2⟩
        · rw [List.mem_singleton.1 hd] at h2; exact .inr h2.symm
      · rintro (⟨d, hd, h2⟩ | rfl)
        · exact ⟨d, List.mem_append.2 (.inl hd), h2⟩
        · exact ⟨_, List.mem_append.2 (.inr (List.mem_singleton.2 rfl)), rfl⟩
    · rcases List.mem_append.1 hd with hd | hd
      · rw [if_neg (hno d hd)]; exact M.val d hd
      · rw [List.mem_singleton.1 hd]; dsimp only; rw [if_pos rfl, M.zero x hnK]; rfl
    · rw [List.map_append, List.nodup_append]
      refine ⟨M.nd, by simp, fun a ha b hb => ?_⟩
      obtain ⟨d, hd, rfl⟩ := List.mem_map.1 ha
      simp at hb
      rw [hb]; exact hno d hd
    · rw [List.map_append, List.nodup_append]
      refine ⟨M.bn, by simp, fun a ha b hb => ?_⟩
      obtain ⟨d, hd, rfl⟩ := List.mem_map.1 ha
      simp at hb
      have := M.bl d hd
      omega
    · rcases List.mem_append.1 hd with hd | hd
      · have := M.bl d hd; omega
      · rw [List.mem_singleton.1 hd]; dsimp only; omega
    · rw [if_neg (fun hh => hy (.inr hh))]; exact M.zero y fun hh => hy (.inl hh)
theorem MpOk.del (M : MpOk l c f K) : MpOk (delM x l) c (fun y => if y = x then 0 else f y) (fun y => K y ∧ y ≠ x) := by
  unfold delM
  cases h : findE x l 0 with
  | some e =>
    obtain ⟨_, h2⟩ := findE_at h
    rw [Nat.sub_zero] at h2
    have hlt := (List.getElem?_eq_some_iff.1 h2).1
    dsimp only
    have hsub : (l.eraseIdx e.1).Sublist l := List.eraseIdx_sublist ..
    have hmem : ∀ d, d ∈ l.eraseIdx e.1 ↔ d ∈ l ∧ d.1 ≠ x := by
      intro d
      have hl : l = l.take e.1 ++ (x, e.2) :: l.drop (e.1 + 1) := by
        have := List.take_append_drop e.1 l
        rw [List.drop_eq_getElem_cons hlt, (List.getElem?_eq_some_iff.1 h2).2] at this
        exact this.symm
      have hn := M.nd
      rw [hl, List.map_append, List.map_cons, List.nodup_append, List.nodup_cons] at hn
      rw [List.eraseIdx_eq_take_drop_succ]
      have hin : d ∈ l ↔ d ∈ l.take e.1 ++ (x, e.2) :: l.drop (e.1 + 1) := by rw [← hl]
      rw [hin, List.mem_append, List.mem_append, List.mem_cons]
      constructor
      · rintro (h3 | h3)
        · exact ⟨.inl h3, fun hh => hn.2.2 _ (List.mem_map.2 ⟨d, h3, rfl⟩) x (List.mem_cons_self ..) hh⟩
        · exact ⟨.inr (.inr h3), fun hh => hn.2.1.1 (List.mem_map.2 ⟨d, h3, hh⟩)⟩
      · rintro ⟨h3 | rfl | h3, h4⟩
        · exact .inl h3
        · exact absurd rfl h4
        · exact .inr h3
    refine ⟨fun y => ?_, fun d hd => ?_, M.nd.sublist (hsub.map _), M.bn.sublist (hsub.map _), fun d hd => M.bl d ((hmem d).1 hd).1, fun y hy => ?_⟩
    · rw [← M.key y]
      constructor
      · rintro ⟨d, hd, rfl⟩; exact ⟨⟨d, ((hmem d).1 hd).1, rfl⟩, ((hmem d).1 hd).2⟩
      · rintro ⟨⟨d, hd, rfl⟩, h3⟩; exact ⟨d, (hmem d).2 ⟨hd, h3⟩, rfl⟩
    · rw [if_neg ((hmem d).1 hd).2]; exact M.val d ((hmem d).1 hd).1
    · by_cases hh : y = x
      · rw [if_pos hh]
      · rw [if_neg hh]; exact M.zero y fun hk => hy ⟨hk, hh⟩
  | none =>
    have hno := findE_no h
    dsimp only
    refine ⟨fun y => ?_, fun d hd => by rw [if_neg (hno d hd)]; exact M.val d hd, M.nd, M.bn, M.bl, fun y hy => ?_⟩
    · rw [← M.key y]
      exact ⟨fun ⟨d, hd, h2⟩ => ⟨⟨d, hd, h2⟩, fun hh => hno d hd (h2.trans hh)⟩, fun h => h.1⟩
    · by_cases hh : y = x
      · rw [if_pos hh]
      · rw [if_neg hh]; exact M.zero y fun hk => hy ⟨hk, hh⟩
theorem MpOk.len (M : MpOk l c f K) : l.length = 0 ↔ ∀ y, ¬ K y := by
  constructor
  · intro h y hy
    obtain ⟨d, hd, _⟩ := (M.key y).2 hy
    rw [List.eq_nil_of_length_eq_zero h] at hd; cases hd
  · intro h
    cases l with
    | nil => rfl
    | cons a l => exact absurd ((M.key a.1).1 ⟨a, List.mem_cons_self .., rfl⟩) (h a.1)

/-! ### the steps -/
variable {g h : AH} {L R : List SP} {b : Nat} {Q : AV → AH → Prop}
theorem ww_makeMap {K2 : AV → AH → Go.Ae.R} (H : HS g h L) (w : ∀ b h', HS g h' (BlkC b (.mp [] 0) :: L) → wp (K2 (.mapv b) h') Q) : wp (pMakeMap h K2) Q := w _ _ (H.newBlk _)
theorem ww_lenM {K1 : AV → Go.Ae.R} (H : HS g h L) (s : Sel L (BlkC b (.mp l c)) R) (w : wp (K1 (.int .i64 (l.length : Int))) Q) : wp (pLenM h (.mapv b) K1) Q := by
  unfold pLenM
  dsimp only
  rw [H.blk s]
  exact w
theorem ww_lookM {k : IntKind} {K1 : AV → Go.Ae.R} (hk : k = .i64) (H : HS g h L) (s : Sel L (BlkC b (.mp l c)) R) (w : wp (K1 (.int .i64 (getM x l))) Q) : wp (pLookM h (.mapv b) (.int k x) K1) Q := by
  subst hk
  unfold pLookM
  dsimp only
  rw [H.blk s]
  unfold getM at w
  dsimp only
  cases hf : findE x l 0 with
  | some e => rw [hf] at w; exact w
  | none => rw [hf] at w; exact w
theorem ww_delM {K2 : AV → AH → Go.Ae.R} (H : HS g h L) (s : Sel L (BlkC b (.mp l c)) R) (w : ∀ v h', HS g h' (BlkC b (.mp (delM x l) c) :: R) → wp (K2 v h') Q) : wp (pDelM h (.mapv b) (.int .i64 x) K2) Q := by
  unfold pDelM
  dsimp only
  rw [H.blk s]
  dsimp only
  unfold delM at w
  cases hf : findE x l 0 with
  | some e => rw [hf] at w; exact w _ _ (H.putBlk s)
  | none => rw [hf] at w; exact w _ _ (H.putBlk s)
theorem ww_setM {K1 : AH → Go.Ae.R} {z : Int} (hz : z = getM x l + 1) (H : HS g h L) (s : Sel L (BlkC b (.mp l c)) R) (w : ∀ h', HS g h' (BlkC b (.mp (incM x l c).1 (incM x l c).2) :: R) → wp (K1 h') Q) : wp (pSetM h (.mapv b) (.int .i64 x) (.int .i64 z) K1) Q := by
  subst hz
  unfold pSetM
  dsimp only
  rw [H.blk s]
  dsimp only
  unfold incM at w
  unfold getM
  cases hf : findE x l 0 with
  | some e => rw [hf] at w; exact w _ (H.putBlk s)
  | none => rw [hf] at w; exact w _ (H.putBlk s)
end Go.Proofs.YtcmjgcfkhommkaaGreatDoor
namespace Go.Proofs.YtcmjgcfkhommkaaGreatDoor
open Go Go.Ae
set_option maxRecDepth 100000

abbrev RstT : Type := Int × Int
def encT (x : RstT) : List AV := [.int .i64 x.1, .int .u64 x.2]
/-- what can be read of rows of blocks at rest, as long as R stands -/
def RdT (g : AH) (R : List SP) (v : AV) (rows : List (List RstT)) : Prop := ∃ rs : List AV, rs.length = rows.length ∧ Rd g R 1 rows.length v rs ∧
  ∀ (i : Nat) (r : AV) (l : List RstT), rs[i]? = some r → rows[i]? = some l → Rd g R 2 l.length r (l.flatMap encT)
def atsT (rows : List (List RstT)) : List Int := rows.flatten.map (·.1)
def partsP (zs : List Int) (rows : List (List RstT)) : Bool := match blocksM zs, listsM zs with
  | some bs, some ls => partsB bs ls.flatten (atsT rows)
  | _, _ => false
theorem partsP_b {zs : List Int} {rows : List (List RstT)} (h : blocksM zs = none) : partsP zs rows = false := by unfold partsP; rw [h]
theorem partsP_l {zs : List Int} {rows : List (List RstT)} (h : listsM zs = none) : partsP zs rows = false := by unfold partsP; rw [h]; split <;> first | rfl | contradiction
theorem partsP_s {zs : List Int} {rows : List (List RstT)} {bs : List BlkT} {ls : List (List Int)} (h : blocksM zs = some bs) (h2 : listsM zs = some ls) : partsP zs rows = partsB bs ls.flatten (atsT rows) := by unfold partsP; rw [h, h2]

def cntF (pre : List Int) : Int → Int := fun x => ((pre.count x : Nat) : Int)
def CntM (l : List MpE) (c : Nat) (pre : List Int) : Prop := MpOk l c (cntF pre) (fun x => x ∈ pre)
theorem CntM.nil : CntM [] 0 [] := by
  have e1 : cntF [] = fun _ => 0 := by funext x; rfl
  have e2 : (fun x : Int => x ∈ ([] : List Int)) = fun _ => False := by funext x; simp
  unfold CntM
  rw [e1, e2]; exact MpOk.nil
theorem CntM.push {l : List MpE} {c : Nat} {pre : List Int} (M : CntM l c pre) (x : Int) : CntM (incM x l c).1 (incM x l c).2 (pre ++ [x]) := by
  have h := MpOk.inc (x := x) M
  have e1 : cntF (pre ++ [x]) = fun y => if y = x then cntF pre x + 1 else cntF pre y := by
    funext y
    unfold cntF
    rw [List.count_append]
    by_cases e : y = x
    · subst e; rw [if_pos rfl]; simp
    · rw [if_neg e]
      have : ([x] : List Int).count y = 0 := List.count_eq_zero.2 (by simpa using e)
      omega
  have e2 : (fun y : Int => y ∈ pre ++ [x]) = fun y => y ∈ pre ∨ y = x := by funext y; simp
  unfold CntM
  rw [e1, e2]; exact h
theorem CntM.get {l : List MpE} {c : Nat} {pre : List Int} (M : CntM l c pre) {x : Int} : getM x l = ((pre.count x : Nat) : Int) := MpOk.get M

/-- what the map still holds behind the first blocks -/
def LefM (l : List MpE) (c : Nat) (all ds : List Int) : Prop := MpOk l c (fun y => if y ∈ ds then 0 else ((all.count y : Nat) : Int)) (fun y => y ∈ all ∧ y ∉ ds)
theorem CntM.lef {l : List MpE} {c : Nat} {all : List Int} (M : CntM l c all) : LefM l c all [] := by
  have e1 : cntF all = fun y => if y ∈ ([] : List Int) then 0 else ((all.count y : Nat) : Int) := by funext y; simp [cntF]
  have e2 : (fun x : Int => x ∈ all) = fun y => y ∈ all ∧ y ∉ ([] : List Int) := by funext y; simp
  unfold LefM
  rw [← e1, ← e2]; exact M
theorem LefM.del {l : List MpE} {c : Nat} {all ds : List Int} (M : LefM l c all ds) (x : Int) : LefM (delM x l) c all (ds ++ [x]) := by
  have h := MpOk.del (x := x) M
  have e1 : (fun y => if y ∈ ds ++ [x] then (0 : Int) else ((all.count y : Nat) : Int)) = fun y => if y = x then 0 else if y ∈ ds then 0 else ((all.count y : Nat) : Int) := by
    funext y
    by_cases e : y = x
    · subst e; simp
    · by_cases e2 : y ∈ ds <;> simp [e, e2]
  have e2 : (fun y : Int => y ∈ all ∧ y ∉ ds ++ [x]) = fun y => (y ∈ all ∧ y ∉ ds) ∧ y ≠ x := by
    funext y
    simp only [List.mem_append, List.mem_singleton, not_or, and_assoc, ne_eq]
  unfold LefM
  rw [e1, e2]; exact h
theorem LefM.get {l : List MpE} {c : Nat} {all ds : List Int} (M : LefM l c all ds) {x : Int} (hx : x ∉ ds) : getM x l = ((all.count x : Nat) : Int) := by
  have := MpOk.get (x := x) M
  rw [this, if_neg hx]
/-- what is asked of a block -/
def blkB (all : List Int) (b : BlkT) : Bool := decide (b.2.2 = true ↔ all.count b.1 = 0) && decide (all.count b.1 ≤ 1)
theorem partsB_e {bs : List BlkT} {fs rs : List Int} : partsB bs fs rs = (bs.all (blkB (fs ++ rs)) && (fs ++ rs).all fun x => bs.any fun b => decide (b.1 = x)) := rfl
theorem LefM.done {l : List MpE} {c : Nat} {all : List Int} {bs : List BlkT} (M : LefM l c all (bs.map (·.1))) : decide (((l.length : Nat) : Int) = 0) = all.all fun x => bs.any fun b => decide (b.1 = x) := by
  have h := MpOk.len M
  rw [Bool.eq_iff_iff, decide_eq_true_iff, List.all_eq_true]
  have e : ((l.length : Nat) : Int) = 0 ↔ l.length = 0 := by omega
  rw [e, h]
  constructor
  · intro hh x hx
    have := hh x
    rw [List.any_eq_true]
    have h2 : x ∈ bs.map (·.1) := Classical.byContradiction fun hn => this ⟨hx, hn⟩
    obtain ⟨b, hb, e⟩ := List.mem_map.1 h2
    exact ⟨b, hb, by simpa using e⟩
  · rintro hh y ⟨hy, hn⟩
    obtain ⟨b, hb, e⟩ := List.any_eq_true.1 (hh y hy)
    exact hn (List.mem_map.2 ⟨b, hb, by simpa using e⟩)

variable {g h : AH} {L R : List SP}

theorem ww_beqJ {a b neg t : Bool} {K : AV → Go.Ae.R} {Q : AV → AH → Prop} (ht : ((a == b) != neg) = t) (w : wp (K (.bool t)) Q) : wp (pEq .bool neg (.bool a) (.bool b) K) Q := by
  subst ht; exact w
theorem rows_rd {e : TypeId} {v : AV} {rs : List AV} {ls : List (List Int)} (R : List SP) {i : Nat} {r : AV} {l : List Int} (hr : rs[i]? = some r) (hl : ls[i]? = some l) :
    Rd g (SliC e 1 ls.length v rs :: .all (List.zipWith RowI rs ls) :: R) 1 l.length r (l.map (.int .i64)) := by
  intro h H
  obtain ⟨T, s⟩ := zip_selI hr hl
  have H2 := (H.drop.allE).sel (Sel.app s R)
  exact HS.sl (e := 3) H2 .here
theorem RdT.more {P : SP} {v : AV} {rows : List (List RstT)} (S : RdT g R v rows) : RdT g (P :: R) v rows := by
  obtain ⟨rs, e, a, b⟩ := S
  exact ⟨rs, e, a.more, fun i r l h1 h2 => (b i r l h1 h2).more⟩
theorem take_flat {α : Type} {ls : List (List α)} {i : Nat} {l : List α} (h : ls[i]? = some l) : (ls.take (i + 1)).flatten = (ls.take i).flatten ++ l := by
  rw [List.take_add_one, h]; simp
theorem take_map1 {α β : Type} {f : α → β} {ls : List α} {i : Nat} {x : α} (h : ls[i]? = some x) : (ls.take (i + 1)).map f = (ls.take i).map f ++ [f x] := by
  rw [List.take_add_one, h]; simp

theorem aparts_ok {n : Nat} (hn : 7 ≤ n) {zs : List Int} {a0 a1 : AV} {rows : List (List RstT)} (H : HS g h R) (S : Rd g R 1 zs.length a0 (zs.map (.int .u64))) (hz : ∀ z ∈ zs, 0 ≤ z ∧ z < 18446744073709551616) (T : RdT g R a1 rows)
    (hr1 : rows.length ≤ 1000) (hr2 : ∀ l ∈ rows, l.length ≤ 1000) :
    wp (callT tab rtab n (.fn 9 [] []) [a0, a1] h) fun r h' => r = .bool (partsP zs rows) ∧ HS g h' R := by
  (refine ww_fn (g := W9) rfl (by omega) fun k hk => ?_; show wp (S9 (callT tab rtab k) _ _ _) _; unfold S9; try simp only [Int.ofNat_eq_natCast])
  refine ww_call (ablocks_ok (by omega) H S hz) ?_
  rintro _ h1 ⟨bv, rfl, H1⟩
  cases hB : blocksM zs with
  | none =>
    rw [hB] at H1
    simp only [Option.isSome_none, Bool.false_eq_true, if_false]
    with_reducible (refine ww_extract (by with_unfolding_all exact rfl) ?_; refine ww_extract (by with_unfolding_all exact rfl) ?_; refine ww_neqT (by omega) ?_; refine ww_condT ?_)
    exact ww_ret ⟨by rw [partsP_b hB], H1.drop⟩
  | some bs =>
  rw [hB] at H1
  simp only [Option.isSome_some, if_true]
  refine ww_extract rfl (ww_extract rfl (ww_neqF rfl (ww_condF ?_)))
  refine ww_call (alists_ok (by omega) H1 S.more hz) ?_
  rintro _ h2 ⟨lv, rfl, H2⟩
  cases hL : listsM zs with
  | none =>
    rw [hL] at H2
    simp only [Option.isSome_none, Bool.false_eq_true, if_false]
    with_reducible (refine ww_extract (by with_unfolding_all exact rfl) ?_; refine ww_extract (by with_unfolding_all exact rfl) ?_; refine ww_neqT (by omega) ?_; refine ww_condT ?_)
    exact ww_ret ⟨by rw [partsP_l hL], H2.drop.drop⟩
  | some ls =>
  rw [hL] at H2
  simp only [Option.isSome_some, if_true]
  refine ww_extract rfl (ww_extract rfl (ww_neqF rfl (ww_condF ?_)))
  rw [partsP_s hB hL, partsB_e]
  have H2 : HS g h2 (LlC lv ls :: SliC 76 3 bs.length bv (bs.flatMap encB) :: R) := H2
  obtain ⟨rs, hrs, H3⟩ := LlC.E H2
  obtain ⟨ts, hts, TS, TR⟩ := T
  have back : ∀ h', HS g h' (SliC 38 1 ls.length lv rs :: .all (List.zipWith RowI rs ls) :: SliC 76 3 bs.length bv (bs.flatMap encB) :: R) → HS g h' R := fun h' H => H.drop.drop.drop
  have LS : Rd g (SliC 38 1 ls.length lv rs :: .all (List.zipWith RowI rs ls) :: SliC 76 3 bs.length bv (bs.flatMap encB) :: R) 1 ls.length lv rs := Rd.own .here
  have LR := fun (i : Nat) (r : AV) (l : List Int) (h1 : rs[i]? = some r) (h2 : ls[i]? = some l) => rows_rd (g := g) (e := 38) (v := lv) (SliC 76 3 bs.length bv (bs.flatMap encB) :: R) h1 h2
  have BS : Rd g (SliC 38 1 ls.length lv rs :: .all (List.zipWith RowI rs ls) :: SliC 76 3 bs.length bv (bs.flatMap encB) :: R) 3 bs.length bv (bs.flatMap encB) := Rd.own (.there (.there .here))
  have TS2 : Rd g (SliC 38 1 ls.length lv rs :: .all (List.zipWith RowI rs ls) :: SliC 76 3 bs.length bv (bs.flatMap encB) :: R) 1 rows.length a1 ts := TS.more.more.more
  have TR2 := fun (i : Nat) (r : AV) (l : List RstT) (h1 : ts[i]? = some r) (h2 : rows[i]? = some l) => ((TR i r l h1 h2).more (P := SliC 76 3 bs.length bv (bs.flatMap encB))).more (P := .all (List.zipWith RowI rs ls)) |>.more (P := SliC 38 1 ls.length lv rs)
  generalize (SliC 38 1 ls.length lv rs :: .all (List.zipWith RowI rs ls) :: SliC 76 3 bs.length bv (bs.flatMap encB) :: R) = F at *
  clear TS TR H2 H1 H S
  obtain ⟨hb0, hb1, hb2⟩ := lls_b hL
  have hbl := blocks_len hB
  have hup := (blocksM_up hB).nodup
  refine ww_makeMap H3 fun mb h4 H4 => ?_
  refine ww_len (LS.sl H4.drop) ?_
  refine ww_iter (fun m s h' => ∃ (i : Nat) (l : List MpE) (c : Nat), s = (.int .i64 (i : Int), .int .i64 (ls.length : Int), lv, .mapv mb, bv, a1, ()) ∧ i ≤ ls.length ∧ m = ls.length - i ∧ HS g h' (BlkC mb (.mp l c) :: F) ∧ CntM l c (ls.take i).flatten ∧ (ls.take i).flatten.length ≤ 301 * i)
    ?_ (m := ls.length) (by show _ < 1000000000; omega) ⟨0, [], 0, rfl, by omega, by omega, H4, by simpa using CntM.nil, by simp⟩
  clear H4 H3
  rintro m ih s h5 hih ⟨i, l, c, rfl, hi1, rfl, H, M, hc⟩
  dsimp only
  refine ww_lssC (fun hlt => ww_condT ?_) fun hge => ww_condF ?_
  · have hi : i < ls.length := by omega
    have gi : rs[i]? = some rs[i] := List.getElem?_eq_getElem (by omega)
    have gl : ls[i]? = some ls[i] := List.getElem?_eq_getElem hi
    have RI := LR i _ _ gi gl
    have hl1 := hb1 ls[i] (List.getElem_mem hi)
    have htf := take_flat gl
    generalize ls[i] = row at *
    refine ww_idx1 (LS.sl H.drop) gi ?_
    generalize rs[i] = rv at *
    refine ww_len (RI.sl H.drop) ?_
    refine ww_iter (fun m s h' => ∃ (j : Nat) (l : List MpE) (c : Nat), s = (.int .i64 (j : Int), .int .i64 (row.length : Int), rv, .int .i64 (i : Int), .int .i64 (ls.length : Int), lv, .mapv mb, bv, a1, ()) ∧ j ≤ row.length ∧ m = row.length - j ∧ HS g h' (BlkC mb (.mp l c) :: F) ∧ CntM l c ((ls.take i).flatten ++ row.take j))
      ?_ (m := row.length) (by show _ < 1000000000; omega) ⟨0, l, c, rfl, by omega, by omega, H, by simpa using M⟩
    clear H M
    rintro m2 ih2 s h6 hih2 ⟨j, l, c, rfl, hj1, rfl, H, M⟩
    dsimp only
    refine ww_lssC (fun hlt => ww_condT ?_) fun hge => ww_condF ?_
    · have hj : j < row.length := by omega
      have gj : row[j]? = some row[j] := List.getElem?_eq_getElem hj
      refine ww_idx1 (RI.sl H.drop) (x := .int .i64 row[j]) (by rw [List.getElem?_map, gj]; rfl) ?_
      have htk : row.take (j + 1) = row.take j ++ [row[j]] := by rw [List.take_add_one, gj]; rfl
      generalize row[j] = x at *
      have hcx : ((ls.take i).flatten ++ row.take j).count x ≤ 301 * i + 301 := by
        refine Nat.le_trans List.count_le_length ?_
        rw [List.length_append, List.length_take]; omega
      refine ww_lookM rfl H .here ?_
      rw [M.get]
      refine ww_addI (by omega) (ww_setM (by rw [M.get]; rfl) H .here fun h7 H7 => ww_addI (by omega) (hih2 (row.length - (j + 1)) _ _ (by omega) ⟨j + 1, _, _, rfl, by omega, rfl, H7, ?_⟩))
      rw [htk, ← List.append_assoc]
      exact M.push x
    · refine ww_addI (by omega) (hih (ls.length - (i + 1)) _ _ (by omega) ⟨i + 1, l, c, rfl, by omega, rfl, H, ?_, ?_⟩)
      · rw [htf]
        rw [List.take_of_length_le (by omega : row.length ≤ j)] at M
        exact M
      · rw [htf, List.length_append]; omega
  rw [List.take_of_length_le (by omega : ls.length ≤ i)] at M hc
  have hc : ls.flatten.length ≤ 1204 := by omega
  clear hge hih ih LR LS hrs hi1 hb1 hb2 hL
  generalize ls.flatten = fs at *
  refine ww_len (TS2.sl H.drop) ?_
  refine ww_iter (fun m s h' => ∃ (i : Nat) (l : List MpE) (c : Nat), s = (.int .i64 (i : Int), .int .i64 (rows.length : Int), a1, .mapv mb, bv, ()) ∧ i ≤ rows.length ∧ m = rows.length - i ∧ HS g h' (BlkC mb (.mp l c) :: F) ∧ CntM l c (fs ++ atsT (rows.take i)) ∧ (atsT (rows.take i)).length ≤ 1000 * i)
    ?_ (m := rows.length) (by show _ < 1000000000; omega) ⟨0, l, c, rfl, by omega, by omega, H, by simpa [atsT] using M, by simp [atsT]⟩
  clear H M
  rintro m ih s h5 hih ⟨i, l, c, rfl, hi1, rfl, H, M, hcr⟩
  dsimp only
  refine ww_lssC (fun hlt => ww_condT ?_) fun hge => ww_condF ?_
  · have hi : i < rows.length := by omega
    have gi : ts[i]? = some ts[i] := List.getElem?_eq_getElem (by omega)
    have gl : rows[i]? = some rows[i] := List.getElem?_eq_getElem hi
    have RI := TR2 i _ _ gi gl
    have hl1 := hr2 rows[i] (List.getElem_mem hi)
    have htf : atsT (rows.take (i + 1)) = atsT (rows.take i) ++ rows[i].map (·.1) := by unfold atsT; rw [take_flat gl, List.map_append]
    generalize rows[i] = row at *
    refine ww_idx1 (TS2.sl H.drop) gi ?_
    generalize ts[i] = rv at *
    refine ww_len (RI.sl H.drop) ?_
    refine ww_iter (fun m s h' => ∃ (j : Nat) (l : List MpE) (c : Nat), s = (.int .i64 (j : Int), .int .i64 (row.length : Int), rv, .int .i64 (i : Int), .int .i64 (rows.length : Int), a1, .mapv mb, bv, ()) ∧ j ≤ row.length ∧ m = row.length - j ∧ HS g h' (BlkC mb (.mp l c) :: F) ∧ CntM l c (fs ++ atsT (rows.take i) ++ (row.take j).map (·.1)))
      ?_ (m := row.length) (by show _ < 1000000000; omega) ⟨0, l, c, rfl, by omega, by omega, H, by simpa using M⟩
    clear H M
    rintro m2 ih2 s h6 hih2 ⟨j, l, c, rfl, hj1, rfl, H, M⟩
    dsimp only
    refine ww_lssC (fun hlt => ww_condT ?_) fun hge => ww_condF ?_
    · have hj : j < row.length := by omega
      have gj : row[j]? = some row[j] := List.getElem?_eq_getElem hj
      have htk := take_map1 (f := fun x : RstT => x.1) gj
      have hcell : ((row.flatMap encT).drop (j * 2)).take 2 = encT row[j] := by
        rw [flat_drop (sz := 2) encT (fun _ => rfl), List.drop_eq_getElem_cons hj, List.flatMap_cons]; rfl
      generalize row[j] = xx at *
      obtain ⟨x, y⟩ := xx
      refine ww_idxN (RI.sl H.drop) hj (by omega) hcell ?_
      have hcx : (fs ++ atsT (rows.take i) ++ (row.take j).map (·.1)).count x ≤ 1204 + 1000 * i + 1000 := by
        refine Nat.le_trans List.count_le_length ?_
        rw [List.length_append, List.length_append, List.length_map, List.length_take]; omega
      refine ww_boxA H rfl fun b h7 H7 => ?_
      refine ww_stH H7 .here rfl (by decide) rfl fun h8 H8 => ?_
      refine ww_field0 (ww_ldH H8 .here (x := .int .i64 x) rfl ?_)
      refine ww_lookM rfl H8 (.there .here) ?_
      rw [M.get]
      refine ww_addI (by omega) (ww_setM (by rw [M.get]; rfl) H8 (.there .here) fun h9 H9 => ww_addI (by omega) (hih2 (row.length - (j + 1)) _ _ (by omega) ⟨j + 1, _, _, rfl, by omega, rfl, H9.sub (.cons .here (.drop (.refl))), ?_⟩))
      rw [htk, ← List.append_assoc]
      exact M.push x
    · refine ww_addI (by omega) (hih (rows.length - (i + 1)) _ _ (by omega) ⟨i + 1, l, c, rfl, by omega, rfl, H, ?_, ?_⟩)
      · rw [htf, ← List.append_assoc]
        rw [List.take_of_length_le (by omega : row.length ≤ j)] at M
        exact M
      · rw [htf, List.length_append, List.length_map]; omega
  rw [List.take_of_length_le (by omega : rows.length ≤ i)] at M
  clear hge hih ih TR2 TS2 hi1 hts hcr hr2
  have M := M.lef
  generalize fs ++ atsT rows = all at *
  refine ww_len (BS.sl H.drop) ?_
  refine ww_iter (fun m s h' => ∃ (i : Nat) (l : List MpE) (c : Nat), s = (.int .i64 (i : Int), .int .i64 (bs.length : Int), bv, .mapv mb, ()) ∧ i ≤ bs.length ∧ m = bs.length - i ∧ HS g h' (BlkC mb (.mp l c) :: F) ∧ LefM l c all ((bs.take i).map (·.1)) ∧
      (bs.all (blkB all) && all.all fun x => bs.any fun b => decide (b.1 = x)) = ((bs.drop i).all (blkB all) && all.all fun x => bs.any fun b => decide (b.1 = x)))
    ?_ (m := bs.length) (by show _ < 1000000000; omega) ⟨0, l, c, rfl, by omega, by omega, H, M, rfl⟩
  clear H M
  rintro m ih s h5 hih ⟨i, l, c, rfl, hi1, rfl, H, M, hh⟩
  dsimp only
  refine ww_lssC (fun hlt => ww_condT ?_) fun hge => ww_condF ?_
  · have hi : i < bs.length := by omega
    have gl : bs[i]? = some bs[i] := List.getElem?_eq_getElem hi
    have htk := take_map1 (f := fun x : BlkT => x.1) gl
    have hcell : ((bs.flatMap encB).drop (i * 3)).take 3 = encB bs[i] := by
      rw [flat_drop (sz := 3) encB (fun _ => rfl), List.drop_eq_getElem_cons hi, List.flatMap_cons]; rfl
    have hno : bs[i].1 ∉ (bs.take i).map (·.1) := by
      intro hm
      have e : bs.map (·.1) = (bs.take i).map (·.1) ++ bs[i].1 :: (bs.drop (i + 1)).map (·.1) := by
        rw [← List.map_cons (f := fun x : BlkT => x.1), ← List.drop_eq_getElem_cons hi, ← List.map_append, List.take_append_drop]
      rw [e] at hup
      exact (List.nodup_append.1 hup).2.2 _ hm _ (List.mem_cons_self ..) rfl
    rw [List.drop_eq_getElem_cons hi, List.all_cons] at hh
    generalize bs[i] = bb at *
    obtain ⟨p, q, lvb⟩ := bb
    refine ww_idxN (BS.sl H.drop) hi (by omega) hcell ?_
    refine ww_boxA H rfl fun b h7 H7 => ?_
    refine ww_stH H7 .here rfl (by decide) rfl fun h8 H8 => ?_
    refine ww_field0 (ww_ldH H8 .here (x := .bool lvb) rfl ?_)
    refine ww_field0 (ww_ldH H8 .here (x := .int .i64 p) rfl ?_)
    refine ww_lookM rfl H8 (.there .here) ?_
    rw [M.get hno]
    refine ww_eql (ww_beqJ rfl ?_)
    refine ww_join (fun s g' => ∃ (r : AV) (t x : Bool), s = (r, .bool t, .int .i64 (i : Int), .int .i64 (bs.length : Int), bv, .ptr b 0, .mapv mb, ()) ∧ g' = h8 ∧ (t = false → r = .bool x) ∧ (t || x) = !blkB all (p, q, lvb)) ?_ ?_
    · intro j hj
      refine ww_wantB (fun ht => ?_) (fun ht => hj _ _ ⟨_, _, false, rfl, rfl, fun h => absurd h (by rw [ht]; simp), ?_⟩)
      · refine ww_field0 (ww_ldH H8 .here (x := .int .i64 p) rfl ?_)
        refine ww_lookM rfl H8 (.there .here) ?_
        rw [M.get hno]
        refine ww_gtr (hj _ _ ⟨_, _, _, rfl, rfl, fun _ => rfl, ?_⟩)
        rw [ht, Bool.false_or]
        have h2 : decide (lvb = true ↔ all.count p = 0) = true := by
          have e : (lvb == decide (((all.count p : Nat) : Int) = ((0 : Nat) : Int))) = true := by simpa using ht
          have e := eq_of_beq e
          refine decide_eq_true ?_
          rw [e, decide_eq_true_iff]; omega
        unfold blkB
        dsimp only
        rw [h2, Bool.true_and, ← decide_not]
        exact decide_eq_decide.2 (by omega)
      · rw [ht]
        have h2 : decide (lvb = true ↔ all.count p = 0) = false := by
          have e : (lvb == decide (((all.count p : Nat) : Int) = ((0 : Nat) : Int))) = false := by simpa using ht
          refine decide_eq_false fun hq => ?_
          have : lvb = decide (((all.count p : Nat) : Int) = ((0 : Nat) : Int)) := by
            rw [Bool.eq_iff_iff, hq, decide_eq_true_iff]; omega
          rw [← this] at e
          simp at e
        unfold blkB
        dsimp only
        rw [h2]; rfl
    rintro s h9 ⟨r, t, x, rfl, e9, hr, htx⟩
    rw [e9]
    dsimp only
    have pk : ∀ {K : AV → Go.Ae.R} {Q : AV → AH → Prop}, wp (K (.bool (t || x))) Q → wp (pPick (.bool t) (.bool true) r K) Q := by
      intro K Q w
      cases t
      · rw [hr rfl]; exact w
      · exact w
    refine pk ?_
    rw [htx]
    cases hq : blkB all (p, q, lvb)
    · refine ww_condT (ww_leave (ww_ret ⟨?_, back _ H8.drop.drop⟩))
      rw [hh, hq]; rfl
    · refine ww_condF (ww_field0 (ww_ldH H8 .here (x := .int .i64 p) rfl (ww_delM H8 (.there .here) fun _ h10 H10 => ww_addI (by omega) (hih (bs.length - (i + 1)) _ _ (by omega) ⟨i + 1, _, _, rfl, by omega, rfl, H10.sub (.cons .here (.drop (.refl))), ?_, ?_⟩))))
      · rw [htk]; exact M.del p
      · rw [hh, hq, Bool.true_and]
  · rw [List.take_of_length_le (by omega : bs.length ≤ i)] at M
    rw [List.drop_of_length_le (by omega : bs.length ≤ i)] at hh
    refine ww_lenM H .here (ww_eql (ww_leave (ww_ret ⟨?_, back _ H.drop⟩)))
    rw [hh]
    have := M.done
    rw [List.all_nil, Bool.true_and, ← this]
    rfl
end Go.Proofs.YtcmjgcfkhommkaaGreatDoor
namespace Go.Proofs.YtcmjgcfkhommkaaGreatDoor
open Go Go.Ae
set_option maxRecDepth 100000

variable {g h : AH} {L R : List SP}

theorem count_push (pre : List Int) (x p : Int) : (pre ++ [x]).count p = pre.count p + if x = p then 1 else 0 := by
  rw [List.count_append]
  by_cases e : x = p
  · subst e; rw [if_pos rfl]; simp
  · rw [if_neg e]
    have : ([x] : List Int).count p = 0 := List.count_eq_zero.2 (by simpa using fun h : p = x => e h.symm)
    omega

theorem flat_le {α : Type} {n : Nat} : ∀ {ls : List (List α)}, (∀ l ∈ ls, l.length ≤ n) → ls.flatten.length ≤ n * ls.length := by
  intro ls
  induction ls with
  | nil => intro _; simp
  | cons a l ih =>
    intro hb
    have h1 := ih fun x hx => hb x (List.mem_cons_of_mem _ hx)
    have h2 := hb a (List.mem_cons_self ..)
    rw [List.flatten_cons, List.length_append, List.length_cons, Nat.mul_succ]; omega

theorem rparts_ok {n : Nat} (hn : 7 ≤ n) {zs : List Int} {a0 a1 : AV} {rows : List (List RstT)} (H : HS g h R) (S : Rd g R 1 zs.length a0 (zs.map (.int .u64))) (hz : ∀ z ∈ zs, 0 ≤ z ∧ z < 18446744073709551616) (T : RdT g R a1 rows)
    (hr1 : rows.length ≤ 1000) (hr2 : ∀ l ∈ rows, l.length ≤ 1000) :
    wp (callT tab rtab n (.fn 12 [] []) [a0, a1] h) fun r h' => r = .bool (partsP zs rows) ∧ HS g h' R := by
  (refine ww_fn (g := W12) rfl (by omega) fun k hk => ?_; show wp (S12 (callT tab rtab k) _ _ _) _; unfold S12; try simp only [Int.ofNat_eq_natCast])
  refine ww_call (rblocks_ok (by omega) H S hz) ?_
  rintro _ h1 ⟨bv, rfl, H1⟩
  refine ww_extract rfl (ww_extract rfl ?_)
  refine ww_call (rlists_ok (by omega) H1 S.more hz) ?_
  rintro _ h2 ⟨lv, rfl, H2⟩
  refine ww_extract rfl (ww_extract rfl ?_)
  cases hB : blocksM zs with
  | none =>
    simp only [Option.isSome_none]
    with_reducible (refine ww_notF ?_; refine ww_joinS ?_; (try dsimp only); refine ww_wantTF ?_; (try dsimp only); refine ww_pickT ?_; refine ww_condT ?_)
    exact ww_ret ⟨by rw [partsP_b hB], H2.drop.drop⟩
  | some bs =>
  cases hL : listsM zs with
  | none =>
    simp only [Option.isSome_none, Option.isSome_some]
    with_reducible (refine ww_notT ?_; refine ww_joinS ?_; (try dsimp only); refine ww_wantFF ?_; (try dsimp only); refine ww_notF ?_; refine ww_pickF ?_; refine ww_condT ?_)
    exact ww_ret ⟨by rw [partsP_l hL], H2.drop.drop⟩
  | some ls =>
  rw [hB, hL] at H2
  simp only [Option.isSome_some]
  refine ww_notT (ww_joinS (ww_wantFF (ww_notT (ww_pickF (ww_condF ?_)))))
  have hfs : ∀ x ∈ ls.flatten, ∃ b ∈ bs, b.1 = x := by
    intro x hx
    obtain ⟨l, hl, hx⟩ := List.mem_flatten.1 hx
    obtain ⟨bs2, hb, hi⟩ := lists_in hL
    rw [hB] at hb
    cases hb
    obtain ⟨b, hb, e, _⟩ := hi l hl x hx
    exact ⟨b, hb, e⟩
  rw [partsP_s hB hL, parts_same (blocksM_up hB) hfs]
  unfold partsD
  have H2 : HS g h2 (LlC lv ls :: SliC 76 3 bs.length bv (bs.flatMap encB) :: R) := H2
  obtain ⟨rs, hrs, H3⟩ := LlC.E H2
  obtain ⟨ts, hts, TS, TR⟩ := T
  have back : HS g h2 R := H3.drop.drop.drop
  have LS : Sl (fun _ => True) h2 1 ls.length lv rs := H3.sl .here
  have LR := fun (i : Nat) (r : AV) (l : List Int) (h1 : rs[i]? = some r) (h2 : ls[i]? = some l) => (rows_rd (g := g) (e := 38) (v := lv) (SliC 76 3 bs.length bv (bs.flatMap encB) :: R) h1 h2).sl H3
  have BS : Sl (fun _ => True) h2 3 bs.length bv (bs.flatMap encB) := H3.sl (.there (.there .here))
  have TS2 : Sl (fun _ => True) h2 1 rows.length a1 ts := TS.sl back
  have TR2 := fun (i : Nat) (r : AV) (l : List RstT) (h1 : ts[i]? = some r) (h2 : rows[i]? = some l) => (TR i r l h1 h2).sl back
  clear TS TR H2 H1 H S H3
  obtain ⟨hb0, hb1, hb2⟩ := lls_b hL
  have hbl := blocks_len hB
  have hfl : ls.flatten.length ≤ 301 * ls.length := flat_le hb1
  have hrl : (atsT rows).length ≤ 1000 * rows.length := by unfold atsT; rw [List.length_map]; exact flat_le hr2
  refine ww_iter (fun m s h' => ∃ i q : Nat, s = (.int .i64 (i : Int), .int .i64 (q : Int), lv, bv, a1, ()) ∧ i ≤ bs.length ∧ m = bs.length - i ∧ h' = h2 ∧ q = ((bs.take i).map fun b => (atsT rows).count b.1).sum ∧ q ≤ 1000000 * i ∧
      (bs.all (fun b => decide (countB b ls.flatten (atsT rows) = 1)) && decide ((bs.map fun b => (atsT rows).count b.1).sum = (atsT rows).length)) =
      ((bs.drop i).all (fun b => decide (countB b ls.flatten (atsT rows) = 1)) && decide ((bs.map fun b => (atsT rows).count b.1).sum = (atsT rows).length)))
    ?_ (m := bs.length) (by show _ < 1000000000; omega) ⟨0, 0, rfl, by omega, by omega, rfl, rfl, by omega, rfl⟩
  rintro m ih s h3 hih ⟨i, q, rfl, hi1, rfl, e3, hq, hq2, hh⟩
  rw [e3]
  dsimp only
  refine ww_len BS (ww_lssC (fun hlt => ww_condT ?_) fun hge => ww_condF ?_)
  · have hi : i < bs.length := by omega
    have gi : bs[i]? = some bs[i] := List.getElem?_eq_getElem hi
    have htk := take_map1 (f := fun b : BlkT => (atsT rows).count b.1) gi
    have hcell : ∀ f, f < 3 → (bs.flatMap encB)[i * 3 + f]? = (encB bs[i])[f]? := by
      intro f hf; rw [flat_get (sz := 3) encB (fun _ => rfl) _ _ _ hf, gi]; rfl
    rw [List.drop_eq_getElem_cons hi, List.all_cons] at hh
    generalize bs[i] = bb at *
    obtain ⟨p, cl, lvb⟩ := bb
    refine ww_joinD [] (fun s g' => ∃ k : Nat, s = (.int .i64 (k : Int), .int .i64 (i : Int), .int .i64 (q : Int), lv, bv, a1, ()) ∧ g' = h2 ∧ k = (if lvb = true then 1 else 0)) ?_ ?_
    · intro j hj
      refine ww_idxF (x := .bool lvb) BS (by omega) hi (hcell 2 (by omega)) ?_
      cases lvb
      · exact ww_condF (hj _ _ ⟨0, rfl, rfl, rfl⟩)
      · exact ww_condT (ww_addI (by omega) (hj _ _ ⟨1, rfl, rfl, rfl⟩))
    rintro s h4 ⟨k0, rfl, e4, hk0⟩
    rw [e4]
    dsimp only
    have hk1 : k0 ≤ 1 := by rw [hk0]; split <;> omega
    -- the lists
    refine ww_iter (fun m s h' => ∃ c k : Nat, s = (.int .i64 (c : Int), .int .i64 (k : Int), .int .i64 (i : Int), .int .i64 (q : Int), lv, bv, a1, ()) ∧ c ≤ ls.length ∧ m = ls.length - c ∧ h' = h2 ∧ k = k0 + (ls.take c).flatten.count p ∧ k ≤ 1 + 301 * c)
      ?_ (m := ls.length) (by show _ < 1000000000; omega) ⟨0, k0, rfl, by omega, by omega, rfl, by simp, by omega⟩
    rintro m2 ih2 s h5 hih2 ⟨c, k, rfl, hc1, rfl, e5, hk, hk2⟩
    rw [e5]
    dsimp only
    refine ww_len LS (ww_lssC (fun hlt2 => ww_condT ?_) fun hge2 => ww_condF ?_)
    · have hc : c < ls.length := by omega
      have gr : rs[c]? = some rs[c] := List.getElem?_eq_getElem (by omega)
      have gl : ls[c]? = some ls[c] := List.getElem?_eq_getElem hc
      have RI := LR c _ _ gr gl
      have hl1 := hb1 ls[c] (List.getElem_mem hc)
      have htf := take_flat gl
      generalize ls[c] = row at *
      generalize rs[c] = rv at *
      refine ww_iter (fun m s h' => ∃ j k : Nat, s = (.int .i64 (j : Int), .int .i64 (c : Int), .int .i64 (k : Int), .int .i64 (i : Int), .int .i64 (q : Int), lv, bv, a1, ()) ∧ j ≤ row.length ∧ m = row.length - j ∧ h' = h2 ∧ k = k0 + ((ls.take c).flatten ++ row.take j).count p ∧ k ≤ 1 + 301 * c + j)
        ?_ (m := row.length) (by show _ < 1000000000; omega) ⟨0, k, rfl, by omega, by omega, rfl, by simpa using hk, by omega⟩
      clear hk hk2
      rintro m3 ih3 s h6 hih3 ⟨j, k, rfl, hj1, rfl, e6, hk, hk2⟩
      rw [e6]
      dsimp only
      refine ww_idx1 LS gr (ww_len RI (ww_lssC (fun hlt3 => ww_condT ?_) fun hge3 => ww_condF ?_))
      · have hj : j < row.length := by omega
        have gj : row[j]? = some row[j] := List.getElem?_eq_getElem hj
        have htk3 : row.take (j + 1) = row.take j ++ [row[j]] := by rw [List.take_add_one, gj]; rfl
        have gj2 : (row.map (AV.int .i64))[j]? = some (.int .i64 row[j]) := by rw [List.getElem?_map, gj]; rfl
        generalize row[j] = x at *
        have hcp := count_push ((ls.take c).flatten ++ row.take j) x p
        rw [List.append_assoc, ← htk3] at hcp
        refine ww_joinD [] (fun s g' => ∃ k' : Nat, s = (.int .i64 (j : Int), .int .i64 (c : Int), .int .i64 (k' : Int), .int .i64 (i : Int), .int .i64 (q : Int), lv, bv, a1, ()) ∧ g' = h2 ∧ k' = k + if x = p then 1 else 0) ?_ ?_
        · intro j' hj'
          refine ww_idx1 LS gr (ww_idx1 RI gj2 (ww_idxF (x := .int .i64 p) BS (by omega) hi (hcell 0 (by omega)) ?_))
          refine ww_eqlC (fun e => ww_condT (ww_addI (by omega) (hj' _ _ ⟨k + 1, by simp, rfl, by rw [if_pos e]⟩))) fun e => ww_condF (hj' _ _ ⟨k, rfl, rfl, by rw [if_neg e]; rfl⟩)
        rintro s h7 ⟨k', rfl, e7, hk'⟩
        rw [e7]
        dsimp only
        have hk3 : k' ≤ k + 1 := by rw [hk']; split <;> omega
        exact ww_addI (by omega) (hih3 (row.length - (j + 1)) _ _ (by omega) ⟨j + 1, k', rfl, by omega, rfl, rfl, by omega, by omega⟩)
      · rw [List.take_of_length_le (by omega : row.length ≤ j), ← htf] at hk
        exact ww_addI (by omega) (hih2 (ls.length - (c + 1)) _ _ (by omega) ⟨c + 1, k, rfl, by omega, rfl, rfl, hk, by omega⟩)
    -- those at rest
    rw [List.take_of_length_le (by omega : ls.length ≤ c)] at hk
    have hk3 : k ≤ 2000 := by omega
    clear hk2 hge2 hih2 ih2 hc1
    refine ww_iter (fun m s h' => ∃ t k' q' : Nat, s = (.int .i64 (t : Int), .int .i64 (k' : Int), .int .i64 (i : Int), .int .i64 (q' : Int), lv, bv, a1, ()) ∧ t ≤ rows.length ∧ m = rows.length - t ∧ h' = h2 ∧ k' = k + (atsT (rows.take t)).count p ∧ q' = q + (atsT (rows.take t)).count p ∧ (atsT (rows.take t)).count p ≤ 1000 * t)
      ?_ (m := rows.length) (by show _ < 1000000000; omega) ⟨0, k, q, rfl, by omega, by omega, rfl, by simp [atsT], by simp [atsT], by simp [atsT]⟩
    rintro m2 ih2 s h5 hih2 ⟨t, k', q', rfl, ht1, rfl, e5, hk', hq', hcb⟩
    rw [e5]
    dsimp only
    refine ww_len TS2 (ww_lssC (fun hlt2 => ww_condT ?_) fun hge2 => ww_condF ?_)
    · have ht : t < rows.length := by omega
      have gr : ts[t]? = some ts[t] := List.getElem?_eq_getElem (by omega)
      have gl : rows[t]? = some rows[t] := List.getElem?_eq_getElem ht
      have RI := TR2 t _ _ gr gl
      have hl1 := hr2 rows[t] (List.getElem_mem ht)
      have htf : atsT (rows.take (t + 1)) = atsT (rows.take t) ++ rows[t].map (·.1) := by unfold atsT; rw [take_flat gl, List.map_append]
      generalize rows[t] = row at *
      generalize ts[t] = rv at *
      refine ww_iter (fun m s h' => ∃ j k' q' : Nat, s = (.int .i64 (j : Int), .int .i64 (t : Int), .int .i64 (k' : Int), .int .i64 (i : Int), .int .i64 (q' : Int), lv, bv, a1, ()) ∧ j ≤ row.length ∧ m = row.length - j ∧ h' = h2 ∧ k' = k + (atsT (rows.take t) ++ (row.take j).map (·.1)).count p ∧ q' = q + (atsT (rows.take t) ++ (row.take j).map (·.1)).count p ∧ (atsT (rows.take t) ++ (row.take j).map (·.1)).count p ≤ 1000 * t + j)
        ?_ (m := row.length) (by show _ < 1000000000; omega) ⟨0, k', q', rfl, by omega, by omega, rfl, by simpa using hk', by simpa using hq', by simpa using hcb⟩
      clear hk' hq' hcb
      rintro m3 ih3 s h6 hih3 ⟨j, k', q', rfl, hj1, rfl, e6, hk', hq', hcb⟩
      rw [e6]
      dsimp only
      refine ww_idx1 TS2 gr (ww_len RI (ww_lssC (fun hlt3 => ww_condT ?_) fun hge3 => ww_condF ?_))
      · have hj : j < row.length := by omega
        have gj : row[j]? = some row[j] := List.getElem?_eq_getElem hj
        have htk3 := take_map1 (f := fun x : RstT => x.1) gj
        have gj2 : (row.flatMap encT)[j * 2 + 0]? = some (.int .i64 row[j].1) := by rw [flat_get (sz := 2) encT (fun _ => rfl) _ _ _ (by omega), gj]; rfl
        generalize row[j].1 = x at *
        have hcp := count_push (atsT (rows.take t) ++ (row.take j).map (·.1)) x p
        rw [List.append_assoc, ← htk3] at hcp
        have hif : (if x = p then 1 else 0) ≤ 1 := by split <;> omega
        refine ww_joinD [] (fun s g' => ∃ k2 q2 : Nat, s = (.int .i64 (j : Int), .int .i64 (t : Int), .int .i64 (k2 : Int), .int .i64 (i : Int), .int .i64 (q2 : Int), lv, bv, a1, ()) ∧ g' = h2 ∧ k2 = k' + (if x = p then 1 else 0) ∧ q2 = q' + if x = p then 1 else 0) ?_ ?_
        · intro j' hj'
          refine ww_idx1 TS2 gr (ww_idxF (x := .int .i64 x) RI (by omega) hj gj2 (ww_idxF (x := .int .i64 p) BS (by omega) hi (hcell 0 (by omega)) ?_))
          refine ww_eqlC (fun e => ww_condT (ww_addI (by omega) (ww_addI (by omega) (hj' _ _ ⟨k' + 1, q' + 1, by simp, rfl, by rw [if_pos e], by rw [if_pos e]⟩)))) fun e => ww_condF (hj' _ _ ⟨k', q', rfl, rfl, by rw [if_neg e]; rfl, by rw [if_neg e]; rfl⟩)
        rintro s h7 ⟨k2, q2, rfl, e7, hk2, hq2'⟩
        rw [e7]
        dsimp only
        exact ww_addI (by omega) (hih3 (row.length - (j + 1)) _ _ (by omega) ⟨j + 1, k2, q2, rfl, by omega, rfl, rfl, by omega, by omega, by omega⟩)
      · rw [List.take_of_length_le (by omega : row.length ≤ j), ← htf] at hk' hq' hcb
        exact ww_addI (by omega) (hih2 (rows.length - (t + 1)) _ _ (by omega) ⟨t + 1, k', q', rfl, by omega, rfl, rfl, hk', hq', by omega⟩)
    rw [List.take_of_length_le (by omega : rows.length ≤ t)] at hk' hq' hcb
    have hcount : countB (p, cl, lvb) ls.flatten (atsT rows) = k' := by
      unfold countB
      dsimp only
      rw [← hk0]; omega
    rw [hcount] at hh
    refine ww_neqC (fun hne => ww_condT (ww_leave (ww_ret ⟨?_, back⟩))) fun heq => ww_condF ?_
    · rw [hh, decide_eq_false (by omega), Bool.false_and, Bool.false_and]
    · refine ww_addI (by omega) (hih (bs.length - (i + 1)) _ _ (by omega) ⟨i + 1, q', rfl, by omega, rfl, rfl, ?_, ?_, ?_⟩)
      · rw [htk, List.sum_append, ← hq]; simpa using hq'
      · have : (atsT rows).count p ≤ (atsT rows).length := List.count_le_length
        omega
      · rw [hh, decide_eq_true (by omega), Bool.true_and]
  -- as many as there are
  rw [List.take_of_length_le (by omega : bs.length ≤ i)] at hq
  rw [List.drop_of_length_le (by omega : bs.length ≤ i), List.all_nil, Bool.true_and] at hh
  rw [hh, ← hq]
  clear hh hih ih
  refine ww_iter (fun m s h' => ∃ t a : Nat, s = (.int .i64 (t : Int), .int .i64 (a : Int), .int .i64 (q : Int), a1, ()) ∧ t ≤ rows.length ∧ m = rows.length - t ∧ h' = h2 ∧ a = (atsT (rows.take t)).length ∧ a ≤ 1000 * t)
    ?_ (m := rows.length) (by show _ < 1000000000; omega) ⟨0, 0, rfl, by omega, by omega, rfl, by simp [atsT], by omega⟩
  rintro m2 ih2 s h5 hih2 ⟨t, a, rfl, ht1, rfl, e5, ha, ha2⟩
  rw [e5]
  dsimp only
  refine ww_len TS2 (ww_lssC (fun hlt2 => ww_condT ?_) fun hge2 => ww_condF ?_)
  · have ht : t < rows.length := by omega
    have gr : ts[t]? = some ts[t] := List.getElem?_eq_getElem (by omega)
    have gl : rows[t]? = some rows[t] := List.getElem?_eq_getElem ht
    have RI := TR2 t _ _ gr gl
    have hl1 := hr2 rows[t] (List.getElem_mem ht)
    have htf : atsT (rows.take (t + 1)) = atsT (rows.take t) ++ rows[t].map (·.1) := by unfold atsT; rw [take_flat gl, List.map_append]
    have hlen : (atsT (rows.take (t + 1))).length = a + rows[t].length := by rw [htf, List.length_append, List.length_map, ← ha]
    generalize rows[t] = row at *
    refine ww_idx1 TS2 gr (ww_len RI (ww_addI (by omega) (ww_addI (by omega) (hih2 (rows.length - (t + 1)) _ _ (by omega) ⟨t + 1, a + row.length, by simp, by omega, rfl, rfl, hlen.symm, by omega⟩))))
  · rw [List.take_of_length_le (by omega : rows.length ≤ t)] at ha
    refine ww_eql (ww_leave (ww_ret ⟨?_, back⟩))
    congr 1
    exact decide_eq_decide.2 (by omega)
end Go.Proofs.YtcmjgcfkhommkaaGreatDoor
namespace Go.Proofs.YtcmjgcfkhommkaaGreatDoor
open Go Go.Ae
set_option maxRecDepth 100000

def withinZ (x lo hi : Int) : Int := lo + (if x.tmod (hi - lo + 1) < 0 then x.tmod (hi - lo + 1) + (hi - lo + 1) else x.tmod (hi - lo + 1))
theorem tmod_bounds (x : Int) {m : Int} (hm : 0 < m) : -m < x.tmod m ∧ x.tmod m < m := by
  refine ⟨?_, Int.tmod_lt_of_pos x hm⟩
  have := Int.tmod_lt_of_pos (-x) hm
  rw [Int.neg_tmod] at this
  omega
theorem within_ok {n : Nat} (hn : 1 ≤ n) {x lo hi : Int} {h : AH} (h1 : lo ≤ hi) (h2 : -1000000000 ≤ lo) (h3 : hi ≤ 1000000000) :
    wp (callT tab rtab n (.fn 13 [] []) [.int .i64 x, .int .i64 lo, .int .i64 hi] h) fun v h' => v = .int .i64 (withinZ x lo hi) ∧ h' = h := by
  (refine ww_fn (g := W13) rfl (by omega) fun k hk => ?_; show wp (S13 (callT tab rtab k) _ _ _ _) _; unfold S13; try simp only [Int.ofNat_eq_natCast])
  simp only [show ((1 : Nat) : Int) = 1 from rfl, show ((0 : Nat) : Int) = 0 from rfl]
  have hb := tmod_bounds x (show 0 < hi - lo + 1 by omega)
  unfold withinZ
  repeat' (first | (first | with_reducible refine ww_condT ?_ | with_reducible refine ww_condF ?_ | (with_reducible refine ww_wantTT ?_; try dsimp only) | (with_reducible refine ww_wantTF ?_; try dsimp only) | (with_reducible refine ww_wantFT ?_; try dsimp only) | (with_reducible refine ww_wantFF ?_; try dsimp only) | (with_reducible refine ww_wantU ?_; try dsimp only) | with_reducible refine ww_pickT ?_ | with_reducible refine ww_pickF ?_ | (with_reducible refine ww_joinS ?_; try dsimp only) | with_reducible refine ww_leave ?_ | with_reducible refine ww_notT ?_ | with_reducible refine ww_notF ?_ | with_reducible refine ww_addI (by omega) ?_ | with_reducible refine ww_subI (by omega) ?_ | with_reducible refine ww_addU (by omega) ?_ | with_reducible refine ww_subU (by omega) ?_ | with_reducible refine ww_min ?_ | with_reducible refine ww_max ?_) | with_reducible refine ww_rem (by omega) ?_ | (first | with_reducible refine ww_lssC (fun hc => ?_) (fun hc => ?_) | with_reducible refine ww_leqC (fun hc => ?_) (fun hc => ?_) | with_reducible refine ww_gtrC (fun hc => ?_) (fun hc => ?_) | with_reducible refine ww_geqC (fun hc => ?_) (fun hc => ?_) | with_reducible refine ww_eqlC (fun hc => ?_) (fun hc => ?_) | with_reducible refine ww_neqC (fun hc => ?_) (fun hc => ?_) | with_reducible refine ww_condB (fun hc => ?_) (fun hc => ?_)))
  all_goals refine ww_ret ⟨?_, rfl⟩
  all_goals congr 1
  all_goals (first | rw [if_pos (by omega)] | rw [if_neg (by omega)])
  all_goals omega
end Go.Proofs.YtcmjgcfkhommkaaGreatDoor
namespace Go.Proofs.YtcmjgcfkhommkaaGreatDoor
open Go Go.Ae
set_option maxRecDepth 100000

variable {g h : AH} {L R : List SP}

def OkN (zs : List Int) : Prop := ∀ z ∈ zs, 0 ≤ z ∧ z < 18446744073709551616
theorem OkN.set {zs : List Int} {i : Nat} {x : Int} (h : OkN zs) (hx : 0 ≤ x ∧ x < 18446744073709551616) : OkN (zs.set i x) := by
  intro z hz
  rcases List.mem_or_eq_of_mem_set hz with h1 | rfl
  · exact h z h1
  · exact hx
theorem ww_pickAndK {u x : Bool} {r : AV} {K : AV → Go.Ae.R} {Q : AV → AH → Prop} (hr : u = true → r = .bool x) (w : wp (K (.bool (u && x))) Q) : wp (pPick (.bool u) r (.bool false) K) Q := by
  cases u
  · exact w
  · rw [hr rfl]; exact w
/-- two to the c-th -/
def tw (c : Int) : Int := awrap .i64 (1 * 2 ^ (min c.toNat (IntKind.bits .i64)))
theorem tw_b {c : Int} (h : 1 ≤ c ∧ c ≤ 3) : 2 ≤ tw c ∧ tw c ≤ 8 := by
  obtain rfl | rfl | rfl : c = 1 ∨ c = 2 ∨ c = 3 := by omega
  all_goals decide
theorem within_b {x lo hi : Int} (h : lo ≤ hi) : lo ≤ withinZ x lo hi ∧ withinZ x lo hi ≤ hi := by
  unfold withinZ
  have := tmod_bounds x (show 0 < hi - lo + 1 by omega)
  split <;> omega

end Go.Proofs.YtcmjgcfkhommkaaGreatDoor
namespace Go.Proofs.YtcmjgcfkhommkaaGreatDoor
open Go Go.Ae
set_option maxRecDepth 100000

end Go.Proofs.YtcmjgcfkhommkaaGreatDoor
namespace Go.Proofs.YtcmjgcfkhommkaaGreatDoor
open Go Go.Ae
set_option maxRecDepth 100000

end Go.Proofs.YtcmjgcfkhommkaaGreatDoor
namespace Go.Proofs.YtcmjgcfkhommkaaGreatDoor
open Go Go.Ae
set_option maxRecDepth 100000

end Go.Proofs.YtcmjgcfkhommkaaGreatDoor
namespace Go.Proofs.YtcmjgcfkhommkaaGreatDoor
open Go Go.Ae
set_option maxRecDepth 100000

variable {g h : AH} {L R : List SP}

/-! ### what an ask leaves alone -/
/-- nothing but what is asked for; or nothing is asked for anew -/
def AskP (M M' : VM) : Prop := M'.sz = M.sz ∧ M'.K = M.K ∧ M'.most = M.most ∧ (M'.need = M.need ∨ M'.lv = M.lv ∧ 1 ≤ M'.need ∧ M'.need < M.sz ∧ getC M'.need M.K = none)
theorem AskP.refl (M : VM) : AskP M M := ⟨rfl, rfl, rfl, .inl rfl⟩
/-! ### lengths, words -/
theorem frS_put {most : Nat} {lv : List LvM} {p v : Int} : frS (putL most lv p v).2 = frS lv := by
  cases lv with
  | nil => rfl
  | cons x r =>
    obtain ⟨c, hc⟩ := putL_tail (most := most) (x := x) (r := r) (p := p) (v := v)
    rw [hc, frS_cons, frS_cons]
theorem frS_takeL {most : Nat} {was : List LvM} : ∀ {cs : List Cl} {lv : List LvM}, frS lv = frS was → frS (takeL most was lv cs).2 = frS was := by
  intro cs
  induction cs with
  | nil => intro lv h; exact h
  | cons c cs ih =>
    intro lv h
    rw [takeL_cons]
    split
    · exact ih (frS_put.trans h)
    · rfl
theorem frS_take {M : VM} {cs : List Cl} : frS (takeV M cs).2.lv = frS M.lv := by
  unfold takeV
  split
  · exact frS_takeL rfl
  · rfl
theorem frS_read {M : VM} {p : Int} : frS (readV M p).2.lv = frS M.lv := by
  unfold readV
  repeat' split
  all_goals rfl
/-- all that is to be kept of a view -/
structure GoodV (M : VM) : Prop where
  ok : OkV M
  wd : WdV M
theorem GoodV.read {M : VM} {p : Int} (G : GoodV M) : GoodV (readV M p).2 := ⟨readV_ok G.ok, G.wd.read2⟩
theorem GoodV.take {M : VM} {cs : List Cl} (G : GoodV M) (h : WdC cs) : GoodV (takeV M cs).2 := ⟨takeV_ok G.ok, G.wd.take h⟩
theorem GoodV.ask {M : VM} {b : Int} (G : GoodV M) : GoodV (askV M b).2 := ⟨askV_ok G.ok, askV_wd G.wd⟩
theorem WdC.two {a b : Cl} (ha : 0 ≤ a.2 ∧ a.2 < 18446744073709551616) (hb : 0 ≤ b.2 ∧ b.2 < 18446744073709551616) : WdC [a, b] := by
  intro c hc
  rcases List.mem_cons.1 hc with rfl | hc
  · exact ha
  · rw [List.mem_singleton] at hc; subst hc; exact hb
theorem GoodV.again {M : VM} {c b : Int} (G : GoodV M) (hc : 0 ≤ c ∧ c ≤ 4) : GoodV (againV M c b).2 ∧ frS (againV M c b).2.lv = frS M.lv := by
  have ht : WdC [(c, (readV M b).1.1), (b - 1, c + 8)] := .two G.wd.read ⟨by dsimp only; omega, by dsimp only; omega⟩
  unfold againV
  repeat' split
  · exact ⟨G, rfl⟩
  · exact ⟨G.read.take ht, by rw [frS_take, frS_read]⟩
  · exact ⟨G.read.take ht, by rw [frS_take, frS_read]⟩
  · exact ⟨G.read, frS_read⟩
theorem GoodV.grown {M : VM} {c : Int} (G : GoodV M) (hc : 0 ≤ c ∧ c ≤ 4) : GoodV (grownV M c).2 ∧ frS (grownV M c).2.lv = frS M.lv := by
  have hs := sizeA_b c
  have hw := G.wd.read (p := 5)
  unfold grownV
  split
  · split
    · exact ⟨G.read, frS_read⟩
    · rename_i h1
      have ht : WdC [(5, (readV M 5).1.1 + 1 + sizeA c), ((readV M 5).1.1, c + 8)] := .two ⟨by dsimp only; omega, by dsimp only; omega⟩ ⟨by dsimp only; omega, by dsimp only; omega⟩
      split
      · exact ⟨G.read.take ht, by rw [frS_take, frS_read]⟩
      · exact ⟨G.read.take ht, by rw [frS_take, frS_read]⟩
  · exact ⟨G.read, frS_read⟩
theorem GoodV.alloc {M : VM} {x : Int} (G : GoodV M) : GoodV (allocV M x).2 ∧ frS (allocV M x).2.lv = frS M.lv := by
  have hc := classA_b x
  unfold allocV
  repeat' split
  · exact ⟨G, rfl⟩
  · exact ⟨(G.read.grown hc).1, by rw [(G.read.grown hc).2, frS_read]⟩
  · exact ⟨(G.read.again hc).1, by rw [(G.read.again hc).2, frS_read]⟩
  · exact ⟨G.read, frS_read⟩
theorem GoodV.dropG {M : VM} (G : GoodV M) : GoodV (dropV M).2 ∧ frS (dropV M).2.lv ≤ frS M.lv := by
  have e : (dropL M.lv).2 = M.lv ∨ (dropL M.lv).2 = M.lv.tail := by unfold dropL; split <;> simp
  have hs : ∀ x ∈ (dropL M.lv).2, x ∈ M.lv := by
    rcases e with e | e
    · rw [e]; exact fun x hx => hx
    · rw [e]; exact fun x hx => List.mem_of_mem_tail hx
  refine ⟨⟨⟨G.ok.lo, G.ok.hi, dropL_ok G.ok.lvs, G.ok.ins, G.ok.un, fun x hx => G.ok.fr x (hs x hx)⟩, G.wd.k, fun x hx => G.wd.l x (hs x hx)⟩, ?_⟩
  show frS (dropL M.lv).2 ≤ _
  rcases e with e | e
  · rw [e]; exact Nat.le_refl _
  · rw [e]
    cases M.lv with
    | nil => exact Nat.le_refl _
    | cons x r => rw [frS_cons]; show frS r ≤ _; omega
/-! ### an ask -/
end Go.Proofs.YtcmjgcfkhommkaaGreatDoor
namespace Go.Proofs.YtcmjgcfkhommkaaGreatDoor.arenaPlays
open Go Go.Ae
set_option maxRecDepth 100000

variable {g h : AH} {L R : List SP}

end Go.Proofs.YtcmjgcfkhommkaaGreatDoor.arenaPlays
namespace Go.Proofs.YtcmjgcfkhommkaaGreatDoor
open Go Go.Ae
set_option maxRecDepth 100000

variable {g h : AH} {L R : List SP}

/-! ### cells applied to words -/
def baseZ (zs : List Int) : List Int := (List.range (szZ zs.length)).map fun i => if i = 0 then 0 else wordAt zs i
def putZ (l : List Int) (c : Cl) : List Int := if 1 ≤ c.1 ∧ c.1 < l.length then l.set c.1.toNat c.2 else l
def applyZ (zs : List Int) (cs : List Cl) : List Int := cs.foldl putZ (baseZ zs)
theorem putZ_len (l : List Int) (c : Cl) : (putZ l c).length = l.length := by unfold putZ; split <;> simp
theorem foldZ_len : ∀ (cs : List Cl) (l : List Int), (cs.foldl putZ l).length = l.length := by
  intro cs
  induction cs with
  | nil => intro l; rfl
  | cons c cs ih => intro l; rw [List.foldl_cons, ih, putZ_len]
theorem baseZ_len (zs : List Int) : (baseZ zs).length = szZ zs.length := by simp [baseZ]
theorem applyZ_len (zs : List Int) (cs : List Cl) : (applyZ zs cs).length = szZ zs.length := by unfold applyZ; rw [foldZ_len, baseZ_len]
theorem base_at (zs : List Int) {i : Nat} (hi : 0 < i) (h : i < szZ zs.length) : wordAt (baseZ zs) i = wordAt zs i := by
  unfold baseZ
  show ((List.map _ _)[i]?).getD 0 = _
  rw [List.getElem?_map, List.getElem?_range h, Option.map_some, Option.getD_some, if_neg (by omega)]
theorem putZ_at (l : List Int) (c : Cl) (i : Nat) : wordAt (putZ l c) i = if (c.1 = (i : Int) ∧ 1 ≤ c.1 ∧ c.1 < l.length) then c.2 else wordAt l i := by
  unfold putZ wordAt
  by_cases h : 1 ≤ c.1 ∧ c.1 < l.length
  · rw [if_pos h, List.getElem?_set]
    by_cases h2 : c.1 = (i : Int)
    · rw [if_pos (by omega), if_pos (by omega), if_pos ⟨h2, h⟩]; rfl
    · rw [if_neg (by omega), if_neg (fun h' => h2 h'.1)]
  · rw [if_neg h, if_neg (fun h' => h h'.2)]
theorem putZ_nn {l : List Int} {c : Cl} (h : ∀ z ∈ l, 0 ≤ z ∧ z < 18446744073709551616) (hc : 0 ≤ c.2 ∧ c.2 < 18446744073709551616) : ∀ z ∈ putZ l c, 0 ≤ z ∧ z < 18446744073709551616 := by
  unfold putZ
  split
  · intro z hz
    rcases List.mem_or_eq_of_mem_set hz with h1 | rfl
    · exact h z h1
    · exact hc
  · exact h
theorem applyZ_nn {zs : List Int} {cs : List Cl} (h : ∀ z ∈ zs, 0 ≤ z ∧ z < 18446744073709551616) (hc : WdC cs) : ∀ z ∈ applyZ zs cs, 0 ≤ z ∧ z < 18446744073709551616 := by
  unfold applyZ
  have hb : ∀ z ∈ baseZ zs, 0 ≤ z ∧ z < 18446744073709551616 := by
    intro z hz
    obtain ⟨i, _, rfl⟩ := List.mem_map.1 hz
    split
    · omega
    · unfold wordAt
      cases hzi : zs[i]? with
      | none => simp
      | some z => exact h z (List.mem_of_getElem? hzi)
  generalize baseZ zs = l at hb
  induction cs generalizing l with
  | nil => exact hb
  | cons c cs ih => exact ih (fun d hd => hc d (List.mem_cons_of_mem _ hd)) _ (putZ_nn hb (hc c (List.mem_cons_self ..)))

/-! ### views of one level -/
/-- a view whose words are known, with one level -/
def oneV (zs : List Int) (m : Int) (C : List Cl) (F : List Int) : VM := { wholeV zs m with lv := [(C, F)] }
/-! ### one size -/
/-- so many blocks of a class are told; the words then -/
structure FullS (zs : List Int) (T c i : Nat) : Prop where
  len : zs.length = T
  lo : 32 ≤ T
  hi : T ≤ 256
  cls : 1 ≤ c ∧ c ≤ 4
  nn : ∀ z ∈ zs, 0 ≤ z ∧ z < 18446744073709551616
  head : wordAt zs c = 0
  bump : wordAt zs 5 = 14 + (i : Int) * (sizeA c + 1)
  hdr : ∀ j, j < i → ∀ p : Nat, (p : Int) = 14 + (j : Int) * (sizeA c + 1) → wordAt zs p = (c : Int) + 8
theorem szZ_id {T : Nat} (h1 : 32 ≤ T) (h2 : T ≤ 256) : szZ (T : Int) = T := by unfold szZ; omega
end Go.Proofs.YtcmjgcfkhommkaaGreatDoor

namespace Go.Proofs.YtcmjgcfkhommkaaGreatDoor.arenaFull
open Go Go.Ae arenaPlays
set_option maxRecDepth 100000
variable {g h : AH} {L R : List SP}

end Go.Proofs.YtcmjgcfkhommkaaGreatDoor.arenaFull
namespace Go.Proofs.YtcmjgcfkhommkaaGreatDoor.arenaParts
open Go Go.Ae arenaPlays
set_option maxRecDepth 100000

abbrev Bk : Type := Int × Int
/-- blocks side by side from a to e -/
def Tile (e : Int) : Int → List Bk → Prop
  | a, [] => a = e
  | a, b :: bs => b.1 = a + 1 ∧ (1 ≤ b.2 ∧ b.2 ≤ 4) ∧ Tile e (a + 1 + sizeA b.2) bs
theorem Tile.le {e : Int} : ∀ {bs : List Bk} {a : Int}, Tile e a bs → a + 3 * (bs.length : Int) ≤ e := by
  intro bs
  induction bs with
  | nil => intro a h; have h : a = e := h; subst h; simp
  | cons b bs ih =>
    intro a h
    obtain ⟨h1, h2, h3⟩ := h
    have := ih h3
    have := sizeA_pos h2
    simp
    omega
theorem Tile.mem {e : Int} : ∀ {bs : List Bk} {a : Int}, Tile e a bs → ∀ b ∈ bs, a + 1 ≤ b.1 ∧ (1 ≤ b.2 ∧ b.2 ≤ 4) ∧ b.1 + sizeA b.2 ≤ e := by
  intro bs
  induction bs with
  | nil => intro a _ b hb; cases hb
  | cons b bs ih =>
    intro a h x hx
    obtain ⟨h1, h2, h3⟩ := h
    have h4 := h3.le
    have h5 := sizeA_pos h2
    rcases List.mem_cons.1 hx with rfl | hx
    · exact ⟨by omega, h2, by omega⟩
    · have := ih h3 x hx
      exact ⟨by omega, this.2⟩
theorem Tile.far {e : Int} : ∀ {bs : List Bk} {a : Int}, Tile e a bs → ∀ b ∈ bs, ∀ b' ∈ bs, b = b' ∨ b.1 + 3 ≤ b'.1 ∨ b'.1 + 3 ≤ b.1 := by
  intro bs
  induction bs with
  | nil => intro a _ b hb; cases hb
  | cons b bs ih =>
    intro a h x hx y hy
    obtain ⟨h1, h2, h3⟩ := h
    have h5 := sizeA_pos h2
    rcases List.mem_cons.1 hx with rfl | hx
    · rcases List.mem_cons.1 hy with rfl | hy
      · exact .inl rfl
      · have := h3.mem y hy
        exact .inr (.inl (by omega))
    · skip
      rcases List.mem_cons.1 hy with rfl | hy
      · have := h3.mem x (by assumption)
        exact .inr (.inr (by omega))
      · exact ih h3 x (by assumption) y hy
theorem Tile.snoc {e c : Int} (hc : 1 ≤ c ∧ c ≤ 4) : ∀ {bs : List Bk} {a : Int}, Tile e a bs → Tile (e + 1 + sizeA c) a (bs ++ [(e + 1, c)]) := by
  intro bs
  induction bs with
  | nil => intro a h; have h : a = e := h; subst h; exact ⟨rfl, hc, rfl⟩
  | cons b bs ih => intro a h; exact ⟨h.1, h.2.1, ih h.2.2⟩
theorem Tile.nodup {e : Int} : ∀ {bs : List Bk} {a : Int}, Tile e a bs → (bs.map (·.1)).Nodup := by
  intro bs
  induction bs with
  | nil => intro a _; exact List.nodup_nil
  | cons b bs ih =>
    intro a h
    obtain ⟨h1, h2, h3⟩ := h
    rw [List.map_cons, List.nodup_cons]
    refine ⟨?_, ih h3⟩
    intro hm
    obtain ⟨x, hx, he⟩ := List.mem_map.1 hm
    have := h3.mem x hx
    have := sizeA_pos h2
    omega

/-- from word to word -/
def Chain (zs : List Int) : Int → List Int → Prop
  | w, [] => w = 0
  | w, x :: l => w = x ∧ Chain zs (wordAt zs x.toNat) l
theorem Chain.keep {zs zt : List Int} : ∀ {l : List Int} {w : Int}, Chain zs w l → (∀ x ∈ l, wordAt zt x.toNat = wordAt zs x.toNat) → Chain zt w l := by
  intro l
  induction l with
  | nil => intro w h _; exact h
  | cons x l ih =>
    intro w h hk
    refine ⟨h.1, ?_⟩
    rw [hk x (List.mem_cons_self ..)]
    exact ih h.2 fun y hy => hk y (List.mem_cons_of_mem _ hy)

/-- the words say what the states are -/
structure PartS (dt : Prop) (zs sts : List Int) (T : Nat) (bs : List Bk) (ls : Int → List Int) : Prop where
  len : zs.length = T
  lo : 32 ≤ T
  hi : T ≤ 256
  nn : ∀ z ∈ zs, 0 ≤ z ∧ z < 18446744073709551616
  slen : sts.length = 257
  tile : Tile (wordAt zs 5) 14 bs
  bump : wordAt zs 5 ≤ T
  hdr : ∀ b ∈ bs, wordAt zs (b.1 - 1).toNat = b.2 + (if wordAt sts b.1.toNat = 1 then 8 else 0)
  known : ∀ x : Nat, wordAt sts x ≠ 0 → ∃ c, ((x : Int), c) ∈ bs
  st : ∀ b ∈ bs, 1 ≤ wordAt sts b.1.toNat ∧ wordAt sts b.1.toNat ≤ 3
  data : dt → ∀ p : Nat, 14 ≤ p → p < T → (∀ c, ((p : Int) + 1, c) ∉ bs) → wordAt zs p = 0 ∨ 13 ≤ wordAt zs p
  chain : ∀ c : Int, 1 ≤ c → c ≤ 4 → Chain zs (wordAt zs c.toNat) (ls c)
  listed : ∀ c : Int, 1 ≤ c → c ≤ 4 → ∀ x, x ∈ ls c ↔ (x, c) ∈ bs ∧ wordAt sts x.toNat = 3
  nodup : ∀ c : Int, (ls c).Nodup
theorem set_at (l : List Int) (i j : Nat) (v : Int) (hi : i < l.length) : wordAt (l.set i v) j = if i = j then v else wordAt l j := by
  unfold wordAt
  rw [List.getElem?_set]
  by_cases h : i = j
  · rw [if_pos h, if_pos h, if_pos hi]; rfl
  · rw [if_neg h, if_neg h]
theorem fold_at (cs : List Cl) (p : Nat) (hp : 0 < p) : ∀ (l : List Int), p < l.length → wordAt (cs.foldl putZ l) p = cs.foldl (fun w c => if c.1 = (p : Int) then c.2 else w) (wordAt l p) := by
  induction cs with
  | nil => intro l _; rfl
  | cons c cs ih =>
    intro l hl
    rw [List.foldl_cons, List.foldl_cons, ih _ (by rw [putZ_len]; exact hl), putZ_at]
    congr 1
    by_cases h : c.1 = (p : Int)
    · rw [if_pos h, if_pos ⟨h, by omega, by omega⟩]
    · rw [if_neg h, if_neg (fun h' => h h'.1)]
theorem apply_at {zs : List Int} {T : Nat} (h1 : zs.length = T) (h2 : 32 ≤ T) (h3 : T ≤ 256) (cs : List Cl) {p : Nat} (hp : 0 < p) (hT : p < T) :
    wordAt (applyZ zs cs) p = cs.foldl (fun w c => if c.1 = (p : Int) then c.2 else w) (wordAt zs p) := by
  have hl : szZ zs.length = T := by rw [h1]; exact szZ_id h2 h3
  unfold applyZ
  rw [fold_at cs p hp _ (by rw [baseZ_len, hl]; exact hT), base_at zs hp (by omega)]
theorem apply_none {zs : List Int} {T : Nat} (h1 : zs.length = T) (h2 : 32 ≤ T) (h3 : T ≤ 256) {p : Nat} (hp : 0 < p) (hT : p < T) : wordAt (applyZ zs []) p = wordAt zs p := apply_at h1 h2 h3 [] hp hT
theorem apply_one {zs : List Int} {T : Nat} (h1 : zs.length = T) (h2 : 32 ≤ T) (h3 : T ≤ 256) {a x : Int} {p : Nat} (hp : 0 < p) (hT : p < T) :
    wordAt (applyZ zs [(a, x)]) p = if a = (p : Int) then x else wordAt zs p := apply_at h1 h2 h3 [(a, x)] hp hT
theorem apply_two {zs : List Int} {T : Nat} (h1 : zs.length = T) (h2 : 32 ≤ T) (h3 : T ≤ 256) {a x b y : Int} {p : Nat} (hp : 0 < p) (hT : p < T) :
    wordAt (applyZ zs [(a, x), (b, y)]) p = if b = (p : Int) then y else if a = (p : Int) then x else wordAt zs p := apply_at h1 h2 h3 [(a, x), (b, y)] hp hT

variable {dt : Prop} {zs sts : List Int} {T : Nat} {bs : List Bk} {ls : Int → List Int}

theorem PartS.mem (P : PartS dt zs sts T bs ls) {b c : Int} (h : (b, c) ∈ bs) : 15 ≤ b ∧ b + 2 ≤ T ∧ 1 ≤ c ∧ c ≤ 4 := by
  have h1 := P.tile.mem _ h
  have h2 := P.bump
  dsimp only at h1
  have := sizeA_pos h1.2.1
  exact ⟨by omega, by omega, h1.2.1⟩
theorem PartS.uniq (P : PartS dt zs sts T bs ls) {b c c' : Int} (h : (b, c) ∈ bs) (h' : (b, c') ∈ bs) : c = c' := by
  rcases P.tile.far _ h _ h' with h | h | h
  · cases h; rfl
  · dsimp only at h; omega
  · dsimp only at h; omega
theorem PartS.apart (P : PartS dt zs sts T bs ls) {b c b' c' : Int} (h : (b, c) ∈ bs) (h' : (b', c') ∈ bs) : b = b' ∨ b + 3 ≤ b' ∨ b' + 3 ≤ b := by
  rcases P.tile.far _ h _ h' with h | h | h
  · cases h; exact .inl rfl
  · exact .inr (.inl h)
  · exact .inr (.inr h)
theorem PartS.low (P : PartS dt zs sts T bs ls) : 14 ≤ wordAt zs 5 := by have := P.tile.le; omega
theorem PartS.head (P : PartS dt zs sts T bs ls) {c : Int} (h1 : 1 ≤ c) (h2 : c ≤ 4) : wordAt zs c.toNat = 0 ∨ ((wordAt zs c.toNat, c) ∈ bs ∧ wordAt sts (wordAt zs c.toNat).toNat = 3) := by
  have hc := P.chain c h1 h2
  have hl := P.listed c h1 h2
  cases h : ls c with
  | nil => rw [h] at hc; exact .inl hc
  | cons x l =>
    rw [h] at hc hl
    have he : wordAt zs c.toNat = x := hc.1
    rw [he]
    exact .inr ((hl x).1 (List.mem_cons_self ..))

theorem PartS.same (P : PartS dt zs sts T bs ls) : PartS dt (applyZ zs []) sts T bs ls := by
  have hlo := P.lo
  have hl : szZ zs.length = T := by rw [P.len]; exact szZ_id P.lo P.hi
  have hat : ∀ p : Nat, 0 < p → p < T → wordAt (applyZ zs []) p = wordAt zs p := fun p h0 hp => apply_none P.len P.lo P.hi h0 hp
  have h5 := hat 5 (by omega) (by omega)
  refine ⟨by rw [applyZ_len, hl], P.lo, P.hi, applyZ_nn P.nn (fun c hc => by cases hc), P.slen, by rw [h5]; exact P.tile, by rw [h5]; exact P.bump, ?_, P.known, P.st, ?_, ?_, P.listed, P.nodup⟩
  · rintro ⟨b, c⟩ hb
    have := P.mem hb
    rw [hat _ (by dsimp only; omega) (by dsimp only; omega)]
    exact P.hdr _ hb
  · intro hd p h1 h2 h3
    rw [hat _ (by omega) h2]
    exact P.data hd p h1 h2 h3
  · intro c h1 h2
    rw [hat _ (by omega) (by omega)]
    refine (P.chain c h1 h2).keep fun x hx => ?_
    have hm := P.mem ((P.listed c h1 h2 x).1 hx).1
    exact hat _ (by omega) (by omega)

/-- a live block is freed -/
theorem PartS.freed (P : PartS dt zs sts T bs ls) {b c : Int} (hb : (b, c) ∈ bs) (hs : wordAt sts b.toNat = 1) : PartS dt (applyZ zs [(b - 1, c)]) (sts.set b.toNat 2) T bs ls := by
  have hm := P.mem hb
  have hlo := P.lo
  have hhi := P.hi
  have hsl := P.slen
  have hl : szZ zs.length = T := by rw [P.len]; exact szZ_id P.lo P.hi
  have hat : ∀ p : Nat, 0 < p → p < T → wordAt (applyZ zs [(b - 1, c)]) p = if b - 1 = (p : Int) then c else wordAt zs p := fun p h0 hp => apply_one P.len P.lo P.hi h0 hp
  have hst : ∀ j, wordAt (sts.set b.toNat 2) j = if b.toNat = j then 2 else wordAt sts j := fun j => set_at sts _ j 2 (by omega)
  have h5 : wordAt (applyZ zs [(b - 1, c)]) 5 = wordAt zs 5 := by rw [hat 5 (by omega) (by omega), if_neg (by omega)]
  refine ⟨by rw [applyZ_len, hl], P.lo, P.hi, applyZ_nn P.nn (fun d hd => by rw [List.mem_singleton] at hd; subst hd; dsimp only; omega), by rw [List.length_set]; exact P.slen, by rw [h5]; exact P.tile, by rw [h5]; exact P.bump, ?_, ?_, ?_, ?_, ?_, ?_, P.nodup⟩
  · rintro ⟨b', c'⟩ hb'
    have hm' := P.mem hb'
    have hf := P.apart hb hb'
    have hh := P.hdr _ hb'
    dsimp only at hh ⊢
    rw [hat _ (by omega) (by omega), hst]
    by_cases e : b = b'
    · subst e
      have := P.uniq hb hb'
      subst this
      rw [if_pos (by omega), if_pos rfl, if_neg (by omega)]; omega
    · rw [if_neg (by omega), if_neg (show ¬ b.toNat = b'.toNat by omega)]; exact hh
  · intro x hx
    rw [hst] at hx
    by_cases e : b.toNat = x
    · exact ⟨c, by rw [show (x : Int) = b by omega]; exact hb⟩
    · rw [if_neg e] at hx; exact P.known x hx
  · rintro ⟨b', c'⟩ hb'
    have := P.st _ hb'
    rw [hst]
    dsimp only at this ⊢
    split <;> omega
  · intro hd p h1 h2 h3
    rw [hat _ (by omega) h2, if_neg (fun e => h3 c (by rw [show (p : Int) + 1 = b by omega]; exact hb))]
    exact P.data hd p h1 h2 h3
  · intro c' h1 h2
    rw [hat _ (by omega) (by omega), if_neg (by omega)]
    refine (P.chain c' h1 h2).keep fun x hx => ?_
    have hx := ((P.listed c' h1 h2 x).1 hx).1
    have hm' := P.mem hx
    have hf := P.apart hb hx
    rw [hat _ (by omega) (by omega), if_neg (by omega)]
  · intro c' h1 h2 x
    rw [P.listed c' h1 h2 x, hst]
    constructor
    · rintro ⟨h3, h4⟩
      have := P.mem h3
      rw [if_neg (fun e => by rw [e] at hs; omega)]
      exact ⟨h3, h4⟩
    · rintro ⟨h3, h4⟩
      split at h4
      · omega
      · exact ⟨h3, h4⟩

/-- a freed block is given back -/
theorem PartS.given (P : PartS dt zs sts T bs ls) {b c : Int} (hb : (b, c) ∈ bs) (hs : wordAt sts b.toNat = 2) :
    PartS dt (applyZ zs [(b, wordAt zs c.toNat), (c, b)]) (sts.set b.toNat 3) T bs (fun d => if d = c then b :: ls c else ls d) := by
  have hm := P.mem hb
  have hlo := P.lo
  have hhi := P.hi
  have hsl := P.slen
  have hl : szZ zs.length = T := by rw [P.len]; exact szZ_id P.lo P.hi
  have hat : ∀ p : Nat, 0 < p → p < T → wordAt (applyZ zs [(b, wordAt zs c.toNat), (c, b)]) p = if c = (p : Int) then b else if b = (p : Int) then wordAt zs c.toNat else wordAt zs p := fun p h0 hp => apply_two P.len P.lo P.hi h0 hp
  have hst : ∀ j, wordAt (sts.set b.toNat 3) j = if b.toNat = j then 3 else wordAt sts j := fun j => set_at sts _ j 3 (by omega)
  have hwc := P.head hm.2.2.1 hm.2.2.2
  have hwb := wordAt_b P.nn c.toNat
  have hch := P.chain c hm.2.2.1 hm.2.2.2
  generalize hw : wordAt zs c.toNat = w at *
  have hw0 : w = 0 ∨ 15 ≤ w := by
    rcases hwc with h | h
    · exact .inl h
    · exact .inr (P.mem h.1).1
  have h5 : wordAt (applyZ zs [(b, w), (c, b)]) 5 = wordAt zs 5 := by rw [hat 5 (by omega) (by omega), if_neg (by omega), if_neg (by omega)]
  have hnb : ∀ {c' x : Int}, 1 ≤ c' → c' ≤ 4 → x ∈ ls c' → x ≠ b ∧ (x, c') ∈ bs ∧ 15 ≤ x ∧ x + 2 ≤ T := by
    intro c' x h1 h2 hx
    have h3 := (P.listed c' h1 h2 x).1 hx
    have h4 := P.mem h3.1
    refine ⟨?_, h3.1, h4.1, h4.2.1⟩
    rintro rfl
    omega
  refine ⟨by rw [applyZ_len, hl], P.lo, P.hi, applyZ_nn P.nn (fun d hd => by
    rcases List.mem_cons.1 hd with rfl | hd
    · exact hwb
    · rw [List.mem_singleton] at hd; subst hd; dsimp only; omega), by rw [List.length_set]; exact P.slen, by rw [h5]; exact P.tile, by rw [h5]; exact P.bump, ?_, ?_, ?_, ?_, ?_, ?_, ?_⟩
  · rintro ⟨b', c'⟩ hb'
    have hm' := P.mem hb'
    have hf := P.apart hb hb'
    have hh := P.hdr _ hb'
    dsimp only at hh ⊢
    rw [hat _ (by omega) (by omega), hst, if_neg (by omega), if_neg (by omega), hh]
    by_cases e : b = b'
    · subst e
      rw [hs, if_neg (by omega), if_pos rfl, if_neg (by omega)]
    · rw [if_neg (show ¬ b.toNat = b'.toNat by omega)]
  · intro x hx
    rw [hst] at hx
    by_cases e : b.toNat = x
    · exact ⟨c, by rw [show (x : Int) = b by omega]; exact hb⟩
    · rw [if_neg e] at hx; exact P.known x hx
  · rintro ⟨b', c'⟩ hb'
    have := P.st _ hb'
    rw [hst]
    dsimp only at this ⊢
    split <;> omega
  · intro hd p h1 h2 h3
    rw [hat _ (by omega) h2, if_neg (by omega)]
    split
    · omega
    · exact P.data hd p h1 h2 h3
  · intro c' h1 h2
    have key : ∀ x ∈ ls c', wordAt (applyZ zs [(b, w), (c, b)]) x.toNat = wordAt zs x.toNat := by
      intro x hx
      have h3 := hnb h1 h2 hx
      rw [hat _ (by omega) (by omega), if_neg (by omega), if_neg (by omega)]
    rw [hat _ (by omega) (by omega)]
    by_cases e : c' = c
    · subst e
      rw [if_pos (by omega), if_pos rfl]
      refine ⟨rfl, ?_⟩
      rw [hat _ (by omega) (by omega), if_neg (by omega), if_pos (by omega)]
      exact hch.keep key
    · rw [if_neg (by omega), if_neg (by omega), if_neg e]
      exact (P.chain c' h1 h2).keep key
  · intro c' h1 h2 x
    rw [hst]
    by_cases e : c' = c
    · subst e
      rw [if_pos rfl, List.mem_cons, P.listed c' h1 h2 x]
      constructor
      · rintro (rfl | ⟨h3, h4⟩)
        · exact ⟨hb, by rw [if_pos rfl]⟩
        · refine ⟨h3, ?_⟩
          split
          · rfl
          · exact h4
      · rintro ⟨h3, h4⟩
        have := P.mem h3
        by_cases e2 : x = b
        · exact .inl e2
        · rw [if_neg (by omega)] at h4
          exact .inr ⟨h3, h4⟩
    · rw [if_neg e, P.listed c' h1 h2 x]
      constructor
      · rintro ⟨h3, h4⟩
        refine ⟨h3, ?_⟩
        split
        · rfl
        · exact h4
      · rintro ⟨h3, h4⟩
        have := P.mem h3
        by_cases e2 : x = b
        · subst e2
          exact absurd (P.uniq h3 hb) e
        · rw [if_neg (by omega)] at h4
          exact ⟨h3, h4⟩
  · intro c'
    try dsimp only
    split
    · rw [List.nodup_cons]
      refine ⟨fun h => (hnb hm.2.2.1 hm.2.2.2 h).1 rfl, P.nodup c⟩
    · exact P.nodup c'

/-- a block of a list is told again -/
theorem PartS.again (P : PartS dt zs sts T bs ls) {b c : Int} {l : List Int} (hc : 1 ≤ c ∧ c ≤ 4) (hl0 : ls c = b :: l) :
    PartS dt (applyZ zs [(c, wordAt zs b.toNat), (b - 1, c + 8)]) (sts.set b.toNat 1) T bs (fun d => if d = c then l else ls d) := by
  have hbl := (P.listed c hc.1 hc.2 b).1 (by rw [hl0]; exact List.mem_cons_self ..)
  have hb := hbl.1
  have hs := hbl.2
  have hm := P.mem hb
  have hlo := P.lo
  have hhi := P.hi
  have hsl := P.slen
  have hl : szZ zs.length = T := by rw [P.len]; exact szZ_id P.lo P.hi
  have hat : ∀ p : Nat, 0 < p → p < T → wordAt (applyZ zs [(c, wordAt zs b.toNat), (b - 1, c + 8)]) p = if b - 1 = (p : Int) then c + 8 else if c = (p : Int) then wordAt zs b.toNat else wordAt zs p := fun p h0 hp => apply_two P.len P.lo P.hi h0 hp
  have hst : ∀ j, wordAt (sts.set b.toNat 1) j = if b.toNat = j then 1 else wordAt sts j := fun j => set_at sts _ j 1 (by omega)
  have hwb := wordAt_b P.nn b.toNat
  have hch := P.chain c hc.1 hc.2
  rw [hl0] at hch
  have hch2 : Chain zs (wordAt zs b.toNat) l := hch.2
  have hnd := P.nodup c
  rw [hl0, List.nodup_cons] at hnd
  generalize hw : wordAt zs b.toNat = w at *
  have h5 : wordAt (applyZ zs [(c, w), (b - 1, c + 8)]) 5 = wordAt zs 5 := by rw [hat 5 (by omega) (by omega), if_neg (by omega), if_neg (by omega)]
  refine ⟨by rw [applyZ_len, hl], P.lo, P.hi, applyZ_nn P.nn (fun d hd => by
    rcases List.mem_cons.1 hd with rfl | hd
    · exact hwb
    · rw [List.mem_singleton] at hd; subst hd; dsimp only; omega), by rw [List.length_set]; exact P.slen, by rw [h5]; exact P.tile, by rw [h5]; exact P.bump, ?_, ?_, ?_, ?_, ?_, ?_, ?_⟩
  · rintro ⟨b', c'⟩ hb'
    have hm' := P.mem hb'
    have hf := P.apart hb hb'
    have hh := P.hdr _ hb'
    dsimp only at hh ⊢
    rw [hat _ (by omega) (by omega), hst]
    by_cases e : b = b'
    · subst e
      have := P.uniq hb hb'
      subst this
      rw [if_pos (by omega), if_pos rfl, if_pos rfl]
    · rw [if_neg (by omega), if_neg (by omega), if_neg (show ¬ b.toNat = b'.toNat by omega)]; exact hh
  · intro x hx
    rw [hst] at hx
    by_cases e : b.toNat = x
    · exact ⟨c, by rw [show (x : Int) = b by omega]; exact hb⟩
    · rw [if_neg e] at hx; exact P.known x hx
  · rintro ⟨b', c'⟩ hb'
    have := P.st _ hb'
    rw [hst]
    dsimp only at this ⊢
    split <;> omega
  · intro hd p h1 h2 h3
    rw [hat _ (by omega) h2, if_neg (fun e => h3 c (by rw [show (p : Int) + 1 = b by omega]; exact hb)), if_neg (by omega)]
    exact P.data hd p h1 h2 h3
  · intro c' h1 h2
    have key : ∀ x ∈ ls c', wordAt (applyZ zs [(c, w), (b - 1, c + 8)]) x.toNat = wordAt zs x.toNat := by
      intro x hx
      have hx := ((P.listed c' h1 h2 x).1 hx).1
      have hm' := P.mem hx
      have hf := P.apart hb hx
      rw [hat _ (by omega) (by omega), if_neg (by omega), if_neg (by omega)]
    rw [hat _ (by omega) (by omega), if_neg (by omega)]
    by_cases e : c' = c
    · subst e
      rw [if_pos (by omega), if_pos rfl]
      exact hch2.keep fun x hx => key x (by rw [hl0]; exact List.mem_cons_of_mem _ hx)
    · rw [if_neg (by omega), if_neg e]
      exact (P.chain c' h1 h2).keep key
  · intro c' h1 h2 x
    rw [hst]
    by_cases e : c' = c
    · subst e
      rw [if_pos rfl]
      have hx := P.listed c' h1 h2 x
      rw [hl0, List.mem_cons] at hx
      constructor
      · intro h3
        have h4 := hx.1 (.inr h3)
        have := P.mem h4.1
        refine ⟨h4.1, ?_⟩
        rw [if_neg]
        · exact h4.2
        · intro e2
          have : b = x := by omega
          subst this
          exact hnd.1 h3
      · rintro ⟨h3, h4⟩
        split at h4
        · omega
        · rename_i hne
          rcases hx.2 ⟨h3, h4⟩ with rfl | h
          · exact absurd rfl hne
          · exact h
    · rw [if_neg e, P.listed c' h1 h2 x]
      constructor
      · rintro ⟨h3, h4⟩
        have := P.mem h3
        refine ⟨h3, ?_⟩
        rw [if_neg]
        · exact h4
        · intro e2
          have : b = x := by omega
          subst this
          exact absurd (P.uniq h3 hb) e
      · rintro ⟨h3, h4⟩
        split at h4
        · omega
        · exact ⟨h3, h4⟩
  · intro c'
    try dsimp only
    split
    · exact hnd.2
    · exact P.nodup c'

/-- a block more -/
theorem PartS.grown (P : PartS dt zs sts T bs ls) {c e : Int} (hc : 1 ≤ c ∧ c ≤ 4) (he : wordAt zs 5 = e) (hT : e + 1 + sizeA c ≤ T) :
    PartS dt (applyZ zs [(5, e + 1 + sizeA c), (e, c + 8)]) (sts.set (e + 1).toNat 1) T (bs ++ [(e + 1, c)]) ls := by
  have hlo := P.lo
  have hhi := P.hi
  have hsl := P.slen
  have he14 := P.low
  rw [he] at he14
  have hs := sizeA_pos hc
  have hl : szZ zs.length = T := by rw [P.len]; exact szZ_id P.lo P.hi
  have hat : ∀ p : Nat, 0 < p → p < T → wordAt (applyZ zs [(5, e + 1 + sizeA c), (e, c + 8)]) p = if e = (p : Int) then c + 8 else if 5 = (p : Int) then e + 1 + sizeA c else wordAt zs p := fun p h0 hp => apply_two P.len P.lo P.hi h0 hp
  have hst : ∀ j, wordAt (sts.set (e + 1).toNat 1) j = if (e + 1).toNat = j then 1 else wordAt sts j := fun j => set_at sts _ j 1 (by omega)
  have h5 : wordAt (applyZ zs [(5, e + 1 + sizeA c), (e, c + 8)]) 5 = e + 1 + sizeA c := by rw [hat 5 (by omega) (by omega), if_neg (by omega), if_pos (by omega)]
  have hme : ∀ {b c' : Int}, (b, c') ∈ bs → 15 ≤ b ∧ b + 2 ≤ e ∧ 1 ≤ c' ∧ c' ≤ 4 := by
    intro b c' h
    have h1 := P.tile.mem _ h
    rw [he] at h1
    dsimp only at h1
    have := sizeA_pos h1.2.1
    exact ⟨by omega, by omega, h1.2.1⟩
  refine ⟨by rw [applyZ_len, hl], P.lo, P.hi, applyZ_nn P.nn (fun d hd => by
    rcases List.mem_cons.1 hd with rfl | hd
    · dsimp only; omega
    · rw [List.mem_singleton] at hd; subst hd; dsimp only; omega), by rw [List.length_set]; exact P.slen, by rw [h5]; exact Tile.snoc hc (he ▸ P.tile), by rw [h5]; exact hT, ?_, ?_, ?_, ?_, ?_, ?_, P.nodup⟩
  · rintro ⟨b', c'⟩ hb'
    rcases List.mem_append.1 hb' with hb' | hb'
    · have hm' := hme hb'
      have hh := P.hdr _ hb'
      dsimp only at hh ⊢
      rw [hat _ (by omega) (by omega), hst, if_neg (by omega), if_neg (by omega), if_neg (show ¬ (e + 1).toNat = b'.toNat by omega)]; exact hh
    · rw [List.mem_singleton] at hb'
      cases hb'
      dsimp only
      rw [hat _ (by omega) (by omega), hst, if_pos (by omega), if_pos rfl, if_pos rfl]
  · intro x hx
    rw [hst] at hx
    by_cases e2 : (e + 1).toNat = x
    · exact ⟨c, List.mem_append.2 (.inr (by rw [show (x : Int) = e + 1 by omega]; exact List.mem_singleton.2 rfl))⟩
    · rw [if_neg e2] at hx
      obtain ⟨d, hd⟩ := P.known x hx
      exact ⟨d, List.mem_append.2 (.inl hd)⟩
  · rintro ⟨b', c'⟩ hb'
    rw [hst]
    rcases List.mem_append.1 hb' with hb' | hb'
    · have := P.st _ hb'
      dsimp only at this ⊢
      split <;> omega
    · rw [List.mem_singleton] at hb'
      cases hb'
      dsimp only
      rw [if_pos rfl]; omega
  · intro hd p h1 h2 h3
    rw [hat _ (by omega) h2, if_neg (fun e2 => h3 c (List.mem_append.2 (.inr (by rw [show (p : Int) + 1 = e + 1 by omega]; exact List.mem_singleton.2 rfl)))), if_neg (by omega)]
    exact P.data hd p h1 h2 fun d hd => h3 d (List.mem_append.2 (.inl hd))
  · intro c' h1 h2
    rw [hat _ (by omega) (by omega), if_neg (by omega), if_neg (by omega)]
    refine (P.chain c' h1 h2).keep fun x hx => ?_
    have hm' := hme ((P.listed c' h1 h2 x).1 hx).1
    rw [hat _ (by omega) (by omega), if_neg (by omega), if_neg (by omega)]
  · intro c' h1 h2 x
    rw [P.listed c' h1 h2 x, hst, List.mem_append, List.mem_singleton]
    constructor
    · rintro ⟨h3, h4⟩
      have := hme h3
      rw [if_neg (by omega)]
      exact ⟨.inl h3, h4⟩
    · rintro ⟨h3 | h3, h4⟩
      · have := hme h3
        rw [if_neg (by omega)] at h4
        exact ⟨h3, h4⟩
      · cases h3
        rw [if_pos rfl] at h4
        omega

/-! ### what is done with a heap -/
theorem headI_free {c : Int} (hc : 1 ≤ c ∧ c ≤ 4) : headA c = (c, false) := by unfold headA; rw [if_pos hc]
theorem headI_live {c : Int} (hc : 1 ≤ c ∧ c ≤ 4) : headA (c + 8) = (c, true) := by
  unfold headA
  rw [if_neg (by omega), if_pos (by omega), show c + 8 - 8 = c by omega]
/-! ### a fresh heap -/
theorem rep_at (n i : Nat) : wordAt (List.replicate n (0 : Int)) i = 0 := by
  unfold wordAt
  rw [List.getElem?_replicate]
  split <;> rfl
/-! ### blocks and lists of such words -/
def told1 (sts : List Int) (b : Bk) : BlkT := (b.1, b.2, decide (wordAt sts b.1.toNat = 1))
theorem parse_ok {e : Int} : ∀ {bs : List Bk} {a : Int} {m : Nat} {acc : List BlkT}, Tile e a bs → 14 ≤ a → (∀ b ∈ bs, wordAt zs (b.1 - 1).toNat = b.2 + (if wordAt sts b.1.toNat = 1 then 8 else 0)) → bs.length < m →
    parseM zs e m a acc = some (acc ++ bs.map (told1 sts)) := by
  intro bs
  induction bs with
  | nil =>
    intro a m acc h _ _ hm
    obtain ⟨m, rfl⟩ : ∃ k, m = k + 1 := ⟨m - 1, by simp at hm; omega⟩
    have h : a = e := h
    subst h
    rw [parseM_s, if_pos (Int.le_refl _)]; simp
  | cons b bs ih =>
    intro a m acc h ha hh hm
    obtain ⟨m, rfl⟩ : ∃ k, m = k + 1 := ⟨m - 1, by simp at hm; omega⟩
    obtain ⟨h1, h2, h3⟩ := h
    have h4 := h3.le
    have h5 := sizeA_pos h2
    have hb := hh b (List.mem_cons_self ..)
    rw [h1, show a + 1 - 1 = a by omega] at hb
    have hd1 : hd zs a = (b.2, decide (wordAt sts b.1.toNat = 1)) := by
      unfold hd
      rw [hb, h1]
      by_cases hs : wordAt sts (a + 1).toNat = 1
      · rw [if_pos hs, headI_live h2, decide_eq_true hs]
      · rw [if_neg hs, Int.add_zero, headI_free h2, decide_eq_false hs]
    rw [parseM_s, if_neg (by omega), hd1]
    dsimp only
    rw [if_neg (by omega), ih h3 (by omega) (fun x hx => hh x (List.mem_cons_of_mem _ hx)) (by simp at hm; omega)]
    rw [List.append_assoc]
    congr 2
    show (a + 1, b.2, _) :: _ = told1 sts b :: _
    unfold told1
    rw [h1]; rfl
theorem PartS.blocks (P : PartS dt zs sts T bs ls) : blocksM zs = some (bs.map (told1 sts)) := by
  have hlo := P.lo
  have hhi := P.hi
  have hlow := P.low
  have hb := P.bump
  have hle := P.tile.le
  unfold blocksM
  rw [if_neg (by rw [P.len]; omega), parse_ok P.tile (by omega) P.hdr (by omega), List.nil_append]
theorem row_ok {Bs : List BlkT} {c : Int} : ∀ {l : List Int} {w : Int} {m : Nat} {acc : List Int}, Chain zs w l → (∀ x ∈ l, x ≠ 0 ∧ (x, c, false) ∈ Bs) → (acc ++ l).Nodup → l.length < m → rowM zs Bs c m w acc = some (acc ++ l) := by
  intro l
  induction l with
  | nil =>
    intro w m acc h _ _ hm
    obtain ⟨m, rfl⟩ : ∃ k, m = k + 1 := ⟨m - 1, by simp at hm; omega⟩
    have h : w = 0 := h
    subst h
    rw [rowM_s, if_pos rfl, List.append_nil]
  | cons x l ih =>
    intro w m acc h hx hn hm
    obtain ⟨m, rfl⟩ : ∃ k, m = k + 1 := ⟨m - 1, by simp at hm; omega⟩
    obtain ⟨h1, h2⟩ := h
    have hx1 := hx x (List.mem_cons_self ..)
    have e : acc ++ x :: l = (acc ++ [x]) ++ l := by simp
    have hni : x ∉ acc := by
      rw [List.nodup_append] at hn
      intro h
      exact hn.2.2 x h x (List.mem_cons_self ..) rfl
    rw [rowM_s, h1, if_neg hx1.1, if_pos ⟨hx1.2, hni⟩, e]
    exact ih h2 (fun y hy => hx y (List.mem_cons_of_mem _ hy)) (e ▸ hn) (by simp at hm; omega)
theorem PartS.lists (P : PartS dt zs sts T bs ls) : listsM zs = some [ls 1, ls 2, ls 3, ls 4] := by
  have key : ∀ c : Int, 1 ≤ c → c ≤ 4 → rowM zs (bs.map (told1 sts)) c 301 (wordAt zs c.toNat) [] = some (ls c) := by
    intro c h1 h2
    have hb : ∀ x ∈ ls c, (x, c) ∈ bs ∧ wordAt sts x.toNat = 3 := fun x hx => (P.listed c h1 h2 x).1 hx
    have hn : (ls c).length ≤ 256 := row_len (n := T) (P.nodup c) (fun x hx => by have := P.mem (hb x hx).1; omega) P.hi
    rw [row_ok (P.chain c h1 h2) (fun x hx => ?_) (by rw [List.nil_append]; exact P.nodup c) (by omega), List.nil_append]
    have h3 := hb x hx
    have h4 := P.mem h3.1
    refine ⟨by omega, List.mem_map.2 ⟨_, h3.1, ?_⟩⟩
    unfold told1
    dsimp only
    rw [h3.2]; rfl
  unfold listsM
  rw [P.blocks, Option.bind_some]
  unfold rowsM
  rw [key 1 (by omega) (by omega), Option.bind_some]
  unfold rowsM
  rw [show (1 : Int) + 1 = 2 from rfl, key 2 (by omega) (by omega), Option.bind_some]
  unfold rowsM
  rw [show (2 : Int) + 1 = 3 from rfl, key 3 (by omega) (by omega), Option.bind_some]
  unfold rowsM
  rw [show (3 : Int) + 1 = 4 from rfl, key 4 (by omega) (by omega), Option.bind_some]
  rfl

/-! ### as many states as blocks -/
theorem sub_len {α : Type} [BEq α] [LawfulBEq α] : ∀ {l1 l2 : List α}, l1.Nodup → (∀ x ∈ l1, x ∈ l2) → l1.length ≤ l2.length := by
  intro l1
  induction l1 with
  | nil => intro l2 _ _; simp
  | cons a l ih =>
    intro l2 hn hs
    rw [List.nodup_cons] at hn
    have ha := hs a (List.mem_cons_self ..)
    have h1 := ih (l2 := l2.erase a) hn.2 (fun x hx => by
      have hne : x ≠ a := by rintro rfl; exact hn.1 hx
      exact (List.mem_erase_of_ne hne).2 (hs x (List.mem_cons_of_mem _ hx)))
    have h2 := List.length_erase_of_mem ha
    have h3 := List.length_pos_of_mem ha
    simp only [List.length_cons]
    omega
def cntS (sts : List Int) (n : Nat) : Nat := ((List.range n).filter fun x => decide (wordAt sts x ≠ 0)).length
theorem PartS.count (P : PartS dt zs sts T bs ls) : cntS sts 257 = bs.length := by
  have hhi := P.hi
  have h1 : ((List.range 257).filter fun x => decide (wordAt sts x ≠ 0)).Nodup := List.Nodup.sublist (List.filter_sublist ..) List.nodup_range
  have h2 : (bs.map (·.1.toNat)).Nodup := by
    have h := P.tile.nodup
    rw [show (bs.map fun b => b.1.toNat) = (bs.map (·.1)).map Int.toNat by rw [List.map_map]; rfl]
    have key : ∀ l : List Int, l.Nodup → (∀ x ∈ l, 0 ≤ x) → (l.map Int.toNat).Nodup := by
      intro l
      induction l with
      | nil => intro _ _; exact List.nodup_nil
      | cons a l ih =>
        intro hn hp
        rw [List.nodup_cons] at hn
        rw [List.map_cons, List.nodup_cons]
        refine ⟨?_, ih hn.2 fun x hx => hp x (List.mem_cons_of_mem _ hx)⟩
        intro hm
        obtain ⟨x, hx, he⟩ := List.mem_map.1 hm
        have := hp x (List.mem_cons_of_mem _ hx)
        have := hp a (List.mem_cons_self ..)
        have : x = a := by omega
        subst this
        exact hn.1 hx
    refine key _ h fun x hx => ?_
    obtain ⟨⟨b, c⟩, hb, rfl⟩ := List.mem_map.1 hx
    have := P.mem hb
    dsimp only; omega
  have e : bs.length = (bs.map (·.1.toNat)).length := by simp
  unfold cntS
  rw [e]
  apply Nat.le_antisymm
  · refine sub_len h1 fun x hx => ?_
    rw [List.mem_filter] at hx
    obtain ⟨c, hc⟩ := P.known x (of_decide_eq_true hx.2)
    exact List.mem_map.2 ⟨_, hc, by dsimp only; omega⟩
  · refine sub_len h2 fun x hx => ?_
    obtain ⟨⟨b, c⟩, hb, rfl⟩ := List.mem_map.1 hx
    have := P.mem hb
    have h3 := P.st _ hb
    dsimp only at h3 ⊢
    rw [List.mem_filter]
    exact ⟨List.mem_range.2 (by omega), decide_eq_true (by omega)⟩
end Go.Proofs.YtcmjgcfkhommkaaGreatDoor.arenaParts
namespace Go.Proofs.YtcmjgcfkhommkaaGreatDoor
open Go Go.Ae arenaPlays arenaParts
set_option maxRecDepth 100000

def andZ (a b : Int) : Int := IntKind.u8.wrap (BitVec.ofInt IntKind.u8.bits a &&& BitVec.ofInt IntKind.u8.bits b).toNat
theorem ww_andE {a b : Int} {K : AV → Go.Ae.R} {Q : AV → AH → Prop} (w : wp (K (.int .u8 (andZ a b))) Q) : wp (pInt .and (.int .u8 a) (.int .u8 b) K) Q := by
  rw [pInt_k]; simp only [aint]; exact w
/-- what a byte makes of its block: live, in a list, at rest -/
def stB (b : Int) : Int := if 0 < andZ b ((16 : Nat) : Int) then 1 else if 0 < andZ b ((32 : Nat) : Int) then 3 else 2
theorem stB_fin : ∀ b : Fin 256, andZ ((b.val : Nat) : Int) ((48 : Nat) : Int) = 0 ↔ stB ((b.val : Nat) : Int) = 2 := by decide +kernel
theorem stB_rest {b : Int} (h : 0 ≤ b ∧ b ≤ 255) : andZ b ((48 : Nat) : Int) = 0 ↔ stB b = 2 := by
  have := stB_fin ⟨b.toNat, by omega⟩
  dsimp only at this
  rw [Int.toNat_of_nonneg h.1] at this
  exact this
variable {zs zt sts : List Int} {T : Nat} {bs : List Bk} {ls : Int → List Int}
theorem part_congr (P : PartS False zs sts T bs ls) (hl : zt.length = T) (hn : ∀ z ∈ zt, 0 ≤ z ∧ z < 18446744073709551616) (h : ∀ p : Nat, 0 < p → p < T → wordAt zt p = wordAt zs p) : PartS False zt sts T bs ls := by
  have hlo := P.lo
  have hhi := P.hi
  have h5 := h 5 (by omega) (by omega)
  refine ⟨hl, P.lo, P.hi, hn, P.slen, by rw [h5]; exact P.tile, by rw [h5]; exact P.bump, ?_, P.known, P.st, fun h => h.elim, ?_, P.listed, P.nodup⟩
  · rintro ⟨b, c⟩ hb
    have := P.mem hb
    rw [h _ (by dsimp only; omega) (by dsimp only; omega)]
    exact P.hdr _ hb
  · intro c h1 h2
    rw [h _ (by omega) (by omega)]
    refine (P.chain c h1 h2).keep fun x hx => ?_
    have hm := P.mem ((P.listed c h1 h2 x).1 hx).1
    exact h _ (by omega) (by omega)

variable {p : Nat} {c : Int}
theorem gen_live (P : PartS False zs sts T bs ls) (hc : 1 ≤ c ∧ c ≤ 4) (he : wordAt zs 5 = (p : Int)) (hT : (p : Int) + 1 + sizeA c ≤ T) (hn : ∀ z ∈ zt, 0 ≤ z ∧ z < 18446744073709551616) (hl : zt.length = T)
    (h : ∀ q : Nat, wordAt zt q = if 5 = q then (p : Int) + 1 + sizeA c else if p = q then c + 8 else wordAt zs q) : PartS False zt (sts.set (p + 1) 1) T (bs ++ [((p : Int) + 1, c)]) ls := by
  have P1 := P.grown hc he hT
  have hlow := P.low
  rw [show ((p : Int) + 1).toNat = p + 1 by omega] at P1
  refine part_congr P1 hl hn fun q h0 hq => ?_
  rw [h, apply_two P.len P.lo P.hi h0 hq]
  by_cases e1 : p = q
  · rw [if_neg (by omega), if_pos e1, if_pos (by omega)]
  · rw [if_neg e1, if_neg (by omega : ¬ (p : Int) = (q : Int))]
    by_cases e2 : 5 = q
    · rw [if_pos e2, if_pos (by omega)]
    · rw [if_neg e2, if_neg (by omega)]
theorem gen_rest0 (P : PartS False zs sts T bs ls) (hc : 1 ≤ c ∧ c ≤ 4) (he : wordAt zs 5 = (p : Int)) (hT : (p : Int) + 1 + sizeA c ≤ T) :
    ∃ zt, PartS False zt (sts.set (p + 1) 2) T (bs ++ [((p : Int) + 1, c)]) ls ∧ ∀ q : Nat, 0 < q → q < T → wordAt zt q = if 5 = q then (p : Int) + 1 + sizeA c else if p = q then c else wordAt zs q := by
  have P1 := P.grown hc he hT
  have hlow := P.low
  rw [he] at hlow
  rw [show ((p : Int) + 1).toNat = p + 1 by omega] at P1
  have hs := sizeA_pos hc
  have hst : wordAt (sts.set (p + 1) 1) ((p : Int) + 1).toNat = 1 := by
    have := P.slen
    have := P.hi
    rw [show ((p : Int) + 1).toNat = p + 1 by omega, set_at _ _ _ _ (by omega), if_pos rfl]
  have P2 := P1.freed (b := (p : Int) + 1) (c := c) (List.mem_append.2 (.inr (List.mem_singleton.2 rfl))) hst
  rw [show ((p : Int) + 1).toNat = p + 1 by omega, List.set_set] at P2
  refine ⟨_, P2, fun q h0 hq => ?_⟩
  rw [apply_one P1.len P.lo P.hi h0 hq, apply_two P.len P.lo P.hi h0 hq]
  by_cases e1 : p = q
  · rw [if_pos (by omega : (p : Int) + 1 - 1 = (q : Int)), if_neg (by omega), if_pos e1]
  · rw [if_neg (by omega : ¬ (p : Int) + 1 - 1 = (q : Int)), if_neg e1, if_neg (by omega : ¬ (p : Int) = (q : Int))]
    by_cases e2 : 5 = q
    · rw [if_pos e2, if_pos (by omega)]
    · rw [if_neg e2, if_neg (by omega)]
theorem gen_rest (P : PartS False zs sts T bs ls) (hc : 1 ≤ c ∧ c ≤ 4) (he : wordAt zs 5 = (p : Int)) (hT : (p : Int) + 1 + sizeA c ≤ T) (hn : ∀ z ∈ zt, 0 ≤ z ∧ z < 18446744073709551616) (hl : zt.length = T)
    (h : ∀ q : Nat, wordAt zt q = if 5 = q then (p : Int) + 1 + sizeA c else if p = q then c else wordAt zs q) : PartS False zt (sts.set (p + 1) 2) T (bs ++ [((p : Int) + 1, c)]) ls := by
  obtain ⟨zu, P2, hq⟩ := gen_rest0 P hc he hT
  exact part_congr P2 hl hn fun q h0 h1 => by rw [h, hq q h0 h1]
theorem gen_list (P : PartS False zs sts T bs ls) (hc : 1 ≤ c ∧ c ≤ 4) (he : wordAt zs 5 = (p : Int)) (hT : (p : Int) + 1 + sizeA c ≤ T) (hn : ∀ z ∈ zt, 0 ≤ z ∧ z < 18446744073709551616) (hl : zt.length = T)
    (h : ∀ q : Nat, wordAt zt q = if 5 = q then (p : Int) + 1 + sizeA c else if c = (q : Int) then (p : Int) + 1 else if p + 1 = q then wordAt zs c.toNat else if p = q then c else wordAt zs q) :
    PartS False zt (sts.set (p + 1) 3) T (bs ++ [((p : Int) + 1, c)]) (fun d => if d = c then ((p : Int) + 1) :: ls c else ls d) := by
  obtain ⟨zu, P2, hq⟩ := gen_rest0 P hc he hT
  have hlow := P.low
  rw [he] at hlow
  have hs := sizeA_pos hc
  have hlo := P.lo
  have hhi := P.hi
  have hst : wordAt (sts.set (p + 1) 2) ((p : Int) + 1).toNat = 2 := by
    have := P.slen
    rw [show ((p : Int) + 1).toNat = p + 1 by omega, set_at _ _ _ _ (by omega), if_pos rfl]
  have P3 := P2.given (b := (p : Int) + 1) (c := c) (List.mem_append.2 (.inr (List.mem_singleton.2 rfl))) hst
  rw [show ((p : Int) + 1).toNat = p + 1 by omega, List.set_set] at P3
  refine part_congr P3 hl hn fun q h0 h1 => ?_
  rw [h, apply_two P2.len P.lo P.hi h0 h1, hq _ (by omega) (by omega), hq q h0 h1]
  rw [if_neg (by omega : ¬ 5 = c.toNat), if_neg (by omega : ¬ p = c.toNat)]
  by_cases e5 : 5 = q
  · rw [if_pos e5, if_neg (by omega : ¬ c = (q : Int)), if_neg (by omega : ¬ (p : Int) + 1 = (q : Int)), if_pos e5]
  · rw [if_neg e5]
    by_cases e1 : c = (q : Int)
    · rw [if_pos e1, if_pos e1]
    · rw [if_neg e1, if_neg e1]
      by_cases e2 : p + 1 = q
      · rw [if_pos e2, if_pos (by omega)]
      · rw [if_neg e2, if_neg (by omega : ¬ (p : Int) + 1 = (q : Int)), if_neg e5]

/-- each block is what its byte said -/
def Plan (bytes sts : List Int) (bs : List Bk) : Prop := ∀ (j : Nat) (x : Bk) (b : Int), bs[j]? = some x → bytes[j]? = some b → x.2 = b.tmod ((3 : Nat) : Int) + ((1 : Nat) : Int) ∧ wordAt sts x.1.toNat = stB b
theorem plan_step {bytes : List Int} (P : PartS False zs sts T bs ls) (he : wordAt zs 5 = (p : Int)) (hp : p + 3 ≤ T) (L : Plan bytes sts bs) {b : Int} (hb : bytes[bs.length]? = some b) (hc : c = b.tmod ((3 : Nat) : Int) + ((1 : Nat) : Int)) : Plan bytes (sts.set (p + 1) (stB b)) (bs ++ [((p : Int) + 1, c)]) := by
  intro j x b2 h1 h2
  have hsl := P.slen
  have hhi := P.hi
  have hat : ∀ k, wordAt (sts.set (p + 1) (stB b)) k = if p + 1 = k then stB b else wordAt sts k := fun k => set_at sts _ k _ (by omega)
  rcases Nat.lt_or_ge j bs.length with hj | hj
  · rw [List.getElem?_append_left hj] at h1
    obtain ⟨h3, h4⟩ := L j x b2 h1 h2
    have hm := P.tile.mem x (List.mem_of_getElem? h1)
    rw [he] at hm
    have := sizeA_pos hm.2.1
    refine ⟨h3, ?_⟩
    rw [hat, if_neg (by omega)]
    exact h4
  · rw [List.getElem?_append_right hj] at h1
    have hj0 : j - bs.length = 0 := by
      rcases Nat.eq_zero_or_pos (j - bs.length) with h | h
      · exact h
      · rw [List.getElem?_eq_none (by simp; omega)] at h1; cases h1
    rw [hj0] at h1
    cases h1
    have : j = bs.length := by omega
    subst this
    rw [hb] at h2
    cases h2
    refine ⟨hc, ?_⟩
    rw [show ((p : Int) + 1).toNat = p + 1 by omega, hat, if_pos rfl]
theorem gen_nil {n : Nat} (h1 : 32 ≤ n) (h2 : n ≤ 80) : PartS False ((List.replicate n (0 : Int)).set 5 14) (List.replicate 257 0) n [] fun _ => [] := by
  have hat : ∀ p, wordAt ((List.replicate n (0 : Int)).set 5 14) p = if 5 = p then 14 else 0 := by
    intro p
    rw [set_at _ _ _ _ (by simp; omega), rep_at]
  have h5 : wordAt ((List.replicate n (0 : Int)).set 5 14) 5 = 14 := by rw [hat, if_pos rfl]
  refine ⟨by simp, h1, by omega, ?_, by simp, h5.symm, by rw [h5]; omega, (fun b hb => by cases hb), ?_, (fun b hb => by cases hb), fun h => h.elim, ?_, ?_, fun _ => List.nodup_nil⟩
  · intro z hz
    rcases List.mem_or_eq_of_mem_set hz with h | rfl
    · rw [List.eq_of_mem_replicate h]; omega
    · omega
  · intro x hx
    exact absurd (rep_at 257 x) hx
  · intro c h1 h2
    show wordAt _ _ = 0
    rw [hat, if_neg (by omega)]
  · intro c h1 h2 x
    constructor
    · intro h; cases h
    · rintro ⟨h, _⟩; cases h
theorem tw_size {c : Int} (h : 1 ≤ c ∧ c ≤ 3) : tw c = sizeA c := by
  obtain rfl | rfl | rfl : c = 1 ∨ c = 2 ∨ c = 3 := by omega
  all_goals decide

variable {g h : AH} {L R : List SP}
/-- what is drawn -/
structure Drawn (bytes zs sts : List Int) (bs : List Bk) (ls : Int → List Int) : Prop where
  part : PartS False zs sts zs.length bs ls
  plan : Plan bytes sts bs
  len : bs.length ≤ 8 ∧ bs.length ≤ bytes.length
  len80 : zs.length ≤ 80
theorem kwordsP_ok {n : Nat} (hn : 2 ≤ n) {x : Int} {bv : AV} {bytes : List Int} (H : HS g h R) (S : Rd g R 1 bytes.length bv (bytes.map (.int .u8))) (hb : ∀ z ∈ bytes, 0 ≤ z ∧ z ≤ 255) :
    wp (callT tab rtab n (.fn 11 [] []) [.int .i64 x, .nils, bv] h) fun r h' => ∃ zs sts bs ls, Drawn bytes zs sts bs ls ∧ HS g h' (SliC 24 1 zs.length r (zs.map (.int .u64)) :: R) := by
  (refine ww_fn (g := W11) rfl (by omega) fun k hk => ?_; show wp (S11 (callT tab rtab k) _ _ _ _) _; unfold S11; try simp only [Int.ofNat_eq_natCast])
  refine ww_call (within_ok (by omega) (by omega) (by omega) (by omega)) ?_
  rintro _ _ ⟨rfl, rfl⟩
  have hwb := within_b (x := x) (lo := ((32 : Nat) : Int)) (hi := ((80 : Nat) : Int)) (by omega)
  obtain ⟨n, hn⟩ : ∃ n : Nat, withinZ x ((32 : Nat) : Int) ((80 : Nat) : Int) = (n : Int) := ⟨_, (Int.toNat_of_nonneg (by omega)).symm⟩
  rw [hn] at hwb ⊢
  refine ww_make (Nat.le_refl _) (by omega) fun b h3 hb3 A F => ?_
  have H3 : HS g h3 (SliC 24 1 n (.slice b 0 n n false) ((List.replicate n (0 : Int)).map (.int .u64)) :: R) := by
    refine H.add (D' := fun a => a = b) F.none ⟨by simp, .inr ⟨b, n, false, _, rfl, fun a => Iff.rfl, A, by rw [repl_len]; simp, ?_, ?_⟩⟩ ?_
    · rw [List.take_of_length_le (by rw [repl_len]; simp), repl_one, List.map_replicate]; rfl
    · rw [if_neg (by simp)]; exact ⟨by rw [repl_len]; rfl, Nat.le_refl _⟩
    · rintro a rfl; exact ⟨hb3, A.lt⟩
  generalize AV.slice b 0 n n false = wv at *
  clear H F A
  refine ww_slI (i := 5) H3 (by omega) ⟨rfl, rfl⟩ fun h4 H => ?_
  rw [← List.map_set] at H
  have P0 := gen_nil (n := n) (by omega) (by omega)
  have e5 : wordAt ((List.replicate n (0 : Int)).set 5 14) 5 = ((14 : Nat) : Int) := by rw [set_at _ _ _ _ (by simp; omega), if_pos rfl]; rfl
  change HS g h4 (SliC 24 1 n wv (((List.replicate n (0 : Int)).set 5 14).map (.int .u64)) :: R) at H
  generalize (List.replicate n (0 : Int)).set 5 14 = zs at *
  generalize List.replicate 257 (0 : Int) = sts at *
  clear H3
  refine ww_iter (fun m s h' => s = (.int .i64 ((0 : Nat) : Int), wv, bv, .nils, ()) ∧ h' = h4 ∧ m = 0) ?_ (m := 0) (by show 0 < 1000000000; omega) ⟨rfl, rfl, rfl⟩
  rintro m ih s h5 hih ⟨rfl, e4, rfl⟩
  rw [e4]
  dsimp only
  refine ww_lenN (ww_lssF (by omega) ?_)
  (first | with_reducible refine ww_condT ?_ | with_reducible refine ww_condF ?_ | (with_reducible refine ww_wantTT ?_; try dsimp only) | (with_reducible refine ww_wantTF ?_; try dsimp only) | (with_reducible refine ww_wantFT ?_; try dsimp only) | (with_reducible refine ww_wantFF ?_; try dsimp only) | (with_reducible refine ww_wantU ?_; try dsimp only) | with_reducible refine ww_pickT ?_ | with_reducible refine ww_pickF ?_ | (with_reducible refine ww_joinS ?_; try dsimp only) | with_reducible refine ww_leave ?_ | with_reducible refine ww_notT ?_ | with_reducible refine ww_notF ?_ | with_reducible refine ww_addI (by omega) ?_ | with_reducible refine ww_subI (by omega) ?_ | with_reducible refine ww_addU (by omega) ?_ | with_reducible refine ww_subU (by omega) ?_ | with_reducible refine ww_min ?_ | with_reducible refine ww_max ?_)
  (first | with_reducible refine ww_condT ?_ | with_reducible refine ww_condF ?_ | (with_reducible refine ww_wantTT ?_; try dsimp only) | (with_reducible refine ww_wantTF ?_; try dsimp only) | (with_reducible refine ww_wantFT ?_; try dsimp only) | (with_reducible refine ww_wantFF ?_; try dsimp only) | (with_reducible refine ww_wantU ?_; try dsimp only) | with_reducible refine ww_pickT ?_ | with_reducible refine ww_pickF ?_ | (with_reducible refine ww_joinS ?_; try dsimp only) | with_reducible refine ww_leave ?_ | with_reducible refine ww_notT ?_ | with_reducible refine ww_notF ?_ | with_reducible refine ww_addI (by omega) ?_ | with_reducible refine ww_subI (by omega) ?_ | with_reducible refine ww_addU (by omega) ?_ | with_reducible refine ww_subU (by omega) ?_ | with_reducible refine ww_min ?_ | with_reducible refine ww_max ?_)
  (first | with_reducible refine ww_condT ?_ | with_reducible refine ww_condF ?_ | (with_reducible refine ww_wantTT ?_; try dsimp only) | (with_reducible refine ww_wantTF ?_; try dsimp only) | (with_reducible refine ww_wantFT ?_; try dsimp only) | (with_reducible refine ww_wantFF ?_; try dsimp only) | (with_reducible refine ww_wantU ?_; try dsimp only) | with_reducible refine ww_pickT ?_ | with_reducible refine ww_pickF ?_ | (with_reducible refine ww_joinS ?_; try dsimp only) | with_reducible refine ww_leave ?_ | with_reducible refine ww_notT ?_ | with_reducible refine ww_notF ?_ | with_reducible refine ww_addI (by omega) ?_ | with_reducible refine ww_subI (by omega) ?_ | with_reducible refine ww_addU (by omega) ?_ | with_reducible refine ww_subU (by omega) ?_ | with_reducible refine ww_min ?_ | with_reducible refine ww_max ?_)
  (first | with_reducible refine ww_condT ?_ | with_reducible refine ww_condF ?_ | (with_reducible refine ww_wantTT ?_; try dsimp only) | (with_reducible refine ww_wantTF ?_; try dsimp only) | (with_reducible refine ww_wantFT ?_; try dsimp only) | (with_reducible refine ww_wantFF ?_; try dsimp only) | (with_reducible refine ww_wantU ?_; try dsimp only) | with_reducible refine ww_pickT ?_ | with_reducible refine ww_pickF ?_ | (with_reducible refine ww_joinS ?_; try dsimp only) | with_reducible refine ww_leave ?_ | with_reducible refine ww_notT ?_ | with_reducible refine ww_notF ?_ | with_reducible refine ww_addI (by omega) ?_ | with_reducible refine ww_subI (by omega) ?_ | with_reducible refine ww_addU (by omega) ?_ | with_reducible refine ww_subU (by omega) ?_ | with_reducible refine ww_min ?_ | with_reducible refine ww_max ?_)
  refine ww_joinD [] (fun s h' => s = (wv, ()) ∧ ∃ zs sts bs ls, zs.length = n ∧ Drawn bytes zs sts bs ls ∧ HS g h' (SliC 24 1 n wv (zs.map (.int .u64)) :: R)) ?_ ?_
  · intro j hj
    refine ww_iter (fun m s h' => ∃ (i p : Nat) (zs sts : List Int) (bs : List Bk) (ls : Int → List Int), s = (.int .i64 (i : Int), .int .i64 (p : Int), wv, bv, ()) ∧ i ≤ 8 ∧ m = 8 - i ∧ i = bs.length ∧ bs.length ≤ bytes.length ∧ wordAt zs 5 = (p : Int) ∧ PartS False zs sts n bs ls ∧ Plan bytes sts bs ∧ HS g h' (SliC 24 1 n wv (zs.map (.int .u64)) :: R))
      ?_ (m := 8) (by show 8 < 1000000000; omega) ⟨0, 14, zs, sts, [], _, rfl, by omega, by omega, rfl, by simp, e5, P0, (fun j x b h => by simp at h), H⟩
    clear H P0 e5 hih zs sts
    rintro m ih s h5 hih ⟨i, p, zs, sts, bs, ls, rfl, hi8, rfl, hil, hib, he, P, L, H⟩
    dsimp only
    have hdone : Drawn bytes zs sts bs ls := ⟨by rw [P.len]; exact P, L, ⟨by omega, hib⟩, by rw [P.len]; omega⟩
    refine ww_len (S.sl H.drop) (ww_lss ?_)
    refine ww_join (fun s g' => ∃ (r : AV) (u x : Bool), s = (r, .bool u, .int .i64 (i : Int), .int .i64 (p : Int), wv, bv, ()) ∧ g' = h5 ∧ (u = true → r = .bool x) ∧ ((u && x) = decide (i < bytes.length ∧ i < 8))) ?_ ?_
    · intro j hj
      refine ww_want (fun hl => ww_lss (hj _ _ ⟨_, _, decide (i < 8), rfl, rfl, fun _ => (by congr 1; exact decide_eq_decide.2 (by omega)), ?_⟩)) (fun hl => hj _ _ ⟨_, _, false, rfl, rfl, fun h => absurd (of_decide_eq_true h) hl, ?_⟩)
      · have hl' : i < bytes.length := by omega
        simp [hl']
      · have hl' : ¬ i < bytes.length := by omega
        simp [hl']
    rintro s h6 ⟨r, u, x, rfl, e6, hr, hux⟩
    rw [e6]
    refine ww_pickAndK hr ?_
    rw [hux]
    dsimp only
    refine ww_cond (fun hi => ?_) fun hi => hj _ _ ⟨rfl, zs, sts, bs, ls, P.len, hdone, H⟩
    have gi : bytes[i]? = some bytes[i] := List.getElem?_eq_getElem hi.1
    have hci : (bytes.map (AV.int .u8))[i]? = some (.int .u8 bytes[i]) := by rw [List.getElem?_map, gi]; rfl
    have hbi := hb bytes[i] (List.getElem_mem hi.1)
    generalize bytes[i] = y at *
    have hb1 := Int.tmod_nonneg ((3 : Nat) : Int) hbi.1
    have hb2 := Int.tmod_lt_of_pos y (show 0 < ((3 : Nat) : Int) by omega)
    refine ww_idx1 (S.sl H.drop) hci (ww_rem (by omega) (ww_convII (by omega) (ww_addI (by omega) ?_)))
    obtain ⟨c, hc⟩ : ∃ c, c = Int.tmod y ((3 : Nat) : Int) + ((1 : Nat) : Int) := ⟨_, rfl⟩
    rw [← hc]
    have hcb : 1 ≤ c ∧ c ≤ 3 := by omega
    have htw := tw_b hcb
    have hsz := tw_size hcb
    have hlow := P.low
    have hbp := P.bump
    rw [he] at hlow hbp
    refine ww_addI (by omega) (ww_convIU (by omega) (ww_shl (by omega) ?_))
    show wp (pInt .add _ (.int .i64 (tw c)) _) _
    rw [hsz] at htw ⊢
    refine ww_addI (by omega) (ww_lenH H .here (ww_gtrC (fun hg => ww_condT (hj _ _ ⟨rfl, zs, sts, bs, ls, P.len, hdone, H⟩)) fun hg => ww_condF ?_))
    refine ww_convIU (by omega) ?_
    have hzl := P.len
    refine ww_slI H (by omega) ⟨rfl, rfl⟩ fun h6 H => ?_
    rw [← List.map_set] at H
    have hz0 : OkN zs := P.nn
    have hpl : p < zs.length := by omega
    refine ww_joinD [] (fun s h' => s = (.int .i64 c, .int .i64 (i : Int), .int .i64 (p : Int), wv, bv, ()) ∧ ∃ zt ls, zt.length = n ∧ OkN zt ∧ PartS False (zt.set 5 ((p : Int) + 1 + sizeA c)) (sts.set (p + 1) (stB y)) n (bs ++ [((p : Int) + 1, c)]) ls ∧ HS g h' (SliC 24 1 n wv (zt.map (.int .u64)) :: R)) ?_ ?_
    · intro j hj
      have fin : ∀ {zt : List Int}, zt.length = n → OkN zt → (zt.set 5 ((p : Int) + 1 + sizeA c)).length = n ∧ (∀ z ∈ zt.set 5 ((p : Int) + 1 + sizeA c), 0 ≤ z ∧ z < 18446744073709551616) ∧ ∀ q, wordAt (zt.set 5 ((p : Int) + 1 + sizeA c)) q = if 5 = q then (p : Int) + 1 + sizeA c else wordAt zt q :=
        fun h1 h2 => ⟨by rw [List.length_set]; exact h1, h2.set (by omega), fun q => set_at _ _ _ _ (by omega)⟩
      refine ww_idx1 (S.sl H.drop) hci (ww_andE ?_)
      refine ww_gtrC (fun ha => ww_condT ?_) fun ha => ww_condF ?_
      · refine ww_addI (by omega) (ww_convIU (by omega) ?_)
        refine ww_slI H (by omega) ⟨rfl, rfl⟩ fun h7 H7 => ?_
        rw [← List.map_set] at H7
        have hst : stB y = 1 := by unfold stB; rw [if_pos (by omega)]
        have hl3 : ((zs.set p c).set p (c + ((8 : Nat) : Int))).length = n := by simp [hzl]
        have ho3 : OkN ((zs.set p c).set p (c + ((8 : Nat) : Int))) := (hz0.set (by omega)).set (by omega)
        obtain ⟨f1, f2, f3⟩ := fin hl3 ho3
        refine hj _ _ ⟨rfl, _, ls, hl3, ho3, ?_, H7⟩
        rw [hst]
        refine gen_live P (by omega) he (by omega) f2 f1 fun q => ?_
        rw [f3, set_at _ _ _ _ (by simp; omega), set_at _ _ _ _ (by omega)]
        by_cases e1 : p = q
        · rw [if_pos e1, if_pos e1]; rfl
        · rw [if_neg e1, if_neg e1, if_neg e1]
      · refine ww_idx1 (S.sl H.drop) hci (ww_andE ?_)
        refine ww_gtrC (fun ha2 => ww_condT ?_) fun ha2 => ww_condF ?_
        · refine ww_addI (by omega) (ww_addI (by omega) (ww_subI (by omega) ?_))
          obtain ⟨d, hd⟩ : ∃ d : Nat, ((1 : Nat) : Int) + c - ((1 : Nat) : Int) = (d : Int) := ⟨c.toNat, by omega⟩
          rw [hd]
          have hdn : d < (zs.set p c).length := by rw [List.length_set]; omega
          have hdv : (zs.set p c)[d] = wordAt zs c.toNat := by
            have : (zs.set p c)[d] = wordAt (zs.set p c) d := by unfold wordAt; rw [List.getElem?_eq_getElem hdn]; rfl
            rw [this, set_at _ _ _ _ (by omega), if_neg (by omega), show c.toNat = d by omega]
          refine ww_idx1 (x := .int .u64 (zs.set p c)[d]) (H.sl .here) (by rw [List.getElem?_map, List.getElem?_eq_getElem hdn]; rfl) ?_
          rw [hdv]
          rw [show (p : Int) + ((1 : Nat) : Int) = ((p + 1 : Nat) : Int) by omega]
          refine ww_slI H (by omega) ⟨rfl, rfl⟩ fun h7 H7 => ?_
          rw [← List.map_set] at H7
          refine ww_addI (by omega) (ww_subI (by omega) (ww_addI (by omega) (ww_convIU (by omega) ?_)))
          rw [hd]
          refine ww_slI H7 (by omega) ⟨rfl, rfl⟩ fun h8 H8 => ?_
          rw [← List.map_set] at H8
          have hst : stB y = 3 := by unfold stB; rw [if_neg (by omega), if_pos (by omega)]
          have hv := wordAt_b hz0 c.toNat
          have hl3 : (((zs.set p c).set (p + 1) (wordAt zs c.toNat)).set d ((p : Int) + ((1 : Nat) : Int))).length = n := by simp [hzl]
          have ho3 : OkN (((zs.set p c).set (p + 1) (wordAt zs c.toNat)).set d ((p : Int) + ((1 : Nat) : Int))) := ((hz0.set (by omega)).set (by omega)).set (by omega)
          obtain ⟨f1, f2, f3⟩ := fin hl3 ho3
          refine hj _ _ ⟨rfl, _, (fun d => if d = c then ((p : Int) + 1) :: ls c else ls d), hl3, ho3, ?_, H8⟩
          rw [hst]
          refine gen_list P (by omega) he (by omega) f2 f1 fun q => ?_
          rw [f3, set_at _ _ _ _ (by simp; omega), set_at _ _ _ _ (by simp; omega), set_at _ _ _ _ (by omega)]
          by_cases e1 : d = q
          · rw [if_pos e1, if_pos (by omega : c = (q : Int))]; rfl
          · rw [if_neg e1, if_neg (by omega : ¬ c = (q : Int))]
        · have hst : stB y = 2 := by unfold stB; rw [if_neg (by omega), if_neg (by omega)]
          have hl3 : (zs.set p c).length = n := by simp [hzl]
          have ho3 : OkN (zs.set p c) := hz0.set (by omega)
          obtain ⟨f1, f2, f3⟩ := fin hl3 ho3
          refine hj _ _ ⟨rfl, _, ls, hl3, ho3, ?_, H⟩
          rw [hst]
          refine gen_rest P (by omega) he (by omega) f2 f1 fun q => ?_
          rw [f3, set_at _ _ _ _ (by omega)]
    rintro s h7 ⟨rfl, zt, ls2, hl3, hz3, P3, H⟩
    dsimp only
    refine ww_addI (by omega) (ww_convIU (by omega) (ww_shl (by omega) ?_))
    show wp (pInt .add _ (.int .i64 (tw c)) _) _
    rw [hsz]
    refine ww_addI (by omega) (ww_convIU (by omega) ?_)
    refine ww_slI (i := 5) H (by omega) ⟨rfl, rfl⟩ fun h8 H8 => ?_
    rw [← List.map_set] at H8
    refine ww_addI (by omega) (hih (8 - (i + 1)) _ _ (by omega) ⟨i + 1, ((p : Int) + 1 + sizeA c).toNat, _, _, _, _, ?_, by omega, rfl, by simp; omega, by simp; omega, ?_, P3, plan_step P he (by omega) L (by rw [← hil]; exact gi) hc, H8⟩)
    · rw [Int.toNat_of_nonneg (by omega)]; rfl
    · rw [Int.toNat_of_nonneg (by omega), set_at _ _ _ _ (by omega), if_pos rfl]
  rintro s h6 ⟨rfl, zs, sts, bs, ls, hl, D, H⟩
  dsimp only
  refine ww_leave (ww_ret ⟨zs, sts, bs, ls, D, ?_⟩)
  rw [hl]
  exact H
end Go.Proofs.YtcmjgcfkhommkaaGreatDoor
