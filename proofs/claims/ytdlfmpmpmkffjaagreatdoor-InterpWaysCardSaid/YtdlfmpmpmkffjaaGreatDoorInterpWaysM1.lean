/- Lemmas for 'quietus/quietuslaw21.InterpWays': What a transaction knows and writes, as plain data: cells, levels, views; Write sets: by the program; Levels of cells and frees: by the program; Views: by the ... No condition. -/
import Derived.Test.YtdlfmpmpmkffjaaGreatDoorInterpWaysAe7
import Derived.Test.YtdlfmpmpmkffjaaGreatDoorInterpWaysT
import Derived.KernelRfl
namespace Go.Proofs.YtdlfmpmpmkffjaaGreatDoor
open Go Go.Ae
abbrev Cl : Type := Int × Int
def zE (c : Int × Int) : List AV := [.int .i64 c.1, .int .u64 c.2]
def Qz (p : Int) : List Cl → Option Nat
 | [] => none
 | c :: l => if c.1 = p then some 0 else (Qz p l).map (· + 1)
def jf (p : Int) : List Cl → Option Int
 | [] => none
 | c :: l => if c.1 = p then some c.2 else jf p l
def zb (p v : Int) : List Cl → List Cl
 | [] => [(p, v)]
 | c :: l => if c.1 = p then (p, v) :: l else c :: zb p v l
def je (l cs : List Cl) : List Cl := cs.foldl (fun l c => zb c.1 c.2 l) l
theorem Ys {p : Int} {l : List Cl} : Qz p l = none ↔ jf p l = none := by
 induction l with
 | nil => simp [Qz, jf]
 | cons c l ih =>
  unfold Qz jf
  split
  ·simp
  ·simp [ih]
theorem Y4 {p : Int} : ∀ {l : List Cl} {i : Nat}, Qz p l = some i → i < l.length ∧ (∃ x, l[i]? = some (p, x) ∧ jf p l = some x) ∧ ∀ v, zb p v l = l.set i (p, v) := by
 intro l
 induction l with
 | nil => intro i h; cases h
 | cons c l ih =>
  intro i h
  unfold Qz at h
  unfold jf
  split at h
  ·rename_i hc
   cases h
   rw [if_pos hc]
   refine ⟨by simp, ⟨c.2, by rw [← hc]; rfl, rfl⟩, fun v => ?_⟩
   unfold zb
   rw [if_pos hc]; rfl
  ·rename_i hc
   rw [if_neg hc]
   cases hi : Qz p l with
   | none => rw [hi] at h; cases h
   | some j =>
    rw [hi] at h
    cases h
    obtain ⟨h1, ⟨x, h2, h2'⟩, h3⟩ := ih hi
    refine ⟨by simp; omega, ⟨x, by simpa using h2, h2'⟩, fun v => ?_⟩
    unfold zb
    rw [if_neg hc, h3]; rfl
theorem Jw {p v : Int} {l : List Cl} (h : jf p l = none) : zb p v l = l ++ [(p, v)] := by
 induction l with
 | nil => rfl
 | cons c l ih =>
  unfold jf at h
  split at h
  ·cases h
  ·rename_i hc
   unfold zb
   rw [if_neg hc, ih h]; rfl
theorem VC {p : Int} : ∀ {l : List Cl} {i : Nat}, i < l.length → (∀ j, j < i → ∀ c, l[j]? = some c → c.1 ≠ p) → (∃ x, l[i]? = some (p, x)) → Qz p l = some i := by
 intro l
 induction l with
 | nil => intro i h; simp at h
 | cons c l ih =>
  intro i hi h1 ⟨x, h2⟩
  unfold Qz
  cases i with
  | zero =>
   simp at h2
   rw [if_pos (by rw [h2])]
  | succ i =>
   rw [if_neg (h1 0 (by omega) c rfl), ih (by simpa using hi) (fun j hj c' hc' => h1 (j + 1) (by omega) c' (by simpa using hc')) ⟨x, by simpa using h2⟩]; rfl
theorem Oi {p : Int} : ∀ {l : List Cl}, (∀ c ∈ l, c.1 ≠ p) → Qz p l = none := by
 intro l
 induction l with
 | nil => intro _; rfl
 | cons c l ih =>
  intro h
  unfold Qz
  rw [if_neg (h c (List.mem_cons_self ..)), ih fun c' hc' => h c' (List.mem_cons_of_mem _ hc')]; rfl
theorem kY {p v : Int} {l : List Cl} : (zb p v l).length = if jf p l = none then l.length + 1 else l.length := by
 induction l with
 | nil => simp [zb, jf]
 | cons c l ih =>
  unfold zb jf
  split
  ·simp
  ·rw [List.length_cons, ih]
   split <;> simp
theorem wi {p q v : Int} {l : List Cl} : jf q (zb p v l) = if q = p then some v else jf q l := by
 induction l with
 | nil =>
  simp only [zb, jf]
  by_cases h : p = q
  ·simp [h]
  ·rw [if_neg h, if_neg (fun h' => h h'.symm)]
 | cons c l ih =>
  unfold zb
  split
  ·rename_i hc
   simp only [jf]
   by_cases h : p = q
   ·simp [h]
   ·rw [if_neg h, if_neg (fun h' => h h'.symm), if_neg (by rw [hc]; exact h)]
  ·rename_i hc
   simp only [jf, ih]
   by_cases h : c.1 = q
   ·rw [if_pos h, if_pos h, if_neg (by rintro rfl; exact hc h)]
   ·rw [if_neg h, if_neg h]
def InC (l : List Cl) : Prop := ∀ c ∈ l, 1 ≤ c.1 ∧ c.1 < 256
theorem InC.put {l : List Cl} {p v : Int} (h : InC l) (hp : 1 ≤ p ∧ p < 256) : InC (zb p v l) := by
 induction l with
 | nil => intro c hc; simp [zb] at hc; subst hc; exact hp
 | cons a l ih =>
  unfold zb
  split
  ·intro c hc
   rcases List.mem_cons.1 hc with rfl | hc
   ·exact hp
   ·exact h c (List.mem_cons_of_mem _ hc)
  ·intro c hc
   rcases List.mem_cons.1 hc with rfl | hc
   ·exact h _ (List.mem_cons_self ..)
   ·exact ih (fun c hc => h c (List.mem_cons_of_mem _ hc)) c hc
def UnC (l : List Cl) : Prop := (l.map (·.1)).Nodup
theorem Xt {p : Int} {l : List Cl} : jf p l = none ↔ p ∉ l.map (·.1) := by
 induction l with
 | nil => simp [jf]
 | cons c l ih =>
  unfold jf
  split
  ·rename_i h; simp [h]
  ·rename_i h
   rw [ih, List.map_cons, List.mem_cons, not_or]
   exact ⟨fun h' => ⟨fun h2 => h h2.symm, h'⟩, fun h' => h'.2⟩
theorem NR {p v : Int} {l : List Cl} : (zb p v l).map (·.1) = if jf p l = none then l.map (·.1) ++ [p] else l.map (·.1) := by
 induction l with
 | nil => simp [zb, jf]
 | cons c l ih =>
  unfold zb jf
  split
  ·rename_i h; simp [h]
  ·rw [List.map_cons, ih]
   split <;> simp
theorem UnC.put {l : List Cl} {p v : Int} (h : UnC l) : UnC (zb p v l) := by
 unfold UnC
 rw [NR]
 split
 ·rename_i hp
  rw [Xt] at hp
  rw [List.nodup_append]
  exact ⟨h, by simp, fun a ha b hb => by rw [List.mem_singleton] at hb; subst hb; rintro rfl; exact hp ha⟩
 ·exact h
theorem qQd {l : List Cl} : ∀ {cs : List Cl}, UnC cs → (∀ c ∈ cs, jf c.1 l = none) → je l cs = l ++ cs := by
 intro cs
 induction cs generalizing l with
 | nil => intro _ _; simp [je]
 | cons c cs ih =>
  intro hu hn
  have hu' : UnC cs := (List.nodup_cons.1 hu).2
  have hc : c.1 ∉ cs.map (·.1) := (List.nodup_cons.1 hu).1
  show je (zb c.1 c.2 l) cs = _
  rw [ih hu' (fun d hd => by
   rw [wi, if_neg (by rintro h; exact hc (by rw [← h]; exact List.mem_map_of_mem hd))]
   exact hn d (List.mem_cons_of_mem _ hd)), Jw (hn c (List.mem_cons_self ..)), List.append_assoc]
  rfl
theorem YP {cs : List Cl} (h : UnC cs) : je [] cs = cs := by rw [qQd h (fun _ _ => rfl), List.nil_append]
def QQ (m : Nat) (l : List Cl) (p v : Int) : Int × List Cl :=
 if p < 1 ∨ 256 ≤ p then (2, l) else if jf p l = none ∧ m ≤ l.length then (5, l) else (0, zb p v l)
def kC (m : Nat) (l : List Cl) : List Cl → Int × List Cl
 | [] => (0, l)
 | c :: cs => if (QQ m l c.1 c.2).1 = 0 then kC m (QQ m l c.1 c.2).2 cs else QQ m l c.1 c.2
theorem Vk {m : Nat} {l : List Cl} {c : Cl} {cs : List Cl} : kC m l (c :: cs) = if (QQ m l c.1 c.2).1 = 0 then kC m (QQ m l c.1 c.2).2 cs else QQ m l c.1 c.2 := rfl
theorem Jz {m : Nat} : ∀ {cs l : List Cl}, InC cs → l.length + cs.length ≤ m → kC m l cs = (0, je l cs) := by
 intro cs
 induction cs with
 | nil => intro l _ _; rfl
 | cons c cs ih =>
  intro l hi hl
  have hc := hi c (List.mem_cons_self ..)
  have hp : QQ m l c.1 c.2 = (0, zb c.1 c.2 l) := by
   unfold QQ
   rw [if_neg (by omega), if_neg (by simp at hl; omega)]
  unfold kC
  rw [hp, if_pos rfl, ih (fun d hd => hi d (List.mem_cons_of_mem _ hd)) (by
   have := kY (p := c.1) (v := c.2) (l := l)
   simp at hl
   show (zb c.1 c.2 l).length + cs.length ≤ m
   split at this <;> omega)]
  rfl
abbrev LvM : Type := List Cl × List Int
def gU (p : Int) : List LvM → Option Int
 | [] => none
 | x :: r => match jf p x.1 with | some v => some v | none => gU p r
def zm (lv : List LvM) : Nat := (lv.map fun x => x.1.length).sum
def zH (lv : List LvM) : List Cl := lv.foldl (fun out x => je x.1 out) []
def yo (lv : List LvM) : List Int := lv.reverse.flatMap (·.2)
structure OkL (most : Nat) (lv : List LvM) : Prop where
  held : zm lv ≤ most
  le : most ≤ 96
  ins : ∀ x ∈ lv, InC x.1
  un : ∀ x ∈ lv, UnC x.1
  one : 1 ≤ lv.length
  deep : lv.length ≤ 6
def xH (most : Nat) (lv : List LvM) (p v : Int) : Int × List LvM :=
 match lv with
 | [] => (0, [])
 | x :: r => if p < 1 ∨ 256 ≤ p then (2, lv) else if jf p x.1 = none ∧ most ≤ zm lv then (5, lv) else (0, (zb p v x.1, x.2) :: r)
def xB (most : Nat) (was lv : List LvM) : List Cl → Int × List LvM
 | [] => (0, lv)
 | c :: cs => if (xH most lv c.1 c.2).1 = 0 then xB most was (xH most lv c.1 c.2).2 cs else ((xH most lv c.1 c.2).1, was)
def xq (lv : List LvM) : Int × List LvM := if 6 ≤ lv.length then (9, lv) else (0, ([], []) :: lv)
def xl (lv : List LvM) : Int × List LvM := if lv.length = 1 then (10, lv) else (0, lv.tail)
def xL (lv : List LvM) : Int × List LvM := match lv with
 | x :: y :: r => (0, (je y.1 x.1, y.2 ++ x.2) :: r)
 | _ => (10, lv)
def wT (lv : List LvM) (b : Int) : List LvM := match lv with
 | x :: r => (x.1, x.2 ++ [b]) :: r
 | [] => []
theorem xD {most : Nat} {was lv : List LvM} {c : Cl} {cs : List Cl} : xB most was lv (c :: cs) = if (xH most lv c.1 c.2).1 = 0 then xB most was (xH most lv c.1 c.2).2 cs else ((xH most lv c.1 c.2).1, was) := rfl
theorem zN {x : LvM} {r : List LvM} : zm (x :: r) = x.1.length + zm r := by simp [zm]
theorem Ge {most : Nat} {lv : List LvM} {p v : Int} (O : OkL most lv) : OkL most (xH most lv p v).2 ∧ (xH most lv p v).2.length = lv.length := by
 cases lv with
 | nil => have := O.one; simp at this
 | cons x r =>
  unfold xH
  dsimp only
  split
  ·exact ⟨O, rfl⟩
  ·rename_i hp
   split
   ·exact ⟨O, rfl⟩
   ·rename_i h1
    have hh := O.held
    rw [zN] at hh
    refine ⟨⟨?_, O.le, ?_, ?_, by simp, O.deep⟩, rfl⟩
    ·show zm ((zb p v x.1, x.2) :: r) ≤ most
     rw [zN, kY]
     split
     ·rename_i h2
      rw [zN] at h1
      have : ¬ most ≤ x.1.length + zm r := fun h3 => h1 ⟨h2, h3⟩
      omega
     ·exact hh
    ·intro y hy
     rcases List.mem_cons.1 hy with rfl | hy
     ·exact (O.ins x (List.mem_cons_self ..)).put (by omega)
     ·exact O.ins y (List.mem_cons_of_mem _ hy)
    ·intro y hy
     rcases List.mem_cons.1 hy with rfl | hy
     ·exact (O.un x (List.mem_cons_self ..)).put
     ·exact O.un y (List.mem_cons_of_mem _ hy)
theorem KM {most : Nat} {was : List LvM} (W : OkL most was) : ∀ {cs : List Cl} {lv : List LvM}, OkL most lv → lv.length = was.length → OkL most (xB most was lv cs).2 ∧ (xB most was lv cs).2.length = was.length := by
 intro cs
 induction cs with
 | nil => intro lv O hl; exact ⟨O, hl⟩
 | cons c cs ih =>
  intro lv O hl
  unfold xB
  split
  ·exact ih (Ge O).1 ((Ge O).2.trans hl)
  ·exact ⟨W, rfl⟩
theorem OU {most : Nat} {lv : List LvM} (O : OkL most lv) : OkL most (xq lv).2 := by
 unfold xq
 split
 ·exact O
 ·refine ⟨by rw [zN]; have := O.held; simpa using this, O.le, ?_, ?_, by simp, by simp; omega⟩
  ·intro y hy
   rcases List.mem_cons.1 hy with rfl | hy
   ·intro c hc; cases hc
   ·exact O.ins y hy
  ·intro y hy
   rcases List.mem_cons.1 hy with rfl | hy
   ·exact List.nodup_nil
   ·exact O.un y hy
theorem ZM {most : Nat} {lv : List LvM} (O : OkL most lv) : OkL most (xl lv).2 := by
 unfold xl
 split
 ·exact O
 ·rename_i h1
  cases lv with
  | nil => have := O.one; simp at this
  | cons x r =>
   have hh := O.held
   have h2 := O.deep
   rw [zN] at hh
   simp at h1 h2
   refine ⟨by show zm r ≤ most; omega, O.le, fun y hy => O.ins y (List.mem_cons_of_mem _ hy), fun y hy => O.un y (List.mem_cons_of_mem _ hy), ?_, by show r.length ≤ 6; omega⟩
   show 1 ≤ r.length
   cases r with
   | nil => simp at h1
   | cons _ _ => simp
theorem YV : ∀ {cs l : List Cl}, (je l cs).length ≤ l.length + cs.length := by
 intro cs
 induction cs with
 | nil => intro l; exact Nat.le_refl _
 | cons c cs ih =>
  intro l
  have := ih (l := zb c.1 c.2 l)
  have h2 := kY (p := c.1) (v := c.2) (l := l)
  show (je (zb c.1 c.2 l) cs).length ≤ _
  rw [List.length_cons]
  split at h2 <;> omega
theorem InC.puts : ∀ {cs l : List Cl}, InC l → InC cs → InC (je l cs) := by
 intro cs
 induction cs with
 | nil => intro l h _; exact h
 | cons c cs ih => intro l h hc; exact ih (h.put (hc c (List.mem_cons_self ..))) fun d hd => hc d (List.mem_cons_of_mem _ hd)
theorem UnC.puts : ∀ {cs l : List Cl}, UnC l → UnC (je l cs) := by
 intro cs
 induction cs with
 | nil => intro l h; exact h
 | cons c cs ih => intro l h; exact ih h.put
theorem ZT {most : Nat} {lv : List LvM} (O : OkL most lv) : OkL most (xL lv).2 := by
 match lv, O with
 | [], O => exact O
 | [x], O => exact O
 | x :: y :: r, O =>
  have hh := O.held
  have h2 := O.deep
  rw [zN, zN] at hh
  have := YV (cs := x.1) (l := y.1)
  refine ⟨by show zm ((je y.1 x.1, y.2 ++ x.2) :: r) ≤ most; rw [zN]; dsimp only; omega, O.le, ?_, ?_, by simp [xL], by simp [xL] at h2 ⊢; omega⟩
  ·intro z hz
   rcases List.mem_cons.1 hz with rfl | hz
   ·exact (O.ins y (by simp)).puts (O.ins x (by simp))
   ·exact O.ins z (by simp [hz])
  ·intro z hz
   rcases List.mem_cons.1 hz with rfl | hz
   ·exact (O.un y (by simp)).puts
   ·exact O.un z (by simp [hz])
theorem Of {most : Nat} {lv : List LvM} {b : Int} (O : OkL most lv) : OkL most (wT lv b) := by
 cases lv with
 | nil => exact O
 | cons x r =>
  refine ⟨O.held, O.le, ?_, ?_, by simp [wT], O.deep⟩
  ·intro z hz
   rcases List.mem_cons.1 hz with rfl | hz
   ·exact O.ins x (by simp)
   ·exact O.ins z (by simp [hz])
  ·intro z hz
   rcases List.mem_cons.1 hz with rfl | hz
   ·exact O.un x (by simp)
   ·exact O.un z (by simp [hz])
end Go.Proofs.YtdlfmpmpmkffjaaGreatDoor
namespace Go.Proofs.YtdlfmpmpmkffjaaGreatDoor
open Go Go.Ae
set_option maxRecDepth 100000
variable {g h : AH} {L R : List SP}
def WrC (w m : Nat) (l : List Cl) : SP := .ex fun v => .all [qU w [.int .i64 (m : Int), v], qb 67 2 l.length v (l.flatMap zE)]
theorem WrC.E {w m : Nat} {l : List Cl} (H : HS g h (WrC w m l :: R)) : ∃ v, HS g h (qU w [.int .i64 (m : Int), v] :: qb 67 2 l.length v (l.flatMap zE) :: R) := by
 obtain ⟨v, H⟩ := H.exE
 exact ⟨v, H.allE⟩
theorem WrC.I {w m : Nat} {l : List Cl} {v : AV} (H : HS g h (qU w [.int .i64 (m : Int), v] :: qb 67 2 l.length v (l.flatMap zE) :: R)) : HS g h (WrC w m l :: R) :=
 HS.exI v (HS.allI H)
theorem Uz (l : List Cl) : qu (l.flatMap zE) = true := by
 unfold qu
 rw [List.all_eq_true]
 intro v hv
 obtain ⟨c, _, hc⟩ := List.mem_flatMap.1 hv
 simp [zE] at hc
 rcases hc with rfl | rfl <;> rfl
theorem QU {l : List Cl} {i : Nat} {c : Cl} (h : l[i]? = some c) : ((l.flatMap zE).drop (i * 2)).take 2 = zE c := by
 obtain ⟨hi, e⟩ := List.getElem?_eq_some_iff.1 h
 rw [gv (sz := 2) zE (fun _ => rfl), List.drop_eq_getElem_cons hi, e, List.flatMap_cons]; rfl
theorem qQt {l : List Cl} {i : Nat} {p x v : Int} (h : l[i]? = some (p, x)) : (l.flatMap zE).set (i * 2 + 1) (.int .u64 v) = (l.set i (p, v)).flatMap zE := by
 have hi := (List.getElem?_eq_some_iff.1 h).1
 apply List.ext_getElem?
 intro j
 have hd : j = j / 2 * 2 + j % 2 := by omega
 have hm : j % 2 < 2 := by omega
 rw [List.getElem?_set, kJ (sz := 2) zE (fun _ => rfl)]
 have e1 := JX (sz := 2) zE (fun _ => rfl) l (j / 2) (j % 2) hm
 have e2 := JX (sz := 2) zE (fun _ => rfl) (l.set i (p, v)) (j / 2) (j % 2) hm
 rw [← hd] at e1 e2
 rw [e1, e2, List.getElem?_set]
 by_cases h1 : i * 2 + 1 = j
 ·have : j / 2 = i := by omega
  have h3 : j % 2 = 1 := by omega
  rw [if_pos h1, if_pos (by omega), if_pos this.symm, if_pos hi, h3]; rfl
 ·rw [if_neg h1]
  by_cases h2 : i = j / 2
  ·have h3 : j % 2 = 0 := by omega
   rw [if_pos h2, if_pos hi, h3, ← h2, h]; rfl
  ·rw [if_neg h2]
def zI (o : Option Nat) : Int := match o with | some i => (i : Int) | none => -1
theorem KG {n : Nat} (hn : 1 ≤ n) {m : Nat} (hm : m ≤ 96) (H : HS g h R) : wp (callT tab qc n (.fn 100 [] []) [.int .i64 (m : Int)] h) fun v h' => ∃ w, v = .ptr w 0 ∧ HS g h' (WrC w m [] :: R) := by
 (refine qr (g := W100) rfl (by omega) fun k hk => ?_; show wp (S100 (callT tab qc k) _ _) _; unfold S100; try simp only [iI, uU, Int.ofNat_eq_natCast])
 refine yj (yY (qt rfl (jJ H rfl fun w h2 H2 => qk ⟨w, rfl, ?_⟩)))
 rw [show max ((0 : Nat) : Int) (min (m : Int) ((96 : Nat) : Int)) = (m : Int) by omega] at H2
 exact WrC.I ((H2.nils (e := 67) (sz := 2)).sel (P := qU w [.int .i64 (m : Int), .nils]) e_1 :)
theorem Me {n : Nat} (hn : 2 ≤ n) {p : Int} {v : AV} {c0 : Nat} {l : List Cl} (H : HS g h L) (S : Rd g L 2 l.length v (l.flatMap zE)) (s : Sel L (qU c0 [.int .i64 p]) R) (hl : l.length < 1000000) :
  wp (callT tab qc n (.fn 249 [] []) [v, .fn 250 [] [.ptr c0 0]] h) fun v h' => v = .int .i64 (zI (Qz p l)) ∧ HS g h' L := by
 (refine qr (g := W249) rfl (by omega) fun k hk => ?_; show wp (S249 (callT tab qc k) _ _ _) _; unfold S249; try simp only [iI, uU, Int.ofNat_eq_natCast])
 refine zF (S.sl H) ?_
 refine (zW (fun m s h' => ∃ i : Nat, s = (.int .i64 (i : Int), .int .i64 (l.length : Int), .fn 250 [] [.ptr c0 0], v, ()) ∧ i ≤ l.length ∧ m = l.length - i ∧ HS g h' L ∧
  (∀ j, j < i → ∀ c, l[j]? = some c → c.1 ≠ p)) ?_ (m := l.length) (by show _ < 1000000000; omega) ⟨0, rfl, by omega, by omega, H, fun j hj => by omega⟩)
 rintro m ih s' h' hih ⟨i, rfl, h1, rfl, H, h2⟩
 dsimp only
 refine zO (fun hlt => qY ?_) fun hge => qQ (qM (qk ⟨?_, H⟩))
 ·have hi : i < l.length := by omega
  have hc : l[i]? = some l[i] := List.getElem?_eq_getElem hi
  refine xY (l := zE l[i]) (S.sl H) hi (by omega) (QU hc) ?_
  refine qx (Q' := fun v h2 => v = .bool (decide (l[i].1 = p)) ∧ HS g h2 L) (qKN (g := W250) rfl (by omega) fun k hk => ?_) ?_
  ·show wp (S250 (callT tab qc k) _ _ _) _
   unfold S250
   refine jJ H rfl fun b h3 H3 => ?_
   with_reducible (refine qV ?_; refine qv (by assumption) .here rfl ?_)
   refine qv H3 (.there s) rfl (kj (qk ⟨rfl, H3.drop⟩))
  ·rintro _ h3 ⟨rfl, H3⟩
   refine Gt (fun he => qM (qk ⟨?_, H3⟩)) fun hne => qh (by omega) ?_
   ·rw [VC hi h2 ⟨l[i].2, by rw [hc, ← he]⟩]; rfl
   ·refine hih (l.length - (i + 1)) _ _ (by omega) ⟨i + 1, rfl, by omega, rfl, H3, fun j hj c hc' => ?_⟩
    by_cases h4 : j < i
    ·exact h2 j h4 c hc'
    ·obtain rfl : j = i := by omega
     rw [hc] at hc'; cases hc'; exact hne
 ·rw [Oi fun c hc => ?_]
  ·rfl
  ·obtain ⟨j, hj⟩ := List.getElem?_of_mem hc
   exact h2 j (by have := (List.getElem?_eq_some_iff.1 hj).1; omega) c hj
theorem Kv {n : Nat} (hn : 3 ≤ n) {w m : Nat} {l : List Cl} {p : Int} (H : HS g h (WrC w m l :: R)) (hl : l.length < 1000000) :
  wp (callT tab qc n (.fn 218 [] []) [.ptr w 0, .int .i64 p] h) fun v h' => v = .int .i64 (zI (Qz p l)) ∧ HS g h' (WrC w m l :: R) := by
 (refine qr (g := W218) rfl (by omega) fun k hk => ?_; show wp (S218 (callT tab qc k) _ _ _) _; unfold S218; try simp only [iI, uU, Int.ofNat_eq_natCast])
 obtain ⟨v, H⟩ := WrC.E H
 refine kh H ⟨rfl, rfl⟩ fun c0 h2 H2 => ?_
 with_reducible (refine qL ?_; refine qV ?_; refine qv (by assumption) e_1 rfl ?_)
 refine qx (Me (p := p) (by omega) H2 (H2.rd e_2) .here hl) ?_
 rintro _ h3 ⟨rfl, H3⟩
 exact qk ⟨rfl, WrC.I H3.drop⟩
theorem V8 {n : Nat} (hn : 4 ≤ n) {w m : Nat} {l : List Cl} {p : Int} (H : HS g h (WrC w m l :: R)) (hl : l.length < 1000000) :
  wp (callT tab qc n (.fn 221 [] []) [.ptr w 0, .int .i64 p] h) fun v h' => v = .tup [.int .u64 ((jf p l).getD 0), .bool (jf p l).isSome] ∧ HS g h' (WrC w m l :: R) := by
 (refine qr (g := W221) rfl (by omega) fun k hk => ?_; show wp (S221 (callT tab qc k) _ _ _) _; unfold S221; try simp only [iI, uU, Int.ofNat_eq_natCast])
 refine qx (Kv (by omega) H hl) ?_
 rintro _ h3 ⟨rfl, H3⟩
 cases hi : Qz p l with
 | none =>
  refine zS (by show ¬ ((0 : Nat) : Int) ≤ -1; omega) ?_
  refine qQ ?_
  exact qk ⟨by rw [Ys.1 hi]; rfl, H3⟩
 | some i =>
  obtain ⟨h1, ⟨x, h2, h2'⟩, _⟩ := Y4 hi
  refine zT (by show ((0 : Nat) : Int) ≤ (i : Int); omega) ?_
  obtain ⟨v, H4⟩ := WrC.E H3
  with_reducible (refine qY ?_; refine qL ?_; refine qV ?_; refine qv (by assumption) .here rfl ?_)
  refine XQ (x := .int .u64 x) (H4.sl e_1) (by omega) h1 ?_ (qk ⟨by rw [h2']; rfl, H3⟩)
  rw [JX (sz := 2) zE (fun _ => rfl) _ _ _ (by omega), h2]; rfl
theorem MY {n : Nat} (hn : 4 ≤ n) {w m : Nat} {l : List Cl} {p x : Int} (H : HS g h (WrC w m l :: R)) (hl : l.length < 1000000) :
  wp (callT tab qc n (.fn 151 [] []) [.ptr w 0, .int .i64 p, .int .u64 x] h) fun v h' => v = .int .i64 (QQ m l p x).1 ∧ HS g h' (WrC w m (QQ m l p x).2 :: R) := by
 (refine qr (g := W151) rfl (by omega) fun k hk => ?_; show wp (S151 (callT tab qc k) _ _ _ _) _; unfold S151; try simp only [iI, uU, Int.ofNat_eq_natCast])
 unfold QQ
 by_cases hp : p < 1 ∨ 256 ≤ p
 ·rw [if_pos hp]
  repeat' (first | with_reducible refine qY ?_ | with_reducible refine qQ ?_ | (with_reducible refine jG ?_; try dsimp only) | (with_reducible refine jD ?_; try dsimp only) | (with_reducible refine jV ?_; try dsimp only) | (with_reducible refine ql ?_; try dsimp only) | (with_reducible refine zR ?_; try dsimp only) | with_reducible refine qe ?_ | with_reducible refine qd ?_ | (with_reducible refine qW ?_; try dsimp only) | with_reducible refine qM ?_ | with_reducible refine zv ?_ | with_reducible refine zM ?_ | with_reducible refine qh (by omega) ?_ | with_reducible refine zQ (by omega) ?_ | with_reducible refine ye (by omega) ?_ | with_reducible refine yB (by omega) ?_ | with_reducible refine yj ?_ | with_reducible refine yY ?_ | with_reducible refine qO (by omega) ?_ | with_reducible refine qK (by omega) ?_ | with_reducible refine zA (by omega) ?_ | with_reducible refine zw (by omega) ?_ | with_reducible refine xj (by omega) ?_ | with_reducible refine ze (by omega) ?_ | with_reducible refine kS (by omega) ?_ | with_reducible refine Qs (by omega) ?_ | with_reducible refine yZ (by omega) ?_ | with_reducible refine xh (by omega) ?_ | with_reducible refine zT (by omega) ?_ | with_reducible refine zS (by omega) ?_ | with_reducible refine zO (fun hc => ?_) (fun hc => ?_) | with_reducible refine gZ (fun hc => ?_) (fun hc => ?_) | with_reducible refine yV (fun hc => ?_) (fun hc => ?_) | with_reducible refine vH (fun hc => ?_) (fun hc => ?_) | with_reducible refine vI (fun hc => ?_) (fun hc => ?_) | with_reducible refine xx (fun hc => ?_) (fun hc => ?_) | with_reducible refine yT (fun hc => ?_) (fun hc => ?_))
  all_goals exact qk ⟨rfl, H⟩
 rw [if_neg hp]
 with_reducible (refine ze (by omega) ?_; refine qW ?_; (try dsimp only); refine ql ?_; (try dsimp only); refine zS (by omega) ?_; refine qd ?_; refine qQ ?_)
 refine qx (Kv (by omega) H hl) ?_
 rintro _ h3 ⟨rfl, H3⟩
 cases hi : Qz p l with
 | none =>
  refine zS (by show ¬ ((0 : Nat) : Int) ≤ -1; omega) ?_
  have hg := Ys.1 hi
  obtain ⟨v, H4⟩ := WrC.E H3
  with_reducible (refine qQ ?_; refine qL ?_; refine qV ?_; refine qv (by assumption) .here rfl ?_; refine jb (by assumption) e_1 ?_; refine qL ?_; refine qV ?_; refine qv (by assumption) .here rfl ?_)
  by_cases hf : m ≤ l.length
  ·rw [if_pos ⟨hg, hf⟩]
   with_reducible (refine zT (by omega) ?_; refine qY ?_)
   exact qk ⟨rfl, H3⟩
  ·rw [if_neg (fun h => hf h.2)]
   with_reducible (refine zS (by omega) ?_; refine qQ ?_; refine qL ?_; refine qV ?_; refine qv (by assumption) .here rfl ?_; refine qt rfl ?_)
   refine jK (sz := 2) (l := [.int .i64 p, .int .u64 x]) H4 rfl rfl rfl rfl fun v5 h5 H5 => ?_
   refine zl (H5.sel e_2) (H5.sl .here) (by omega) (by omega) rfl fun v6 h6 H6 => ?_
   refine qL ?_; refine qV ?_
   refine jM H6 e_2 (H6.one .here) (by simp) fun h7 H7 => qk ⟨rfl, WrC.I (v := v6) ?_⟩
   rw [Jw hg, List.flatMap_append, List.length_append]
   exact H7.sub (.cons .here (.cons .here (.drop (.refl))))
 | some i =>
  obtain ⟨h1, ⟨y, h2, h2'⟩, h5⟩ := Y4 hi
  refine zT (by show ((0 : Nat) : Int) ≤ (i : Int); omega) ?_
  obtain ⟨v, H4⟩ := WrC.E H3
  with_reducible (refine qY ?_; refine qL ?_; refine qV ?_; refine qv (by assumption) .here rfl ?_)
  rw [if_neg (fun h => by rw [h2'] at h; cases h.1)]
  refine qVP (H4.sel e_1) h1 (by omega) ⟨rfl, rfl⟩ fun h6 H6 => qk ⟨rfl, WrC.I (v := v) ?_⟩
  rw [qQt h2] at H6
  dsimp only
  rw [h5, List.length_set]
  exact H6.sub (.cons e_1 (.refl))
theorem qJS {n : Nat} (hn : 1 ≤ n) {v : AV} {l : List Cl} (H : HS g h L) (s : Sel L (qb 67 2 l.length v (l.flatMap zE)) R) (hl : l.length < 1000000) :
  wp (callT tab qc n (.fn 152 [] []) [v] h) fun v' h' => HS g h' (qb 67 2 l.length v' (l.flatMap zE) :: L) := by
 (refine qr (g := W152) rfl (by omega) fun k hk => ?_; show wp (S152 (callT tab qc k) _ _) _; unfold S152; try simp only [iI, uU, Int.ofNat_eq_natCast])
 refine Ma H s (fun _ h0 => qY (qk ?_)) (qQ ?_)
 ·have := List.eq_nil_of_length_eq_zero h0
  subst this
  exact H.nils
 ·refine jK (n := 0) (l := []) (sz := 2) H rfl rfl rfl rfl fun v2 h2 H2 => ?_
  refine zl H2 (H2.sl (.there s)) (by omega) (by omega) (Uz l) fun v3 h3 H3 => qk ?_
  rw [Nat.zero_add, List.nil_append] at H3
  exact H3
theorem Qm {n : Nat} (hn : 2 ≤ n) {w m : Nat} {l : List Cl} (H : HS g h (WrC w m l :: R)) (hl : l.length < 1000000) :
  wp (callT tab qc n (.fn 102 [] []) [.ptr w 0] h) fun v h' => HS g h' (qb 67 2 l.length v (l.flatMap zE) :: WrC w m l :: R) := by
 (refine qr (g := W102) rfl (by omega) fun k hk => ?_; show wp (S102 (callT tab qc k) _ _) _; unfold S102; try simp only [iI, uU, Int.ofNat_eq_natCast])
 obtain ⟨v, H⟩ := WrC.E H
 with_reducible (refine qL ?_; refine qV ?_; refine qv (by assumption) .here rfl ?_)
 refine qx (qJS (by omega) H e_1 hl) fun v3 h3 H3 => qk ?_
 have := WrC.I (v := v) (w := w) (m := m) (l := l) (H3.sub (L' := _ :: _ :: qb 67 2 l.length v3 (l.flatMap zE) :: R) (.cons e_1 (.cons e_1 .refl)))
 exact this.sub (.cons e_1 (.refl))
theorem qZr {n : Nat} (hn : 1 ≤ n) {w m : Nat} {l : List Cl} (H : HS g h (WrC w m l :: R)) :
  wp (callT tab qc n (.fn 255 [] []) [.ptr w 0] h) fun v h' => v = .int .i64 (l.length : Int) ∧ h' = h := by
 (refine qr (g := W255) rfl (by omega) fun k hk => ?_; show wp (S255 (callT tab qc k) _ _) _; unfold S255; try simp only [iI, uU, Int.ofNat_eq_natCast])
 obtain ⟨v, H⟩ := WrC.E H
 with_reducible (refine qL ?_; refine qV ?_; refine qv (by assumption) .here rfl ?_; refine jb (by assumption) e_1 ?_)
 exact qk ⟨rfl, rfl⟩
def vi (m : Nat) (l cs : List Cl) : Int × List Cl := if (kC m l cs).1 = 0 then kC m l cs else ((kC m l cs).1, l)
theorem JY {n : Nat} (hn : 5 ≤ n) {w m : Nat} {l cs : List Cl} {c : AV} (H : HS g h (WrC w m l :: R)) (S : Rd g R 2 cs.length c (cs.flatMap zE)) (hl : l.length < 100000) (hc : cs.length < 100000) :
  wp (callT tab qc n (.fn 101 [] []) [.ptr w 0, c] h) fun v h' => v = .int .i64 (vi m l cs).1 ∧ HS g h' (WrC w m (vi m l cs).2 :: R) := by
 (refine qr (g := W101) rfl (by omega) fun k hk => ?_; show wp (S101 (callT tab qc k) _ _ _) _; unfold S101; try simp only [iI, uU, Int.ofNat_eq_natCast])
 refine qx (Qm (by omega) H (by omega)) fun v0 h1 H1 => ?_
 refine zF (S.sl H1.drop.drop) ?_
 refine zW (fun k s h' => ∃ (i : Nat) (l' : List Cl), s = (.int .i64 (i : Int), .int .i64 (cs.length : Int), c, v0, .ptr w 0, ()) ∧ i ≤ cs.length ∧ k = cs.length - i ∧ l'.length ≤ l.length + i ∧
  HS g h' (WrC w m l' :: qb 67 2 l.length v0 (l.flatMap zE) :: R) ∧ kC m l cs = kC m l' (cs.drop i)) ?_ (m := cs.length) (by show _ < 1000000000; omega) ⟨0, l, rfl, by omega, by omega, by omega, H1.sub (.cons e_1 (.refl)), rfl⟩
 rintro k ih s h2 hih ⟨i, l', rfl, h1, rfl, hl', H, hT⟩
 dsimp only
 refine zO (fun hlt => qY ?_) fun hge => qQ (qM (qk ?_))
 ·have hi : i < cs.length := by omega
  have hci : cs[i]? = some cs[i] := List.getElem?_eq_getElem hi
  refine xY (l := zE cs[i]) (S.sl H.drop.drop) hi (by omega) (QU hci) ?_
  refine jJ H rfl fun b h3 H3 => jF H3 .here rfl (by show 0 + 2 ≤ 2; omega) rfl fun h4 H4 => ?_
  have H5 : HS g h4 (qU b (zE cs[i]) :: WrC w m l' :: qb 67 2 l.length v0 (l.flatMap zE) :: R) := H4
  unfold zE at H5
  with_reducible (refine qV ?_; refine qv (by assumption) .here rfl ?_; refine qV ?_; refine qv (by assumption) .here rfl ?_)
  refine qx (MY (by omega) H5.drop (by omega)) ?_
  rintro _ h6 ⟨rfl, H6⟩
  rw [List.drop_eq_getElem_cons hi, Vk] at hT
  refine xx (fun hne => qY ?_) fun he => qQ (qh (by omega) ?_)
  ·have hne : ¬ (QQ m l' cs[i].1 cs[i].2).1 = 0 := by simpa using hne
   rw [if_neg hne] at hT
   obtain ⟨v7, H7⟩ := WrC.E H6
   refine qL ?_; refine qV ?_
   refine jM H7 .here (H7.one e_2) (by simp) fun h8 H8 => qM (qk ?_)
   unfold vi
   rw [hT, if_neg hne]
   exact ⟨rfl, WrC.I (v := v0) (H8.sub (.cons .here (.cons e_1 (.drop .refl))))⟩
  ·have he' : (QQ m l' cs[i].1 cs[i].2).1 = 0 := by simpa using he
   rw [if_pos he'] at hT
   refine hih (cs.length - (i + 1)) _ _ (by omega) ⟨i + 1, _, rfl, by omega, rfl, ?_, H6, hT⟩
   have := kY (p := cs[i].1) (v := cs[i].2) (l := l')
   unfold QQ
   repeat' split
   all_goals dsimp only
   all_goals first | omega | (split at this <;> omega)
 ·rw [List.drop_of_length_le (by omega)] at hT
  have hT : kC m l cs = (0, l') := hT
  unfold vi
  rw [hT, if_pos rfl]
  exact ⟨rfl, H.sub (.cons .here (.drop .refl))⟩
end Go.Proofs.YtdlfmpmpmkffjaaGreatDoor
namespace Go.Proofs.YtdlfmpmpmkffjaaGreatDoor
open Go Go.Ae
set_option maxRecDepth 100000
variable {g h : AH} {L R : List SP}
def LvC (a : Nat) (x : LvM) : SP := .ex fun w => .ex fun fv => .all [qU a [.ptr w 0, fv], WrC w 96 x.1, qb 3 1 x.2.length fv (x.2.map (.int .i64))]
theorem LvC.E {a : Nat} {x : LvM} (H : HS g h (LvC a x :: R)) : ∃ w fv, HS g h (qU a [.ptr w 0, fv] :: WrC w 96 x.1 :: qb 3 1 x.2.length fv (x.2.map (.int .i64)) :: R) := by
 obtain ⟨w, H⟩ := H.exE
 obtain ⟨fv, H⟩ := H.exE
 exact ⟨w, fv, H.allE⟩
theorem LvC.I {a w : Nat} {fv : AV} {x : LvM} (H : HS g h (qU a [.ptr w 0, fv] :: WrC w 96 x.1 :: qb 3 1 x.2.length fv (x.2.map (.int .i64)) :: R)) : HS g h (LvC a x :: R) :=
 HS.exI w (HS.exI fv (HS.allI H))
def xK (ps : List Nat) : List AV := ps.reverse.map fun a => .ptr a 0
def LgC (q most : Nat) (lv : List LvM) : SP := .ex fun v => .ex fun ps : List Nat => .all (.pur (ps.length = lv.length) :: qU q [.int .i64 (most : Int), v] :: qb 136 1 lv.length v (xK ps) :: List.zipWith LvC ps lv)
theorem LgC.E {q most : Nat} {lv : List LvM} (H : HS g h (LgC q most lv :: R)) : ∃ v ps, ps.length = lv.length ∧ HS g h (qU q [.int .i64 (most : Int), v] :: qb 136 1 lv.length v (xK ps) :: (List.zipWith LvC ps lv ++ R)) := by
 obtain ⟨v, H⟩ := H.exE
 obtain ⟨ps, H⟩ := H.exE
 obtain ⟨e, H⟩ := HS.purE (H.allE)
 exact ⟨v, ps, e, H⟩
theorem LgC.I {q most : Nat} {lv : List LvM} {v : AV} {ps : List Nat} (e : ps.length = lv.length) (H : HS g h (qU q [.int .i64 (most : Int), v] :: qb 136 1 lv.length v (xK ps) :: (List.zipWith LvC ps lv ++ R))) : HS g h (LgC q most lv :: R) :=
 HS.exI v (HS.exI ps (HS.allI (HS.purI e H)))
theorem LgC.E1 {q most : Nat} {x : LvM} {r : List LvM} (H : HS g h (LgC q most (x :: r) :: R)) : ∃ v a ps, ps.length = r.length ∧ HS g h (qU q [.int .i64 (most : Int), v] :: qb 136 1 (r.length + 1) v (xK (a :: ps)) :: LvC a x :: (List.zipWith LvC ps r ++ R)) := by
 obtain ⟨v, ps, e, H⟩ := LgC.E H
 cases ps with
 | nil => simp at e
 | cons a ps => exact ⟨v, a, ps, by simpa using e, H⟩
theorem LgC.I1 {q most : Nat} {x : LvM} {r : List LvM} {v : AV} {a : Nat} {ps : List Nat} (e : ps.length = r.length) (H : HS g h (qU q [.int .i64 (most : Int), v] :: qb 136 1 (r.length + 1) v (xK (a :: ps)) :: LvC a x :: (List.zipWith LvC ps r ++ R))) : HS g h (LgC q most (x :: r) :: R) :=
 LgC.I (ps := a :: ps) (by simp [e]) H
theorem VP (a : Nat) (ps : List Nat) : (xK (a :: ps))[ps.length]? = some (.ptr a 0) := by
 unfold xK
 rw [List.reverse_cons, List.map_append, List.getElem?_append_right (by simp)]
 simp
theorem JA {ps : List Nat} {i : Nat} (hi : i < ps.length) : (xK ps)[i]? = (ps[ps.length - 1 - i]?).map fun a => .ptr a 0 := by
 unfold xK
 rw [List.getElem?_map, List.getElem?_reverse hi]
theorem J9 {ps : List Nat} : ∀ {lv : List LvM} {i a : Nat} {x : LvM}, ps[i]? = some a → lv[i]? = some x → ∃ T, Sel (List.zipWith LvC ps lv ++ R) (LvC a x) T := by
 induction ps with
 | nil => intro lv i a x h; simp at h
 | cons b ps ih =>
  intro lv i a x h1 h2
  cases lv with
  | nil => simp at h2
  | cons y lv =>
   cases i with
   | zero =>
    simp at h1 h2
    subst h1; subst h2
    exact ⟨_, .here⟩
   | succ i =>
    obtain ⟨T, s⟩ := ih (lv := lv) (i := i) (by simpa using h1) (by simpa using h2)
    exact ⟨_, .there s⟩
theorem QB {n q : Nat} (hn : 1 ≤ n) {m v : AV} {a : Nat} {ps : List Nat} {R1 R2 : List SP} {e : TypeId} (H : HS g h L) (s1 : Sel L (qU q [m, v]) R1) (s2 : Sel L (qb e 1 (ps.length + 1) v (xK (a :: ps))) R2) (hl : ps.length < 1000000) :
  wp (callT tab qc n (.fn 222 [] []) [.ptr q 0] h) fun r h' => r = .ptr a 0 ∧ h' = h := by
 (refine qr (g := W222) rfl (by omega) fun k hk => ?_; show wp (S222 (callT tab qc k) _ _) _; unfold S222; try simp only [iI, uU, Int.ofNat_eq_natCast])
 refine qL (qV (qv H s1 rfl (qL (qV (qv H s1 rfl (jb H s2 (zQ (by omega) ?_)))))))
 rw [show ((ps.length + 1 : Nat) : Int) - ((1 : Nat) : Int) = ((ps.length : Nat) : Int) by omega]
 exact ju (H.sl s2) (VP a ps) (qk ⟨rfl, rfl⟩)
theorem Yt {n : Nat} (hn : 2 ≤ n) (H : HS g h R) : wp (callT tab qc n (.fn 81 [] []) [] h) fun v h' => ∃ a, v = .ptr a 0 ∧ HS g h' (LvC a ([], []) :: R) := by
 (refine qr (g := W81) rfl (by omega) fun k hk => ?_; show wp (S81 (callT tab qc k) _) _; unfold S81; try simp only [iI, uU, Int.ofNat_eq_natCast])
 refine qx (KG (m := 96) (by omega) (by omega) H) ?_
 rintro _ h2 ⟨w, rfl, H2⟩
 refine qt rfl (jJ H2 rfl fun a h3 H3 => qk ⟨a, rfl, ?_⟩)
 exact LvC.I (w := w) (fv := .nils) ((H3.nils (e := 3) (sz := 1)).sub (.cons e_1 (.cons e_1 (.cons .here (.refl)))))
theorem qXR {n : Nat} (hn : 3 ≤ n) {m : Int} (H : HS g h R) : wp (callT tab qc n (.fn 47 [] []) [.int .i64 m] h) fun v h' => ∃ q, v = .ptr q 0 ∧ HS g h' (LgC q (max 0 (min m 96)).toNat [([], [])] :: R) := by
 (refine qr (g := W47) rfl (by omega) fun k hk => ?_; show wp (S47 (callT tab qc k) _ _) _; unfold S47; try simp only [iI, uU, Int.ofNat_eq_natCast])
 refine yj (yY (qx (Yt (by omega) H) ?_))
 rintro _ h2 ⟨a, rfl, H2⟩
 refine jK (n := 1) (l := [.ptr a 0]) (sz := 1) H2 rfl rfl rfl rfl fun v h3 H3 => ?_
 have h1 := H3.one .here
 refine qt (l := [.int .i64 (max ((0 : Nat) : Int) (min m ((96 : Nat) : Int))), v]) (by simp only [vt, h1.1]; rfl) ?_
 refine jJ H3 (by show (true && (v.one && true)) = true; rw [h1.2]; rfl) fun q h4 H4 => qk ⟨q, rfl, ?_⟩
 refine LgC.I1 (v := v) (a := a) (ps := []) rfl ?_
 rw [show (((max 0 (min m 96)).toNat : Nat) : Int) = max ((0 : Nat) : Int) (min m ((96 : Nat) : Int)) by omega]
 exact H4
theorem qQA {n q most : Nat} (hn : 2 ≤ n) {lv : List LvM} {b : Int} (H : HS g h (LgC q most lv :: R)) (O : OkL most lv) (hf : ∀ x ∈ lv, x.2.length < 1000000) :
  wp (callT tab qc n (.fn 241 [] []) [.ptr q 0, .int .i64 b] h) fun _ h' => HS g h' (LgC q most (wT lv b) :: R) := by
 cases lv with
 | nil => have := O.one; simp at this
 | cons x r =>
 (refine qr (g := W241) rfl (by omega) fun k hk => ?_; show wp (S241 (callT tab qc k) _ _ _) _; unfold S241; try simp only [iI, uU, Int.ofNat_eq_natCast])
 obtain ⟨v, a, ps, e, H⟩ := LgC.E1 H
 rw [← e] at H
 refine qx (QB (by omega) H .here e_1 (by have := O.deep; simp at this; omega)) ?_
 rintro _ _ ⟨rfl, rfl⟩
 obtain ⟨w, fv, H2⟩ := LvC.E (H.sel e_2)
 with_reducible (refine qL ?_; refine qV ?_; refine qv (by assumption) .here rfl ?_)
 refine jK (n := 1) (l := [.int .i64 b]) (sz := 1) H2 rfl rfl rfl rfl fun v3 h3 H3 => ?_
 have := hf x (List.mem_cons_self ..)
 refine zl (H3.sel (P := qb 3 1 x.2.length fv (x.2.map (.int .i64))) e_3) (H3.sl .here) (by omega) (by omega) rfl fun v4 h4 H4 => ?_
 refine qL ?_; refine qV ?_
 refine jM H4 e_2 (H4.one .here) (by simp) fun h5 H5 => qk ?_
 refine LgC.I1 (v := v) (a := a) (ps := ps) e ?_
 rw [← e]
 have := LvC.I (a := a) (w := w) (fv := v4) (x := (x.1, x.2 ++ [b])) (R := qU q [.int .i64 (most : Int), v] :: qb 136 1 (ps.length + 1) v (xK (a :: ps)) :: (List.zipWith LvC ps r ++ R))
  (by rw [List.map_append, List.length_append]; exact H5.sub (.cons .here (.cons e_2 (.cons .here (.cons e_1 (.cons e_1 (.drop (.refl))))))))
 exact this.sub (.cons e_1 (.cons e_1 (.refl)))
theorem NG {n q most : Nat} (hn : 1 ≤ n) {lv : List LvM} (H : HS g h (LgC q most lv :: R)) (O : OkL most lv) (hf : (yo lv).length < 1000000) :
  wp (callT tab qc n (.fn 70 [] []) [.ptr q 0] h) fun v h' => HS g h' (qb 3 1 (yo lv).length v ((yo lv).map (.int .i64)) :: LgC q most lv :: R) := by
 (refine qr (g := W70) rfl (by omega) fun k hk => ?_; show wp (S70 (callT tab qc k) _ _) _; unfold S70; try simp only [iI, uU, Int.ofNat_eq_natCast])
 have hd := O.deep
 obtain ⟨v, ps, e, H⟩ := LgC.E H
 with_reducible (refine qL ?_; refine qV ?_; refine qv (by assumption) .here rfl ?_; refine jb (by assumption) e_1 ?_)
 refine zW (fun m s h' => ∃ (i : Nat) (acc : AV), s = (.int .i64 (i : Int), .int .i64 (lv.length : Int), v, acc, ()) ∧ i ≤ lv.length ∧ m = lv.length - i ∧
  HS g h' (qb 3 1 ((lv.reverse.take i).flatMap (·.2)).length acc (((lv.reverse.take i).flatMap (·.2)).map (.int .i64)) :: qU q [.int .i64 (most : Int), v] :: qb 136 1 lv.length v (xK ps) :: (List.zipWith LvC ps lv ++ R)))
  ?_ (m := lv.length) (by have := O.deep; show _ < 1000000000; omega) ⟨0, .nils, rfl, by omega, by omega, H.nils⟩
 rintro m ih s h' hih ⟨i, acc, rfl, h1, rfl, H⟩
 dsimp only
 refine zO (fun hlt => qY ?_) fun hge => qQ (qM (qk ?_))
 ·have hi : i < lv.length := by omega
  have ha : ps[ps.length - 1 - i]? = some (ps[ps.length - 1 - i]'(by omega)) := List.getElem?_eq_getElem _
  have hx : lv[ps.length - 1 - i]? = some (lv[ps.length - 1 - i]'(by omega)) := List.getElem?_eq_getElem _
  generalize ps[ps.length - 1 - i]'(by omega) = a at ha
  have hx2 : lv.reverse[i]? = some (lv[ps.length - 1 - i]'(by omega)) := by rw [List.getElem?_reverse hi, ← hx, e]
  generalize lv[ps.length - 1 - i]'(by omega) = x at hx hx2
  refine ju (H.sl e_2) (by rw [JA (by omega), ha]; rfl) ?_
  obtain ⟨T, s⟩ := J9 (R := R) ha hx
  have H2 := H.sel (.there (.there (.there s)))
  obtain ⟨w, fv, H3⟩ := LvC.E H2
  with_reducible (refine qL ?_; refine qV ?_; refine qv (by assumption) .here rfl ?_)
  have hlen : ((lv.reverse.take i).flatMap (·.2)).length + x.2.length ≤ (yo lv).length := by
   have e1 : lv.reverse.flatMap (·.2) = (lv.reverse.take (i + 1)).flatMap (·.2) ++ (lv.reverse.drop (i + 1)).flatMap (·.2) := by rw [← List.flatMap_append, List.take_append_drop]
   unfold yo
   rw [e1, List.take_add_one, hx2]
   simp
  refine zl (H3.sel (P := qb 3 1 ((lv.reverse.take i).flatMap (·.2)).length acc (((lv.reverse.take i).flatMap (·.2)).map (.int .i64))) e_3) (H3.sl e_2) (by omega) (by omega) ?_ fun v4 h4 H4 => qh (by omega) ?_
  ·simp [qu, AV.one]
  refine hih (lv.length - (i + 1)) _ _ (by omega) ⟨i + 1, v4, rfl, by omega, rfl, ?_⟩
  rw [List.take_add_one, hx2, Option.toList_some, List.flatMap_append, List.map_append, List.length_append, List.flatMap_cons, List.flatMap_nil, List.append_nil]
  have H5 := LvC.I (a := a) (w := w) (fv := fv) (x := x) (H4.sub (.cons e_1 (.cons e_1 (.cons e_1 .refl))))
  exact HS.unsel (.there (.there (.there s))) (H5.sub (.refl))
 ·obtain rfl : i = lv.length := by omega
  rw [List.take_of_length_le (by simp)] at H
  exact (LgC.I (v := v) (ps := ps) e (HS.back (A := _ :: _ :: List.zipWith LvC ps lv) H)).sub (.cons e_1 (.refl))
theorem rsum (l : List Nat) : l.reverse.sum = l.sum := by
 induction l with
 | nil => rfl
 | cons a l ih => rw [List.reverse_cons, List.sum_append, ih, List.sum_cons]; simp [Nat.add_comm]
theorem Zy {n q most : Nat} (hn : 2 ≤ n) {lv : List LvM} (H : HS g h (LgC q most lv :: R)) (O : OkL most lv) :
  wp (callT tab qc n (.fn 239 [] []) [.ptr q 0] h) fun v h' => v = .int .i64 ((most : Int) - (zm lv : Int)) ∧ h' = h := by
 (refine qr (g := W239) rfl (by omega) fun k hk => ?_; show wp (S239 (callT tab qc k) _ _) _; unfold S239; try simp only [iI, uU, Int.ofNat_eq_natCast])
 obtain ⟨v, ps, e, H⟩ := LgC.E H
 have hh := O.held
 have hl := O.le
 have hd := O.deep
 with_reducible (refine qL ?_; refine qV ?_; refine qv (by assumption) .here rfl ?_; refine qL ?_; refine qV ?_; refine qv (by assumption) .here rfl ?_; refine jb (by assumption) e_1 ?_)
 refine zW (fun m s h' => ∃ (i : Nat), s = (.int .i64 (i : Int), .int .i64 (lv.length : Int), v, .int .i64 ((most : Int) - (((lv.reverse.take i).map fun x => x.1.length).sum : Nat)), ()) ∧ i ≤ lv.length ∧ m = lv.length - i ∧ h' = h)
  ?_ (m := lv.length) (by show _ < 1000000000; omega) ⟨0, by simp, by omega, by omega, rfl⟩
 rintro m ih s h' hih ⟨i, rfl, h1, rfl, rfl⟩
 dsimp only
 have hsum : ∀ j, ((lv.reverse.take j).map fun x => x.1.length).sum + ((lv.reverse.drop j).map fun x => x.1.length).sum = zm lv := by
  intro j
  rw [← List.sum_append, ← List.map_append, List.take_append_drop, List.map_reverse, rsum]; rfl
 refine zO (fun hlt => qY ?_) fun hge => qQ (qM (qk ⟨?_, rfl⟩))
 ·have hi : i < lv.length := by omega
  have ha : ps[ps.length - 1 - i]? = some (ps[ps.length - 1 - i]'(by omega)) := List.getElem?_eq_getElem _
  have hx : lv[ps.length - 1 - i]? = some (lv[ps.length - 1 - i]'(by omega)) := List.getElem?_eq_getElem _
  generalize ps[ps.length - 1 - i]'(by omega) = a at ha
  have hx2 : lv.reverse[i]? = some (lv[ps.length - 1 - i]'(by omega)) := by rw [List.getElem?_reverse hi, ← hx, e]
  generalize lv[ps.length - 1 - i]'(by omega) = x at hx hx2
  refine ju (H.sl e_1) (by rw [JA (by omega), ha]; rfl) ?_
  obtain ⟨T, s⟩ := J9 (R := R) ha hx
  obtain ⟨w, fv, H3⟩ := LvC.E (H.sel (.there (.there s)))
  with_reducible (refine qL ?_; refine qV ?_; refine qv (by assumption) .here rfl ?_)
  refine qx (qZr (by omega) (H3.sel e_1)) ?_
  rintro _ _ ⟨rfl, rfl⟩
  have h2 := hsum i
  have h3 := hsum (i + 1)
  have h4 : ((lv.reverse.take (i + 1)).map fun x => x.1.length).sum = ((lv.reverse.take i).map fun x => x.1.length).sum + x.1.length := by
   rw [List.take_add_one, hx2, Option.toList_some, List.map_append, List.sum_append]; simp
  refine zQ (by omega) (qh (by omega) (hih (lv.length - (i + 1)) _ _ (by omega) ⟨i + 1, ?_, by omega, rfl, rfl⟩))
  rw [h4]
  refine Prod.ext ?_ (Prod.ext rfl (Prod.ext rfl (Prod.ext ?_ rfl)))
  ·show AV.int _ _ = AV.int _ _
   congr 1
  ·show AV.int _ _ = AV.int _ _
   congr 1
   omega
 ·have h2 := hsum i
  rw [List.drop_of_length_le (by simp; omega)] at h2
  rw [show ((lv.reverse.take i).map fun x => x.1.length).sum = zm lv by simpa using h2]
theorem MI {k b0 l : Nat} {v : AV} {ps : List Nat} {Inv : Nat → AH → Prop} {Fin : AH → Prop}
  (hrd : ∀ i h, Inv i h → h.at b0 0 = some v ∧ Sl (fun _ => True) h 1 ps.length v (xK ps))
  (hy : ∀ i a h, ps[i]? = some a → Inv i h → wp (callT tab qc k (.yield l) [.int .i64 ((ps.length - 1 - i : Nat) : Int), .ptr a 0] h) fun r h' => (r = .bool true ∧ Inv (i + 1) h') ∨ (r = .bool false ∧ Fin h'))
  (hl : ps.length < 1000000) (h0 : Inv 0 h) : wp (callT tab qc (k + 1) (.fn 150 [] [.ptr b0 0]) [.yield l] h) fun _ h' => Inv ps.length h' ∨ Fin h' := by
 refine qKN (g := W150) rfl (by omega) fun k' hk => ?_
 obtain rfl : k' = k := by omega
 show wp (S150 _ _ _ _) _
 unfold S150
 try simp only [iI, uU, Int.ofNat_eq_natCast]
 obtain ⟨r1, r2⟩ := hrd 0 h h0
 refine w7 r1 (zF r2 (zQ (by omega) ?_))
 refine zW (fun m s h' => ∃ i : Nat, s = (.int .i64 ((ps.length : Int) - ((1 : Nat) : Int) - (i : Int)), .ptr b0 0, .yield l, ()) ∧ i ≤ ps.length ∧ m = ps.length - i ∧ Inv i h') ?_ (m := ps.length) (by show _ < 1000000000; omega) ⟨0, by simp, by omega, by omega, h0⟩
 rintro m ih s h' hih ⟨i, rfl, h1, rfl, hI⟩
 dsimp only
 obtain ⟨r1, r2⟩ := hrd i h' hI
 refine vH (fun hlt => qY ?_) fun hge => qQ (qM (qk (.inl ?_)))
 ·have hi : i < ps.length := by omega
  have ha : ps[i]? = some ps[i] := List.getElem?_eq_getElem hi
  rw [show (ps.length : Int) - ((1 : Nat) : Int) - (i : Int) = ((ps.length - 1 - i : Nat) : Int) by omega]
  refine w7 r1 (ju r2 (by rw [JA (by omega), show ps.length - 1 - (ps.length - 1 - i) = i by omega, ha]; rfl) ?_)
  refine qx (hy i _ h' ha hI) ?_
  rintro _ h2 (⟨rfl, hI2⟩ | ⟨rfl, hF⟩)
  ·refine zv (qQ (zQ (by omega) (hih (ps.length - (i + 1)) _ _ (by omega) ⟨i + 1, ?_, by omega, rfl, hI2⟩)))
   refine Prod.ext ?_ rfl
   show AV.int _ _ = AV.int _ _
   congr 1
   omega
  ·exact zM (qY (qM (qk (.inr hF))))
 ·obtain rfl : i = ps.length := by omega
  exact hI
theorem Nn {p : Int} : ∀ {lv : List LvM}, (∀ (j : Nat) x, lv[j]? = some x → jf p x.1 = none) → gU p lv = none := by
 intro lv
 induction lv with
 | nil => intro _; rfl
 | cons x r ih =>
  intro h
  unfold gU
  rw [h 0 x rfl]
  exact ih fun j y hy => h (j + 1) y (by simpa using hy)
theorem Ov {p v : Int} : ∀ {lv : List LvM} {i : Nat} {x : LvM}, (∀ j, j < i → ∀ x, lv[j]? = some x → jf p x.1 = none) → lv[i]? = some x → jf p x.1 = some v → gU p lv = some v := by
 intro lv
 induction lv with
 | nil => intro i x _ h; simp at h
 | cons y r ih =>
  intro i x h1 h2 h3
  unfold gU
  cases i with
  | zero => simp at h2; subst h2; rw [h3]
  | succ i =>
   rw [h1 0 (by omega) y rfl]
   exact ih (i := i) (x := x) (fun j hj z hz => h1 (j + 1) (by omega) z (by simpa using hz)) (by simpa using h2) h3
theorem OkL.len {most : Nat} {lv : List LvM} (O : OkL most lv) {x : LvM} (hx : x ∈ lv) : x.1.length ≤ 96 := by
 have h1 := O.held
 have h2 := O.le
 have : x.1.length ≤ zm lv := by
  clear h1 O
  induction lv with
  | nil => cases hx
  | cons y r ih =>
   rw [zN]
   rcases List.mem_cons.1 hx with rfl | hx
   ·omega
   ·have := ih hx; omega
 omega
theorem Jc {n : Nat} (hn : 1 ≤ n) {v : AV} (h1 : One v) (H : HS g h L) : wp (callT tab qc n (.fn 99 [] []) [v] h) fun r h' => ∃ b, r = .fn 150 [] [.ptr b 0] ∧ HS g h' (qU b [v] :: L) := by
 (refine qr (g := W99) rfl (by omega) fun k hk => ?_; show wp (S99 (callT tab qc k) _ _) _; unfold S99; try simp only [iI, uU, Int.ofNat_eq_natCast])
 exact kh H h1 fun b h2 H2 => qk ⟨b, rfl, H2⟩
theorem qJ1 {n q most : Nat} (hn : 8 ≤ n) {lv : List LvM} {p : Int} (H : HS g h (LgC q most lv :: R)) (O : OkL most lv) :
  wp (callT tab qc n (.fn 157 [] []) [.ptr q 0, .int .i64 p] h) fun v h' => v = .tup [.int .u64 ((gU p lv).getD 0), .bool (gU p lv).isSome] ∧ HS g h' (LgC q most lv :: R) := by
 (refine qr (g := W157) rfl (by omega) fun k hk => ?_; show wp (S157 (callT tab qc k) _ _ _) _; unfold S157; try simp only [iI, uU, Int.ofNat_eq_natCast])
 obtain ⟨v, ps, e, H⟩ := LgC.E H
 have hd := O.deep
 refine kh H ⟨rfl, rfl⟩ fun b1 h1 H => kh H ⟨rfl, rfl⟩ fun b2 h2 H => kh H ⟨rfl, rfl⟩ fun b3 h3 H => ?_
 with_reducible (refine qL ?_; refine qV ?_; refine qv (by assumption) e_3 rfl ?_)
 refine qx (Jc (by omega) (H.one e_4) H) ?_
 rintro _ h4 ⟨b4, rfl, H⟩
 have H5 := (H.newBlk .dfd).newBlk (.loop .ready none 157 [1, 0, 1, 0] [5, 4, 3] [.ptr b3 0, .ptr b2 0, .ptr b1 0] h4.nx)
 generalize (h4.new .dfd).nx = l at H5 ⊢
 generalize h4.nx = d at H5 ⊢
 obtain ⟨k2, rfl⟩ : ∃ k2, k = k2 + 1 := ⟨k - 1, by omega⟩
 refine K7 (MI (b0 := b4) (v := v) (ps := ps)
  (Inv := fun i h' => HS g h' (gV l (.loop .ready none 157 [1, 0, 1, 0] [5, 4, 3] [.ptr b3 0, .ptr b2 0, .ptr b1 0] d) :: gV d .dfd :: qU b4 [v] :: qU b3 [.bool false] :: qU b2 [.int .u64 ((0 : Nat) : Int)] :: qU b1 [.int .i64 p] ::
   qU q [.int .i64 (most : Int), v] :: qb 136 1 lv.length v (xK ps) :: (List.zipWith LvC ps lv ++ R)) ∧ ∀ j, j < i → ∀ x, lv[j]? = some x → jf p x.1 = none)
  (Fin := fun h' => ∃ x, gU p lv = some x ∧ HS g h' (gV l (.loop .done (some .ret) 157 [1, 0, 1, 0] [5, 4, 3] [.ptr b3 0, .ptr b2 0, .ptr b1 0] d) :: gV d .dfd :: qU b4 [v] :: qU b3 [.bool true] :: qU b2 [.int .u64 x] :: qU b1 [.int .i64 p] ::
   qU q [.int .i64 (most : Int), v] :: qb 136 1 lv.length v (xK ps) :: (List.zipWith LvC ps lv ++ R)))
  ?_ ?_ (by omega) ⟨H5, fun j hj => by omega⟩) ?_
 ·rintro i h' ⟨H, _⟩
  obtain ⟨et, A⟩ := H.obj (b := b4) e_2
  exact ⟨A.at 0, e ▸ H.sl e_7⟩
 ·rintro i a h' ha ⟨H, hno⟩
  have hi := (List.getElem?_eq_some_iff.1 ha).1
  have hx : lv[i]? = some (lv[i]'(by omega)) := List.getElem?_eq_getElem _
  have hm : lv[i]'(by omega) ∈ lv := List.getElem_mem _
  generalize lv[i]'(by omega) = x at hx hm
  have hxl := O.len hm
  refine UX (H.blk .here) (w := V1) rfl (by omega) fun k3 hk3 => ?_
  show wp (B1 _ _ _ _ _ (.int .i64 ((ps.length - 1 - i : Nat) : Int)) _ _) _
  unfold B1
  try simp only [iI, uU, Int.ofNat_eq_natCast]
  refine Kk H .here fun h6 H => ?_
  obtain ⟨T, s⟩ := J9 (R := R) ha hx
  obtain ⟨w, fv, H7⟩ := LvC.E (H.sel (.there (.there (.there (.there (.there (.there (.there (.there s)))))))))
  with_reducible (refine qL ?_; refine qV ?_; refine qv (by assumption) .here rfl ?_; refine qv (by assumption) e_8 rfl ?_)
  refine qx (V8 (by omega) (H7.sel e_1) (by omega)) ?_
  rintro _ h8 ⟨rfl, H8⟩
  with_reducible (refine qH rfl ?_; refine qH rfl ?_)
  cases hg : jf p x.1 with
  | none =>
   refine qQ (Mv H8 e_3 fun h9 H9 => .inl ⟨rfl, ?_, fun j hj y hy => ?_⟩)
   ·have H10 := LvC.I (a := a) (w := w) (fv := fv) (x := x) (H9.sub (.cons e_2 (.cons e_1 (.cons e_1 .refl))))
    exact HS.unsel (.there (.there (.there (.there (.there (.there (.there (.there s)))))))) (H10.sub (.refl))
   ·by_cases hj' : j < i
    ·exact hno j hj' y hy
    ·obtain rfl : j = i := by omega
     rw [hx] at hy; cases hy; exact hg
  | some z =>
   refine qY (jM H8 (b := b2) e_7 ⟨rfl, rfl⟩ (by simp) fun h9 H9 => jM H9 (b := b3) e_7 ⟨rfl, rfl⟩ (by simp) fun h10 H10 => qJu H10 e_5 fun h11 H11 => .inr ⟨rfl, z, Ov hno hx hg, ?_⟩)
   have H12 := LvC.I (a := a) (w := w) (fv := fv) (x := x) (H11.sub (.cons e_4 (.cons e_3 (.cons e_3 .refl))))
   exact HS.unsel (.there (.there (.there (.there (.there (.there (.there (.there s)))))))) (H12.sub (.cons .here (.cons .here (.cons e_2 (.cons e_2 (.cons .here (.cons .here (.refl))))))))
 ·rintro _ h6 (⟨H, hno⟩ | ⟨x, hx, H⟩)
  ·have hg : gU p lv = none := Nn fun j x hj => hno j (by have := (List.getElem?_eq_some_iff.1 hj).1; omega) x hj
   refine KX H .here (fun h => by cases h) fun h7 H => KP (jM H (b := b2) e_4 ⟨rfl, rfl⟩ (by simp) fun h8 H => jM H (b := b3) e_4 ⟨rfl, rfl⟩ (by simp) fun h9 H => JS H e_3 fun h10 H => ?_)
   with_reducible (refine qv (by assumption) e_2 rfl ?_; refine qv (by assumption) e_1 rfl ?_)
   refine qk ⟨by rw [hg]; rfl, ?_⟩
   exact LgC.I (v := v) (ps := ps) e (H.sub (.cons e_6 (.cons e_6 (.drop (.drop (.drop (.drop (.drop (.drop (.refl))))))))))
  ·refine KX H .here (fun h => by cases h) fun h7 H => O7 (qK3 rfl (JS H e_1 fun h8 H => ?_))
   with_reducible (refine qv (by assumption) e_4 rfl ?_; refine qv (by assumption) e_3 rfl ?_)
   refine qk ⟨by rw [hx]; rfl, ?_⟩
   exact LgC.I (v := v) (ps := ps) e (H.sub (.cons e_6 (.cons e_6 (.drop (.drop (.drop (.drop (.drop (.drop (.refl))))))))))
theorem qKi {x : LvM} {r : List LvM} {most : Nat} {p v : Int} (O : OkL most (x :: r)) (hp : ¬ (p < 1 ∨ 256 ≤ p)) (hf : ¬ (jf p x.1 = none ∧ most ≤ zm (x :: r))) : QQ 96 x.1 p v = (0, zb p v x.1) := by
 have h1 := O.held
 have h2 := O.le
 rw [zN] at h1 hf
 unfold QQ
 rw [if_neg hp, if_neg (fun h => hf ⟨h.1, by omega⟩)]
theorem Mw {n q most : Nat} (hn : 5 ≤ n) {lv : List LvM} {p v : Int} (H : HS g h (LgC q most lv :: R)) (O : OkL most lv) :
  wp (callT tab qc n (.fn 194 [] []) [.ptr q 0, .int .i64 p, .int .u64 v] h) fun r h' => r = .int .i64 (xH most lv p v).1 ∧ HS g h' (LgC q most (xH most lv p v).2 :: R) := by
 cases lv with
 | nil => have := O.one; simp at this
 | cons x r =>
 have hxl := O.len (x := x) (List.mem_cons_self ..)
 (refine qr (g := W194) rfl (by omega) fun k hk => ?_; show wp (S194 (callT tab qc k) _ _ _ _) _; unfold S194; try simp only [iI, uU, Int.ofNat_eq_natCast])
 unfold xH
 by_cases hp : p < 1 ∨ 256 ≤ p
 ·simp only [if_pos hp]
  repeat' (first | with_reducible refine qY ?_ | with_reducible refine qQ ?_ | (with_reducible refine jG ?_; try dsimp only) | (with_reducible refine jD ?_; try dsimp only) | (with_reducible refine jV ?_; try dsimp only) | (with_reducible refine ql ?_; try dsimp only) | (with_reducible refine zR ?_; try dsimp only) | with_reducible refine qe ?_ | with_reducible refine qd ?_ | (with_reducible refine qW ?_; try dsimp only) | with_reducible refine qM ?_ | with_reducible refine zv ?_ | with_reducible refine zM ?_ | with_reducible refine qh (by omega) ?_ | with_reducible refine zQ (by omega) ?_ | with_reducible refine ye (by omega) ?_ | with_reducible refine yB (by omega) ?_ | with_reducible refine yj ?_ | with_reducible refine yY ?_ | with_reducible refine qO (by omega) ?_ | with_reducible refine qK (by omega) ?_ | with_reducible refine zA (by omega) ?_ | with_reducible refine zw (by omega) ?_ | with_reducible refine xj (by omega) ?_ | with_reducible refine ze (by omega) ?_ | with_reducible refine kS (by omega) ?_ | with_reducible refine Qs (by omega) ?_ | with_reducible refine yZ (by omega) ?_ | with_reducible refine xh (by omega) ?_ | with_reducible refine zT (by omega) ?_ | with_reducible refine zS (by omega) ?_ | with_reducible refine zO (fun hc => ?_) (fun hc => ?_) | with_reducible refine gZ (fun hc => ?_) (fun hc => ?_) | with_reducible refine yV (fun hc => ?_) (fun hc => ?_) | with_reducible refine vH (fun hc => ?_) (fun hc => ?_) | with_reducible refine vI (fun hc => ?_) (fun hc => ?_) | with_reducible refine xx (fun hc => ?_) (fun hc => ?_) | with_reducible refine yT (fun hc => ?_) (fun hc => ?_))
  all_goals exact qk ⟨rfl, H⟩
 simp only [if_neg hp]
 with_reducible (refine ze (by omega) ?_; refine qW ?_; (try dsimp only); refine ql ?_; (try dsimp only); refine zS (by omega) ?_; refine qd ?_; refine qQ ?_)
 have hH := H
 obtain ⟨sv, a, ps, e, H⟩ := LgC.E1 H
 rw [← e] at H
 refine qx (QB (by omega) H .here e_1 (by have := O.deep; simp at this; omega)) ?_
 rintro _ _ ⟨rfl, rfl⟩
 obtain ⟨w, fv, H2⟩ := LvC.E (H.sel e_2)
 with_reducible (refine qL ?_; refine qV ?_; refine qv (by assumption) .here rfl ?_)
 refine qx (V8 (by omega) (H2.sel e_1) (by omega)) ?_
 rintro _ h3 ⟨rfl, H3⟩
 with_reducible (refine qH rfl ?_; refine qH rfl ?_)
 have H4 : HS g h3 (LgC q most (x :: r) :: R) := by
  have H4 := LvC.I (a := a) (w := w) (fv := fv) (x := x) (H3.sub (.cons e_1 (.cons .here .refl)))
  refine LgC.I1 (v := sv) (a := a) (ps := ps) e ?_
  rw [← e]
  exact H4.sub (.cons e_1 (.cons e_1 (.refl)))
 have fin : ¬ (jf p x.1 = none ∧ most ≤ zm (x :: r)) → ∀ h5, HS g h5 (WrC w 96 x.1 :: qU a [.ptr w 0, fv] :: qb 3 1 x.2.length fv (x.2.map (.int .i64)) :: qU q [.int .i64 (most : Int), sv] :: qb 136 1 (ps.length + 1) sv (xK (a :: ps)) :: (List.zipWith LvC ps r ++ R)) →
   wp (callT tab qc k (.fn 151 [] []) [.ptr w 0, .int .i64 p, .int .u64 v] h5) fun r' h' => r' = .int .i64 0 ∧ HS g h' (LgC q most ((zb p v x.1, x.2) :: r) :: R) := by
  intro hf h5 H5
  refine (MY (by omega) H5 (by omega)).mono ?_
  rintro _ h6 ⟨rfl, H6⟩
  rw [qKi O hp hf] at H6 ⊢
  refine ⟨rfl, LgC.I1 (v := sv) (a := a) (ps := ps) e ?_⟩
  rw [← e]
  have H7 := LvC.I (a := a) (w := w) (fv := fv) (x := (zb p v x.1, x.2)) (H6.sub (.cons e_1 (.cons .here .refl)))
  exact H7.sub (.cons e_1 (.cons e_1 (.refl)))
 cases hg : jf p x.1 with
 | some z =>
  simp only [Option.isSome_some]
  with_reducible (refine zv ?_; refine qW ?_; (try dsimp only); refine jV ?_; (try dsimp only); refine qd ?_; refine qQ ?_)
  rw [if_neg (fun h => by cases h.1)]
  refine qx (fin (fun h => by rw [hg] at h; cases h.1) h3 (H3.sub (.refl))) ?_
  rintro _ h6 ⟨rfl, H6⟩
  exact qk ⟨rfl, H6⟩
 | none =>
  simp only [Option.isSome_none]
  with_reducible (refine zM ?_; refine qW ?_; (try dsimp only); refine jG ?_; (try dsimp only))
  refine qx (Zy (by omega) H4 O) ?_
  rintro _ _ ⟨rfl, rfl⟩
  have hh := O.held
  refine vI (fun h0 => ?_) fun h0 => ?_
  ·refine qe ?_; refine qY ?_
   rw [if_pos ⟨by trivial, by omega⟩]
   exact qk ⟨rfl, H4⟩
  ·refine qe ?_; refine qQ ?_
   rw [if_neg (fun h => h0 (by omega))]
   refine qx (fin (fun h => h0 (by omega)) _ (H3.sub (.refl))) ?_
   rintro _ h6 ⟨rfl, H6⟩
   exact qk ⟨rfl, H6⟩
theorem JM {most : Nat} {x : LvM} {r : List LvM} {p v : Int} : ∃ c, (xH most (x :: r) p v).2 = (c, x.2) :: r := by
 unfold xH
 dsimp only
 split
 ·exact ⟨x.1, rfl⟩
 ·split
  ·exact ⟨x.1, rfl⟩
  ·exact ⟨_, rfl⟩
theorem qJf {n q most : Nat} (hn : 7 ≤ n) {lv : List LvM} {cs : List Cl} {c : AV} (H : HS g h (LgC q most lv :: R)) (O : OkL most lv) (S : Rd g R 2 cs.length c (cs.flatMap zE)) (hc : cs.length < 100000) :
  wp (callT tab qc n (.fn 158 [] []) [.ptr q 0, c] h) fun r h' => r = .int .i64 (xB most lv lv cs).1 ∧ HS g h' (LgC q most (xB most lv lv cs).2 :: R) := by
 cases lv with
 | nil => have := O.one; simp at this
 | cons x r =>
 have hxl := O.len (x := x) (List.mem_cons_self ..)
 have hxi := O.ins x (List.mem_cons_self ..)
 have hxu := O.un x (List.mem_cons_self ..)
 (refine qr (g := W158) rfl (by omega) fun k hk => ?_; show wp (S158 (callT tab qc k) _ _ _) _; unfold S158; try simp only [iI, uU, Int.ofNat_eq_natCast])
 refine qx (KG (m := 96) (by omega) (by omega) H) ?_
 rintro _ h1 ⟨w0, rfl, H1⟩
 obtain ⟨sv, a, ps, e, H2⟩ := LgC.E1 (H1.sel e_1)
 rw [← e] at H2
 refine qx (QB (by omega) H2 .here e_1 (by have := O.deep; simp at this; omega)) ?_
 rintro _ _ ⟨rfl, rfl⟩
 obtain ⟨w, fv, H3⟩ := LvC.E (H2.sel e_2)
 with_reducible (refine qL ?_; refine qV ?_; refine qv (by assumption) .here rfl ?_)
 refine qx (Qm (by omega) (H3.sel (P := WrC w 96 x.1) e_1) (by omega)) fun va h4 H4 => ?_
 refine qx (JY (cs := x.1) (l := []) (m := 96) (w := w0) (by omega) (H4.sel (.there (.there (.there (.there (.there (.there (Sel.skip _ .here))))))))  (.own .here) (by simp) (by omega)) ?_
 rintro _ h5 ⟨_, H5⟩
 have ht : vi 96 [] x.1 = (0, x.1) := by
  unfold vi
  rw [Jz hxi (by simpa using hxl), YP hxu, if_pos rfl]
 rw [ht] at H5
 have H6 : HS g h5 (LgC q most (x :: r) :: WrC w0 96 x.1 :: R) := by
  have H7 := LvC.I (a := a) (w := w) (fv := fv) (x := x) (H5.sub (.cons e_3 (.cons e_2 (.cons e_2 .refl))))
  refine LgC.I1 (v := sv) (a := a) (ps := ps) e ?_
  rw [← e]
  have H8 : HS g h5 (WrC w0 96 x.1 :: (qU q [.int .i64 (most : Int), sv] :: qb 136 1 (ps.length + 1) sv (xK (a :: ps)) :: LvC a x :: List.zipWith LvC ps r) ++ R) := H7.sub (.cons e_1 (.cons e_2 (.cons e_2 (.cons .here (.drop .refl)))))
  exact HS.back H8
 clear H1 H2 H3 H4 H5
 refine zF (S.sl H6.drop.drop) ?_
 refine zW (fun k s h' => ∃ (i : Nat) (c' : List Cl), s = (.int .i64 (i : Int), .int .i64 (cs.length : Int), c, .ptr w0 0, .ptr q 0, ()) ∧ i ≤ cs.length ∧ k = cs.length - i ∧ OkL most ((c', x.2) :: r) ∧
  HS g h' (LgC q most ((c', x.2) :: r) :: WrC w0 96 x.1 :: R) ∧ xB most (x :: r) (x :: r) cs = xB most (x :: r) ((c', x.2) :: r) (cs.drop i)) ?_ (m := cs.length) (by show _ < 1000000000; omega) ⟨0, x.1, rfl, by omega, by omega, O, H6, rfl⟩
 rintro k2 ih s h2 hih ⟨i, c', rfl, h1, rfl, O', H, hT⟩
 dsimp only
 refine zO (fun hlt => qY ?_) fun hge => qQ (qM (qk ?_))
 ·have hi : i < cs.length := by omega
  have hci : cs[i]? = some cs[i] := List.getElem?_eq_getElem hi
  refine xY (l := zE cs[i]) (S.sl H.drop.drop) hi (by omega) (QU hci) ?_
  refine jJ H rfl fun b h3 H3 => jF H3 .here rfl (by show 0 + 2 ≤ 2; omega) rfl fun h4 H4 => ?_
  have H5 : HS g h4 (qU b (zE cs[i]) :: LgC q most ((c', x.2) :: r) :: WrC w0 96 x.1 :: R) := H4
  unfold zE at H5
  with_reducible (refine qV ?_; refine qv (by assumption) .here rfl ?_; refine qV ?_; refine qv (by assumption) .here rfl ?_)
  refine qx (Mw (by omega) H5.drop O') ?_
  rintro _ h6 ⟨rfl, H6⟩
  rw [List.drop_eq_getElem_cons hi, xD] at hT
  have O2 := (Ge (p := cs[i].1) (v := cs[i].2) O').1
  obtain ⟨c2, hc2⟩ := JM (most := most) (x := (c', x.2)) (r := r) (p := cs[i].1) (v := cs[i].2)
  refine xx (fun hne => qY ?_) fun he => qQ (qh (by omega) ?_)
  ·have hne : ¬ (xH most ((c', x.2) :: r) cs[i].1 cs[i].2).1 = 0 := by simpa using hne
   rw [if_neg hne] at hT
   rw [hc2] at H6
   obtain ⟨sv, a, ps, e, H7⟩ := LgC.E1 H6
   rw [← e] at H7
   refine qx (QB (by omega) H7 .here e_1 (by have := O.deep; simp at this; omega)) ?_
   rintro _ _ ⟨rfl, rfl⟩
   obtain ⟨w, fv, H8⟩ := LvC.E (H7.sel e_2)
   refine qL ?_; refine qV ?_
   refine jM H8 .here ⟨rfl, rfl⟩ (by simp) fun h9 H9 => qM (qk ?_)
   rw [hT]
   refine ⟨rfl, LgC.I1 (v := sv) (a := a) (ps := ps) e ?_⟩
   rw [← e]
   obtain ⟨T, sT, uT⟩ : ∃ T, Sel (List.zipWith LvC ps r ++ WrC w0 96 x.1 :: R) (WrC w0 96 x.1) T ∧ T = List.zipWith LvC ps r ++ R := ⟨_, Sel.skip _ .here, rfl⟩
   subst uT
   have H10 := LvC.I (a := a) (w := w0) (fv := fv) (x := x) (H9.sub (.cons .here (.cons (.there (.there (.there (.there sT)))) (.cons e_1 (.drop .refl)))))
   exact H10.sub (.cons e_1 (.cons e_1 (.refl)))
  ·have he' : (xH most ((c', x.2) :: r) cs[i].1 cs[i].2).1 = 0 := by simpa using he
   rw [if_pos he', hc2] at hT
   rw [hc2] at H6 O2
   exact hih (cs.length - (i + 1)) _ _ (by omega) ⟨i + 1, c2, rfl, by omega, rfl, O2, H6, hT⟩
 ·rw [List.drop_of_length_le (by omega)] at hT
  have hT : xB most (x :: r) (x :: r) cs = (0, (c', x.2) :: r) := hT
  rw [hT]
  exact ⟨rfl, H.sub (.cons .here (.drop .refl))⟩
theorem XH (a : Nat) (ps : List Nat) : xK (a :: ps) = xK ps ++ [.ptr a 0] := by unfold xK; rw [List.reverse_cons, List.map_append]; rfl
theorem Yl (ps : List Nat) : (xK ps).length = ps.length := by simp [xK]
theorem Ze {n q most : Nat} (hn : 3 ≤ n) {lv : List LvM} (H : HS g h (LgC q most lv :: R)) (O : OkL most lv) :
  wp (callT tab qc n (.fn 242 [] []) [.ptr q 0] h) fun v h' => v = .int .i64 (xq lv).1 ∧ HS g h' (LgC q most (xq lv).2 :: R) := by
 (refine qr (g := W242) rfl (by omega) fun k hk => ?_; show wp (S242 (callT tab qc k) _ _) _; unfold S242; try simp only [iI, uU, Int.ofNat_eq_natCast])
 have hH := H
 obtain ⟨v, ps, e, H⟩ := LgC.E H
 unfold xq
 by_cases h6 : 6 ≤ lv.length
 ·rw [if_pos h6]
  with_reducible (refine qL ?_; refine qV ?_; refine qv (by assumption) .here rfl ?_; refine jb (by assumption) e_1 ?_; refine zT (by omega) ?_; refine qY ?_)
  exact qk ⟨rfl, hH⟩
 ·rw [if_neg h6]
  with_reducible (refine qL ?_; refine qV ?_; refine qv (by assumption) .here rfl ?_; refine jb (by assumption) e_1 ?_; refine zS (by omega) ?_; refine qQ ?_; refine qW ?_; (try dsimp only); refine qL ?_; refine qV ?_; refine qv (by assumption) .here rfl ?_)
  refine qx (Yt (by omega) H) ?_
  rintro _ h2 ⟨a, rfl, H2⟩
  refine jK (n := 1) (l := [.ptr a 0]) (sz := 1) H2 rfl rfl rfl rfl fun v3 h3 H3 => ?_
  refine zl (H3.sel e_3) (H3.sl .here) (by omega) (by omega) rfl fun v4 h4 H4 => ?_
  refine qL ?_; refine qV ?_
  refine jM H4 (b := q) e_3 (H4.one .here) (by simp) fun h5 H5 => ?_
  with_reducible (refine gW (by assumption) .here rfl (by assumption) e_1 rfl (HS.lt (by assumption) .here) ?_)
  refine qk ⟨rfl, LgC.I1 (v := v4) (a := a) (ps := ps) e ?_⟩
  rw [XH]
  exact H5.sub (.cons .here (.cons .here (.cons e_1 (.drop (.refl)))))
theorem K5 {n q : Nat} (hn : 1 ≤ n) {m v : AV} {a : Nat} {ps : List Nat} (h1 : 1 ≤ ps.length) (hl : ps.length < 1000) (H : HS g h (qU q [m, v] :: qb 136 1 (ps.length + 1) v (xK (a :: ps)) :: R)) :
  wp (callT tab qc n (.fn 203 [] []) [.ptr q 0] h) fun r h' => r = .int .i64 0 ∧ ∃ v', HS g h' (qU q [m, v'] :: qb 136 1 ps.length v' (xK ps) :: R) := by
 (refine qr (g := W203) rfl (by omega) fun k hk => ?_; show wp (S203 (callT tab qc k) _ _) _; unfold S203; try simp only [iI, uU, Int.ofNat_eq_natCast])
 with_reducible (refine qL ?_; refine qV ?_; refine qv (by assumption) .here rfl ?_; refine jb (by assumption) e_1 ?_; refine qK (by omega) ?_; refine qQ ?_; refine qL ?_; refine qV ?_; refine qv (by assumption) .here rfl ?_; refine qL ?_; refine qV ?_; refine qv (by assumption) .here rfl ?_; refine jb (by assumption) e_1 ?_; refine zQ (by omega) ?_)
 rw [show ((ps.length + 1 : Nat) : Int) - ((1 : Nat) : Int) = ((ps.length : Nat) : Int) by omega]
 refine kP (H.sel e_1) (by omega) (by omega) fun v' H2 => ?_
 refine qL ?_; refine qV ?_
 refine jM H2 (b := q) e_1 (H2.one .here) (by simp) fun h3 H3 => qk ⟨rfl, v', ?_⟩
 rw [XH, Nat.mul_one, ← Yl ps, List.take_left, Yl] at H3
 exact H3.sub (.cons .here (.refl))
theorem Kf {n q most : Nat} (hn : 1 ≤ n) {lv : List LvM} (H : HS g h (LgC q most lv :: R)) (O : OkL most lv) :
  wp (callT tab qc n (.fn 203 [] []) [.ptr q 0] h) fun v h' => v = .int .i64 (xl lv).1 ∧ HS g h' (LgC q most (xl lv).2 :: R) := by
 unfold xl
 by_cases h1 : lv.length = 1
 ·rw [if_pos h1]
  (refine qr (g := W203) rfl (by omega) fun k hk => ?_; show wp (S203 (callT tab qc k) _ _) _; unfold S203; try simp only [iI, uU, Int.ofNat_eq_natCast])
  have hH := H
  obtain ⟨v, ps, e, H⟩ := LgC.E H
  with_reducible (refine qL ?_; refine qV ?_; refine qv (by assumption) .here rfl ?_; refine jb (by assumption) e_1 ?_; refine qO (by omega) ?_; refine qY ?_)
  exact qk ⟨rfl, hH⟩
 ·rw [if_neg h1]
  cases lv with
  | nil => have := O.one; simp at this
  | cons x r =>
  have hd := O.deep
  simp at h1 hd
  have h1' : 1 ≤ r.length := by cases r with | nil => simp at h1 | cons _ _ => simp
  obtain ⟨v, a, ps, e, H⟩ := LgC.E1 H
  rw [← e] at H
  refine (K5 hn (by omega) (by omega) H).mono ?_
  rintro _ h2 ⟨rfl, v', H2⟩
  refine ⟨rfl, LgC.I (v := v') (ps := ps) e ?_⟩
  show HS g h2 (_ :: qb 136 1 r.length v' _ :: (List.zipWith LvC ps r ++ R))
  rw [← e]
  exact H2.sub (.cons .here (.cons .here (.drop .refl)))
theorem qQc {n q most : Nat} (hn : 6 ≤ n) {lv : List LvM} (H : HS g h (LgC q most lv :: R)) (O : OkL most lv) (hf : ∀ x ∈ lv, x.2.length < 1000000) :
  wp (callT tab qc n (.fn 201 [] []) [.ptr q 0] h) fun v h' => v = .int .i64 (xL lv).1 ∧ HS g h' (LgC q most (xL lv).2 :: R) := by
 rcases lv with _ | ⟨x, _ | ⟨y, r⟩⟩
 ·have := O.one; simp at this
 ·
  (refine qr (g := W201) rfl (by omega) fun k hk => ?_; show wp (S201 (callT tab qc k) _ _) _; unfold S201; try simp only [iI, uU, Int.ofNat_eq_natCast])
  obtain ⟨v, a, ps, e, H2⟩ := LgC.E1 H
  rw [← e] at H2
  refine qx (QB (by omega) H2 .here e_1 (by simp at e; simp [e])) ?_
  rintro _ _ ⟨rfl, rfl⟩
  refine qx (Kf (by omega) H O) ?_
  rintro _ h3 ⟨rfl, H3⟩
  rw [show xl [x] = (10, [x]) from rfl] at H3 ⊢
  with_reducible (refine zA (by omega) ?_; refine qY ?_)
  exact qk ⟨rfl, H3⟩
 ·
  have hx := hf x (by simp)
  have hy := hf y (by simp)
  have hxi := O.ins x (by simp)
  have hd := O.deep
  have hh := O.held
  have hle := O.le
  rw [zN, zN] at hh
  simp at hd
  (refine qr (g := W201) rfl (by omega) fun k hk => ?_; show wp (S201 (callT tab qc k) _ _) _; unfold S201; try simp only [iI, uU, Int.ofNat_eq_natCast])
  obtain ⟨v, a, ps, e, H2⟩ := LgC.E1 H
  rw [← e] at H2
  refine qx (QB (by omega) H2 .here e_1 (by simp at e; omega)) ?_
  rintro _ _ ⟨rfl, rfl⟩
  simp at e
  refine qx (K5 (by omega) (by omega) (by omega) H2) ?_
  rintro _ h3 ⟨rfl, v', H3⟩
  cases ps with
  | nil => simp at e
  | cons b ps =>
  simp at e
  with_reducible (refine zw (by omega) ?_; refine qQ ?_)
  refine qx (QB (by omega) H3 .here e_1 (by omega)) ?_
  rintro _ _ ⟨rfl, rfl⟩
  have H4 : HS g _ (LvC b y :: LvC a x :: qU q [.int .i64 (most : Int), v'] :: qb 136 1 (ps.length + 1) v' (xK (b :: ps)) :: (List.zipWith LvC ps r ++ R)) := H3.sub (.cons e_3 (.cons e_2 (.cons .here (.cons .here .refl))))
  obtain ⟨w1, f1, H4⟩ := LvC.E H4
  obtain ⟨w2, f2, H5⟩ := LvC.E (H4.sel e_3)
  with_reducible (refine qL ?_; refine qV ?_; refine qv (by assumption) e_3 rfl ?_; refine qL ?_; refine qV ?_; refine qv (by assumption) .here rfl ?_)
  refine zl (H5.sel e_5) (H5.sl e_2) (by omega) (by omega) ?_ fun v6 h6 H6 => ?_
  ·simp [qu, AV.one]
  refine qL ?_; refine qV ?_
  refine jM H6 (b := b) e_4 (H6.one .here) (by simp) fun h7 H7 => ?_
  simp only [List.set_cons_zero, List.set_cons_succ] at H7
  with_reducible (refine qW ?_; (try dsimp only); refine qL ?_; refine qV ?_; refine qv (by assumption) .here rfl ?_; refine qL ?_; refine qV ?_; refine qv (by assumption) e_2 rfl ?_)
  refine qx (Qm (by omega) (H7.sel (P := WrC w2 96 x.1) e_3) (by omega)) fun v8 h8 H8 => ?_
  refine qx (JY (cs := x.1) (l := y.1) (m := 96) (w := w1) (by omega) (H8.sel (P := WrC w1 96 y.1) e_6) (.own .here) (by omega) (by omega)) ?_
  rintro _ h9 ⟨rfl, H9⟩
  have ht : vi 96 y.1 x.1 = (0, je y.1 x.1) := by
   unfold vi
   rw [Jz hxi (by omega), if_pos rfl]
  rw [ht] at H9 ⊢
  with_reducible (refine gW (by assumption) .here rfl (by assumption) e_2 rfl (HS.lt (by assumption) .here) ?_)
  refine qk ⟨rfl, LgC.I1 (v := v') (a := b) (ps := ps) (by omega) ?_⟩
  show HS g h9 (_ :: qb 136 1 (r.length + 1) v' _ :: _)
  rw [← e]
  have H10 := LvC.I (a := b) (w := w1) (fv := v6) (x := (je y.1 x.1, y.2 ++ x.2)) (R := qU q [.int .i64 (most : Int), v'] :: qb 136 1 (ps.length + 1) v' (xK (b :: ps)) :: (List.zipWith LvC ps r ++ R))
   (by rw [List.map_append, List.length_append]; exact H9.sub (.cons e_3 (.cons .here (.cons e_2 (.cons e_4 (.cons e_4 (.drop (.drop (.drop (.drop (.refl)))))))))))
  exact H10.sub (.cons e_1 (.cons e_1 (.refl)))
theorem YY : ∀ (lv : List LvM) (out : List Cl), (lv.foldl (fun out x => je x.1 out) out).length ≤ out.length + zm lv := by
 intro lv
 induction lv with
 | nil => intro out; simp
 | cons x r ih =>
  intro out
  have h1 := ih (je x.1 out)
  have h2 := YV (cs := out) (l := x.1)
  rw [List.foldl_cons, zN]
  omega
theorem Nh : ∀ (lv : List LvM) (out : List Cl), InC out → (∀ x ∈ lv, InC x.1) → InC (lv.foldl (fun out x => je x.1 out) out) := by
 intro lv
 induction lv with
 | nil => intro out h _; exact h
 | cons x r ih => intro out h hx; exact ih _ ((hx x (List.mem_cons_self ..)).puts h) fun y hy => hx y (List.mem_cons_of_mem _ hy)
theorem Nk (l1 l2 : List LvM) : zm (l1 ++ l2) = zm l1 + zm l2 := by simp [zm]
theorem Ow {n q most : Nat} (hn : 9 ≤ n) {lv : List LvM} (H : HS g h (LgC q most lv :: R)) (O : OkL most lv) :
  wp (callT tab qc n (.fn 69 [] []) [.ptr q 0] h) fun v h' => HS g h' (qb 67 2 (zH lv).length v ((zH lv).flatMap zE) :: LgC q most lv :: R) := by
 (refine qr (g := W69) rfl (by omega) fun k hk => ?_; show wp (S69 (callT tab qc k) _ _) _; unfold S69; try simp only [iI, uU, Int.ofNat_eq_natCast])
 obtain ⟨v, ps, e, H⟩ := LgC.E H
 have hd := O.deep
 have hle := O.le
 have hhe := O.held
 refine kh (H.nils (e := 67) (sz := 2)) ⟨rfl, rfl⟩ fun b1 h1 H => ?_
 with_reducible (refine qL ?_; refine qV ?_; refine qv (by assumption) e_2 rfl ?_)
 refine qx (Jc (by omega) (H.one e_3) H) ?_
 rintro _ h4 ⟨b4, rfl, H⟩
 have H5 := (H.newBlk .dfd).newBlk (.loop .ready none 69 [1, 1, 0, 1, 0] [3] [.ptr b1 0] h4.nx)
 generalize (h4.new .dfd).nx = l at H5 ⊢
 generalize h4.nx = d at H5 ⊢
 obtain ⟨k2, rfl⟩ : ∃ k2, k = k2 + 1 := ⟨k - 1, by omega⟩
 refine K7 (MI (b0 := b4) (v := v) (ps := ps)
  (Inv := fun i h' => ∃ ov, HS g h' (gV l (.loop .ready none 69 [1, 1, 0, 1, 0] [3] [.ptr b1 0] d) :: gV d .dfd :: qU b4 [v] :: qU b1 [ov] :: qb 67 2 (zH (lv.take i)).length ov ((zH (lv.take i)).flatMap zE) ::
   qU q [.int .i64 (most : Int), v] :: qb 136 1 lv.length v (xK ps) :: (List.zipWith LvC ps lv ++ R)))
  (Fin := fun _ => False) ?_ ?_ (by omega) ⟨.nils, H5⟩) ?_
 ·rintro i h' ⟨ov, H⟩
  obtain ⟨et, A⟩ := H.obj (b := b4) e_2
  exact ⟨A.at 0, e ▸ H.sl e_6⟩
 ·rintro i a h' ha ⟨ov, H⟩
  have hi := (List.getElem?_eq_some_iff.1 ha).1
  have hx : lv[i]? = some (lv[i]'(by omega)) := List.getElem?_eq_getElem _
  have hm : lv[i]'(by omega) ∈ lv := List.getElem_mem _
  generalize lv[i]'(by omega) = x at hx hm
  have hxl := O.len hm
  have hxi := O.ins x hm
  have hxu := O.un x hm
  have hml : (zH (lv.take i)).length + x.1.length ≤ 96 := by
   have h1 := YY (lv.take i) []
   have h2 : zm lv = zm (lv.take i) + (x.1.length + zm (lv.drop (i + 1))) := by
    rw [← zN, ← Nk]
    congr 1
    have h3 : lv.drop i = x :: lv.drop (i + 1) := by
     have hi' : i < lv.length := by omega
     rw [List.drop_eq_getElem_cons hi']
     rw [List.getElem?_eq_getElem hi'] at hx
     rw [Option.some.inj hx]
    rw [← h3, List.take_append_drop]
   unfold zH
   simp at h1
   omega
  have hmi : InC (zH (lv.take i)) := Nh _ _ (fun c hc => by cases hc) fun y hy => O.ins y (List.mem_of_mem_take hy)
  have hms : zH (lv.take (i + 1)) = je x.1 (zH (lv.take i)) := by
   unfold zH
   rw [List.take_add_one, hx, Option.toList_some, List.foldl_append]; rfl
  refine UX (H.blk .here) (w := V0) rfl (by omega) fun k3 hk3 => ?_
  show wp (B0 _ _ _ (.int .i64 ((ps.length - 1 - i : Nat) : Int)) _ _) _
  unfold B0
  try simp only [iI, uU, Int.ofNat_eq_natCast]
  refine Kk H .here fun h6 H => ?_
  refine qx (KG (m := 96) (by omega) (by omega) H) ?_
  rintro _ h7 ⟨w0, rfl, H⟩
  obtain ⟨T, s⟩ := J9 (R := R) ha hx
  obtain ⟨w, fv, H7⟩ := LvC.E (H.sel (.there (.there (.there (.there (.there (.there (.there (.there s)))))))))
  with_reducible (refine qL ?_; refine qV ?_; refine qv (by assumption) .here rfl ?_)
  refine qx (Qm (by omega) (H7.sel (P := WrC w 96 x.1) e_1) (by omega)) fun va h8 H8 => ?_
  refine qx (JY (cs := x.1) (l := []) (m := 96) (w := w0) (by omega) (H8.sel (P := WrC w0 96 []) e_4) (.own .here) (by simp) (by omega)) ?_
  rintro _ h9 ⟨_, H9⟩
  have ht : vi 96 [] x.1 = (0, x.1) := by
   unfold vi
   rw [Jz hxi (by simpa using hxl), YP hxu, if_pos rfl]
  rw [ht] at H9
  dsimp only at H9
  with_reducible (refine qv (by assumption) e_8 rfl ?_)
  have ht2 : vi 96 x.1 (zH (lv.take i)) = (0, je x.1 (zH (lv.take i))) := by
   unfold vi
   rw [Jz hmi (by omega), if_pos rfl]
  have S2 : Rd g _ 2 (zH (lv.take i)).length ov ((zH (lv.take i)).flatMap zE) := H9.drop.rd (L := qb 67 2 x.1.length va (x.1.flatMap zE) :: WrC w 96 x.1 :: qU a [.ptr w 0, fv] :: qb 3 1 x.2.length fv (x.2.map (.int .i64)) ::
   gV l (.loop .busy none 69 [1, 1, 0, 1, 0] [3] [.ptr b1 0] d) :: gV d .dfd :: qU b4 [v] :: qU b1 [ov] :: qb 67 2 (zH (lv.take i)).length ov ((zH (lv.take i)).flatMap zE) ::
   qU q [.int .i64 (most : Int), v] :: qb 136 1 lv.length v (xK ps) :: T) e_8
  refine qx (JY (by omega) H9 S2 (by omega) (by omega)) ?_
  rintro _ h10 ⟨_, H10⟩
  rw [ht2] at H10
  dsimp only at H10
  have hpl := YV (cs := zH (lv.take i)) (l := x.1)
  refine qx (Qm (by omega) H10 (by omega)) fun vb h11 H11 => ?_
  refine jM H11 (b := b1) e_9 (H11.one .here) (by simp) fun h12 H12 => Mv H12 e_7 fun h13 H13 => .inl ⟨rfl, vb, ?_⟩
  rw [hms]
  have H14 := LvC.I (a := a) (w := w) (fv := fv) (x := x) (R := gV l (.loop .ready none 69 [1, 1, 0, 1, 0] [3] [.ptr b1 0] d) :: gV d .dfd :: qU b4 [v] :: qU b1 [vb] ::
   qb 67 2 (je x.1 (zH (lv.take i))).length vb ((je x.1 (zH (lv.take i))).flatMap zE) :: qU q [.int .i64 (most : Int), v] :: qb 136 1 lv.length v (xK ps) :: T) (H13.sub (.cons e_6 (.cons e_5 (.cons e_5 (.cons .here (.cons e_4 (.cons e_4 (.cons .here (.cons .here (.cons e_3 (.cons e_3 (.drop (.drop (.drop (.refl)))))))))))))))
  exact HS.unsel (.there (.there (.there (.there (.there (.there (.there s))))))) H14
 ·rintro _ h6 (⟨ov, H⟩ | hF)
  ·rw [List.take_of_length_le (by omega)] at H
   refine KX H .here (fun h => by cases h) fun h7 H => KP ?_
   with_reducible (refine qv (by assumption) e_3 rfl ?_)
   refine JS H e_1 fun h10 H => qk ?_
   exact (LgC.I (v := v) (ps := ps) e (HS.back (A := _ :: _ :: List.zipWith LvC ps lv) (H.sub (L' := qb 67 2 (zH lv).length ov ((zH lv).flatMap zE) :: qU q [.int .i64 (most : Int), v] ::
    qb 136 1 lv.length v (xK ps) :: (List.zipWith LvC ps lv ++ R)) (.cons e_4 (.cons e_4 (.cons e_4 (.drop (.drop (.drop (.drop (.refl))))))))))).sub (.cons e_1 (.refl))
  ·exact hF.elim
end Go.Proofs.YtdlfmpmpmkffjaaGreatDoor
namespace Go.Proofs.YtdlfmpmpmkffjaaGreatDoor
open Go Go.Ae
set_option maxRecDepth 100000
variable {g h : AH} {L R : List SP}
structure VM where
  sz : Nat
  K : List Cl
  most : Nat
  lv : List LvM
  need : Int
structure OkV (M : VM) : Prop where
  lo : 32 ≤ M.sz
  hi : M.sz ≤ 256
  lvs : OkL M.most M.lv
  ins : ∀ c ∈ M.K, 1 ≤ c.1 ∧ c.1 < M.sz
  un : UnC M.K
  fr : ∀ x ∈ M.lv, x.2.length < 100000
def Kb (M : VM) (p x : Int) : Int × VM :=
 if 1 ≤ p ∧ p < M.sz then match jf p M.K with
  | some y => (if y = x then 0 else 14, M)
  | none => (0, { M with K := M.K ++ [(p, x)] })
 else (2, M)
def qf (M : VM) (p : Int) : (Int × Int) × VM :=
 if 1 ≤ p ∧ p < M.sz then match gU p M.lv with
  | some x => ((x, 0), M)
  | none => match jf p M.K with
   | some x => ((x, 0), M)
   | none => ((0, 11), { M with need := p })
 else ((0, 2), M)
def ji (M : VM) (cs : List Cl) : Int × VM :=
 if ∀ c ∈ cs, 1 ≤ c.1 ∧ c.1 < M.sz then ((xB M.most M.lv M.lv cs).1, { M with lv := (xB M.most M.lv M.lv cs).2 }) else (2, M)
def freeV (M : VM) (b : Int) : VM := { M with lv := wT M.lv b }
def zP (M : VM) : Int × VM := ((xq M.lv).1, { M with lv := (xq M.lv).2 })
def zy (M : VM) : Int × VM := ((xl M.lv).1, { M with lv := (xl M.lv).2 })
def xX (M : VM) : Int × VM := ((xL M.lv).1, { M with lv := (xL M.lv).2 })
theorem ZO : ∀ (n : Nat) (l : List Int), l.Nodup → (∀ x ∈ l, 0 ≤ x ∧ x < n) → l.length ≤ n := by
 intro n
 induction n with
 | zero =>
  intro l _ h
  cases l with
  | nil => exact Nat.le_refl _
  | cons x l => have := h x (List.mem_cons_self ..); omega
 | succ n ih =>
  intro l hd h
  by_cases hx : (n : Int) ∈ l
  ·have := ih (l.erase n) (hd.erase _) (fun x hx' => by
    have h1 := h x (List.mem_of_mem_erase hx')
    have h2 : x ≠ n := by rintro rfl; exact (List.Nodup.not_mem_erase hd) hx'
    omega)
   rw [List.length_erase_of_mem hx] at this
   omega
  ·have := ih l hd (fun x hx' => by
    have h1 := h x hx'
    have h2 : x ≠ n := by rintro rfl; exact hx hx'
    omega)
   omega
theorem OkV.klen {M : VM} (O : OkV M) : M.K.length ≤ 256 := by
 have hu : (M.K.map (·.1)).Nodup := O.un
 have := ZO M.sz _ hu (fun x hx => by
  obtain ⟨c, hc, rfl⟩ := List.mem_map.1 hx
  have := O.ins c hc
  omega)
 rw [List.length_map] at this
 have := O.hi
 omega
def we (f : Int × Bool) : List AV := [.int .u64 f.1, .bool f.2]
def vT (K : List Cl) (i : Nat) : Int × Bool := match jf (i : Int) K with | some x => (x, true) | none => (0, false)
def xr (sz : Nat) (K : List Cl) : List (Int × Bool) := (List.range sz).map (vT K)
theorem wR (sz : Nat) (K : List Cl) : (xr sz K).length = sz := by simp [xr]
theorem wN {sz : Nat} {K : List Cl} {i : Nat} (hi : i < sz) : (xr sz K)[i]? = some (vT K i) := by simp [xr, List.getElem?_range hi]
theorem Qh {α : Type} {sz : Nat} {enc : α → List AV} (he : ∀ a, (enc a).length = sz) {l : List α} {i : Nat} {a : α} (h : l[i]? = some a) : ((l.flatMap enc).drop (i * sz)).take sz = enc a := by
 obtain ⟨hi, e⟩ := List.getElem?_eq_some_iff.1 h
 rw [gv (sz := sz) enc he, List.drop_eq_getElem_cons hi, e, List.flatMap_cons, ← he a, List.take_left]
theorem qZT {α : Type} {sz : Nat} {enc : α → List AV} (he : ∀ a, (enc a).length = sz) {l : List α} {i : Nat} {a : α} (hi : i < l.length) : wZ (l.flatMap enc) (i * sz) (enc a) = (l.set i a).flatMap enc := by
 have h1 : (l.flatMap enc).take (i * sz) = (l.take i).flatMap enc := by
  have e1 : l.flatMap enc = (l.take i).flatMap enc ++ (l.drop i).flatMap enc := by rw [← List.flatMap_append, List.take_append_drop]
  have e2 : ((l.take i).flatMap enc).length = i * sz := by rw [kJ (sz := sz) enc he, List.length_take, Nat.min_eq_left (by omega)]
  rw [e1, ← e2, List.take_left]
 have h2 : (l.flatMap enc).drop (i * sz + sz) = (l.drop (i + 1)).flatMap enc := by
  rw [show i * sz + sz = (i + 1) * sz by rw [Nat.add_mul, Nat.one_mul], gv (sz := sz) enc he]
 unfold wZ
 rw [he, h1, h2, List.set_eq_take_append_cons_drop, if_pos hi, List.flatMap_append, List.flatMap_cons, List.append_assoc]
theorem Nt {α : Type} {enc : α → List AV} {a : α} : ∀ n, yC (enc a) n = (List.replicate n a).flatMap enc := by
 intro n
 induction n with
 | zero => rfl
 | succ n ih => rw [yC, ih, List.replicate_succ, List.flatMap_cons]
theorem Uh (sz : Nat) : xr sz [] = List.replicate sz (0, false) := by
 unfold xr
 rw [show vT [] = fun _ => ((0, false) : Int × Bool) from rfl, List.map_const', List.length_range]
theorem Vj {sz : Nat} {K : List Cl} {i : Nat} {x : Int} (hi : i < sz) (hn : jf (i : Int) K = none) : xr sz (K ++ [((i : Int), x)]) = (xr sz K).set i (x, true) := by
 have e : ∀ j : Nat, jf (j : Int) (K ++ [((i : Int), x)]) = if j = i then some x else jf (j : Int) K := by
  intro j
  rw [← Jw hn, wi]
  by_cases h : j = i
  ·rw [if_pos h, if_pos (by rw [h])]
  ·rw [if_neg h, if_neg (by omega)]
 apply List.ext_getElem?
 intro j
 rw [List.getElem?_set, wR]
 by_cases hj : j < sz
 ·rw [wN hj]
  by_cases h : i = j
  ·subst h; rw [if_pos rfl, if_pos hi]; unfold vT; rw [e, if_pos rfl]
  ·rw [if_neg h, wN hj]; unfold vT; rw [e, if_neg (by omega)]
 ·rw [List.getElem?_eq_none (by rw [wR]; omega), if_neg (by omega), List.getElem?_eq_none (by rw [wR]; omega)]
def ViewC (v : Nat) (M : VM) : SP := .ex fun fv => .ex fun ov => .ex fun q => .ex fun e => .all [qU v [fv, ov, .ptr q 0, .int .i64 M.need], qb e 2 M.sz fv ((xr M.sz M.K).flatMap we),
 qb 3 1 M.K.length ov (M.K.map fun c => .int .i64 c.1), LgC q M.most M.lv]
theorem ViewC.E {v : Nat} {M : VM} (H : HS g h (ViewC v M :: R)) : ∃ fv ov q e, HS g h (qU v [fv, ov, .ptr q 0, .int .i64 M.need] :: qb e 2 M.sz fv ((xr M.sz M.K).flatMap we) ::
  qb 3 1 M.K.length ov (M.K.map fun c => .int .i64 c.1) :: LgC q M.most M.lv :: R) := by
 obtain ⟨fv, H⟩ := H.exE
 obtain ⟨ov, H⟩ := H.exE
 obtain ⟨q, H⟩ := H.exE
 obtain ⟨e, H⟩ := H.exE
 exact ⟨fv, ov, q, e, H.allE⟩
theorem ViewC.I {v : Nat} {M : VM} {fv ov : AV} {q : Nat} {e : TypeId} (H : HS g h (qU v [fv, ov, .ptr q 0, .int .i64 M.need] :: qb e 2 M.sz fv ((xr M.sz M.K).flatMap we) ::
  qb 3 1 M.K.length ov (M.K.map fun c => .int .i64 c.1) :: LgC q M.most M.lv :: R)) : HS g h (ViewC v M :: R) :=
 HS.exI fv (HS.exI ov (HS.exI q (HS.exI e (HS.allI H))))
def szZ (n : Int) : Nat := (max 32 (min n 256)).toNat
theorem qQO (n : Int) : 32 ≤ szZ n ∧ szZ n ≤ 256 := by unfold szZ; omega
def newV (words most : Int) : VM := ⟨szZ words, [], (max 0 (min most 96)).toNat, [([], [])], 0⟩
theorem qXe {m : Nat} (hm : m ≤ 96) : OkL m [([], [])] := ⟨by simp [zm], hm, by intro x hx; simp at hx; subst hx; intro c hc; simp at hc, by intro x hx; simp at hx; subst hx; exact List.nodup_nil, by simp, by simp⟩
theorem qZS {n : Nat} (hn : 4 ≤ n) {w m : Int} (H : HS g h R) : wp (callT tab qc n (.fn 11 [] []) [.int .i64 w, .int .i64 m] h) fun r h' => ∃ v, r = .ptr v 0 ∧ HS g h' (ViewC v (newV w m) :: R) := by
 (refine qr (g := W11) rfl (by omega) fun k hk => ?_; show wp (S11 (callT tab qc k) _ _ _) _; unfold S11; try simp only [iI, uU, Int.ofNat_eq_natCast])
 refine yj (yY ?_)
 have hb := qQO w
 rw [show max ((32 : Nat) : Int) (min w ((256 : Nat) : Int)) = ((szZ w : Nat) : Int) by unfold szZ; omega]
 refine Ue (sz := 2) H rfl (Nat.le_refl _) (by omega) fun fv h2 H2 => ?_
 refine qx (qXR (by omega) H2) ?_
 rintro _ h3 ⟨q, rfl, H3⟩
 have h1 := H3.one e_1
 refine qt (l := [fv, .nils, .ptr q 0, .int .i64 0]) (by unfold vt; rw [h1.1]; rfl) ?_
 refine jJ H3 (by show (fv.one && (true && (true && (true && true)))) = true; rw [h1.2]; rfl) fun v h4 H4 => qk ⟨v, rfl, ?_⟩
 rw [List.take_of_length_le (by rw [yv]; exact Nat.le_refl _), show yC [AV.int .u64 ((0 : Nat) : Int), AV.bool false] (szZ w) = (xr (szZ w) []).flatMap we by rw [Uh, ← Nt]; rfl] at H4
 exact ViewC.I (M := newV w m) ((H4.nils (e := 3) (sz := 1)).sub (.cons e_1 (.cons e_2 (.cons .here (.cons .here (.refl))))))
theorem Qu {n : Nat} (hn : 1 ≤ n) {v : Nat} {M : VM} (H : HS g h (ViewC v M :: R)) : wp (callT tab qc n (.fn 107 [] []) [.ptr v 0] h) fun r h' => r = .int .i64 (M.sz : Int) ∧ h' = h := by
 (refine qr (g := W107) rfl (by omega) fun k hk => ?_; show wp (S107 (callT tab qc k) _ _) _; unfold S107; try simp only [iI, uU, Int.ofNat_eq_natCast])
 obtain ⟨fv, ov, q, e, H⟩ := ViewC.E H
 with_reducible (refine qL ?_; refine qV ?_; refine qv (by assumption) .here rfl ?_; refine jb (by assumption) e_1 ?_)
 exact qk ⟨rfl, rfl⟩
theorem Gr {n : Nat} (hn : 1 ≤ n) {v : Nat} {M : VM} {p : Int} (H : HS g h (ViewC v M :: R)) : wp (callT tab qc n (.fn 52 [] []) [.ptr v 0, .int .i64 p] h) fun r h' => r = .bool (decide (1 ≤ p ∧ p < M.sz)) ∧ h' = h := by
 (refine qr (g := W52) rfl (by omega) fun k hk => ?_; show wp (S52 (callT tab qc k) _ _ _) _; unfold S52; try simp only [iI, uU, Int.ofNat_eq_natCast])
 obtain ⟨fv, ov, q, e, H⟩ := ViewC.E H
 by_cases h1 : 1 ≤ p
 ·with_reducible (refine zT (by omega) ?_; refine qW ?_; (try dsimp only); refine jG ?_; (try dsimp only); refine qL ?_; refine qV ?_; refine qv (by assumption) .here rfl ?_; refine jb (by assumption) e_1 ?_)
  refine wB ?_
  refine qe ?_
  refine qk ⟨?_, rfl⟩
  congr 1
  exact decide_eq_decide.2 ⟨fun h2 => ⟨h1, h2⟩, fun h2 => h2.2⟩
 ·with_reducible (refine zS (by omega) ?_; refine qW ?_; (try dsimp only); refine jV ?_; (try dsimp only); refine qd ?_)
  exact qk ⟨by rw [decide_eq_false (fun h2 => h1 h2.1)], rfl⟩
theorem ZC {n : Nat} (hn : 2 ≤ n) {v : Nat} {M : VM} {p x : Int} (H : HS g h (ViewC v M :: R)) (O : OkV M) :
  wp (callT tab qc n (.fn 15 [] []) [.ptr v 0, .int .i64 p, .int .u64 x] h) fun r h' => r = .int .i64 (Kb M p x).1 ∧ HS g h' (ViewC v (Kb M p x).2 :: R) := by
 (refine qr (g := W15) rfl (by omega) fun k hk => ?_; show wp (S15 (callT tab qc k) _ _ _ _) _; unfold S15; try simp only [iI, uU, Int.ofNat_eq_natCast])
 refine qx (Gr (by omega) H) ?_
 rintro _ _ ⟨rfl, rfl⟩
 have hO := O.hi
 unfold Kb
 by_cases hp : 1 ≤ p ∧ p < M.sz
 ·rw [if_pos hp]
  rw [decide_eq_true hp]
  obtain ⟨i, rfl⟩ : ∃ i : Nat, p = (i : Int) := ⟨p.toNat, by omega⟩
  have hi : i < M.sz := by omega
  have hH := H
  obtain ⟨fv, ov, q, e, H⟩ := ViewC.E H
  with_reducible (refine zv ?_; refine qQ ?_; refine qL ?_; refine qV ?_; refine qv (by assumption) .here rfl ?_)
  refine xY (l := we (vT M.K i)) (H.sl e_1) hi (by omega) (Qh (enc := we) (sz := 2) (fun _ => rfl) (wN hi)) ?_
  refine jJ H rfl fun b h3 H3 => jF H3 .here rfl (by show 0 + 2 ≤ 2; omega) rfl fun h4 H4 => ?_
  have H5 : HS g h4 (qU b (we (vT M.K i)) :: qU v [fv, ov, .ptr q 0, .int .i64 M.need] :: qb e 2 M.sz fv ((xr M.sz M.K).flatMap we) ::
   qb 3 1 M.K.length ov (M.K.map fun c => .int .i64 c.1) :: LgC q M.most M.lv :: R) := H4
  unfold we at H5
  cases hg : jf (i : Int) M.K with
  | some y =>
   rw [show vT M.K i = (y, true) by unfold vT; rw [hg]] at H5
   with_reducible (refine qV ?_; refine qv (by assumption) .here rfl ?_; refine qY ?_; refine qV ?_; refine qv (by assumption) .here rfl ?_)
   have H6 := ViewC.I (H5.drop)
   by_cases hy : y = x
   ·with_reducible (refine zw (by omega) ?_; refine qQ ?_)
    refine qk ⟨by dsimp only; rw [if_pos hy]; rfl, H6⟩
   ·with_reducible (refine zA (by omega) ?_; refine qY ?_)
    refine qk ⟨by dsimp only; rw [if_neg hy]; rfl, H6⟩
  | none =>
   rw [show vT M.K i = (0, false) by unfold vT; rw [hg]] at H5
   have hkl := O.klen
   with_reducible (refine qV ?_; refine qv (by assumption) .here rfl ?_; refine qQ ?_; refine qL ?_; refine qV ?_; refine qv (by assumption) e_1 rfl ?_; refine qt rfl ?_)
   refine qVe (l := [.int .u64 x, .bool true]) (H5.drop.sel (P := qb e 2 M.sz fv ((xr M.sz M.K).flatMap we)) e_1) hi rfl rfl fun h6 H6 => ?_
   rw [show wZ ((xr M.sz M.K).flatMap we) (i * 2) [AV.int .u64 x, AV.bool true] = (xr M.sz (M.K ++ [((i : Int), x)])).flatMap we by
    rw [Vj hi hg, ← qZT (enc := we) (sz := 2) (fun _ => rfl) (by rw [wR]; exact hi)]; rfl] at H6
   with_reducible (refine qL ?_; refine qV ?_; refine qv (by assumption) e_1 rfl ?_)
   refine jK (n := 1) (l := [.int .i64 (i : Int)]) (sz := 1) H6 rfl rfl rfl rfl fun v7 h7 H7 => ?_
   refine zl (H7.sel (P := qb 3 1 M.K.length ov (M.K.map fun c => .int .i64 c.1)) e_3) (H7.sl .here) (by omega) (by omega) rfl fun v8 h8 H8 => ?_
   refine qL ?_; refine qV ?_
   refine jM H8 e_3 (H8.one .here) (by simp) fun h9 H9 => qk ⟨rfl, ViewC.I (M := { M with K := M.K ++ [((i : Int), x)] }) (fv := fv) (ov := v8) (q := q) (e := e) ?_⟩
   rw [List.map_append, List.length_append]
   exact H9.sub (.cons .here (.cons e_2 (.cons .here (.cons e_1 (.drop (.refl))))))
 ·rw [if_neg hp, decide_eq_false hp]
  refine zM ?_; refine qY ?_
  exact qk ⟨rfl, H⟩
theorem xg {M : VM} {p : Int} (O : OkV M) : OkV (qf M p).2 := by
 unfold qf
 repeat' split
 all_goals exact ⟨O.lo, O.hi, O.lvs, O.ins, O.un, O.fr⟩
theorem kg {n : Nat} (hn : 9 ≤ n) {v : Nat} {M : VM} {p : Int} (H : HS g h (ViewC v M :: R)) (O : OkV M) :
  wp (callT tab qc n (.fn 109 [] []) [.ptr v 0, .int .i64 p] h) fun r h' => r = .tup [.int .u64 (qf M p).1.1, .int .i64 (qf M p).1.2] ∧ HS g h' (ViewC v (qf M p).2 :: R) := by
 (refine qr (g := W109) rfl (by omega) fun k hk => ?_; show wp (S109 (callT tab qc k) _ _ _) _; unfold S109; try simp only [iI, uU, Int.ofNat_eq_natCast])
 refine qx (Gr (by omega) H) ?_
 rintro _ _ ⟨rfl, rfl⟩
 have hO := O.hi
 unfold qf
 by_cases hp : 1 ≤ p ∧ p < M.sz
 ·rw [if_pos hp]
  rw [decide_eq_true hp]
  obtain ⟨i, rfl⟩ : ∃ i : Nat, p = (i : Int) := ⟨p.toNat, by omega⟩
  have hi : i < M.sz := by omega
  obtain ⟨fv, ov, q, e, H⟩ := ViewC.E H
  with_reducible (refine zv ?_; refine qQ ?_; refine qL ?_; refine qV ?_; refine qv (by assumption) .here rfl ?_)
  refine qx (qJ1 (by omega) (H.sel (P := LgC q M.most M.lv) e_3) O.lvs) ?_
  rintro _ h2 ⟨rfl, H2⟩
  with_reducible (refine qH rfl ?_; refine qH rfl ?_)
  cases hl : gU (i : Int) M.lv with
  | some y =>
   simp only [Option.isSome_some, Option.getD_some]
   refine qY ?_
   exact qk ⟨rfl, ViewC.I (H2.sub (.cons e_1 (.cons e_1 (.cons e_1 (.refl)))))⟩
  | none =>
   simp only [Option.isSome_none]
   with_reducible (refine qQ ?_; refine qL ?_; refine qV ?_; refine qv (by assumption) e_1 rfl ?_)
   refine xY (l := we (vT M.K i)) (H2.sl e_2) hi (by omega) (Qh (enc := we) (sz := 2) (fun _ => rfl) (wN hi)) ?_
   refine jJ H2 rfl fun b h3 H3 => jF H3 .here rfl (by show 0 + 2 ≤ 2; omega) rfl fun h4 H4 => ?_
   have H5 : HS g h4 (qU b (we (vT M.K i)) :: LgC q M.most M.lv :: qU v [fv, ov, .ptr q 0, .int .i64 M.need] :: qb e 2 M.sz fv ((xr M.sz M.K).flatMap we) ::
    qb 3 1 M.K.length ov (M.K.map fun c => .int .i64 c.1) :: R) := H4
   unfold we at H5
   cases hg : jf (i : Int) M.K with
   | some y =>
    rw [show vT M.K i = (y, true) by unfold vT; rw [hg]] at H5
    with_reducible (refine qV ?_; refine qv (by assumption) .here rfl ?_; refine qY ?_; refine qV ?_; refine qv (by assumption) .here rfl ?_)
    exact qk ⟨rfl, ViewC.I (H5.drop.sub (.cons e_1 (.cons e_1 (.cons e_1 (.refl)))))⟩
   | none =>
    rw [show vT M.K i = (0, false) by unfold vT; rw [hg]] at H5
    with_reducible (refine qV ?_; refine qv (by assumption) .here rfl ?_; refine qQ ?_; refine qL ?_; refine qV ?_)
    refine jM H5 (b := v) e_2 ⟨rfl, rfl⟩ (by simp) fun h9 H9 => qk ⟨rfl, ViewC.I (M := { M with need := (i : Int) }) (fv := fv) (ov := ov) (q := q) (e := e) (H9.sub (.cons .here (.cons e_2 (.cons e_2 (.cons e_1 (.drop (.refl)))))))⟩
 ·rw [if_neg hp, decide_eq_false hp]
  refine zM ?_; refine qY ?_
  exact qk ⟨rfl, H⟩
theorem qXo {most : Nat} {lv : List LvM} {p v : Int} {n : Nat} (h : ∀ x ∈ lv, x.2.length < n) : ∀ x ∈ (xH most lv p v).2, x.2.length < n := by
 cases lv with
 | nil => exact h
 | cons y r =>
  obtain ⟨c, hc⟩ := JM (most := most) (x := y) (r := r) (p := p) (v := v)
  rw [hc]
  intro x hx
  rcases List.mem_cons.1 hx with rfl | hx
  ·exact h y (List.mem_cons_self ..)
  ·exact h x (List.mem_cons_of_mem _ hx)
theorem O1 {most : Nat} {was : List LvM} {n : Nat} (hw : ∀ x ∈ was, x.2.length < n) : ∀ {cs : List Cl} {lv : List LvM}, (∀ x ∈ lv, x.2.length < n) → ∀ x ∈ (xB most was lv cs).2, x.2.length < n := by
 intro cs
 induction cs with
 | nil => intro lv h; exact h
 | cons c cs ih =>
  intro lv h
  rw [xD]
  split
  ·exact ih (qXo h)
  ·exact hw
theorem Kd {M : VM} {cs : List Cl} (O : OkV M) : OkV (ji M cs).2 := by
 unfold ji
 split
 ·exact ⟨O.lo, O.hi, (KM O.lvs O.lvs rfl).1, O.ins, O.un, O1 O.fr O.fr⟩
 ·exact O
theorem Xo {n : Nat} (hn : 8 ≤ n) {v : Nat} {M : VM} {cs : List Cl} {c : AV} (H : HS g h (ViewC v M :: R)) (O : OkV M) (S : Rd g R 2 cs.length c (cs.flatMap zE)) (hc : cs.length < 100000) :
  wp (callT tab qc n (.fn 111 [] []) [.ptr v 0, c] h) fun r h' => r = .int .i64 (ji M cs).1 ∧ HS g h' (ViewC v (ji M cs).2 :: R) := by
 (refine qr (g := W111) rfl (by omega) fun k hk => ?_; show wp (S111 (callT tab qc k) _ _ _) _; unfold S111; try simp only [iI, uU, Int.ofNat_eq_natCast])
 refine zF (S.sl H.drop) ?_
 refine zW (fun k s h' => ∃ i : Nat, s = (.int .i64 (i : Int), .int .i64 (cs.length : Int), c, c, .ptr v 0, ()) ∧ i ≤ cs.length ∧ k = cs.length - i ∧ HS g h' (ViewC v M :: R) ∧ ∀ j, j < i → ∀ d, cs[j]? = some d → 1 ≤ d.1 ∧ d.1 < M.sz)
  ?_ (m := cs.length) (by show _ < 1000000000; omega) ⟨0, rfl, by omega, by omega, H, fun j hj => by omega⟩
 rintro k2 ih s h2 hih ⟨i, rfl, h1, rfl, H, hno⟩
 dsimp only
 refine zO (fun hlt => qY ?_) fun hge => qQ ?_
 ·have hi : i < cs.length := by omega
  have hci : cs[i]? = some cs[i] := List.getElem?_eq_getElem hi
  refine xY (l := zE cs[i]) (S.sl H.drop) hi (by omega) (QU hci) ?_
  refine jJ H rfl fun b h3 H3 => jF H3 .here rfl (by show 0 + 2 ≤ 2; omega) rfl fun h4 H4 => ?_
  have H5 : HS g h4 (qU b (zE cs[i]) :: ViewC v M :: R) := H4
  unfold zE at H5
  with_reducible (refine qV ?_; refine qv (by assumption) .here rfl ?_)
  refine qx (Gr (by omega) H5.drop) ?_
  rintro _ _ ⟨rfl, rfl⟩
  by_cases hin : 1 ≤ cs[i].1 ∧ cs[i].1 < M.sz
  ·rw [decide_eq_true hin]
   with_reducible (refine zv ?_; refine qQ ?_; refine qh (by omega) ?_)
   refine hih (cs.length - (i + 1)) _ _ (by omega) ⟨i + 1, rfl, by omega, rfl, H5.drop, fun j hj d hd => ?_⟩
   by_cases hj' : j < i
   ·exact hno j hj' d hd
   ·obtain rfl : j = i := by omega
    rw [hci] at hd; cases hd; exact hin
  ·rw [decide_eq_false hin]
   refine zM ?_; refine qY ?_; refine qM ?_
   unfold ji
   rw [if_neg (fun h => hin (h _ (List.getElem_mem hi)))]
   exact qk ⟨rfl, H5.drop⟩
 ·have hall : ∀ d ∈ cs, 1 ≤ d.1 ∧ d.1 < M.sz := by
   intro d hd
   obtain ⟨j, hj⟩ := List.getElem?_of_mem hd
   exact hno j (by have := (List.getElem?_eq_some_iff.1 hj).1; omega) d hj
  obtain ⟨fv, ov, q, e, H⟩ := ViewC.E H
  with_reducible (refine qL ?_; refine qV ?_; refine qv (by assumption) .here rfl ?_)
  refine qx (qJf (by omega) (H.sel (P := LgC q M.most M.lv) e_3) O.lvs (S.more.more.more) hc) ?_
  rintro _ h4 ⟨rfl, H4⟩
  unfold ji
  rw [if_pos hall]
  exact qM (qk ⟨rfl, ViewC.I (M := { M with lv := (xB M.most M.lv M.lv cs).2 }) (fv := fv) (ov := ov) (q := q) (e := e) (H4.sub (.cons e_1 (.cons e_1 (.cons e_1 (.refl)))))⟩)
theorem qQH {n : Nat} (hn : 4 ≤ n) {v : Nat} {M : VM} (H : HS g h (ViewC v M :: R)) (O : OkV M) :
  wp (callT tab qc n (.fn 199 [] []) [.ptr v 0] h) fun r h' => r = .int .i64 (zP M).1 ∧ HS g h' (ViewC v (zP M).2 :: R) := by
 (refine qr (g := W199) rfl (by omega) fun k hk => ?_; show wp (S199 (callT tab qc k) _ _) _; unfold S199; try simp only [iI, uU, Int.ofNat_eq_natCast])
 obtain ⟨fv, ov, q, e, H⟩ := ViewC.E H
 with_reducible (refine qL ?_; refine qV ?_; refine qv (by assumption) .here rfl ?_)
 refine qx (Ze (by omega) (H.sel (P := LgC q M.most M.lv) e_3) O.lvs) ?_
 rintro _ h2 ⟨rfl, H2⟩
 exact qk ⟨rfl, ViewC.I (M := (zP M).2) (fv := fv) (ov := ov) (q := q) (e := e) (H2.sub (.cons e_1 (.cons e_1 (.cons e_1 (.cons .here (.refl))))))⟩
theorem Ku {n : Nat} (hn : 2 ≤ n) {v : Nat} {M : VM} (H : HS g h (ViewC v M :: R)) (O : OkV M) :
  wp (callT tab qc n (.fn 135 [] []) [.ptr v 0] h) fun r h' => r = .int .i64 (zy M).1 ∧ HS g h' (ViewC v (zy M).2 :: R) := by
 (refine qr (g := W135) rfl (by omega) fun k hk => ?_; show wp (S135 (callT tab qc k) _ _) _; unfold S135; try simp only [iI, uU, Int.ofNat_eq_natCast])
 obtain ⟨fv, ov, q, e, H⟩ := ViewC.E H
 with_reducible (refine qL ?_; refine qV ?_; refine qv (by assumption) .here rfl ?_)
 refine qx (Kf (by omega) (H.sel (P := LgC q M.most M.lv) e_3) O.lvs) ?_
 rintro _ h2 ⟨rfl, H2⟩
 exact qk ⟨rfl, ViewC.I (M := (zy M).2) (fv := fv) (ov := ov) (q := q) (e := e) (H2.sub (.cons e_1 (.cons e_1 (.cons e_1 (.cons .here (.refl))))))⟩
theorem KC {n : Nat} (hn : 7 ≤ n) {v : Nat} {M : VM} (H : HS g h (ViewC v M :: R)) (O : OkV M) :
  wp (callT tab qc n (.fn 133 [] []) [.ptr v 0] h) fun r h' => r = .int .i64 (xX M).1 ∧ HS g h' (ViewC v (xX M).2 :: R) := by
 (refine qr (g := W133) rfl (by omega) fun k hk => ?_; show wp (S133 (callT tab qc k) _ _) _; unfold S133; try simp only [iI, uU, Int.ofNat_eq_natCast])
 obtain ⟨fv, ov, q, e, H⟩ := ViewC.E H
 with_reducible (refine qL ?_; refine qV ?_; refine qv (by assumption) .here rfl ?_)
 refine qx (qQc (by omega) (H.sel (P := LgC q M.most M.lv) e_3) O.lvs fun x hx => Nat.lt_trans (O.fr x hx) (by omega)) ?_
 rintro _ h2 ⟨rfl, H2⟩
 exact qk ⟨rfl, ViewC.I (M := (xX M).2) (fv := fv) (ov := ov) (q := q) (e := e) (H2.sub (.cons e_1 (.cons e_1 (.cons e_1 (.cons .here (.refl))))))⟩
theorem Oh {n : Nat} (hn : 3 ≤ n) {v : Nat} {M : VM} {b : Int} (H : HS g h (ViewC v M :: R)) (O : OkV M) :
  wp (callT tab qc n (.fn 198 [] []) [.ptr v 0, .int .i64 b] h) fun _ h' => HS g h' (ViewC v (freeV M b) :: R) := by
 (refine qr (g := W198) rfl (by omega) fun k hk => ?_; show wp (S198 (callT tab qc k) _ _ _) _; unfold S198; try simp only [iI, uU, Int.ofNat_eq_natCast])
 obtain ⟨fv, ov, q, e, H⟩ := ViewC.E H
 with_reducible (refine qL ?_; refine qV ?_; refine qv (by assumption) .here rfl ?_)
 refine qx (qQA (by omega) (H.sel (P := LgC q M.most M.lv) e_3) O.lvs fun x hx => Nat.lt_trans (O.fr x hx) (by omega)) ?_
 intro _ h2 H2
 exact qk (ViewC.I (M := freeV M b) (fv := fv) (ov := ov) (q := q) (e := e) (H2.sub (.cons e_1 (.cons e_1 (.cons e_1 (.cons .here (.refl)))))))
theorem YS {n : Nat} (hn : 10 ≤ n) {v : Nat} {M : VM} (H : HS g h (ViewC v M :: R)) (O : OkV M) :
  wp (callT tab qc n (.fn 31 [] []) [.ptr v 0] h) fun r h' => HS g h' (qb 67 2 (zH M.lv).length r ((zH M.lv).flatMap zE) :: ViewC v M :: R) := by
 (refine qr (g := W31) rfl (by omega) fun k hk => ?_; show wp (S31 (callT tab qc k) _ _) _; unfold S31; try simp only [iI, uU, Int.ofNat_eq_natCast])
 obtain ⟨fv, ov, q, e, H⟩ := ViewC.E H
 with_reducible (refine qL ?_; refine qV ?_; refine qv (by assumption) .here rfl ?_)
 refine qx (Ow (by omega) (H.sel (P := LgC q M.most M.lv) e_3) O.lvs) ?_
 intro r h2 H2
 refine qk ?_
 have H3 := ViewC.I (v := v) (M := M) (fv := fv) (ov := ov) (q := q) (e := e) (R := qb 67 2 (zH M.lv).length r ((zH M.lv).flatMap zE) :: R) (H2.sub (.cons e_2 (.cons e_2 (.cons e_2 (.cons e_1 (.refl))))))
 exact H3.sub (.cons e_1 (.refl))
theorem NI {n : Nat} : ∀ {l : List LvM}, (∀ x ∈ l, x.2.length < n) → (l.flatMap (·.2)).length ≤ l.length * n := by
 intro l h
 induction l with
 | nil => simp
 | cons x r ih =>
  have h1 := h x (List.mem_cons_self ..)
  have h2 := ih fun y hy => h y (List.mem_cons_of_mem _ hy)
  rw [List.flatMap_cons, List.length_append, List.length_cons, Nat.add_mul, Nat.one_mul]
  omega
theorem Vf {n : Nat} {lv : List LvM} (h : ∀ x ∈ lv, x.2.length < n) : (yo lv).length ≤ lv.length * n := by
 have := NI (l := lv.reverse) (n := n) fun x hx => h x (List.mem_reverse.1 hx)
 rw [List.length_reverse] at this
 exact this
theorem YO {n : Nat} (hn : 2 ≤ n) {v : Nat} {M : VM} (H : HS g h (ViewC v M :: R)) (O : OkV M) :
  wp (callT tab qc n (.fn 33 [] []) [.ptr v 0] h) fun r h' => HS g h' (qb 3 1 (yo M.lv).length r ((yo M.lv).map (.int .i64)) :: ViewC v M :: R) := by
 (refine qr (g := W33) rfl (by omega) fun k hk => ?_; show wp (S33 (callT tab qc k) _ _) _; unfold S33; try simp only [iI, uU, Int.ofNat_eq_natCast])
 obtain ⟨fv, ov, q, e, H⟩ := ViewC.E H
 with_reducible (refine qL ?_; refine qV ?_; refine qv (by assumption) .here rfl ?_)
 have hfl := Vf O.fr
 have hd := O.lvs.deep
 refine qx (NG (by omega) (H.sel (P := LgC q M.most M.lv) e_3) O.lvs (by omega)) ?_
 intro r h2 H2
 refine qk ?_
 have H3 := ViewC.I (v := v) (M := M) (fv := fv) (ov := ov) (q := q) (e := e) (R := qb 3 1 (yo M.lv).length r ((yo M.lv).map (.int .i64)) :: R) (H2.sub (.cons e_2 (.cons e_2 (.cons e_2 (.cons e_1 (.refl))))))
 exact H3.sub (.cons e_1 (.refl))
def xe (zs : List Int) (i : Nat) : Int := zs[i]?.getD 0
def kW (zs : List Int) : List Cl := (List.range (szZ zs.length - 1)).map fun i => (((i + 1 : Nat) : Int), xe zs (i + 1))
def jL (zs : List Int) (most : Int) : VM := ⟨szZ zs.length, kW zs, (max 0 (min most 96)).toNat, [([], [])], 0⟩
theorem Vs (zs : List Int) : (kW zs).length = szZ zs.length - 1 := by simp [kW]
theorem Gf (zs : List Int) {i : Nat} (hi : i + 1 < szZ zs.length) : (kW zs)[i]? = some (((i + 1 : Nat) : Int), xe zs (i + 1)) := by
 unfold kW
 rw [List.getElem?_map, List.getElem?_range (by omega)]; rfl
theorem Mb (zs : List Int) {i : Nat} {p : Int} (hp : (i : Int) < p) : jf p ((kW zs).take i) = none := by
 rw [Xt]
 intro hm
 obtain ⟨c, hc, he⟩ := List.mem_map.1 hm
 obtain ⟨j, hj⟩ := List.getElem?_of_mem hc
 have hjl := (List.getElem?_eq_some_iff.1 hj).1
 simp [Vs] at hjl
 rw [List.getElem?_take_of_lt (by omega), Gf zs (by omega)] at hj
 cases hj
 dsimp only at he
 omega
def Js (zs : List Int) (most : Int) (i : Nat) : VM := { jL zs most with K := (kW zs).take i }
theorem Md (zs : List Int) (most : Int) (i : Nat) : OkV (Js zs most i) := by
 have hb := qQO (zs.length : Int)
 refine ⟨hb.1, hb.2, qXe (by show (max 0 (min most 96)).toNat ≤ 96; omega), ?_, ?_, by intro x hx; simp [Js, jL] at hx; subst hx; simp⟩
 ·intro c hc
  obtain ⟨j, hj⟩ := List.getElem?_of_mem (List.mem_of_mem_take hc)
  have hjl := (List.getElem?_eq_some_iff.1 hj).1
  rw [Vs] at hjl
  rw [Gf zs (by omega)] at hj
  cases hj
  show 1 ≤ ((j + 1 : Nat) : Int) ∧ ((j + 1 : Nat) : Int) < ((szZ zs.length : Nat) : Int)
  omega
 ·show ((((kW zs).take i).map (·.1))).Nodup
  refine List.Nodup.sublist ((List.take_sublist i _).map _) ?_
  unfold kW
  rw [List.map_map]
  refine List.Pairwise.map _ ?_ (List.nodup_range (n := szZ zs.length - 1))
  intro a b hab
  simp
  omega
theorem NQ (zs : List Int) (most : Int) : OkV (jL zs most) := by
 have := Md zs most (kW zs).length
 unfold Js at this
 rw [List.take_length] at this
 exact this
theorem Nb {n : Nat} (hn : 5 ≤ n) {zs : List Int} {a0 : AV} {m : Int} (H : HS g h R) (S : Rd g R 1 zs.length a0 (zs.map (.int .u64))) :
  wp (callT tab qc n (.fn 77 [] []) [a0, .int .i64 m] h) fun r h' => ∃ v, r = .ptr v 0 ∧ HS g h' (ViewC v (jL zs m) :: R) := by
 (refine qr (g := W77) rfl (by omega) fun k hk => ?_; show wp (S77 (callT tab qc k) _ _ _) _; unfold S77; try simp only [iI, uU, Int.ofNat_eq_natCast])
 have hb := qQO (zs.length : Int)
 refine zF (S.sl H) ?_
 refine qx (qZS (by omega) H) ?_
 rintro _ h1 ⟨v, rfl, H1⟩
 refine zW (fun k s h' => ∃ i : Nat, s = (.int .i64 ((i + 1 : Nat) : Int), .ptr v 0, a0, ()) ∧ i + 1 ≤ szZ zs.length ∧ k = szZ zs.length - (i + 1) ∧ HS g h' (ViewC v (Js zs m i) :: R)) ?_ (m := szZ zs.length - 1) (by show _ < 1000000000; omega) ⟨0, rfl, by omega, by omega, H1⟩
 rintro k2 ih s h' hih ⟨i, rfl, h1, rfl, H⟩
 dsimp only
 refine qx (Qu (by omega) H) ?_
 rintro _ _ ⟨rfl, rfl⟩
 show wp (qq .lss _ (.int .i64 ((szZ zs.length : Nat) : Int)) _) _
 refine zO (fun hlt => qY ?_) fun hge => qQ (qM (qk ⟨v, rfl, ?_⟩))
 ·have hi : i + 1 < szZ zs.length := by omega
  refine zp [] (fun s g' => s = (.int .u64 (xe zs (i + 1)), .int .i64 ((i + 1 : Nat) : Int), .ptr v 0, a0, ()) ∧ HS g g' (ViewC v (Js zs m i) :: R)) ?_ ?_
  ·intro j hj
   refine zF (S.sl H.drop) ?_
   refine zO (fun hl => qY ?_) fun hl => qQ ?_
   ·refine ju (S.sl H.drop) (x := .int .u64 (xe zs (i + 1))) ?_ (hj _ _ ⟨rfl, H⟩)
    unfold xe
    rw [List.getElem?_map, List.getElem?_eq_getElem (by omega)]; rfl
   ·refine hj _ _ ⟨?_, H⟩
    unfold xe
    rw [List.getElem?_eq_none (by omega)]; rfl
  ·rintro s g' ⟨rfl, H2⟩
   dsimp only
   refine qx (ZC (by omega) H2 (Md zs m i)) ?_
   rintro _ h4 ⟨_, H4⟩
   have hk : (Kb (Js zs m i) ((i + 1 : Nat) : Int) (xe zs (i + 1))).2 = Js zs m (i + 1) := by
    unfold Kb
    rw [if_pos (show 1 ≤ ((i + 1 : Nat) : Int) ∧ ((i + 1 : Nat) : Int) < ((Js zs m i).sz : Int) from ⟨by omega, show ((i + 1 : Nat) : Int) < ((szZ zs.length : Nat) : Int) by omega⟩)]
    show (match jf ((i + 1 : Nat) : Int) ((kW zs).take i) with
     | some y => (if y = xe zs (i + 1) then (0 : Int) else 14, Js zs m i)
     | none => (0, { Js zs m i with K := (kW zs).take i ++ [(((i + 1 : Nat) : Int), xe zs (i + 1))] })).2 = _
    rw [Mb zs (by omega)]
    dsimp only
    unfold Js
    rw [List.take_add_one, Gf zs hi]; rfl
   rw [hk] at H4
   refine qh (by omega) (hih (szZ zs.length - (i + 1 + 1)) _ _ (by omega) ⟨i + 1, rfl, by omega, rfl, H4⟩)
 ·have hi : i = (kW zs).length := by rw [Vs]; omega
  subst hi
  unfold Js at H
  rw [List.take_length] at H
  exact H
end Go.Proofs.YtdlfmpmpmkffjaaGreatDoor
namespace Go.Proofs.YtdlfmpmpmkffjaaGreatDoor
open Go Go.Ae
abbrev qI : Type := Int × Int × Int × Int × Int
def jj (x : qI) : List AV := [.int .i64 x.1, .int .i64 x.2.1, .int .i64 x.2.2.1, .int .i64 x.2.2.2.1, .int .u64 x.2.2.2.2]
theorem Jo (l : List qI) : qu (l.flatMap jj) = true := by
 unfold qu
 rw [List.all_eq_true]
 intro v hv
 obtain ⟨c, _, hc⟩ := List.mem_flatMap.1 hv
 simp [jj] at hc
 rcases hc with rfl | rfl | rfl | rfl | rfl <;> rfl
def jE (op : Int) : (Int × Int) × (Int × Int) × (Int × Int) :=
 if op = 1 ∨ op = 11 ∨ op = 21 then ((0, 7), (0, 0), (0, 0))
 else if op = 2 ∨ op = 10 then ((0, 7), (0, 7), (0, 0))
 else if op = 3 ∨ op = 4 ∨ op = 5 ∨ op = 6 ∨ op = 7 then ((0, 7), (0, 7), (0, 7))
 else if op = 8 ∨ op = 9 then ((0, 7), (0, 7), (0, 15))
 else if op = 12 then ((0, 0), (0, 0), (0, 40))
 else if op = 13 then ((0, 7), (0, 0), (0, 40))
 else if op = 23 then ((1, 12), (0, 7), (0, 6))
 else ((0, 0), (0, 0), (0, 0))
def yG (f : Int × Int) (n : Int) : Bool := decide (f.1 ≤ n ∧ n ≤ f.2)
def xm (x : qI) : Bool := decide (1 ≤ x.1 ∧ x.1 ≤ 23) && yG (jE x.1).1 x.2.1 && yG (jE x.1).2.1 x.2.2.1 && yG (jE x.1).2.2 x.2.2.2.1 && decide (x.2.2.2.2 = 0 ∨ x.1 = 1)
def zC (op : Int) : Bool := decide (op = 14 ∨ op = 17)
def jc (op : Int) : Int := if op = 15 then 14 else if op = 18 then 17 else if op = 19 then 18 else 0
def jZ (st : List Int) : Int := st.getLast?.getD (-1)
def qA (l : List qI) (i : Int) : qI := (l[i.toNat]?).getD (0, 0, 0, 0, 0)
def opM (l : List qI) (st : List Int) : Int := if st = [] then 0 else (qA l (jZ st)).1
def jH (l : List qI) (st : List Int) (x : qI) : Int :=
 if xm x = false then 8
 else if 0 < jc x.1 ∧ opM l st ≠ jc x.1 then 12
 else if x.1 = 16 ∧ opM l st ≠ 14 then 12
 else if zC x.1 = true ∧ 5 ≤ st.length then 9
 else 0
def jg (st : List Int) (i op : Int) : List Int :=
 if zC op = true ∨ op = 18 then (if 0 < jc op then st.dropLast else st) ++ [i] else (if 0 < jc op then st.dropLast else st)
def goM (l : List qI) : List qI → Nat → List Int → (Int × Int) ⊕ List Int
 | [], _, st => .inr st
 | x :: r, i, st => if jH l st x = 0 then goM l r (i + 1) (jg st i x.1) else .inl (i, jH l st x)
def xP : List qI → Nat → List Int → List Int
 | [], _, _ => []
 | x :: r, i, st => jZ st :: xP r (i + 1) (jg st i x.1)
def qa (a : List Int) (i : Int) : Int := (a[i.toNat]?).getD 0
def gH (l : List qI) (a : List Int) (i : Nat) (x : qI) : Prop :=
 (x.1 = 12 ∨ x.1 = 13) ∧ ((l.length : Int) < x.2.2.2.1 ∨ (x.2.2.2.1 = l.length ∧ qa a i ≠ -1) ∨ (x.2.2.2.1 < l.length ∧ qa a x.2.2.2.1 ≠ qa a i))
instance {l : List qI} {a : List Int} {i : Nat} {x : qI} : Decidable (gH l a i x) := by unfold gH; infer_instance
def wc (l : List qI) (a : List Int) : List qI → Nat → Int × Int
 | [], _ => (0, 0)
 | x :: r, i => if gH l a i x then ((i : Int), 2) else wc l a r (i + 1)
def xG (l : List qI) : Int × Int :=
 if l.length = 0 ∨ 40 < l.length then (0, 4)
 else match goM l l 0 [] with
  | .inl r => r
  | .inr st => if st = [] then wc l (xP l 0 []) l 0 else (jZ st, 12)
def StOk (i : Nat) (st : List Int) : Prop := ∀ y ∈ st, 0 ≤ y ∧ y < (i : Int)
theorem StOk.nil {i : Nat} : StOk i [] := fun _ h => by cases h
theorem StOk.dropLast {i : Nat} {st : List Int} (h : StOk i st) : StOk i st.dropLast := fun y hy => h y ((List.dropLast_sublist st).subset hy)
theorem StOk.behind {i : Nat} {st : List Int} {op : Int} (h : StOk i st) : StOk (i + 1) (jg st i op) := by
 have h1 : ∀ s, StOk i s → StOk (i + 1) s := fun s hs y hy => by have := hs y hy; omega
 have h2 : ∀ s, StOk i s → StOk (i + 1) (s ++ [(i : Int)]) := by
  intro s hs y hy
  rcases List.mem_append.1 hy with hy | hy
  ·exact h1 s hs y hy
  ·rw [List.mem_singleton] at hy; omega
 unfold jg
 repeat' split
 ·exact h2 _ h.dropLast
 ·exact h2 _ h
 ·exact h1 _ h.dropLast
 ·exact h1 _ h
theorem StOk.inmost {i : Nat} {st : List Int} (h : StOk i st) (hn : st ≠ []) : 0 ≤ jZ st ∧ jZ st < (i : Int) := by
 refine h _ ?_
 unfold jZ
 rw [List.getLast?_eq_some_getLast hn]
 exact List.getLast_mem hn
theorem YE (st : List Int) (i op : Int) : (jg st i op).length ≤ st.length + 1 := by
 unfold jg
 repeat' split
 all_goals simp
 all_goals omega
theorem Qq : jZ [] = -1 := rfl
theorem zY {l : List qI} {st : List Int} {x : qI} (h : jH l st x = 0) : xm x = true ∧ (0 < jc x.1 ∨ x.1 = 16 → st ≠ []) ∧ (zC x.1 = true → st.length < 5) := by
 unfold jH at h
 split at h
 ·cases h
 ·rename_i h1
  split at h
  ·cases h
  ·rename_i h2
   split at h
   ·cases h
   ·rename_i h3
    split at h
    ·cases h
    ·rename_i h4
     refine ⟨by simpa using h1, ?_, fun hb => by
      by_cases h5 : 5 ≤ st.length
      ·exact absurd ⟨hb, h5⟩ h4
      ·omega⟩
     rintro ho rfl
     have h0 : opM l [] = 0 := rfl
     rw [h0] at h2 h3
     rcases ho with ho | ho
     ·exact h2 ⟨ho, by omega⟩
     ·exact h3 ⟨ho, by omega⟩
theorem JJ {l r : List qI} {x : qI} {i : Nat} {st : List Int} : goM l (x :: r) i st = if jH l st x = 0 then goM l r (i + 1) (jg st i x.1) else .inl (i, jH l st x) := rfl
theorem Xl : ∀ {r : List qI} {i : Nat} {st : List Int}, (xP r i st).length = r.length := by
 intro r
 induction r with
 | nil => intro i st; rfl
 | cons x r ih => intro i st; show (xP r (i + 1) _).length + 1 = _; rw [ih]; rfl
theorem Zk : ∀ {r : List qI} {i j : Nat} {st : List Int}, j < r.length → ∃ s, (xP r i st)[j]? = some (jZ s) ∧ (∀ {l : List qI} {st' : List Int}, goM l r i st = .inr st' → StOk i st → StOk (i + j) s ∧ ∀ x, r[j]? = some x → jH l s x = 0) := by
 intro r
 induction r with
 | nil => intro i j st h; simp at h
 | cons x r ih =>
  intro i j st h
  cases j with
  | zero =>
   refine ⟨st, rfl, fun {l st'} hg hs => ⟨hs, ?_⟩⟩
   intro y hy
   simp at hy
   subst hy
   rw [JJ] at hg
   split at hg
   ·assumption
   ·cases hg
  | succ j =>
   obtain ⟨s, h1, h2⟩ := ih (i := i + 1) (j := j) (st := jg st i x.1) (by simp at h; omega)
   refine ⟨s, h1, fun {l st'} hg hs => ?_⟩
   rw [JJ] at hg
   split at hg
   ·have := h2 hg hs.behind
    rw [show i + 1 + j = i + (j + 1) by omega] at this
    exact this
   ·cases hg
end Go.Proofs.YtdlfmpmpmkffjaaGreatDoor
namespace Go.Proofs.YtdlfmpmpmkffjaaGreatDoor
open Go Go.Ae
set_option maxRecDepth 100000
variable {g h : AH} {L R : List SP}
theorem gt {D : Nat → Prop} {sz n : Nat} {v : AV} {xs : List AV} (S : Sl D h sz n v xs) : One v := by cases S <;> exact ⟨rfl, rfl⟩
theorem x8 {v : AV} (o : One v) : qu [v] = true := by simp [qu, o.2]
theorem zj {g' ha : AH} {b off n nx : Nat} {xs ys l : List AV} {L2 R2 : List SP} {K0 : Go.Ae.R} {Q : AV → AH → Prop} (H : HS g h L) (s : Sel L (qU b xs) R) (hx : (xs.drop off).take n = l) (H2 : HS g' ha L2) (s2 : Sel L2 (qU b ys) R2) (hx2 : (ys.drop off).take n = l) (hl : l.length = n) (h0 : 0 < n) (hlt : b < nx)
  (w : wp K0 Q) : wp (zx (.ptr b off) (some n) (.agg l) h ha nx K0) Q := by
 obtain ⟨e, A⟩ := H.obj s
 obtain ⟨e2, A2⟩ := H2.obj s2
 exact qJ7 hl h0 (fun i hi => by rw [A.at, ← hx, List.getElem?_take_of_lt hi, List.getElem?_drop]) (fun i hi => by rw [A2.at, ← hx2, List.getElem?_take_of_lt hi, List.getElem?_drop]) hlt w
theorem UL {u x : Bool} {r : AV} {K : AV → Go.Ae.R} {Q : AV → AH → Prop} (hr : u = true → r = .bool x) (w : wp (K (.bool (u && x))) Q) : wp (qn (.bool u) r (.bool false) K) Q := by
 cases u
 ·exact w
 ·rw [hr rfl]; exact w
end Go.Proofs.YtdlfmpmpmkffjaaGreatDoor
namespace Go.Proofs.YtdlfmpmpmkffjaaGreatDoor
open Go Go.Ae
set_option maxRecDepth 100000
variable {g h : AH} {L R : List SP}
theorem qX1 {s : List UInt8} {K : AV → Go.Ae.R} {Q : AV → AH → Prop} {t : Bool} (ht : Kw .neq s [] = some (.bool t)) (w : wp (K (.bool t)) Q) : wp (YL .neq (.str s) (.str []) K) Q := by
 show wp (ob (Kw .neq s []) K) Q
 rw [ht]; exact w
theorem JW {n : Nat} (hn : 1 ≤ n) {x : Int} : wp (callT tab qc n (.fn 82 [] []) [.int .i64 x] h) fun v h' => v = .int .i64 (jc x) ∧ h' = h := by
 (refine qr (g := W82) rfl (by omega) fun k hk => ?_; show wp (S82 (callT tab qc k) _ _) _; unfold S82; try simp only [iI, uU, Int.ofNat_eq_natCast])
 repeat' (first | with_reducible refine qY ?_ | with_reducible refine qQ ?_ | (with_reducible refine jG ?_; try dsimp only) | (with_reducible refine jD ?_; try dsimp only) | (with_reducible refine jV ?_; try dsimp only) | (with_reducible refine ql ?_; try dsimp only) | (with_reducible refine zR ?_; try dsimp only) | with_reducible refine qe ?_ | with_reducible refine qd ?_ | (with_reducible refine qW ?_; try dsimp only) | with_reducible refine qM ?_ | with_reducible refine zv ?_ | with_reducible refine zM ?_ | with_reducible refine qh (by omega) ?_ | with_reducible refine zQ (by omega) ?_ | with_reducible refine ye (by omega) ?_ | with_reducible refine yB (by omega) ?_ | with_reducible refine yj ?_ | with_reducible refine yY ?_ | with_reducible refine zO (fun hc => ?_) (fun hc => ?_) | with_reducible refine gZ (fun hc => ?_) (fun hc => ?_) | with_reducible refine yV (fun hc => ?_) (fun hc => ?_) | with_reducible refine vH (fun hc => ?_) (fun hc => ?_) | with_reducible refine vI (fun hc => ?_) (fun hc => ?_) | with_reducible refine xx (fun hc => ?_) (fun hc => ?_) | with_reducible refine yT (fun hc => ?_) (fun hc => ?_))
 all_goals refine qk ⟨?_, rfl⟩
 all_goals unfold jc
 all_goals congr 1
 all_goals (repeat' split)
 all_goals omega
theorem Yx {n : Nat} (hn : 1 ≤ n) {x : Int} : wp (callT tab qc n (.fn 105 [] []) [.int .i64 x] h) fun v h' => v = .bool (zC x) ∧ h' = h := by
 (refine qr (g := W105) rfl (by omega) fun k hk => ?_; show wp (S105 (callT tab qc k) _ _) _; unfold S105; try simp only [iI, uU, Int.ofNat_eq_natCast])
 unfold zC
 by_cases h1 : x = 14
 ·with_reducible (refine qO (by omega) ?_; refine qW ?_; (try dsimp only); refine jD ?_; (try dsimp only); refine qe ?_)
  exact qk ⟨by rw [decide_eq_true (.inl h1)], rfl⟩
 ·with_reducible (refine qK (by omega) ?_; refine qW ?_; (try dsimp only); refine ql ?_; (try dsimp only))
  refine kj ?_
  refine qd ?_
  exact qk ⟨by congr 1; exact decide_eq_decide.2 ⟨.inr, fun h => h.resolve_left h1⟩, rfl⟩
theorem qQh {n : Nat} (hn : 1 ≤ n) {x : Int} : wp (callT tab qc n (.fn 106 [] []) [.int .i64 x] h) fun v h' => v = .bool (decide (x = 12 ∨ x = 13)) ∧ h' = h := by
 (refine qr (g := W106) rfl (by omega) fun k hk => ?_; show wp (S106 (callT tab qc k) _ _) _; unfold S106; try simp only [iI, uU, Int.ofNat_eq_natCast])
 by_cases h1 : x = 12
 ·with_reducible (refine qO (by omega) ?_; refine qW ?_; (try dsimp only); refine jD ?_; (try dsimp only); refine qe ?_)
  exact qk ⟨by rw [decide_eq_true (.inl h1)], rfl⟩
 ·with_reducible (refine qK (by omega) ?_; refine qW ?_; (try dsimp only); refine ql ?_; (try dsimp only))
  refine kj ?_
  refine qd ?_
  exact qk ⟨by congr 1; exact decide_eq_decide.2 ⟨.inr, fun h => h.resolve_left h1⟩, rfl⟩
theorem Qx {D : Nat → Prop} {n : Nat} (hn : 1 ≤ n) {st : List Int} {v : AV} (S : Sl D h 1 st.length v (st.map (.int .i64))) (hl : st.length < 1000) :
  wp (callT tab qc n (.fn 74 [] []) [v] h) fun r h' => r = .int .i64 (jZ st) ∧ h' = h := by
 (refine qr (g := W74) rfl (by omega) fun k hk => ?_; show wp (S74 (callT tab qc k) _ _) _; unfold S74; try simp only [iI, uU, Int.ofNat_eq_natCast])
 refine zF S ?_
 by_cases h0 : st.length = 0
 ·obtain rfl := List.eq_nil_of_length_eq_zero h0
  with_reducible (refine qO (by omega) ?_; refine qY ?_)
  exact qk ⟨rfl, rfl⟩
 ·with_reducible (refine qK (by omega) ?_; refine qQ ?_)
  refine zF S ?_
  refine zQ (by omega) ?_
  rw [show (st.length : Int) - ((1 : Nat) : Int) = ((st.length - 1 : Nat) : Int) by omega]
  have hne : st ≠ [] := by rintro rfl; exact h0 rfl
  refine ju S (x := .int .i64 (jZ st)) ?_ (qk ⟨rfl, rfl⟩)
  unfold jZ
  rw [List.getElem?_map, ← List.getLast?_eq_getElem?, List.getLast?_eq_some_getLast hne]; rfl
theorem Yw {n : Nat} (hn : 1 ≤ n) {f : Int × Int} {x : Int} (H : HS g h R) : wp (callT tab qc n (.fn 155 [] []) [.agg [.int .i64 f.1, .int .i64 f.2], .int .i64 x] h) fun v h' => v = .bool (yG f x) ∧ HS g h' R := by
 (refine qr (g := W155) rfl (by omega) fun k hk => ?_; show wp (S155 (callT tab qc k) _ _ _) _; unfold S155; try simp only [iI, uU, Int.ofNat_eq_natCast])
 refine jJ H rfl fun b h1 H1 => ?_
 unfold yG
 by_cases c1 : f.1 ≤ x
 ·with_reducible (refine qV ?_; refine qv (by assumption) .here rfl ?_; refine zT (by omega) ?_; refine qW ?_; (try dsimp only); refine jG ?_; (try dsimp only); refine qV ?_; refine qv (by assumption) .here rfl ?_)
  refine GR ?_
  refine qe ?_
  exact qk ⟨by congr 1; exact decide_eq_decide.2 ⟨fun h => ⟨c1, h⟩, fun h => h.2⟩, H1.drop⟩
 ·with_reducible (refine qV ?_; refine qv (by assumption) .here rfl ?_; refine zS (by omega) ?_; refine qW ?_; (try dsimp only); refine jV ?_; (try dsimp only); refine qd ?_)
  exact qk ⟨by rw [decide_eq_false (fun h => c1 h.1)], H1.drop⟩
def yz (f : Int × Int) : List AV := [.int .i64 f.1, .int .i64 f.2]
theorem Uu {n : Nat} (hn : 1 ≤ n) {x : Int} (H : HS g h R) : wp (callT tab qc n (.fn 153 [] []) [.int .i64 x] h) fun v h' => v = .tup [.agg (yz (jE x).1), .agg (yz (jE x).2.1), .agg (yz (jE x).2.2)] ∧ HS g h' R := by
 (refine qr (g := W153) rfl (by omega) fun k hk => ?_; show wp (S153 (callT tab qc k) _ _) _; unfold S153; try simp only [iI, uU, Int.ofNat_eq_natCast])
 refine jJ H rfl fun b0 h1 H1 => ?_
 refine jJ H1 rfl fun b2 h2 H2 => ?_
 refine jJ H2 rfl fun b4 h3 H3 => ?_
 refine qt (l := [.int .i64 ((0 : Nat) : Int), .int .i64 ((7 : Nat) : Int)]) rfl ?_
 refine jJ H3 rfl fun b7 h4 H4 => ?_
 refine jF H4 (b := b7) .here rfl (by simp) rfl fun h5 H5 => ?_
 have H5 : HS g h5 (qU b7 (yz (0, 7)) :: qU b4 (yz (0, 0)) :: qU b2 (yz (0, 0)) :: qU b0 (yz (0, 0)) :: R) := H5
 clear H H1 H2 H3 H4
 refine zp [] (fun s h' => s = (.ptr b4 0, .ptr b2 0, .ptr b0 0, ()) ∧ HS g h' (qU b0 (yz (jE x).1) :: qU b2 (yz (jE x).2.1) :: qU b4 (yz (jE x).2.2) :: R)) ?_ ?_
 ·intro j hj
  by_cases ha : x = 1 ∨ x = 11 ∨ x = 21
  ·have e : jE x = ((0, 7), (0, 0), (0, 0)) := by unfold jE; rw [if_pos ha]
   rw [e] at hj
   rcases ha with rfl | rfl | rfl
   all_goals (first | with_reducible (refine qW ?_; (try dsimp only); refine qK (by omega) ?_; refine qQ ?_; refine qK (by omega) ?_; refine qQ ?_; refine qO (by omega) ?_; refine qY ?_) | with_reducible (refine qW ?_; (try dsimp only); refine qK (by omega) ?_; refine qQ ?_; refine qO (by omega) ?_; refine qY ?_; refine qY ?_) | with_reducible (refine qW ?_; (try dsimp only); refine qO (by omega) ?_; refine qY ?_; refine qY ?_))
   all_goals refine qo H5 (b := b7) (off := 0) .here rfl (by omega) rfl ?_
   all_goals refine jF H5 (b := b0) e_3 rfl (by simp [yz]) rfl fun h6 H6 => ?_
   all_goals exact hj _ _ ⟨rfl, H6.sub (.cons .here (.cons e_2 (.cons e_1 (.drop .refl))))⟩
  by_cases hb : x = 2 ∨ x = 10
  ·have e : jE x = ((0, 7), (0, 7), (0, 0)) := by unfold jE; rw [if_neg ha, if_pos hb]
   rw [e] at hj
   rcases hb with rfl | rfl
   all_goals (first | with_reducible (refine qW ?_; (try dsimp only); refine qK (by omega) ?_; refine qQ ?_; refine qK (by omega) ?_; refine qQ ?_; refine qK (by omega) ?_; refine qQ ?_; refine qW ?_; (try dsimp only); refine qK (by omega) ?_; refine qQ ?_; refine qO (by omega) ?_; refine qY ?_; refine qW ?_; (try dsimp only)) | with_reducible (refine qW ?_; (try dsimp only); refine qK (by omega) ?_; refine qQ ?_; refine qK (by omega) ?_; refine qQ ?_; refine qK (by omega) ?_; refine qQ ?_; refine qW ?_; (try dsimp only); refine qO (by omega) ?_; refine qY ?_; refine qY ?_; refine qW ?_; (try dsimp only)))
   all_goals refine qo H5 (b := b7) (off := 0) .here rfl (by omega) rfl ?_
   all_goals refine qo H5 (b := b7) (off := 0) .here rfl (by omega) rfl ?_
   all_goals refine jF H5 (b := b0) e_3 rfl (by simp [yz]) rfl fun h6 H6 => ?_
   all_goals refine jF H6 (b := b2) e_3 rfl (by simp [yz]) rfl fun h7 H7 => ?_
   all_goals refine zj H5 (b := b7) .here rfl H6 e_1 rfl rfl (by omega) (HS.lt H5 .here) ?_
   all_goals exact hj _ _ ⟨rfl, H7.sub (.cons e_1 (.cons .here (.cons e_1 (.drop .refl))))⟩
  by_cases hc : x = 3 ∨ x = 4 ∨ x = 5 ∨ x = 6 ∨ x = 7
  ·have e : jE x = ((0, 7), (0, 7), (0, 7)) := by unfold jE; rw [if_neg ha, if_neg hb, if_pos hc]
   rw [e] at hj
   rcases hc with rfl | rfl | rfl | rfl | rfl
   all_goals (first | with_reducible (refine qW ?_; (try dsimp only); refine qK (by omega) ?_; refine qQ ?_; refine qK (by omega) ?_; refine qQ ?_; refine qK (by omega) ?_; refine qQ ?_; refine qW ?_; (try dsimp only); refine qK (by omega) ?_; refine qQ ?_; refine qK (by omega) ?_; refine qQ ?_; refine qW ?_; (try dsimp only); refine qK (by omega) ?_; refine qQ ?_; refine qK (by omega) ?_; refine qQ ?_; refine qK (by omega) ?_; refine qQ ?_; refine qK (by omega) ?_; refine qQ ?_; refine qO (by omega) ?_; refine qY ?_; refine qW ?_; (try dsimp only)) | with_reducible (refine qW ?_; (try dsimp only); refine qK (by omega) ?_; refine qQ ?_; refine qK (by omega) ?_; refine qQ ?_; refine qK (by omega) ?_; refine qQ ?_; refine qW ?_; (try dsimp only); refine qK (by omega) ?_; refine qQ ?_; refine qK (by omega) ?_; refine qQ ?_; refine qW ?_; (try dsimp only); refine qK (by omega) ?_; refine qQ ?_; refine qK (by omega) ?_; refine qQ ?_; refine qK (by omega) ?_; refine qQ ?_; refine qO (by omega) ?_; refine qY ?_; refine qY ?_; refine qW ?_; (try dsimp only)) | with_reducible (refine qW ?_; (try dsimp only); refine qK (by omega) ?_; refine qQ ?_; refine qK (by omega) ?_; refine qQ ?_; refine qK (by omega) ?_; refine qQ ?_; refine qW ?_; (try dsimp only); refine qK (by omega) ?_; refine qQ ?_; refine qK (by omega) ?_; refine qQ ?_; refine qW ?_; (try dsimp only); refine qK (by omega) ?_; refine qQ ?_; refine qK (by omega) ?_; refine qQ ?_; refine qO (by omega) ?_; refine qY ?_; refine qY ?_; refine qW ?_; (try dsimp only)) | with_reducible (refine qW ?_; (try dsimp only); refine qK (by omega) ?_; refine qQ ?_; refine qK (by omega) ?_; refine qQ ?_; refine qK (by omega) ?_; refine qQ ?_; refine qW ?_; (try dsimp only); refine qK (by omega) ?_; refine qQ ?_; refine qK (by omega) ?_; refine qQ ?_; refine qW ?_; (try dsimp only); refine qK (by omega) ?_; refine qQ ?_; refine qO (by omega) ?_; refine qY ?_; refine qY ?_; refine qW ?_; (try dsimp only)) | with_reducible (refine qW ?_; (try dsimp only); refine qK (by omega) ?_; refine qQ ?_; refine qK (by omega) ?_; refine qQ ?_; refine qK (by omega) ?_; refine qQ ?_; refine qW ?_; (try dsimp only); refine qK (by omega) ?_; refine qQ ?_; refine qK (by omega) ?_; refine qQ ?_; refine qW ?_; (try dsimp only); refine qO (by omega) ?_; refine qY ?_; refine qY ?_; refine qW ?_; (try dsimp only)))
   all_goals refine qo H5 (b := b7) (off := 0) .here rfl (by omega) rfl ?_
   all_goals refine qo H5 (b := b7) (off := 0) .here rfl (by omega) rfl ?_
   all_goals refine qo H5 (b := b7) (off := 0) .here rfl (by omega) rfl ?_
   all_goals refine jF H5 (b := b0) e_3 rfl (by simp [yz]) rfl fun h6 H6 => ?_
   all_goals refine jF H6 (b := b2) e_3 rfl (by simp [yz]) rfl fun h7 H7 => ?_
   all_goals refine jF H7 (b := b4) e_3 rfl (by simp [yz]) rfl fun h8 H8 => ?_
   all_goals refine zj H6 (b := b7) e_1 rfl H7 e_2 rfl rfl (by omega) (HS.lt H5 .here) ?_
   all_goals refine zj H5 (b := b7) .here rfl H6 e_1 rfl rfl (by omega) (HS.lt H5 .here) ?_
   all_goals refine zj H5 (b := b7) .here rfl H6 e_1 rfl rfl (by omega) (HS.lt H5 .here) ?_
   all_goals exact hj _ _ ⟨rfl, H8.sub (.cons e_2 (.cons e_1 (.cons .here (.drop .refl))))⟩
  by_cases hd : x = 8 ∨ x = 9
  ·have e : jE x = ((0, 7), (0, 7), (0, 15)) := by unfold jE; rw [if_neg ha, if_neg hb, if_neg hc, if_pos hd]
   rw [e] at hj
   rcases hd with rfl | rfl
   all_goals (first | with_reducible (refine qW ?_; (try dsimp only); refine qK (by omega) ?_; refine qQ ?_; refine qK (by omega) ?_; refine qQ ?_; refine qK (by omega) ?_; refine qQ ?_; refine qW ?_; (try dsimp only); refine qK (by omega) ?_; refine qQ ?_; refine qK (by omega) ?_; refine qQ ?_; refine qW ?_; (try dsimp only); refine qK (by omega) ?_; refine qQ ?_; refine qK (by omega) ?_; refine qQ ?_; refine qK (by omega) ?_; refine qQ ?_; refine qK (by omega) ?_; refine qQ ?_; refine qK (by omega) ?_; refine qQ ?_; refine qW ?_; (try dsimp only); refine qK (by omega) ?_; refine qQ ?_; refine qO (by omega) ?_; refine qY ?_; refine qW ?_; (try dsimp only)) | with_reducible (refine qW ?_; (try dsimp only); refine qK (by omega) ?_; refine qQ ?_; refine qK (by omega) ?_; refine qQ ?_; refine qK (by omega) ?_; refine qQ ?_; refine qW ?_; (try dsimp only); refine qK (by omega) ?_; refine qQ ?_; refine qK (by omega) ?_; refine qQ ?_; refine qW ?_; (try dsimp only); refine qK (by omega) ?_; refine qQ ?_; refine qK (by omega) ?_; refine qQ ?_; refine qK (by omega) ?_; refine qQ ?_; refine qK (by omega) ?_; refine qQ ?_; refine qK (by omega) ?_; refine qQ ?_; refine qW ?_; (try dsimp only); refine qO (by omega) ?_; refine qY ?_; refine qY ?_; refine qW ?_; (try dsimp only)))
   all_goals refine qo H5 (b := b7) (off := 0) .here rfl (by omega) rfl ?_
   all_goals refine qo H5 (b := b7) (off := 0) .here rfl (by omega) rfl ?_
   all_goals refine qt (l := yz (0, 15)) rfl ?_
   all_goals refine jF H5 (b := b0) e_3 rfl (by simp [yz]) rfl fun h6 H6 => ?_
   all_goals refine jF H6 (b := b2) e_3 rfl (by simp [yz]) rfl fun h7 H7 => ?_
   all_goals refine jF H7 (b := b4) e_3 rfl (by simp [yz]) rfl fun h8 H8 => ?_
   all_goals refine zj H5 (b := b7) .here rfl H6 e_1 rfl rfl (by omega) (HS.lt H5 .here) ?_
   all_goals exact hj _ _ ⟨rfl, H8.sub (.cons e_2 (.cons e_1 (.cons .here (.drop .refl))))⟩
  by_cases he : x = 12
  ·have e : jE x = ((0, 0), (0, 0), (0, 40)) := by unfold jE; rw [if_neg ha, if_neg hb, if_neg hc, if_neg hd, if_pos he]
   rw [e] at hj
   subst he
   with_reducible (refine qW ?_; (try dsimp only); refine qK (by omega) ?_; refine qQ ?_; refine qK (by omega) ?_; refine qQ ?_; refine qK (by omega) ?_; refine qQ ?_; refine qW ?_; (try dsimp only); refine qK (by omega) ?_; refine qQ ?_; refine qK (by omega) ?_; refine qQ ?_; refine qW ?_; (try dsimp only); refine qK (by omega) ?_; refine qQ ?_; refine qK (by omega) ?_; refine qQ ?_; refine qK (by omega) ?_; refine qQ ?_; refine qK (by omega) ?_; refine qQ ?_; refine qK (by omega) ?_; refine qQ ?_; refine qW ?_; (try dsimp only); refine qK (by omega) ?_; refine qQ ?_; refine qK (by omega) ?_; refine qQ ?_; refine qO (by omega) ?_; refine qY ?_; refine qt rfl ?_)
   refine jF H5 (b := b4) e_1 rfl (by simp [yz]) rfl fun h6 H6 => ?_
   exact hj _ _ ⟨rfl, H6.sub (.cons e_3 (.cons e_2 (.cons .here (.drop .refl))))⟩
  by_cases hf : x = 13
  ·have e : jE x = ((0, 7), (0, 0), (0, 40)) := by unfold jE; rw [if_neg ha, if_neg hb, if_neg hc, if_neg hd, if_neg he, if_pos hf]
   rw [e] at hj
   subst hf
   with_reducible (refine qW ?_; (try dsimp only); refine qK (by omega) ?_; refine qQ ?_; refine qK (by omega) ?_; refine qQ ?_; refine qK (by omega) ?_; refine qQ ?_; refine qW ?_; (try dsimp only); refine qK (by omega) ?_; refine qQ ?_; refine qK (by omega) ?_; refine qQ ?_; refine qW ?_; (try dsimp only); refine qK (by omega) ?_; refine qQ ?_; refine qK (by omega) ?_; refine qQ ?_; refine qK (by omega) ?_; refine qQ ?_; refine qK (by omega) ?_; refine qQ ?_; refine qK (by omega) ?_; refine qQ ?_; refine qW ?_; (try dsimp only); refine qK (by omega) ?_; refine qQ ?_; refine qK (by omega) ?_; refine qQ ?_; refine qK (by omega) ?_; refine qQ ?_; refine qO (by omega) ?_; refine qY ?_)
   refine qo H5 (b := b7) (off := 0) .here rfl (by omega) rfl ?_
   refine qt (l := yz (0, 40)) rfl ?_
   refine jF H5 (b := b0) e_3 rfl (by simp [yz]) rfl fun h6 H6 => ?_
   refine jF H6 (b := b4) e_2 rfl (by simp [yz]) rfl fun h7 H7 => ?_
   exact hj _ _ ⟨rfl, H7.sub (.cons e_1 (.cons e_2 (.cons .here (.drop .refl))))⟩
  by_cases hg : x = 23
  ·have e : jE x = ((1, 12), (0, 7), (0, 6)) := by unfold jE; rw [if_neg ha, if_neg hb, if_neg hc, if_neg hd, if_neg he, if_neg hf, if_pos hg]
   rw [e] at hj
   subst hg
   with_reducible (refine qW ?_; (try dsimp only); refine qK (by omega) ?_; refine qQ ?_; refine qK (by omega) ?_; refine qQ ?_; refine qK (by omega) ?_; refine qQ ?_; refine qW ?_; (try dsimp only); refine qK (by omega) ?_; refine qQ ?_; refine qK (by omega) ?_; refine qQ ?_; refine qW ?_; (try dsimp only); refine qK (by omega) ?_; refine qQ ?_; refine qK (by omega) ?_; refine qQ ?_; refine qK (by omega) ?_; refine qQ ?_; refine qK (by omega) ?_; refine qQ ?_; refine qK (by omega) ?_; refine qQ ?_; refine qW ?_; (try dsimp only); refine qK (by omega) ?_; refine qQ ?_; refine qK (by omega) ?_; refine qQ ?_; refine qK (by omega) ?_; refine qQ ?_; refine qK (by omega) ?_; refine qQ ?_; refine qO (by omega) ?_; refine qY ?_; refine qt rfl ?_; refine qt rfl ?_; refine qt rfl ?_)
   refine jF H5 (b := b0) e_3 rfl (by simp [yz]) rfl fun h6 H6 => ?_
   refine jF H6 (b := b2) e_3 rfl (by simp [yz]) rfl fun h7 H7 => ?_
   refine jF H7 (b := b4) e_3 rfl (by simp [yz]) rfl fun h8 H8 => ?_
   exact hj _ _ ⟨rfl, H8.sub (.cons e_2 (.cons e_1 (.cons .here (.drop .refl))))⟩
  ·have e : jE x = ((0, 0), (0, 0), (0, 0)) := by unfold jE; rw [if_neg ha, if_neg hb, if_neg hc, if_neg hd, if_neg he, if_neg hf, if_neg hg]
   rw [e] at hj ⊢
   with_reducible (refine qW ?_; (try dsimp only); refine qK (by omega) ?_; refine qQ ?_; refine qK (by omega) ?_; refine qQ ?_; refine qK (by omega) ?_; refine qQ ?_; refine qW ?_; (try dsimp only); refine qK (by omega) ?_; refine qQ ?_; refine qK (by omega) ?_; refine qQ ?_; refine qW ?_; (try dsimp only); refine qK (by omega) ?_; refine qQ ?_; refine qK (by omega) ?_; refine qQ ?_; refine qK (by omega) ?_; refine qQ ?_; refine qK (by omega) ?_; refine qQ ?_; refine qK (by omega) ?_; refine qQ ?_; refine qW ?_; (try dsimp only); refine qK (by omega) ?_; refine qQ ?_; refine qK (by omega) ?_; refine qQ ?_; refine qK (by omega) ?_; refine qQ ?_; refine qK (by omega) ?_; refine qQ ?_; refine qK (by omega) ?_; refine qQ ?_)
   exact hj _ _ ⟨rfl, H5.sub (.cons e_3 (.cons e_2 (.cons e_1 (.drop .refl))))⟩
 ·rintro s h6 ⟨rfl, H6⟩
  dsimp only
  generalize jE x = F at *
  refine qW ?_
  refine qo H6 (b := b0) (off := 0) .here rfl (by omega) rfl ?_
  refine qo H6 (b := b2) (off := 0) e_1 rfl (by omega) rfl ?_
  refine qo H6 (b := b4) (off := 0) e_2 rfl (by omega) rfl ?_
  refine jF H6 (b := b0) .here rfl (by simp [yz]) rfl fun h7 H7 => ?_
  refine jF H7 (b := b2) e_1 rfl (by simp [yz]) rfl fun h8 H8 => ?_
  refine jF H8 (b := b4) e_2 rfl (by simp [yz]) rfl fun h9 H9 => ?_
  refine zj H7 (b := b4) e_2 rfl H8 e_2 rfl rfl (by omega) (HS.lt H6 e_2) ?_
  refine zj H6 (b := b4) e_2 rfl H7 e_2 rfl rfl (by omega) (HS.lt H6 e_2) ?_
  refine zj H6 (b := b2) e_1 rfl H7 e_1 rfl rfl (by omega) (HS.lt H6 e_1) ?_
  refine qM ?_
  refine qo H9 (b := b0) (off := 0) e_2 rfl (by omega) rfl ?_
  refine qo H9 (b := b2) (off := 0) e_1 rfl (by omega) rfl ?_
  refine qo H9 (b := b4) (off := 0) .here rfl (by omega) rfl ?_
  exact qk ⟨rfl, H9.drop.drop.drop⟩
def nameL : List (List UInt8) := [[], [115, 101, 116], [109, 111, 118, 101], [97, 100, 100], [115, 117, 98], [109, 117, 108], [108, 101, 115, 115], [101, 113, 117, 97, 108], [108, 111, 97, 100], [115, 116, 111, 114, 101], [97, 108, 108, 111, 99], [102, 114, 101, 101], [106, 117, 109, 112], [122, 101, 114, 111], [111, 112, 101, 110], [99, 108, 111, 115, 101], [117, 110, 100, 111], [101, 105, 116, 104, 101, 114], [111, 114], [100, 111, 110, 101], [114, 101, 116, 114, 121], [101, 109, 105, 116], [102, 97, 105, 108], [99, 97, 108, 108]]
theorem qXa {p : Nat} (hp : p < 24) : ∃ s, nameL[p]? = some s ∧ Kw .neq s [] = some (.bool (decide (1 ≤ (p : Int) ∧ (p : Int) ≤ 23))) := by
 match p, hp with
 | 0, _ => exact ⟨_, rfl, rfl⟩
 | 1, _ => exact ⟨_, rfl, rfl⟩
 | 2, _ => exact ⟨_, rfl, rfl⟩
 | 3, _ => exact ⟨_, rfl, rfl⟩
 | 4, _ => exact ⟨_, rfl, rfl⟩
 | 5, _ => exact ⟨_, rfl, rfl⟩
 | 6, _ => exact ⟨_, rfl, rfl⟩
 | 7, _ => exact ⟨_, rfl, rfl⟩
 | 8, _ => exact ⟨_, rfl, rfl⟩
 | 9, _ => exact ⟨_, rfl, rfl⟩
 | 10, _ => exact ⟨_, rfl, rfl⟩
 | 11, _ => exact ⟨_, rfl, rfl⟩
 | 12, _ => exact ⟨_, rfl, rfl⟩
 | 13, _ => exact ⟨_, rfl, rfl⟩
 | 14, _ => exact ⟨_, rfl, rfl⟩
 | 15, _ => exact ⟨_, rfl, rfl⟩
 | 16, _ => exact ⟨_, rfl, rfl⟩
 | 17, _ => exact ⟨_, rfl, rfl⟩
 | 18, _ => exact ⟨_, rfl, rfl⟩
 | 19, _ => exact ⟨_, rfl, rfl⟩
 | 20, _ => exact ⟨_, rfl, rfl⟩
 | 21, _ => exact ⟨_, rfl, rfl⟩
 | 22, _ => exact ⟨_, rfl, rfl⟩
 | 23, _ => exact ⟨_, rfl, rfl⟩
 | k + 24, h => exact absurd h (by omega)
theorem Z3 {n : Nat} (hn : 2 ≤ n) {x : Int} (H : HS g h R) : wp (callT tab qc n (.fn 154 [] []) [.int .i64 x] h) fun v h' => ∃ s, v = .str s ∧ Kw .neq s [] = some (.bool (decide (1 ≤ x ∧ x ≤ 23))) ∧ HS g h' R := by
 (refine qr (g := W154) rfl (by omega) fun k hk => ?_; show wp (S154 (callT tab qc k) _ _) _; unfold S154; try simp only [iI, uU, Int.ofNat_eq_natCast])
 refine qx (Q' := fun v h' => ∃ e, HS g h' (qb e 1 24 v (nameL.map .str) :: R)) ?_ ?_
 ·(refine qr (g := W220) rfl (by omega) fun k hk => ?_; show wp (S220 (callT tab qc k) _) _; unfold S220; try simp only [iI, uU, Int.ofNat_eq_natCast])
  exact jK (n := 24) (l := nameL.map .str) (sz := 1) H rfl rfl rfl rfl fun v h1 H1 => qk ⟨_, H1⟩
 rintro v h1 ⟨e, H1⟩
 refine qx (Q' := fun w h' => ∃ s, w = .str s ∧ Kw .neq s [] = some (.bool (decide (1 ≤ x ∧ x ≤ 23))) ∧ h' = h1) ?_ ?_
 ·(refine qr (g := W219) rfl (by omega) fun k hk => ?_; show wp (S219 (callT tab qc k) _ _ _) _; unfold S219; try simp only [iI, uU, Int.ofNat_eq_natCast])
  by_cases c0 : x < 0
  ·with_reducible (refine xj (by omega) ?_; refine qW ?_; (try dsimp only); refine jD ?_; (try dsimp only); refine qe ?_; refine qY ?_)
   exact qk ⟨[], rfl, by rw [decide_eq_false (by omega)]; rfl, rfl⟩
  ·refine ze (by omega) ?_
   with_reducible (refine qW ?_; (try dsimp only); refine ql ?_; (try dsimp only); refine jb (by assumption) .here ?_)
   by_cases c1 : x < 24
   ·obtain ⟨p, rfl⟩ : ∃ p : Nat, x = (p : Int) := ⟨x.toNat, by omega⟩
    obtain ⟨s, hs, ht⟩ := qXa (show p < 24 by omega)
    with_reducible (refine zS (by omega) ?_; refine qd ?_; refine qQ ?_)
    refine ju (H1.sl .here) (x := .str s) (by rw [List.getElem?_map, hs]; rfl) (qk ⟨s, rfl, ht, rfl⟩)
   ·with_reducible (refine zT (by omega) ?_; refine qd ?_; refine qY ?_)
    exact qk ⟨[], rfl, by rw [decide_eq_false (by omega)]; rfl, rfl⟩
 ·rintro _ h2 ⟨s, rfl, ht, rfl⟩
  exact qk ⟨s, rfl, ht, H1.drop⟩
theorem qXS {n : Nat} (hn : 3 ≤ n) {x : qI} (H : HS g h R) : wp (callT tab qc n (.fn 103 [] []) [.agg (jj x)] h) fun v h' => v = .bool (xm x) ∧ HS g h' R := by
 (refine qr (g := W103) rfl (by omega) fun k hk => ?_; show wp (S103 (callT tab qc k) _ _) _; unfold S103; try simp only [iI, uU, Int.ofNat_eq_natCast])
 obtain ⟨op, a, b, c, q⟩ := x
 refine jJ H rfl fun b0 h1 H1 => ?_
 have H1 : HS g h1 (qU b0 [.int .i64 op, .int .i64 a, .int .i64 b, .int .i64 c, .int .u64 q] :: R) := H1
 with_reducible (refine qV ?_; refine qv (by assumption) .here rfl ?_)
 refine qx (Uu (by omega) H1) ?_
 rintro _ h2 ⟨rfl, H2⟩
 have hM : xm (op, a, b, c, q) = (decide (1 ≤ op ∧ op ≤ 23) && yG (jE op).1 a && yG (jE op).2.1 b && yG (jE op).2.2 c && decide (q = 0 ∨ op = 1)) := rfl
 rw [hM]
 generalize jE op = F at *
 obtain ⟨f1, f2, f3⟩ := F
 dsimp only
 with_reducible (refine qH rfl ?_; refine qH rfl ?_; refine qH rfl ?_)
 refine jJ H2 rfl fun b1 h3 H3 => ?_
 refine jJ H3 rfl fun b2 h4 H4 => ?_
 refine jJ H4 rfl fun b3 h5 H5 => ?_
 refine jF H5 (b := b1) e_2 rfl (by simp) rfl fun h6 H6 => ?_
 refine jF H6 (b := b2) e_2 rfl (by simp) rfl fun h7 H7 => ?_
 refine jF H7 (b := b3) e_2 rfl (by simp) rfl fun h8 H8 => ?_
 have H8 : HS g h8 (qU b3 (yz f3) :: qU b2 (yz f2) :: qU b1 (yz f1) :: qU b0 [.int .i64 op, .int .i64 a, .int .i64 b, .int .i64 c, .int .u64 q] :: R) := H8
 clear H H1 H2 H3 H4 H5 H6 H7
 with_reducible (refine qV ?_; refine qv (by assumption) e_3 rfl ?_)
 refine qx (Z3 (by omega) H8) ?_
 rintro _ h9 ⟨s, rfl, ht, H⟩
 refine qX1 ht ?_
 clear H8
 by_cases c1 : 1 ≤ op ∧ op ≤ 23
 rotate_left
 ·rw [decide_eq_false c1]
  with_reducible (refine qW ?_; (try dsimp only); refine jV ?_; (try dsimp only); refine qd ?_; refine qW ?_; (try dsimp only); refine jV ?_; (try dsimp only); refine qd ?_; refine qW ?_; (try dsimp only); refine jV ?_; (try dsimp only); refine qd ?_; refine qW ?_; (try dsimp only); refine jV ?_; (try dsimp only); refine qW ?_; (try dsimp only); refine zR ?_; (try dsimp only); refine qW ?_; (try dsimp only); refine jV ?_; (try dsimp only); refine qd ?_)
  exact qk ⟨rfl, H.drop.drop.drop.drop⟩
 rw [decide_eq_true c1]
 with_reducible (refine qW ?_; (try dsimp only); refine jG ?_; (try dsimp only))
 refine qo H (b := b1) (off := 0) e_2 rfl (by omega) rfl ?_
 with_reducible (refine qV ?_; refine qv (by assumption) e_3 rfl ?_)
 refine qx (Yw (by omega) H) ?_
 rintro _ h10 ⟨rfl, H10⟩
 cases hf1 : yG f1 a
 ·with_reducible (refine qe ?_; refine qW ?_; (try dsimp only); refine jV ?_; (try dsimp only); refine qd ?_; refine qW ?_; (try dsimp only); refine jV ?_; (try dsimp only); refine qd ?_; refine qW ?_; (try dsimp only); refine jV ?_; (try dsimp only); refine qW ?_; (try dsimp only); refine zR ?_; (try dsimp only); refine qW ?_; (try dsimp only); refine jV ?_; (try dsimp only); refine qd ?_)
  exact qk ⟨rfl, H10.drop.drop.drop.drop⟩
 with_reducible (refine qe ?_; refine qW ?_; (try dsimp only); refine jG ?_; (try dsimp only))
 refine qo H10 (b := b2) (off := 0) e_1 rfl (by omega) rfl ?_
 with_reducible (refine qV ?_; refine qv (by assumption) e_3 rfl ?_)
 refine qx (Yw (by omega) H10) ?_
 rintro _ h11 ⟨rfl, H11⟩
 cases hf2 : yG f2 b
 ·with_reducible (refine qe ?_; refine qW ?_; (try dsimp only); refine jV ?_; (try dsimp only); refine qd ?_; refine qW ?_; (try dsimp only); refine jV ?_; (try dsimp only); refine qW ?_; (try dsimp only); refine zR ?_; (try dsimp only); refine qW ?_; (try dsimp only); refine jV ?_; (try dsimp only); refine qd ?_)
  exact qk ⟨rfl, H11.drop.drop.drop.drop⟩
 with_reducible (refine qe ?_; refine qW ?_; (try dsimp only); refine jG ?_; (try dsimp only))
 refine qo H11 (b := b3) (off := 0) .here rfl (by omega) rfl ?_
 with_reducible (refine qV ?_; refine qv (by assumption) e_3 rfl ?_)
 refine qx (Yw (by omega) H11) ?_
 rintro _ h12 ⟨rfl, H12⟩
 cases hf3 : yG f3 c
 ·with_reducible (refine qe ?_; refine qW ?_; (try dsimp only); refine jV ?_; (try dsimp only); refine qW ?_; (try dsimp only); refine zR ?_; (try dsimp only); refine qW ?_; (try dsimp only); refine jV ?_; (try dsimp only); refine qd ?_)
  exact qk ⟨rfl, H12.drop.drop.drop.drop⟩
 by_cases c2 : q = 0
 ·with_reducible (refine qe ?_; refine qW ?_; (try dsimp only); refine jG ?_; (try dsimp only); refine qV ?_; refine qv (by assumption) e_3 rfl ?_; refine qO (by omega) ?_; refine qW ?_; (try dsimp only); refine jD ?_; (try dsimp only); refine qW ?_; (try dsimp only); refine jG ?_; (try dsimp only); refine qe ?_; refine qe ?_)
  exact qk ⟨by rw [decide_eq_true (.inl c2)]; rfl, H12.drop.drop.drop.drop⟩
 by_cases c3 : op = 1
 ·with_reducible (refine qe ?_; refine qW ?_; (try dsimp only); refine jG ?_; (try dsimp only); refine qV ?_; refine qv (by assumption) e_3 rfl ?_; refine qK (by omega) ?_; refine qW ?_; (try dsimp only); refine ql ?_; (try dsimp only); refine qV ?_; refine qv (by assumption) e_3 rfl ?_; refine qO (by omega) ?_; refine qW ?_; (try dsimp only); refine jG ?_; (try dsimp only); refine qd ?_; refine qe ?_)
  exact qk ⟨by rw [decide_eq_true (.inr c3)]; rfl, H12.drop.drop.drop.drop⟩
 ·with_reducible (refine qe ?_; refine qW ?_; (try dsimp only); refine jG ?_; (try dsimp only); refine qV ?_; refine qv (by assumption) e_3 rfl ?_; refine qK (by omega) ?_; refine qW ?_; (try dsimp only); refine ql ?_; (try dsimp only); refine qV ?_; refine qv (by assumption) e_3 rfl ?_; refine qK (by omega) ?_; refine qW ?_; (try dsimp only); refine jG ?_; (try dsimp only); refine qd ?_; refine qe ?_)
  exact qk ⟨by rw [decide_eq_false (fun h => h.elim c2 c3)]; rfl, H12.drop.drop.drop.drop⟩
end Go.Proofs.YtdlfmpmpmkffjaaGreatDoor
namespace Go.Proofs.YtdlfmpmpmkffjaaGreatDoor
open Go Go.Ae
set_option maxRecDepth 100000
variable {g h : AH} {L R : List SP}
theorem qXO {l : List qI} {i : Nat} (hi : i < l.length) : qA l (i : Int) = l[i] := by
 unfold qA
 rw [show ((i : Int)).toNat = i by omega, List.getElem?_eq_getElem hi]; rfl
theorem OO {n : Nat} (hn : 2 ≤ n) {l : List qI} {st : List Int} {sv tv : AV} (H : HS g h R) (S : Rd g R 5 l.length sv (l.flatMap jj)) (T : Rd g R 1 st.length tv (st.map (.int .i64))) (hs : StOk l.length st) (hl : st.length < 1000) :
  wp (callT tab qc n (.fn 104 [] []) [tv, .agg [sv]] h) fun v h' => v = .int .i64 (opM l st) ∧ HS g h' R := by
 (refine qr (g := W104) rfl (by omega) fun k hk => ?_; show wp (S104 (callT tab qc k) _ _ _) _; unfold S104; try simp only [iI, uU, Int.ofNat_eq_natCast])
 refine jJ H (x8 (gt (S.sl H))) fun b h1 H1 => ?_
 refine zF (T.sl H1.drop) ?_
 unfold opM
 by_cases h0 : st = []
 ·subst h0
  rw [if_pos rfl]
  skip
  exact qk ⟨rfl, H1.drop⟩
 ·have hl0 : st.length ≠ 0 := fun h => h0 (List.eq_nil_of_length_eq_zero h)
  rw [if_neg h0]
  with_reducible (refine qK (by omega) ?_; refine qQ ?_; refine qW ?_; (try dsimp only); refine qV ?_; refine qv (by assumption) .here rfl ?_)
  refine qx (Qx (by omega) (T.sl H1.drop) hl) ?_
  rintro _ h1 ⟨rfl, rfl⟩
  have hi := hs.inmost h0
  generalize jZ st = p at *
  obtain ⟨p, rfl⟩ : ∃ q : Nat, p = (q : Int) := ⟨p.toNat, by omega⟩
  have hp : p < l.length := by omega
  refine XQ (x := .int .i64 l[p].1) (S.sl H1.drop) (by omega) hp (by rw [JX (sz := 5) jj (fun _ => rfl) _ _ _ (by omega), List.getElem?_eq_getElem hp]; rfl) ?_
  with_reducible (refine gW (by assumption) .here rfl (by assumption) .here rfl (HS.lt (by assumption) .here) ?_)
  exact qk ⟨by rw [qXO hp], H1.drop⟩
theorem Mi {n : Nat} (hn : 4 ≤ n) {l : List qI} {st : List Int} {sv tv : AV} {x : qI} (H : HS g h R) (S : Rd g R 5 l.length sv (l.flatMap jj)) (T : Rd g R 1 st.length tv (st.map (.int .i64))) (hs : StOk l.length st) (hl : st.length < 1000) :
  wp (callT tab qc n (.fn 72 [] []) [.agg [sv], tv, .agg (jj x)] h) fun v h' => v = .int .i64 (jH l st x) ∧ HS g h' R := by
 (refine qr (g := W72) rfl (by omega) fun k hk => ?_; show wp (S72 (callT tab qc k) _ _ _ _) _; unfold S72; try simp only [iI, uU, Int.ofNat_eq_natCast])
 refine jJ H (x8 (gt (S.sl H))) fun b0 h1 H1 => ?_
 refine jJ H1 rfl fun b2 h2 H2 => ?_
 refine qo H2 (b := b2) (off := 0) .here rfl (by omega) rfl ?_
 refine qx (qXS (by omega) H2) ?_
 rintro _ h3 ⟨rfl, H3⟩
 clear H H1 H2
 obtain ⟨op, a, b, c, q⟩ := x
 have hW : jH l st (op, a, b, c, q) = if xm (op, a, b, c, q) = false then 8 else if 0 < jc op ∧ opM l st ≠ jc op then 12 else if op = 16 ∧ opM l st ≠ 14 then 12 else if zC op = true ∧ 5 ≤ st.length then 9 else 0 := rfl
 rw [hW]
 have H3 : HS g h3 (qU b2 [.int .i64 op, .int .i64 a, .int .i64 b, .int .i64 c, .int .u64 q] :: qU b0 [sv] :: R) := H3
 cases xm (op, a, b, c, q)
 ·refine zM ?_; refine qY ?_
  exact qk ⟨rfl, H3.drop.drop⟩
 rw [if_neg (by simp)]
 (first | with_reducible refine qY ?_ | with_reducible refine qQ ?_ | (with_reducible refine jG ?_; try dsimp only) | (with_reducible refine jD ?_; try dsimp only) | (with_reducible refine jV ?_; try dsimp only) | (with_reducible refine ql ?_; try dsimp only) | (with_reducible refine zR ?_; try dsimp only) | with_reducible refine qe ?_ | with_reducible refine qd ?_ | (with_reducible refine qW ?_; try dsimp only) | with_reducible refine qM ?_ | with_reducible refine zv ?_ | with_reducible refine zM ?_ | with_reducible refine qh (by omega) ?_ | with_reducible refine zQ (by omega) ?_ | with_reducible refine ye (by omega) ?_ | with_reducible refine yB (by omega) ?_ | with_reducible refine yj ?_ | with_reducible refine yY ?_)
 (first | with_reducible refine qY ?_ | with_reducible refine qQ ?_ | (with_reducible refine jG ?_; try dsimp only) | (with_reducible refine jD ?_; try dsimp only) | (with_reducible refine jV ?_; try dsimp only) | (with_reducible refine ql ?_; try dsimp only) | (with_reducible refine zR ?_; try dsimp only) | with_reducible refine qe ?_ | with_reducible refine qd ?_ | (with_reducible refine qW ?_; try dsimp only) | with_reducible refine qM ?_ | with_reducible refine zv ?_ | with_reducible refine zM ?_ | with_reducible refine qh (by omega) ?_ | with_reducible refine zQ (by omega) ?_ | with_reducible refine ye (by omega) ?_ | with_reducible refine yB (by omega) ?_ | with_reducible refine yj ?_ | with_reducible refine yY ?_)
 refine J8 (fun s h' => s = (.bool (decide (0 < jc op ∧ opM l st ≠ jc op)), .ptr b2 0, .ptr b0 0, tv, ()) ∧ HS g h' (qU b2 [.int .i64 op, .int .i64 a, .int .i64 b, .int .i64 c, .int .u64 q] :: qU b0 [sv] :: R)) ?_ ?_
 ·intro j hj
  with_reducible (refine qV ?_; refine qv (by assumption) .here rfl ?_)
  refine qx (JW (by omega)) ?_
  rintro _ h3 ⟨rfl, rfl⟩
  by_cases h1 : 0 < jc op
  ·with_reducible (refine yZ (by omega) ?_; refine jG ?_; (try dsimp only))
   refine qo H3 (b := b0) (off := 0) e_1 rfl (by omega) rfl ?_
   refine qx (OO (by omega) H3 S.more.more T.more.more hs hl) ?_
   rintro _ h4 ⟨rfl, H4⟩
   with_reducible (refine qV ?_; refine qv (by assumption) .here rfl ?_)
   refine qx (JW (by omega)) ?_
   rintro _ h4 ⟨rfl, rfl⟩
   refine XW ?_
   with_reducible (refine qe ?_; refine gW (by assumption) .here rfl (by assumption) .here rfl (HS.lt (by assumption) .here) ?_)
   refine hj _ _ ⟨?_, H4⟩
   congr 2
   exact decide_eq_decide.2 ⟨fun h => ⟨h1, h⟩, fun h => h.2⟩
  ·with_reducible (refine xh (by omega) ?_; refine jV ?_; (try dsimp only); refine qd ?_)
   refine hj _ _ ⟨?_, H3⟩
   rw [decide_eq_false (fun h => h1 h.1)]
 clear H3
 rintro s h4 ⟨rfl, H⟩
 dsimp only
 by_cases hA : 0 < jc op ∧ opM l st ≠ jc op
 ·rw [decide_eq_true hA, if_pos hA]
  refine qY ?_
  exact qk ⟨rfl, H.drop.drop⟩
 rw [decide_eq_false hA, if_neg hA]
 with_reducible (refine qQ ?_; refine qV ?_; refine qv (by assumption) .here rfl ?_)
 refine kj ?_
 refine J8 (fun s h' => ∃ (r : AV) (u x : Bool), s = (r, .bool u, .ptr b2 0, tv, ()) ∧ (u = true → r = .bool x) ∧ ((u && x) = decide (op = 16 ∧ opM l st ≠ 14)) ∧ HS g h' (qU b2 [.int .i64 op, .int .i64 a, .int .i64 b, .int .i64 c, .int .u64 q] :: qU b0 [sv] :: R)) ?_ ?_
 ·intro j hj
  by_cases h1 : op = 16
  ·rw [decide_eq_true (show op = ((16 : Nat) : Int) from h1)]
   with_reducible (refine jG ?_; (try dsimp only))
   refine qo H (b := b0) (off := 0) e_1 rfl (by omega) rfl ?_
   refine qx (OO (by omega) H S.more.more T.more.more hs hl) ?_
   rintro _ h4 ⟨rfl, H4⟩
   refine XW (hj _ _ ⟨_, true, decide (¬ opM l st = 14), rfl, fun _ => rfl, ?_, H4⟩)
   rw [Bool.true_and]
   exact decide_eq_decide.2 ⟨fun h => ⟨h1, h⟩, fun h => h.2⟩
  ·rw [decide_eq_false (show ¬ op = ((16 : Nat) : Int) from h1)]
   with_reducible (refine jV ?_; (try dsimp only))
   refine hj _ _ ⟨_, false, false, rfl, (fun h => by cases h), ?_, H⟩
   rw [decide_eq_false (fun h => h1 h.1)]; rfl
 clear H
 rintro s h4 ⟨r, u, y, rfl, hr, hu, H⟩
 dsimp only
 refine UL hr ?_
 rw [hu]
 by_cases hB : op = 16 ∧ opM l st ≠ 14
 ·rw [decide_eq_true hB, if_pos hB]
  refine qY ?_
  exact qk ⟨rfl, H.drop.drop⟩
 rw [decide_eq_false hB, if_neg hB]
 with_reducible (refine qQ ?_; refine qV ?_; refine qv (by assumption) .here rfl ?_)
 refine qx (Yx (by omega)) ?_
 rintro _ h4 ⟨rfl, rfl⟩
 cases hb : zC op
 ·rw [if_neg (by simp)]
  with_reducible (refine qW ?_; (try dsimp only); refine jV ?_; (try dsimp only); refine qd ?_; refine qQ ?_)
  exact qk ⟨rfl, H.drop.drop⟩
 ·with_reducible (refine qW ?_; (try dsimp only); refine jG ?_; (try dsimp only))
  refine zF (T.sl H.drop.drop) ?_
  by_cases h5 : 5 ≤ st.length
  ·rw [if_pos ⟨rfl, h5⟩]
   with_reducible (refine zT (by omega) ?_; refine qe ?_; refine qY ?_)
   exact qk ⟨rfl, H.drop.drop⟩
  ·rw [if_neg (fun h => h5 h.2)]
   with_reducible (refine zS (by omega) ?_; refine qe ?_; refine qQ ?_)
   exact qk ⟨rfl, H.drop.drop⟩
def StC (v : AV) (st : List Int) : SP := qb 3 1 st.length v (st.map (.int .i64))
theorem Xf {n : Nat} (hn : 2 ≤ n) {st : List Int} {tv : AV} {i op : Int} (H : HS g h (StC tv st :: R)) (hs : 0 < jc op → st ≠ []) (hl : st.length < 1000) :
  wp (callT tab qc n (.fn 73 [] []) [tv, .int .i64 i, .int .i64 op] h) fun v h' => HS g h' (StC v (jg st i op) :: R) := by
 (refine qr (g := W73) rfl (by omega) fun k hk => ?_; show wp (S73 (callT tab qc k) _ _ _ _) _; unfold S73; try simp only [iI, uU, Int.ofNat_eq_natCast])
 refine zp [] (fun s h' => ∃ v, s = (.int .i64 op, .int .i64 i, v, ()) ∧ HS g h' (StC v (if 0 < jc op then st.dropLast else st) :: R)) ?_ ?_
 ·intro j hj
  refine qx (JW (by omega)) ?_
  rintro _ h ⟨rfl, rfl⟩
  by_cases h1 : 0 < jc op
  ·have hne := hs h1
   have hl0 : st.length ≠ 0 := fun h => hne (List.eq_nil_of_length_eq_zero h)
   rw [if_pos h1] at hj
   refine yZ h1 (qY ?_)
   refine zF (H.sl (e := 3) .here) ?_
   refine zQ (by omega) ?_
   rw [show (st.length : Int) - ((1 : Nat) : Int) = ((st.length - 1 : Nat) : Int) by omega]
   refine kP H (by omega) (by omega) fun v H1 => ?_
   refine hj _ _ ⟨v, rfl, ?_⟩
   unfold StC
   rw [List.length_dropLast, List.dropLast_eq_take, List.map_take]
   rw [Nat.mul_one] at H1
   exact H1
  ·rw [if_neg h1] at hj
   refine xh h1 (qQ ?_)
   exact hj _ _ ⟨tv, rfl, H⟩
 clear H
 rintro s h1 ⟨v, rfl, H⟩
 unfold jg
 have hl2 : (if 0 < jc op then st.dropLast else st).length < 1000 := by
  split
  ·rw [List.length_dropLast]; omega
  ·exact hl
 generalize (if 0 < jc op then st.dropLast else st) = st at *
 dsimp only
 with_reducible (refine qW ?_; (try dsimp only))
 refine qx (Yx (by omega)) ?_
 rintro _ h1 ⟨rfl, rfl⟩
 have push : ∀ {K : AV → AH → Go.Ae.R} {Q : AV → AH → Prop}, (∀ v' h', HS g h' (StC v' (st ++ [i]) :: R) → wp (K v' h') Q) →
   wp (qp h1 3 [.int .i64 ((0 : Nat) : Int)] 1 [(0, 1, .int .i64 i)] fun v15 h16 => q8 h16 3 1 v v15 K) Q := by
  intro K Q w
  refine jK (n := 1) (l := [.int .i64 i]) (sz := 1) H rfl rfl rfl rfl fun v5 h5 H5 => ?_
  refine zl (H5.sel e_1) (H5.sl .here) (by omega) (by omega) rfl fun v6 h6 H6 => w v6 h6 ?_
  unfold StC
  rw [List.map_append, List.length_append]
  exact H6.sub (.cons .here (.drop .refl))
 cases hb : zC op
 ·by_cases h18 : op = 18
  ·rw [if_pos (.inr h18)]
   with_reducible (refine qW ?_; (try dsimp only); refine ql ?_; (try dsimp only); refine qO (by omega) ?_; refine qd ?_; refine qY ?_)
   exact push fun v' h' H' => qM (qk H')
  ·rw [if_neg (by simp; exact h18)]
   with_reducible (refine qW ?_; (try dsimp only); refine ql ?_; (try dsimp only); refine qK (by omega) ?_; refine qd ?_; refine qQ ?_; refine qM ?_)
   exact qk H
 ·rw [if_pos (.inl rfl)]
  with_reducible (refine qW ?_; (try dsimp only); refine jD ?_; (try dsimp only); refine qe ?_; refine qY ?_)
  exact push fun v' h' H' => qM (qk H')
theorem w6 {l : List qI} {i : Nat} {st : List Int} (hi : i < l.length) : goM l (l.drop i) i st = if jH l st l[i] = 0 then goM l (l.drop (i + 1)) (i + 1) (jg st i l[i].1) else .inl ((i : Int), jH l st l[i]) := by
 rw [List.drop_eq_getElem_cons hi]; rfl
theorem Gz {l : List qI} {i : Nat} {st : List Int} (hi : i < l.length) : xP (l.drop i) i st = jZ st :: xP (l.drop (i + 1)) (i + 1) (jg st i l[i].1) := by
 rw [List.drop_eq_getElem_cons hi]; rfl
theorem wC {l : List qI} {a : List Int} {i : Nat} (hi : i < l.length) : wc l a (l.drop i) i = if gH l a i l[i] then ((i : Int), 2) else wc l a (l.drop (i + 1)) (i + 1) := by
 rw [List.drop_eq_getElem_cons hi]; rfl
theorem kd {l : List qI} {i : Nat} (hi : i < l.length) : ((l.flatMap jj).drop (i * 5)).take 5 = jj l[i] := Qh (sz := 5) (fun _ => rfl) (List.getElem?_eq_getElem hi)
theorem Je {n : Nat} (hn : 3 ≤ n) {l : List qI} {st' : List Int} {sv : AV} (H : HS g h R) (S : Rd g R 5 l.length sv (l.flatMap jj)) (hg : goM l l 0 [] = .inr st') (hl : l.length ≤ 100) :
  wp (callT tab qc n (.fn 76 [] []) [.agg [sv]] h) fun v h' => HS g h' (qb 3 1 l.length v ((xP l 0 []).map (.int .i64)) :: R) := by
 (refine qr (g := W76) rfl (by omega) fun k hk => ?_; show wp (S76 (callT tab qc k) _ _) _; unfold S76; try simp only [iI, uU, Int.ofNat_eq_natCast])
 refine jJ H (x8 (gt (S.sl H))) fun b0 h1 H1 => ?_
 with_reducible (refine qV ?_; refine qv (by assumption) .here rfl ?_)
 refine zF (S.sl H1.drop) ?_
 refine Uf (n := l.length) H1 (by omega) fun ov h2 H2 => ?_
 with_reducible (refine qV ?_; refine qv (by assumption) e_1 rfl ?_)
 refine zF (S.sl H2.drop.drop) ?_
 refine zW (fun m s h' => ∃ (i : Nat) (st A : List Int) (tv : AV), s = (.int .i64 (i : Int), .int .i64 (l.length : Int), sv, tv, ov, ()) ∧ i ≤ l.length ∧ m = l.length - i ∧ StOk i st ∧ st.length ≤ i ∧ goM l (l.drop i) i st = .inr st' ∧ A.length = i ∧ xP l 0 [] = A ++ xP (l.drop i) i st ∧
  HS g h' (qb 3 1 l.length ov ((A ++ List.replicate (l.length - i) 0).map (.int .i64)) :: StC tv st :: R))
  ?_ (m := l.length) (by show _ < 1000000000; omega) ⟨0, [], [], .nils, rfl, by omega, by omega, StOk.nil, by simp, hg, rfl, rfl, by
   rw [List.nil_append, List.map_replicate]
   exact (H2.nils (e := 3) (sz := 1)).sub (.cons e_1 (.cons .here (.drop .refl)))⟩
 clear H H1 H2
 rintro m ih s h3 hih ⟨i, st, A, tv, rfl, hi, rfl, hs, hsl, hgo, hA, hR, H⟩
 dsimp only
 by_cases hlt : i < l.length
 ·rw [w6 hlt] at hgo
  rw [Gz hlt] at hR
  have hrow := kd hlt
  generalize l[i] = x at *
  by_cases hw : jH l st x = 0
  rotate_left
  ·rw [if_neg hw] at hgo; cases hgo
  rw [if_pos hw] at hgo
  have ho := zY hw
  with_reducible (refine xj (by omega) ?_; refine qY ?_)
  refine xY (S.sl H.drop.drop) hlt (by omega) hrow ?_
  refine jJ H rfl fun b h4 H4 => ?_
  refine jF H4 (b := b) .here rfl (by simp [jj]) rfl fun h5 H5 => ?_
  have H5 : HS g h5 (qU b (jj x) :: qb 3 1 l.length ov ((A ++ List.replicate (l.length - i) 0).map (.int .i64)) :: StC tv st :: R) := H5
  unfold jj at H5
  refine qx (Qx (by omega) (H5.sl (e := 3) e_2) (by omega)) ?_
  rintro _ h5 ⟨rfl, rfl⟩
  refine gS (H5.sel e_1) (by omega) ⟨rfl, rfl⟩ fun h6 H6 => ?_
  have hset : ((A ++ List.replicate (l.length - i) 0).map (AV.int .i64)).set i (.int .i64 (jZ st)) = ((A ++ [jZ st]) ++ List.replicate (l.length - (i + 1)) 0).map (.int .i64) := by
   rw [← List.map_set]
   congr 1
   rw [List.set_append_right _ _ (by omega), hA, Nat.sub_self, show l.length - i = (l.length - (i + 1)) + 1 by omega, List.replicate_succ]
   simp
  rw [hset] at H6
  with_reducible (refine qV ?_; refine qv (by assumption) e_1 rfl ?_)
  refine qx (Xf (by omega) (H6.sub (L' := StC tv st :: qU b [.int .i64 x.1, .int .i64 x.2.1, .int .i64 x.2.2.1, .int .i64 x.2.2.2.1, .int .u64 x.2.2.2.2] :: qb 3 1 l.length ov (((A ++ [jZ st]) ++ List.replicate (l.length - (i + 1)) 0).map (.int .i64)) :: R) (.cons e_2 (.cons e_1 (.cons .here .refl)))) (fun h => ho.2.1 (.inl h)) (by omega)) ?_
  intro tv2 h8 H8
  with_reducible (refine qh (by omega) ?_)
  have hbl := YE st i x.1
  exact hih (l.length - (i + 1)) _ _ (by omega) ⟨i + 1, jg st i x.1, A ++ [jZ st], tv2, rfl, by omega, rfl, hs.behind, by omega, hgo, by simp [hA], by rw [hR]; simp, H8.sub (.cons e_2 (.cons .here (.drop .refl)))⟩
 ·obtain rfl : i = l.length := by omega
  with_reducible (refine ze (by omega) ?_; refine qQ ?_; refine qM ?_)
  refine qk ?_
  rw [hR]
  rw [Nat.sub_self, List.replicate_zero, List.append_nil] at H
  rw [List.drop_length]
  show HS g h3 (qb _ 1 l.length ov ((A ++ []).map _) :: R)
  rw [List.append_nil]
  exact H.sub (.cons .here (.drop .refl))
theorem qQa {x : qI} (h : xm x = true) (hj : x.1 = 12 ∨ x.1 = 13) : 0 ≤ x.2.2.2.1 ∧ x.2.2.2.1 ≤ 40 := by
 have e : (jE x.1).2.2 = (0, 40) := by
  rcases hj with e | e <;> rw [e] <;> rfl
 unfold xm at h
 rw [e] at h
 simp only [Bool.and_eq_true, yG, decide_eq_true_eq] at h
 exact h.1.2
theorem Mf {n : Nat} (hn : 2 ≤ n) {l : List qI} {a : List Int} {sv av : AV} (H : HS g h R) (S : Rd g R 5 l.length sv (l.flatMap jj)) (T : Rd g R 1 a.length av (a.map (.int .i64))) (ha : a.length = l.length) (hm : ∀ x ∈ l, xm x = true) (hl : l.length ≤ 100) :
  wp (callT tab qc n (.fn 75 [] []) [.agg [sv], av] h) fun v h' => v = .tup [.int .i64 (wc l a l 0).1, .int .i64 (wc l a l 0).2] ∧ HS g h' R := by
 (refine qr (g := W75) rfl (by omega) fun k hk => ?_; show wp (S75 (callT tab qc k) _ _ _) _; unfold S75; try simp only [iI, uU, Int.ofNat_eq_natCast])
 refine jJ H (x8 (gt (S.sl H))) fun b0 h1 H1 => ?_
 have hLV := (S.sl H).lenV
 clear H
 with_reducible (refine qV ?_; refine qv (by assumption) .here rfl ?_; refine xF (by assumption) ?_)
 refine zW (fun m s h' => ∃ i : Nat, s = (.int .i64 (i : Int), .int .i64 (l.length : Int), sv, .ptr b0 0, av, ()) ∧ i ≤ l.length ∧ m = l.length - i ∧ wc l a l 0 = wc l a (l.drop i) i ∧ HS g h' (qU b0 [sv] :: R))
  ?_ (m := l.length) (by show _ < 1000000000; omega) ⟨0, rfl, by omega, by omega, rfl, H1⟩
 clear H1
 rintro m ih s h2 hih ⟨i, rfl, hi, rfl, hJ, H⟩
 dsimp only
 by_cases hlt : i < l.length
 rotate_left
 ·obtain rfl : i = l.length := by omega
  rw [List.drop_length] at hJ
  rw [hJ]
  with_reducible (refine ze (by omega) ?_; refine qQ ?_; refine qM ?_)
  exact qk ⟨rfl, H.drop⟩
 rw [wC hlt] at hJ
 have hrow := kd hlt
 have hmx := hm l[i] (List.getElem_mem hlt)
 generalize l[i] = x at *
 obtain ⟨op, xa, xb, c, q⟩ := x
 unfold jj at hrow
 refine xj (by omega) (qY ?_)
 refine zp [] (fun s h' => s = (.int .i64 (i : Int), .int .i64 (l.length : Int), sv, .ptr b0 0, av, ()) ∧ ¬ gH l a i (op, xa, xb, c, q) ∧ HS g h' (qU b0 [sv] :: R)) ?_ ?_
 rotate_left
 ·rintro s h3 ⟨rfl, hno, H3⟩
  rw [if_neg hno] at hJ
  with_reducible (refine qh (by omega) ?_)
  exact hih (l.length - (i + 1)) _ _ (by omega) ⟨i + 1, rfl, by omega, rfl, hJ, H3⟩
 intro j hj
 clear hih
 refine xY (S.sl H.drop) hlt (by omega) hrow ?_
 refine jJ H rfl fun b h4 H4 => ?_
 refine jF H4 (b := b) .here rfl (by simp) rfl fun h5 H5 => ?_
 have H5 : HS g h5 (qU b [.int .i64 op, .int .i64 xa, .int .i64 xb, .int .i64 c, .int .u64 q] :: qU b0 [sv] :: R) := H5
 clear H H4
 with_reducible (refine qV ?_; refine qv (by assumption) .here rfl ?_)
 refine qx (qQh (by omega)) ?_
 rintro _ h5 ⟨rfl, rfl⟩
 by_cases hjm : op = 12 ∨ op = 13
 rotate_left
 ·rw [decide_eq_false hjm]
  refine zM ?_; refine qY ?_
  exact hj _ _ ⟨rfl, fun h => hjm h.1, H5.drop⟩
 rw [decide_eq_true hjm]
 have hc := qQa hmx hjm
 dsimp only at hc
 obtain ⟨p, rfl⟩ : ∃ p : Nat, c = (p : Int) := ⟨c.toNat, by omega⟩
 have hcell : ∀ k : Nat, k < l.length → (a.map (AV.int .i64))[k]? = some (.int .i64 (qa a (k : Int))) := by
  intro k hk
  unfold qa
  rw [List.getElem?_map, show ((k : Int)).toNat = k by omega, List.getElem?_eq_getElem (by omega)]; rfl
 have Ta : Sl (fun _ => True) h5 1 a.length av (a.map (.int .i64)) := T.sl H5.drop.drop
 by_cases c1 : l.length < p
 ·rw [if_pos ⟨hjm, .inl (by dsimp only; omega)⟩] at hJ
  rw [hJ]
  with_reducible (refine zv ?_; refine qQ ?_; refine qV ?_; refine qv (by assumption) .here rfl ?_; refine qV ?_; refine qv (by assumption) e_1 rfl ?_; refine xF (by assumption) ?_; refine yZ (by omega) ?_; refine qW ?_; (try dsimp only); refine jD ?_; (try dsimp only); refine qW ?_; (try dsimp only); refine zR ?_; (try dsimp only); refine qW ?_; (try dsimp only); refine jD ?_; (try dsimp only); refine qe ?_; refine qW ?_; (try dsimp only); refine jD ?_; (try dsimp only); refine qW ?_; (try dsimp only); refine zR ?_; (try dsimp only); refine qW ?_; (try dsimp only); refine jD ?_; (try dsimp only); refine qe ?_; refine qY ?_; refine qM ?_)
  exact qk ⟨rfl, H5.drop.drop⟩
 by_cases c2 : p = l.length
 ·subst c2
  with_reducible (refine zv ?_; refine qQ ?_; refine qV ?_; refine qv (by assumption) .here rfl ?_; refine qV ?_; refine qv (by assumption) e_1 rfl ?_; refine xF (by assumption) ?_; refine xh (by omega) ?_; refine qW ?_; (try dsimp only); refine ql ?_; (try dsimp only); refine qV ?_; refine qv (by assumption) .here rfl ?_; refine qV ?_; refine qv (by assumption) e_1 rfl ?_; refine xF (by assumption) ?_; refine qO (by omega) ?_; refine qW ?_; (try dsimp only); refine jG ?_; (try dsimp only))
  refine ju Ta (hcell i hlt) ?_
  by_cases c3 : qa a i = -1
  ·refine zw (by rw [c3]; decide) ?_
   with_reducible (refine qW ?_; (try dsimp only); refine ql ?_; (try dsimp only); refine qe ?_; refine qd ?_; refine qW ?_; (try dsimp only); refine ql ?_; (try dsimp only); refine qV ?_; refine qv (by assumption) .here rfl ?_; refine qV ?_; refine qv (by assumption) e_1 rfl ?_; refine xF (by assumption) ?_; refine ze (by omega) ?_; refine qW ?_; (try dsimp only); refine jV ?_; (try dsimp only); refine qW ?_; (try dsimp only); refine ql ?_; (try dsimp only); refine qd ?_; refine qd ?_; refine qQ ?_)
   exact hj _ _ ⟨rfl, fun h => by
    rcases h.2 with h | h | h
    ·dsimp only at h; omega
    ·exact h.2 c3
    ·dsimp only at h; omega, H5.drop⟩
  ·refine zA (fun h => c3 (by rw [h]; decide)) ?_
   rw [if_pos ⟨hjm, .inr (.inl ⟨rfl, c3⟩)⟩] at hJ
   rw [hJ]
   with_reducible (refine qW ?_; (try dsimp only); refine ql ?_; (try dsimp only); refine qe ?_; refine qd ?_; refine qW ?_; (try dsimp only); refine jD ?_; (try dsimp only); refine qW ?_; (try dsimp only); refine zR ?_; (try dsimp only); refine qW ?_; (try dsimp only); refine jD ?_; (try dsimp only); refine qe ?_; refine qY ?_; refine qM ?_)
   exact qk ⟨rfl, H5.drop.drop⟩
 ·with_reducible (refine zv ?_; refine qQ ?_; refine qV ?_; refine qv (by assumption) .here rfl ?_; refine qV ?_; refine qv (by assumption) e_1 rfl ?_; refine xF (by assumption) ?_; refine xh (by omega) ?_; refine qW ?_; (try dsimp only); refine ql ?_; (try dsimp only); refine qV ?_; refine qv (by assumption) .here rfl ?_; refine qV ?_; refine qv (by assumption) e_1 rfl ?_; refine xF (by assumption) ?_; refine qK (by omega) ?_; refine qW ?_; (try dsimp only); refine jV ?_; (try dsimp only); refine qW ?_; (try dsimp only); refine ql ?_; (try dsimp only); refine qd ?_; refine qd ?_; refine qW ?_; (try dsimp only); refine ql ?_; (try dsimp only); refine qV ?_; refine qv (by assumption) .here rfl ?_; refine qV ?_; refine qv (by assumption) e_1 rfl ?_; refine xF (by assumption) ?_; refine xj (by omega) ?_; refine qW ?_; (try dsimp only); refine jG ?_; (try dsimp only); refine qV ?_; refine qv (by assumption) .here rfl ?_)
  refine ju Ta (hcell p (by omega)) ?_
  refine ju Ta (hcell i hlt) ?_
  by_cases c3 : qa a p = qa a i
  ·refine zw c3 ?_
   with_reducible (refine qW ?_; (try dsimp only); refine ql ?_; (try dsimp only); refine qe ?_; refine qd ?_; refine qQ ?_)
   exact hj _ _ ⟨rfl, fun h => by
    rcases h.2 with h | h | h
    ·dsimp only at h; omega
    ·have := h.1; dsimp only at this; omega
    ·exact h.2 c3, H5.drop⟩
  ·refine zA c3 ?_
   rw [if_pos ⟨hjm, .inr (.inr ⟨by dsimp only; omega, c3⟩)⟩] at hJ
   rw [hJ]
   with_reducible (refine qW ?_; (try dsimp only); refine ql ?_; (try dsimp only); refine qe ?_; refine qd ?_; refine qY ?_; refine qM ?_)
   exact qk ⟨rfl, H5.drop.drop⟩
theorem qZn {l : List qI} : ∀ {r : List qI} {i : Nat} {st st' : List Int}, goM l r i st = .inr st' → ∀ x ∈ r, xm x = true := by
 intro r
 induction r with
 | nil => intro i st st' _ x hx; cases hx
 | cons y r ih =>
  intro i st st' h x hx
  rw [JJ] at h
  split at h
  ·rename_i hw
   rcases List.mem_cons.1 hx with rfl | hx
   ·exact (zY hw).1
   ·exact ih h x hx
  ·cases h
theorem qJt {l : List qI} : ∀ {r : List qI} {i : Nat} {st : List Int} {q : Int × Int}, goM l r i st = .inl q → q.2 ≠ 0 := by
 intro r
 induction r with
 | nil => intro i st q h; cases h
 | cons y r ih =>
  intro i st q h
  rw [JJ] at h
  split at h
  ·exact ih h
  ·rename_i hw
   cases h
   exact hw
theorem X8 {l : List qI} (h : (xG l).2 = 0) : goM l l 0 [] = .inr [] := by
 unfold xG at h
 split at h
 ·cases h
 ·cases hg : goM l l 0 [] with
  | inl q =>
   rw [hg] at h
   exact absurd h (qJt hg)
  | inr st =>
   rw [hg] at h
   dsimp only at h
   split at h
   ·rename_i h0; rw [h0]
   ·cases h
theorem kT {n : Nat} (hn : 6 ≤ n) {l : List qI} {sv : AV} (H : HS g h R) (S : Rd g R 5 l.length sv (l.flatMap jj)) (hl : l.length ≤ 100) :
  wp (callT tab qc n (.fn 37 [] []) [.agg [sv]] h) fun v h' => v = .tup [.int .i64 (xG l).1, .int .i64 (xG l).2] ∧ HS g h' R := by
 (refine qr (g := W37) rfl (by omega) fun k hk => ?_; show wp (S37 (callT tab qc k) _ _) _; unfold S37; try simp only [iI, uU, Int.ofNat_eq_natCast])
 refine jJ H (x8 (gt (S.sl H))) fun b0 h1 H1 => ?_
 have hLV := (S.sl H).lenV
 clear H
 have hC : xG l = if l.length = 0 ∨ 40 < l.length then (0, 4) else match goM l l 0 [] with
  | .inl r => r
  | .inr st => if st = [] then wc l (xP l 0 []) l 0 else (jZ st, 12) := rfl
 generalize xG l = C at *
 with_reducible (refine qV ?_; refine qv (by assumption) .here rfl ?_; refine xF (by assumption) ?_)
 by_cases c0 : l.length = 0
 ·rw [if_pos (.inl c0)] at hC
  subst hC
  with_reducible (refine qO (by omega) ?_; refine qW ?_; (try dsimp only); refine jD ?_; (try dsimp only); refine qe ?_; refine qY ?_)
  exact qk ⟨rfl, H1.drop⟩
 by_cases c1 : 40 < l.length
 ·rw [if_pos (.inr c1)] at hC
  subst hC
  with_reducible (refine qK (by omega) ?_; refine qW ?_; (try dsimp only); refine ql ?_; (try dsimp only); refine qV ?_; refine qv (by assumption) .here rfl ?_; refine xF (by assumption) ?_; refine yZ (by omega) ?_; refine qd ?_; refine qY ?_)
  exact qk ⟨rfl, H1.drop⟩
 rw [if_neg (by omega)] at hC
 with_reducible (refine qK (by omega) ?_; refine qW ?_; (try dsimp only); refine ql ?_; (try dsimp only); refine qV ?_; refine qv (by assumption) .here rfl ?_; refine xF (by assumption) ?_; refine xh (by omega) ?_; refine qd ?_; refine qQ ?_; refine qV ?_; refine qv (by assumption) .here rfl ?_; refine xF (by assumption) ?_)
 generalize hG : goM l l 0 [] = G at hC
 refine zW (fun m s h' => ∃ (i : Nat) (st : List Int) (tv : AV), s = (.int .i64 (i : Int), .int .i64 (l.length : Int), sv, tv, .ptr b0 0, ()) ∧ i ≤ l.length ∧ m = l.length - i ∧ StOk i st ∧ st.length ≤ i ∧ goM l (l.drop i) i st = G ∧ HS g h' (StC tv st :: qU b0 [sv] :: R))
  ?_ (m := l.length) (by show _ < 1000000000; omega) ⟨0, [], .nils, rfl, by omega, by omega, StOk.nil, by simp, hG, H1.nils (e := 3) (sz := 1)⟩
 clear H1
 rintro m ih s h2 hih ⟨i, st, tv, rfl, hi, rfl, hs, hsl, hgo, H⟩
 dsimp only
 by_cases hlt : i < l.length
 ·rw [w6 hlt] at hgo
  have hrow := kd hlt
  generalize l[i] = x at *
  with_reducible (refine xj (by omega) ?_; refine qY ?_)
  refine xY (S.sl H.drop.drop) hlt (by omega) hrow ?_
  refine jJ H rfl fun b h4 H4 => ?_
  refine jF H4 (b := b) .here rfl (by simp [jj]) rfl fun h5 H5 => ?_
  have H5 : HS g h5 (qU b (jj x) :: StC tv st :: qU b0 [sv] :: R) := H5
  clear H H4
  refine qo H5 (b := b0) (off := 0) e_2 rfl (by omega) rfl ?_
  refine qo H5 (b := b) (off := 0) .here rfl (by omega) rfl ?_
  refine qx (Mi (by omega) H5 S.more.more.more (Rd.own (e := 3) e_1) (fun y hy => by have := hs y hy; omega) (by omega)) ?_
  rintro _ h6 ⟨rfl, H6⟩
  by_cases hw : jH l st x = 0
  ·rw [if_pos hw] at hgo
   have ho := zY hw
   refine zw hw ?_
   unfold jj at H6
   with_reducible (refine qQ ?_; refine qV ?_; refine qv (by assumption) .here rfl ?_)
   refine qx (Xf (by omega) (H6.sel e_1) (fun h => ho.2.1 (.inl h)) (by omega)) ?_
   intro tv2 h8 H8
   have hbl := YE st i x.1
   with_reducible (refine qh (by omega) ?_)
   exact hih (l.length - (i + 1)) _ _ (by omega) ⟨i + 1, jg st i x.1, tv2, rfl, by omega, rfl, hs.behind, by omega, hgo, H8.sub (.cons .here (.drop .refl))⟩
  ·rw [if_neg hw] at hgo
   subst hgo
   rw [hC]
   refine zA hw ?_
   refine qY ?_; refine qM ?_
   exact qk ⟨rfl, H6.drop.drop.drop⟩
 ·obtain rfl : i = l.length := by omega
  rw [List.drop_length] at hgo
  have hgo : (Sum.inr st : (Int × Int) ⊕ List Int) = G := hgo
  subst hgo
  dsimp only at hC
  refine ze (by omega) (qQ ?_)
  refine zF (H.sl (e := 3) .here) ?_
  by_cases h0 : st = []
  ·subst h0
   rw [if_pos rfl] at hC
   rw [show ([] : List Int).length = 0 from rfl]
   with_reducible (refine xh (by omega) ?_; refine qQ ?_; refine qW ?_; (try dsimp only))
   refine qo H (b := b0) (off := 0) e_1 rfl (by omega) rfl ?_
   refine qo H (b := b0) (off := 0) e_1 rfl (by omega) rfl ?_
   refine qx (Je (by omega) H S.more.more hG hl) ?_
   intro av h3 H3
   refine qx (Mf (a := xP l 0 []) (by omega) H3 S.more.more.more (by rw [Xl]; exact Rd.own .here) Xl (qZn hG) hl) ?_
   rintro _ h4 ⟨rfl, H4⟩
   rw [← hC]
   with_reducible (refine qH rfl ?_; refine qH rfl ?_)
   refine zj H (b := b0) e_1 rfl H3 e_2 rfl rfl (by omega) (HS.lt H e_1) ?_
   refine qM ?_
   exact qk ⟨rfl, H4.drop.drop.drop⟩
  ·rw [if_neg h0] at hC
   subst hC
   have hl0 : st.length ≠ 0 := fun h => h0 (List.eq_nil_of_length_eq_zero h)
   with_reducible (refine yZ (by omega) ?_; refine qY ?_)
   refine qx (Qx (by omega) (H.sl (e := 3) .here) (by omega)) ?_
   rintro _ h3 ⟨rfl, rfl⟩
   refine qM ?_
   exact qk ⟨rfl, H.drop.drop⟩
theorem qKd {l : List qI} {st' : List Int} (hg : goM l l 0 [] = .inr st') {i : Nat} (hi : i < l.length) (ho : 0 < jc l[i].1 ∨ l[i].1 = 16) : ∃ p : Nat, (xP l 0 [])[i]? = some (p : Int) ∧ p < l.length := by
 obtain ⟨s, h1, h2⟩ := Zk (r := l) (i := 0) (j := i) (st := []) hi
 obtain ⟨h3, h4⟩ := h2 hg StOk.nil
 have hw := h4 l[i] (List.getElem?_eq_getElem hi)
 have hne := (zY hw).2.1 ho
 have hin := h3.inmost hne
 refine ⟨(jZ s).toNat, ?_, by omega⟩
 rw [h1]
 congr 1
 omega
end Go.Proofs.YtdlfmpmpmkffjaaGreatDoor
namespace Go.Proofs.YtdlfmpmpmkffjaaGreatDoor
open Go Go.Ae
set_option maxRecDepth 100000
variable {g h : AH} {L R : List SP}
theorem Sel.app {A A' : List SP} {P : SP} (s : Sel A P A') (R : List SP) : Sel (A ++ R) P (A' ++ R) := by
 induction s with
 | here => exact .here
 | there s ih => exact .there ih
theorem HS.allSel {A A' : List SP} {P : SP} (s : Sel A P A') (H : HS g h (.all A :: R)) : HS g h (P :: .all A' :: R) := by
 have H1 := (H.allE).sel (Sel.app s R)
 have H2 := HS.allI (HS.back (A := A') H1)
 exact H2.sub (.cons e_1 (.refl))
theorem HS.allUn {A A' : List SP} {P : SP} (s : Sel A P A') (H : HS g h (P :: .all A' :: R)) : HS g h (.all A :: R) := by
 have H1 : HS g h (.all A' :: P :: R) := H.sub (.cons e_1 (.refl))
 have H2 := (H1.allE).sel (Sel.skip A' .here)
 exact HS.allI (HS.unsel (Sel.app s R) H2)
def RlC (p : AV × AV) (x : LvM) : SP := .all [qb 67 2 x.1.length p.1 (x.1.flatMap zE), qb 3 1 x.2.length p.2 (x.2.map (.int .i64))]
theorem RlC.E {p : AV × AV} {x : LvM} (H : HS g h (RlC p x :: R)) : HS g h (qb 67 2 x.1.length p.1 (x.1.flatMap zE) :: qb 3 1 x.2.length p.2 (x.2.map (.int .i64)) :: R) := H.allE
theorem RlC.I {p : AV × AV} {x : LvM} (H : HS g h (qb 67 2 x.1.length p.1 (x.1.flatMap zE) :: qb 3 1 x.2.length p.2 (x.2.map (.int .i64)) :: R)) : HS g h (RlC p x :: R) := H.allI
def ya (ps : List (AV × AV)) : List AV := ps.reverse.flatMap fun p => [p.1, p.2]
theorem JU (p : AV × AV) (ps : List (AV × AV)) : ya (p :: ps) = ya ps ++ [p.1, p.2] := by unfold ya; rw [List.reverse_cons, List.flatMap_append]; rfl
def RgC (q most : Nat) (lv : List LvM) : SP := .ex fun v => .ex fun ps : List (AV × AV) => .all [.pur (ps.length = lv.length), qU q [.int .i64 (most : Int), v], qb 63 2 lv.length v (ya ps), .all (List.zipWith RlC ps lv)]
theorem RgC.E {q most : Nat} {lv : List LvM} (H : HS g h (RgC q most lv :: R)) : ∃ v ps, ps.length = lv.length ∧ HS g h (qU q [.int .i64 (most : Int), v] :: qb 63 2 lv.length v (ya ps) :: .all (List.zipWith RlC ps lv) :: R) := by
 obtain ⟨v, H⟩ := H.exE
 obtain ⟨ps, H⟩ := H.exE
 obtain ⟨e, H⟩ := HS.purE (H.allE)
 exact ⟨v, ps, e, H⟩
theorem RgC.I {q most : Nat} {lv : List LvM} {v : AV} {ps : List (AV × AV)} (e : ps.length = lv.length) (H : HS g h (qU q [.int .i64 (most : Int), v] :: qb 63 2 lv.length v (ya ps) :: .all (List.zipWith RlC ps lv) :: R)) : HS g h (RgC q most lv :: R) :=
 HS.exI v (HS.exI ps (HS.allI (HS.purI e H)))
theorem RgC.E1 {q most : Nat} {x : LvM} {r : List LvM} (H : HS g h (RgC q most (x :: r) :: R)) : ∃ (v : AV) (p : AV × AV) (ps : List (AV × AV)), ps.length = r.length ∧ HS g h (qU q [.int .i64 (most : Int), v] :: qb 63 2 (ps.length + 1) v (ya ps ++ [p.1, p.2]) ::
  qb 67 2 x.1.length p.1 (x.1.flatMap zE) :: qb 3 1 x.2.length p.2 (x.2.map (.int .i64)) :: .all (List.zipWith RlC ps r) :: R) := by
 obtain ⟨v, ps, e, H⟩ := RgC.E H
 cases ps with
 | nil => simp at e
 | cons p ps =>
  have e' : ps.length = r.length := by simpa using e
  refine ⟨v, p, ps, e', ?_⟩
  rw [JU] at H
  have H1 : HS g h (.all (RlC p x :: List.zipWith RlC ps r) :: qU q [.int .i64 (most : Int), v] :: qb 63 2 (r.length + 1) v (ya ps ++ [p.1, p.2]) :: R) := H.sub (.cons e_2 .refl)
  have H2 := RlC.E (HS.allSel .here H1)
  rw [e']
  exact H2.sub (.cons e_3 (.cons e_3 (.refl)))
theorem RgC.I1 {q most : Nat} {x : LvM} {r : List LvM} {v : AV} {p : AV × AV} {ps : List (AV × AV)} (e : ps.length = r.length) (H : HS g h (qU q [.int .i64 (most : Int), v] :: qb 63 2 (ps.length + 1) v (ya ps ++ [p.1, p.2]) ::
  qb 67 2 x.1.length p.1 (x.1.flatMap zE) :: qb 3 1 x.2.length p.2 (x.2.map (.int .i64)) :: .all (List.zipWith RlC ps r) :: R)) : HS g h (RgC q most (x :: r) :: R) := by
 refine RgC.I (v := v) (ps := p :: ps) (by simp [e]) ?_
 rw [JU]
 have H1 := RlC.I (p := p) (x := x) (R := .all (List.zipWith RlC ps r) :: qU q [.int .i64 (most : Int), v] :: qb 63 2 (ps.length + 1) v (ya ps ++ [p.1, p.2]) :: R) (H.sub (.cons e_2 (.cons e_2 (.cons e_2 (.refl)))))
 have H2 := HS.allUn (A := RlC p x :: List.zipWith RlC ps r) .here H1
 show HS g h (_ :: qb 63 2 (r.length + 1) v _ :: .all (RlC p x :: List.zipWith RlC ps r) :: R)
 rw [← e]
 exact H2.sub (.cons e_1 (.cons e_1 (.cons .here .refl)))
end Go.Proofs.YtdlfmpmpmkffjaaGreatDoor
namespace Go.Proofs.YtdlfmpmpmkffjaaGreatDoor
open Go Go.Ae
set_option maxRecDepth 100000
variable {g h : AH} {L R : List SP}
def frS (lv : List LvM) : Nat := (lv.map fun x => x.2.length).sum
theorem gM (x : LvM) (r : List LvM) : frS (x :: r) = x.2.length + frS r := by simp [frS]
theorem qJh {x y : LvM} {r : List LvM} : frS (xL (x :: y :: r)).2 = frS (x :: y :: r) := by
 unfold frS xL
 simp
 omega
theorem Vg (lv : List LvM) : (yo lv).length = frS lv := by
 unfold yo frS
 rw [List.length_flatMap, List.map_reverse, rsum]
def RvC (o : Nat) (M : VM) : SP := .ex fun kv => .ex fun q => .all [qU o [.int .i64 (M.sz : Int), kv, .ptr q 0, .int .i64 M.need], qb 67 2 M.K.length kv (M.K.flatMap zE), RgC q M.most M.lv]
theorem RvC.E {o : Nat} {M : VM} (H : HS g h (RvC o M :: R)) : ∃ kv q, HS g h (qU o [.int .i64 (M.sz : Int), kv, .ptr q 0, .int .i64 M.need] :: qb 67 2 M.K.length kv (M.K.flatMap zE) :: RgC q M.most M.lv :: R) := by
 obtain ⟨kv, H⟩ := H.exE
 obtain ⟨q, H⟩ := H.exE
 exact ⟨kv, q, H.allE⟩
theorem RvC.I {o : Nat} {M : VM} {kv : AV} {q : Nat} (H : HS g h (qU o [.int .i64 (M.sz : Int), kv, .ptr q 0, .int .i64 M.need] :: qb 67 2 M.K.length kv (M.K.flatMap zE) :: RgC q M.most M.lv :: R)) : HS g h (RvC o M :: R) :=
 HS.exI kv (HS.exI q (HS.allI H))
end Go.Proofs.YtdlfmpmpmkffjaaGreatDoor
