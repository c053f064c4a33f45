/- Lemmas for 'quietus/quietuslaw22.ModelTells': What a transaction knows and writes, as plain data: cells, levels, views; Write sets: by the program; Levels of cells and frees: by the program; Views: by the ... No condition. -/
import Derived.Test.YtdlfmpmpmkffjaaGreatDoorModelTellsAe7
import Derived.Test.YtdlfmpmpmkffjaaGreatDoorModelTellsT
import Derived.KernelRfl
namespace Go.Proofs.YtdlfmpmpmkffjaaGreatDoor
open Go Go.Ae
abbrev Cl : Type := Int × Int
def jJ (c : Int × Int) : List AV := [.int .i64 c.1, .int .u64 c.2]
def g9 (p : Int) : List Cl → Option Nat
 | [] => none
 | c :: l => if c.1 = p then some 0 else (g9 p l).map (· + 1)
def zR (p : Int) : List Cl → Option Int
 | [] => none
 | c :: l => if c.1 = p then some c.2 else zR p l
def xF (p v : Int) : List Cl → List Cl
 | [] => [(p, v)]
 | c :: l => if c.1 = p then (p, v) :: l else c :: xF p v l
def xx (l cs : List Cl) : List Cl := cs.foldl (fun l c => xF c.1 c.2 l) l
theorem gX {p : Int} {l : List Cl} : g9 p l = none ↔ zR p l = none := by
 induction l with
 | nil => simp [g9, zR]
 | cons c l ih =>
  unfold g9 zR
  split
  ·simp
  ·simp [ih]
theorem gJ {p : Int} : ∀ {l : List Cl} {i : Nat}, g9 p l = some i → i < l.length ∧ (∃ x, l[i]? = some (p, x) ∧ zR p l = some x) ∧ ∀ v, xF p v l = l.set i (p, v) := by
 intro l
 induction l with
 | nil => intro i h; cases h
 | cons c l ih =>
  intro i h
  unfold g9 at h
  unfold zR
  split at h
  ·rename_i hc
   cases h
   rw [if_pos hc]
   refine ⟨by simp, ⟨c.2, by rw [← hc]; rfl, rfl⟩, fun v => ?_⟩
   unfold xF
   rw [if_pos hc]; rfl
  ·rename_i hc
   rw [if_neg hc]
   cases hi : g9 p l with
   | none => rw [hi] at h; cases h
   | some j =>
    rw [hi] at h
    cases h
    obtain ⟨h1, ⟨x, h2, h2'⟩, h3⟩ := ih hi
    refine ⟨by simp; omega, ⟨x, by simpa using h2, h2'⟩, fun v => ?_⟩
    unfold xF
    rw [if_neg hc, h3]; rfl
theorem kS {p v : Int} {l : List Cl} (h : zR p l = none) : xF p v l = l ++ [(p, v)] := by
 induction l with
 | nil => rfl
 | cons c l ih =>
  unfold zR at h
  split at h
  ·cases h
  ·rename_i hc
   unfold xF
   rw [if_neg hc, ih h]; rfl
theorem YY {p : Int} : ∀ {l : List Cl} {i : Nat}, i < l.length → (∀ j, j < i → ∀ c, l[j]? = some c → c.1 ≠ p) → (∃ x, l[i]? = some (p, x)) → g9 p l = some i := by
 intro l
 induction l with
 | nil => intro i h; simp at h
 | cons c l ih =>
  intro i hi h1 ⟨x, h2⟩
  unfold g9
  cases i with
  | zero =>
   simp at h2
   rw [if_pos (by rw [h2])]
  | succ i =>
   rw [if_neg (h1 0 (by omega) c rfl), ih (by simpa using hi) (fun j hj c' hc' => h1 (j + 1) (by omega) c' (by simpa using hc')) ⟨x, by simpa using h2⟩]; rfl
theorem Uh {p : Int} : ∀ {l : List Cl}, (∀ c ∈ l, c.1 ≠ p) → g9 p l = none := by
 intro l
 induction l with
 | nil => intro _; rfl
 | cons c l ih =>
  intro h
  unfold g9
  rw [if_neg (h c (List.mem_cons_self ..)), ih fun c' hc' => h c' (List.mem_cons_of_mem _ hc')]; rfl
theorem Q8 {p v : Int} {l : List Cl} : (xF p v l).length = if zR p l = none then l.length + 1 else l.length := by
 induction l with
 | nil => simp [xF, zR]
 | cons c l ih =>
  unfold xF zR
  split
  ·simp
  ·rw [List.length_cons, ih]
   split <;> simp
theorem Kl {p q v : Int} {l : List Cl} : zR q (xF p v l) = if q = p then some v else zR q l := by
 induction l with
 | nil =>
  simp only [xF, zR]
  by_cases h : p = q
  ·simp [h]
  ·rw [if_neg h, if_neg (fun h' => h h'.symm)]
 | cons c l ih =>
  unfold xF
  split
  ·rename_i hc
   simp only [zR]
   by_cases h : p = q
   ·simp [h]
   ·rw [if_neg h, if_neg (fun h' => h h'.symm), if_neg (by rw [hc]; exact h)]
  ·rename_i hc
   simp only [zR, ih]
   by_cases h : c.1 = q
   ·rw [if_pos h, if_pos h, if_neg (by rintro rfl; exact hc h)]
   ·rw [if_neg h, if_neg h]
def InC (l : List Cl) : Prop := ∀ c ∈ l, 1 ≤ c.1 ∧ c.1 < 256
theorem InC.put {l : List Cl} {p v : Int} (h : InC l) (hp : 1 ≤ p ∧ p < 256) : InC (xF p v l) := by
 induction l with
 | nil => intro c hc; simp [xF] at hc; subst hc; exact hp
 | cons a l ih =>
  unfold xF
  split
  ·intro c hc
   rcases List.mem_cons.1 hc with rfl | hc
   ·exact hp
   ·exact h c (List.mem_cons_of_mem _ hc)
  ·intro c hc
   rcases List.mem_cons.1 hc with rfl | hc
   ·exact h _ (List.mem_cons_self ..)
   ·exact ih (fun c hc => h c (List.mem_cons_of_mem _ hc)) c hc
def UnC (l : List Cl) : Prop := (l.map (·.1)).Nodup
theorem KI {p : Int} {l : List Cl} : zR p l = none ↔ p ∉ l.map (·.1) := by
 induction l with
 | nil => simp [zR]
 | cons c l ih =>
  unfold zR
  split
  ·rename_i h; simp [h]
  ·rename_i h
   rw [ih, List.map_cons, List.mem_cons, not_or]
   exact ⟨fun h' => ⟨fun h2 => h h2.symm, h'⟩, fun h' => h'.2⟩
theorem OA {p v : Int} {l : List Cl} : (xF p v l).map (·.1) = if zR p l = none then l.map (·.1) ++ [p] else l.map (·.1) := by
 induction l with
 | nil => simp [xF, zR]
 | cons c l ih =>
  unfold xF zR
  split
  ·rename_i h; simp [h]
  ·rw [List.map_cons, ih]
   split <;> simp
theorem UnC.put {l : List Cl} {p v : Int} (h : UnC l) : UnC (xF p v l) := by
 unfold UnC
 rw [OA]
 split
 ·rename_i hp
  rw [KI] at hp
  rw [List.nodup_append]
  exact ⟨h, by simp, fun a ha b hb => by rw [List.mem_singleton] at hb; subst hb; rintro rfl; exact hp ha⟩
 ·exact h
theorem Oe {l : List Cl} : ∀ {cs : List Cl}, UnC cs → (∀ c ∈ cs, zR c.1 l = none) → xx l cs = l ++ cs := by
 intro cs
 induction cs generalizing l with
 | nil => intro _ _; simp [xx]
 | cons c cs ih =>
  intro hu hn
  have hu' : UnC cs := (List.nodup_cons.1 hu).2
  have hc : c.1 ∉ cs.map (·.1) := (List.nodup_cons.1 hu).1
  show xx (xF c.1 c.2 l) cs = _
  rw [ih hu' (fun d hd => by
   rw [Kl, if_neg (by rintro h; exact hc (by rw [← h]; exact List.mem_map_of_mem hd))]
   exact hn d (List.mem_cons_of_mem _ hd)), kS (hn c (List.mem_cons_self ..)), List.append_assoc]
  rfl
theorem GK {cs : List Cl} (h : UnC cs) : xx [] cs = cs := by rw [Oe h (fun _ _ => rfl), List.nil_append]
def kr (m : Nat) (l : List Cl) (p v : Int) : Int × List Cl :=
 if p < 1 ∨ 256 ≤ p then (2, l) else if zR p l = none ∧ m ≤ l.length then (5, l) else (0, xF p v l)
def kY (m : Nat) (l : List Cl) : List Cl → Int × List Cl
 | [] => (0, l)
 | c :: cs => if (kr m l c.1 c.2).1 = 0 then kY m (kr m l c.1 c.2).2 cs else kr m l c.1 c.2
theorem Vc {m : Nat} {l : List Cl} {c : Cl} {cs : List Cl} : kY m l (c :: cs) = if (kr m l c.1 c.2).1 = 0 then kY m (kr m l c.1 c.2).2 cs else kr m l c.1 c.2 := rfl
theorem Qh {m : Nat} : ∀ {cs l : List Cl}, InC cs → l.length + cs.length ≤ m → kY m l cs = (0, xx l cs) := by
 intro cs
 induction cs with
 | nil => intro l _ _; rfl
 | cons c cs ih =>
  intro l hi hl
  have hc := hi c (List.mem_cons_self ..)
  have hp : kr m l c.1 c.2 = (0, xF c.1 c.2 l) := by
   unfold kr
   rw [if_neg (by omega), if_neg (by simp at hl; omega)]
  unfold kY
  rw [hp, if_pos rfl, ih (fun d hd => hi d (List.mem_cons_of_mem _ hd)) (by
   have := Q8 (p := c.1) (v := c.2) (l := l)
   simp at hl
   show (xF c.1 c.2 l).length + cs.length ≤ m
   split at this <;> omega)]
  rfl
abbrev LvM : Type := List Cl × List Int
def ku (p : Int) : List LvM → Option Int
 | [] => none
 | x :: r => match zR p x.1 with | some v => some v | none => ku p r
def xk (lv : List LvM) : Nat := (lv.map fun x => x.1.length).sum
def jY (lv : List LvM) : List Cl := lv.foldl (fun out x => xx x.1 out) []
def zE (lv : List LvM) : List Int := lv.reverse.flatMap (·.2)
structure OkL (most : Nat) (lv : List LvM) : Prop where
  held : xk lv ≤ most
  le : most ≤ 96
  ins : ∀ x ∈ lv, InC x.1
  un : ∀ x ∈ lv, UnC x.1
  one : 1 ≤ lv.length
  deep : lv.length ≤ 6
def xH (most : Nat) (lv : List LvM) (p v : Int) : Int × List LvM :=
 match lv with
 | [] => (0, [])
 | x :: r => if p < 1 ∨ 256 ≤ p then (2, lv) else if zR p x.1 = none ∧ most ≤ xk lv then (5, lv) else (0, (xF p v x.1, x.2) :: r)
def xC (most : Nat) (was lv : List LvM) : List Cl → Int × List LvM
 | [] => (0, lv)
 | c :: cs => if (xH most lv c.1 c.2).1 = 0 then xC most was (xH most lv c.1 c.2).2 cs else ((xH most lv c.1 c.2).1, was)
def yY (lv : List LvM) : Int × List LvM := if 6 ≤ lv.length then (9, lv) else (0, ([], []) :: lv)
def vk (lv : List LvM) : Int × List LvM := if lv.length = 1 then (10, lv) else (0, lv.tail)
def vU (lv : List LvM) : Int × List LvM := match lv with
 | x :: y :: r => (0, (xx y.1 x.1, y.2 ++ x.2) :: r)
 | _ => (10, lv)
def k8 (lv : List LvM) (b : Int) : List LvM := match lv with
 | x :: r => (x.1, x.2 ++ [b]) :: r
 | [] => []
theorem xl {most : Nat} {was lv : List LvM} {c : Cl} {cs : List Cl} : xC most was lv (c :: cs) = if (xH most lv c.1 c.2).1 = 0 then xC most was (xH most lv c.1 c.2).2 cs else ((xH most lv c.1 c.2).1, was) := rfl
theorem zj {x : LvM} {r : List LvM} : xk (x :: r) = x.1.length + xk r := by simp [xk]
theorem J3 {most : Nat} {lv : List LvM} {p v : Int} (O : OkL most lv) : OkL most (xH most lv p v).2 ∧ (xH most lv p v).2.length = lv.length := by
 cases lv with
 | nil => have := O.one; simp at this
 | cons x r =>
  unfold xH
  dsimp only
  split
  ·exact ⟨O, rfl⟩
  ·rename_i hp
   split
   ·exact ⟨O, rfl⟩
   ·rename_i h1
    have hh := O.held
    rw [zj] at hh
    refine ⟨⟨?_, O.le, ?_, ?_, by simp, O.deep⟩, rfl⟩
    ·show xk ((xF p v x.1, x.2) :: r) ≤ most
     rw [zj, Q8]
     split
     ·rename_i h2
      rw [zj] at h1
      have : ¬ most ≤ x.1.length + xk r := fun h3 => h1 ⟨h2, h3⟩
      omega
     ·exact hh
    ·intro y hy
     rcases List.mem_cons.1 hy with rfl | hy
     ·exact (O.ins x (List.mem_cons_self ..)).put (by omega)
     ·exact O.ins y (List.mem_cons_of_mem _ hy)
    ·intro y hy
     rcases List.mem_cons.1 hy with rfl | hy
     ·exact (O.un x (List.mem_cons_self ..)).put
     ·exact O.un y (List.mem_cons_of_mem _ hy)
theorem Ko {most : Nat} {was : List LvM} (W : OkL most was) : ∀ {cs : List Cl} {lv : List LvM}, OkL most lv → lv.length = was.length → OkL most (xC most was lv cs).2 ∧ (xC most was lv cs).2.length = was.length := by
 intro cs
 induction cs with
 | nil => intro lv O hl; exact ⟨O, hl⟩
 | cons c cs ih =>
  intro lv O hl
  unfold xC
  split
  ·exact ih (J3 O).1 ((J3 O).2.trans hl)
  ·exact ⟨W, rfl⟩
theorem ZP {most : Nat} {lv : List LvM} (O : OkL most lv) : OkL most (yY lv).2 := by
 unfold yY
 split
 ·exact O
 ·refine ⟨by rw [zj]; have := O.held; simpa using this, O.le, ?_, ?_, by simp, by simp; omega⟩
  ·intro y hy
   rcases List.mem_cons.1 hy with rfl | hy
   ·intro c hc; cases hc
   ·exact O.ins y hy
  ·intro y hy
   rcases List.mem_cons.1 hy with rfl | hy
   ·exact List.nodup_nil
   ·exact O.un y hy
theorem qQ8 {most : Nat} {lv : List LvM} (O : OkL most lv) : OkL most (vk lv).2 := by
 unfold vk
 split
 ·exact O
 ·rename_i h1
  cases lv with
  | nil => have := O.one; simp at this
  | cons x r =>
   have hh := O.held
   have h2 := O.deep
   rw [zj] at hh
   simp at h1 h2
   refine ⟨by show xk r ≤ most; omega, O.le, fun y hy => O.ins y (List.mem_cons_of_mem _ hy), fun y hy => O.un y (List.mem_cons_of_mem _ hy), ?_, by show r.length ≤ 6; omega⟩
   show 1 ≤ r.length
   cases r with
   | nil => simp at h1
   | cons _ _ => simp
theorem Q5 : ∀ {cs l : List Cl}, (xx l cs).length ≤ l.length + cs.length := by
 intro cs
 induction cs with
 | nil => intro l; exact Nat.le_refl _
 | cons c cs ih =>
  intro l
  have := ih (l := xF c.1 c.2 l)
  have h2 := Q8 (p := c.1) (v := c.2) (l := l)
  show (xx (xF c.1 c.2 l) cs).length ≤ _
  rw [List.length_cons]
  split at h2 <;> omega
theorem InC.puts : ∀ {cs l : List Cl}, InC l → InC cs → InC (xx l cs) := by
 intro cs
 induction cs with
 | nil => intro l h _; exact h
 | cons c cs ih => intro l h hc; exact ih (h.put (hc c (List.mem_cons_self ..))) fun d hd => hc d (List.mem_cons_of_mem _ hd)
theorem UnC.puts : ∀ {cs l : List Cl}, UnC l → UnC (xx l cs) := by
 intro cs
 induction cs with
 | nil => intro l h; exact h
 | cons c cs ih => intro l h; exact ih h.put
theorem Uz {most : Nat} {lv : List LvM} (O : OkL most lv) : OkL most (vU lv).2 := by
 match lv, O with
 | [], O => exact O
 | [x], O => exact O
 | x :: y :: r, O =>
  have hh := O.held
  have h2 := O.deep
  rw [zj, zj] at hh
  have := Q5 (cs := x.1) (l := y.1)
  refine ⟨by show xk ((xx y.1 x.1, y.2 ++ x.2) :: r) ≤ most; rw [zj]; dsimp only; omega, O.le, ?_, ?_, by simp [vU], by simp [vU] at h2 ⊢; omega⟩
  ·intro z hz
   rcases List.mem_cons.1 hz with rfl | hz
   ·exact (O.ins y (by simp)).puts (O.ins x (by simp))
   ·exact O.ins z (by simp [hz])
  ·intro z hz
   rcases List.mem_cons.1 hz with rfl | hz
   ·exact (O.un y (by simp)).puts
   ·exact O.un z (by simp [hz])
theorem Z3 {most : Nat} {lv : List LvM} {b : Int} (O : OkL most lv) : OkL most (k8 lv b) := by
 cases lv with
 | nil => exact O
 | cons x r =>
  refine ⟨O.held, O.le, ?_, ?_, by simp [k8], O.deep⟩
  ·intro z hz
   rcases List.mem_cons.1 hz with rfl | hz
   ·exact O.ins x (by simp)
   ·exact O.ins z (by simp [hz])
  ·intro z hz
   rcases List.mem_cons.1 hz with rfl | hz
   ·exact O.un x (by simp)
   ·exact O.un z (by simp [hz])
end Go.Proofs.YtdlfmpmpmkffjaaGreatDoor
namespace Go.Proofs.YtdlfmpmpmkffjaaGreatDoor
open Go Go.Ae
set_option maxRecDepth 100000
variable {g h : AH} {L R : List SP}
def WrC (w m : Nat) (l : List Cl) : SP := .ex fun v => .all [qw w [.int .i64 (m : Int), v], qz 67 2 l.length v (l.flatMap jJ)]
theorem WrC.E {w m : Nat} {l : List Cl} (H : HS g h (WrC w m l :: R)) : ∃ v, HS g h (qw w [.int .i64 (m : Int), v] :: qz 67 2 l.length v (l.flatMap jJ) :: R) := by
 obtain ⟨v, H⟩ := H.exE
 exact ⟨v, H.allE⟩
theorem WrC.I {w m : Nat} {l : List Cl} {v : AV} (H : HS g h (qw w [.int .i64 (m : Int), v] :: qz 67 2 l.length v (l.flatMap jJ) :: R)) : HS g h (WrC w m l :: R) :=
 HS.exI v (HS.allI H)
theorem kZ (l : List Cl) : q9 (l.flatMap jJ) = true := by
 unfold q9
 rw [List.all_eq_true]
 intro v hv
 obtain ⟨c, _, hc⟩ := List.mem_flatMap.1 hv
 simp [jJ] at hc
 rcases hc with rfl | rfl <;> rfl
theorem Ql {l : List Cl} {i : Nat} {c : Cl} (h : l[i]? = some c) : ((l.flatMap jJ).drop (i * 2)).take 2 = jJ c := by
 obtain ⟨hi, e⟩ := List.getElem?_eq_some_iff.1 h
 rw [y9 (sz := 2) jJ (fun _ => rfl), List.drop_eq_getElem_cons hi, e, List.flatMap_cons]; rfl
theorem Uk {l : List Cl} {i : Nat} {p x v : Int} (h : l[i]? = some (p, x)) : (l.flatMap jJ).set (i * 2 + 1) (.int .u64 v) = (l.set i (p, v)).flatMap jJ := by
 have hi := (List.getElem?_eq_some_iff.1 h).1
 apply List.ext_getElem?
 intro j
 have hd : j = j / 2 * 2 + j % 2 := by omega
 have hm : j % 2 < 2 := by omega
 rw [List.getElem?_set, xm (sz := 2) jJ (fun _ => rfl)]
 have e1 := zD (sz := 2) jJ (fun _ => rfl) l (j / 2) (j % 2) hm
 have e2 := zD (sz := 2) jJ (fun _ => rfl) (l.set i (p, v)) (j / 2) (j % 2) hm
 rw [← hd] at e1 e2
 rw [e1, e2, List.getElem?_set]
 by_cases h1 : i * 2 + 1 = j
 ·have : j / 2 = i := by omega
  have h3 : j % 2 = 1 := by omega
  rw [if_pos h1, if_pos (by omega), if_pos this.symm, if_pos hi, h3]; rfl
 ·rw [if_neg h1]
  by_cases h2 : i = j / 2
  ·have h3 : j % 2 = 0 := by omega
   rw [if_pos h2, if_pos hi, h3, ← h2, h]; rfl
  ·rw [if_neg h2]
def zI (o : Option Nat) : Int := match o with | some i => (i : Int) | none => -1
theorem Kg {n : Nat} (hn : 1 ≤ n) {m : Nat} (hm : m ≤ 96) (H : HS g h R) : wp (callT tab qA n (.fn 100 [] []) [.int .i64 (m : Int)] h) fun v h' => ∃ w, v = .ptr w 0 ∧ HS g h' (WrC w m [] :: R) := by
 (refine qP (g := (tD1 S100)) rfl (by omega) fun k hk => ?_; show wp (S100 (callT tab qA k) _ _).1 _; unfold S100; try simp only [ Int.ofNat_eq_natCast])
 refine zx (zg (qF rfl (qU H rfl fun w h2 H2 => qW ⟨w, rfl, ?_⟩)))
 rw [show max ((0 : Nat) : Int) (min (m : Int) ((96 : Nat) : Int)) = (m : Int) by omega] at H2
 exact WrC.I ((H2.nils (e := 67) (sz := 2)).sel (P := qw w [.int .i64 (m : Int), .nils]) e_1 :)
theorem NA {n : Nat} (hn : 2 ≤ n) {p : Int} {v : AV} {c0 : Nat} {l : List Cl} (H : HS g h L) (S : Rd g L 2 l.length v (l.flatMap jJ)) (s : Sel L (qw c0 [.int .i64 p]) R) (hl : l.length < 1000000) :
  wp (callT tab qA n (.fn 249 [] []) [v, .fn 250 [] [.ptr c0 0]] h) fun v h' => v = .int .i64 (zI (g9 p l)) ∧ HS g h' L := by
 (refine qP (g := (tD2 S249)) rfl (by omega) fun k hk => ?_; show wp (S249 (callT tab qA k) _ _ _).1 _; unfold S249; try simp only [ Int.ofNat_eq_natCast])
 refine jb (S.sl H) ?_
 refine (jz (fun m s h' => ∃ i : Nat, s = (.int .i64 (i : Int), .int .i64 (l.length : Int), .fn 250 [] [.ptr c0 0], v, ()) ∧ i ≤ l.length ∧ m = l.length - i ∧ HS g h' L ∧
  (∀ j, j < i → ∀ c, l[j]? = some c → c.1 ≠ p)) ?_ (m := l.length) (by show _ < 1000000000; omega) ⟨0, rfl, by omega, by omega, H, fun j hj => by omega⟩)
 rintro m ih s' h' hih ⟨i, rfl, h1, rfl, H, h2⟩
 dsimp only
 refine jA (fun hlt => qV ?_) fun hge => qQ (qj (qW ⟨?_, H⟩))
 ·have hi : i < l.length := by omega
  have hc : l[i]? = some l[i] := List.getElem?_eq_getElem hi
  refine zJ (l := jJ l[i]) (S.sl H) hi (by omega) (Ql hc) ?_
  refine qY (Q' := fun v h2 => v = .bool (decide (l[i].1 = p)) ∧ HS g h2 L) (qKd (g := (tD2 S250)) rfl (by omega) fun k hk => ?_) ?_
  ·show wp (S250 (callT tab qA k) _ _ _).1 _
   unfold S250; try simp only [ Int.ofNat_eq_natCast]
   refine qU H rfl fun b h3 H3 => ?_
   with_reducible (refine qJ ?_; refine qG (by assumption) .here rfl ?_)
   refine qG H3 (.there s) rfl (ge (qW ⟨rfl, H3.drop⟩))
  ·rintro _ h3 ⟨rfl, H3⟩
   refine GS (fun he => qj (qW ⟨?_, H3⟩)) fun hne => qD (by omega) ?_
   ·rw [YY hi h2 ⟨l[i].2, by rw [hc, ← he]⟩]; rfl
   ·refine hih (l.length - (i + 1)) _ _ (by omega) ⟨i + 1, rfl, by omega, rfl, H3, fun j hj c hc' => ?_⟩
    by_cases h4 : j < i
    ·exact h2 j h4 c hc'
    ·obtain rfl : j = i := by omega
     rw [hc] at hc'; cases hc'; exact hne
 ·rw [Uh fun c hc => ?_]
  ·rfl
  ·obtain ⟨j, hj⟩ := List.getElem?_of_mem hc
   exact h2 j (by have := (List.getElem?_eq_some_iff.1 hj).1; omega) c hj
theorem Uu {n : Nat} (hn : 3 ≤ n) {w m : Nat} {l : List Cl} {p : Int} (H : HS g h (WrC w m l :: R)) (hl : l.length < 1000000) :
  wp (callT tab qA n (.fn 218 [] []) [.ptr w 0, .int .i64 p] h) fun v h' => v = .int .i64 (zI (g9 p l)) ∧ HS g h' (WrC w m l :: R) := by
 (refine qP (g := (tD2 S218)) rfl (by omega) fun k hk => ?_; show wp (S218 (callT tab qA k) _ _ _).1 _; unfold S218; try simp only [ Int.ofNat_eq_natCast])
 obtain ⟨v, H⟩ := WrC.E H
 refine kO H ⟨rfl, rfl⟩ fun c0 h2 H2 => ?_
 with_reducible (refine qq ?_; refine qJ ?_; refine qG (by assumption) e_1 rfl ?_)
 refine qY (NA (p := p) (by omega) H2 (H2.rd e_2) .here hl) ?_
 rintro _ h3 ⟨rfl, H3⟩
 exact qW ⟨rfl, WrC.I H3.drop⟩
theorem Mw {n : Nat} (hn : 4 ≤ n) {w m : Nat} {l : List Cl} {p : Int} (H : HS g h (WrC w m l :: R)) (hl : l.length < 1000000) :
  wp (callT tab qA n (.fn 221 [] []) [.ptr w 0, .int .i64 p] h) fun v h' => v = .tup [.int .u64 ((zR p l).getD 0), .bool (zR p l).isSome] ∧ HS g h' (WrC w m l :: R) := by
 (refine qP (g := (tD2 S221)) rfl (by omega) fun k hk => ?_; show wp (S221 (callT tab qA k) _ _ _).1 _; unfold S221; try simp only [ Int.ofNat_eq_natCast])
 refine qY (Uu (by omega) H hl) ?_
 rintro _ h3 ⟨rfl, H3⟩
 cases hi : g9 p l with
 | none =>
  refine jQ (by show ¬ ((0 : Nat) : Int) ≤ -1; omega) ?_
  refine qQ ?_
  exact qW ⟨by rw [gX.1 hi]; rfl, H3⟩
 | some i =>
  obtain ⟨h1, ⟨x, h2, h2'⟩, _⟩ := gJ hi
  refine jV (by show ((0 : Nat) : Int) ≤ (i : Int); omega) ?_
  obtain ⟨v, H4⟩ := WrC.E H3
  with_reducible (refine qV ?_; refine qq ?_; refine qJ ?_; refine qG (by assumption) .here rfl ?_)
  refine js (x := .int .u64 x) (H4.sl e_1) (by omega) h1 ?_ (qW ⟨by rw [h2']; rfl, H3⟩)
  rw [zD (sz := 2) jJ (fun _ => rfl) _ _ _ (by omega), h2]; rfl
theorem Me {n : Nat} (hn : 4 ≤ n) {w m : Nat} {l : List Cl} {p x : Int} (H : HS g h (WrC w m l :: R)) (hl : l.length < 1000000) :
  wp (callT tab qA n (.fn 151 [] []) [.ptr w 0, .int .i64 p, .int .u64 x] h) fun v h' => v = .int .i64 (kr m l p x).1 ∧ HS g h' (WrC w m (kr m l p x).2 :: R) := by
 (refine qP (g := (tD3 S151)) rfl (by omega) fun k hk => ?_; show wp (S151 (callT tab qA k) _ _ _ _).1 _; unfold S151; try simp only [ Int.ofNat_eq_natCast])
 unfold kr
 by_cases hp : p < 1 ∨ 256 ≤ p
 ·rw [if_pos hp]
  repeat' (first | with_reducible refine qV ?_ | with_reducible refine qQ ?_ | (with_reducible refine qR ?_; try dsimp only) | (with_reducible refine qS ?_; try dsimp only) | (with_reducible refine qO ?_; try dsimp only) | (with_reducible refine qB ?_; try dsimp only) | (with_reducible refine jW ?_; try dsimp only) | with_reducible refine qC ?_ | with_reducible refine qv ?_ | (with_reducible refine qX ?_; try dsimp only) | with_reducible refine qj ?_ | with_reducible refine qo ?_ | with_reducible refine jq ?_ | with_reducible refine qD (by omega) ?_ | with_reducible refine qb (by omega) ?_ | with_reducible refine zk (by omega) ?_ | with_reducible refine zy (by omega) ?_ | with_reducible refine zx ?_ | with_reducible refine zg ?_ | with_reducible refine qy (by omega) ?_ | with_reducible refine qK (by omega) ?_ | with_reducible refine jk (by omega) ?_ | with_reducible refine jj (by omega) ?_ | with_reducible refine jC (by omega) ?_ | with_reducible refine jv (by omega) ?_ | with_reducible refine z7 (by omega) ?_ | with_reducible refine z6 (by omega) ?_ | with_reducible refine jl (by omega) ?_ | with_reducible refine ja (by omega) ?_ | with_reducible refine jV (by omega) ?_ | with_reducible refine jQ (by omega) ?_ | with_reducible refine jA (fun hc => ?_) (fun hc => ?_) | with_reducible refine xg (fun hc => ?_) (fun hc => ?_) | with_reducible refine zi (fun hc => ?_) (fun hc => ?_) | with_reducible refine xW (fun hc => ?_) (fun hc => ?_) | with_reducible refine xG (fun hc => ?_) (fun hc => ?_) | with_reducible refine zA (fun hc => ?_) (fun hc => ?_) | with_reducible refine xZ (fun hc => ?_) (fun hc => ?_))
  all_goals exact qW ⟨rfl, H⟩
 rw [if_neg hp]
 with_reducible (refine jv (by omega) ?_; refine qX ?_; (try dsimp only); refine qB ?_; (try dsimp only); refine jQ (by omega) ?_; refine qv ?_; refine qQ ?_)
 refine qY (Uu (by omega) H hl) ?_
 rintro _ h3 ⟨rfl, H3⟩
 cases hi : g9 p l with
 | none =>
  refine jQ (by show ¬ ((0 : Nat) : Int) ≤ -1; omega) ?_
  have hg := gX.1 hi
  obtain ⟨v, H4⟩ := WrC.E H3
  with_reducible (refine qQ ?_; refine qq ?_; refine qJ ?_; refine qG (by assumption) .here rfl ?_; refine qd (by assumption) e_1 ?_; refine qq ?_; refine qJ ?_; refine qG (by assumption) .here rfl ?_)
  by_cases hf : m ≤ l.length
  ·rw [if_pos ⟨hg, hf⟩]
   with_reducible (refine jV (by omega) ?_; refine qV ?_)
   exact qW ⟨rfl, H3⟩
  ·rw [if_neg (fun h => hf h.2)]
   with_reducible (refine jQ (by omega) ?_; refine qQ ?_; refine qq ?_; refine qJ ?_; refine qG (by assumption) .here rfl ?_; refine qF rfl ?_)
   refine qf (sz := 2) (l := [.int .i64 p, .int .u64 x]) H4 rfl rfl rfl rfl fun v5 h5 H5 => ?_
   refine je (H5.sel e_2) (H5.sl .here) (by omega) (by omega) rfl fun v6 h6 H6 => ?_
   refine qq ?_; refine qJ ?_
   refine qc H6 e_2 (H6.one .here) (by simp) fun h7 H7 => qW ⟨rfl, WrC.I (v := v6) ?_⟩
   rw [kS hg, List.flatMap_append, List.length_append]
   exact H7.sub (.cons .here (.cons .here (.drop (.refl))))
 | some i =>
  obtain ⟨h1, ⟨y, h2, h2'⟩, h5⟩ := gJ hi
  refine jV (by show ((0 : Nat) : Int) ≤ (i : Int); omega) ?_
  obtain ⟨v, H4⟩ := WrC.E H3
  with_reducible (refine qV ?_; refine qq ?_; refine qJ ?_; refine qG (by assumption) .here rfl ?_)
  rw [if_neg (fun h => by rw [h2'] at h; cases h.1)]
  refine XY (H4.sel e_1) h1 (by omega) ⟨rfl, rfl⟩ fun h6 H6 => qW ⟨rfl, WrC.I (v := v) ?_⟩
  rw [Uk h2] at H6
  dsimp only
  rw [h5, List.length_set]
  exact H6.sub (.cons e_1 (.refl))
theorem Oc {n : Nat} (hn : 1 ≤ n) {v : AV} {l : List Cl} (H : HS g h L) (s : Sel L (qz 67 2 l.length v (l.flatMap jJ)) R) (hl : l.length < 1000000) :
  wp (callT tab qA n (.fn 152 [] []) [v] h) fun v' h' => HS g h' (qz 67 2 l.length v' (l.flatMap jJ) :: L) := by
 (refine qP (g := (tD1 S152)) rfl (by omega) fun k hk => ?_; show wp (S152 (callT tab qA k) _ _).1 _; unfold S152; try simp only [ Int.ofNat_eq_natCast])
 refine Mv H s (fun _ h0 => qV (qW ?_)) (qQ ?_)
 ·have := List.eq_nil_of_length_eq_zero h0
  subst this
  exact H.nils
 ·refine qf (n := 0) (l := []) (sz := 2) H rfl rfl rfl rfl fun v2 h2 H2 => ?_
  refine je H2 (H2.sl (.there s)) (by omega) (by omega) (kZ l) fun v3 h3 H3 => qW ?_
  rw [Nat.zero_add, List.nil_append] at H3
  exact H3
theorem JG {n : Nat} (hn : 2 ≤ n) {w m : Nat} {l : List Cl} (H : HS g h (WrC w m l :: R)) (hl : l.length < 1000000) :
  wp (callT tab qA n (.fn 102 [] []) [.ptr w 0] h) fun v h' => HS g h' (qz 67 2 l.length v (l.flatMap jJ) :: WrC w m l :: R) := by
 (refine qP (g := (tD1 S102)) rfl (by omega) fun k hk => ?_; show wp (S102 (callT tab qA k) _ _).1 _; unfold S102; try simp only [ Int.ofNat_eq_natCast])
 obtain ⟨v, H⟩ := WrC.E H
 with_reducible (refine qq ?_; refine qJ ?_; refine qG (by assumption) .here rfl ?_)
 refine qY (Oc (by omega) H e_1 hl) fun v3 h3 H3 => qW ?_
 have := WrC.I (v := v) (w := w) (m := m) (l := l) (H3.sub (L' := _ :: _ :: qz 67 2 l.length v3 (l.flatMap jJ) :: R) (.cons e_1 (.cons e_1 .refl)))
 exact this.sub (.cons e_1 (.refl))
theorem qZ1 {n : Nat} (hn : 1 ≤ n) {w m : Nat} {l : List Cl} (H : HS g h (WrC w m l :: R)) :
  wp (callT tab qA n (.fn 255 [] []) [.ptr w 0] h) fun v h' => v = .int .i64 (l.length : Int) ∧ h' = h := by
 (refine qP (g := (tD1 S255)) rfl (by omega) fun k hk => ?_; show wp (S255 (callT tab qA k) _ _).1 _; unfold S255; try simp only [ Int.ofNat_eq_natCast])
 obtain ⟨v, H⟩ := WrC.E H
 with_reducible (refine qq ?_; refine qJ ?_; refine qG (by assumption) .here rfl ?_; refine qd (by assumption) e_1 ?_)
 exact qW ⟨rfl, rfl⟩
def vR (m : Nat) (l cs : List Cl) : Int × List Cl := if (kY m l cs).1 = 0 then kY m l cs else ((kY m l cs).1, l)
theorem QT {n : Nat} (hn : 5 ≤ n) {w m : Nat} {l cs : List Cl} {c : AV} (H : HS g h (WrC w m l :: R)) (S : Rd g R 2 cs.length c (cs.flatMap jJ)) (hl : l.length < 100000) (hc : cs.length < 100000) :
  wp (callT tab qA n (.fn 101 [] []) [.ptr w 0, c] h) fun v h' => v = .int .i64 (vR m l cs).1 ∧ HS g h' (WrC w m (vR m l cs).2 :: R) := by
 (refine qP (g := (tD2 S101)) rfl (by omega) fun k hk => ?_; show wp (S101 (callT tab qA k) _ _ _).1 _; unfold S101; try simp only [ Int.ofNat_eq_natCast])
 refine qY (JG (by omega) H (by omega)) fun v0 h1 H1 => ?_
 refine jb (S.sl H1.drop.drop) ?_
 refine jz (fun k s h' => ∃ (i : Nat) (l' : List Cl), s = (.int .i64 (i : Int), .int .i64 (cs.length : Int), c, v0, .ptr w 0, ()) ∧ i ≤ cs.length ∧ k = cs.length - i ∧ l'.length ≤ l.length + i ∧
  HS g h' (WrC w m l' :: qz 67 2 l.length v0 (l.flatMap jJ) :: R) ∧ kY m l cs = kY m l' (cs.drop i)) ?_ (m := cs.length) (by show _ < 1000000000; omega) ⟨0, l, rfl, by omega, by omega, by omega, H1.sub (.cons e_1 (.refl)), rfl⟩
 rintro k ih s h2 hih ⟨i, l', rfl, h1, rfl, hl', H, hT⟩
 dsimp only
 refine jA (fun hlt => qV ?_) fun hge => qQ (qj (qW ?_))
 ·have hi : i < cs.length := by omega
  have hci : cs[i]? = some cs[i] := List.getElem?_eq_getElem hi
  refine zJ (l := jJ cs[i]) (S.sl H.drop.drop) hi (by omega) (Ql hci) ?_
  refine qU H rfl fun b h3 H3 => jG H3 .here rfl (by show 0 + 2 ≤ 2; omega) rfl fun h4 H4 => ?_
  have H5 : HS g h4 (qw b (jJ cs[i]) :: WrC w m l' :: qz 67 2 l.length v0 (l.flatMap jJ) :: R) := H4
  unfold jJ at H5
  with_reducible (refine qJ ?_; refine qG (by assumption) .here rfl ?_; refine qJ ?_; refine qG (by assumption) .here rfl ?_)
  refine qY (Me (by omega) H5.drop (by omega)) ?_
  rintro _ h6 ⟨rfl, H6⟩
  rw [List.drop_eq_getElem_cons hi, Vc] at hT
  refine zA (fun hne => qV ?_) fun he => qQ (qD (by omega) ?_)
  ·have hne : ¬ (kr m l' cs[i].1 cs[i].2).1 = 0 := by simpa using hne
   rw [if_neg hne] at hT
   obtain ⟨v7, H7⟩ := WrC.E H6
   refine qq ?_; refine qJ ?_
   refine qc H7 .here (H7.one e_2) (by simp) fun h8 H8 => qj (qW ?_)
   unfold vR
   rw [hT, if_neg hne]
   exact ⟨rfl, WrC.I (v := v0) (H8.sub (.cons .here (.cons e_1 (.drop .refl))))⟩
  ·have he' : (kr m l' cs[i].1 cs[i].2).1 = 0 := by simpa using he
   rw [if_pos he'] at hT
   refine hih (cs.length - (i + 1)) _ _ (by omega) ⟨i + 1, _, rfl, by omega, rfl, ?_, H6, hT⟩
   have := Q8 (p := cs[i].1) (v := cs[i].2) (l := l')
   unfold kr
   repeat' split
   all_goals dsimp only
   all_goals first | omega | (split at this <;> omega)
 ·rw [List.drop_of_length_le (by omega)] at hT
  have hT : kY m l cs = (0, l') := hT
  unfold vR
  rw [hT, if_pos rfl]
  exact ⟨rfl, H.sub (.cons .here (.drop .refl))⟩
end Go.Proofs.YtdlfmpmpmkffjaaGreatDoor
namespace Go.Proofs.YtdlfmpmpmkffjaaGreatDoor
open Go Go.Ae
set_option maxRecDepth 100000
variable {g h : AH} {L R : List SP}
def LvC (a : Nat) (x : LvM) : SP := .ex fun w => .ex fun fv => .all [qw a [.ptr w 0, fv], WrC w 96 x.1, qz 3 1 x.2.length fv (x.2.map (.int .i64))]
theorem LvC.E {a : Nat} {x : LvM} (H : HS g h (LvC a x :: R)) : ∃ w fv, HS g h (qw a [.ptr w 0, fv] :: WrC w 96 x.1 :: qz 3 1 x.2.length fv (x.2.map (.int .i64)) :: R) := by
 obtain ⟨w, H⟩ := H.exE
 obtain ⟨fv, H⟩ := H.exE
 exact ⟨w, fv, H.allE⟩
theorem LvC.I {a w : Nat} {fv : AV} {x : LvM} (H : HS g h (qw a [.ptr w 0, fv] :: WrC w 96 x.1 :: qz 3 1 x.2.length fv (x.2.map (.int .i64)) :: R)) : HS g h (LvC a x :: R) :=
 HS.exI w (HS.exI fv (HS.allI H))
def z8 (ps : List Nat) : List AV := ps.reverse.map fun a => .ptr a 0
def LgC (q most : Nat) (lv : List LvM) : SP := .ex fun v => .ex fun ps : List Nat => .all (.pur (ps.length = lv.length) :: qw q [.int .i64 (most : Int), v] :: qz 136 1 lv.length v (z8 ps) :: List.zipWith LvC ps lv)
theorem LgC.E {q most : Nat} {lv : List LvM} (H : HS g h (LgC q most lv :: R)) : ∃ v ps, ps.length = lv.length ∧ HS g h (qw q [.int .i64 (most : Int), v] :: qz 136 1 lv.length v (z8 ps) :: (List.zipWith LvC ps lv ++ R)) := by
 obtain ⟨v, H⟩ := H.exE
 obtain ⟨ps, H⟩ := H.exE
 obtain ⟨e, H⟩ := HS.purE (H.allE)
 exact ⟨v, ps, e, H⟩
theorem LgC.I {q most : Nat} {lv : List LvM} {v : AV} {ps : List Nat} (e : ps.length = lv.length) (H : HS g h (qw q [.int .i64 (most : Int), v] :: qz 136 1 lv.length v (z8 ps) :: (List.zipWith LvC ps lv ++ R))) : HS g h (LgC q most lv :: R) :=
 HS.exI v (HS.exI ps (HS.allI (HS.purI e H)))
theorem LgC.E1 {q most : Nat} {x : LvM} {r : List LvM} (H : HS g h (LgC q most (x :: r) :: R)) : ∃ v a ps, ps.length = r.length ∧ HS g h (qw q [.int .i64 (most : Int), v] :: qz 136 1 (r.length + 1) v (z8 (a :: ps)) :: LvC a x :: (List.zipWith LvC ps r ++ R)) := by
 obtain ⟨v, ps, e, H⟩ := LgC.E H
 cases ps with
 | nil => simp at e
 | cons a ps => exact ⟨v, a, ps, by simpa using e, H⟩
theorem LgC.I1 {q most : Nat} {x : LvM} {r : List LvM} {v : AV} {a : Nat} {ps : List Nat} (e : ps.length = r.length) (H : HS g h (qw q [.int .i64 (most : Int), v] :: qz 136 1 (r.length + 1) v (z8 (a :: ps)) :: LvC a x :: (List.zipWith LvC ps r ++ R))) : HS g h (LgC q most (x :: r) :: R) :=
 LgC.I (ps := a :: ps) (by simp [e]) H
theorem Va (a : Nat) (ps : List Nat) : (z8 (a :: ps))[ps.length]? = some (.ptr a 0) := by
 unfold z8
 rw [List.reverse_cons, List.map_append, List.getElem?_append_right (by simp)]
 simp
theorem Jg {ps : List Nat} {i : Nat} (hi : i < ps.length) : (z8 ps)[i]? = (ps[ps.length - 1 - i]?).map fun a => .ptr a 0 := by
 unfold z8
 rw [List.getElem?_map, List.getElem?_reverse hi]
theorem XG {ps : List Nat} : ∀ {lv : List LvM} {i a : Nat} {x : LvM}, ps[i]? = some a → lv[i]? = some x → ∃ T, Sel (List.zipWith LvC ps lv ++ R) (LvC a x) T := by
 induction ps with
 | nil => intro lv i a x h; simp at h
 | cons b ps ih =>
  intro lv i a x h1 h2
  cases lv with
  | nil => simp at h2
  | cons y lv =>
   cases i with
   | zero =>
    simp at h1 h2
    subst h1; subst h2
    exact ⟨_, .here⟩
   | succ i =>
    obtain ⟨T, s⟩ := ih (lv := lv) (i := i) (by simpa using h1) (by simpa using h2)
    exact ⟨_, .there s⟩
theorem Qw {n q : Nat} (hn : 1 ≤ n) {m v : AV} {a : Nat} {ps : List Nat} {R1 R2 : List SP} {e : TypeId} (H : HS g h L) (s1 : Sel L (qw q [m, v]) R1) (s2 : Sel L (qz e 1 (ps.length + 1) v (z8 (a :: ps))) R2) (hl : ps.length < 1000000) :
  wp (callT tab qA n (.fn 222 [] []) [.ptr q 0] h) fun r h' => r = .ptr a 0 ∧ h' = h := by
 (refine qP (g := (tD1 S222)) rfl (by omega) fun k hk => ?_; show wp (S222 (callT tab qA k) _ _).1 _; unfold S222; try simp only [ Int.ofNat_eq_natCast])
 refine qq (qJ (qG H s1 rfl (qq (qJ (qG H s1 rfl (qd H s2 (qb (by omega) ?_)))))))
 rw [show ((ps.length + 1 : Nat) : Int) - ((1 : Nat) : Int) = ((ps.length : Nat) : Int) by omega]
 exact jF (H.sl s2) (Va a ps) (qW ⟨rfl, rfl⟩)
theorem YO {n : Nat} (hn : 2 ≤ n) (H : HS g h R) : wp (callT tab qA n (.fn 81 [] []) [] h) fun v h' => ∃ a, v = .ptr a 0 ∧ HS g h' (LvC a ([], []) :: R) := by
 (refine qP (g := (tD0 S81)) rfl (by omega) fun k hk => ?_; show wp (S81 (callT tab qA k) _).1 _; unfold S81; try simp only [ Int.ofNat_eq_natCast])
 refine qY (Kg (m := 96) (by omega) (by omega) H) ?_
 rintro _ h2 ⟨w, rfl, H2⟩
 refine qF rfl (qU H2 rfl fun a h3 H3 => qW ⟨a, rfl, ?_⟩)
 exact LvC.I (w := w) (fv := .nils) ((H3.nils (e := 3) (sz := 1)).sub (.cons e_1 (.cons e_1 (.cons .here (.refl)))))
theorem qJd {n : Nat} (hn : 3 ≤ n) {m : Int} (H : HS g h R) : wp (callT tab qA n (.fn 47 [] []) [.int .i64 m] h) fun v h' => ∃ q, v = .ptr q 0 ∧ HS g h' (LgC q (max 0 (min m 96)).toNat [([], [])] :: R) := by
 (refine qP (g := (tD1 S47)) rfl (by omega) fun k hk => ?_; show wp (S47 (callT tab qA k) _ _).1 _; unfold S47; try simp only [ Int.ofNat_eq_natCast])
 refine zx (zg (qY (YO (by omega) H) ?_))
 rintro _ h2 ⟨a, rfl, H2⟩
 refine qf (n := 1) (l := [.ptr a 0]) (sz := 1) H2 rfl rfl rfl rfl fun v h3 H3 => ?_
 have h1 := H3.one .here
 refine qF (l := [.int .i64 (max ((0 : Nat) : Int) (min m ((96 : Nat) : Int))), v]) (by simp only [yd, h1.1]; rfl) ?_
 refine qU H3 (by show (true && (v.one && true)) = true; rw [h1.2]; rfl) fun q h4 H4 => qW ⟨q, rfl, ?_⟩
 refine LgC.I1 (v := v) (a := a) (ps := []) rfl ?_
 rw [show (((max 0 (min m 96)).toNat : Nat) : Int) = max ((0 : Nat) : Int) (min m ((96 : Nat) : Int)) by omega]
 exact H4
theorem Oh {n q most : Nat} (hn : 2 ≤ n) {lv : List LvM} {b : Int} (H : HS g h (LgC q most lv :: R)) (O : OkL most lv) (hf : ∀ x ∈ lv, x.2.length < 1000000) :
  wp (callT tab qA n (.fn 241 [] []) [.ptr q 0, .int .i64 b] h) fun _ h' => HS g h' (LgC q most (k8 lv b) :: R) := by
 cases lv with
 | nil => have := O.one; simp at this
 | cons x r =>
 (refine qP (g := (tD2 S241)) rfl (by omega) fun k hk => ?_; show wp (S241 (callT tab qA k) _ _ _).1 _; unfold S241; try simp only [ Int.ofNat_eq_natCast])
 obtain ⟨v, a, ps, e, H⟩ := LgC.E1 H
 rw [← e] at H
 refine qY (Qw (by omega) H .here e_1 (by have := O.deep; simp at this; omega)) ?_
 rintro _ _ ⟨rfl, rfl⟩
 obtain ⟨w, fv, H2⟩ := LvC.E (H.sel e_2)
 with_reducible (refine qq ?_; refine qJ ?_; refine qG (by assumption) .here rfl ?_)
 refine qf (n := 1) (l := [.int .i64 b]) (sz := 1) H2 rfl rfl rfl rfl fun v3 h3 H3 => ?_
 have := hf x (List.mem_cons_self ..)
 refine je (H3.sel (P := qz 3 1 x.2.length fv (x.2.map (.int .i64))) e_3) (H3.sl .here) (by omega) (by omega) rfl fun v4 h4 H4 => ?_
 refine qq ?_; refine qJ ?_
 refine qc H4 e_2 (H4.one .here) (by simp) fun h5 H5 => qW ?_
 refine LgC.I1 (v := v) (a := a) (ps := ps) e ?_
 rw [← e]
 have := LvC.I (a := a) (w := w) (fv := v4) (x := (x.1, x.2 ++ [b])) (R := qw q [.int .i64 (most : Int), v] :: qz 136 1 (ps.length + 1) v (z8 (a :: ps)) :: (List.zipWith LvC ps r ++ R))
  (by rw [List.map_append, List.length_append]; exact H5.sub (.cons .here (.cons e_2 (.cons .here (.cons e_1 (.cons e_1 (.drop (.refl))))))))
 exact this.sub (.cons e_1 (.cons e_1 (.refl)))
theorem Ok {n q most : Nat} (hn : 1 ≤ n) {lv : List LvM} (H : HS g h (LgC q most lv :: R)) (O : OkL most lv) (hf : (zE lv).length < 1000000) :
  wp (callT tab qA n (.fn 70 [] []) [.ptr q 0] h) fun v h' => HS g h' (qz 3 1 (zE lv).length v ((zE lv).map (.int .i64)) :: LgC q most lv :: R) := by
 (refine qP (g := (tD1 S70)) rfl (by omega) fun k hk => ?_; show wp (S70 (callT tab qA k) _ _).1 _; unfold S70; try simp only [ Int.ofNat_eq_natCast])
 have hd := O.deep
 obtain ⟨v, ps, e, H⟩ := LgC.E H
 with_reducible (refine qq ?_; refine qJ ?_; refine qG (by assumption) .here rfl ?_; refine qd (by assumption) e_1 ?_)
 refine jz (fun m s h' => ∃ (i : Nat) (acc : AV), s = (.int .i64 (i : Int), .int .i64 (lv.length : Int), v, acc, ()) ∧ i ≤ lv.length ∧ m = lv.length - i ∧
  HS g h' (qz 3 1 ((lv.reverse.take i).flatMap (·.2)).length acc (((lv.reverse.take i).flatMap (·.2)).map (.int .i64)) :: qw q [.int .i64 (most : Int), v] :: qz 136 1 lv.length v (z8 ps) :: (List.zipWith LvC ps lv ++ R)))
  ?_ (m := lv.length) (by have := O.deep; show _ < 1000000000; omega) ⟨0, .nils, rfl, by omega, by omega, H.nils⟩
 rintro m ih s h' hih ⟨i, acc, rfl, h1, rfl, H⟩
 dsimp only
 refine jA (fun hlt => qV ?_) fun hge => qQ (qj (qW ?_))
 ·have hi : i < lv.length := by omega
  have ha : ps[ps.length - 1 - i]? = some (ps[ps.length - 1 - i]'(by omega)) := List.getElem?_eq_getElem _
  have hx : lv[ps.length - 1 - i]? = some (lv[ps.length - 1 - i]'(by omega)) := List.getElem?_eq_getElem _
  generalize ps[ps.length - 1 - i]'(by omega) = a at ha
  have hx2 : lv.reverse[i]? = some (lv[ps.length - 1 - i]'(by omega)) := by rw [List.getElem?_reverse hi, ← hx, e]
  generalize lv[ps.length - 1 - i]'(by omega) = x at hx hx2
  refine jF (H.sl e_2) (by rw [Jg (by omega), ha]; rfl) ?_
  obtain ⟨T, s⟩ := XG (R := R) ha hx
  have H2 := H.sel (.there (.there (.there s)))
  obtain ⟨w, fv, H3⟩ := LvC.E H2
  with_reducible (refine qq ?_; refine qJ ?_; refine qG (by assumption) .here rfl ?_)
  have hlen : ((lv.reverse.take i).flatMap (·.2)).length + x.2.length ≤ (zE lv).length := by
   have e1 : lv.reverse.flatMap (·.2) = (lv.reverse.take (i + 1)).flatMap (·.2) ++ (lv.reverse.drop (i + 1)).flatMap (·.2) := by rw [← List.flatMap_append, List.take_append_drop]
   unfold zE
   rw [e1, List.take_add_one, hx2]
   simp
  refine je (H3.sel (P := qz 3 1 ((lv.reverse.take i).flatMap (·.2)).length acc (((lv.reverse.take i).flatMap (·.2)).map (.int .i64))) e_3) (H3.sl e_2) (by omega) (by omega) ?_ fun v4 h4 H4 => qD (by omega) ?_
  ·simp [q9, AV.one]
  refine hih (lv.length - (i + 1)) _ _ (by omega) ⟨i + 1, v4, rfl, by omega, rfl, ?_⟩
  rw [List.take_add_one, hx2, Option.toList_some, List.flatMap_append, List.map_append, List.length_append, List.flatMap_cons, List.flatMap_nil, List.append_nil]
  have H5 := LvC.I (a := a) (w := w) (fv := fv) (x := x) (H4.sub (.cons e_1 (.cons e_1 (.cons e_1 .refl))))
  exact HS.unsel (.there (.there (.there s))) (H5.sub (.refl))
 ·obtain rfl : i = lv.length := by omega
  rw [List.take_of_length_le (by simp)] at H
  exact (LgC.I (v := v) (ps := ps) e (HS.back (A := _ :: _ :: List.zipWith LvC ps lv) H)).sub (.cons e_1 (.refl))
theorem rsum (l : List Nat) : l.reverse.sum = l.sum := by
 induction l with
 | nil => rfl
 | cons a l ih => rw [List.reverse_cons, List.sum_append, ih, List.sum_cons]; simp [Nat.add_comm]
theorem qQe {n q most : Nat} (hn : 2 ≤ n) {lv : List LvM} (H : HS g h (LgC q most lv :: R)) (O : OkL most lv) :
  wp (callT tab qA n (.fn 239 [] []) [.ptr q 0] h) fun v h' => v = .int .i64 ((most : Int) - (xk lv : Int)) ∧ h' = h := by
 (refine qP (g := (tD1 S239)) rfl (by omega) fun k hk => ?_; show wp (S239 (callT tab qA k) _ _).1 _; unfold S239; try simp only [ Int.ofNat_eq_natCast])
 obtain ⟨v, ps, e, H⟩ := LgC.E H
 have hh := O.held
 have hl := O.le
 have hd := O.deep
 with_reducible (refine qq ?_; refine qJ ?_; refine qG (by assumption) .here rfl ?_; refine qq ?_; refine qJ ?_; refine qG (by assumption) .here rfl ?_; refine qd (by assumption) e_1 ?_)
 refine jz (fun m s h' => ∃ (i : Nat), s = (.int .i64 (i : Int), .int .i64 (lv.length : Int), v, .int .i64 ((most : Int) - (((lv.reverse.take i).map fun x => x.1.length).sum : Nat)), ()) ∧ i ≤ lv.length ∧ m = lv.length - i ∧ h' = h)
  ?_ (m := lv.length) (by show _ < 1000000000; omega) ⟨0, by simp, by omega, by omega, rfl⟩
 rintro m ih s h' hih ⟨i, rfl, h1, rfl, rfl⟩
 dsimp only
 have hsum : ∀ j, ((lv.reverse.take j).map fun x => x.1.length).sum + ((lv.reverse.drop j).map fun x => x.1.length).sum = xk lv := by
  intro j
  rw [← List.sum_append, ← List.map_append, List.take_append_drop, List.map_reverse, rsum]; rfl
 refine jA (fun hlt => qV ?_) fun hge => qQ (qj (qW ⟨?_, rfl⟩))
 ·have hi : i < lv.length := by omega
  have ha : ps[ps.length - 1 - i]? = some (ps[ps.length - 1 - i]'(by omega)) := List.getElem?_eq_getElem _
  have hx : lv[ps.length - 1 - i]? = some (lv[ps.length - 1 - i]'(by omega)) := List.getElem?_eq_getElem _
  generalize ps[ps.length - 1 - i]'(by omega) = a at ha
  have hx2 : lv.reverse[i]? = some (lv[ps.length - 1 - i]'(by omega)) := by rw [List.getElem?_reverse hi, ← hx, e]
  generalize lv[ps.length - 1 - i]'(by omega) = x at hx hx2
  refine jF (H.sl e_1) (by rw [Jg (by omega), ha]; rfl) ?_
  obtain ⟨T, s⟩ := XG (R := R) ha hx
  obtain ⟨w, fv, H3⟩ := LvC.E (H.sel (.there (.there s)))
  with_reducible (refine qq ?_; refine qJ ?_; refine qG (by assumption) .here rfl ?_)
  refine qY (qZ1 (by omega) (H3.sel e_1)) ?_
  rintro _ _ ⟨rfl, rfl⟩
  have h2 := hsum i
  have h3 := hsum (i + 1)
  have h4 : ((lv.reverse.take (i + 1)).map fun x => x.1.length).sum = ((lv.reverse.take i).map fun x => x.1.length).sum + x.1.length := by
   rw [List.take_add_one, hx2, Option.toList_some, List.map_append, List.sum_append]; simp
  refine qb (by omega) (qD (by omega) (hih (lv.length - (i + 1)) _ _ (by omega) ⟨i + 1, ?_, by omega, rfl, rfl⟩))
  rw [h4]
  refine Prod.ext ?_ (Prod.ext rfl (Prod.ext rfl (Prod.ext ?_ rfl)))
  ·show AV.int _ _ = AV.int _ _
   congr 1
  ·show AV.int _ _ = AV.int _ _
   congr 1
   omega
 ·have h2 := hsum i
  rw [List.drop_of_length_le (by simp; omega)] at h2
  rw [show ((lv.reverse.take i).map fun x => x.1.length).sum = xk lv by simpa using h2]
theorem MW {k b0 l : Nat} {v : AV} {ps : List Nat} {Inv : Nat → AH → Prop} {Fin : AH → Prop}
  (hrd : ∀ i h, Inv i h → h.at b0 0 = some v ∧ Sl (fun _ => True) h 1 ps.length v (z8 ps))
  (hy : ∀ i a h, ps[i]? = some a → Inv i h → wp (callT tab qA k (.yield l) [.int .i64 ((ps.length - 1 - i : Nat) : Int), .ptr a 0] h) fun r h' => (r = .bool true ∧ Inv (i + 1) h') ∨ (r = .bool false ∧ Fin h'))
  (hl : ps.length < 1000000) (h0 : Inv 0 h) : wp (callT tab qA (k + 1) (.fn 150 [] [.ptr b0 0]) [.yield l] h) fun _ h' => Inv ps.length h' ∨ Fin h' := by
 refine qKd (g := (tD2 S150)) rfl (by omega) fun k' hk => ?_
 obtain rfl : k' = k := by omega
 show wp (S150 _ _ _ _) _
 unfold S150
 try simp only [iI, uU, Int.ofNat_eq_natCast]
 obtain ⟨r1, r2⟩ := hrd 0 h h0
 refine vM r1 (jb r2 (qb (by omega) ?_))
 refine jz (fun m s h' => ∃ i : Nat, s = (.int .i64 ((ps.length : Int) - ((1 : Nat) : Int) - (i : Int)), .ptr b0 0, .yield l, ()) ∧ i ≤ ps.length ∧ m = ps.length - i ∧ Inv i h') ?_ (m := ps.length) (by show _ < 1000000000; omega) ⟨0, by simp, by omega, by omega, h0⟩
 rintro m ih s h' hih ⟨i, rfl, h1, rfl, hI⟩
 dsimp only
 obtain ⟨r1, r2⟩ := hrd i h' hI
 refine xW (fun hlt => qV ?_) fun hge => qQ (qj (qW (.inl ?_)))
 ·have hi : i < ps.length := by omega
  have ha : ps[i]? = some ps[i] := List.getElem?_eq_getElem hi
  rw [show (ps.length : Int) - ((1 : Nat) : Int) - (i : Int) = ((ps.length - 1 - i : Nat) : Int) by omega]
  refine vM r1 (jF r2 (by rw [Jg (by omega), show ps.length - 1 - (ps.length - 1 - i) = i by omega, ha]; rfl) ?_)
  refine qY (hy i _ h' ha hI) ?_
  rintro _ h2 (⟨rfl, hI2⟩ | ⟨rfl, hF⟩)
  ·refine qo (qQ (qb (by omega) (hih (ps.length - (i + 1)) _ _ (by omega) ⟨i + 1, ?_, by omega, rfl, hI2⟩)))
   refine Prod.ext ?_ rfl
   show AV.int _ _ = AV.int _ _
   congr 1
   omega
  ·exact jq (qV (qj (qW (.inr hF))))
 ·obtain rfl : i = ps.length := by omega
  exact hI
theorem GL {p : Int} : ∀ {lv : List LvM}, (∀ (j : Nat) x, lv[j]? = some x → zR p x.1 = none) → ku p lv = none := by
 intro lv
 induction lv with
 | nil => intro _; rfl
 | cons x r ih =>
  intro h
  unfold ku
  rw [h 0 x rfl]
  exact ih fun j y hy => h (j + 1) y (by simpa using hy)
theorem Yo {p v : Int} : ∀ {lv : List LvM} {i : Nat} {x : LvM}, (∀ j, j < i → ∀ x, lv[j]? = some x → zR p x.1 = none) → lv[i]? = some x → zR p x.1 = some v → ku p lv = some v := by
 intro lv
 induction lv with
 | nil => intro i x _ h; simp at h
 | cons y r ih =>
  intro i x h1 h2 h3
  unfold ku
  cases i with
  | zero => simp at h2; subst h2; rw [h3]
  | succ i =>
   rw [h1 0 (by omega) y rfl]
   exact ih (i := i) (x := x) (fun j hj z hz => h1 (j + 1) (by omega) z (by simpa using hz)) (by simpa using h2) h3
theorem OkL.len {most : Nat} {lv : List LvM} (O : OkL most lv) {x : LvM} (hx : x ∈ lv) : x.1.length ≤ 96 := by
 have h1 := O.held
 have h2 := O.le
 have : x.1.length ≤ xk lv := by
  clear h1 O
  induction lv with
  | nil => cases hx
  | cons y r ih =>
   rw [zj]
   rcases List.mem_cons.1 hx with rfl | hx
   ·omega
   ·have := ih hx; omega
 omega
theorem Jm {n : Nat} (hn : 1 ≤ n) {v : AV} (h1 : One v) (H : HS g h L) : wp (callT tab qA n (.fn 99 [] []) [v] h) fun r h' => ∃ b, r = .fn 150 [] [.ptr b 0] ∧ HS g h' (qw b [v] :: L) := by
 (refine qP (g := (tD1 S99)) rfl (by omega) fun k hk => ?_; show wp (S99 (callT tab qA k) _ _).1 _; unfold S99; try simp only [ Int.ofNat_eq_natCast])
 exact kO H h1 fun b h2 H2 => qW ⟨b, rfl, H2⟩
theorem qKD {n q most : Nat} (hn : 8 ≤ n) {lv : List LvM} {p : Int} (H : HS g h (LgC q most lv :: R)) (O : OkL most lv) :
  wp (callT tab qA n (.fn 157 [] []) [.ptr q 0, .int .i64 p] h) fun v h' => v = .tup [.int .u64 ((ku p lv).getD 0), .bool (ku p lv).isSome] ∧ HS g h' (LgC q most lv :: R) := by
 (refine qP (g := W157) rfl (by omega) fun k hk => ?_; show wp (S157 (callT tab qA k) _ _ _) _; unfold S157; try simp only [iI, uU, Int.ofNat_eq_natCast])
 obtain ⟨v, ps, e, H⟩ := LgC.E H
 have hd := O.deep
 refine kO H ⟨rfl, rfl⟩ fun b1 h1 H => kO H ⟨rfl, rfl⟩ fun b2 h2 H => kO H ⟨rfl, rfl⟩ fun b3 h3 H => ?_
 with_reducible (refine qq ?_; refine qJ ?_; refine qG (by assumption) e_3 rfl ?_)
 refine qY (Jm (by omega) (H.one e_4) H) ?_
 rintro _ h4 ⟨b4, rfl, H⟩
 have H5 := (H.newBlk .dfd).newBlk (.loop .ready none 157 [1, 0, 1, 0] [5, 4, 3] [.ptr b3 0, .ptr b2 0, .ptr b1 0] h4.nx)
 generalize (h4.new .dfd).nx = l at H5 ⊢
 generalize h4.nx = d at H5 ⊢
 obtain ⟨k2, rfl⟩ : ∃ k2, k = k2 + 1 := ⟨k - 1, by omega⟩
 refine KD (MW (b0 := b4) (v := v) (ps := ps)
  (Inv := fun i h' => HS g h' (vm l (.loop .ready none 157 [1, 0, 1, 0] [5, 4, 3] [.ptr b3 0, .ptr b2 0, .ptr b1 0] d) :: vm d .dfd :: qw b4 [v] :: qw b3 [.bool false] :: qw b2 [.int .u64 ((0 : Nat) : Int)] :: qw b1 [.int .i64 p] ::
   qw q [.int .i64 (most : Int), v] :: qz 136 1 lv.length v (z8 ps) :: (List.zipWith LvC ps lv ++ R)) ∧ ∀ j, j < i → ∀ x, lv[j]? = some x → zR p x.1 = none)
  (Fin := fun h' => ∃ x, ku p lv = some x ∧ HS g h' (vm l (.loop .done (some .ret) 157 [1, 0, 1, 0] [5, 4, 3] [.ptr b3 0, .ptr b2 0, .ptr b1 0] d) :: vm d .dfd :: qw b4 [v] :: qw b3 [.bool true] :: qw b2 [.int .u64 x] :: qw b1 [.int .i64 p] ::
   qw q [.int .i64 (most : Int), v] :: qz 136 1 lv.length v (z8 ps) :: (List.zipWith LvC ps lv ++ R)))
  ?_ ?_ (by omega) ⟨H5, fun j hj => by omega⟩) ?_
 ·rintro i h' ⟨H, _⟩
  obtain ⟨et, A⟩ := H.obj (b := b4) e_2
  exact ⟨A.at 0, e ▸ H.sl e_7⟩
 ·rintro i a h' ha ⟨H, hno⟩
  have hi := (List.getElem?_eq_some_iff.1 ha).1
  have hx : lv[i]? = some (lv[i]'(by omega)) := List.getElem?_eq_getElem _
  have hm : lv[i]'(by omega) ∈ lv := List.getElem_mem _
  generalize lv[i]'(by omega) = x at hx hm
  have hxl := O.len hm
  refine UQ (H.blk .here) (w := V1) rfl (by omega) fun k3 hk3 => ?_
  show wp (B1 _ _ _ _ _ (.int .i64 ((ps.length - 1 - i : Nat) : Int)) _ _) _
  unfold B1
  try simp only [iI, uU, Int.ofNat_eq_natCast]
  refine K4 H .here fun h6 H => ?_
  obtain ⟨T, s⟩ := XG (R := R) ha hx
  obtain ⟨w, fv, H7⟩ := LvC.E (H.sel (.there (.there (.there (.there (.there (.there (.there (.there s)))))))))
  with_reducible (refine qq ?_; refine qJ ?_; refine qG (by assumption) .here rfl ?_; refine qG (by assumption) e_8 rfl ?_)
  refine qY (Mw (by omega) (H7.sel e_1) (by omega)) ?_
  rintro _ h8 ⟨rfl, H8⟩
  with_reducible (refine qx rfl ?_; refine qx rfl ?_)
  cases hg : zR p x.1 with
  | none =>
   refine qQ (MD H8 e_3 fun h9 H9 => .inl ⟨rfl, ?_, fun j hj y hy => ?_⟩)
   ·have H10 := LvC.I (a := a) (w := w) (fv := fv) (x := x) (H9.sub (.cons e_2 (.cons e_1 (.cons e_1 .refl))))
    exact HS.unsel (.there (.there (.there (.there (.there (.there (.there (.there s)))))))) (H10.sub (.refl))
   ·by_cases hj' : j < i
    ·exact hno j hj' y hy
    ·obtain rfl : j = i := by omega
     rw [hx] at hy; cases hy; exact hg
  | some z =>
   refine qV (qc H8 (b := b2) e_7 ⟨rfl, rfl⟩ (by simp) fun h9 H9 => qc H9 (b := b3) e_7 ⟨rfl, rfl⟩ (by simp) fun h10 H10 => qZp H10 e_5 fun h11 H11 => .inr ⟨rfl, z, Yo hno hx hg, ?_⟩)
   have H12 := LvC.I (a := a) (w := w) (fv := fv) (x := x) (H11.sub (.cons e_4 (.cons e_3 (.cons e_3 .refl))))
   exact HS.unsel (.there (.there (.there (.there (.there (.there (.there (.there s)))))))) (H12.sub (.cons .here (.cons .here (.cons e_2 (.cons e_2 (.cons .here (.cons .here (.refl))))))))
 ·rintro _ h6 (⟨H, hno⟩ | ⟨x, hx, H⟩)
  ·have hg : ku p lv = none := GL fun j x hj => hno j (by have := (List.getElem?_eq_some_iff.1 hj).1; omega) x hj
   refine Kw H .here (fun h => by cases h) fun h7 H => UE (qc H (b := b2) e_4 ⟨rfl, rfl⟩ (by simp) fun h8 H => qc H (b := b3) e_4 ⟨rfl, rfl⟩ (by simp) fun h9 H => JD H e_3 fun h10 H => ?_)
   with_reducible (refine qG (by assumption) e_2 rfl ?_; refine qG (by assumption) e_1 rfl ?_)
   refine qW ⟨by rw [hg]; rfl, ?_⟩
   exact LgC.I (v := v) (ps := ps) e (H.sub (.cons e_6 (.cons e_6 (.drop (.drop (.drop (.drop (.drop (.drop (.refl))))))))))
  ·refine Kw H .here (fun h => by cases h) fun h7 H => qJH (qVe rfl (JD H e_1 fun h8 H => ?_))
   with_reducible (refine qG (by assumption) e_4 rfl ?_; refine qG (by assumption) e_3 rfl ?_)
   refine qW ⟨by rw [hx]; rfl, ?_⟩
   exact LgC.I (v := v) (ps := ps) e (H.sub (.cons e_6 (.cons e_6 (.drop (.drop (.drop (.drop (.drop (.drop (.refl))))))))))
theorem qVm {x : LvM} {r : List LvM} {most : Nat} {p v : Int} (O : OkL most (x :: r)) (hp : ¬ (p < 1 ∨ 256 ≤ p)) (hf : ¬ (zR p x.1 = none ∧ most ≤ xk (x :: r))) : kr 96 x.1 p v = (0, xF p v x.1) := by
 have h1 := O.held
 have h2 := O.le
 rw [zj] at h1 hf
 unfold kr
 rw [if_neg hp, if_neg (fun h => hf ⟨h.1, by omega⟩)]
theorem Mq {n q most : Nat} (hn : 5 ≤ n) {lv : List LvM} {p v : Int} (H : HS g h (LgC q most lv :: R)) (O : OkL most lv) :
  wp (callT tab qA n (.fn 194 [] []) [.ptr q 0, .int .i64 p, .int .u64 v] h) fun r h' => r = .int .i64 (xH most lv p v).1 ∧ HS g h' (LgC q most (xH most lv p v).2 :: R) := by
 cases lv with
 | nil => have := O.one; simp at this
 | cons x r =>
 have hxl := O.len (x := x) (List.mem_cons_self ..)
 (refine qP (g := (tD3 S194)) rfl (by omega) fun k hk => ?_; show wp (S194 (callT tab qA k) _ _ _ _).1 _; unfold S194; try simp only [ Int.ofNat_eq_natCast])
 unfold xH
 by_cases hp : p < 1 ∨ 256 ≤ p
 ·simp only [if_pos hp]
  repeat' (first | with_reducible refine qV ?_ | with_reducible refine qQ ?_ | (with_reducible refine qR ?_; try dsimp only) | (with_reducible refine qS ?_; try dsimp only) | (with_reducible refine qO ?_; try dsimp only) | (with_reducible refine qB ?_; try dsimp only) | (with_reducible refine jW ?_; try dsimp only) | with_reducible refine qC ?_ | with_reducible refine qv ?_ | (with_reducible refine qX ?_; try dsimp only) | with_reducible refine qj ?_ | with_reducible refine qo ?_ | with_reducible refine jq ?_ | with_reducible refine qD (by omega) ?_ | with_reducible refine qb (by omega) ?_ | with_reducible refine zk (by omega) ?_ | with_reducible refine zy (by omega) ?_ | with_reducible refine zx ?_ | with_reducible refine zg ?_ | with_reducible refine qy (by omega) ?_ | with_reducible refine qK (by omega) ?_ | with_reducible refine jk (by omega) ?_ | with_reducible refine jj (by omega) ?_ | with_reducible refine jC (by omega) ?_ | with_reducible refine jv (by omega) ?_ | with_reducible refine z7 (by omega) ?_ | with_reducible refine z6 (by omega) ?_ | with_reducible refine jl (by omega) ?_ | with_reducible refine ja (by omega) ?_ | with_reducible refine jV (by omega) ?_ | with_reducible refine jQ (by omega) ?_ | with_reducible refine jA (fun hc => ?_) (fun hc => ?_) | with_reducible refine xg (fun hc => ?_) (fun hc => ?_) | with_reducible refine zi (fun hc => ?_) (fun hc => ?_) | with_reducible refine xW (fun hc => ?_) (fun hc => ?_) | with_reducible refine xG (fun hc => ?_) (fun hc => ?_) | with_reducible refine zA (fun hc => ?_) (fun hc => ?_) | with_reducible refine xZ (fun hc => ?_) (fun hc => ?_))
  all_goals exact qW ⟨rfl, H⟩
 simp only [if_neg hp]
 with_reducible (refine jv (by omega) ?_; refine qX ?_; (try dsimp only); refine qB ?_; (try dsimp only); refine jQ (by omega) ?_; refine qv ?_; refine qQ ?_)
 have hH := H
 obtain ⟨sv, a, ps, e, H⟩ := LgC.E1 H
 rw [← e] at H
 refine qY (Qw (by omega) H .here e_1 (by have := O.deep; simp at this; omega)) ?_
 rintro _ _ ⟨rfl, rfl⟩
 obtain ⟨w, fv, H2⟩ := LvC.E (H.sel e_2)
 with_reducible (refine qq ?_; refine qJ ?_; refine qG (by assumption) .here rfl ?_)
 refine qY (Mw (by omega) (H2.sel e_1) (by omega)) ?_
 rintro _ h3 ⟨rfl, H3⟩
 with_reducible (refine qx rfl ?_; refine qx rfl ?_)
 have H4 : HS g h3 (LgC q most (x :: r) :: R) := by
  have H4 := LvC.I (a := a) (w := w) (fv := fv) (x := x) (H3.sub (.cons e_1 (.cons .here .refl)))
  refine LgC.I1 (v := sv) (a := a) (ps := ps) e ?_
  rw [← e]
  exact H4.sub (.cons e_1 (.cons e_1 (.refl)))
 have fin : ¬ (zR p x.1 = none ∧ most ≤ xk (x :: r)) → ∀ h5, HS g h5 (WrC w 96 x.1 :: qw a [.ptr w 0, fv] :: qz 3 1 x.2.length fv (x.2.map (.int .i64)) :: qw q [.int .i64 (most : Int), sv] :: qz 136 1 (ps.length + 1) sv (z8 (a :: ps)) :: (List.zipWith LvC ps r ++ R)) →
   wp (callT tab qA k (.fn 151 [] []) [.ptr w 0, .int .i64 p, .int .u64 v] h5) fun r' h' => r' = .int .i64 0 ∧ HS g h' (LgC q most ((xF p v x.1, x.2) :: r) :: R) := by
  intro hf h5 H5
  refine (Me (by omega) H5 (by omega)).mono ?_
  rintro _ h6 ⟨rfl, H6⟩
  rw [qVm O hp hf] at H6 ⊢
  refine ⟨rfl, LgC.I1 (v := sv) (a := a) (ps := ps) e ?_⟩
  rw [← e]
  have H7 := LvC.I (a := a) (w := w) (fv := fv) (x := (xF p v x.1, x.2)) (H6.sub (.cons e_1 (.cons .here .refl)))
  exact H7.sub (.cons e_1 (.cons e_1 (.refl)))
 cases hg : zR p x.1 with
 | some z =>
  simp only [Option.isSome_some]
  with_reducible (refine qo ?_; refine qX ?_; (try dsimp only); refine qO ?_; (try dsimp only); refine qv ?_; refine qQ ?_)
  rw [if_neg (fun h => by cases h.1)]
  refine qY (fin (fun h => by rw [hg] at h; cases h.1) h3 (H3.sub (.refl))) ?_
  rintro _ h6 ⟨rfl, H6⟩
  exact qW ⟨rfl, H6⟩
 | none =>
  simp only [Option.isSome_none]
  with_reducible (refine jq ?_; refine qX ?_; (try dsimp only); refine qR ?_; (try dsimp only))
  refine qY (qQe (by omega) H4 O) ?_
  rintro _ _ ⟨rfl, rfl⟩
  have hh := O.held
  refine xG (fun h0 => ?_) fun h0 => ?_
  ·refine qC ?_; refine qV ?_
   rw [if_pos ⟨by trivial, by omega⟩]
   exact qW ⟨rfl, H4⟩
  ·refine qC ?_; refine qQ ?_
   rw [if_neg (fun h => h0 (by omega))]
   refine qY (fin (fun h => h0 (by omega)) _ (H3.sub (.refl))) ?_
   rintro _ h6 ⟨rfl, H6⟩
   exact qW ⟨rfl, H6⟩
theorem JM {most : Nat} {x : LvM} {r : List LvM} {p v : Int} : ∃ c, (xH most (x :: r) p v).2 = (c, x.2) :: r := by
 unfold xH
 dsimp only
 split
 ·exact ⟨x.1, rfl⟩
 ·split
  ·exact ⟨x.1, rfl⟩
  ·exact ⟨_, rfl⟩
theorem qJS {n q most : Nat} (hn : 7 ≤ n) {lv : List LvM} {cs : List Cl} {c : AV} (H : HS g h (LgC q most lv :: R)) (O : OkL most lv) (S : Rd g R 2 cs.length c (cs.flatMap jJ)) (hc : cs.length < 100000) :
  wp (callT tab qA n (.fn 158 [] []) [.ptr q 0, c] h) fun r h' => r = .int .i64 (xC most lv lv cs).1 ∧ HS g h' (LgC q most (xC most lv lv cs).2 :: R) := by
 cases lv with
 | nil => have := O.one; simp at this
 | cons x r =>
 have hxl := O.len (x := x) (List.mem_cons_self ..)
 have hxi := O.ins x (List.mem_cons_self ..)
 have hxu := O.un x (List.mem_cons_self ..)
 (refine qP (g := (tD2 S158)) rfl (by omega) fun k hk => ?_; show wp (S158 (callT tab qA k) _ _ _).1 _; unfold S158; try simp only [ Int.ofNat_eq_natCast])
 refine qY (Kg (m := 96) (by omega) (by omega) H) ?_
 rintro _ h1 ⟨w0, rfl, H1⟩
 obtain ⟨sv, a, ps, e, H2⟩ := LgC.E1 (H1.sel e_1)
 rw [← e] at H2
 refine qY (Qw (by omega) H2 .here e_1 (by have := O.deep; simp at this; omega)) ?_
 rintro _ _ ⟨rfl, rfl⟩
 obtain ⟨w, fv, H3⟩ := LvC.E (H2.sel e_2)
 with_reducible (refine qq ?_; refine qJ ?_; refine qG (by assumption) .here rfl ?_)
 refine qY (JG (by omega) (H3.sel (P := WrC w 96 x.1) e_1) (by omega)) fun va h4 H4 => ?_
 refine qY (QT (cs := x.1) (l := []) (m := 96) (w := w0) (by omega) (H4.sel (.there (.there (.there (.there (.there (.there (Sel.skip _ .here))))))))  (.own .here) (by simp) (by omega)) ?_
 rintro _ h5 ⟨_, H5⟩
 have ht : vR 96 [] x.1 = (0, x.1) := by
  unfold vR
  rw [Qh hxi (by simpa using hxl), GK hxu, if_pos rfl]
 rw [ht] at H5
 have H6 : HS g h5 (LgC q most (x :: r) :: WrC w0 96 x.1 :: R) := by
  have H7 := LvC.I (a := a) (w := w) (fv := fv) (x := x) (H5.sub (.cons e_3 (.cons e_2 (.cons e_2 .refl))))
  refine LgC.I1 (v := sv) (a := a) (ps := ps) e ?_
  rw [← e]
  have H8 : HS g h5 (WrC w0 96 x.1 :: (qw q [.int .i64 (most : Int), sv] :: qz 136 1 (ps.length + 1) sv (z8 (a :: ps)) :: LvC a x :: List.zipWith LvC ps r) ++ R) := H7.sub (.cons e_1 (.cons e_2 (.cons e_2 (.cons .here (.drop .refl)))))
  exact HS.back H8
 clear H1 H2 H3 H4 H5
 refine jb (S.sl H6.drop.drop) ?_
 refine jz (fun k s h' => ∃ (i : Nat) (c' : List Cl), s = (.int .i64 (i : Int), .int .i64 (cs.length : Int), c, .ptr w0 0, .ptr q 0, ()) ∧ i ≤ cs.length ∧ k = cs.length - i ∧ OkL most ((c', x.2) :: r) ∧
  HS g h' (LgC q most ((c', x.2) :: r) :: WrC w0 96 x.1 :: R) ∧ xC most (x :: r) (x :: r) cs = xC most (x :: r) ((c', x.2) :: r) (cs.drop i)) ?_ (m := cs.length) (by show _ < 1000000000; omega) ⟨0, x.1, rfl, by omega, by omega, O, H6, rfl⟩
 rintro k2 ih s h2 hih ⟨i, c', rfl, h1, rfl, O', H, hT⟩
 dsimp only
 refine jA (fun hlt => qV ?_) fun hge => qQ (qj (qW ?_))
 ·have hi : i < cs.length := by omega
  have hci : cs[i]? = some cs[i] := List.getElem?_eq_getElem hi
  refine zJ (l := jJ cs[i]) (S.sl H.drop.drop) hi (by omega) (Ql hci) ?_
  refine qU H rfl fun b h3 H3 => jG H3 .here rfl (by show 0 + 2 ≤ 2; omega) rfl fun h4 H4 => ?_
  have H5 : HS g h4 (qw b (jJ cs[i]) :: LgC q most ((c', x.2) :: r) :: WrC w0 96 x.1 :: R) := H4
  unfold jJ at H5
  with_reducible (refine qJ ?_; refine qG (by assumption) .here rfl ?_; refine qJ ?_; refine qG (by assumption) .here rfl ?_)
  refine qY (Mq (by omega) H5.drop O') ?_
  rintro _ h6 ⟨rfl, H6⟩
  rw [List.drop_eq_getElem_cons hi, xl] at hT
  have O2 := (J3 (p := cs[i].1) (v := cs[i].2) O').1
  obtain ⟨c2, hc2⟩ := JM (most := most) (x := (c', x.2)) (r := r) (p := cs[i].1) (v := cs[i].2)
  refine zA (fun hne => qV ?_) fun he => qQ (qD (by omega) ?_)
  ·have hne : ¬ (xH most ((c', x.2) :: r) cs[i].1 cs[i].2).1 = 0 := by simpa using hne
   rw [if_neg hne] at hT
   rw [hc2] at H6
   obtain ⟨sv, a, ps, e, H7⟩ := LgC.E1 H6
   rw [← e] at H7
   refine qY (Qw (by omega) H7 .here e_1 (by have := O.deep; simp at this; omega)) ?_
   rintro _ _ ⟨rfl, rfl⟩
   obtain ⟨w, fv, H8⟩ := LvC.E (H7.sel e_2)
   refine qq ?_; refine qJ ?_
   refine qc H8 .here ⟨rfl, rfl⟩ (by simp) fun h9 H9 => qj (qW ?_)
   rw [hT]
   refine ⟨rfl, LgC.I1 (v := sv) (a := a) (ps := ps) e ?_⟩
   rw [← e]
   obtain ⟨T, sT, uT⟩ : ∃ T, Sel (List.zipWith LvC ps r ++ WrC w0 96 x.1 :: R) (WrC w0 96 x.1) T ∧ T = List.zipWith LvC ps r ++ R := ⟨_, Sel.skip _ .here, rfl⟩
   subst uT
   have H10 := LvC.I (a := a) (w := w0) (fv := fv) (x := x) (H9.sub (.cons .here (.cons (.there (.there (.there (.there sT)))) (.cons e_1 (.drop .refl)))))
   exact H10.sub (.cons e_1 (.cons e_1 (.refl)))
  ·have he' : (xH most ((c', x.2) :: r) cs[i].1 cs[i].2).1 = 0 := by simpa using he
   rw [if_pos he', hc2] at hT
   rw [hc2] at H6 O2
   exact hih (cs.length - (i + 1)) _ _ (by omega) ⟨i + 1, c2, rfl, by omega, rfl, O2, H6, hT⟩
 ·rw [List.drop_of_length_le (by omega)] at hT
  have hT : xC most (x :: r) (x :: r) cs = (0, (c', x.2) :: r) := hT
  rw [hT]
  exact ⟨rfl, H.sub (.cons .here (.drop .refl))⟩
theorem Xh (a : Nat) (ps : List Nat) : z8 (a :: ps) = z8 ps ++ [.ptr a 0] := by unfold z8; rw [List.reverse_cons, List.map_append]; rfl
theorem GZ (ps : List Nat) : (z8 ps).length = ps.length := by simp [z8]
theorem qQb {n q most : Nat} (hn : 3 ≤ n) {lv : List LvM} (H : HS g h (LgC q most lv :: R)) (O : OkL most lv) :
  wp (callT tab qA n (.fn 242 [] []) [.ptr q 0] h) fun v h' => v = .int .i64 (yY lv).1 ∧ HS g h' (LgC q most (yY lv).2 :: R) := by
 (refine qP (g := (tD1 S242)) rfl (by omega) fun k hk => ?_; show wp (S242 (callT tab qA k) _ _).1 _; unfold S242; try simp only [ Int.ofNat_eq_natCast])
 have hH := H
 obtain ⟨v, ps, e, H⟩ := LgC.E H
 unfold yY
 by_cases h6 : 6 ≤ lv.length
 ·rw [if_pos h6]
  with_reducible (refine qq ?_; refine qJ ?_; refine qG (by assumption) .here rfl ?_; refine qd (by assumption) e_1 ?_; refine jV (by omega) ?_; refine qV ?_)
  exact qW ⟨rfl, hH⟩
 ·rw [if_neg h6]
  with_reducible (refine qq ?_; refine qJ ?_; refine qG (by assumption) .here rfl ?_; refine qd (by assumption) e_1 ?_; refine jQ (by omega) ?_; refine qQ ?_; refine qX ?_; (try dsimp only); refine qq ?_; refine qJ ?_; refine qG (by assumption) .here rfl ?_)
  refine qY (YO (by omega) H) ?_
  rintro _ h2 ⟨a, rfl, H2⟩
  refine qf (n := 1) (l := [.ptr a 0]) (sz := 1) H2 rfl rfl rfl rfl fun v3 h3 H3 => ?_
  refine je (H3.sel e_3) (H3.sl .here) (by omega) (by omega) rfl fun v4 h4 H4 => ?_
  refine qq ?_; refine qJ ?_
  refine qc H4 (b := q) e_3 (H4.one .here) (by simp) fun h5 H5 => ?_
  with_reducible (refine jc (by assumption) .here rfl (by assumption) e_1 rfl (HS.lt (by assumption) .here) ?_)
  refine qW ⟨rfl, LgC.I1 (v := v4) (a := a) (ps := ps) e ?_⟩
  rw [Xh]
  exact H5.sub (.cons .here (.cons .here (.cons e_1 (.drop (.refl)))))
theorem KP {n q : Nat} (hn : 1 ≤ n) {m v : AV} {a : Nat} {ps : List Nat} (h1 : 1 ≤ ps.length) (hl : ps.length < 1000) (H : HS g h (qw q [m, v] :: qz 136 1 (ps.length + 1) v (z8 (a :: ps)) :: R)) :
  wp (callT tab qA n (.fn 203 [] []) [.ptr q 0] h) fun r h' => r = .int .i64 0 ∧ ∃ v', HS g h' (qw q [m, v'] :: qz 136 1 ps.length v' (z8 ps) :: R) := by
 (refine qP (g := (tD1 S203)) rfl (by omega) fun k hk => ?_; show wp (S203 (callT tab qA k) _ _).1 _; unfold S203; try simp only [ Int.ofNat_eq_natCast])
 with_reducible (refine qq ?_; refine qJ ?_; refine qG (by assumption) .here rfl ?_; refine qd (by assumption) e_1 ?_; refine qK (by omega) ?_; refine qQ ?_; refine qq ?_; refine qJ ?_; refine qG (by assumption) .here rfl ?_; refine qq ?_; refine qJ ?_; refine qG (by assumption) .here rfl ?_; refine qd (by assumption) e_1 ?_; refine qb (by omega) ?_)
 rw [show ((ps.length + 1 : Nat) : Int) - ((1 : Nat) : Int) = ((ps.length : Nat) : Int) by omega]
 refine yx (H.sel e_1) (by omega) (by omega) fun v' H2 => ?_
 refine qq ?_; refine qJ ?_
 refine qc H2 (b := q) e_1 (H2.one .here) (by simp) fun h3 H3 => qW ⟨rfl, v', ?_⟩
 rw [Xh, Nat.mul_one, ← GZ ps, List.take_left, GZ] at H3
 exact H3.sub (.cons .here (.refl))
theorem Uq {n q most : Nat} (hn : 1 ≤ n) {lv : List LvM} (H : HS g h (LgC q most lv :: R)) (O : OkL most lv) :
  wp (callT tab qA n (.fn 203 [] []) [.ptr q 0] h) fun v h' => v = .int .i64 (vk lv).1 ∧ HS g h' (LgC q most (vk lv).2 :: R) := by
 unfold vk
 by_cases h1 : lv.length = 1
 ·rw [if_pos h1]
  (refine qP (g := (tD1 S203)) rfl (by omega) fun k hk => ?_; show wp (S203 (callT tab qA k) _ _).1 _; unfold S203; try simp only [ Int.ofNat_eq_natCast])
  have hH := H
  obtain ⟨v, ps, e, H⟩ := LgC.E H
  with_reducible (refine qq ?_; refine qJ ?_; refine qG (by assumption) .here rfl ?_; refine qd (by assumption) e_1 ?_; refine qy (by omega) ?_; refine qV ?_)
  exact qW ⟨rfl, hH⟩
 ·rw [if_neg h1]
  cases lv with
  | nil => have := O.one; simp at this
  | cons x r =>
  have hd := O.deep
  simp at h1 hd
  have h1' : 1 ≤ r.length := by cases r with | nil => simp at h1 | cons _ _ => simp
  obtain ⟨v, a, ps, e, H⟩ := LgC.E1 H
  rw [← e] at H
  refine (KP hn (by omega) (by omega) H).mono ?_
  rintro _ h2 ⟨rfl, v', H2⟩
  refine ⟨rfl, LgC.I (v := v') (ps := ps) e ?_⟩
  show HS g h2 (_ :: qz 136 1 r.length v' _ :: (List.zipWith LvC ps r ++ R))
  rw [← e]
  exact H2.sub (.cons .here (.cons .here (.drop .refl)))
theorem Zj {n q most : Nat} (hn : 6 ≤ n) {lv : List LvM} (H : HS g h (LgC q most lv :: R)) (O : OkL most lv) (hf : ∀ x ∈ lv, x.2.length < 1000000) :
  wp (callT tab qA n (.fn 201 [] []) [.ptr q 0] h) fun v h' => v = .int .i64 (vU lv).1 ∧ HS g h' (LgC q most (vU lv).2 :: R) := by
 rcases lv with _ | ⟨x, _ | ⟨y, r⟩⟩
 ·have := O.one; simp at this
 ·
  (refine qP (g := (tD1 S201)) rfl (by omega) fun k hk => ?_; show wp (S201 (callT tab qA k) _ _).1 _; unfold S201; try simp only [ Int.ofNat_eq_natCast])
  obtain ⟨v, a, ps, e, H2⟩ := LgC.E1 H
  rw [← e] at H2
  refine qY (Qw (by omega) H2 .here e_1 (by simp at e; simp [e])) ?_
  rintro _ _ ⟨rfl, rfl⟩
  refine qY (Uq (by omega) H O) ?_
  rintro _ h3 ⟨rfl, H3⟩
  rw [show vk [x] = (10, [x]) from rfl] at H3 ⊢
  with_reducible (refine jk (by omega) ?_; refine qV ?_)
  exact qW ⟨rfl, H3⟩
 ·
  have hx := hf x (by simp)
  have hy := hf y (by simp)
  have hxi := O.ins x (by simp)
  have hd := O.deep
  have hh := O.held
  have hle := O.le
  rw [zj, zj] at hh
  simp at hd
  (refine qP (g := (tD1 S201)) rfl (by omega) fun k hk => ?_; show wp (S201 (callT tab qA k) _ _).1 _; unfold S201; try simp only [ Int.ofNat_eq_natCast])
  obtain ⟨v, a, ps, e, H2⟩ := LgC.E1 H
  rw [← e] at H2
  refine qY (Qw (by omega) H2 .here e_1 (by simp at e; omega)) ?_
  rintro _ _ ⟨rfl, rfl⟩
  simp at e
  refine qY (KP (by omega) (by omega) (by omega) H2) ?_
  rintro _ h3 ⟨rfl, v', H3⟩
  cases ps with
  | nil => simp at e
  | cons b ps =>
  simp at e
  with_reducible (refine jj (by omega) ?_; refine qQ ?_)
  refine qY (Qw (by omega) H3 .here e_1 (by omega)) ?_
  rintro _ _ ⟨rfl, rfl⟩
  have H4 : HS g _ (LvC b y :: LvC a x :: qw q [.int .i64 (most : Int), v'] :: qz 136 1 (ps.length + 1) v' (z8 (b :: ps)) :: (List.zipWith LvC ps r ++ R)) := H3.sub (.cons e_3 (.cons e_2 (.cons .here (.cons .here .refl))))
  obtain ⟨w1, f1, H4⟩ := LvC.E H4
  obtain ⟨w2, f2, H5⟩ := LvC.E (H4.sel e_3)
  with_reducible (refine qq ?_; refine qJ ?_; refine qG (by assumption) e_3 rfl ?_; refine qq ?_; refine qJ ?_; refine qG (by assumption) .here rfl ?_)
  refine je (H5.sel e_5) (H5.sl e_2) (by omega) (by omega) ?_ fun v6 h6 H6 => ?_
  ·simp [q9, AV.one]
  refine qq ?_; refine qJ ?_
  refine qc H6 (b := b) e_4 (H6.one .here) (by simp) fun h7 H7 => ?_
  simp only [List.set_cons_zero, List.set_cons_succ] at H7
  with_reducible (refine qX ?_; (try dsimp only); refine qq ?_; refine qJ ?_; refine qG (by assumption) .here rfl ?_; refine qq ?_; refine qJ ?_; refine qG (by assumption) e_2 rfl ?_)
  refine qY (JG (by omega) (H7.sel (P := WrC w2 96 x.1) e_3) (by omega)) fun v8 h8 H8 => ?_
  refine qY (QT (cs := x.1) (l := y.1) (m := 96) (w := w1) (by omega) (H8.sel (P := WrC w1 96 y.1) e_6) (.own .here) (by omega) (by omega)) ?_
  rintro _ h9 ⟨rfl, H9⟩
  have ht : vR 96 y.1 x.1 = (0, xx y.1 x.1) := by
   unfold vR
   rw [Qh hxi (by omega), if_pos rfl]
  rw [ht] at H9 ⊢
  with_reducible (refine jc (by assumption) .here rfl (by assumption) e_2 rfl (HS.lt (by assumption) .here) ?_)
  refine qW ⟨rfl, LgC.I1 (v := v') (a := b) (ps := ps) (by omega) ?_⟩
  show HS g h9 (_ :: qz 136 1 (r.length + 1) v' _ :: _)
  rw [← e]
  have H10 := LvC.I (a := b) (w := w1) (fv := v6) (x := (xx y.1 x.1, y.2 ++ x.2)) (R := qw q [.int .i64 (most : Int), v'] :: qz 136 1 (ps.length + 1) v' (z8 (b :: ps)) :: (List.zipWith LvC ps r ++ R))
   (by rw [List.map_append, List.length_append]; exact H9.sub (.cons e_3 (.cons .here (.cons e_2 (.cons e_4 (.cons e_4 (.drop (.drop (.drop (.drop (.refl)))))))))))
  exact H10.sub (.cons e_1 (.cons e_1 (.refl)))
theorem wM : ∀ (lv : List LvM) (out : List Cl), (lv.foldl (fun out x => xx x.1 out) out).length ≤ out.length + xk lv := by
 intro lv
 induction lv with
 | nil => intro out; simp
 | cons x r ih =>
  intro out
  have h1 := ih (xx x.1 out)
  have h2 := Q5 (cs := out) (l := x.1)
  rw [List.foldl_cons, zj]
  omega
theorem Mi : ∀ (lv : List LvM) (out : List Cl), InC out → (∀ x ∈ lv, InC x.1) → InC (lv.foldl (fun out x => xx x.1 out) out) := by
 intro lv
 induction lv with
 | nil => intro out h _; exact h
 | cons x r ih => intro out h hx; exact ih _ ((hx x (List.mem_cons_self ..)).puts h) fun y hy => hx y (List.mem_cons_of_mem _ hy)
theorem NH (l1 l2 : List LvM) : xk (l1 ++ l2) = xk l1 + xk l2 := by simp [xk]
theorem M2 {n q most : Nat} (hn : 9 ≤ n) {lv : List LvM} (H : HS g h (LgC q most lv :: R)) (O : OkL most lv) :
  wp (callT tab qA n (.fn 69 [] []) [.ptr q 0] h) fun v h' => HS g h' (qz 67 2 (jY lv).length v ((jY lv).flatMap jJ) :: LgC q most lv :: R) := by
 (refine qP (g := W69) rfl (by omega) fun k hk => ?_; show wp (S69 (callT tab qA k) _ _) _; unfold S69; try simp only [iI, uU, Int.ofNat_eq_natCast])
 obtain ⟨v, ps, e, H⟩ := LgC.E H
 have hd := O.deep
 have hle := O.le
 have hhe := O.held
 refine kO (H.nils (e := 67) (sz := 2)) ⟨rfl, rfl⟩ fun b1 h1 H => ?_
 with_reducible (refine qq ?_; refine qJ ?_; refine qG (by assumption) e_2 rfl ?_)
 refine qY (Jm (by omega) (H.one e_3) H) ?_
 rintro _ h4 ⟨b4, rfl, H⟩
 have H5 := (H.newBlk .dfd).newBlk (.loop .ready none 69 [1, 1, 0, 1, 0] [3] [.ptr b1 0] h4.nx)
 generalize (h4.new .dfd).nx = l at H5 ⊢
 generalize h4.nx = d at H5 ⊢
 obtain ⟨k2, rfl⟩ : ∃ k2, k = k2 + 1 := ⟨k - 1, by omega⟩
 refine KD (MW (b0 := b4) (v := v) (ps := ps)
  (Inv := fun i h' => ∃ ov, HS g h' (vm l (.loop .ready none 69 [1, 1, 0, 1, 0] [3] [.ptr b1 0] d) :: vm d .dfd :: qw b4 [v] :: qw b1 [ov] :: qz 67 2 (jY (lv.take i)).length ov ((jY (lv.take i)).flatMap jJ) ::
   qw q [.int .i64 (most : Int), v] :: qz 136 1 lv.length v (z8 ps) :: (List.zipWith LvC ps lv ++ R)))
  (Fin := fun _ => False) ?_ ?_ (by omega) ⟨.nils, H5⟩) ?_
 ·rintro i h' ⟨ov, H⟩
  obtain ⟨et, A⟩ := H.obj (b := b4) e_2
  exact ⟨A.at 0, e ▸ H.sl e_6⟩
 ·rintro i a h' ha ⟨ov, H⟩
  have hi := (List.getElem?_eq_some_iff.1 ha).1
  have hx : lv[i]? = some (lv[i]'(by omega)) := List.getElem?_eq_getElem _
  have hm : lv[i]'(by omega) ∈ lv := List.getElem_mem _
  generalize lv[i]'(by omega) = x at hx hm
  have hxl := O.len hm
  have hxi := O.ins x hm
  have hxu := O.un x hm
  have hml : (jY (lv.take i)).length + x.1.length ≤ 96 := by
   have h1 := wM (lv.take i) []
   have h2 : xk lv = xk (lv.take i) + (x.1.length + xk (lv.drop (i + 1))) := by
    rw [← zj, ← NH]
    congr 1
    have h3 : lv.drop i = x :: lv.drop (i + 1) := by
     have hi' : i < lv.length := by omega
     rw [List.drop_eq_getElem_cons hi']
     rw [List.getElem?_eq_getElem hi'] at hx
     rw [Option.some.inj hx]
    rw [← h3, List.take_append_drop]
   unfold jY
   simp at h1
   omega
  have hmi : InC (jY (lv.take i)) := Mi _ _ (fun c hc => by cases hc) fun y hy => O.ins y (List.mem_of_mem_take hy)
  have hms : jY (lv.take (i + 1)) = xx x.1 (jY (lv.take i)) := by
   unfold jY
   rw [List.take_add_one, hx, Option.toList_some, List.foldl_append]; rfl
  refine UQ (H.blk .here) (w := V0) rfl (by omega) fun k3 hk3 => ?_
  show wp (B0 _ _ _ (.int .i64 ((ps.length - 1 - i : Nat) : Int)) _ _) _
  unfold B0
  try simp only [iI, uU, Int.ofNat_eq_natCast]
  refine K4 H .here fun h6 H => ?_
  refine qY (Kg (m := 96) (by omega) (by omega) H) ?_
  rintro _ h7 ⟨w0, rfl, H⟩
  obtain ⟨T, s⟩ := XG (R := R) ha hx
  obtain ⟨w, fv, H7⟩ := LvC.E (H.sel (.there (.there (.there (.there (.there (.there (.there (.there s)))))))))
  with_reducible (refine qq ?_; refine qJ ?_; refine qG (by assumption) .here rfl ?_)
  refine qY (JG (by omega) (H7.sel (P := WrC w 96 x.1) e_1) (by omega)) fun va h8 H8 => ?_
  refine qY (QT (cs := x.1) (l := []) (m := 96) (w := w0) (by omega) (H8.sel (P := WrC w0 96 []) e_4) (.own .here) (by simp) (by omega)) ?_
  rintro _ h9 ⟨_, H9⟩
  have ht : vR 96 [] x.1 = (0, x.1) := by
   unfold vR
   rw [Qh hxi (by simpa using hxl), GK hxu, if_pos rfl]
  rw [ht] at H9
  dsimp only at H9
  with_reducible (refine qG (by assumption) e_8 rfl ?_)
  have ht2 : vR 96 x.1 (jY (lv.take i)) = (0, xx x.1 (jY (lv.take i))) := by
   unfold vR
   rw [Qh hmi (by omega), if_pos rfl]
  have S2 : Rd g _ 2 (jY (lv.take i)).length ov ((jY (lv.take i)).flatMap jJ) := H9.drop.rd (L := qz 67 2 x.1.length va (x.1.flatMap jJ) :: WrC w 96 x.1 :: qw a [.ptr w 0, fv] :: qz 3 1 x.2.length fv (x.2.map (.int .i64)) ::
   vm l (.loop .busy none 69 [1, 1, 0, 1, 0] [3] [.ptr b1 0] d) :: vm d .dfd :: qw b4 [v] :: qw b1 [ov] :: qz 67 2 (jY (lv.take i)).length ov ((jY (lv.take i)).flatMap jJ) ::
   qw q [.int .i64 (most : Int), v] :: qz 136 1 lv.length v (z8 ps) :: T) e_8
  refine qY (QT (by omega) H9 S2 (by omega) (by omega)) ?_
  rintro _ h10 ⟨_, H10⟩
  rw [ht2] at H10
  dsimp only at H10
  have hpl := Q5 (cs := jY (lv.take i)) (l := x.1)
  refine qY (JG (by omega) H10 (by omega)) fun vb h11 H11 => ?_
  refine qc H11 (b := b1) e_9 (H11.one .here) (by simp) fun h12 H12 => MD H12 e_7 fun h13 H13 => .inl ⟨rfl, vb, ?_⟩
  rw [hms]
  have H14 := LvC.I (a := a) (w := w) (fv := fv) (x := x) (R := vm l (.loop .ready none 69 [1, 1, 0, 1, 0] [3] [.ptr b1 0] d) :: vm d .dfd :: qw b4 [v] :: qw b1 [vb] ::
   qz 67 2 (xx x.1 (jY (lv.take i))).length vb ((xx x.1 (jY (lv.take i))).flatMap jJ) :: qw q [.int .i64 (most : Int), v] :: qz 136 1 lv.length v (z8 ps) :: T) (H13.sub (.cons e_6 (.cons e_5 (.cons e_5 (.cons .here (.cons e_4 (.cons e_4 (.cons .here (.cons .here (.cons e_3 (.cons e_3 (.drop (.drop (.drop (.refl)))))))))))))))
  exact HS.unsel (.there (.there (.there (.there (.there (.there (.there s))))))) H14
 ·rintro _ h6 (⟨ov, H⟩ | hF)
  ·rw [List.take_of_length_le (by omega)] at H
   refine Kw H .here (fun h => by cases h) fun h7 H => UE ?_
   with_reducible (refine qG (by assumption) e_3 rfl ?_)
   refine JD H e_1 fun h10 H => qW ?_
   exact (LgC.I (v := v) (ps := ps) e (HS.back (A := _ :: _ :: List.zipWith LvC ps lv) (H.sub (L' := qz 67 2 (jY lv).length ov ((jY lv).flatMap jJ) :: qw q [.int .i64 (most : Int), v] ::
    qz 136 1 lv.length v (z8 ps) :: (List.zipWith LvC ps lv ++ R)) (.cons e_4 (.cons e_4 (.cons e_4 (.drop (.drop (.drop (.drop (.refl))))))))))).sub (.cons e_1 (.refl))
  ·exact hF.elim
end Go.Proofs.YtdlfmpmpmkffjaaGreatDoor
namespace Go.Proofs.YtdlfmpmpmkffjaaGreatDoor
open Go Go.Ae
set_option maxRecDepth 100000
variable {g h : AH} {L R : List SP}
structure VM where
  sz : Nat
  K : List Cl
  most : Nat
  lv : List LvM
  need : Int
structure OkV (M : VM) : Prop where
  lo : 32 ≤ M.sz
  hi : M.sz ≤ 256
  lvs : OkL M.most M.lv
  ins : ∀ c ∈ M.K, 1 ≤ c.1 ∧ c.1 < M.sz
  un : UnC M.K
  fr : ∀ x ∈ M.lv, x.2.length < 100000
def UF (M : VM) (p x : Int) : Int × VM :=
 if 1 ≤ p ∧ p < M.sz then match zR p M.K with
  | some y => (if y = x then 0 else 14, M)
  | none => (0, { M with K := M.K ++ [(p, x)] })
 else (2, M)
def qT (M : VM) (p : Int) : (Int × Int) × VM :=
 if 1 ≤ p ∧ p < M.sz then match ku p M.lv with
  | some x => ((x, 0), M)
  | none => match zR p M.K with
   | some x => ((x, 0), M)
   | none => ((0, 11), { M with need := p })
 else ((0, 2), M)
def jU (M : VM) (cs : List Cl) : Int × VM :=
 if ∀ c ∈ cs, 1 ≤ c.1 ∧ c.1 < M.sz then ((xC M.most M.lv M.lv cs).1, { M with lv := (xC M.most M.lv M.lv cs).2 }) else (2, M)
def freeV (M : VM) (b : Int) : VM := { M with lv := k8 M.lv b }
def zp (M : VM) : Int × VM := ((yY M.lv).1, { M with lv := (yY M.lv).2 })
def zK (M : VM) : Int × VM := ((vk M.lv).1, { M with lv := (vk M.lv).2 })
def yX (M : VM) : Int × VM := ((vU M.lv).1, { M with lv := (vU M.lv).2 })
theorem O6 : ∀ (n : Nat) (l : List Int), l.Nodup → (∀ x ∈ l, 0 ≤ x ∧ x < n) → l.length ≤ n := by
 intro n
 induction n with
 | zero =>
  intro l _ h
  cases l with
  | nil => exact Nat.le_refl _
  | cons x l => have := h x (List.mem_cons_self ..); omega
 | succ n ih =>
  intro l hd h
  by_cases hx : (n : Int) ∈ l
  ·have := ih (l.erase n) (hd.erase _) (fun x hx' => by
    have h1 := h x (List.mem_of_mem_erase hx')
    have h2 : x ≠ n := by rintro rfl; exact (List.Nodup.not_mem_erase hd) hx'
    omega)
   rw [List.length_erase_of_mem hx] at this
   omega
  ·have := ih l hd (fun x hx' => by
    have h1 := h x hx'
    have h2 : x ≠ n := by rintro rfl; exact hx hx'
    omega)
   omega
theorem OkV.klen {M : VM} (O : OkV M) : M.K.length ≤ 256 := by
 have hu : (M.K.map (·.1)).Nodup := O.un
 have := O6 M.sz _ hu (fun x hx => by
  obtain ⟨c, hc, rfl⟩ := List.mem_map.1 hx
  have := O.ins c hc
  omega)
 rw [List.length_map] at this
 have := O.hi
 omega
def wS (f : Int × Bool) : List AV := [.int .u64 f.1, .bool f.2]
def vE (K : List Cl) (i : Nat) : Int × Bool := match zR (i : Int) K with | some x => (x, true) | none => (0, false)
def xe (sz : Nat) (K : List Cl) : List (Int × Bool) := (List.range sz).map (vE K)
theorem wC (sz : Nat) (K : List Cl) : (xe sz K).length = sz := by simp [xe]
theorem wN {sz : Nat} {K : List Cl} {i : Nat} (hi : i < sz) : (xe sz K)[i]? = some (vE K i) := by simp [xe, List.getElem?_range hi]
theorem J8 {α : Type} {sz : Nat} {enc : α → List AV} (he : ∀ a, (enc a).length = sz) {l : List α} {i : Nat} {a : α} (h : l[i]? = some a) : ((l.flatMap enc).drop (i * sz)).take sz = enc a := by
 obtain ⟨hi, e⟩ := List.getElem?_eq_some_iff.1 h
 rw [y9 (sz := sz) enc he, List.drop_eq_getElem_cons hi, e, List.flatMap_cons, ← he a, List.take_left]
theorem qZr {α : Type} {sz : Nat} {enc : α → List AV} (he : ∀ a, (enc a).length = sz) {l : List α} {i : Nat} {a : α} (hi : i < l.length) : vX (l.flatMap enc) (i * sz) (enc a) = (l.set i a).flatMap enc := by
 have h1 : (l.flatMap enc).take (i * sz) = (l.take i).flatMap enc := by
  have e1 : l.flatMap enc = (l.take i).flatMap enc ++ (l.drop i).flatMap enc := by rw [← List.flatMap_append, List.take_append_drop]
  have e2 : ((l.take i).flatMap enc).length = i * sz := by rw [xm (sz := sz) enc he, List.length_take, Nat.min_eq_left (by omega)]
  rw [e1, ← e2, List.take_left]
 have h2 : (l.flatMap enc).drop (i * sz + sz) = (l.drop (i + 1)).flatMap enc := by
  rw [show i * sz + sz = (i + 1) * sz by rw [Nat.add_mul, Nat.one_mul], y9 (sz := sz) enc he]
 unfold vX
 rw [he, h1, h2, List.set_eq_take_append_cons_drop, if_pos hi, List.flatMap_append, List.flatMap_cons, List.append_assoc]
theorem NM {α : Type} {enc : α → List AV} {a : α} : ∀ n, yw (enc a) n = (List.replicate n a).flatMap enc := by
 intro n
 induction n with
 | zero => rfl
 | succ n ih => rw [yw, ih, List.replicate_succ, List.flatMap_cons]
theorem VU (sz : Nat) : xe sz [] = List.replicate sz (0, false) := by
 unfold xe
 rw [show vE [] = fun _ => ((0, false) : Int × Bool) from rfl, List.map_const', List.length_range]
theorem Vf {sz : Nat} {K : List Cl} {i : Nat} {x : Int} (hi : i < sz) (hn : zR (i : Int) K = none) : xe sz (K ++ [((i : Int), x)]) = (xe sz K).set i (x, true) := by
 have e : ∀ j : Nat, zR (j : Int) (K ++ [((i : Int), x)]) = if j = i then some x else zR (j : Int) K := by
  intro j
  rw [← kS hn, Kl]
  by_cases h : j = i
  ·rw [if_pos h, if_pos (by rw [h])]
  ·rw [if_neg h, if_neg (by omega)]
 apply List.ext_getElem?
 intro j
 rw [List.getElem?_set, wC]
 by_cases hj : j < sz
 ·rw [wN hj]
  by_cases h : i = j
  ·subst h; rw [if_pos rfl, if_pos hi]; unfold vE; rw [e, if_pos rfl]
  ·rw [if_neg h, wN hj]; unfold vE; rw [e, if_neg (by omega)]
 ·rw [List.getElem?_eq_none (by rw [wC]; omega), if_neg (by omega), List.getElem?_eq_none (by rw [wC]; omega)]
def ViewC (v : Nat) (M : VM) : SP := .ex fun fv => .ex fun ov => .ex fun q => .ex fun e => .all [qw v [fv, ov, .ptr q 0, .int .i64 M.need], qz e 2 M.sz fv ((xe M.sz M.K).flatMap wS),
 qz 3 1 M.K.length ov (M.K.map fun c => .int .i64 c.1), LgC q M.most M.lv]
theorem ViewC.E {v : Nat} {M : VM} (H : HS g h (ViewC v M :: R)) : ∃ fv ov q e, HS g h (qw v [fv, ov, .ptr q 0, .int .i64 M.need] :: qz e 2 M.sz fv ((xe M.sz M.K).flatMap wS) ::
  qz 3 1 M.K.length ov (M.K.map fun c => .int .i64 c.1) :: LgC q M.most M.lv :: R) := by
 obtain ⟨fv, H⟩ := H.exE
 obtain ⟨ov, H⟩ := H.exE
 obtain ⟨q, H⟩ := H.exE
 obtain ⟨e, H⟩ := H.exE
 exact ⟨fv, ov, q, e, H.allE⟩
theorem ViewC.I {v : Nat} {M : VM} {fv ov : AV} {q : Nat} {e : TypeId} (H : HS g h (qw v [fv, ov, .ptr q 0, .int .i64 M.need] :: qz e 2 M.sz fv ((xe M.sz M.K).flatMap wS) ::
  qz 3 1 M.K.length ov (M.K.map fun c => .int .i64 c.1) :: LgC q M.most M.lv :: R)) : HS g h (ViewC v M :: R) :=
 HS.exI fv (HS.exI ov (HS.exI q (HS.exI e (HS.allI H))))
def szZ (n : Int) : Nat := (max 32 (min n 256)).toNat
theorem Yh (n : Int) : 32 ≤ szZ n ∧ szZ n ≤ 256 := by unfold szZ; omega
def newV (words most : Int) : VM := ⟨szZ words, [], (max 0 (min most 96)).toNat, [([], [])], 0⟩
theorem qZS {m : Nat} (hm : m ≤ 96) : OkL m [([], [])] := ⟨by simp [xk], hm, by intro x hx; simp at hx; subst hx; intro c hc; simp at hc, by intro x hx; simp at hx; subst hx; exact List.nodup_nil, by simp, by simp⟩
theorem qKI {n : Nat} (hn : 4 ≤ n) {w m : Int} (H : HS g h R) : wp (callT tab qA n (.fn 11 [] []) [.int .i64 w, .int .i64 m] h) fun r h' => ∃ v, r = .ptr v 0 ∧ HS g h' (ViewC v (newV w m) :: R) := by
 (refine qP (g := (tD2 S11)) rfl (by omega) fun k hk => ?_; show wp (S11 (callT tab qA k) _ _ _).1 _; unfold S11; try simp only [ Int.ofNat_eq_natCast])
 refine zx (zg ?_)
 have hb := Yh w
 rw [show max ((32 : Nat) : Int) (min w ((256 : Nat) : Int)) = ((szZ w : Nat) : Int) by unfold szZ; omega]
 refine XO (sz := 2) H rfl (Nat.le_refl _) (by omega) fun fv h2 H2 => ?_
 refine qY (qJd (by omega) H2) ?_
 rintro _ h3 ⟨q, rfl, H3⟩
 have h1 := H3.one e_1
 refine qF (l := [fv, .nils, .ptr q 0, .int .i64 0]) (by unfold yd; rw [h1.1]; rfl) ?_
 refine qU H3 (by show (fv.one && (true && (true && (true && true)))) = true; rw [h1.2]; rfl) fun v h4 H4 => qW ⟨v, rfl, ?_⟩
 rw [List.take_of_length_le (by rw [yK]; exact Nat.le_refl _), show yw [AV.int .u64 ((0 : Nat) : Int), AV.bool false] (szZ w) = (xe (szZ w) []).flatMap wS by rw [VU, ← NM]; rfl] at H4
 exact ViewC.I (M := newV w m) ((H4.nils (e := 3) (sz := 1)).sub (.cons e_1 (.cons e_2 (.cons .here (.cons .here (.refl))))))
theorem JW {n : Nat} (hn : 1 ≤ n) {v : Nat} {M : VM} (H : HS g h (ViewC v M :: R)) : wp (callT tab qA n (.fn 107 [] []) [.ptr v 0] h) fun r h' => r = .int .i64 (M.sz : Int) ∧ h' = h := by
 (refine qP (g := (tD1 S107)) rfl (by omega) fun k hk => ?_; show wp (S107 (callT tab qA k) _ _).1 _; unfold S107; try simp only [ Int.ofNat_eq_natCast])
 obtain ⟨fv, ov, q, e, H⟩ := ViewC.E H
 with_reducible (refine qq ?_; refine qJ ?_; refine qG (by assumption) .here rfl ?_; refine qd (by assumption) e_1 ?_)
 exact qW ⟨rfl, rfl⟩
theorem KK {n : Nat} (hn : 1 ≤ n) {v : Nat} {M : VM} {p : Int} (H : HS g h (ViewC v M :: R)) : wp (callT tab qA n (.fn 52 [] []) [.ptr v 0, .int .i64 p] h) fun r h' => r = .bool (decide (1 ≤ p ∧ p < M.sz)) ∧ h' = h := by
 (refine qP (g := (tD2 S52)) rfl (by omega) fun k hk => ?_; show wp (S52 (callT tab qA k) _ _ _).1 _; unfold S52; try simp only [ Int.ofNat_eq_natCast])
 obtain ⟨fv, ov, q, e, H⟩ := ViewC.E H
 by_cases h1 : 1 ≤ p
 ·with_reducible (refine jV (by omega) ?_; refine qX ?_; (try dsimp only); refine qR ?_; (try dsimp only); refine qq ?_; refine qJ ?_; refine qG (by assumption) .here rfl ?_; refine qd (by assumption) e_1 ?_)
  refine gn ?_
  refine qC ?_
  refine qW ⟨?_, rfl⟩
  congr 1
  exact decide_eq_decide.2 ⟨fun h2 => ⟨h1, h2⟩, fun h2 => h2.2⟩
 ·with_reducible (refine jQ (by omega) ?_; refine qX ?_; (try dsimp only); refine qO ?_; (try dsimp only); refine qv ?_)
  exact qW ⟨by rw [decide_eq_false (fun h2 => h1 h2.1)], rfl⟩
theorem Ot {n : Nat} (hn : 2 ≤ n) {v : Nat} {M : VM} {p x : Int} (H : HS g h (ViewC v M :: R)) (O : OkV M) :
  wp (callT tab qA n (.fn 15 [] []) [.ptr v 0, .int .i64 p, .int .u64 x] h) fun r h' => r = .int .i64 (UF M p x).1 ∧ HS g h' (ViewC v (UF M p x).2 :: R) := by
 (refine qP (g := (tD3 S15)) rfl (by omega) fun k hk => ?_; show wp (S15 (callT tab qA k) _ _ _ _).1 _; unfold S15; try simp only [ Int.ofNat_eq_natCast])
 refine qY (KK (by omega) H) ?_
 rintro _ _ ⟨rfl, rfl⟩
 have hO := O.hi
 unfold UF
 by_cases hp : 1 ≤ p ∧ p < M.sz
 ·rw [if_pos hp]
  rw [decide_eq_true hp]
  obtain ⟨i, rfl⟩ : ∃ i : Nat, p = (i : Int) := ⟨p.toNat, by omega⟩
  have hi : i < M.sz := by omega
  have hH := H
  obtain ⟨fv, ov, q, e, H⟩ := ViewC.E H
  with_reducible (refine qo ?_; refine qQ ?_; refine qq ?_; refine qJ ?_; refine qG (by assumption) .here rfl ?_)
  refine zJ (l := wS (vE M.K i)) (H.sl e_1) hi (by omega) (J8 (enc := wS) (sz := 2) (fun _ => rfl) (wN hi)) ?_
  refine qU H rfl fun b h3 H3 => jG H3 .here rfl (by show 0 + 2 ≤ 2; omega) rfl fun h4 H4 => ?_
  have H5 : HS g h4 (qw b (wS (vE M.K i)) :: qw v [fv, ov, .ptr q 0, .int .i64 M.need] :: qz e 2 M.sz fv ((xe M.sz M.K).flatMap wS) ::
   qz 3 1 M.K.length ov (M.K.map fun c => .int .i64 c.1) :: LgC q M.most M.lv :: R) := H4
  unfold wS at H5
  cases hg : zR (i : Int) M.K with
  | some y =>
   rw [show vE M.K i = (y, true) by unfold vE; rw [hg]] at H5
   with_reducible (refine qJ ?_; refine qG (by assumption) .here rfl ?_; refine qV ?_; refine qJ ?_; refine qG (by assumption) .here rfl ?_)
   have H6 := ViewC.I (H5.drop)
   by_cases hy : y = x
   ·with_reducible (refine jj (by omega) ?_; refine qQ ?_)
    refine qW ⟨by dsimp only; rw [if_pos hy]; rfl, H6⟩
   ·with_reducible (refine jk (by omega) ?_; refine qV ?_)
    refine qW ⟨by dsimp only; rw [if_neg hy]; rfl, H6⟩
  | none =>
   rw [show vE M.K i = (0, false) by unfold vE; rw [hg]] at H5
   have hkl := O.klen
   with_reducible (refine qJ ?_; refine qG (by assumption) .here rfl ?_; refine qQ ?_; refine qq ?_; refine qJ ?_; refine qG (by assumption) e_1 rfl ?_; refine qF rfl ?_)
   refine VC (l := [.int .u64 x, .bool true]) (H5.drop.sel (P := qz e 2 M.sz fv ((xe M.sz M.K).flatMap wS)) e_1) hi rfl rfl fun h6 H6 => ?_
   rw [show vX ((xe M.sz M.K).flatMap wS) (i * 2) [AV.int .u64 x, AV.bool true] = (xe M.sz (M.K ++ [((i : Int), x)])).flatMap wS by
    rw [Vf hi hg, ← qZr (enc := wS) (sz := 2) (fun _ => rfl) (by rw [wC]; exact hi)]; rfl] at H6
   with_reducible (refine qq ?_; refine qJ ?_; refine qG (by assumption) e_1 rfl ?_)
   refine qf (n := 1) (l := [.int .i64 (i : Int)]) (sz := 1) H6 rfl rfl rfl rfl fun v7 h7 H7 => ?_
   refine je (H7.sel (P := qz 3 1 M.K.length ov (M.K.map fun c => .int .i64 c.1)) e_3) (H7.sl .here) (by omega) (by omega) rfl fun v8 h8 H8 => ?_
   refine qq ?_; refine qJ ?_
   refine qc H8 e_3 (H8.one .here) (by simp) fun h9 H9 => qW ⟨rfl, ViewC.I (M := { M with K := M.K ++ [((i : Int), x)] }) (fv := fv) (ov := v8) (q := q) (e := e) ?_⟩
   rw [List.map_append, List.length_append]
   exact H9.sub (.cons .here (.cons e_2 (.cons .here (.cons e_1 (.drop (.refl))))))
 ·rw [if_neg hp, decide_eq_false hp]
  refine jq ?_; refine qV ?_
  exact qW ⟨rfl, H⟩
theorem ze {M : VM} {p : Int} (O : OkV M) : OkV (qT M p).2 := by
 unfold qT
 repeat' split
 all_goals exact ⟨O.lo, O.hi, O.lvs, O.ins, O.un, O.fr⟩
theorem wu {n : Nat} (hn : 9 ≤ n) {v : Nat} {M : VM} {p : Int} (H : HS g h (ViewC v M :: R)) (O : OkV M) :
  wp (callT tab qA n (.fn 109 [] []) [.ptr v 0, .int .i64 p] h) fun r h' => r = .tup [.int .u64 (qT M p).1.1, .int .i64 (qT M p).1.2] ∧ HS g h' (ViewC v (qT M p).2 :: R) := by
 (refine qP (g := (tD2 S109)) rfl (by omega) fun k hk => ?_; show wp (S109 (callT tab qA k) _ _ _).1 _; unfold S109; try simp only [ Int.ofNat_eq_natCast])
 refine qY (KK (by omega) H) ?_
 rintro _ _ ⟨rfl, rfl⟩
 have hO := O.hi
 unfold qT
 by_cases hp : 1 ≤ p ∧ p < M.sz
 ·rw [if_pos hp]
  rw [decide_eq_true hp]
  obtain ⟨i, rfl⟩ : ∃ i : Nat, p = (i : Int) := ⟨p.toNat, by omega⟩
  have hi : i < M.sz := by omega
  obtain ⟨fv, ov, q, e, H⟩ := ViewC.E H
  with_reducible (refine qo ?_; refine qQ ?_; refine qq ?_; refine qJ ?_; refine qG (by assumption) .here rfl ?_)
  refine qY (qKD (by omega) (H.sel (P := LgC q M.most M.lv) e_3) O.lvs) ?_
  rintro _ h2 ⟨rfl, H2⟩
  with_reducible (refine qx rfl ?_; refine qx rfl ?_)
  cases hl : ku (i : Int) M.lv with
  | some y =>
   simp only [Option.isSome_some, Option.getD_some]
   refine qV ?_
   exact qW ⟨rfl, ViewC.I (H2.sub (.cons e_1 (.cons e_1 (.cons e_1 (.refl)))))⟩
  | none =>
   simp only [Option.isSome_none]
   with_reducible (refine qQ ?_; refine qq ?_; refine qJ ?_; refine qG (by assumption) e_1 rfl ?_)
   refine zJ (l := wS (vE M.K i)) (H2.sl e_2) hi (by omega) (J8 (enc := wS) (sz := 2) (fun _ => rfl) (wN hi)) ?_
   refine qU H2 rfl fun b h3 H3 => jG H3 .here rfl (by show 0 + 2 ≤ 2; omega) rfl fun h4 H4 => ?_
   have H5 : HS g h4 (qw b (wS (vE M.K i)) :: LgC q M.most M.lv :: qw v [fv, ov, .ptr q 0, .int .i64 M.need] :: qz e 2 M.sz fv ((xe M.sz M.K).flatMap wS) ::
    qz 3 1 M.K.length ov (M.K.map fun c => .int .i64 c.1) :: R) := H4
   unfold wS at H5
   cases hg : zR (i : Int) M.K with
   | some y =>
    rw [show vE M.K i = (y, true) by unfold vE; rw [hg]] at H5
    with_reducible (refine qJ ?_; refine qG (by assumption) .here rfl ?_; refine qV ?_; refine qJ ?_; refine qG (by assumption) .here rfl ?_)
    exact qW ⟨rfl, ViewC.I (H5.drop.sub (.cons e_1 (.cons e_1 (.cons e_1 (.refl)))))⟩
   | none =>
    rw [show vE M.K i = (0, false) by unfold vE; rw [hg]] at H5
    with_reducible (refine qJ ?_; refine qG (by assumption) .here rfl ?_; refine qQ ?_; refine qq ?_; refine qJ ?_)
    refine qc H5 (b := v) e_2 ⟨rfl, rfl⟩ (by simp) fun h9 H9 => qW ⟨rfl, ViewC.I (M := { M with need := (i : Int) }) (fv := fv) (ov := ov) (q := q) (e := e) (H9.sub (.cons .here (.cons e_2 (.cons e_2 (.cons e_1 (.drop (.refl)))))))⟩
 ·rw [if_neg hp, decide_eq_false hp]
  refine jq ?_; refine qV ?_
  exact qW ⟨rfl, H⟩
theorem qX7 {most : Nat} {lv : List LvM} {p v : Int} {n : Nat} (h : ∀ x ∈ lv, x.2.length < n) : ∀ x ∈ (xH most lv p v).2, x.2.length < n := by
 cases lv with
 | nil => exact h
 | cons y r =>
  obtain ⟨c, hc⟩ := JM (most := most) (x := y) (r := r) (p := p) (v := v)
  rw [hc]
  intro x hx
  rcases List.mem_cons.1 hx with rfl | hx
  ·exact h y (List.mem_cons_self ..)
  ·exact h x (List.mem_cons_of_mem _ hx)
theorem qQE {most : Nat} {was : List LvM} {n : Nat} (hw : ∀ x ∈ was, x.2.length < n) : ∀ {cs : List Cl} {lv : List LvM}, (∀ x ∈ lv, x.2.length < n) → ∀ x ∈ (xC most was lv cs).2, x.2.length < n := by
 intro cs
 induction cs with
 | nil => intro lv h; exact h
 | cons c cs ih =>
  intro lv h
  rw [xl]
  split
  ·exact ih (qX7 h)
  ·exact hw
theorem JQ {M : VM} {cs : List Cl} (O : OkV M) : OkV (jU M cs).2 := by
 unfold jU
 split
 ·exact ⟨O.lo, O.hi, (Ko O.lvs O.lvs rfl).1, O.ins, O.un, qQE O.fr O.fr⟩
 ·exact O
theorem XA {n : Nat} (hn : 8 ≤ n) {v : Nat} {M : VM} {cs : List Cl} {c : AV} (H : HS g h (ViewC v M :: R)) (O : OkV M) (S : Rd g R 2 cs.length c (cs.flatMap jJ)) (hc : cs.length < 100000) :
  wp (callT tab qA n (.fn 111 [] []) [.ptr v 0, c] h) fun r h' => r = .int .i64 (jU M cs).1 ∧ HS g h' (ViewC v (jU M cs).2 :: R) := by
 (refine qP (g := (tD2 S111)) rfl (by omega) fun k hk => ?_; show wp (S111 (callT tab qA k) _ _ _).1 _; unfold S111; try simp only [ Int.ofNat_eq_natCast])
 refine jb (S.sl H.drop) ?_
 refine jz (fun k s h' => ∃ i : Nat, s = (.int .i64 (i : Int), .int .i64 (cs.length : Int), c, c, .ptr v 0, ()) ∧ i ≤ cs.length ∧ k = cs.length - i ∧ HS g h' (ViewC v M :: R) ∧ ∀ j, j < i → ∀ d, cs[j]? = some d → 1 ≤ d.1 ∧ d.1 < M.sz)
  ?_ (m := cs.length) (by show _ < 1000000000; omega) ⟨0, rfl, by omega, by omega, H, fun j hj => by omega⟩
 rintro k2 ih s h2 hih ⟨i, rfl, h1, rfl, H, hno⟩
 dsimp only
 refine jA (fun hlt => qV ?_) fun hge => qQ ?_
 ·have hi : i < cs.length := by omega
  have hci : cs[i]? = some cs[i] := List.getElem?_eq_getElem hi
  refine zJ (l := jJ cs[i]) (S.sl H.drop) hi (by omega) (Ql hci) ?_
  refine qU H rfl fun b h3 H3 => jG H3 .here rfl (by show 0 + 2 ≤ 2; omega) rfl fun h4 H4 => ?_
  have H5 : HS g h4 (qw b (jJ cs[i]) :: ViewC v M :: R) := H4
  unfold jJ at H5
  with_reducible (refine qJ ?_; refine qG (by assumption) .here rfl ?_)
  refine qY (KK (by omega) H5.drop) ?_
  rintro _ _ ⟨rfl, rfl⟩
  by_cases hin : 1 ≤ cs[i].1 ∧ cs[i].1 < M.sz
  ·rw [decide_eq_true hin]
   with_reducible (refine qo ?_; refine qQ ?_; refine qD (by omega) ?_)
   refine hih (cs.length - (i + 1)) _ _ (by omega) ⟨i + 1, rfl, by omega, rfl, H5.drop, fun j hj d hd => ?_⟩
   by_cases hj' : j < i
   ·exact hno j hj' d hd
   ·obtain rfl : j = i := by omega
    rw [hci] at hd; cases hd; exact hin
  ·rw [decide_eq_false hin]
   refine jq ?_; refine qV ?_; refine qj ?_
   unfold jU
   rw [if_neg (fun h => hin (h _ (List.getElem_mem hi)))]
   exact qW ⟨rfl, H5.drop⟩
 ·have hall : ∀ d ∈ cs, 1 ≤ d.1 ∧ d.1 < M.sz := by
   intro d hd
   obtain ⟨j, hj⟩ := List.getElem?_of_mem hd
   exact hno j (by have := (List.getElem?_eq_some_iff.1 hj).1; omega) d hj
  obtain ⟨fv, ov, q, e, H⟩ := ViewC.E H
  with_reducible (refine qq ?_; refine qJ ?_; refine qG (by assumption) .here rfl ?_)
  refine qY (qJS (by omega) (H.sel (P := LgC q M.most M.lv) e_3) O.lvs (S.more.more.more) hc) ?_
  rintro _ h4 ⟨rfl, H4⟩
  unfold jU
  rw [if_pos hall]
  exact qj (qW ⟨rfl, ViewC.I (M := { M with lv := (xC M.most M.lv M.lv cs).2 }) (fv := fv) (ov := ov) (q := q) (e := e) (H4.sub (.cons e_1 (.cons e_1 (.cons e_1 (.refl)))))⟩)
theorem qJC {n : Nat} (hn : 4 ≤ n) {v : Nat} {M : VM} (H : HS g h (ViewC v M :: R)) (O : OkV M) :
  wp (callT tab qA n (.fn 199 [] []) [.ptr v 0] h) fun r h' => r = .int .i64 (zp M).1 ∧ HS g h' (ViewC v (zp M).2 :: R) := by
 (refine qP (g := (tD1 S199)) rfl (by omega) fun k hk => ?_; show wp (S199 (callT tab qA k) _ _).1 _; unfold S199; try simp only [ Int.ofNat_eq_natCast])
 obtain ⟨fv, ov, q, e, H⟩ := ViewC.E H
 with_reducible (refine qq ?_; refine qJ ?_; refine qG (by assumption) .here rfl ?_)
 refine qY (qQb (by omega) (H.sel (P := LgC q M.most M.lv) e_3) O.lvs) ?_
 rintro _ h2 ⟨rfl, H2⟩
 exact qW ⟨rfl, ViewC.I (M := (zp M).2) (fv := fv) (ov := ov) (q := q) (e := e) (H2.sub (.cons e_1 (.cons e_1 (.cons e_1 (.cons .here (.refl))))))⟩
theorem KE {n : Nat} (hn : 2 ≤ n) {v : Nat} {M : VM} (H : HS g h (ViewC v M :: R)) (O : OkV M) :
  wp (callT tab qA n (.fn 135 [] []) [.ptr v 0] h) fun r h' => r = .int .i64 (zK M).1 ∧ HS g h' (ViewC v (zK M).2 :: R) := by
 (refine qP (g := (tD1 S135)) rfl (by omega) fun k hk => ?_; show wp (S135 (callT tab qA k) _ _).1 _; unfold S135; try simp only [ Int.ofNat_eq_natCast])
 obtain ⟨fv, ov, q, e, H⟩ := ViewC.E H
 with_reducible (refine qq ?_; refine qJ ?_; refine qG (by assumption) .here rfl ?_)
 refine qY (Uq (by omega) (H.sel (P := LgC q M.most M.lv) e_3) O.lvs) ?_
 rintro _ h2 ⟨rfl, H2⟩
 exact qW ⟨rfl, ViewC.I (M := (zK M).2) (fv := fv) (ov := ov) (q := q) (e := e) (H2.sub (.cons e_1 (.cons e_1 (.cons e_1 (.cons .here (.refl))))))⟩
theorem Ue {n : Nat} (hn : 7 ≤ n) {v : Nat} {M : VM} (H : HS g h (ViewC v M :: R)) (O : OkV M) :
  wp (callT tab qA n (.fn 133 [] []) [.ptr v 0] h) fun r h' => r = .int .i64 (yX M).1 ∧ HS g h' (ViewC v (yX M).2 :: R) := by
 (refine qP (g := (tD1 S133)) rfl (by omega) fun k hk => ?_; show wp (S133 (callT tab qA k) _ _).1 _; unfold S133; try simp only [ Int.ofNat_eq_natCast])
 obtain ⟨fv, ov, q, e, H⟩ := ViewC.E H
 with_reducible (refine qq ?_; refine qJ ?_; refine qG (by assumption) .here rfl ?_)
 refine qY (Zj (by omega) (H.sel (P := LgC q M.most M.lv) e_3) O.lvs fun x hx => Nat.lt_trans (O.fr x hx) (by omega)) ?_
 rintro _ h2 ⟨rfl, H2⟩
 exact qW ⟨rfl, ViewC.I (M := (yX M).2) (fv := fv) (ov := ov) (q := q) (e := e) (H2.sub (.cons e_1 (.cons e_1 (.cons e_1 (.cons .here (.refl))))))⟩
theorem ZM {n : Nat} (hn : 3 ≤ n) {v : Nat} {M : VM} {b : Int} (H : HS g h (ViewC v M :: R)) (O : OkV M) :
  wp (callT tab qA n (.fn 198 [] []) [.ptr v 0, .int .i64 b] h) fun _ h' => HS g h' (ViewC v (freeV M b) :: R) := by
 (refine qP (g := (tD2 S198)) rfl (by omega) fun k hk => ?_; show wp (S198 (callT tab qA k) _ _ _).1 _; unfold S198; try simp only [ Int.ofNat_eq_natCast])
 obtain ⟨fv, ov, q, e, H⟩ := ViewC.E H
 with_reducible (refine qq ?_; refine qJ ?_; refine qG (by assumption) .here rfl ?_)
 refine qY (Oh (by omega) (H.sel (P := LgC q M.most M.lv) e_3) O.lvs fun x hx => Nat.lt_trans (O.fr x hx) (by omega)) ?_
 intro _ h2 H2
 exact qW (ViewC.I (M := freeV M b) (fv := fv) (ov := ov) (q := q) (e := e) (H2.sub (.cons e_1 (.cons e_1 (.cons e_1 (.cons .here (.refl)))))))
theorem N9 {n : Nat} (hn : 10 ≤ n) {v : Nat} {M : VM} (H : HS g h (ViewC v M :: R)) (O : OkV M) :
  wp (callT tab qA n (.fn 31 [] []) [.ptr v 0] h) fun r h' => HS g h' (qz 67 2 (jY M.lv).length r ((jY M.lv).flatMap jJ) :: ViewC v M :: R) := by
 (refine qP (g := (tD1 S31)) rfl (by omega) fun k hk => ?_; show wp (S31 (callT tab qA k) _ _).1 _; unfold S31; try simp only [ Int.ofNat_eq_natCast])
 obtain ⟨fv, ov, q, e, H⟩ := ViewC.E H
 with_reducible (refine qq ?_; refine qJ ?_; refine qG (by assumption) .here rfl ?_)
 refine qY (M2 (by omega) (H.sel (P := LgC q M.most M.lv) e_3) O.lvs) ?_
 intro r h2 H2
 refine qW ?_
 have H3 := ViewC.I (v := v) (M := M) (fv := fv) (ov := ov) (q := q) (e := e) (R := qz 67 2 (jY M.lv).length r ((jY M.lv).flatMap jJ) :: R) (H2.sub (.cons e_2 (.cons e_2 (.cons e_2 (.cons e_1 (.refl))))))
 exact H3.sub (.cons e_1 (.refl))
theorem Na {n : Nat} : ∀ {l : List LvM}, (∀ x ∈ l, x.2.length < n) → (l.flatMap (·.2)).length ≤ l.length * n := by
 intro l h
 induction l with
 | nil => simp
 | cons x r ih =>
  have h1 := h x (List.mem_cons_self ..)
  have h2 := ih fun y hy => h y (List.mem_cons_of_mem _ hy)
  rw [List.flatMap_cons, List.length_append, List.length_cons, Nat.add_mul, Nat.one_mul]
  omega
theorem Vu {n : Nat} {lv : List LvM} (h : ∀ x ∈ lv, x.2.length < n) : (zE lv).length ≤ lv.length * n := by
 have := Na (l := lv.reverse) (n := n) fun x hx => h x (List.mem_reverse.1 hx)
 rw [List.length_reverse] at this
 exact this
theorem OV {n : Nat} (hn : 2 ≤ n) {v : Nat} {M : VM} (H : HS g h (ViewC v M :: R)) (O : OkV M) :
  wp (callT tab qA n (.fn 33 [] []) [.ptr v 0] h) fun r h' => HS g h' (qz 3 1 (zE M.lv).length r ((zE M.lv).map (.int .i64)) :: ViewC v M :: R) := by
 (refine qP (g := (tD1 S33)) rfl (by omega) fun k hk => ?_; show wp (S33 (callT tab qA k) _ _).1 _; unfold S33; try simp only [ Int.ofNat_eq_natCast])
 obtain ⟨fv, ov, q, e, H⟩ := ViewC.E H
 with_reducible (refine qq ?_; refine qJ ?_; refine qG (by assumption) .here rfl ?_)
 have hfl := Vu O.fr
 have hd := O.lvs.deep
 refine qY (Ok (by omega) (H.sel (P := LgC q M.most M.lv) e_3) O.lvs (by omega)) ?_
 intro r h2 H2
 refine qW ?_
 have H3 := ViewC.I (v := v) (M := M) (fv := fv) (ov := ov) (q := q) (e := e) (R := qz 3 1 (zE M.lv).length r ((zE M.lv).map (.int .i64)) :: R) (H2.sub (.cons e_2 (.cons e_2 (.cons e_2 (.cons e_1 (.refl))))))
 exact H3.sub (.cons e_1 (.refl))
def zU (zs : List Int) (i : Nat) : Int := zs[i]?.getD 0
def kW (zs : List Int) : List Cl := (List.range (szZ zs.length - 1)).map fun i => (((i + 1 : Nat) : Int), zU zs (i + 1))
def zz (zs : List Int) (most : Int) : VM := ⟨szZ zs.length, kW zs, (max 0 (min most 96)).toNat, [([], [])], 0⟩
theorem JB (zs : List Int) : (kW zs).length = szZ zs.length - 1 := by simp [kW]
theorem JO (zs : List Int) {i : Nat} (hi : i + 1 < szZ zs.length) : (kW zs)[i]? = some (((i + 1 : Nat) : Int), zU zs (i + 1)) := by
 unfold kW
 rw [List.getElem?_map, List.getElem?_range (by omega)]; rfl
theorem qJc (zs : List Int) {i : Nat} {p : Int} (hp : (i : Int) < p) : zR p ((kW zs).take i) = none := by
 rw [KI]
 intro hm
 obtain ⟨c, hc, he⟩ := List.mem_map.1 hm
 obtain ⟨j, hj⟩ := List.getElem?_of_mem hc
 have hjl := (List.getElem?_eq_some_iff.1 hj).1
 simp [JB] at hjl
 rw [List.getElem?_take_of_lt (by omega), JO zs (by omega)] at hj
 cases hj
 dsimp only at he
 omega
def wc (zs : List Int) (most : Int) (i : Nat) : VM := { zz zs most with K := (kW zs).take i }
theorem Mk (zs : List Int) (most : Int) (i : Nat) : OkV (wc zs most i) := by
 have hb := Yh (zs.length : Int)
 refine ⟨hb.1, hb.2, qZS (by show (max 0 (min most 96)).toNat ≤ 96; omega), ?_, ?_, by intro x hx; simp [wc, zz] at hx; subst hx; simp⟩
 ·intro c hc
  obtain ⟨j, hj⟩ := List.getElem?_of_mem (List.mem_of_mem_take hc)
  have hjl := (List.getElem?_eq_some_iff.1 hj).1
  rw [JB] at hjl
  rw [JO zs (by omega)] at hj
  cases hj
  show 1 ≤ ((j + 1 : Nat) : Int) ∧ ((j + 1 : Nat) : Int) < ((szZ zs.length : Nat) : Int)
  omega
 ·show ((((kW zs).take i).map (·.1))).Nodup
  refine List.Nodup.sublist ((List.take_sublist i _).map _) ?_
  unfold kW
  rw [List.map_map]
  refine List.Pairwise.map _ ?_ (List.nodup_range (n := szZ zs.length - 1))
  intro a b hab
  simp
  omega
theorem NG (zs : List Int) (most : Int) : OkV (zz zs most) := by
 have := Mk zs most (kW zs).length
 unfold wc at this
 rw [List.take_length] at this
 exact this
theorem NL {n : Nat} (hn : 5 ≤ n) {zs : List Int} {a0 : AV} {m : Int} (H : HS g h R) (S : Rd g R 1 zs.length a0 (zs.map (.int .u64))) :
  wp (callT tab qA n (.fn 77 [] []) [a0, .int .i64 m] h) fun r h' => ∃ v, r = .ptr v 0 ∧ HS g h' (ViewC v (zz zs m) :: R) := by
 (refine qP (g := (tD2 S77)) rfl (by omega) fun k hk => ?_; show wp (S77 (callT tab qA k) _ _ _).1 _; unfold S77; try simp only [ Int.ofNat_eq_natCast])
 have hb := Yh (zs.length : Int)
 refine jb (S.sl H) ?_
 refine qY (qKI (by omega) H) ?_
 rintro _ h1 ⟨v, rfl, H1⟩
 refine jz (fun k s h' => ∃ i : Nat, s = (.int .i64 ((i + 1 : Nat) : Int), .ptr v 0, a0, ()) ∧ i + 1 ≤ szZ zs.length ∧ k = szZ zs.length - (i + 1) ∧ HS g h' (ViewC v (wc zs m i) :: R)) ?_ (m := szZ zs.length - 1) (by show _ < 1000000000; omega) ⟨0, rfl, by omega, by omega, H1⟩
 rintro k2 ih s h' hih ⟨i, rfl, h1, rfl, H⟩
 dsimp only
 refine qY (JW (by omega) H) ?_
 rintro _ _ ⟨rfl, rfl⟩
 show wp (jZ .lss _ (.int .i64 ((szZ zs.length : Nat) : Int)) _) _
 refine jA (fun hlt => qV ?_) fun hge => qQ (qj (qW ⟨v, rfl, ?_⟩))
 ·have hi : i + 1 < szZ zs.length := by omega
  refine zB [] (fun s g' => s = (.int .u64 (zU zs (i + 1)), .int .i64 ((i + 1 : Nat) : Int), .ptr v 0, a0, ()) ∧ HS g g' (ViewC v (wc zs m i) :: R)) ?_ ?_
  ·intro j hj
   refine jb (S.sl H.drop) ?_
   refine jA (fun hl => qV ?_) fun hl => qQ ?_
   ·refine jF (S.sl H.drop) (x := .int .u64 (zU zs (i + 1))) ?_ (hj _ _ ⟨rfl, H⟩)
    unfold zU
    rw [List.getElem?_map, List.getElem?_eq_getElem (by omega)]; rfl
   ·refine hj _ _ ⟨?_, H⟩
    unfold zU
    rw [List.getElem?_eq_none (by omega)]; rfl
  ·rintro s g' ⟨rfl, H2⟩
   dsimp only
   refine qY (Ot (by omega) H2 (Mk zs m i)) ?_
   rintro _ h4 ⟨_, H4⟩
   have hk : (UF (wc zs m i) ((i + 1 : Nat) : Int) (zU zs (i + 1))).2 = wc zs m (i + 1) := by
    unfold UF
    rw [if_pos (show 1 ≤ ((i + 1 : Nat) : Int) ∧ ((i + 1 : Nat) : Int) < ((wc zs m i).sz : Int) from ⟨by omega, show ((i + 1 : Nat) : Int) < ((szZ zs.length : Nat) : Int) by omega⟩)]
    show (match zR ((i + 1 : Nat) : Int) ((kW zs).take i) with
     | some y => (if y = zU zs (i + 1) then (0 : Int) else 14, wc zs m i)
     | none => (0, { wc zs m i with K := (kW zs).take i ++ [(((i + 1 : Nat) : Int), zU zs (i + 1))] })).2 = _
    rw [qJc zs (by omega)]
    dsimp only
    unfold wc
    rw [List.take_add_one, JO zs hi]; rfl
   rw [hk] at H4
   refine qD (by omega) (hih (szZ zs.length - (i + 1 + 1)) _ _ (by omega) ⟨i + 1, rfl, by omega, rfl, H4⟩)
 ·have hi : i = (kW zs).length := by rw [JB]; omega
  subst hi
  unfold wc at H
  rw [List.take_length] at H
  exact H
end Go.Proofs.YtdlfmpmpmkffjaaGreatDoor
namespace Go.Proofs.YtdlfmpmpmkffjaaGreatDoor
open Go Go.Ae
abbrev qM : Type := Int × Int × Int × Int × Int
def qe (x : qM) : List AV := [.int .i64 x.1, .int .i64 x.2.1, .int .i64 x.2.2.1, .int .i64 x.2.2.2.1, .int .u64 x.2.2.2.2]
theorem Jd (l : List qM) : q9 (l.flatMap qe) = true := by
 unfold q9
 rw [List.all_eq_true]
 intro v hv
 obtain ⟨c, _, hc⟩ := List.mem_flatMap.1 hv
 simp [qe] at hc
 rcases hc with rfl | rfl | rfl | rfl | rfl <;> rfl
def q8 (op : Int) : (Int × Int) × (Int × Int) × (Int × Int) :=
 if op = 1 ∨ op = 11 ∨ op = 21 then ((0, 7), (0, 0), (0, 0))
 else if op = 2 ∨ op = 10 then ((0, 7), (0, 7), (0, 0))
 else if op = 3 ∨ op = 4 ∨ op = 5 ∨ op = 6 ∨ op = 7 then ((0, 7), (0, 7), (0, 7))
 else if op = 8 ∨ op = 9 then ((0, 7), (0, 7), (0, 15))
 else if op = 12 then ((0, 0), (0, 0), (0, 40))
 else if op = 13 then ((0, 7), (0, 0), (0, 40))
 else if op = 23 then ((1, 12), (0, 7), (0, 6))
 else ((0, 0), (0, 0), (0, 0))
def xU (f : Int × Int) (n : Int) : Bool := decide (f.1 ≤ n ∧ n ≤ f.2)
def xr (x : qM) : Bool := decide (1 ≤ x.1 ∧ x.1 ≤ 23) && xU (q8 x.1).1 x.2.1 && xU (q8 x.1).2.1 x.2.2.1 && xU (q8 x.1).2.2 x.2.2.2.1 && decide (x.2.2.2.2 = 0 ∨ x.1 = 1)
def zZ (op : Int) : Bool := decide (op = 14 ∨ op = 17)
def jE (op : Int) : Int := if op = 15 then 14 else if op = 18 then 17 else if op = 19 then 18 else 0
def qp (st : List Int) : Int := st.getLast?.getD (-1)
def qL (l : List qM) (i : Int) : qM := (l[i.toNat]?).getD (0, 0, 0, 0, 0)
def opM (l : List qM) (st : List Int) : Int := if st = [] then 0 else (qL l (qp st)).1
def zV (l : List qM) (st : List Int) (x : qM) : Int :=
 if xr x = false then 8
 else if 0 < jE x.1 ∧ opM l st ≠ jE x.1 then 12
 else if x.1 = 16 ∧ opM l st ≠ 14 then 12
 else if zZ x.1 = true ∧ 5 ≤ st.length then 9
 else 0
def qt (st : List Int) (i op : Int) : List Int :=
 if zZ op = true ∨ op = 18 then (if 0 < jE op then st.dropLast else st) ++ [i] else (if 0 < jE op then st.dropLast else st)
def goM (l : List qM) : List qM → Nat → List Int → (Int × Int) ⊕ List Int
 | [], _, st => .inr st
 | x :: r, i, st => if zV l st x = 0 then goM l r (i + 1) (qt st i x.1) else .inl (i, zV l st x)
def zL : List qM → Nat → List Int → List Int
 | [], _, _ => []
 | x :: r, i, st => qp st :: zL r (i + 1) (qt st i x.1)
def qE (a : List Int) (i : Int) : Int := (a[i.toNat]?).getD 0
def wE (l : List qM) (a : List Int) (i : Nat) (x : qM) : Prop :=
 (x.1 = 12 ∨ x.1 = 13) ∧ ((l.length : Int) < x.2.2.2.1 ∨ (x.2.2.2.1 = l.length ∧ qE a i ≠ -1) ∨ (x.2.2.2.1 < l.length ∧ qE a x.2.2.2.1 ≠ qE a i))
instance {l : List qM} {a : List Int} {i : Nat} {x : qM} : Decidable (wE l a i x) := by unfold wE; infer_instance
def kq (l : List qM) (a : List Int) : List qM → Nat → Int × Int
 | [], _ => (0, 0)
 | x :: r, i => if wE l a i x then ((i : Int), 2) else kq l a r (i + 1)
def xS (l : List qM) : Int × Int :=
 if l.length = 0 ∨ 40 < l.length then (0, 4)
 else match goM l l 0 [] with
  | .inl r => r
  | .inr st => if st = [] then kq l (zL l 0 []) l 0 else (qp st, 12)
def StOk (i : Nat) (st : List Int) : Prop := ∀ y ∈ st, 0 ≤ y ∧ y < (i : Int)
theorem StOk.nil {i : Nat} : StOk i [] := fun _ h => by cases h
theorem StOk.dropLast {i : Nat} {st : List Int} (h : StOk i st) : StOk i st.dropLast := fun y hy => h y ((List.dropLast_sublist st).subset hy)
theorem StOk.behind {i : Nat} {st : List Int} {op : Int} (h : StOk i st) : StOk (i + 1) (qt st i op) := by
 have h1 : ∀ s, StOk i s → StOk (i + 1) s := fun s hs y hy => by have := hs y hy; omega
 have h2 : ∀ s, StOk i s → StOk (i + 1) (s ++ [(i : Int)]) := by
  intro s hs y hy
  rcases List.mem_append.1 hy with hy | hy
  ·exact h1 s hs y hy
  ·rw [List.mem_singleton] at hy; omega
 unfold qt
 repeat' split
 ·exact h2 _ h.dropLast
 ·exact h2 _ h
 ·exact h1 _ h.dropLast
 ·exact h1 _ h
theorem StOk.inmost {i : Nat} {st : List Int} (h : StOk i st) (hn : st ≠ []) : 0 ≤ qp st ∧ qp st < (i : Int) := by
 refine h _ ?_
 unfold qp
 rw [List.getLast?_eq_some_getLast hn]
 exact List.getLast_mem hn
theorem YZ (st : List Int) (i op : Int) : (qt st i op).length ≤ st.length + 1 := by
 unfold qt
 repeat' split
 all_goals simp
 all_goals omega
theorem XD : qp [] = -1 := rfl
theorem zG {l : List qM} {st : List Int} {x : qM} (h : zV l st x = 0) : xr x = true ∧ (0 < jE x.1 ∨ x.1 = 16 → st ≠ []) ∧ (zZ x.1 = true → st.length < 5) := by
 unfold zV at h
 split at h
 ·cases h
 ·rename_i h1
  split at h
  ·cases h
  ·rename_i h2
   split at h
   ·cases h
   ·rename_i h3
    split at h
    ·cases h
    ·rename_i h4
     refine ⟨by simpa using h1, ?_, fun hb => by
      by_cases h5 : 5 ≤ st.length
      ·exact absurd ⟨hb, h5⟩ h4
      ·omega⟩
     rintro ho rfl
     have h0 : opM l [] = 0 := rfl
     rw [h0] at h2 h3
     rcases ho with ho | ho
     ·exact h2 ⟨ho, by omega⟩
     ·exact h3 ⟨ho, by omega⟩
theorem QU {l r : List qM} {x : qM} {i : Nat} {st : List Int} : goM l (x :: r) i st = if zV l st x = 0 then goM l r (i + 1) (qt st i x.1) else .inl (i, zV l st x) := rfl
theorem wY : ∀ {r : List qM} {i : Nat} {st : List Int}, (zL r i st).length = r.length := by
 intro r
 induction r with
 | nil => intro i st; rfl
 | cons x r ih => intro i st; show (zL r (i + 1) _).length + 1 = _; rw [ih]; rfl
theorem Om : ∀ {r : List qM} {i j : Nat} {st : List Int}, j < r.length → ∃ s, (zL r i st)[j]? = some (qp s) ∧ (∀ {l : List qM} {st' : List Int}, goM l r i st = .inr st' → StOk i st → StOk (i + j) s ∧ ∀ x, r[j]? = some x → zV l s x = 0) := by
 intro r
 induction r with
 | nil => intro i j st h; simp at h
 | cons x r ih =>
  intro i j st h
  cases j with
  | zero =>
   refine ⟨st, rfl, fun {l st'} hg hs => ⟨hs, ?_⟩⟩
   intro y hy
   simp at hy
   subst hy
   rw [QU] at hg
   split at hg
   ·assumption
   ·cases hg
  | succ j =>
   obtain ⟨s, h1, h2⟩ := ih (i := i + 1) (j := j) (st := qt st i x.1) (by simp at h; omega)
   refine ⟨s, h1, fun {l st'} hg hs => ?_⟩
   rw [QU] at hg
   split at hg
   ·have := h2 hg hs.behind
    rw [show i + 1 + j = i + (j + 1) by omega] at this
    exact this
   ·cases hg
end Go.Proofs.YtdlfmpmpmkffjaaGreatDoor
namespace Go.Proofs.YtdlfmpmpmkffjaaGreatDoor
open Go Go.Ae
set_option maxRecDepth 100000
variable {g h : AH} {L R : List SP}
theorem yn {D : Nat → Prop} {sz n : Nat} {v : AV} {xs : List AV} (S : Sl D h sz n v xs) : One v := by cases S <;> exact ⟨rfl, rfl⟩
theorem xK {v : AV} (o : One v) : q9 [v] = true := by simp [q9, o.2]
theorem zt {g' ha : AH} {b off n nx : Nat} {xs ys l : List AV} {L2 R2 : List SP} {K0 : Go.Ae.R} {Q : AV → AH → Prop} (H : HS g h L) (s : Sel L (qw b xs) R) (hx : (xs.drop off).take n = l) (H2 : HS g' ha L2) (s2 : Sel L2 (qw b ys) R2) (hx2 : (ys.drop off).take n = l) (hl : l.length = n) (h0 : 0 < n) (hlt : b < nx)
  (w : wp K0 Q) : wp (wT (.ptr b off) (some n) (.agg l) h ha nx K0) Q := by
 obtain ⟨e, A⟩ := H.obj s
 obtain ⟨e2, A2⟩ := H2.obj s2
 exact qJe hl h0 (fun i hi => by rw [A.at, ← hx, List.getElem?_take_of_lt hi, List.getElem?_drop]) (fun i hi => by rw [A2.at, ← hx2, List.getElem?_take_of_lt hi, List.getElem?_drop]) hlt w
theorem Ui {u x : Bool} {r : AV} {K : AV → Go.Ae.R} {Q : AV → AH → Prop} (hr : u = true → r = .bool x) (w : wp (K (.bool (u && x))) Q) : wp (x9 (.bool u) r (.bool false) K) Q := by
 cases u
 ·exact w
 ·rw [hr rfl]; exact w
end Go.Proofs.YtdlfmpmpmkffjaaGreatDoor
namespace Go.Proofs.YtdlfmpmpmkffjaaGreatDoor
open Go Go.Ae
set_option maxRecDepth 100000
variable {g h : AH} {L R : List SP}
theorem qZN {s : List UInt8} {K : AV → Go.Ae.R} {Q : AV → AH → Prop} {t : Bool} (ht : Um .neq s [] = some (.bool t)) (w : wp (K (.bool t)) Q) : wp (kp .neq (.str s) (.str []) K) Q := by
 show wp (ob (Um .neq s []) K) Q
 rw [ht]; exact w
theorem Qf {n : Nat} (hn : 1 ≤ n) {x : Int} : wp (callT tab qA n (.fn 82 [] []) [.int .i64 x] h) fun v h' => v = .int .i64 (jE x) ∧ h' = h := by
 (refine qP (g := (tD1 S82)) rfl (by omega) fun k hk => ?_; show wp (S82 (callT tab qA k) _ _).1 _; unfold S82; try simp only [ Int.ofNat_eq_natCast])
 repeat' (first | with_reducible refine qV ?_ | with_reducible refine qQ ?_ | (with_reducible refine qR ?_; try dsimp only) | (with_reducible refine qS ?_; try dsimp only) | (with_reducible refine qO ?_; try dsimp only) | (with_reducible refine qB ?_; try dsimp only) | (with_reducible refine jW ?_; try dsimp only) | with_reducible refine qC ?_ | with_reducible refine qv ?_ | (with_reducible refine qX ?_; try dsimp only) | with_reducible refine qj ?_ | with_reducible refine qo ?_ | with_reducible refine jq ?_ | with_reducible refine qD (by omega) ?_ | with_reducible refine qb (by omega) ?_ | with_reducible refine zk (by omega) ?_ | with_reducible refine zy (by omega) ?_ | with_reducible refine zx ?_ | with_reducible refine zg ?_ | with_reducible refine jA (fun hc => ?_) (fun hc => ?_) | with_reducible refine xg (fun hc => ?_) (fun hc => ?_) | with_reducible refine zi (fun hc => ?_) (fun hc => ?_) | with_reducible refine xW (fun hc => ?_) (fun hc => ?_) | with_reducible refine xG (fun hc => ?_) (fun hc => ?_) | with_reducible refine zA (fun hc => ?_) (fun hc => ?_) | with_reducible refine xZ (fun hc => ?_) (fun hc => ?_))
 all_goals refine qW ⟨?_, rfl⟩
 all_goals unfold jE
 all_goals congr 1
 all_goals (repeat' split)
 all_goals omega
theorem X8 {n : Nat} (hn : 1 ≤ n) {x : Int} : wp (callT tab qA n (.fn 105 [] []) [.int .i64 x] h) fun v h' => v = .bool (zZ x) ∧ h' = h := by
 (refine qP (g := (tD1 S105)) rfl (by omega) fun k hk => ?_; show wp (S105 (callT tab qA k) _ _).1 _; unfold S105; try simp only [ Int.ofNat_eq_natCast])
 unfold zZ
 by_cases h1 : x = 14
 ·with_reducible (refine qy (by omega) ?_; refine qX ?_; (try dsimp only); refine qS ?_; (try dsimp only); refine qC ?_)
  exact qW ⟨by rw [decide_eq_true (.inl h1)], rfl⟩
 ·with_reducible (refine qK (by omega) ?_; refine qX ?_; (try dsimp only); refine qB ?_; (try dsimp only))
  refine ge ?_
  refine qv ?_
  exact qW ⟨by congr 1; exact decide_eq_decide.2 ⟨.inr, fun h => h.resolve_left h1⟩, rfl⟩
theorem qQr {n : Nat} (hn : 1 ≤ n) {x : Int} : wp (callT tab qA n (.fn 106 [] []) [.int .i64 x] h) fun v h' => v = .bool (decide (x = 12 ∨ x = 13)) ∧ h' = h := by
 (refine qP (g := (tD1 S106)) rfl (by omega) fun k hk => ?_; show wp (S106 (callT tab qA k) _ _).1 _; unfold S106; try simp only [ Int.ofNat_eq_natCast])
 by_cases h1 : x = 12
 ·with_reducible (refine qy (by omega) ?_; refine qX ?_; (try dsimp only); refine qS ?_; (try dsimp only); refine qC ?_)
  exact qW ⟨by rw [decide_eq_true (.inl h1)], rfl⟩
 ·with_reducible (refine qK (by omega) ?_; refine qX ?_; (try dsimp only); refine qB ?_; (try dsimp only))
  refine ge ?_
  refine qv ?_
  exact qW ⟨by congr 1; exact decide_eq_decide.2 ⟨.inr, fun h => h.resolve_left h1⟩, rfl⟩
theorem QG {D : Nat → Prop} {n : Nat} (hn : 1 ≤ n) {st : List Int} {v : AV} (S : Sl D h 1 st.length v (st.map (.int .i64))) (hl : st.length < 1000) :
  wp (callT tab qA n (.fn 74 [] []) [v] h) fun r h' => r = .int .i64 (qp st) ∧ h' = h := by
 (refine qP (g := (tD1 S74)) rfl (by omega) fun k hk => ?_; show wp (S74 (callT tab qA k) _ _).1 _; unfold S74; try simp only [ Int.ofNat_eq_natCast])
 refine jb S ?_
 by_cases h0 : st.length = 0
 ·obtain rfl := List.eq_nil_of_length_eq_zero h0
  with_reducible (refine qy (by omega) ?_; refine qV ?_)
  exact qW ⟨rfl, rfl⟩
 ·with_reducible (refine qK (by omega) ?_; refine qQ ?_)
  refine jb S ?_
  refine qb (by omega) ?_
  rw [show (st.length : Int) - ((1 : Nat) : Int) = ((st.length - 1 : Nat) : Int) by omega]
  have hne : st ≠ [] := by rintro rfl; exact h0 rfl
  refine jF S (x := .int .i64 (qp st)) ?_ (qW ⟨rfl, rfl⟩)
  unfold qp
  rw [List.getElem?_map, ← List.getLast?_eq_getElem?, List.getLast?_eq_some_getLast hne]; rfl
theorem Xb {n : Nat} (hn : 1 ≤ n) {f : Int × Int} {x : Int} (H : HS g h R) : wp (callT tab qA n (.fn 155 [] []) [.agg [.int .i64 f.1, .int .i64 f.2], .int .i64 x] h) fun v h' => v = .bool (xU f x) ∧ HS g h' R := by
 (refine qP (g := (tD2 S155)) rfl (by omega) fun k hk => ?_; show wp (S155 (callT tab qA k) _ _ _).1 _; unfold S155; try simp only [ Int.ofNat_eq_natCast])
 refine qU H rfl fun b h1 H1 => ?_
 unfold xU
 by_cases c1 : f.1 ≤ x
 ·with_reducible (refine qJ ?_; refine qG (by assumption) .here rfl ?_; refine jV (by omega) ?_; refine qX ?_; (try dsimp only); refine qR ?_; (try dsimp only); refine qJ ?_; refine qG (by assumption) .here rfl ?_)
  refine Gc ?_
  refine qC ?_
  exact qW ⟨by congr 1; exact decide_eq_decide.2 ⟨fun h => ⟨c1, h⟩, fun h => h.2⟩, H1.drop⟩
 ·with_reducible (refine qJ ?_; refine qG (by assumption) .here rfl ?_; refine jQ (by omega) ?_; refine qX ?_; (try dsimp only); refine qO ?_; (try dsimp only); refine qv ?_)
  exact qW ⟨by rw [decide_eq_false (fun h => c1 h.1)], H1.drop⟩
def yQ (f : Int × Int) : List AV := [.int .i64 f.1, .int .i64 f.2]
theorem U7 {n : Nat} (hn : 1 ≤ n) {x : Int} (H : HS g h R) : wp (callT tab qA n (.fn 153 [] []) [.int .i64 x] h) fun v h' => v = .tup [.agg (yQ (q8 x).1), .agg (yQ (q8 x).2.1), .agg (yQ (q8 x).2.2)] ∧ HS g h' R := by
 (refine qP (g := (tD1 S153)) rfl (by omega) fun k hk => ?_; show wp (S153 (callT tab qA k) _ _).1 _; unfold S153; try simp only [ Int.ofNat_eq_natCast])
 refine qU H rfl fun b0 h1 H1 => ?_
 refine qU H1 rfl fun b2 h2 H2 => ?_
 refine qU H2 rfl fun b4 h3 H3 => ?_
 refine qF (l := [.int .i64 ((0 : Nat) : Int), .int .i64 ((7 : Nat) : Int)]) rfl ?_
 refine qU H3 rfl fun b7 h4 H4 => ?_
 refine jG H4 (b := b7) .here rfl (by simp) rfl fun h5 H5 => ?_
 have H5 : HS g h5 (qw b7 (yQ (0, 7)) :: qw b4 (yQ (0, 0)) :: qw b2 (yQ (0, 0)) :: qw b0 (yQ (0, 0)) :: R) := H5
 clear H H1 H2 H3 H4
 refine zB [] (fun s h' => s = (.ptr b4 0, .ptr b2 0, .ptr b0 0, ()) ∧ HS g h' (qw b0 (yQ (q8 x).1) :: qw b2 (yQ (q8 x).2.1) :: qw b4 (yQ (q8 x).2.2) :: R)) ?_ ?_
 ·intro j hj
  by_cases ha : x = 1 ∨ x = 11 ∨ x = 21
  ·have e : q8 x = ((0, 7), (0, 0), (0, 0)) := by unfold q8; rw [if_pos ha]
   rw [e] at hj
   rcases ha with rfl | rfl | rfl
   all_goals (first | with_reducible (refine qX ?_; (try dsimp only); refine qK (by omega) ?_; refine qQ ?_; refine qK (by omega) ?_; refine qQ ?_; refine qy (by omega) ?_; refine qV ?_) | with_reducible (refine qX ?_; (try dsimp only); refine qK (by omega) ?_; refine qQ ?_; refine qy (by omega) ?_; refine qV ?_; refine qV ?_) | with_reducible (refine qX ?_; (try dsimp only); refine qy (by omega) ?_; refine qV ?_; refine qV ?_))
   all_goals refine qh H5 (b := b7) (off := 0) .here rfl (by omega) rfl ?_
   all_goals refine jG H5 (b := b0) e_3 rfl (by simp [yQ]) rfl fun h6 H6 => ?_
   all_goals exact hj _ _ ⟨rfl, H6.sub (.cons .here (.cons e_2 (.cons e_1 (.drop .refl))))⟩
  by_cases hb : x = 2 ∨ x = 10
  ·have e : q8 x = ((0, 7), (0, 7), (0, 0)) := by unfold q8; rw [if_neg ha, if_pos hb]
   rw [e] at hj
   rcases hb with rfl | rfl
   all_goals (first | with_reducible (refine qX ?_; (try dsimp only); refine qK (by omega) ?_; refine qQ ?_; refine qK (by omega) ?_; refine qQ ?_; refine qK (by omega) ?_; refine qQ ?_; refine qX ?_; (try dsimp only); refine qK (by omega) ?_; refine qQ ?_; refine qy (by omega) ?_; refine qV ?_; refine qX ?_; (try dsimp only)) | with_reducible (refine qX ?_; (try dsimp only); refine qK (by omega) ?_; refine qQ ?_; refine qK (by omega) ?_; refine qQ ?_; refine qK (by omega) ?_; refine qQ ?_; refine qX ?_; (try dsimp only); refine qy (by omega) ?_; refine qV ?_; refine qV ?_; refine qX ?_; (try dsimp only)))
   all_goals refine qh H5 (b := b7) (off := 0) .here rfl (by omega) rfl ?_
   all_goals refine qh H5 (b := b7) (off := 0) .here rfl (by omega) rfl ?_
   all_goals refine jG H5 (b := b0) e_3 rfl (by simp [yQ]) rfl fun h6 H6 => ?_
   all_goals refine jG H6 (b := b2) e_3 rfl (by simp [yQ]) rfl fun h7 H7 => ?_
   all_goals refine zt H5 (b := b7) .here rfl H6 e_1 rfl rfl (by omega) (HS.lt H5 .here) ?_
   all_goals exact hj _ _ ⟨rfl, H7.sub (.cons e_1 (.cons .here (.cons e_1 (.drop .refl))))⟩
  by_cases hc : x = 3 ∨ x = 4 ∨ x = 5 ∨ x = 6 ∨ x = 7
  ·have e : q8 x = ((0, 7), (0, 7), (0, 7)) := by unfold q8; rw [if_neg ha, if_neg hb, if_pos hc]
   rw [e] at hj
   rcases hc with rfl | rfl | rfl | rfl | rfl
   all_goals (first | with_reducible (refine qX ?_; (try dsimp only); refine qK (by omega) ?_; refine qQ ?_; refine qK (by omega) ?_; refine qQ ?_; refine qK (by omega) ?_; refine qQ ?_; refine qX ?_; (try dsimp only); refine qK (by omega) ?_; refine qQ ?_; refine qK (by omega) ?_; refine qQ ?_; refine qX ?_; (try dsimp only); refine qK (by omega) ?_; refine qQ ?_; refine qK (by omega) ?_; refine qQ ?_; refine qK (by omega) ?_; refine qQ ?_; refine qK (by omega) ?_; refine qQ ?_; refine qy (by omega) ?_; refine qV ?_; refine qX ?_; (try dsimp only)) | with_reducible (refine qX ?_; (try dsimp only); refine qK (by omega) ?_; refine qQ ?_; refine qK (by omega) ?_; refine qQ ?_; refine qK (by omega) ?_; refine qQ ?_; refine qX ?_; (try dsimp only); refine qK (by omega) ?_; refine qQ ?_; refine qK (by omega) ?_; refine qQ ?_; refine qX ?_; (try dsimp only); refine qK (by omega) ?_; refine qQ ?_; refine qK (by omega) ?_; refine qQ ?_; refine qK (by omega) ?_; refine qQ ?_; refine qy (by omega) ?_; refine qV ?_; refine qV ?_; refine qX ?_; (try dsimp only)) | with_reducible (refine qX ?_; (try dsimp only); refine qK (by omega) ?_; refine qQ ?_; refine qK (by omega) ?_; refine qQ ?_; refine qK (by omega) ?_; refine qQ ?_; refine qX ?_; (try dsimp only); refine qK (by omega) ?_; refine qQ ?_; refine qK (by omega) ?_; refine qQ ?_; refine qX ?_; (try dsimp only); refine qK (by omega) ?_; refine qQ ?_; refine qK (by omega) ?_; refine qQ ?_; refine qy (by omega) ?_; refine qV ?_; refine qV ?_; refine qX ?_; (try dsimp only)) | with_reducible (refine qX ?_; (try dsimp only); refine qK (by omega) ?_; refine qQ ?_; refine qK (by omega) ?_; refine qQ ?_; refine qK (by omega) ?_; refine qQ ?_; refine qX ?_; (try dsimp only); refine qK (by omega) ?_; refine qQ ?_; refine qK (by omega) ?_; refine qQ ?_; refine qX ?_; (try dsimp only); refine qK (by omega) ?_; refine qQ ?_; refine qy (by omega) ?_; refine qV ?_; refine qV ?_; refine qX ?_; (try dsimp only)) | with_reducible (refine qX ?_; (try dsimp only); refine qK (by omega) ?_; refine qQ ?_; refine qK (by omega) ?_; refine qQ ?_; refine qK (by omega) ?_; refine qQ ?_; refine qX ?_; (try dsimp only); refine qK (by omega) ?_; refine qQ ?_; refine qK (by omega) ?_; refine qQ ?_; refine qX ?_; (try dsimp only); refine qy (by omega) ?_; refine qV ?_; refine qV ?_; refine qX ?_; (try dsimp only)))
   all_goals refine qh H5 (b := b7) (off := 0) .here rfl (by omega) rfl ?_
   all_goals refine qh H5 (b := b7) (off := 0) .here rfl (by omega) rfl ?_
   all_goals refine qh H5 (b := b7) (off := 0) .here rfl (by omega) rfl ?_
   all_goals refine jG H5 (b := b0) e_3 rfl (by simp [yQ]) rfl fun h6 H6 => ?_
   all_goals refine jG H6 (b := b2) e_3 rfl (by simp [yQ]) rfl fun h7 H7 => ?_
   all_goals refine jG H7 (b := b4) e_3 rfl (by simp [yQ]) rfl fun h8 H8 => ?_
   all_goals refine zt H6 (b := b7) e_1 rfl H7 e_2 rfl rfl (by omega) (HS.lt H5 .here) ?_
   all_goals refine zt H5 (b := b7) .here rfl H6 e_1 rfl rfl (by omega) (HS.lt H5 .here) ?_
   all_goals refine zt H5 (b := b7) .here rfl H6 e_1 rfl rfl (by omega) (HS.lt H5 .here) ?_
   all_goals exact hj _ _ ⟨rfl, H8.sub (.cons e_2 (.cons e_1 (.cons .here (.drop .refl))))⟩
  by_cases hd : x = 8 ∨ x = 9
  ·have e : q8 x = ((0, 7), (0, 7), (0, 15)) := by unfold q8; rw [if_neg ha, if_neg hb, if_neg hc, if_pos hd]
   rw [e] at hj
   rcases hd with rfl | rfl
   all_goals (first | with_reducible (refine qX ?_; (try dsimp only); refine qK (by omega) ?_; refine qQ ?_; refine qK (by omega) ?_; refine qQ ?_; refine qK (by omega) ?_; refine qQ ?_; refine qX ?_; (try dsimp only); refine qK (by omega) ?_; refine qQ ?_; refine qK (by omega) ?_; refine qQ ?_; refine qX ?_; (try dsimp only); refine qK (by omega) ?_; refine qQ ?_; refine qK (by omega) ?_; refine qQ ?_; refine qK (by omega) ?_; refine qQ ?_; refine qK (by omega) ?_; refine qQ ?_; refine qK (by omega) ?_; refine qQ ?_; refine qX ?_; (try dsimp only); refine qK (by omega) ?_; refine qQ ?_; refine qy (by omega) ?_; refine qV ?_; refine qX ?_; (try dsimp only)) | with_reducible (refine qX ?_; (try dsimp only); refine qK (by omega) ?_; refine qQ ?_; refine qK (by omega) ?_; refine qQ ?_; refine qK (by omega) ?_; refine qQ ?_; refine qX ?_; (try dsimp only); refine qK (by omega) ?_; refine qQ ?_; refine qK (by omega) ?_; refine qQ ?_; refine qX ?_; (try dsimp only); refine qK (by omega) ?_; refine qQ ?_; refine qK (by omega) ?_; refine qQ ?_; refine qK (by omega) ?_; refine qQ ?_; refine qK (by omega) ?_; refine qQ ?_; refine qK (by omega) ?_; refine qQ ?_; refine qX ?_; (try dsimp only); refine qy (by omega) ?_; refine qV ?_; refine qV ?_; refine qX ?_; (try dsimp only)))
   all_goals refine qh H5 (b := b7) (off := 0) .here rfl (by omega) rfl ?_
   all_goals refine qh H5 (b := b7) (off := 0) .here rfl (by omega) rfl ?_
   all_goals refine qF (l := yQ (0, 15)) rfl ?_
   all_goals refine jG H5 (b := b0) e_3 rfl (by simp [yQ]) rfl fun h6 H6 => ?_
   all_goals refine jG H6 (b := b2) e_3 rfl (by simp [yQ]) rfl fun h7 H7 => ?_
   all_goals refine jG H7 (b := b4) e_3 rfl (by simp [yQ]) rfl fun h8 H8 => ?_
   all_goals refine zt H5 (b := b7) .here rfl H6 e_1 rfl rfl (by omega) (HS.lt H5 .here) ?_
   all_goals exact hj _ _ ⟨rfl, H8.sub (.cons e_2 (.cons e_1 (.cons .here (.drop .refl))))⟩
  by_cases he : x = 12
  ·have e : q8 x = ((0, 0), (0, 0), (0, 40)) := by unfold q8; rw [if_neg ha, if_neg hb, if_neg hc, if_neg hd, if_pos he]
   rw [e] at hj
   subst he
   with_reducible (refine qX ?_; (try dsimp only); refine qK (by omega) ?_; refine qQ ?_; refine qK (by omega) ?_; refine qQ ?_; refine qK (by omega) ?_; refine qQ ?_; refine qX ?_; (try dsimp only); refine qK (by omega) ?_; refine qQ ?_; refine qK (by omega) ?_; refine qQ ?_; refine qX ?_; (try dsimp only); refine qK (by omega) ?_; refine qQ ?_; refine qK (by omega) ?_; refine qQ ?_; refine qK (by omega) ?_; refine qQ ?_; refine qK (by omega) ?_; refine qQ ?_; refine qK (by omega) ?_; refine qQ ?_; refine qX ?_; (try dsimp only); refine qK (by omega) ?_; refine qQ ?_; refine qK (by omega) ?_; refine qQ ?_; refine qy (by omega) ?_; refine qV ?_; refine qF rfl ?_)
   refine jG H5 (b := b4) e_1 rfl (by simp [yQ]) rfl fun h6 H6 => ?_
   exact hj _ _ ⟨rfl, H6.sub (.cons e_3 (.cons e_2 (.cons .here (.drop .refl))))⟩
  by_cases hf : x = 13
  ·have e : q8 x = ((0, 7), (0, 0), (0, 40)) := by unfold q8; rw [if_neg ha, if_neg hb, if_neg hc, if_neg hd, if_neg he, if_pos hf]
   rw [e] at hj
   subst hf
   with_reducible (refine qX ?_; (try dsimp only); refine qK (by omega) ?_; refine qQ ?_; refine qK (by omega) ?_; refine qQ ?_; refine qK (by omega) ?_; refine qQ ?_; refine qX ?_; (try dsimp only); refine qK (by omega) ?_; refine qQ ?_; refine qK (by omega) ?_; refine qQ ?_; refine qX ?_; (try dsimp only); refine qK (by omega) ?_; refine qQ ?_; refine qK (by omega) ?_; refine qQ ?_; refine qK (by omega) ?_; refine qQ ?_; refine qK (by omega) ?_; refine qQ ?_; refine qK (by omega) ?_; refine qQ ?_; refine qX ?_; (try dsimp only); refine qK (by omega) ?_; refine qQ ?_; refine qK (by omega) ?_; refine qQ ?_; refine qK (by omega) ?_; refine qQ ?_; refine qy (by omega) ?_; refine qV ?_)
   refine qh H5 (b := b7) (off := 0) .here rfl (by omega) rfl ?_
   refine qF (l := yQ (0, 40)) rfl ?_
   refine jG H5 (b := b0) e_3 rfl (by simp [yQ]) rfl fun h6 H6 => ?_
   refine jG H6 (b := b4) e_2 rfl (by simp [yQ]) rfl fun h7 H7 => ?_
   exact hj _ _ ⟨rfl, H7.sub (.cons e_1 (.cons e_2 (.cons .here (.drop .refl))))⟩
  by_cases hg : x = 23
  ·have e : q8 x = ((1, 12), (0, 7), (0, 6)) := by unfold q8; rw [if_neg ha, if_neg hb, if_neg hc, if_neg hd, if_neg he, if_neg hf, if_pos hg]
   rw [e] at hj
   subst hg
   with_reducible (refine qX ?_; (try dsimp only); refine qK (by omega) ?_; refine qQ ?_; refine qK (by omega) ?_; refine qQ ?_; refine qK (by omega) ?_; refine qQ ?_; refine qX ?_; (try dsimp only); refine qK (by omega) ?_; refine qQ ?_; refine qK (by omega) ?_; refine qQ ?_; refine qX ?_; (try dsimp only); refine qK (by omega) ?_; refine qQ ?_; refine qK (by omega) ?_; refine qQ ?_; refine qK (by omega) ?_; refine qQ ?_; refine qK (by omega) ?_; refine qQ ?_; refine qK (by omega) ?_; refine qQ ?_; refine qX ?_; (try dsimp only); refine qK (by omega) ?_; refine qQ ?_; refine qK (by omega) ?_; refine qQ ?_; refine qK (by omega) ?_; refine qQ ?_; refine qK (by omega) ?_; refine qQ ?_; refine qy (by omega) ?_; refine qV ?_; refine qF rfl ?_; refine qF rfl ?_; refine qF rfl ?_)
   refine jG H5 (b := b0) e_3 rfl (by simp [yQ]) rfl fun h6 H6 => ?_
   refine jG H6 (b := b2) e_3 rfl (by simp [yQ]) rfl fun h7 H7 => ?_
   refine jG H7 (b := b4) e_3 rfl (by simp [yQ]) rfl fun h8 H8 => ?_
   exact hj _ _ ⟨rfl, H8.sub (.cons e_2 (.cons e_1 (.cons .here (.drop .refl))))⟩
  ·have e : q8 x = ((0, 0), (0, 0), (0, 0)) := by unfold q8; rw [if_neg ha, if_neg hb, if_neg hc, if_neg hd, if_neg he, if_neg hf, if_neg hg]
   rw [e] at hj ⊢
   with_reducible (refine qX ?_; (try dsimp only); refine qK (by omega) ?_; refine qQ ?_; refine qK (by omega) ?_; refine qQ ?_; refine qK (by omega) ?_; refine qQ ?_; refine qX ?_; (try dsimp only); refine qK (by omega) ?_; refine qQ ?_; refine qK (by omega) ?_; refine qQ ?_; refine qX ?_; (try dsimp only); refine qK (by omega) ?_; refine qQ ?_; refine qK (by omega) ?_; refine qQ ?_; refine qK (by omega) ?_; refine qQ ?_; refine qK (by omega) ?_; refine qQ ?_; refine qK (by omega) ?_; refine qQ ?_; refine qX ?_; (try dsimp only); refine qK (by omega) ?_; refine qQ ?_; refine qK (by omega) ?_; refine qQ ?_; refine qK (by omega) ?_; refine qQ ?_; refine qK (by omega) ?_; refine qQ ?_; refine qK (by omega) ?_; refine qQ ?_)
   exact hj _ _ ⟨rfl, H5.sub (.cons e_3 (.cons e_2 (.cons e_1 (.drop .refl))))⟩
 ·rintro s h6 ⟨rfl, H6⟩
  dsimp only
  generalize q8 x = F at *
  refine qX ?_
  refine qh H6 (b := b0) (off := 0) .here rfl (by omega) rfl ?_
  refine qh H6 (b := b2) (off := 0) e_1 rfl (by omega) rfl ?_
  refine qh H6 (b := b4) (off := 0) e_2 rfl (by omega) rfl ?_
  refine jG H6 (b := b0) .here rfl (by simp [yQ]) rfl fun h7 H7 => ?_
  refine jG H7 (b := b2) e_1 rfl (by simp [yQ]) rfl fun h8 H8 => ?_
  refine jG H8 (b := b4) e_2 rfl (by simp [yQ]) rfl fun h9 H9 => ?_
  refine zt H7 (b := b4) e_2 rfl H8 e_2 rfl rfl (by omega) (HS.lt H6 e_2) ?_
  refine zt H6 (b := b4) e_2 rfl H7 e_2 rfl rfl (by omega) (HS.lt H6 e_2) ?_
  refine zt H6 (b := b2) e_1 rfl H7 e_1 rfl rfl (by omega) (HS.lt H6 e_1) ?_
  refine qj ?_
  refine qh H9 (b := b0) (off := 0) e_2 rfl (by omega) rfl ?_
  refine qh H9 (b := b2) (off := 0) e_1 rfl (by omega) rfl ?_
  refine qh H9 (b := b4) (off := 0) .here rfl (by omega) rfl ?_
  exact qW ⟨rfl, H9.drop.drop.drop⟩
def nameL : List (List UInt8) := [[], [115, 101, 116], [109, 111, 118, 101], [97, 100, 100], [115, 117, 98], [109, 117, 108], [108, 101, 115, 115], [101, 113, 117, 97, 108], [108, 111, 97, 100], [115, 116, 111, 114, 101], [97, 108, 108, 111, 99], [102, 114, 101, 101], [106, 117, 109, 112], [122, 101, 114, 111], [111, 112, 101, 110], [99, 108, 111, 115, 101], [117, 110, 100, 111], [101, 105, 116, 104, 101, 114], [111, 114], [100, 111, 110, 101], [114, 101, 116, 114, 121], [101, 109, 105, 116], [102, 97, 105, 108], [99, 97, 108, 108]]
theorem qX0 {p : Nat} (hp : p < 24) : ∃ s, nameL[p]? = some s ∧ Um .neq s [] = some (.bool (decide (1 ≤ (p : Int) ∧ (p : Int) ≤ 23))) := by
 match p, hp with
 | 0, _ => exact ⟨_, rfl, rfl⟩
 | 1, _ => exact ⟨_, rfl, rfl⟩
 | 2, _ => exact ⟨_, rfl, rfl⟩
 | 3, _ => exact ⟨_, rfl, rfl⟩
 | 4, _ => exact ⟨_, rfl, rfl⟩
 | 5, _ => exact ⟨_, rfl, rfl⟩
 | 6, _ => exact ⟨_, rfl, rfl⟩
 | 7, _ => exact ⟨_, rfl, rfl⟩
 | 8, _ => exact ⟨_, rfl, rfl⟩
 | 9, _ => exact ⟨_, rfl, rfl⟩
 | 10, _ => exact ⟨_, rfl, rfl⟩
 | 11, _ => exact ⟨_, rfl, rfl⟩
 | 12, _ => exact ⟨_, rfl, rfl⟩
 | 13, _ => exact ⟨_, rfl, rfl⟩
 | 14, _ => exact ⟨_, rfl, rfl⟩
 | 15, _ => exact ⟨_, rfl, rfl⟩
 | 16, _ => exact ⟨_, rfl, rfl⟩
 | 17, _ => exact ⟨_, rfl, rfl⟩
 | 18, _ => exact ⟨_, rfl, rfl⟩
 | 19, _ => exact ⟨_, rfl, rfl⟩
 | 20, _ => exact ⟨_, rfl, rfl⟩
 | 21, _ => exact ⟨_, rfl, rfl⟩
 | 22, _ => exact ⟨_, rfl, rfl⟩
 | 23, _ => exact ⟨_, rfl, rfl⟩
 | k + 24, h => exact absurd h (by omega)
theorem qQu {n : Nat} (hn : 2 ≤ n) {x : Int} (H : HS g h R) : wp (callT tab qA n (.fn 154 [] []) [.int .i64 x] h) fun v h' => ∃ s, v = .str s ∧ Um .neq s [] = some (.bool (decide (1 ≤ x ∧ x ≤ 23))) ∧ HS g h' R := by
 (refine qP (g := (tD1 S154)) rfl (by omega) fun k hk => ?_; show wp (S154 (callT tab qA k) _ _).1 _; unfold S154; try simp only [ Int.ofNat_eq_natCast])
 refine qY (Q' := fun v h' => ∃ e, HS g h' (qz e 1 24 v (nameL.map .str) :: R)) ?_ ?_
 ·(refine qP (g := W220) rfl (by omega) fun k hk => ?_; show wp (S220 (callT tab qA k) _) _; unfold S220; try simp only [iI, uU, Int.ofNat_eq_natCast])
  exact qf (n := 24) (l := nameL.map .str) (sz := 1) H rfl rfl rfl rfl fun v h1 H1 => qW ⟨_, H1⟩
 rintro v h1 ⟨e, H1⟩
 refine qY (Q' := fun w h' => ∃ s, w = .str s ∧ Um .neq s [] = some (.bool (decide (1 ≤ x ∧ x ≤ 23))) ∧ h' = h1) ?_ ?_
 ·(refine qP (g := (tD2 S219)) rfl (by omega) fun k hk => ?_; show wp (S219 (callT tab qA k) _ _ _).1 _; unfold S219; try simp only [ Int.ofNat_eq_natCast])
  by_cases c0 : x < 0
  ·with_reducible (refine jC (by omega) ?_; refine qX ?_; (try dsimp only); refine qS ?_; (try dsimp only); refine qC ?_; refine qV ?_)
   exact qW ⟨[], rfl, by rw [decide_eq_false (by omega)]; rfl, rfl⟩
  ·refine jv (by omega) ?_
   with_reducible (refine qX ?_; (try dsimp only); refine qB ?_; (try dsimp only); refine qd (by assumption) .here ?_)
   by_cases c1 : x < 24
   ·obtain ⟨p, rfl⟩ : ∃ p : Nat, x = (p : Int) := ⟨x.toNat, by omega⟩
    obtain ⟨s, hs, ht⟩ := qX0 (show p < 24 by omega)
    with_reducible (refine jQ (by omega) ?_; refine qv ?_; refine qQ ?_)
    refine jF (H1.sl .here) (x := .str s) (by rw [List.getElem?_map, hs]; rfl) (qW ⟨s, rfl, ht, rfl⟩)
   ·with_reducible (refine jV (by omega) ?_; refine qv ?_; refine qV ?_)
    exact qW ⟨[], rfl, by rw [decide_eq_false (by omega)]; rfl, rfl⟩
 ·rintro _ h2 ⟨s, rfl, ht, rfl⟩
  exact qW ⟨s, rfl, ht, H1.drop⟩
theorem qXo {n : Nat} (hn : 3 ≤ n) {x : qM} (H : HS g h R) : wp (callT tab qA n (.fn 103 [] []) [.agg (qe x)] h) fun v h' => v = .bool (xr x) ∧ HS g h' R := by
 (refine qP (g := (tD1 S103)) rfl (by omega) fun k hk => ?_; show wp (S103 (callT tab qA k) _ _).1 _; unfold S103; try simp only [ Int.ofNat_eq_natCast])
 obtain ⟨op, a, b, c, q⟩ := x
 refine qU H rfl fun b0 h1 H1 => ?_
 have H1 : HS g h1 (qw b0 [.int .i64 op, .int .i64 a, .int .i64 b, .int .i64 c, .int .u64 q] :: R) := H1
 with_reducible (refine qJ ?_; refine qG (by assumption) .here rfl ?_)
 refine qY (U7 (by omega) H1) ?_
 rintro _ h2 ⟨rfl, H2⟩
 have hM : xr (op, a, b, c, q) = (decide (1 ≤ op ∧ op ≤ 23) && xU (q8 op).1 a && xU (q8 op).2.1 b && xU (q8 op).2.2 c && decide (q = 0 ∨ op = 1)) := rfl
 rw [hM]
 generalize q8 op = F at *
 obtain ⟨f1, f2, f3⟩ := F
 dsimp only
 with_reducible (refine qx rfl ?_; refine qx rfl ?_; refine qx rfl ?_)
 refine qU H2 rfl fun b1 h3 H3 => ?_
 refine qU H3 rfl fun b2 h4 H4 => ?_
 refine qU H4 rfl fun b3 h5 H5 => ?_
 refine jG H5 (b := b1) e_2 rfl (by simp) rfl fun h6 H6 => ?_
 refine jG H6 (b := b2) e_2 rfl (by simp) rfl fun h7 H7 => ?_
 refine jG H7 (b := b3) e_2 rfl (by simp) rfl fun h8 H8 => ?_
 have H8 : HS g h8 (qw b3 (yQ f3) :: qw b2 (yQ f2) :: qw b1 (yQ f1) :: qw b0 [.int .i64 op, .int .i64 a, .int .i64 b, .int .i64 c, .int .u64 q] :: R) := H8
 clear H H1 H2 H3 H4 H5 H6 H7
 with_reducible (refine qJ ?_; refine qG (by assumption) e_3 rfl ?_)
 refine qY (qQu (by omega) H8) ?_
 rintro _ h9 ⟨s, rfl, ht, H⟩
 refine qZN ht ?_
 clear H8
 by_cases c1 : 1 ≤ op ∧ op ≤ 23
 rotate_left
 ·rw [decide_eq_false c1]
  with_reducible (refine qX ?_; (try dsimp only); refine qO ?_; (try dsimp only); refine qv ?_; refine qX ?_; (try dsimp only); refine qO ?_; (try dsimp only); refine qv ?_; refine qX ?_; (try dsimp only); refine qO ?_; (try dsimp only); refine qv ?_; refine qX ?_; (try dsimp only); refine qO ?_; (try dsimp only); refine qX ?_; (try dsimp only); refine jW ?_; (try dsimp only); refine qX ?_; (try dsimp only); refine qO ?_; (try dsimp only); refine qv ?_)
  exact qW ⟨rfl, H.drop.drop.drop.drop⟩
 rw [decide_eq_true c1]
 with_reducible (refine qX ?_; (try dsimp only); refine qR ?_; (try dsimp only))
 refine qh H (b := b1) (off := 0) e_2 rfl (by omega) rfl ?_
 with_reducible (refine qJ ?_; refine qG (by assumption) e_3 rfl ?_)
 refine qY (Xb (by omega) H) ?_
 rintro _ h10 ⟨rfl, H10⟩
 cases hf1 : xU f1 a
 ·with_reducible (refine qC ?_; refine qX ?_; (try dsimp only); refine qO ?_; (try dsimp only); refine qv ?_; refine qX ?_; (try dsimp only); refine qO ?_; (try dsimp only); refine qv ?_; refine qX ?_; (try dsimp only); refine qO ?_; (try dsimp only); refine qX ?_; (try dsimp only); refine jW ?_; (try dsimp only); refine qX ?_; (try dsimp only); refine qO ?_; (try dsimp only); refine qv ?_)
  exact qW ⟨rfl, H10.drop.drop.drop.drop⟩
 with_reducible (refine qC ?_; refine qX ?_; (try dsimp only); refine qR ?_; (try dsimp only))
 refine qh H10 (b := b2) (off := 0) e_1 rfl (by omega) rfl ?_
 with_reducible (refine qJ ?_; refine qG (by assumption) e_3 rfl ?_)
 refine qY (Xb (by omega) H10) ?_
 rintro _ h11 ⟨rfl, H11⟩
 cases hf2 : xU f2 b
 ·with_reducible (refine qC ?_; refine qX ?_; (try dsimp only); refine qO ?_; (try dsimp only); refine qv ?_; refine qX ?_; (try dsimp only); refine qO ?_; (try dsimp only); refine qX ?_; (try dsimp only); refine jW ?_; (try dsimp only); refine qX ?_; (try dsimp only); refine qO ?_; (try dsimp only); refine qv ?_)
  exact qW ⟨rfl, H11.drop.drop.drop.drop⟩
 with_reducible (refine qC ?_; refine qX ?_; (try dsimp only); refine qR ?_; (try dsimp only))
 refine qh H11 (b := b3) (off := 0) .here rfl (by omega) rfl ?_
 with_reducible (refine qJ ?_; refine qG (by assumption) e_3 rfl ?_)
 refine qY (Xb (by omega) H11) ?_
 rintro _ h12 ⟨rfl, H12⟩
 cases hf3 : xU f3 c
 ·with_reducible (refine qC ?_; refine qX ?_; (try dsimp only); refine qO ?_; (try dsimp only); refine qX ?_; (try dsimp only); refine jW ?_; (try dsimp only); refine qX ?_; (try dsimp only); refine qO ?_; (try dsimp only); refine qv ?_)
  exact qW ⟨rfl, H12.drop.drop.drop.drop⟩
 by_cases c2 : q = 0
 ·with_reducible (refine qC ?_; refine qX ?_; (try dsimp only); refine qR ?_; (try dsimp only); refine qJ ?_; refine qG (by assumption) e_3 rfl ?_; refine qy (by omega) ?_; refine qX ?_; (try dsimp only); refine qS ?_; (try dsimp only); refine qX ?_; (try dsimp only); refine qR ?_; (try dsimp only); refine qC ?_; refine qC ?_)
  exact qW ⟨by rw [decide_eq_true (.inl c2)]; rfl, H12.drop.drop.drop.drop⟩
 by_cases c3 : op = 1
 ·with_reducible (refine qC ?_; refine qX ?_; (try dsimp only); refine qR ?_; (try dsimp only); refine qJ ?_; refine qG (by assumption) e_3 rfl ?_; refine qK (by omega) ?_; refine qX ?_; (try dsimp only); refine qB ?_; (try dsimp only); refine qJ ?_; refine qG (by assumption) e_3 rfl ?_; refine qy (by omega) ?_; refine qX ?_; (try dsimp only); refine qR ?_; (try dsimp only); refine qv ?_; refine qC ?_)
  exact qW ⟨by rw [decide_eq_true (.inr c3)]; rfl, H12.drop.drop.drop.drop⟩
 ·with_reducible (refine qC ?_; refine qX ?_; (try dsimp only); refine qR ?_; (try dsimp only); refine qJ ?_; refine qG (by assumption) e_3 rfl ?_; refine qK (by omega) ?_; refine qX ?_; (try dsimp only); refine qB ?_; (try dsimp only); refine qJ ?_; refine qG (by assumption) e_3 rfl ?_; refine qK (by omega) ?_; refine qX ?_; (try dsimp only); refine qR ?_; (try dsimp only); refine qv ?_; refine qC ?_)
  exact qW ⟨by rw [decide_eq_false (fun h => h.elim c2 c3)]; rfl, H12.drop.drop.drop.drop⟩
end Go.Proofs.YtdlfmpmpmkffjaaGreatDoor
namespace Go.Proofs.YtdlfmpmpmkffjaaGreatDoor
open Go Go.Ae
set_option maxRecDepth 100000
variable {g h : AH} {L R : List SP}
theorem qJi {l : List qM} {i : Nat} (hi : i < l.length) : qL l (i : Int) = l[i] := by
 unfold qL
 rw [show ((i : Int)).toNat = i by omega, List.getElem?_eq_getElem hi]; rfl
theorem qJN {n : Nat} (hn : 2 ≤ n) {l : List qM} {st : List Int} {sv tv : AV} (H : HS g h R) (S : Rd g R 5 l.length sv (l.flatMap qe)) (T : Rd g R 1 st.length tv (st.map (.int .i64))) (hs : StOk l.length st) (hl : st.length < 1000) :
  wp (callT tab qA n (.fn 104 [] []) [tv, .agg [sv]] h) fun v h' => v = .int .i64 (opM l st) ∧ HS g h' R := by
 (refine qP (g := (tD2 S104)) rfl (by omega) fun k hk => ?_; show wp (S104 (callT tab qA k) _ _ _).1 _; unfold S104; try simp only [ Int.ofNat_eq_natCast])
 refine qU H (xK (yn (S.sl H))) fun b h1 H1 => ?_
 refine jb (T.sl H1.drop) ?_
 unfold opM
 by_cases h0 : st = []
 ·subst h0
  rw [if_pos rfl]
  skip
  exact qW ⟨rfl, H1.drop⟩
 ·have hl0 : st.length ≠ 0 := fun h => h0 (List.eq_nil_of_length_eq_zero h)
  rw [if_neg h0]
  with_reducible (refine qK (by omega) ?_; refine qQ ?_; refine qX ?_; (try dsimp only); refine qJ ?_; refine qG (by assumption) .here rfl ?_)
  refine qY (QG (by omega) (T.sl H1.drop) hl) ?_
  rintro _ h1 ⟨rfl, rfl⟩
  have hi := hs.inmost h0
  generalize qp st = p at *
  obtain ⟨p, rfl⟩ : ∃ q : Nat, p = (q : Int) := ⟨p.toNat, by omega⟩
  have hp : p < l.length := by omega
  refine js (x := .int .i64 l[p].1) (S.sl H1.drop) (by omega) hp (by rw [zD (sz := 5) qe (fun _ => rfl) _ _ _ (by omega), List.getElem?_eq_getElem hp]; rfl) ?_
  with_reducible (refine jc (by assumption) .here rfl (by assumption) .here rfl (HS.lt (by assumption) .here) ?_)
  exact qW ⟨by rw [qJi hp], H1.drop⟩
theorem Mm {n : Nat} (hn : 4 ≤ n) {l : List qM} {st : List Int} {sv tv : AV} {x : qM} (H : HS g h R) (S : Rd g R 5 l.length sv (l.flatMap qe)) (T : Rd g R 1 st.length tv (st.map (.int .i64))) (hs : StOk l.length st) (hl : st.length < 1000) :
  wp (callT tab qA n (.fn 72 [] []) [.agg [sv], tv, .agg (qe x)] h) fun v h' => v = .int .i64 (zV l st x) ∧ HS g h' R := by
 (refine qP (g := (tD3 S72)) rfl (by omega) fun k hk => ?_; show wp (S72 (callT tab qA k) _ _ _ _).1 _; unfold S72; try simp only [ Int.ofNat_eq_natCast])
 refine qU H (xK (yn (S.sl H))) fun b0 h1 H1 => ?_
 refine qU H1 rfl fun b2 h2 H2 => ?_
 refine qh H2 (b := b2) (off := 0) .here rfl (by omega) rfl ?_
 refine qY (qXo (by omega) H2) ?_
 rintro _ h3 ⟨rfl, H3⟩
 clear H H1 H2
 obtain ⟨op, a, b, c, q⟩ := x
 have hW : zV l st (op, a, b, c, q) = if xr (op, a, b, c, q) = false then 8 else if 0 < jE op ∧ opM l st ≠ jE op then 12 else if op = 16 ∧ opM l st ≠ 14 then 12 else if zZ op = true ∧ 5 ≤ st.length then 9 else 0 := rfl
 rw [hW]
 have H3 : HS g h3 (qw b2 [.int .i64 op, .int .i64 a, .int .i64 b, .int .i64 c, .int .u64 q] :: qw b0 [sv] :: R) := H3
 cases xr (op, a, b, c, q)
 ·refine jq ?_; refine qV ?_
  exact qW ⟨rfl, H3.drop.drop⟩
 rw [if_neg (by simp)]
 (first | with_reducible refine qV ?_ | with_reducible refine qQ ?_ | (with_reducible refine qR ?_; try dsimp only) | (with_reducible refine qS ?_; try dsimp only) | (with_reducible refine qO ?_; try dsimp only) | (with_reducible refine qB ?_; try dsimp only) | (with_reducible refine jW ?_; try dsimp only) | with_reducible refine qC ?_ | with_reducible refine qv ?_ | (with_reducible refine qX ?_; try dsimp only) | with_reducible refine qj ?_ | with_reducible refine qo ?_ | with_reducible refine jq ?_ | with_reducible refine qD (by omega) ?_ | with_reducible refine qb (by omega) ?_ | with_reducible refine zk (by omega) ?_ | with_reducible refine zy (by omega) ?_ | with_reducible refine zx ?_ | with_reducible refine zg ?_)
 (first | with_reducible refine qV ?_ | with_reducible refine qQ ?_ | (with_reducible refine qR ?_; try dsimp only) | (with_reducible refine qS ?_; try dsimp only) | (with_reducible refine qO ?_; try dsimp only) | (with_reducible refine qB ?_; try dsimp only) | (with_reducible refine jW ?_; try dsimp only) | with_reducible refine qC ?_ | with_reducible refine qv ?_ | (with_reducible refine qX ?_; try dsimp only) | with_reducible refine qj ?_ | with_reducible refine qo ?_ | with_reducible refine jq ?_ | with_reducible refine qD (by omega) ?_ | with_reducible refine qb (by omega) ?_ | with_reducible refine zk (by omega) ?_ | with_reducible refine zy (by omega) ?_ | with_reducible refine zx ?_ | with_reducible refine zg ?_)
 refine Qp (fun s h' => s = (.bool (decide (0 < jE op ∧ opM l st ≠ jE op)), .ptr b2 0, .ptr b0 0, tv, ()) ∧ HS g h' (qw b2 [.int .i64 op, .int .i64 a, .int .i64 b, .int .i64 c, .int .u64 q] :: qw b0 [sv] :: R)) ?_ ?_
 ·intro j hj
  with_reducible (refine qJ ?_; refine qG (by assumption) .here rfl ?_)
  refine qY (Qf (by omega)) ?_
  rintro _ h3 ⟨rfl, rfl⟩
  by_cases h1 : 0 < jE op
  ·with_reducible (refine jl (by omega) ?_; refine qR ?_; (try dsimp only))
   refine qh H3 (b := b0) (off := 0) e_1 rfl (by omega) rfl ?_
   refine qY (qJN (by omega) H3 S.more.more T.more.more hs hl) ?_
   rintro _ h4 ⟨rfl, H4⟩
   with_reducible (refine qJ ?_; refine qG (by assumption) .here rfl ?_)
   refine qY (Qf (by omega)) ?_
   rintro _ h4 ⟨rfl, rfl⟩
   refine XR ?_
   with_reducible (refine qC ?_; refine jc (by assumption) .here rfl (by assumption) .here rfl (HS.lt (by assumption) .here) ?_)
   refine hj _ _ ⟨?_, H4⟩
   congr 2
   exact decide_eq_decide.2 ⟨fun h => ⟨h1, h⟩, fun h => h.2⟩
  ·with_reducible (refine ja (by omega) ?_; refine qO ?_; (try dsimp only); refine qv ?_)
   refine hj _ _ ⟨?_, H3⟩
   rw [decide_eq_false (fun h => h1 h.1)]
 clear H3
 rintro s h4 ⟨rfl, H⟩
 dsimp only
 by_cases hA : 0 < jE op ∧ opM l st ≠ jE op
 ·rw [decide_eq_true hA, if_pos hA]
  refine qV ?_
  exact qW ⟨rfl, H.drop.drop⟩
 rw [decide_eq_false hA, if_neg hA]
 with_reducible (refine qQ ?_; refine qJ ?_; refine qG (by assumption) .here rfl ?_)
 refine ge ?_
 refine Qp (fun s h' => ∃ (r : AV) (u x : Bool), s = (r, .bool u, .ptr b2 0, tv, ()) ∧ (u = true → r = .bool x) ∧ ((u && x) = decide (op = 16 ∧ opM l st ≠ 14)) ∧ HS g h' (qw b2 [.int .i64 op, .int .i64 a, .int .i64 b, .int .i64 c, .int .u64 q] :: qw b0 [sv] :: R)) ?_ ?_
 ·intro j hj
  by_cases h1 : op = 16
  ·rw [decide_eq_true (show op = ((16 : Nat) : Int) from h1)]
   with_reducible (refine qR ?_; (try dsimp only))
   refine qh H (b := b0) (off := 0) e_1 rfl (by omega) rfl ?_
   refine qY (qJN (by omega) H S.more.more T.more.more hs hl) ?_
   rintro _ h4 ⟨rfl, H4⟩
   refine XR (hj _ _ ⟨_, true, decide (¬ opM l st = 14), rfl, fun _ => rfl, ?_, H4⟩)
   rw [Bool.true_and]
   exact decide_eq_decide.2 ⟨fun h => ⟨h1, h⟩, fun h => h.2⟩
  ·rw [decide_eq_false (show ¬ op = ((16 : Nat) : Int) from h1)]
   with_reducible (refine qO ?_; (try dsimp only))
   refine hj _ _ ⟨_, false, false, rfl, (fun h => by cases h), ?_, H⟩
   rw [decide_eq_false (fun h => h1 h.1)]; rfl
 clear H
 rintro s h4 ⟨r, u, y, rfl, hr, hu, H⟩
 dsimp only
 refine Ui hr ?_
 rw [hu]
 by_cases hB : op = 16 ∧ opM l st ≠ 14
 ·rw [decide_eq_true hB, if_pos hB]
  refine qV ?_
  exact qW ⟨rfl, H.drop.drop⟩
 rw [decide_eq_false hB, if_neg hB]
 with_reducible (refine qQ ?_; refine qJ ?_; refine qG (by assumption) .here rfl ?_)
 refine qY (X8 (by omega)) ?_
 rintro _ h4 ⟨rfl, rfl⟩
 cases hb : zZ op
 ·rw [if_neg (by simp)]
  with_reducible (refine qX ?_; (try dsimp only); refine qO ?_; (try dsimp only); refine qv ?_; refine qQ ?_)
  exact qW ⟨rfl, H.drop.drop⟩
 ·with_reducible (refine qX ?_; (try dsimp only); refine qR ?_; (try dsimp only))
  refine jb (T.sl H.drop.drop) ?_
  by_cases h5 : 5 ≤ st.length
  ·rw [if_pos ⟨rfl, h5⟩]
   with_reducible (refine jV (by omega) ?_; refine qC ?_; refine qV ?_)
   exact qW ⟨rfl, H.drop.drop⟩
  ·rw [if_neg (fun h => h5 h.2)]
   with_reducible (refine jQ (by omega) ?_; refine qC ?_; refine qQ ?_)
   exact qW ⟨rfl, H.drop.drop⟩
def StC (v : AV) (st : List Int) : SP := qz 3 1 st.length v (st.map (.int .i64))
theorem Xv {n : Nat} (hn : 2 ≤ n) {st : List Int} {tv : AV} {i op : Int} (H : HS g h (StC tv st :: R)) (hs : 0 < jE op → st ≠ []) (hl : st.length < 1000) :
  wp (callT tab qA n (.fn 73 [] []) [tv, .int .i64 i, .int .i64 op] h) fun v h' => HS g h' (StC v (qt st i op) :: R) := by
 (refine qP (g := (tD3 S73)) rfl (by omega) fun k hk => ?_; show wp (S73 (callT tab qA k) _ _ _ _).1 _; unfold S73; try simp only [ Int.ofNat_eq_natCast])
 refine zB [] (fun s h' => ∃ v, s = (.int .i64 op, .int .i64 i, v, ()) ∧ HS g h' (StC v (if 0 < jE op then st.dropLast else st) :: R)) ?_ ?_
 ·intro j hj
  refine qY (Qf (by omega)) ?_
  rintro _ h ⟨rfl, rfl⟩
  by_cases h1 : 0 < jE op
  ·have hne := hs h1
   have hl0 : st.length ≠ 0 := fun h => hne (List.eq_nil_of_length_eq_zero h)
   rw [if_pos h1] at hj
   refine jl h1 (qV ?_)
   refine jb (H.sl (e := 3) .here) ?_
   refine qb (by omega) ?_
   rw [show (st.length : Int) - ((1 : Nat) : Int) = ((st.length - 1 : Nat) : Int) by omega]
   refine yx H (by omega) (by omega) fun v H1 => ?_
   refine hj _ _ ⟨v, rfl, ?_⟩
   unfold StC
   rw [List.length_dropLast, List.dropLast_eq_take, List.map_take]
   rw [Nat.mul_one] at H1
   exact H1
  ·rw [if_neg h1] at hj
   refine ja h1 (qQ ?_)
   exact hj _ _ ⟨tv, rfl, H⟩
 clear H
 rintro s h1 ⟨v, rfl, H⟩
 unfold qt
 have hl2 : (if 0 < jE op then st.dropLast else st).length < 1000 := by
  split
  ·rw [List.length_dropLast]; omega
  ·exact hl
 generalize (if 0 < jE op then st.dropLast else st) = st at *
 dsimp only
 with_reducible (refine qX ?_; (try dsimp only))
 refine qY (X8 (by omega)) ?_
 rintro _ h1 ⟨rfl, rfl⟩
 have push : ∀ {K : AV → AH → Go.Ae.R} {Q : AV → AH → Prop}, (∀ v' h', HS g h' (StC v' (st ++ [i]) :: R) → wp (K v' h') Q) →
   wp (j0 h1 3 [.int .i64 ((0 : Nat) : Int)] 1 [(0, 1, .int .i64 i)] fun v15 h16 => zQ h16 3 1 v v15 K) Q := by
  intro K Q w
  refine qf (n := 1) (l := [.int .i64 i]) (sz := 1) H rfl rfl rfl rfl fun v5 h5 H5 => ?_
  refine je (H5.sel e_1) (H5.sl .here) (by omega) (by omega) rfl fun v6 h6 H6 => w v6 h6 ?_
  unfold StC
  rw [List.map_append, List.length_append]
  exact H6.sub (.cons .here (.drop .refl))
 cases hb : zZ op
 ·by_cases h18 : op = 18
  ·rw [if_pos (.inr h18)]
   with_reducible (refine qX ?_; (try dsimp only); refine qB ?_; (try dsimp only); refine qy (by omega) ?_; refine qv ?_; refine qV ?_)
   exact push fun v' h' H' => qj (qW H')
  ·rw [if_neg (by simp; exact h18)]
   with_reducible (refine qX ?_; (try dsimp only); refine qB ?_; (try dsimp only); refine qK (by omega) ?_; refine qv ?_; refine qQ ?_; refine qj ?_)
   exact qW H
 ·rw [if_pos (.inl rfl)]
  with_reducible (refine qX ?_; (try dsimp only); refine qS ?_; (try dsimp only); refine qC ?_; refine qV ?_)
  exact push fun v' h' H' => qj (qW H')
theorem Qe {l : List qM} {i : Nat} {st : List Int} (hi : i < l.length) : goM l (l.drop i) i st = if zV l st l[i] = 0 then goM l (l.drop (i + 1)) (i + 1) (qt st i l[i].1) else .inl ((i : Int), zV l st l[i]) := by
 rw [List.drop_eq_getElem_cons hi]; rfl
theorem Yb {l : List qM} {i : Nat} {st : List Int} (hi : i < l.length) : zL (l.drop i) i st = qp st :: zL (l.drop (i + 1)) (i + 1) (qt st i l[i].1) := by
 rw [List.drop_eq_getElem_cons hi]; rfl
theorem QM {l : List qM} {a : List Int} {i : Nat} (hi : i < l.length) : kq l a (l.drop i) i = if wE l a i l[i] then ((i : Int), 2) else kq l a (l.drop (i + 1)) (i + 1) := by
 rw [List.drop_eq_getElem_cons hi]; rfl
theorem vr {l : List qM} {i : Nat} (hi : i < l.length) : ((l.flatMap qe).drop (i * 5)).take 5 = qe l[i] := J8 (sz := 5) (fun _ => rfl) (List.getElem?_eq_getElem hi)
theorem Jn {n : Nat} (hn : 3 ≤ n) {l : List qM} {st' : List Int} {sv : AV} (H : HS g h R) (S : Rd g R 5 l.length sv (l.flatMap qe)) (hg : goM l l 0 [] = .inr st') (hl : l.length ≤ 100) :
  wp (callT tab qA n (.fn 76 [] []) [.agg [sv]] h) fun v h' => HS g h' (qz 3 1 l.length v ((zL l 0 []).map (.int .i64)) :: R) := by
 (refine qP (g := (tD1 S76)) rfl (by omega) fun k hk => ?_; show wp (S76 (callT tab qA k) _ _).1 _; unfold S76; try simp only [ Int.ofNat_eq_natCast])
 refine qU H (xK (yn (S.sl H))) fun b0 h1 H1 => ?_
 with_reducible (refine qJ ?_; refine qG (by assumption) .here rfl ?_)
 refine jb (S.sl H1.drop) ?_
 refine wi (n := l.length) H1 (by omega) fun ov h2 H2 => ?_
 with_reducible (refine qJ ?_; refine qG (by assumption) e_1 rfl ?_)
 refine jb (S.sl H2.drop.drop) ?_
 refine jz (fun m s h' => ∃ (i : Nat) (st A : List Int) (tv : AV), s = (.int .i64 (i : Int), .int .i64 (l.length : Int), sv, tv, ov, ()) ∧ i ≤ l.length ∧ m = l.length - i ∧ StOk i st ∧ st.length ≤ i ∧ goM l (l.drop i) i st = .inr st' ∧ A.length = i ∧ zL l 0 [] = A ++ zL (l.drop i) i st ∧
  HS g h' (qz 3 1 l.length ov ((A ++ List.replicate (l.length - i) 0).map (.int .i64)) :: StC tv st :: R))
  ?_ (m := l.length) (by show _ < 1000000000; omega) ⟨0, [], [], .nils, rfl, by omega, by omega, StOk.nil, by simp, hg, rfl, rfl, by
   rw [List.nil_append, List.map_replicate]
   exact (H2.nils (e := 3) (sz := 1)).sub (.cons e_1 (.cons .here (.drop .refl)))⟩
 clear H H1 H2
 rintro m ih s h3 hih ⟨i, st, A, tv, rfl, hi, rfl, hs, hsl, hgo, hA, hR, H⟩
 dsimp only
 by_cases hlt : i < l.length
 ·rw [Qe hlt] at hgo
  rw [Yb hlt] at hR
  have hrow := vr hlt
  generalize l[i] = x at *
  by_cases hw : zV l st x = 0
  rotate_left
  ·rw [if_neg hw] at hgo; cases hgo
  rw [if_pos hw] at hgo
  have ho := zG hw
  with_reducible (refine jC (by omega) ?_; refine qV ?_)
  refine zJ (S.sl H.drop.drop) hlt (by omega) hrow ?_
  refine qU H rfl fun b h4 H4 => ?_
  refine jG H4 (b := b) .here rfl (by simp [qe]) rfl fun h5 H5 => ?_
  have H5 : HS g h5 (qw b (qe x) :: qz 3 1 l.length ov ((A ++ List.replicate (l.length - i) 0).map (.int .i64)) :: StC tv st :: R) := H5
  unfold qe at H5
  refine qY (QG (by omega) (H5.sl (e := 3) e_2) (by omega)) ?_
  rintro _ h5 ⟨rfl, rfl⟩
  refine xR (H5.sel e_1) (by omega) ⟨rfl, rfl⟩ fun h6 H6 => ?_
  have hset : ((A ++ List.replicate (l.length - i) 0).map (AV.int .i64)).set i (.int .i64 (qp st)) = ((A ++ [qp st]) ++ List.replicate (l.length - (i + 1)) 0).map (.int .i64) := by
   rw [← List.map_set]
   congr 1
   rw [List.set_append_right _ _ (by omega), hA, Nat.sub_self, show l.length - i = (l.length - (i + 1)) + 1 by omega, List.replicate_succ]
   simp
  rw [hset] at H6
  with_reducible (refine qJ ?_; refine qG (by assumption) e_1 rfl ?_)
  refine qY (Xv (by omega) (H6.sub (L' := StC tv st :: qw b [.int .i64 x.1, .int .i64 x.2.1, .int .i64 x.2.2.1, .int .i64 x.2.2.2.1, .int .u64 x.2.2.2.2] :: qz 3 1 l.length ov (((A ++ [qp st]) ++ List.replicate (l.length - (i + 1)) 0).map (.int .i64)) :: R) (.cons e_2 (.cons e_1 (.cons .here .refl)))) (fun h => ho.2.1 (.inl h)) (by omega)) ?_
  intro tv2 h8 H8
  with_reducible (refine qD (by omega) ?_)
  have hbl := YZ st i x.1
  exact hih (l.length - (i + 1)) _ _ (by omega) ⟨i + 1, qt st i x.1, A ++ [qp st], tv2, rfl, by omega, rfl, hs.behind, by omega, hgo, by simp [hA], by rw [hR]; simp, H8.sub (.cons e_2 (.cons .here (.drop .refl)))⟩
 ·obtain rfl : i = l.length := by omega
  with_reducible (refine jv (by omega) ?_; refine qQ ?_; refine qj ?_)
  refine qW ?_
  rw [hR]
  rw [Nat.sub_self, List.replicate_zero, List.append_nil] at H
  rw [List.drop_length]
  show HS g h3 (qz _ 1 l.length ov ((A ++ []).map _) :: R)
  rw [List.append_nil]
  exact H.sub (.cons .here (.drop .refl))
theorem UL {x : qM} (h : xr x = true) (hj : x.1 = 12 ∨ x.1 = 13) : 0 ≤ x.2.2.2.1 ∧ x.2.2.2.1 ≤ 40 := by
 have e : (q8 x.1).2.2 = (0, 40) := by
  rcases hj with e | e <;> rw [e] <;> rfl
 unfold xr at h
 rw [e] at h
 simp only [Bool.and_eq_true, xU, decide_eq_true_eq] at h
 exact h.1.2
theorem NJ {n : Nat} (hn : 2 ≤ n) {l : List qM} {a : List Int} {sv av : AV} (H : HS g h R) (S : Rd g R 5 l.length sv (l.flatMap qe)) (T : Rd g R 1 a.length av (a.map (.int .i64))) (ha : a.length = l.length) (hm : ∀ x ∈ l, xr x = true) (hl : l.length ≤ 100) :
  wp (callT tab qA n (.fn 75 [] []) [.agg [sv], av] h) fun v h' => v = .tup [.int .i64 (kq l a l 0).1, .int .i64 (kq l a l 0).2] ∧ HS g h' R := by
 (refine qP (g := (tD2 S75)) rfl (by omega) fun k hk => ?_; show wp (S75 (callT tab qA k) _ _ _).1 _; unfold S75; try simp only [ Int.ofNat_eq_natCast])
 refine qU H (xK (yn (S.sl H))) fun b0 h1 H1 => ?_
 have hLV := (S.sl H).lenV
 clear H
 with_reducible (refine qJ ?_; refine qG (by assumption) .here rfl ?_; refine j6 (by assumption) ?_)
 refine jz (fun m s h' => ∃ i : Nat, s = (.int .i64 (i : Int), .int .i64 (l.length : Int), sv, .ptr b0 0, av, ()) ∧ i ≤ l.length ∧ m = l.length - i ∧ kq l a l 0 = kq l a (l.drop i) i ∧ HS g h' (qw b0 [sv] :: R))
  ?_ (m := l.length) (by show _ < 1000000000; omega) ⟨0, rfl, by omega, by omega, rfl, H1⟩
 clear H1
 rintro m ih s h2 hih ⟨i, rfl, hi, rfl, hJ, H⟩
 dsimp only
 by_cases hlt : i < l.length
 rotate_left
 ·obtain rfl : i = l.length := by omega
  rw [List.drop_length] at hJ
  rw [hJ]
  with_reducible (refine jv (by omega) ?_; refine qQ ?_; refine qj ?_)
  exact qW ⟨rfl, H.drop⟩
 rw [QM hlt] at hJ
 have hrow := vr hlt
 have hmx := hm l[i] (List.getElem_mem hlt)
 generalize l[i] = x at *
 obtain ⟨op, xa, xb, c, q⟩ := x
 unfold qe at hrow
 refine jC (by omega) (qV ?_)
 refine zB [] (fun s h' => s = (.int .i64 (i : Int), .int .i64 (l.length : Int), sv, .ptr b0 0, av, ()) ∧ ¬ wE l a i (op, xa, xb, c, q) ∧ HS g h' (qw b0 [sv] :: R)) ?_ ?_
 rotate_left
 ·rintro s h3 ⟨rfl, hno, H3⟩
  rw [if_neg hno] at hJ
  with_reducible (refine qD (by omega) ?_)
  exact hih (l.length - (i + 1)) _ _ (by omega) ⟨i + 1, rfl, by omega, rfl, hJ, H3⟩
 intro j hj
 clear hih
 refine zJ (S.sl H.drop) hlt (by omega) hrow ?_
 refine qU H rfl fun b h4 H4 => ?_
 refine jG H4 (b := b) .here rfl (by simp) rfl fun h5 H5 => ?_
 have H5 : HS g h5 (qw b [.int .i64 op, .int .i64 xa, .int .i64 xb, .int .i64 c, .int .u64 q] :: qw b0 [sv] :: R) := H5
 clear H H4
 with_reducible (refine qJ ?_; refine qG (by assumption) .here rfl ?_)
 refine qY (qQr (by omega)) ?_
 rintro _ h5 ⟨rfl, rfl⟩
 by_cases hjm : op = 12 ∨ op = 13
 rotate_left
 ·rw [decide_eq_false hjm]
  refine jq ?_; refine qV ?_
  exact hj _ _ ⟨rfl, fun h => hjm h.1, H5.drop⟩
 rw [decide_eq_true hjm]
 have hc := UL hmx hjm
 dsimp only at hc
 obtain ⟨p, rfl⟩ : ∃ p : Nat, c = (p : Int) := ⟨c.toNat, by omega⟩
 have hcell : ∀ k : Nat, k < l.length → (a.map (AV.int .i64))[k]? = some (.int .i64 (qE a (k : Int))) := by
  intro k hk
  unfold qE
  rw [List.getElem?_map, show ((k : Int)).toNat = k by omega, List.getElem?_eq_getElem (by omega)]; rfl
 have Ta : Sl (fun _ => True) h5 1 a.length av (a.map (.int .i64)) := T.sl H5.drop.drop
 by_cases c1 : l.length < p
 ·rw [if_pos ⟨hjm, .inl (by dsimp only; omega)⟩] at hJ
  rw [hJ]
  with_reducible (refine qo ?_; refine qQ ?_; refine qJ ?_; refine qG (by assumption) .here rfl ?_; refine qJ ?_; refine qG (by assumption) e_1 rfl ?_; refine j6 (by assumption) ?_; refine jl (by omega) ?_; refine qX ?_; (try dsimp only); refine qS ?_; (try dsimp only); refine qX ?_; (try dsimp only); refine jW ?_; (try dsimp only); refine qX ?_; (try dsimp only); refine qS ?_; (try dsimp only); refine qC ?_; refine qX ?_; (try dsimp only); refine qS ?_; (try dsimp only); refine qX ?_; (try dsimp only); refine jW ?_; (try dsimp only); refine qX ?_; (try dsimp only); refine qS ?_; (try dsimp only); refine qC ?_; refine qV ?_; refine qj ?_)
  exact qW ⟨rfl, H5.drop.drop⟩
 by_cases c2 : p = l.length
 ·subst c2
  with_reducible (refine qo ?_; refine qQ ?_; refine qJ ?_; refine qG (by assumption) .here rfl ?_; refine qJ ?_; refine qG (by assumption) e_1 rfl ?_; refine j6 (by assumption) ?_; refine ja (by omega) ?_; refine qX ?_; (try dsimp only); refine qB ?_; (try dsimp only); refine qJ ?_; refine qG (by assumption) .here rfl ?_; refine qJ ?_; refine qG (by assumption) e_1 rfl ?_; refine j6 (by assumption) ?_; refine qy (by omega) ?_; refine qX ?_; (try dsimp only); refine qR ?_; (try dsimp only))
  refine jF Ta (hcell i hlt) ?_
  by_cases c3 : qE a i = -1
  ·refine jj (by rw [c3]; decide) ?_
   with_reducible (refine qX ?_; (try dsimp only); refine qB ?_; (try dsimp only); refine qC ?_; refine qv ?_; refine qX ?_; (try dsimp only); refine qB ?_; (try dsimp only); refine qJ ?_; refine qG (by assumption) .here rfl ?_; refine qJ ?_; refine qG (by assumption) e_1 rfl ?_; refine j6 (by assumption) ?_; refine jv (by omega) ?_; refine qX ?_; (try dsimp only); refine qO ?_; (try dsimp only); refine qX ?_; (try dsimp only); refine qB ?_; (try dsimp only); refine qv ?_; refine qv ?_; refine qQ ?_)
   exact hj _ _ ⟨rfl, fun h => by
    rcases h.2 with h | h | h
    ·dsimp only at h; omega
    ·exact h.2 c3
    ·dsimp only at h; omega, H5.drop⟩
  ·refine jk (fun h => c3 (by rw [h]; decide)) ?_
   rw [if_pos ⟨hjm, .inr (.inl ⟨rfl, c3⟩)⟩] at hJ
   rw [hJ]
   with_reducible (refine qX ?_; (try dsimp only); refine qB ?_; (try dsimp only); refine qC ?_; refine qv ?_; refine qX ?_; (try dsimp only); refine qS ?_; (try dsimp only); refine qX ?_; (try dsimp only); refine jW ?_; (try dsimp only); refine qX ?_; (try dsimp only); refine qS ?_; (try dsimp only); refine qC ?_; refine qV ?_; refine qj ?_)
   exact qW ⟨rfl, H5.drop.drop⟩
 ·with_reducible (refine qo ?_; refine qQ ?_; refine qJ ?_; refine qG (by assumption) .here rfl ?_; refine qJ ?_; refine qG (by assumption) e_1 rfl ?_; refine j6 (by assumption) ?_; refine ja (by omega) ?_; refine qX ?_; (try dsimp only); refine qB ?_; (try dsimp only); refine qJ ?_; refine qG (by assumption) .here rfl ?_; refine qJ ?_; refine qG (by assumption) e_1 rfl ?_; refine j6 (by assumption) ?_; refine qK (by omega) ?_; refine qX ?_; (try dsimp only); refine qO ?_; (try dsimp only); refine qX ?_; (try dsimp only); refine qB ?_; (try dsimp only); refine qv ?_; refine qv ?_; refine qX ?_; (try dsimp only); refine qB ?_; (try dsimp only); refine qJ ?_; refine qG (by assumption) .here rfl ?_; refine qJ ?_; refine qG (by assumption) e_1 rfl ?_; refine j6 (by assumption) ?_; refine jC (by omega) ?_; refine qX ?_; (try dsimp only); refine qR ?_; (try dsimp only); refine qJ ?_; refine qG (by assumption) .here rfl ?_)
  refine jF Ta (hcell p (by omega)) ?_
  refine jF Ta (hcell i hlt) ?_
  by_cases c3 : qE a p = qE a i
  ·refine jj c3 ?_
   with_reducible (refine qX ?_; (try dsimp only); refine qB ?_; (try dsimp only); refine qC ?_; refine qv ?_; refine qQ ?_)
   exact hj _ _ ⟨rfl, fun h => by
    rcases h.2 with h | h | h
    ·dsimp only at h; omega
    ·have := h.1; dsimp only at this; omega
    ·exact h.2 c3, H5.drop⟩
  ·refine jk c3 ?_
   rw [if_pos ⟨hjm, .inr (.inr ⟨by dsimp only; omega, c3⟩)⟩] at hJ
   rw [hJ]
   with_reducible (refine qX ?_; (try dsimp only); refine qB ?_; (try dsimp only); refine qC ?_; refine qv ?_; refine qV ?_; refine qj ?_)
   exact qW ⟨rfl, H5.drop.drop⟩
theorem qKC {l : List qM} : ∀ {r : List qM} {i : Nat} {st st' : List Int}, goM l r i st = .inr st' → ∀ x ∈ r, xr x = true := by
 intro r
 induction r with
 | nil => intro i st st' _ x hx; cases hx
 | cons y r ih =>
  intro i st st' h x hx
  rw [QU] at h
  split at h
  ·rename_i hw
   rcases List.mem_cons.1 hx with rfl | hx
   ·exact (zG hw).1
   ·exact ih h x hx
  ·cases h
theorem qZ4 {l : List qM} : ∀ {r : List qM} {i : Nat} {st : List Int} {q : Int × Int}, goM l r i st = .inl q → q.2 ≠ 0 := by
 intro r
 induction r with
 | nil => intro i st q h; cases h
 | cons y r ih =>
  intro i st q h
  rw [QU] at h
  split at h
  ·exact ih h
  ·rename_i hw
   cases h
   exact hw
theorem Xj {l : List qM} (h : (xS l).2 = 0) : goM l l 0 [] = .inr [] := by
 unfold xS at h
 split at h
 ·cases h
 ·cases hg : goM l l 0 [] with
  | inl q =>
   rw [hg] at h
   exact absurd h (qZ4 hg)
  | inr st =>
   rw [hg] at h
   dsimp only at h
   split at h
   ·rename_i h0; rw [h0]
   ·cases h
theorem GH {n : Nat} (hn : 6 ≤ n) {l : List qM} {sv : AV} (H : HS g h R) (S : Rd g R 5 l.length sv (l.flatMap qe)) (hl : l.length ≤ 100) :
  wp (callT tab qA n (.fn 37 [] []) [.agg [sv]] h) fun v h' => v = .tup [.int .i64 (xS l).1, .int .i64 (xS l).2] ∧ HS g h' R := by
 (refine qP (g := (tD1 S37)) rfl (by omega) fun k hk => ?_; show wp (S37 (callT tab qA k) _ _).1 _; unfold S37; try simp only [ Int.ofNat_eq_natCast])
 refine qU H (xK (yn (S.sl H))) fun b0 h1 H1 => ?_
 have hLV := (S.sl H).lenV
 clear H
 have hC : xS l = if l.length = 0 ∨ 40 < l.length then (0, 4) else match goM l l 0 [] with
  | .inl r => r
  | .inr st => if st = [] then kq l (zL l 0 []) l 0 else (qp st, 12) := rfl
 generalize xS l = C at *
 with_reducible (refine qJ ?_; refine qG (by assumption) .here rfl ?_; refine j6 (by assumption) ?_)
 by_cases c0 : l.length = 0
 ·rw [if_pos (.inl c0)] at hC
  subst hC
  with_reducible (refine qy (by omega) ?_; refine qX ?_; (try dsimp only); refine qS ?_; (try dsimp only); refine qC ?_; refine qV ?_)
  exact qW ⟨rfl, H1.drop⟩
 by_cases c1 : 40 < l.length
 ·rw [if_pos (.inr c1)] at hC
  subst hC
  with_reducible (refine qK (by omega) ?_; refine qX ?_; (try dsimp only); refine qB ?_; (try dsimp only); refine qJ ?_; refine qG (by assumption) .here rfl ?_; refine j6 (by assumption) ?_; refine jl (by omega) ?_; refine qv ?_; refine qV ?_)
  exact qW ⟨rfl, H1.drop⟩
 rw [if_neg (by omega)] at hC
 with_reducible (refine qK (by omega) ?_; refine qX ?_; (try dsimp only); refine qB ?_; (try dsimp only); refine qJ ?_; refine qG (by assumption) .here rfl ?_; refine j6 (by assumption) ?_; refine ja (by omega) ?_; refine qv ?_; refine qQ ?_; refine qJ ?_; refine qG (by assumption) .here rfl ?_; refine j6 (by assumption) ?_)
 generalize hG : goM l l 0 [] = G at hC
 refine jz (fun m s h' => ∃ (i : Nat) (st : List Int) (tv : AV), s = (.int .i64 (i : Int), .int .i64 (l.length : Int), sv, tv, .ptr b0 0, ()) ∧ i ≤ l.length ∧ m = l.length - i ∧ StOk i st ∧ st.length ≤ i ∧ goM l (l.drop i) i st = G ∧ HS g h' (StC tv st :: qw b0 [sv] :: R))
  ?_ (m := l.length) (by show _ < 1000000000; omega) ⟨0, [], .nils, rfl, by omega, by omega, StOk.nil, by simp, hG, H1.nils (e := 3) (sz := 1)⟩
 clear H1
 rintro m ih s h2 hih ⟨i, st, tv, rfl, hi, rfl, hs, hsl, hgo, H⟩
 dsimp only
 by_cases hlt : i < l.length
 ·rw [Qe hlt] at hgo
  have hrow := vr hlt
  generalize l[i] = x at *
  with_reducible (refine jC (by omega) ?_; refine qV ?_)
  refine zJ (S.sl H.drop.drop) hlt (by omega) hrow ?_
  refine qU H rfl fun b h4 H4 => ?_
  refine jG H4 (b := b) .here rfl (by simp [qe]) rfl fun h5 H5 => ?_
  have H5 : HS g h5 (qw b (qe x) :: StC tv st :: qw b0 [sv] :: R) := H5
  clear H H4
  refine qh H5 (b := b0) (off := 0) e_2 rfl (by omega) rfl ?_
  refine qh H5 (b := b) (off := 0) .here rfl (by omega) rfl ?_
  refine qY (Mm (by omega) H5 S.more.more.more (Rd.own (e := 3) e_1) (fun y hy => by have := hs y hy; omega) (by omega)) ?_
  rintro _ h6 ⟨rfl, H6⟩
  by_cases hw : zV l st x = 0
  ·rw [if_pos hw] at hgo
   have ho := zG hw
   refine jj hw ?_
   unfold qe at H6
   with_reducible (refine qQ ?_; refine qJ ?_; refine qG (by assumption) .here rfl ?_)
   refine qY (Xv (by omega) (H6.sel e_1) (fun h => ho.2.1 (.inl h)) (by omega)) ?_
   intro tv2 h8 H8
   have hbl := YZ st i x.1
   with_reducible (refine qD (by omega) ?_)
   exact hih (l.length - (i + 1)) _ _ (by omega) ⟨i + 1, qt st i x.1, tv2, rfl, by omega, rfl, hs.behind, by omega, hgo, H8.sub (.cons .here (.drop .refl))⟩
  ·rw [if_neg hw] at hgo
   subst hgo
   rw [hC]
   refine jk hw ?_
   refine qV ?_; refine qj ?_
   exact qW ⟨rfl, H6.drop.drop.drop⟩
 ·obtain rfl : i = l.length := by omega
  rw [List.drop_length] at hgo
  have hgo : (Sum.inr st : (Int × Int) ⊕ List Int) = G := hgo
  subst hgo
  dsimp only at hC
  refine jv (by omega) (qQ ?_)
  refine jb (H.sl (e := 3) .here) ?_
  by_cases h0 : st = []
  ·subst h0
   rw [if_pos rfl] at hC
   rw [show ([] : List Int).length = 0 from rfl]
   with_reducible (refine ja (by omega) ?_; refine qQ ?_; refine qX ?_; (try dsimp only))
   refine qh H (b := b0) (off := 0) e_1 rfl (by omega) rfl ?_
   refine qh H (b := b0) (off := 0) e_1 rfl (by omega) rfl ?_
   refine qY (Jn (by omega) H S.more.more hG hl) ?_
   intro av h3 H3
   refine qY (NJ (a := zL l 0 []) (by omega) H3 S.more.more.more (by rw [wY]; exact Rd.own .here) wY (qKC hG) hl) ?_
   rintro _ h4 ⟨rfl, H4⟩
   rw [← hC]
   with_reducible (refine qx rfl ?_; refine qx rfl ?_)
   refine zt H (b := b0) e_1 rfl H3 e_2 rfl rfl (by omega) (HS.lt H e_1) ?_
   refine qj ?_
   exact qW ⟨rfl, H4.drop.drop.drop⟩
  ·rw [if_neg h0] at hC
   subst hC
   have hl0 : st.length ≠ 0 := fun h => h0 (List.eq_nil_of_length_eq_zero h)
   with_reducible (refine jl (by omega) ?_; refine qV ?_)
   refine qY (QG (by omega) (H.sl (e := 3) .here) (by omega)) ?_
   rintro _ h3 ⟨rfl, rfl⟩
   refine qj ?_
   exact qW ⟨rfl, H.drop.drop⟩
theorem qVO {l : List qM} {st' : List Int} (hg : goM l l 0 [] = .inr st') {i : Nat} (hi : i < l.length) (ho : 0 < jE l[i].1 ∨ l[i].1 = 16) : ∃ p : Nat, (zL l 0 [])[i]? = some (p : Int) ∧ p < l.length := by
 obtain ⟨s, h1, h2⟩ := Om (r := l) (i := 0) (j := i) (st := []) hi
 obtain ⟨h3, h4⟩ := h2 hg StOk.nil
 have hw := h4 l[i] (List.getElem?_eq_getElem hi)
 have hne := (zG hw).2.1 ho
 have hin := h3.inmost hne
 refine ⟨(qp s).toNat, ?_, by omega⟩
 rw [h1]
 congr 1
 omega
end Go.Proofs.YtdlfmpmpmkffjaaGreatDoor
