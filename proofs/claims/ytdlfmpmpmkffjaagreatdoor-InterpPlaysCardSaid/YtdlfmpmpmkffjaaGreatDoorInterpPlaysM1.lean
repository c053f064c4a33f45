/- Lemmas for 'quietus/quietuslaw21.InterpPlays': What a transaction knows and writes, as plain data: cells, levels, views; Write sets: by the program; Levels of cells and frees: by the program; Views: by the ... No condition. -/
import Derived.Test.YtdlfmpmpmkffjaaGreatDoorInterpPlaysAe7
import Derived.Test.YtdlfmpmpmkffjaaGreatDoorInterpPlaysT
import Derived.KernelRfl
namespace Go.Proofs.YtdlfmpmpmkffjaaGreatDoor
open Go Go.Ae
abbrev Cl : Type := Int × Int
def jk (c : Int × Int) : List AV := [.int .i64 c.1, .int .u64 c.2]
def gS (p : Int) : List Cl → Option Nat
 | [] => none
 | c :: l => if c.1 = p then some 0 else (gS p l).map (· + 1)
def zB (p : Int) : List Cl → Option Int
 | [] => none
 | c :: l => if c.1 = p then some c.2 else zB p l
def xv (p v : Int) : List Cl → List Cl
 | [] => [(p, v)]
 | c :: l => if c.1 = p then (p, v) :: l else c :: xv p v l
def xX (l cs : List Cl) : List Cl := cs.foldl (fun l c => xv c.1 c.2 l) l
theorem yt {p : Int} {l : List Cl} : gS p l = none ↔ zB p l = none := by
 induction l with
 | nil => simp [gS, zB]
 | cons c l ih =>
  unfold gS zB
  split
  ·simp
  ·simp [ih]
theorem yl {p : Int} : ∀ {l : List Cl} {i : Nat}, gS p l = some i → i < l.length ∧ (∃ x, l[i]? = some (p, x) ∧ zB p l = some x) ∧ ∀ v, xv p v l = l.set i (p, v) := by
 intro l
 induction l with
 | nil => intro i h; cases h
 | cons c l ih =>
  intro i h
  unfold gS at h
  unfold zB
  split at h
  ·rename_i hc
   cases h
   rw [if_pos hc]
   refine ⟨by simp, ⟨c.2, by rw [← hc]; rfl, rfl⟩, fun v => ?_⟩
   unfold xv
   rw [if_pos hc]; rfl
  ·rename_i hc
   rw [if_neg hc]
   cases hi : gS p l with
   | none => rw [hi] at h; cases h
   | some j =>
    rw [hi] at h
    cases h
    obtain ⟨h1, ⟨x, h2, h2'⟩, h3⟩ := ih hi
    refine ⟨by simp; omega, ⟨x, by simpa using h2, h2'⟩, fun v => ?_⟩
    unfold xv
    rw [if_neg hc, h3]; rfl
theorem gt {p v : Int} {l : List Cl} (h : zB p l = none) : xv p v l = l ++ [(p, v)] := by
 induction l with
 | nil => rfl
 | cons c l ih =>
  unfold zB at h
  split at h
  ·cases h
  ·rename_i hc
   unfold xv
   rw [if_neg hc, ih h]; rfl
theorem Xk {p : Int} : ∀ {l : List Cl} {i : Nat}, i < l.length → (∀ j, j < i → ∀ c, l[j]? = some c → c.1 ≠ p) → (∃ x, l[i]? = some (p, x)) → gS p l = some i := by
 intro l
 induction l with
 | nil => intro i h; simp at h
 | cons c l ih =>
  intro i hi h1 ⟨x, h2⟩
  unfold gS
  cases i with
  | zero =>
   simp at h2
   rw [if_pos (by rw [h2])]
  | succ i =>
   rw [if_neg (h1 0 (by omega) c rfl), ih (by simpa using hi) (fun j hj c' hc' => h1 (j + 1) (by omega) c' (by simpa using hc')) ⟨x, by simpa using h2⟩]; rfl
theorem Kx {p : Int} : ∀ {l : List Cl}, (∀ c ∈ l, c.1 ≠ p) → gS p l = none := by
 intro l
 induction l with
 | nil => intro _; rfl
 | cons c l ih =>
  intro h
  unfold gS
  rw [if_neg (h c (List.mem_cons_self ..)), ih fun c' hc' => h c' (List.mem_cons_of_mem _ hc')]; rfl
theorem Qe {p v : Int} {l : List Cl} : (xv p v l).length = if zB p l = none then l.length + 1 else l.length := by
 induction l with
 | nil => simp [xv, zB]
 | cons c l ih =>
  unfold xv zB
  split
  ·simp
  ·rw [List.length_cons, ih]
   split <;> simp
theorem Uq {p q v : Int} {l : List Cl} : zB q (xv p v l) = if q = p then some v else zB q l := by
 induction l with
 | nil =>
  simp only [xv, zB]
  by_cases h : p = q
  ·simp [h]
  ·rw [if_neg h, if_neg (fun h' => h h'.symm)]
 | cons c l ih =>
  unfold xv
  split
  ·rename_i hc
   simp only [zB]
   by_cases h : p = q
   ·simp [h]
   ·rw [if_neg h, if_neg (fun h' => h h'.symm), if_neg (by rw [hc]; exact h)]
  ·rename_i hc
   simp only [zB, ih]
   by_cases h : c.1 = q
   ·rw [if_pos h, if_pos h, if_neg (by rintro rfl; exact hc h)]
   ·rw [if_neg h, if_neg h]
def InC (l : List Cl) : Prop := ∀ c ∈ l, 1 ≤ c.1 ∧ c.1 < 256
theorem InC.put {l : List Cl} {p v : Int} (h : InC l) (hp : 1 ≤ p ∧ p < 256) : InC (xv p v l) := by
 induction l with
 | nil => intro c hc; simp [xv] at hc; subst hc; exact hp
 | cons a l ih =>
  unfold xv
  split
  ·intro c hc
   rcases List.mem_cons.1 hc with rfl | hc
   ·exact hp
   ·exact h c (List.mem_cons_of_mem _ hc)
  ·intro c hc
   rcases List.mem_cons.1 hc with rfl | hc
   ·exact h _ (List.mem_cons_self ..)
   ·exact ih (fun c hc => h c (List.mem_cons_of_mem _ hc)) c hc
def UnC (l : List Cl) : Prop := (l.map (·.1)).Nodup
theorem OA {p : Int} {l : List Cl} : zB p l = none ↔ p ∉ l.map (·.1) := by
 induction l with
 | nil => simp [zB]
 | cons c l ih =>
  unfold zB
  split
  ·rename_i h; simp [h]
  ·rename_i h
   rw [ih, List.map_cons, List.mem_cons, not_or]
   exact ⟨fun h' => ⟨fun h2 => h h2.symm, h'⟩, fun h' => h'.2⟩
theorem NY {p v : Int} {l : List Cl} : (xv p v l).map (·.1) = if zB p l = none then l.map (·.1) ++ [p] else l.map (·.1) := by
 induction l with
 | nil => simp [xv, zB]
 | cons c l ih =>
  unfold xv zB
  split
  ·rename_i h; simp [h]
  ·rw [List.map_cons, ih]
   split <;> simp
theorem UnC.put {l : List Cl} {p v : Int} (h : UnC l) : UnC (xv p v l) := by
 unfold UnC
 rw [NY]
 split
 ·rename_i hp
  rw [OA] at hp
  rw [List.nodup_append]
  exact ⟨h, by simp, fun a ha b hb => by rw [List.mem_singleton] at hb; subst hb; rintro rfl; exact hp ha⟩
 ·exact h
theorem ZC {l : List Cl} : ∀ {cs : List Cl}, UnC cs → (∀ c ∈ cs, zB c.1 l = none) → xX l cs = l ++ cs := by
 intro cs
 induction cs generalizing l with
 | nil => intro _ _; simp [xX]
 | cons c cs ih =>
  intro hu hn
  have hu' : UnC cs := (List.nodup_cons.1 hu).2
  have hc : c.1 ∉ cs.map (·.1) := (List.nodup_cons.1 hu).1
  show xX (xv c.1 c.2 l) cs = _
  rw [ih hu' (fun d hd => by
   rw [Uq, if_neg (by rintro h; exact hc (by rw [← h]; exact List.mem_map_of_mem hd))]
   exact hn d (List.mem_cons_of_mem _ hd)), gt (hn c (List.mem_cons_self ..)), List.append_assoc]
  rfl
theorem Yu {cs : List Cl} (h : UnC cs) : xX [] cs = cs := by rw [ZC h (fun _ _ => rfl), List.nil_append]
def kP (m : Nat) (l : List Cl) (p v : Int) : Int × List Cl :=
 if p < 1 ∨ 256 ≤ p then (2, l) else if zB p l = none ∧ m ≤ l.length then (5, l) else (0, xv p v l)
def wu (m : Nat) (l : List Cl) : List Cl → Int × List Cl
 | [] => (0, l)
 | c :: cs => if (kP m l c.1 c.2).1 = 0 then wu m (kP m l c.1 c.2).2 cs else kP m l c.1 c.2
theorem U4 {m : Nat} {l : List Cl} {c : Cl} {cs : List Cl} : wu m l (c :: cs) = if (kP m l c.1 c.2).1 = 0 then wu m (kP m l c.1 c.2).2 cs else kP m l c.1 c.2 := rfl
theorem Qn {m : Nat} : ∀ {cs l : List Cl}, InC cs → l.length + cs.length ≤ m → wu m l cs = (0, xX l cs) := by
 intro cs
 induction cs with
 | nil => intro l _ _; rfl
 | cons c cs ih =>
  intro l hi hl
  have hc := hi c (List.mem_cons_self ..)
  have hp : kP m l c.1 c.2 = (0, xv c.1 c.2 l) := by
   unfold kP
   rw [if_neg (by omega), if_neg (by simp at hl; omega)]
  unfold wu
  rw [hp, if_pos rfl, ih (fun d hd => hi d (List.mem_cons_of_mem _ hd)) (by
   have := Qe (p := c.1) (v := c.2) (l := l)
   simp at hl
   show (xv c.1 c.2 l).length + cs.length ≤ m
   split at this <;> omega)]
  rfl
abbrev LvM : Type := List Cl × List Int
def kS (p : Int) : List LvM → Option Int
 | [] => none
 | x :: r => match zB p x.1 with | some v => some v | none => kS p r
def xK (lv : List LvM) : Nat := (lv.map fun x => x.1.length).sum
def jE (lv : List LvM) : List Cl := lv.foldl (fun out x => xX x.1 out) []
def xY (lv : List LvM) : List Int := lv.reverse.flatMap (·.2)
structure OkL (most : Nat) (lv : List LvM) : Prop where
  held : xK lv ≤ most
  le : most ≤ 96
  ins : ∀ x ∈ lv, InC x.1
  un : ∀ x ∈ lv, UnC x.1
  one : 1 ≤ lv.length
  deep : lv.length ≤ 6
def xC (most : Nat) (lv : List LvM) (p v : Int) : Int × List LvM :=
 match lv with
 | [] => (0, [])
 | x :: r => if p < 1 ∨ 256 ≤ p then (2, lv) else if zB p x.1 = none ∧ most ≤ xK lv then (5, lv) else (0, (xv p v x.1, x.2) :: r)
def xz (most : Nat) (was lv : List LvM) : List Cl → Int × List LvM
 | [] => (0, lv)
 | c :: cs => if (xC most lv c.1 c.2).1 = 0 then xz most was (xC most lv c.1 c.2).2 cs else ((xC most lv c.1 c.2).1, was)
def yW (lv : List LvM) : Int × List LvM := if 6 ≤ lv.length then (9, lv) else (0, ([], []) :: lv)
def vz (lv : List LvM) : Int × List LvM := if lv.length = 1 then (10, lv) else (0, lv.tail)
def vN (lv : List LvM) : Int × List LvM := match lv with
 | x :: y :: r => (0, (xX y.1 x.1, y.2 ++ x.2) :: r)
 | _ => (10, lv)
def kT (lv : List LvM) (b : Int) : List LvM := match lv with
 | x :: r => (x.1, x.2 ++ [b]) :: r
 | [] => []
theorem xS {most : Nat} {was lv : List LvM} {c : Cl} {cs : List Cl} : xz most was lv (c :: cs) = if (xC most lv c.1 c.2).1 = 0 then xz most was (xC most lv c.1 c.2).2 cs else ((xC most lv c.1 c.2).1, was) := rfl
theorem zz {x : LvM} {r : List LvM} : xK (x :: r) = x.1.length + xK r := by simp [xK]
theorem JO {most : Nat} {lv : List LvM} {p v : Int} (O : OkL most lv) : OkL most (xC most lv p v).2 ∧ (xC most lv p v).2.length = lv.length := by
 cases lv with
 | nil => have := O.one; simp at this
 | cons x r =>
  unfold xC
  dsimp only
  split
  ·exact ⟨O, rfl⟩
  ·rename_i hp
   split
   ·exact ⟨O, rfl⟩
   ·rename_i h1
    have hh := O.held
    rw [zz] at hh
    refine ⟨⟨?_, O.le, ?_, ?_, by simp, O.deep⟩, rfl⟩
    ·show xK ((xv p v x.1, x.2) :: r) ≤ most
     rw [zz, Qe]
     split
     ·rename_i h2
      rw [zz] at h1
      have : ¬ most ≤ x.1.length + xK r := fun h3 => h1 ⟨h2, h3⟩
      omega
     ·exact hh
    ·intro y hy
     rcases List.mem_cons.1 hy with rfl | hy
     ·exact (O.ins x (List.mem_cons_self ..)).put (by omega)
     ·exact O.ins y (List.mem_cons_of_mem _ hy)
    ·intro y hy
     rcases List.mem_cons.1 hy with rfl | hy
     ·exact (O.un x (List.mem_cons_self ..)).put
     ·exact O.un y (List.mem_cons_of_mem _ hy)
theorem KE {most : Nat} {was : List LvM} (W : OkL most was) : ∀ {cs : List Cl} {lv : List LvM}, OkL most lv → lv.length = was.length → OkL most (xz most was lv cs).2 ∧ (xz most was lv cs).2.length = was.length := by
 intro cs
 induction cs with
 | nil => intro lv O hl; exact ⟨O, hl⟩
 | cons c cs ih =>
  intro lv O hl
  unfold xz
  split
  ·exact ih (JO O).1 ((JO O).2.trans hl)
  ·exact ⟨W, rfl⟩
theorem ZA {most : Nat} {lv : List LvM} (O : OkL most lv) : OkL most (yW lv).2 := by
 unfold yW
 split
 ·exact O
 ·refine ⟨by rw [zz]; have := O.held; simpa using this, O.le, ?_, ?_, by simp, by simp; omega⟩
  ·intro y hy
   rcases List.mem_cons.1 hy with rfl | hy
   ·intro c hc; cases hc
   ·exact O.ins y hy
  ·intro y hy
   rcases List.mem_cons.1 hy with rfl | hy
   ·exact List.nodup_nil
   ·exact O.un y hy
theorem qQe {most : Nat} {lv : List LvM} (O : OkL most lv) : OkL most (vz lv).2 := by
 unfold vz
 split
 ·exact O
 ·rename_i h1
  cases lv with
  | nil => have := O.one; simp at this
  | cons x r =>
   have hh := O.held
   have h2 := O.deep
   rw [zz] at hh
   simp at h1 h2
   refine ⟨by show xK r ≤ most; omega, O.le, fun y hy => O.ins y (List.mem_cons_of_mem _ hy), fun y hy => O.un y (List.mem_cons_of_mem _ hy), ?_, by show r.length ≤ 6; omega⟩
   show 1 ≤ r.length
   cases r with
   | nil => simp at h1
   | cons _ _ => simp
theorem Qw : ∀ {cs l : List Cl}, (xX l cs).length ≤ l.length + cs.length := by
 intro cs
 induction cs with
 | nil => intro l; exact Nat.le_refl _
 | cons c cs ih =>
  intro l
  have := ih (l := xv c.1 c.2 l)
  have h2 := Qe (p := c.1) (v := c.2) (l := l)
  show (xX (xv c.1 c.2 l) cs).length ≤ _
  rw [List.length_cons]
  split at h2 <;> omega
theorem InC.puts : ∀ {cs l : List Cl}, InC l → InC cs → InC (xX l cs) := by
 intro cs
 induction cs with
 | nil => intro l h _; exact h
 | cons c cs ih => intro l h hc; exact ih (h.put (hc c (List.mem_cons_self ..))) fun d hd => hc d (List.mem_cons_of_mem _ hd)
theorem UnC.puts : ∀ {cs l : List Cl}, UnC l → UnC (xX l cs) := by
 intro cs
 induction cs with
 | nil => intro l h; exact h
 | cons c cs ih => intro l h; exact ih h.put
theorem K8 {most : Nat} {lv : List LvM} (O : OkL most lv) : OkL most (vN lv).2 := by
 match lv, O with
 | [], O => exact O
 | [x], O => exact O
 | x :: y :: r, O =>
  have hh := O.held
  have h2 := O.deep
  rw [zz, zz] at hh
  have := Qw (cs := x.1) (l := y.1)
  refine ⟨by show xK ((xX y.1 x.1, y.2 ++ x.2) :: r) ≤ most; rw [zz]; dsimp only; omega, O.le, ?_, ?_, by simp [vN], by simp [vN] at h2 ⊢; omega⟩
  ·intro z hz
   rcases List.mem_cons.1 hz with rfl | hz
   ·exact (O.ins y (by simp)).puts (O.ins x (by simp))
   ·exact O.ins z (by simp [hz])
  ·intro z hz
   rcases List.mem_cons.1 hz with rfl | hz
   ·exact (O.un y (by simp)).puts
   ·exact O.un z (by simp [hz])
theorem Zm {most : Nat} {lv : List LvM} {b : Int} (O : OkL most lv) : OkL most (kT lv b) := by
 cases lv with
 | nil => exact O
 | cons x r =>
  refine ⟨O.held, O.le, ?_, ?_, by simp [kT], O.deep⟩
  ·intro z hz
   rcases List.mem_cons.1 hz with rfl | hz
   ·exact O.ins x (by simp)
   ·exact O.ins z (by simp [hz])
  ·intro z hz
   rcases List.mem_cons.1 hz with rfl | hz
   ·exact O.un x (by simp)
   ·exact O.un z (by simp [hz])
end Go.Proofs.YtdlfmpmpmkffjaaGreatDoor
namespace Go.Proofs.YtdlfmpmpmkffjaaGreatDoor
open Go Go.Ae
set_option maxRecDepth 100000
variable {g h : AH} {L R : List SP}
def WrC (w m : Nat) (l : List Cl) : SP := .ex fun v => .all [qB w [.int .i64 (m : Int), v], qA 67 2 l.length v (l.flatMap jk)]
theorem WrC.E {w m : Nat} {l : List Cl} (H : HS g h (WrC w m l :: R)) : ∃ v, HS g h (qB w [.int .i64 (m : Int), v] :: qA 67 2 l.length v (l.flatMap jk) :: R) := by
 obtain ⟨v, H⟩ := H.exE
 exact ⟨v, H.allE⟩
theorem WrC.I {w m : Nat} {l : List Cl} {v : AV} (H : HS g h (qB w [.int .i64 (m : Int), v] :: qA 67 2 l.length v (l.flatMap jk) :: R)) : HS g h (WrC w m l :: R) :=
 HS.exI v (HS.allI H)
theorem we (l : List Cl) : jQ (l.flatMap jk) = true := by
 unfold jQ
 rw [List.all_eq_true]
 intro v hv
 obtain ⟨c, _, hc⟩ := List.mem_flatMap.1 hv
 simp [jk] at hc
 rcases hc with rfl | rfl <;> rfl
theorem Qg {l : List Cl} {i : Nat} {c : Cl} (h : l[i]? = some c) : ((l.flatMap jk).drop (i * 2)).take 2 = jk c := by
 obtain ⟨hi, e⟩ := List.getElem?_eq_some_iff.1 h
 rw [vm (sz := 2) jk (fun _ => rfl), List.drop_eq_getElem_cons hi, e, List.flatMap_cons]; rfl
theorem G7 {l : List Cl} {i : Nat} {p x v : Int} (h : l[i]? = some (p, x)) : (l.flatMap jk).set (i * 2 + 1) (.int .u64 v) = (l.set i (p, v)).flatMap jk := by
 have hi := (List.getElem?_eq_some_iff.1 h).1
 apply List.ext_getElem?
 intro j
 have hd : j = j / 2 * 2 + j % 2 := by omega
 have hm : j % 2 < 2 := by omega
 rw [List.getElem?_set, yV (sz := 2) jk (fun _ => rfl)]
 have e1 := zH (sz := 2) jk (fun _ => rfl) l (j / 2) (j % 2) hm
 have e2 := zH (sz := 2) jk (fun _ => rfl) (l.set i (p, v)) (j / 2) (j % 2) hm
 rw [← hd] at e1 e2
 rw [e1, e2, List.getElem?_set]
 by_cases h1 : i * 2 + 1 = j
 ·have : j / 2 = i := by omega
  have h3 : j % 2 = 1 := by omega
  rw [if_pos h1, if_pos (by omega), if_pos this.symm, if_pos hi, h3]; rfl
 ·rw [if_neg h1]
  by_cases h2 : i = j / 2
  ·have h3 : j % 2 = 0 := by omega
   rw [if_pos h2, if_pos hi, h3, ← h2, h]; rfl
  ·rw [if_neg h2]
def zI (o : Option Nat) : Int := match o with | some i => (i : Int) | none => -1
theorem Gc {n : Nat} (hn : 1 ≤ n) {m : Nat} (hm : m ≤ 96) (H : HS g h R) : wp (callT tab qy n (.fn 100 [] []) [.int .i64 (m : Int)] h) fun v h' => ∃ w, v = .ptr w 0 ∧ HS g h' (WrC w m [] :: R) := by
 (refine qM (g := (tD1 S100)) rfl (by omega) fun k hk => ?_; show wp (S100 (callT tab qy k) _ _).1 _; unfold S100; try simp only [ Int.ofNat_eq_natCast])
 refine zr (zp (qF rfl (qb H rfl fun w h2 H2 => qW ⟨w, rfl, ?_⟩)))
 rw [show max ((0 : Nat) : Int) (min (m : Int) ((96 : Nat) : Int)) = (m : Int) by omega] at H2
 exact WrC.I ((H2.nils (e := 67) (sz := 2)).sel (P := qB w [.int .i64 (m : Int), .nils]) e_1 :)
theorem MY {n : Nat} (hn : 2 ≤ n) {p : Int} {v : AV} {c0 : Nat} {l : List Cl} (H : HS g h L) (S : Rd g L 2 l.length v (l.flatMap jk)) (s : Sel L (qB c0 [.int .i64 p]) R) (hl : l.length < 1000000) :
  wp (callT tab qy n (.fn 249 [] []) [v, .fn 250 [] [.ptr c0 0]] h) fun v h' => v = .int .i64 (zI (gS p l)) ∧ HS g h' L := by
 (refine qM (g := (tD2 S249)) rfl (by omega) fun k hk => ?_; show wp (S249 (callT tab qy k) _ _ _).1 _; unfold S249; try simp only [ Int.ofNat_eq_natCast])
 refine zq (S.sl H) ?_
 refine (jz (fun m s h' => ∃ i : Nat, s = (.int .i64 (i : Int), .int .i64 (l.length : Int), .fn 250 [] [.ptr c0 0], v, ()) ∧ i ≤ l.length ∧ m = l.length - i ∧ HS g h' L ∧
  (∀ j, j < i → ∀ c, l[j]? = some c → c.1 ≠ p)) ?_ (m := l.length) (by show _ < 1000000000; omega) ⟨0, rfl, by omega, by omega, H, fun j hj => by omega⟩)
 rintro m ih s' h' hih ⟨i, rfl, h1, rfl, H, h2⟩
 dsimp only
 refine jU (fun hlt => qV ?_) fun hge => qQ (qj (qW ⟨?_, H⟩))
 ·have hi : i < l.length := by omega
  have hc : l[i]? = some l[i] := List.getElem?_eq_getElem hi
  refine zG (l := jk l[i]) (S.sl H) hi (by omega) (Qg hc) ?_
  refine qq (Q' := fun v h2 => v = .bool (decide (l[i].1 = p)) ∧ HS g h2 L) (qXT (g := (tD2 S250)) rfl (by omega) fun k hk => ?_) ?_
  ·show wp (S250 (callT tab qy k) _ _ _).1 _
   unfold S250; try simp only [ Int.ofNat_eq_natCast]
   refine qb H rfl fun b h3 H3 => ?_
   with_reducible (refine qJ ?_; refine qG (by assumption) .here rfl ?_)
   refine qG H3 (.there s) rfl (gU (qW ⟨rfl, H3.drop⟩))
  ·rintro _ h3 ⟨rfl, H3⟩
   refine GQ (fun he => qj (qW ⟨?_, H3⟩)) fun hne => qE (by omega) ?_
   ·rw [Xk hi h2 ⟨l[i].2, by rw [hc, ← he]⟩]; rfl
   ·refine hih (l.length - (i + 1)) _ _ (by omega) ⟨i + 1, rfl, by omega, rfl, H3, fun j hj c hc' => ?_⟩
    by_cases h4 : j < i
    ·exact h2 j h4 c hc'
    ·obtain rfl : j = i := by omega
     rw [hc] at hc'; cases hc'; exact hne
 ·rw [Kx fun c hc => ?_]
  ·rfl
  ·obtain ⟨j, hj⟩ := List.getElem?_of_mem hc
   exact h2 j (by have := (List.getElem?_eq_some_iff.1 hj).1; omega) c hj
theorem KC {n : Nat} (hn : 3 ≤ n) {w m : Nat} {l : List Cl} {p : Int} (H : HS g h (WrC w m l :: R)) (hl : l.length < 1000000) :
  wp (callT tab qy n (.fn 218 [] []) [.ptr w 0, .int .i64 p] h) fun v h' => v = .int .i64 (zI (gS p l)) ∧ HS g h' (WrC w m l :: R) := by
 (refine qM (g := (tD2 S218)) rfl (by omega) fun k hk => ?_; show wp (S218 (callT tab qy k) _ _ _).1 _; unfold S218; try simp only [ Int.ofNat_eq_natCast])
 obtain ⟨v, H⟩ := WrC.E H
 refine kO H ⟨rfl, rfl⟩ fun c0 h2 H2 => ?_
 with_reducible (refine qY ?_; refine qJ ?_; refine qG (by assumption) e_1 rfl ?_)
 refine qq (MY (p := p) (by omega) H2 (H2.rd e_2) .here hl) ?_
 rintro _ h3 ⟨rfl, H3⟩
 exact qW ⟨rfl, WrC.I H3.drop⟩
theorem Vr {n : Nat} (hn : 4 ≤ n) {w m : Nat} {l : List Cl} {p : Int} (H : HS g h (WrC w m l :: R)) (hl : l.length < 1000000) :
  wp (callT tab qy n (.fn 221 [] []) [.ptr w 0, .int .i64 p] h) fun v h' => v = .tup [.int .u64 ((zB p l).getD 0), .bool (zB p l).isSome] ∧ HS g h' (WrC w m l :: R) := by
 (refine qM (g := (tD2 S221)) rfl (by omega) fun k hk => ?_; show wp (S221 (callT tab qy k) _ _ _).1 _; unfold S221; try simp only [ Int.ofNat_eq_natCast])
 refine qq (KC (by omega) H hl) ?_
 rintro _ h3 ⟨rfl, H3⟩
 cases hi : gS p l with
 | none =>
  refine q8 (by show ¬ ((0 : Nat) : Int) ≤ -1; omega) ?_
  refine qQ ?_
  exact qW ⟨by rw [yt.1 hi]; rfl, H3⟩
 | some i =>
  obtain ⟨h1, ⟨x, h2, h2'⟩, _⟩ := yl hi
  refine jZ (by show ((0 : Nat) : Int) ≤ (i : Int); omega) ?_
  obtain ⟨v, H4⟩ := WrC.E H3
  with_reducible (refine qV ?_; refine qY ?_; refine qJ ?_; refine qG (by assumption) .here rfl ?_)
  refine zj (x := .int .u64 x) (H4.sl e_1) (by omega) h1 ?_ (qW ⟨by rw [h2']; rfl, H3⟩)
  rw [zH (sz := 2) jk (fun _ => rfl) _ _ _ (by omega), h2]; rfl
theorem Vp {n : Nat} (hn : 4 ≤ n) {w m : Nat} {l : List Cl} {p x : Int} (H : HS g h (WrC w m l :: R)) (hl : l.length < 1000000) :
  wp (callT tab qy n (.fn 151 [] []) [.ptr w 0, .int .i64 p, .int .u64 x] h) fun v h' => v = .int .i64 (kP m l p x).1 ∧ HS g h' (WrC w m (kP m l p x).2 :: R) := by
 (refine qM (g := (tD3 S151)) rfl (by omega) fun k hk => ?_; show wp (S151 (callT tab qy k) _ _ _ _).1 _; unfold S151; try simp only [ Int.ofNat_eq_natCast])
 unfold kP
 by_cases hp : p < 1 ∨ 256 ≤ p
 ·rw [if_pos hp]
  repeat' (first | with_reducible refine qV ?_ | with_reducible refine qQ ?_ | (with_reducible refine qT ?_; try dsimp only) | (with_reducible refine qS ?_; try dsimp only) | (with_reducible refine qR ?_; try dsimp only) | (with_reducible refine qw ?_; try dsimp only) | (with_reducible refine jY ?_; try dsimp only) | with_reducible refine qC ?_ | with_reducible refine qx ?_ | (with_reducible refine qK ?_; try dsimp only) | with_reducible refine qj ?_ | with_reducible refine qn ?_ | with_reducible refine jj ?_ | with_reducible refine qE (by omega) ?_ | with_reducible refine qc (by omega) ?_ | with_reducible refine zh (by omega) ?_ | with_reducible refine zu (by omega) ?_ | with_reducible refine zr ?_ | with_reducible refine zp ?_ | with_reducible refine qg (by omega) ?_ | with_reducible refine qX (by omega) ?_ | with_reducible refine jG (by omega) ?_ | with_reducible refine qt (by omega) ?_ | with_reducible refine jw (by omega) ?_ | with_reducible refine jW (by omega) ?_ | with_reducible refine zf (by omega) ?_ | with_reducible refine zi (by omega) ?_ | with_reducible refine ji (by omega) ?_ | with_reducible refine ja (by omega) ?_ | with_reducible refine jZ (by omega) ?_ | with_reducible refine q8 (by omega) ?_ | with_reducible refine jU (fun hc => ?_) (fun hc => ?_) | with_reducible refine xV (fun hc => ?_) (fun hc => ?_) | with_reducible refine zO (fun hc => ?_) (fun hc => ?_) | with_reducible refine xG (fun hc => ?_) (fun hc => ?_) | with_reducible refine z7 (fun hc => ?_) (fun hc => ?_) | with_reducible refine zC (fun hc => ?_) (fun hc => ?_) | with_reducible refine z6 (fun hc => ?_) (fun hc => ?_))
  all_goals exact qW ⟨rfl, H⟩
 rw [if_neg hp]
 with_reducible (refine jW (by omega) ?_; refine qK ?_; (try dsimp only); refine qw ?_; (try dsimp only); refine q8 (by omega) ?_; refine qx ?_; refine qQ ?_)
 refine qq (KC (by omega) H hl) ?_
 rintro _ h3 ⟨rfl, H3⟩
 cases hi : gS p l with
 | none =>
  refine q8 (by show ¬ ((0 : Nat) : Int) ≤ -1; omega) ?_
  have hg := yt.1 hi
  obtain ⟨v, H4⟩ := WrC.E H3
  with_reducible (refine qQ ?_; refine qY ?_; refine qJ ?_; refine qG (by assumption) .here rfl ?_; refine qa (by assumption) e_1 ?_; refine qY ?_; refine qJ ?_; refine qG (by assumption) .here rfl ?_)
  by_cases hf : m ≤ l.length
  ·rw [if_pos ⟨hg, hf⟩]
   with_reducible (refine jZ (by omega) ?_; refine qV ?_)
   exact qW ⟨rfl, H3⟩
  ·rw [if_neg (fun h => hf h.2)]
   with_reducible (refine q8 (by omega) ?_; refine qQ ?_; refine qY ?_; refine qJ ?_; refine qG (by assumption) .here rfl ?_; refine qF rfl ?_)
   refine qf (sz := 2) (l := [.int .i64 p, .int .u64 x]) H4 rfl rfl rfl rfl fun v5 h5 H5 => ?_
   refine jc (H5.sel e_2) (H5.sl .here) (by omega) (by omega) rfl fun v6 h6 H6 => ?_
   refine qY ?_; refine qJ ?_
   refine qi H6 e_2 (H6.one .here) (by simp) fun h7 H7 => qW ⟨rfl, WrC.I (v := v6) ?_⟩
   rw [gt hg, List.flatMap_append, List.length_append]
   exact H7.sub (.cons .here (.cons .here (.drop (.refl))))
 | some i =>
  obtain ⟨h1, ⟨y, h2, h2'⟩, h5⟩ := yl hi
  refine jZ (by show ((0 : Nat) : Int) ≤ (i : Int); omega) ?_
  obtain ⟨v, H4⟩ := WrC.E H3
  with_reducible (refine qV ?_; refine qY ?_; refine qJ ?_; refine qG (by assumption) .here rfl ?_)
  rw [if_neg (fun h => by rw [h2'] at h; cases h.1)]
  refine J6 (H4.sel e_1) h1 (by omega) ⟨rfl, rfl⟩ fun h6 H6 => qW ⟨rfl, WrC.I (v := v) ?_⟩
  rw [G7 h2] at H6
  dsimp only
  rw [h5, List.length_set]
  exact H6.sub (.cons e_1 (.refl))
theorem OZ {n : Nat} (hn : 1 ≤ n) {v : AV} {l : List Cl} (H : HS g h L) (s : Sel L (qA 67 2 l.length v (l.flatMap jk)) R) (hl : l.length < 1000000) :
  wp (callT tab qy n (.fn 152 [] []) [v] h) fun v' h' => HS g h' (qA 67 2 l.length v' (l.flatMap jk) :: L) := by
 (refine qM (g := (tD1 S152)) rfl (by omega) fun k hk => ?_; show wp (S152 (callT tab qy k) _ _).1 _; unfold S152; try simp only [ Int.ofNat_eq_natCast])
 refine Vd H s (fun _ h0 => qV (qW ?_)) (qQ ?_)
 ·have := List.eq_nil_of_length_eq_zero h0
  subst this
  exact H.nils
 ·refine qf (n := 0) (l := []) (sz := 2) H rfl rfl rfl rfl fun v2 h2 H2 => ?_
  refine jc H2 (H2.sl (.there s)) (by omega) (by omega) (we l) fun v3 h3 H3 => qW ?_
  rw [Nat.zero_add, List.nil_append] at H3
  exact H3
theorem Q2 {n : Nat} (hn : 2 ≤ n) {w m : Nat} {l : List Cl} (H : HS g h (WrC w m l :: R)) (hl : l.length < 1000000) :
  wp (callT tab qy n (.fn 102 [] []) [.ptr w 0] h) fun v h' => HS g h' (qA 67 2 l.length v (l.flatMap jk) :: WrC w m l :: R) := by
 (refine qM (g := (tD1 S102)) rfl (by omega) fun k hk => ?_; show wp (S102 (callT tab qy k) _ _).1 _; unfold S102; try simp only [ Int.ofNat_eq_natCast])
 obtain ⟨v, H⟩ := WrC.E H
 with_reducible (refine qY ?_; refine qJ ?_; refine qG (by assumption) .here rfl ?_)
 refine qq (OZ (by omega) H e_1 hl) fun v3 h3 H3 => qW ?_
 have := WrC.I (v := v) (w := w) (m := m) (l := l) (H3.sub (L' := _ :: _ :: qA 67 2 l.length v3 (l.flatMap jk) :: R) (.cons e_1 (.cons e_1 .refl)))
 exact this.sub (.cons e_1 (.refl))
theorem qQp {n : Nat} (hn : 1 ≤ n) {w m : Nat} {l : List Cl} (H : HS g h (WrC w m l :: R)) :
  wp (callT tab qy n (.fn 255 [] []) [.ptr w 0] h) fun v h' => v = .int .i64 (l.length : Int) ∧ h' = h := by
 (refine qM (g := (tD1 S255)) rfl (by omega) fun k hk => ?_; show wp (S255 (callT tab qy k) _ _).1 _; unfold S255; try simp only [ Int.ofNat_eq_natCast])
 obtain ⟨v, H⟩ := WrC.E H
 with_reducible (refine qY ?_; refine qJ ?_; refine qG (by assumption) .here rfl ?_; refine qa (by assumption) e_1 ?_)
 exact qW ⟨rfl, rfl⟩
def vF (m : Nat) (l cs : List Cl) : Int × List Cl := if (wu m l cs).1 = 0 then wu m l cs else ((wu m l cs).1, l)
theorem Qv {n : Nat} (hn : 5 ≤ n) {w m : Nat} {l cs : List Cl} {c : AV} (H : HS g h (WrC w m l :: R)) (S : Rd g R 2 cs.length c (cs.flatMap jk)) (hl : l.length < 100000) (hc : cs.length < 100000) :
  wp (callT tab qy n (.fn 101 [] []) [.ptr w 0, c] h) fun v h' => v = .int .i64 (vF m l cs).1 ∧ HS g h' (WrC w m (vF m l cs).2 :: R) := by
 (refine qM (g := (tD2 S101)) rfl (by omega) fun k hk => ?_; show wp (S101 (callT tab qy k) _ _ _).1 _; unfold S101; try simp only [ Int.ofNat_eq_natCast])
 refine qq (Q2 (by omega) H (by omega)) fun v0 h1 H1 => ?_
 refine zq (S.sl H1.drop.drop) ?_
 refine jz (fun k s h' => ∃ (i : Nat) (l' : List Cl), s = (.int .i64 (i : Int), .int .i64 (cs.length : Int), c, v0, .ptr w 0, ()) ∧ i ≤ cs.length ∧ k = cs.length - i ∧ l'.length ≤ l.length + i ∧
  HS g h' (WrC w m l' :: qA 67 2 l.length v0 (l.flatMap jk) :: R) ∧ wu m l cs = wu m l' (cs.drop i)) ?_ (m := cs.length) (by show _ < 1000000000; omega) ⟨0, l, rfl, by omega, by omega, by omega, H1.sub (.cons e_1 (.refl)), rfl⟩
 rintro k ih s h2 hih ⟨i, l', rfl, h1, rfl, hl', H, hT⟩
 dsimp only
 refine jU (fun hlt => qV ?_) fun hge => qQ (qj (qW ?_))
 ·have hi : i < cs.length := by omega
  have hci : cs[i]? = some cs[i] := List.getElem?_eq_getElem hi
  refine zG (l := jk cs[i]) (S.sl H.drop.drop) hi (by omega) (Qg hci) ?_
  refine qb H rfl fun b h3 H3 => jq H3 .here rfl (by show 0 + 2 ≤ 2; omega) rfl fun h4 H4 => ?_
  have H5 : HS g h4 (qB b (jk cs[i]) :: WrC w m l' :: qA 67 2 l.length v0 (l.flatMap jk) :: R) := H4
  unfold jk at H5
  with_reducible (refine qJ ?_; refine qG (by assumption) .here rfl ?_; refine qJ ?_; refine qG (by assumption) .here rfl ?_)
  refine qq (Vp (by omega) H5.drop (by omega)) ?_
  rintro _ h6 ⟨rfl, H6⟩
  rw [List.drop_eq_getElem_cons hi, U4] at hT
  refine zC (fun hne => qV ?_) fun he => qQ (qE (by omega) ?_)
  ·have hne : ¬ (kP m l' cs[i].1 cs[i].2).1 = 0 := by simpa using hne
   rw [if_neg hne] at hT
   obtain ⟨v7, H7⟩ := WrC.E H6
   refine qY ?_; refine qJ ?_
   refine qi H7 .here (H7.one e_2) (by simp) fun h8 H8 => qj (qW ?_)
   unfold vF
   rw [hT, if_neg hne]
   exact ⟨rfl, WrC.I (v := v0) (H8.sub (.cons .here (.cons e_1 (.drop .refl))))⟩
  ·have he' : (kP m l' cs[i].1 cs[i].2).1 = 0 := by simpa using he
   rw [if_pos he'] at hT
   refine hih (cs.length - (i + 1)) _ _ (by omega) ⟨i + 1, _, rfl, by omega, rfl, ?_, H6, hT⟩
   have := Qe (p := cs[i].1) (v := cs[i].2) (l := l')
   unfold kP
   repeat' split
   all_goals dsimp only
   all_goals first | omega | (split at this <;> omega)
 ·rw [List.drop_of_length_le (by omega)] at hT
  have hT : wu m l cs = (0, l') := hT
  unfold vF
  rw [hT, if_pos rfl]
  exact ⟨rfl, H.sub (.cons .here (.drop .refl))⟩
end Go.Proofs.YtdlfmpmpmkffjaaGreatDoor
namespace Go.Proofs.YtdlfmpmpmkffjaaGreatDoor
open Go Go.Ae
set_option maxRecDepth 100000
variable {g h : AH} {L R : List SP}
def LvC (a : Nat) (x : LvM) : SP := .ex fun w => .ex fun fv => .all [qB a [.ptr w 0, fv], WrC w 96 x.1, qA 3 1 x.2.length fv (x.2.map (.int .i64))]
theorem LvC.E {a : Nat} {x : LvM} (H : HS g h (LvC a x :: R)) : ∃ w fv, HS g h (qB a [.ptr w 0, fv] :: WrC w 96 x.1 :: qA 3 1 x.2.length fv (x.2.map (.int .i64)) :: R) := by
 obtain ⟨w, H⟩ := H.exE
 obtain ⟨fv, H⟩ := H.exE
 exact ⟨w, fv, H.allE⟩
theorem LvC.I {a w : Nat} {fv : AV} {x : LvM} (H : HS g h (qB a [.ptr w 0, fv] :: WrC w 96 x.1 :: qA 3 1 x.2.length fv (x.2.map (.int .i64)) :: R)) : HS g h (LvC a x :: R) :=
 HS.exI w (HS.exI fv (HS.allI H))
def zn (ps : List Nat) : List AV := ps.reverse.map fun a => .ptr a 0
def LgC (q most : Nat) (lv : List LvM) : SP := .ex fun v => .ex fun ps : List Nat => .all (.pur (ps.length = lv.length) :: qB q [.int .i64 (most : Int), v] :: qA 136 1 lv.length v (zn ps) :: List.zipWith LvC ps lv)
theorem LgC.E {q most : Nat} {lv : List LvM} (H : HS g h (LgC q most lv :: R)) : ∃ v ps, ps.length = lv.length ∧ HS g h (qB q [.int .i64 (most : Int), v] :: qA 136 1 lv.length v (zn ps) :: (List.zipWith LvC ps lv ++ R)) := by
 obtain ⟨v, H⟩ := H.exE
 obtain ⟨ps, H⟩ := H.exE
 obtain ⟨e, H⟩ := HS.purE (H.allE)
 exact ⟨v, ps, e, H⟩
theorem LgC.I {q most : Nat} {lv : List LvM} {v : AV} {ps : List Nat} (e : ps.length = lv.length) (H : HS g h (qB q [.int .i64 (most : Int), v] :: qA 136 1 lv.length v (zn ps) :: (List.zipWith LvC ps lv ++ R))) : HS g h (LgC q most lv :: R) :=
 HS.exI v (HS.exI ps (HS.allI (HS.purI e H)))
theorem LgC.E1 {q most : Nat} {x : LvM} {r : List LvM} (H : HS g h (LgC q most (x :: r) :: R)) : ∃ v a ps, ps.length = r.length ∧ HS g h (qB q [.int .i64 (most : Int), v] :: qA 136 1 (r.length + 1) v (zn (a :: ps)) :: LvC a x :: (List.zipWith LvC ps r ++ R)) := by
 obtain ⟨v, ps, e, H⟩ := LgC.E H
 cases ps with
 | nil => simp at e
 | cons a ps => exact ⟨v, a, ps, by simpa using e, H⟩
theorem LgC.I1 {q most : Nat} {x : LvM} {r : List LvM} {v : AV} {a : Nat} {ps : List Nat} (e : ps.length = r.length) (H : HS g h (qB q [.int .i64 (most : Int), v] :: qA 136 1 (r.length + 1) v (zn (a :: ps)) :: LvC a x :: (List.zipWith LvC ps r ++ R))) : HS g h (LgC q most (x :: r) :: R) :=
 LgC.I (ps := a :: ps) (by simp [e]) H
theorem Uf (a : Nat) (ps : List Nat) : (zn (a :: ps))[ps.length]? = some (.ptr a 0) := by
 unfold zn
 rw [List.reverse_cons, List.map_append, List.getElem?_append_right (by simp)]
 simp
theorem JJ {ps : List Nat} {i : Nat} (hi : i < ps.length) : (zn ps)[i]? = (ps[ps.length - 1 - i]?).map fun a => .ptr a 0 := by
 unfold zn
 rw [List.getElem?_map, List.getElem?_reverse hi]
theorem Ja {ps : List Nat} : ∀ {lv : List LvM} {i a : Nat} {x : LvM}, ps[i]? = some a → lv[i]? = some x → ∃ T, Sel (List.zipWith LvC ps lv ++ R) (LvC a x) T := by
 induction ps with
 | nil => intro lv i a x h; simp at h
 | cons b ps ih =>
  intro lv i a x h1 h2
  cases lv with
  | nil => simp at h2
  | cons y lv =>
   cases i with
   | zero =>
    simp at h1 h2
    subst h1; subst h2
    exact ⟨_, .here⟩
   | succ i =>
    obtain ⟨T, s⟩ := ih (lv := lv) (i := i) (by simpa using h1) (by simpa using h2)
    exact ⟨_, .there s⟩
theorem kr {n q : Nat} (hn : 1 ≤ n) {m v : AV} {a : Nat} {ps : List Nat} {R1 R2 : List SP} {e : TypeId} (H : HS g h L) (s1 : Sel L (qB q [m, v]) R1) (s2 : Sel L (qA e 1 (ps.length + 1) v (zn (a :: ps))) R2) (hl : ps.length < 1000000) :
  wp (callT tab qy n (.fn 222 [] []) [.ptr q 0] h) fun r h' => r = .ptr a 0 ∧ h' = h := by
 (refine qM (g := (tD1 S222)) rfl (by omega) fun k hk => ?_; show wp (S222 (callT tab qy k) _ _).1 _; unfold S222; try simp only [ Int.ofNat_eq_natCast])
 refine qY (qJ (qG H s1 rfl (qY (qJ (qG H s1 rfl (qa H s2 (qc (by omega) ?_)))))))
 rw [show ((ps.length + 1 : Nat) : Int) - ((1 : Nat) : Int) = ((ps.length : Nat) : Int) by omega]
 exact jN (H.sl s2) (Uf a ps) (qW ⟨rfl, rfl⟩)
theorem YE {n : Nat} (hn : 2 ≤ n) (H : HS g h R) : wp (callT tab qy n (.fn 81 [] []) [] h) fun v h' => ∃ a, v = .ptr a 0 ∧ HS g h' (LvC a ([], []) :: R) := by
 (refine qM (g := (tD0 S81)) rfl (by omega) fun k hk => ?_; show wp (S81 (callT tab qy k) _).1 _; unfold S81; try simp only [ Int.ofNat_eq_natCast])
 refine qq (Gc (m := 96) (by omega) (by omega) H) ?_
 rintro _ h2 ⟨w, rfl, H2⟩
 refine qF rfl (qb H2 rfl fun a h3 H3 => qW ⟨a, rfl, ?_⟩)
 exact LvC.I (w := w) (fv := .nils) ((H3.nils (e := 3) (sz := 1)).sub (.cons e_1 (.cons e_1 (.cons .here (.refl)))))
theorem qJA {n : Nat} (hn : 3 ≤ n) {m : Int} (H : HS g h R) : wp (callT tab qy n (.fn 47 [] []) [.int .i64 m] h) fun v h' => ∃ q, v = .ptr q 0 ∧ HS g h' (LgC q (max 0 (min m 96)).toNat [([], [])] :: R) := by
 (refine qM (g := (tD1 S47)) rfl (by omega) fun k hk => ?_; show wp (S47 (callT tab qy k) _ _).1 _; unfold S47; try simp only [ Int.ofNat_eq_natCast])
 refine zr (zp (qq (YE (by omega) H) ?_))
 rintro _ h2 ⟨a, rfl, H2⟩
 refine qf (n := 1) (l := [.ptr a 0]) (sz := 1) H2 rfl rfl rfl rfl fun v h3 H3 => ?_
 have h1 := H3.one .here
 refine qF (l := [.int .i64 (max ((0 : Nat) : Int) (min m ((96 : Nat) : Int))), v]) (by simp only [ye, h1.1]; rfl) ?_
 refine qb H3 (by show (true && (v.one && true)) = true; rw [h1.2]; rfl) fun q h4 H4 => qW ⟨q, rfl, ?_⟩
 refine LgC.I1 (v := v) (a := a) (ps := []) rfl ?_
 rw [show (((max 0 (min m 96)).toNat : Nat) : Int) = max ((0 : Nat) : Int) (min m ((96 : Nat) : Int)) by omega]
 exact H4
theorem ZU {n q most : Nat} (hn : 2 ≤ n) {lv : List LvM} {b : Int} (H : HS g h (LgC q most lv :: R)) (O : OkL most lv) (hf : ∀ x ∈ lv, x.2.length < 1000000) :
  wp (callT tab qy n (.fn 241 [] []) [.ptr q 0, .int .i64 b] h) fun _ h' => HS g h' (LgC q most (kT lv b) :: R) := by
 cases lv with
 | nil => have := O.one; simp at this
 | cons x r =>
 (refine qM (g := (tD2 S241)) rfl (by omega) fun k hk => ?_; show wp (S241 (callT tab qy k) _ _ _).1 _; unfold S241; try simp only [ Int.ofNat_eq_natCast])
 obtain ⟨v, a, ps, e, H⟩ := LgC.E1 H
 rw [← e] at H
 refine qq (kr (by omega) H .here e_1 (by have := O.deep; simp at this; omega)) ?_
 rintro _ _ ⟨rfl, rfl⟩
 obtain ⟨w, fv, H2⟩ := LvC.E (H.sel e_2)
 with_reducible (refine qY ?_; refine qJ ?_; refine qG (by assumption) .here rfl ?_)
 refine qf (n := 1) (l := [.int .i64 b]) (sz := 1) H2 rfl rfl rfl rfl fun v3 h3 H3 => ?_
 have := hf x (List.mem_cons_self ..)
 refine jc (H3.sel (P := qA 3 1 x.2.length fv (x.2.map (.int .i64))) e_3) (H3.sl .here) (by omega) (by omega) rfl fun v4 h4 H4 => ?_
 refine qY ?_; refine qJ ?_
 refine qi H4 e_2 (H4.one .here) (by simp) fun h5 H5 => qW ?_
 refine LgC.I1 (v := v) (a := a) (ps := ps) e ?_
 rw [← e]
 have := LvC.I (a := a) (w := w) (fv := v4) (x := (x.1, x.2 ++ [b])) (R := qB q [.int .i64 (most : Int), v] :: qA 136 1 (ps.length + 1) v (zn (a :: ps)) :: (List.zipWith LvC ps r ++ R))
  (by rw [List.map_append, List.length_append]; exact H5.sub (.cons .here (.cons e_2 (.cons .here (.cons e_1 (.cons e_1 (.drop (.refl))))))))
 exact this.sub (.cons e_1 (.cons e_1 (.refl)))
theorem Mt {n q most : Nat} (hn : 1 ≤ n) {lv : List LvM} (H : HS g h (LgC q most lv :: R)) (O : OkL most lv) (hf : (xY lv).length < 1000000) :
  wp (callT tab qy n (.fn 70 [] []) [.ptr q 0] h) fun v h' => HS g h' (qA 3 1 (xY lv).length v ((xY lv).map (.int .i64)) :: LgC q most lv :: R) := by
 (refine qM (g := (tD1 S70)) rfl (by omega) fun k hk => ?_; show wp (S70 (callT tab qy k) _ _).1 _; unfold S70; try simp only [ Int.ofNat_eq_natCast])
 have hd := O.deep
 obtain ⟨v, ps, e, H⟩ := LgC.E H
 with_reducible (refine qY ?_; refine qJ ?_; refine qG (by assumption) .here rfl ?_; refine qa (by assumption) e_1 ?_)
 refine jz (fun m s h' => ∃ (i : Nat) (acc : AV), s = (.int .i64 (i : Int), .int .i64 (lv.length : Int), v, acc, ()) ∧ i ≤ lv.length ∧ m = lv.length - i ∧
  HS g h' (qA 3 1 ((lv.reverse.take i).flatMap (·.2)).length acc (((lv.reverse.take i).flatMap (·.2)).map (.int .i64)) :: qB q [.int .i64 (most : Int), v] :: qA 136 1 lv.length v (zn ps) :: (List.zipWith LvC ps lv ++ R)))
  ?_ (m := lv.length) (by have := O.deep; show _ < 1000000000; omega) ⟨0, .nils, rfl, by omega, by omega, H.nils⟩
 rintro m ih s h' hih ⟨i, acc, rfl, h1, rfl, H⟩
 dsimp only
 refine jU (fun hlt => qV ?_) fun hge => qQ (qj (qW ?_))
 ·have hi : i < lv.length := by omega
  have ha : ps[ps.length - 1 - i]? = some (ps[ps.length - 1 - i]'(by omega)) := List.getElem?_eq_getElem _
  have hx : lv[ps.length - 1 - i]? = some (lv[ps.length - 1 - i]'(by omega)) := List.getElem?_eq_getElem _
  generalize ps[ps.length - 1 - i]'(by omega) = a at ha
  have hx2 : lv.reverse[i]? = some (lv[ps.length - 1 - i]'(by omega)) := by rw [List.getElem?_reverse hi, ← hx, e]
  generalize lv[ps.length - 1 - i]'(by omega) = x at hx hx2
  refine jN (H.sl e_2) (by rw [JJ (by omega), ha]; rfl) ?_
  obtain ⟨T, s⟩ := Ja (R := R) ha hx
  have H2 := H.sel (.there (.there (.there s)))
  obtain ⟨w, fv, H3⟩ := LvC.E H2
  with_reducible (refine qY ?_; refine qJ ?_; refine qG (by assumption) .here rfl ?_)
  have hlen : ((lv.reverse.take i).flatMap (·.2)).length + x.2.length ≤ (xY lv).length := by
   have e1 : lv.reverse.flatMap (·.2) = (lv.reverse.take (i + 1)).flatMap (·.2) ++ (lv.reverse.drop (i + 1)).flatMap (·.2) := by rw [← List.flatMap_append, List.take_append_drop]
   unfold xY
   rw [e1, List.take_add_one, hx2]
   simp
  refine jc (H3.sel (P := qA 3 1 ((lv.reverse.take i).flatMap (·.2)).length acc (((lv.reverse.take i).flatMap (·.2)).map (.int .i64))) e_3) (H3.sl e_2) (by omega) (by omega) ?_ fun v4 h4 H4 => qE (by omega) ?_
  ·simp [jQ, AV.one]
  refine hih (lv.length - (i + 1)) _ _ (by omega) ⟨i + 1, v4, rfl, by omega, rfl, ?_⟩
  rw [List.take_add_one, hx2, Option.toList_some, List.flatMap_append, List.map_append, List.length_append, List.flatMap_cons, List.flatMap_nil, List.append_nil]
  have H5 := LvC.I (a := a) (w := w) (fv := fv) (x := x) (H4.sub (.cons e_1 (.cons e_1 (.cons e_1 .refl))))
  exact HS.unsel (.there (.there (.there s))) (H5.sub (.refl))
 ·obtain rfl : i = lv.length := by omega
  rw [List.take_of_length_le (by simp)] at H
  exact (LgC.I (v := v) (ps := ps) e (HS.back (A := _ :: _ :: List.zipWith LvC ps lv) H)).sub (.cons e_1 (.refl))
theorem rsum (l : List Nat) : l.reverse.sum = l.sum := by
 induction l with
 | nil => rfl
 | cons a l ih => rw [List.reverse_cons, List.sum_append, ih, List.sum_cons]; simp [Nat.add_comm]
theorem OC {n q most : Nat} (hn : 2 ≤ n) {lv : List LvM} (H : HS g h (LgC q most lv :: R)) (O : OkL most lv) :
  wp (callT tab qy n (.fn 239 [] []) [.ptr q 0] h) fun v h' => v = .int .i64 ((most : Int) - (xK lv : Int)) ∧ h' = h := by
 (refine qM (g := (tD1 S239)) rfl (by omega) fun k hk => ?_; show wp (S239 (callT tab qy k) _ _).1 _; unfold S239; try simp only [ Int.ofNat_eq_natCast])
 obtain ⟨v, ps, e, H⟩ := LgC.E H
 have hh := O.held
 have hl := O.le
 have hd := O.deep
 with_reducible (refine qY ?_; refine qJ ?_; refine qG (by assumption) .here rfl ?_; refine qY ?_; refine qJ ?_; refine qG (by assumption) .here rfl ?_; refine qa (by assumption) e_1 ?_)
 refine jz (fun m s h' => ∃ (i : Nat), s = (.int .i64 (i : Int), .int .i64 (lv.length : Int), v, .int .i64 ((most : Int) - (((lv.reverse.take i).map fun x => x.1.length).sum : Nat)), ()) ∧ i ≤ lv.length ∧ m = lv.length - i ∧ h' = h)
  ?_ (m := lv.length) (by show _ < 1000000000; omega) ⟨0, by simp, by omega, by omega, rfl⟩
 rintro m ih s h' hih ⟨i, rfl, h1, rfl, rfl⟩
 dsimp only
 have hsum : ∀ j, ((lv.reverse.take j).map fun x => x.1.length).sum + ((lv.reverse.drop j).map fun x => x.1.length).sum = xK lv := by
  intro j
  rw [← List.sum_append, ← List.map_append, List.take_append_drop, List.map_reverse, rsum]; rfl
 refine jU (fun hlt => qV ?_) fun hge => qQ (qj (qW ⟨?_, rfl⟩))
 ·have hi : i < lv.length := by omega
  have ha : ps[ps.length - 1 - i]? = some (ps[ps.length - 1 - i]'(by omega)) := List.getElem?_eq_getElem _
  have hx : lv[ps.length - 1 - i]? = some (lv[ps.length - 1 - i]'(by omega)) := List.getElem?_eq_getElem _
  generalize ps[ps.length - 1 - i]'(by omega) = a at ha
  have hx2 : lv.reverse[i]? = some (lv[ps.length - 1 - i]'(by omega)) := by rw [List.getElem?_reverse hi, ← hx, e]
  generalize lv[ps.length - 1 - i]'(by omega) = x at hx hx2
  refine jN (H.sl e_1) (by rw [JJ (by omega), ha]; rfl) ?_
  obtain ⟨T, s⟩ := Ja (R := R) ha hx
  obtain ⟨w, fv, H3⟩ := LvC.E (H.sel (.there (.there s)))
  with_reducible (refine qY ?_; refine qJ ?_; refine qG (by assumption) .here rfl ?_)
  refine qq (qQp (by omega) (H3.sel e_1)) ?_
  rintro _ _ ⟨rfl, rfl⟩
  have h2 := hsum i
  have h3 := hsum (i + 1)
  have h4 : ((lv.reverse.take (i + 1)).map fun x => x.1.length).sum = ((lv.reverse.take i).map fun x => x.1.length).sum + x.1.length := by
   rw [List.take_add_one, hx2, Option.toList_some, List.map_append, List.sum_append]; simp
  refine qc (by omega) (qE (by omega) (hih (lv.length - (i + 1)) _ _ (by omega) ⟨i + 1, ?_, by omega, rfl, rfl⟩))
  rw [h4]
  refine Prod.ext ?_ (Prod.ext rfl (Prod.ext rfl (Prod.ext ?_ rfl)))
  ·show AV.int _ _ = AV.int _ _
   congr 1
  ·show AV.int _ _ = AV.int _ _
   congr 1
   omega
 ·have h2 := hsum i
  rw [List.drop_of_length_le (by simp; omega)] at h2
  rw [show ((lv.reverse.take i).map fun x => x.1.length).sum = xK lv by simpa using h2]
theorem V8 {k b0 l : Nat} {v : AV} {ps : List Nat} {Inv : Nat → AH → Prop} {Fin : AH → Prop}
  (hrd : ∀ i h, Inv i h → h.at b0 0 = some v ∧ Sl (fun _ => True) h 1 ps.length v (zn ps))
  (hy : ∀ i a h, ps[i]? = some a → Inv i h → wp (callT tab qy k (.yield l) [.int .i64 ((ps.length - 1 - i : Nat) : Int), .ptr a 0] h) fun r h' => (r = .bool true ∧ Inv (i + 1) h') ∨ (r = .bool false ∧ Fin h'))
  (hl : ps.length < 1000000) (h0 : Inv 0 h) : wp (callT tab qy (k + 1) (.fn 150 [] [.ptr b0 0]) [.yield l] h) fun _ h' => Inv ps.length h' ∨ Fin h' := by
 refine qXT (g := (tD2 S150)) rfl (by omega) fun k' hk => ?_
 obtain rfl : k' = k := by omega
 show wp (S150 _ _ _ _) _
 unfold S150
 try simp only [iI, uU, Int.ofNat_eq_natCast]
 obtain ⟨r1, r2⟩ := hrd 0 h h0
 refine gv r1 (zq r2 (qc (by omega) ?_))
 refine jz (fun m s h' => ∃ i : Nat, s = (.int .i64 ((ps.length : Int) - ((1 : Nat) : Int) - (i : Int)), .ptr b0 0, .yield l, ()) ∧ i ≤ ps.length ∧ m = ps.length - i ∧ Inv i h') ?_ (m := ps.length) (by show _ < 1000000000; omega) ⟨0, by simp, by omega, by omega, h0⟩
 rintro m ih s h' hih ⟨i, rfl, h1, rfl, hI⟩
 dsimp only
 obtain ⟨r1, r2⟩ := hrd i h' hI
 refine xG (fun hlt => qV ?_) fun hge => qQ (qj (qW (.inl ?_)))
 ·have hi : i < ps.length := by omega
  have ha : ps[i]? = some ps[i] := List.getElem?_eq_getElem hi
  rw [show (ps.length : Int) - ((1 : Nat) : Int) - (i : Int) = ((ps.length - 1 - i : Nat) : Int) by omega]
  refine gv r1 (jN r2 (by rw [JJ (by omega), show ps.length - 1 - (ps.length - 1 - i) = i by omega, ha]; rfl) ?_)
  refine qq (hy i _ h' ha hI) ?_
  rintro _ h2 (⟨rfl, hI2⟩ | ⟨rfl, hF⟩)
  ·refine qn (qQ (qc (by omega) (hih (ps.length - (i + 1)) _ _ (by omega) ⟨i + 1, ?_, by omega, rfl, hI2⟩)))
   refine Prod.ext ?_ rfl
   show AV.int _ _ = AV.int _ _
   congr 1
   omega
  ·exact jj (qV (qj (qW (.inr hF))))
 ·obtain rfl : i = ps.length := by omega
  exact hI
theorem YT {p : Int} : ∀ {lv : List LvM}, (∀ (j : Nat) x, lv[j]? = some x → zB p x.1 = none) → kS p lv = none := by
 intro lv
 induction lv with
 | nil => intro _; rfl
 | cons x r ih =>
  intro h
  unfold kS
  rw [h 0 x rfl]
  exact ih fun j y hy => h (j + 1) y (by simpa using hy)
theorem YB {p v : Int} : ∀ {lv : List LvM} {i : Nat} {x : LvM}, (∀ j, j < i → ∀ x, lv[j]? = some x → zB p x.1 = none) → lv[i]? = some x → zB p x.1 = some v → kS p lv = some v := by
 intro lv
 induction lv with
 | nil => intro i x _ h; simp at h
 | cons y r ih =>
  intro i x h1 h2 h3
  unfold kS
  cases i with
  | zero => simp at h2; subst h2; rw [h3]
  | succ i =>
   rw [h1 0 (by omega) y rfl]
   exact ih (i := i) (x := x) (fun j hj z hz => h1 (j + 1) (by omega) z (by simpa using hz)) (by simpa using h2) h3
theorem OkL.len {most : Nat} {lv : List LvM} (O : OkL most lv) {x : LvM} (hx : x ∈ lv) : x.1.length ≤ 96 := by
 have h1 := O.held
 have h2 := O.le
 have : x.1.length ≤ xK lv := by
  clear h1 O
  induction lv with
  | nil => cases hx
  | cons y r ih =>
   rw [zz]
   rcases List.mem_cons.1 hx with rfl | hx
   ·omega
   ·have := ih hx; omega
 omega
theorem Jg {n : Nat} (hn : 1 ≤ n) {v : AV} (h1 : One v) (H : HS g h L) : wp (callT tab qy n (.fn 99 [] []) [v] h) fun r h' => ∃ b, r = .fn 150 [] [.ptr b 0] ∧ HS g h' (qB b [v] :: L) := by
 (refine qM (g := (tD1 S99)) rfl (by omega) fun k hk => ?_; show wp (S99 (callT tab qy k) _ _).1 _; unfold S99; try simp only [ Int.ofNat_eq_natCast])
 exact kO H h1 fun b h2 H2 => qW ⟨b, rfl, H2⟩
theorem qJ1 {n q most : Nat} (hn : 8 ≤ n) {lv : List LvM} {p : Int} (H : HS g h (LgC q most lv :: R)) (O : OkL most lv) :
  wp (callT tab qy n (.fn 157 [] []) [.ptr q 0, .int .i64 p] h) fun v h' => v = .tup [.int .u64 ((kS p lv).getD 0), .bool (kS p lv).isSome] ∧ HS g h' (LgC q most lv :: R) := by
 (refine qM (g := W157) rfl (by omega) fun k hk => ?_; show wp (S157 (callT tab qy k) _ _ _) _; unfold S157; try simp only [iI, uU, Int.ofNat_eq_natCast])
 obtain ⟨v, ps, e, H⟩ := LgC.E H
 have hd := O.deep
 refine kO H ⟨rfl, rfl⟩ fun b1 h1 H => kO H ⟨rfl, rfl⟩ fun b2 h2 H => kO H ⟨rfl, rfl⟩ fun b3 h3 H => ?_
 with_reducible (refine qY ?_; refine qJ ?_; refine qG (by assumption) e_3 rfl ?_)
 refine qq (Jg (by omega) (H.one e_4) H) ?_
 rintro _ h4 ⟨b4, rfl, H⟩
 have H5 := (H.newBlk .dfd).newBlk (.loop .ready none 157 [1, 0, 1, 0] [5, 4, 3] [.ptr b3 0, .ptr b2 0, .ptr b1 0] h4.nx)
 generalize (h4.new .dfd).nx = l at H5 ⊢
 generalize h4.nx = d at H5 ⊢
 obtain ⟨k2, rfl⟩ : ∃ k2, k = k2 + 1 := ⟨k - 1, by omega⟩
 refine UA (V8 (b0 := b4) (v := v) (ps := ps)
  (Inv := fun i h' => HS g h' (vi l (.loop .ready none 157 [1, 0, 1, 0] [5, 4, 3] [.ptr b3 0, .ptr b2 0, .ptr b1 0] d) :: vi d .dfd :: qB b4 [v] :: qB b3 [.bool false] :: qB b2 [.int .u64 ((0 : Nat) : Int)] :: qB b1 [.int .i64 p] ::
   qB q [.int .i64 (most : Int), v] :: qA 136 1 lv.length v (zn ps) :: (List.zipWith LvC ps lv ++ R)) ∧ ∀ j, j < i → ∀ x, lv[j]? = some x → zB p x.1 = none)
  (Fin := fun h' => ∃ x, kS p lv = some x ∧ HS g h' (vi l (.loop .done (some .ret) 157 [1, 0, 1, 0] [5, 4, 3] [.ptr b3 0, .ptr b2 0, .ptr b1 0] d) :: vi d .dfd :: qB b4 [v] :: qB b3 [.bool true] :: qB b2 [.int .u64 x] :: qB b1 [.int .i64 p] ::
   qB q [.int .i64 (most : Int), v] :: qA 136 1 lv.length v (zn ps) :: (List.zipWith LvC ps lv ++ R)))
  ?_ ?_ (by omega) ⟨H5, fun j hj => by omega⟩) ?_
 ·rintro i h' ⟨H, _⟩
  obtain ⟨et, A⟩ := H.obj (b := b4) e_2
  exact ⟨A.at 0, e ▸ H.sl e_7⟩
 ·rintro i a h' ha ⟨H, hno⟩
  have hi := (List.getElem?_eq_some_iff.1 ha).1
  have hx : lv[i]? = some (lv[i]'(by omega)) := List.getElem?_eq_getElem _
  have hm : lv[i]'(by omega) ∈ lv := List.getElem_mem _
  generalize lv[i]'(by omega) = x at hx hm
  have hxl := O.len hm
  refine Uj (H.blk .here) (w := V1) rfl (by omega) fun k3 hk3 => ?_
  show wp (B1 _ _ _ _ _ (.int .i64 ((ps.length - 1 - i : Nat) : Int)) _ _) _
  unfold B1
  try simp only [iI, uU, Int.ofNat_eq_natCast]
  refine Kk H .here fun h6 H => ?_
  obtain ⟨T, s⟩ := Ja (R := R) ha hx
  obtain ⟨w, fv, H7⟩ := LvC.E (H.sel (.there (.there (.there (.there (.there (.there (.there (.there s)))))))))
  with_reducible (refine qY ?_; refine qJ ?_; refine qG (by assumption) .here rfl ?_; refine qG (by assumption) e_8 rfl ?_)
  refine qq (Vr (by omega) (H7.sel e_1) (by omega)) ?_
  rintro _ h8 ⟨rfl, H8⟩
  with_reducible (refine qz rfl ?_; refine qz rfl ?_)
  cases hg : zB p x.1 with
  | none =>
   refine qQ (V6 H8 e_3 fun h9 H9 => .inl ⟨rfl, ?_, fun j hj y hy => ?_⟩)
   ·have H10 := LvC.I (a := a) (w := w) (fv := fv) (x := x) (H9.sub (.cons e_2 (.cons e_1 (.cons e_1 .refl))))
    exact HS.unsel (.there (.there (.there (.there (.there (.there (.there (.there s)))))))) (H10.sub (.refl))
   ·by_cases hj' : j < i
    ·exact hno j hj' y hy
    ·obtain rfl : j = i := by omega
     rw [hx] at hy; cases hy; exact hg
  | some z =>
   refine qV (qi H8 (b := b2) e_7 ⟨rfl, rfl⟩ (by simp) fun h9 H9 => qi H9 (b := b3) e_7 ⟨rfl, rfl⟩ (by simp) fun h10 H10 => qZ9 H10 e_5 fun h11 H11 => .inr ⟨rfl, z, YB hno hx hg, ?_⟩)
   have H12 := LvC.I (a := a) (w := w) (fv := fv) (x := x) (H11.sub (.cons e_4 (.cons e_3 (.cons e_3 .refl))))
   exact HS.unsel (.there (.there (.there (.there (.there (.there (.there (.there s)))))))) (H12.sub (.cons .here (.cons .here (.cons e_2 (.cons e_2 (.cons .here (.cons .here (.refl))))))))
 ·rintro _ h6 (⟨H, hno⟩ | ⟨x, hx, H⟩)
  ·have hg : kS p lv = none := YT fun j x hj => hno j (by have := (List.getElem?_eq_some_iff.1 hj).1; omega) x hj
   refine Gz H .here (fun h => by cases h) fun h7 H => Uk (qi H (b := b2) e_4 ⟨rfl, rfl⟩ (by simp) fun h8 H => qi H (b := b3) e_4 ⟨rfl, rfl⟩ (by simp) fun h9 H => Q7 H e_3 fun h10 H => ?_)
   with_reducible (refine qG (by assumption) e_2 rfl ?_; refine qG (by assumption) e_1 rfl ?_)
   refine qW ⟨by rw [hg]; rfl, ?_⟩
   exact LgC.I (v := v) (ps := ps) e (H.sub (.cons e_6 (.cons e_6 (.drop (.drop (.drop (.drop (.drop (.drop (.refl))))))))))
  ·refine Gz H .here (fun h => by cases h) fun h7 H => OS (qKN rfl (Q7 H e_1 fun h8 H => ?_))
   with_reducible (refine qG (by assumption) e_4 rfl ?_; refine qG (by assumption) e_3 rfl ?_)
   refine qW ⟨by rw [hx]; rfl, ?_⟩
   exact LgC.I (v := v) (ps := ps) e (H.sub (.cons e_6 (.cons e_6 (.drop (.drop (.drop (.drop (.drop (.drop (.refl))))))))))
theorem qKS {x : LvM} {r : List LvM} {most : Nat} {p v : Int} (O : OkL most (x :: r)) (hp : ¬ (p < 1 ∨ 256 ≤ p)) (hf : ¬ (zB p x.1 = none ∧ most ≤ xK (x :: r))) : kP 96 x.1 p v = (0, xv p v x.1) := by
 have h1 := O.held
 have h2 := O.le
 rw [zz] at h1 hf
 unfold kP
 rw [if_neg hp, if_neg (fun h => hf ⟨h.1, by omega⟩)]
theorem Vn {n q most : Nat} (hn : 5 ≤ n) {lv : List LvM} {p v : Int} (H : HS g h (LgC q most lv :: R)) (O : OkL most lv) :
  wp (callT tab qy n (.fn 194 [] []) [.ptr q 0, .int .i64 p, .int .u64 v] h) fun r h' => r = .int .i64 (xC most lv p v).1 ∧ HS g h' (LgC q most (xC most lv p v).2 :: R) := by
 cases lv with
 | nil => have := O.one; simp at this
 | cons x r =>
 have hxl := O.len (x := x) (List.mem_cons_self ..)
 (refine qM (g := (tD3 S194)) rfl (by omega) fun k hk => ?_; show wp (S194 (callT tab qy k) _ _ _ _).1 _; unfold S194; try simp only [ Int.ofNat_eq_natCast])
 unfold xC
 by_cases hp : p < 1 ∨ 256 ≤ p
 ·simp only [if_pos hp]
  repeat' (first | with_reducible refine qV ?_ | with_reducible refine qQ ?_ | (with_reducible refine qT ?_; try dsimp only) | (with_reducible refine qS ?_; try dsimp only) | (with_reducible refine qR ?_; try dsimp only) | (with_reducible refine qw ?_; try dsimp only) | (with_reducible refine jY ?_; try dsimp only) | with_reducible refine qC ?_ | with_reducible refine qx ?_ | (with_reducible refine qK ?_; try dsimp only) | with_reducible refine qj ?_ | with_reducible refine qn ?_ | with_reducible refine jj ?_ | with_reducible refine qE (by omega) ?_ | with_reducible refine qc (by omega) ?_ | with_reducible refine zh (by omega) ?_ | with_reducible refine zu (by omega) ?_ | with_reducible refine zr ?_ | with_reducible refine zp ?_ | with_reducible refine qg (by omega) ?_ | with_reducible refine qX (by omega) ?_ | with_reducible refine jG (by omega) ?_ | with_reducible refine qt (by omega) ?_ | with_reducible refine jw (by omega) ?_ | with_reducible refine jW (by omega) ?_ | with_reducible refine zf (by omega) ?_ | with_reducible refine zi (by omega) ?_ | with_reducible refine ji (by omega) ?_ | with_reducible refine ja (by omega) ?_ | with_reducible refine jZ (by omega) ?_ | with_reducible refine q8 (by omega) ?_ | with_reducible refine jU (fun hc => ?_) (fun hc => ?_) | with_reducible refine xV (fun hc => ?_) (fun hc => ?_) | with_reducible refine zO (fun hc => ?_) (fun hc => ?_) | with_reducible refine xG (fun hc => ?_) (fun hc => ?_) | with_reducible refine z7 (fun hc => ?_) (fun hc => ?_) | with_reducible refine zC (fun hc => ?_) (fun hc => ?_) | with_reducible refine z6 (fun hc => ?_) (fun hc => ?_))
  all_goals exact qW ⟨rfl, H⟩
 simp only [if_neg hp]
 with_reducible (refine jW (by omega) ?_; refine qK ?_; (try dsimp only); refine qw ?_; (try dsimp only); refine q8 (by omega) ?_; refine qx ?_; refine qQ ?_)
 have hH := H
 obtain ⟨sv, a, ps, e, H⟩ := LgC.E1 H
 rw [← e] at H
 refine qq (kr (by omega) H .here e_1 (by have := O.deep; simp at this; omega)) ?_
 rintro _ _ ⟨rfl, rfl⟩
 obtain ⟨w, fv, H2⟩ := LvC.E (H.sel e_2)
 with_reducible (refine qY ?_; refine qJ ?_; refine qG (by assumption) .here rfl ?_)
 refine qq (Vr (by omega) (H2.sel e_1) (by omega)) ?_
 rintro _ h3 ⟨rfl, H3⟩
 with_reducible (refine qz rfl ?_; refine qz rfl ?_)
 have H4 : HS g h3 (LgC q most (x :: r) :: R) := by
  have H4 := LvC.I (a := a) (w := w) (fv := fv) (x := x) (H3.sub (.cons e_1 (.cons .here .refl)))
  refine LgC.I1 (v := sv) (a := a) (ps := ps) e ?_
  rw [← e]
  exact H4.sub (.cons e_1 (.cons e_1 (.refl)))
 have fin : ¬ (zB p x.1 = none ∧ most ≤ xK (x :: r)) → ∀ h5, HS g h5 (WrC w 96 x.1 :: qB a [.ptr w 0, fv] :: qA 3 1 x.2.length fv (x.2.map (.int .i64)) :: qB q [.int .i64 (most : Int), sv] :: qA 136 1 (ps.length + 1) sv (zn (a :: ps)) :: (List.zipWith LvC ps r ++ R)) →
   wp (callT tab qy k (.fn 151 [] []) [.ptr w 0, .int .i64 p, .int .u64 v] h5) fun r' h' => r' = .int .i64 0 ∧ HS g h' (LgC q most ((xv p v x.1, x.2) :: r) :: R) := by
  intro hf h5 H5
  refine (Vp (by omega) H5 (by omega)).mono ?_
  rintro _ h6 ⟨rfl, H6⟩
  rw [qKS O hp hf] at H6 ⊢
  refine ⟨rfl, LgC.I1 (v := sv) (a := a) (ps := ps) e ?_⟩
  rw [← e]
  have H7 := LvC.I (a := a) (w := w) (fv := fv) (x := (xv p v x.1, x.2)) (H6.sub (.cons e_1 (.cons .here .refl)))
  exact H7.sub (.cons e_1 (.cons e_1 (.refl)))
 cases hg : zB p x.1 with
 | some z =>
  simp only [Option.isSome_some]
  with_reducible (refine qn ?_; refine qK ?_; (try dsimp only); refine qR ?_; (try dsimp only); refine qx ?_; refine qQ ?_)
  rw [if_neg (fun h => by cases h.1)]
  refine qq (fin (fun h => by rw [hg] at h; cases h.1) h3 (H3.sub (.refl))) ?_
  rintro _ h6 ⟨rfl, H6⟩
  exact qW ⟨rfl, H6⟩
 | none =>
  simp only [Option.isSome_none]
  with_reducible (refine jj ?_; refine qK ?_; (try dsimp only); refine qT ?_; (try dsimp only))
  refine qq (OC (by omega) H4 O) ?_
  rintro _ _ ⟨rfl, rfl⟩
  have hh := O.held
  refine z7 (fun h0 => ?_) fun h0 => ?_
  ·refine qC ?_; refine qV ?_
   rw [if_pos ⟨by trivial, by omega⟩]
   exact qW ⟨rfl, H4⟩
  ·refine qC ?_; refine qQ ?_
   rw [if_neg (fun h => h0 (by omega))]
   refine qq (fin (fun h => h0 (by omega)) _ (H3.sub (.refl))) ?_
   rintro _ h6 ⟨rfl, H6⟩
   exact qW ⟨rfl, H6⟩
theorem JY {most : Nat} {x : LvM} {r : List LvM} {p v : Int} : ∃ c, (xC most (x :: r) p v).2 = (c, x.2) :: r := by
 unfold xC
 dsimp only
 split
 ·exact ⟨x.1, rfl⟩
 ·split
  ·exact ⟨x.1, rfl⟩
  ·exact ⟨_, rfl⟩
theorem OR {n q most : Nat} (hn : 7 ≤ n) {lv : List LvM} {cs : List Cl} {c : AV} (H : HS g h (LgC q most lv :: R)) (O : OkL most lv) (S : Rd g R 2 cs.length c (cs.flatMap jk)) (hc : cs.length < 100000) :
  wp (callT tab qy n (.fn 158 [] []) [.ptr q 0, c] h) fun r h' => r = .int .i64 (xz most lv lv cs).1 ∧ HS g h' (LgC q most (xz most lv lv cs).2 :: R) := by
 cases lv with
 | nil => have := O.one; simp at this
 | cons x r =>
 have hxl := O.len (x := x) (List.mem_cons_self ..)
 have hxi := O.ins x (List.mem_cons_self ..)
 have hxu := O.un x (List.mem_cons_self ..)
 (refine qM (g := (tD2 S158)) rfl (by omega) fun k hk => ?_; show wp (S158 (callT tab qy k) _ _ _).1 _; unfold S158; try simp only [ Int.ofNat_eq_natCast])
 refine qq (Gc (m := 96) (by omega) (by omega) H) ?_
 rintro _ h1 ⟨w0, rfl, H1⟩
 obtain ⟨sv, a, ps, e, H2⟩ := LgC.E1 (H1.sel e_1)
 rw [← e] at H2
 refine qq (kr (by omega) H2 .here e_1 (by have := O.deep; simp at this; omega)) ?_
 rintro _ _ ⟨rfl, rfl⟩
 obtain ⟨w, fv, H3⟩ := LvC.E (H2.sel e_2)
 with_reducible (refine qY ?_; refine qJ ?_; refine qG (by assumption) .here rfl ?_)
 refine qq (Q2 (by omega) (H3.sel (P := WrC w 96 x.1) e_1) (by omega)) fun va h4 H4 => ?_
 refine qq (Qv (cs := x.1) (l := []) (m := 96) (w := w0) (by omega) (H4.sel (.there (.there (.there (.there (.there (.there (Sel.skip _ .here))))))))  (.own .here) (by simp) (by omega)) ?_
 rintro _ h5 ⟨_, H5⟩
 have ht : vF 96 [] x.1 = (0, x.1) := by
  unfold vF
  rw [Qn hxi (by simpa using hxl), Yu hxu, if_pos rfl]
 rw [ht] at H5
 have H6 : HS g h5 (LgC q most (x :: r) :: WrC w0 96 x.1 :: R) := by
  have H7 := LvC.I (a := a) (w := w) (fv := fv) (x := x) (H5.sub (.cons e_3 (.cons e_2 (.cons e_2 .refl))))
  refine LgC.I1 (v := sv) (a := a) (ps := ps) e ?_
  rw [← e]
  have H8 : HS g h5 (WrC w0 96 x.1 :: (qB q [.int .i64 (most : Int), sv] :: qA 136 1 (ps.length + 1) sv (zn (a :: ps)) :: LvC a x :: List.zipWith LvC ps r) ++ R) := H7.sub (.cons e_1 (.cons e_2 (.cons e_2 (.cons .here (.drop .refl)))))
  exact HS.back H8
 clear H1 H2 H3 H4 H5
 refine zq (S.sl H6.drop.drop) ?_
 refine jz (fun k s h' => ∃ (i : Nat) (c' : List Cl), s = (.int .i64 (i : Int), .int .i64 (cs.length : Int), c, .ptr w0 0, .ptr q 0, ()) ∧ i ≤ cs.length ∧ k = cs.length - i ∧ OkL most ((c', x.2) :: r) ∧
  HS g h' (LgC q most ((c', x.2) :: r) :: WrC w0 96 x.1 :: R) ∧ xz most (x :: r) (x :: r) cs = xz most (x :: r) ((c', x.2) :: r) (cs.drop i)) ?_ (m := cs.length) (by show _ < 1000000000; omega) ⟨0, x.1, rfl, by omega, by omega, O, H6, rfl⟩
 rintro k2 ih s h2 hih ⟨i, c', rfl, h1, rfl, O', H, hT⟩
 dsimp only
 refine jU (fun hlt => qV ?_) fun hge => qQ (qj (qW ?_))
 ·have hi : i < cs.length := by omega
  have hci : cs[i]? = some cs[i] := List.getElem?_eq_getElem hi
  refine zG (l := jk cs[i]) (S.sl H.drop.drop) hi (by omega) (Qg hci) ?_
  refine qb H rfl fun b h3 H3 => jq H3 .here rfl (by show 0 + 2 ≤ 2; omega) rfl fun h4 H4 => ?_
  have H5 : HS g h4 (qB b (jk cs[i]) :: LgC q most ((c', x.2) :: r) :: WrC w0 96 x.1 :: R) := H4
  unfold jk at H5
  with_reducible (refine qJ ?_; refine qG (by assumption) .here rfl ?_; refine qJ ?_; refine qG (by assumption) .here rfl ?_)
  refine qq (Vn (by omega) H5.drop O') ?_
  rintro _ h6 ⟨rfl, H6⟩
  rw [List.drop_eq_getElem_cons hi, xS] at hT
  have O2 := (JO (p := cs[i].1) (v := cs[i].2) O').1
  obtain ⟨c2, hc2⟩ := JY (most := most) (x := (c', x.2)) (r := r) (p := cs[i].1) (v := cs[i].2)
  refine zC (fun hne => qV ?_) fun he => qQ (qE (by omega) ?_)
  ·have hne : ¬ (xC most ((c', x.2) :: r) cs[i].1 cs[i].2).1 = 0 := by simpa using hne
   rw [if_neg hne] at hT
   rw [hc2] at H6
   obtain ⟨sv, a, ps, e, H7⟩ := LgC.E1 H6
   rw [← e] at H7
   refine qq (kr (by omega) H7 .here e_1 (by have := O.deep; simp at this; omega)) ?_
   rintro _ _ ⟨rfl, rfl⟩
   obtain ⟨w, fv, H8⟩ := LvC.E (H7.sel e_2)
   refine qY ?_; refine qJ ?_
   refine qi H8 .here ⟨rfl, rfl⟩ (by simp) fun h9 H9 => qj (qW ?_)
   rw [hT]
   refine ⟨rfl, LgC.I1 (v := sv) (a := a) (ps := ps) e ?_⟩
   rw [← e]
   obtain ⟨T, sT, uT⟩ : ∃ T, Sel (List.zipWith LvC ps r ++ WrC w0 96 x.1 :: R) (WrC w0 96 x.1) T ∧ T = List.zipWith LvC ps r ++ R := ⟨_, Sel.skip _ .here, rfl⟩
   subst uT
   have H10 := LvC.I (a := a) (w := w0) (fv := fv) (x := x) (H9.sub (.cons .here (.cons (.there (.there (.there (.there sT)))) (.cons e_1 (.drop .refl)))))
   exact H10.sub (.cons e_1 (.cons e_1 (.refl)))
  ·have he' : (xC most ((c', x.2) :: r) cs[i].1 cs[i].2).1 = 0 := by simpa using he
   rw [if_pos he', hc2] at hT
   rw [hc2] at H6 O2
   exact hih (cs.length - (i + 1)) _ _ (by omega) ⟨i + 1, c2, rfl, by omega, rfl, O2, H6, hT⟩
 ·rw [List.drop_of_length_le (by omega)] at hT
  have hT : xz most (x :: r) (x :: r) cs = (0, (c', x.2) :: r) := hT
  rw [hT]
  exact ⟨rfl, H.sub (.cons .here (.drop .refl))⟩
theorem XH (a : Nat) (ps : List Nat) : zn (a :: ps) = zn ps ++ [.ptr a 0] := by unfold zn; rw [List.reverse_cons, List.map_append]; rfl
theorem YN (ps : List Nat) : (zn ps).length = ps.length := by simp [zn]
theorem MS {n q most : Nat} (hn : 1 ≤ n) {lv : List LvM} (H : HS g h (LgC q most lv :: R)) :
  wp (callT tab qy n (.fn 71 [] []) [.ptr q 0] h) fun v h' => v = .int .i64 (lv.length : Int) ∧ h' = h := by
 (refine qM (g := (tD1 S71)) rfl (by omega) fun k hk => ?_; show wp (S71 (callT tab qy k) _ _).1 _; unfold S71; try simp only [ Int.ofNat_eq_natCast])
 obtain ⟨v, ps, e, H⟩ := LgC.E H
 with_reducible (refine qY ?_; refine qJ ?_; refine qG (by assumption) .here rfl ?_; refine qa (by assumption) e_1 ?_)
 exact qW ⟨rfl, rfl⟩
theorem Z7 {n q most : Nat} (hn : 3 ≤ n) {lv : List LvM} (H : HS g h (LgC q most lv :: R)) (O : OkL most lv) :
  wp (callT tab qy n (.fn 242 [] []) [.ptr q 0] h) fun v h' => v = .int .i64 (yW lv).1 ∧ HS g h' (LgC q most (yW lv).2 :: R) := by
 (refine qM (g := (tD1 S242)) rfl (by omega) fun k hk => ?_; show wp (S242 (callT tab qy k) _ _).1 _; unfold S242; try simp only [ Int.ofNat_eq_natCast])
 have hH := H
 obtain ⟨v, ps, e, H⟩ := LgC.E H
 unfold yW
 by_cases h6 : 6 ≤ lv.length
 ·rw [if_pos h6]
  with_reducible (refine qY ?_; refine qJ ?_; refine qG (by assumption) .here rfl ?_; refine qa (by assumption) e_1 ?_; refine jZ (by omega) ?_; refine qV ?_)
  exact qW ⟨rfl, hH⟩
 ·rw [if_neg h6]
  with_reducible (refine qY ?_; refine qJ ?_; refine qG (by assumption) .here rfl ?_; refine qa (by assumption) e_1 ?_; refine q8 (by omega) ?_; refine qQ ?_; refine qK ?_; (try dsimp only); refine qY ?_; refine qJ ?_; refine qG (by assumption) .here rfl ?_)
  refine qq (YE (by omega) H) ?_
  rintro _ h2 ⟨a, rfl, H2⟩
  refine qf (n := 1) (l := [.ptr a 0]) (sz := 1) H2 rfl rfl rfl rfl fun v3 h3 H3 => ?_
  refine jc (H3.sel e_3) (H3.sl .here) (by omega) (by omega) rfl fun v4 h4 H4 => ?_
  refine qY ?_; refine qJ ?_
  refine qi H4 (b := q) e_3 (H4.one .here) (by simp) fun h5 H5 => ?_
  with_reducible (refine je (by assumption) .here rfl (by assumption) e_1 rfl (HS.lt (by assumption) .here) ?_)
  refine qW ⟨rfl, LgC.I1 (v := v4) (a := a) (ps := ps) e ?_⟩
  rw [XH]
  exact H5.sub (.cons .here (.cons .here (.cons e_1 (.drop (.refl)))))
theorem Gt {n q : Nat} (hn : 1 ≤ n) {m v : AV} {a : Nat} {ps : List Nat} (h1 : 1 ≤ ps.length) (hl : ps.length < 1000) (H : HS g h (qB q [m, v] :: qA 136 1 (ps.length + 1) v (zn (a :: ps)) :: R)) :
  wp (callT tab qy n (.fn 203 [] []) [.ptr q 0] h) fun r h' => r = .int .i64 0 ∧ ∃ v', HS g h' (qB q [m, v'] :: qA 136 1 ps.length v' (zn ps) :: R) := by
 (refine qM (g := (tD1 S203)) rfl (by omega) fun k hk => ?_; show wp (S203 (callT tab qy k) _ _).1 _; unfold S203; try simp only [ Int.ofNat_eq_natCast])
 with_reducible (refine qY ?_; refine qJ ?_; refine qG (by assumption) .here rfl ?_; refine qa (by assumption) e_1 ?_; refine qX (by omega) ?_; refine qQ ?_; refine qY ?_; refine qJ ?_; refine qG (by assumption) .here rfl ?_; refine qY ?_; refine qJ ?_; refine qG (by assumption) .here rfl ?_; refine qa (by assumption) e_1 ?_; refine qc (by omega) ?_)
 rw [show ((ps.length + 1 : Nat) : Int) - ((1 : Nat) : Int) = ((ps.length : Nat) : Int) by omega]
 refine yj (H.sel e_1) (by omega) (by omega) fun v' H2 => ?_
 refine qY ?_; refine qJ ?_
 refine qi H2 (b := q) e_1 (H2.one .here) (by simp) fun h3 H3 => qW ⟨rfl, v', ?_⟩
 rw [XH, Nat.mul_one, ← YN ps, List.take_left, YN] at H3
 exact H3.sub (.cons .here (.refl))
theorem KP {n q most : Nat} (hn : 1 ≤ n) {lv : List LvM} (H : HS g h (LgC q most lv :: R)) (O : OkL most lv) :
  wp (callT tab qy n (.fn 203 [] []) [.ptr q 0] h) fun v h' => v = .int .i64 (vz lv).1 ∧ HS g h' (LgC q most (vz lv).2 :: R) := by
 unfold vz
 by_cases h1 : lv.length = 1
 ·rw [if_pos h1]
  (refine qM (g := (tD1 S203)) rfl (by omega) fun k hk => ?_; show wp (S203 (callT tab qy k) _ _).1 _; unfold S203; try simp only [ Int.ofNat_eq_natCast])
  have hH := H
  obtain ⟨v, ps, e, H⟩ := LgC.E H
  with_reducible (refine qY ?_; refine qJ ?_; refine qG (by assumption) .here rfl ?_; refine qa (by assumption) e_1 ?_; refine qg (by omega) ?_; refine qV ?_)
  exact qW ⟨rfl, hH⟩
 ·rw [if_neg h1]
  cases lv with
  | nil => have := O.one; simp at this
  | cons x r =>
  have hd := O.deep
  simp at h1 hd
  have h1' : 1 ≤ r.length := by cases r with | nil => simp at h1 | cons _ _ => simp
  obtain ⟨v, a, ps, e, H⟩ := LgC.E1 H
  rw [← e] at H
  refine (Gt hn (by omega) (by omega) H).mono ?_
  rintro _ h2 ⟨rfl, v', H2⟩
  refine ⟨rfl, LgC.I (v := v') (ps := ps) e ?_⟩
  show HS g h2 (_ :: qA 136 1 r.length v' _ :: (List.zipWith LvC ps r ++ R))
  rw [← e]
  exact H2.sub (.cons .here (.cons .here (.drop .refl)))
theorem OD {n q most : Nat} (hn : 6 ≤ n) {lv : List LvM} (H : HS g h (LgC q most lv :: R)) (O : OkL most lv) (hf : ∀ x ∈ lv, x.2.length < 1000000) :
  wp (callT tab qy n (.fn 201 [] []) [.ptr q 0] h) fun v h' => v = .int .i64 (vN lv).1 ∧ HS g h' (LgC q most (vN lv).2 :: R) := by
 rcases lv with _ | ⟨x, _ | ⟨y, r⟩⟩
 ·have := O.one; simp at this
 ·
  (refine qM (g := (tD1 S201)) rfl (by omega) fun k hk => ?_; show wp (S201 (callT tab qy k) _ _).1 _; unfold S201; try simp only [ Int.ofNat_eq_natCast])
  obtain ⟨v, a, ps, e, H2⟩ := LgC.E1 H
  rw [← e] at H2
  refine qq (kr (by omega) H2 .here e_1 (by simp at e; simp [e])) ?_
  rintro _ _ ⟨rfl, rfl⟩
  refine qq (KP (by omega) H O) ?_
  rintro _ h3 ⟨rfl, H3⟩
  rw [show vz [x] = (10, [x]) from rfl] at H3 ⊢
  with_reducible (refine jG (by omega) ?_; refine qV ?_)
  exact qW ⟨rfl, H3⟩
 ·
  have hx := hf x (by simp)
  have hy := hf y (by simp)
  have hxi := O.ins x (by simp)
  have hd := O.deep
  have hh := O.held
  have hle := O.le
  rw [zz, zz] at hh
  simp at hd
  (refine qM (g := (tD1 S201)) rfl (by omega) fun k hk => ?_; show wp (S201 (callT tab qy k) _ _).1 _; unfold S201; try simp only [ Int.ofNat_eq_natCast])
  obtain ⟨v, a, ps, e, H2⟩ := LgC.E1 H
  rw [← e] at H2
  refine qq (kr (by omega) H2 .here e_1 (by simp at e; omega)) ?_
  rintro _ _ ⟨rfl, rfl⟩
  simp at e
  refine qq (Gt (by omega) (by omega) (by omega) H2) ?_
  rintro _ h3 ⟨rfl, v', H3⟩
  cases ps with
  | nil => simp at e
  | cons b ps =>
  simp at e
  with_reducible (refine qt (by omega) ?_; refine qQ ?_)
  refine qq (kr (by omega) H3 .here e_1 (by omega)) ?_
  rintro _ _ ⟨rfl, rfl⟩
  have H4 : HS g _ (LvC b y :: LvC a x :: qB q [.int .i64 (most : Int), v'] :: qA 136 1 (ps.length + 1) v' (zn (b :: ps)) :: (List.zipWith LvC ps r ++ R)) := H3.sub (.cons e_3 (.cons e_2 (.cons .here (.cons .here .refl))))
  obtain ⟨w1, f1, H4⟩ := LvC.E H4
  obtain ⟨w2, f2, H5⟩ := LvC.E (H4.sel e_3)
  with_reducible (refine qY ?_; refine qJ ?_; refine qG (by assumption) e_3 rfl ?_; refine qY ?_; refine qJ ?_; refine qG (by assumption) .here rfl ?_)
  refine jc (H5.sel e_5) (H5.sl e_2) (by omega) (by omega) ?_ fun v6 h6 H6 => ?_
  ·simp [jQ, AV.one]
  refine qY ?_; refine qJ ?_
  refine qi H6 (b := b) e_4 (H6.one .here) (by simp) fun h7 H7 => ?_
  simp only [List.set_cons_zero, List.set_cons_succ] at H7
  with_reducible (refine qK ?_; (try dsimp only); refine qY ?_; refine qJ ?_; refine qG (by assumption) .here rfl ?_; refine qY ?_; refine qJ ?_; refine qG (by assumption) e_2 rfl ?_)
  refine qq (Q2 (by omega) (H7.sel (P := WrC w2 96 x.1) e_3) (by omega)) fun v8 h8 H8 => ?_
  refine qq (Qv (cs := x.1) (l := y.1) (m := 96) (w := w1) (by omega) (H8.sel (P := WrC w1 96 y.1) e_6) (.own .here) (by omega) (by omega)) ?_
  rintro _ h9 ⟨rfl, H9⟩
  have ht : vF 96 y.1 x.1 = (0, xX y.1 x.1) := by
   unfold vF
   rw [Qn hxi (by omega), if_pos rfl]
  rw [ht] at H9 ⊢
  with_reducible (refine je (by assumption) .here rfl (by assumption) e_2 rfl (HS.lt (by assumption) .here) ?_)
  refine qW ⟨rfl, LgC.I1 (v := v') (a := b) (ps := ps) (by omega) ?_⟩
  show HS g h9 (_ :: qA 136 1 (r.length + 1) v' _ :: _)
  rw [← e]
  have H10 := LvC.I (a := b) (w := w1) (fv := v6) (x := (xX y.1 x.1, y.2 ++ x.2)) (R := qB q [.int .i64 (most : Int), v'] :: qA 136 1 (ps.length + 1) v' (zn (b :: ps)) :: (List.zipWith LvC ps r ++ R))
   (by rw [List.map_append, List.length_append]; exact H9.sub (.cons e_3 (.cons .here (.cons e_2 (.cons e_4 (.cons e_4 (.drop (.drop (.drop (.drop (.refl)))))))))))
  exact H10.sub (.cons e_1 (.cons e_1 (.refl)))
theorem Xe : ∀ (lv : List LvM) (out : List Cl), (lv.foldl (fun out x => xX x.1 out) out).length ≤ out.length + xK lv := by
 intro lv
 induction lv with
 | nil => intro out; simp
 | cons x r ih =>
  intro out
  have h1 := ih (xX x.1 out)
  have h2 := Qw (cs := out) (l := x.1)
  rw [List.foldl_cons, zz]
  omega
theorem MN : ∀ (lv : List LvM) (out : List Cl), InC out → (∀ x ∈ lv, InC x.1) → InC (lv.foldl (fun out x => xX x.1 out) out) := by
 intro lv
 induction lv with
 | nil => intro out h _; exact h
 | cons x r ih => intro out h hx; exact ih _ ((hx x (List.mem_cons_self ..)).puts h) fun y hy => hx y (List.mem_cons_of_mem _ hy)
theorem NZ (l1 l2 : List LvM) : xK (l1 ++ l2) = xK l1 + xK l2 := by simp [xK]
theorem Mk {n q most : Nat} (hn : 9 ≤ n) {lv : List LvM} (H : HS g h (LgC q most lv :: R)) (O : OkL most lv) :
  wp (callT tab qy n (.fn 69 [] []) [.ptr q 0] h) fun v h' => HS g h' (qA 67 2 (jE lv).length v ((jE lv).flatMap jk) :: LgC q most lv :: R) := by
 (refine qM (g := W69) rfl (by omega) fun k hk => ?_; show wp (S69 (callT tab qy k) _ _) _; unfold S69; try simp only [iI, uU, Int.ofNat_eq_natCast])
 obtain ⟨v, ps, e, H⟩ := LgC.E H
 have hd := O.deep
 have hle := O.le
 have hhe := O.held
 refine kO (H.nils (e := 67) (sz := 2)) ⟨rfl, rfl⟩ fun b1 h1 H => ?_
 with_reducible (refine qY ?_; refine qJ ?_; refine qG (by assumption) e_2 rfl ?_)
 refine qq (Jg (by omega) (H.one e_3) H) ?_
 rintro _ h4 ⟨b4, rfl, H⟩
 have H5 := (H.newBlk .dfd).newBlk (.loop .ready none 69 [1, 1, 0, 1, 0] [3] [.ptr b1 0] h4.nx)
 generalize (h4.new .dfd).nx = l at H5 ⊢
 generalize h4.nx = d at H5 ⊢
 obtain ⟨k2, rfl⟩ : ∃ k2, k = k2 + 1 := ⟨k - 1, by omega⟩
 refine UA (V8 (b0 := b4) (v := v) (ps := ps)
  (Inv := fun i h' => ∃ ov, HS g h' (vi l (.loop .ready none 69 [1, 1, 0, 1, 0] [3] [.ptr b1 0] d) :: vi d .dfd :: qB b4 [v] :: qB b1 [ov] :: qA 67 2 (jE (lv.take i)).length ov ((jE (lv.take i)).flatMap jk) ::
   qB q [.int .i64 (most : Int), v] :: qA 136 1 lv.length v (zn ps) :: (List.zipWith LvC ps lv ++ R)))
  (Fin := fun _ => False) ?_ ?_ (by omega) ⟨.nils, H5⟩) ?_
 ·rintro i h' ⟨ov, H⟩
  obtain ⟨et, A⟩ := H.obj (b := b4) e_2
  exact ⟨A.at 0, e ▸ H.sl e_6⟩
 ·rintro i a h' ha ⟨ov, H⟩
  have hi := (List.getElem?_eq_some_iff.1 ha).1
  have hx : lv[i]? = some (lv[i]'(by omega)) := List.getElem?_eq_getElem _
  have hm : lv[i]'(by omega) ∈ lv := List.getElem_mem _
  generalize lv[i]'(by omega) = x at hx hm
  have hxl := O.len hm
  have hxi := O.ins x hm
  have hxu := O.un x hm
  have hml : (jE (lv.take i)).length + x.1.length ≤ 96 := by
   have h1 := Xe (lv.take i) []
   have h2 : xK lv = xK (lv.take i) + (x.1.length + xK (lv.drop (i + 1))) := by
    rw [← zz, ← NZ]
    congr 1
    have h3 : lv.drop i = x :: lv.drop (i + 1) := by
     have hi' : i < lv.length := by omega
     rw [List.drop_eq_getElem_cons hi']
     rw [List.getElem?_eq_getElem hi'] at hx
     rw [Option.some.inj hx]
    rw [← h3, List.take_append_drop]
   unfold jE
   simp at h1
   omega
  have hmi : InC (jE (lv.take i)) := MN _ _ (fun c hc => by cases hc) fun y hy => O.ins y (List.mem_of_mem_take hy)
  have hms : jE (lv.take (i + 1)) = xX x.1 (jE (lv.take i)) := by
   unfold jE
   rw [List.take_add_one, hx, Option.toList_some, List.foldl_append]; rfl
  refine Uj (H.blk .here) (w := V0) rfl (by omega) fun k3 hk3 => ?_
  show wp (B0 _ _ _ (.int .i64 ((ps.length - 1 - i : Nat) : Int)) _ _) _
  unfold B0
  try simp only [iI, uU, Int.ofNat_eq_natCast]
  refine Kk H .here fun h6 H => ?_
  refine qq (Gc (m := 96) (by omega) (by omega) H) ?_
  rintro _ h7 ⟨w0, rfl, H⟩
  obtain ⟨T, s⟩ := Ja (R := R) ha hx
  obtain ⟨w, fv, H7⟩ := LvC.E (H.sel (.there (.there (.there (.there (.there (.there (.there (.there s)))))))))
  with_reducible (refine qY ?_; refine qJ ?_; refine qG (by assumption) .here rfl ?_)
  refine qq (Q2 (by omega) (H7.sel (P := WrC w 96 x.1) e_1) (by omega)) fun va h8 H8 => ?_
  refine qq (Qv (cs := x.1) (l := []) (m := 96) (w := w0) (by omega) (H8.sel (P := WrC w0 96 []) e_4) (.own .here) (by simp) (by omega)) ?_
  rintro _ h9 ⟨_, H9⟩
  have ht : vF 96 [] x.1 = (0, x.1) := by
   unfold vF
   rw [Qn hxi (by simpa using hxl), Yu hxu, if_pos rfl]
  rw [ht] at H9
  dsimp only at H9
  with_reducible (refine qG (by assumption) e_8 rfl ?_)
  have ht2 : vF 96 x.1 (jE (lv.take i)) = (0, xX x.1 (jE (lv.take i))) := by
   unfold vF
   rw [Qn hmi (by omega), if_pos rfl]
  have S2 : Rd g _ 2 (jE (lv.take i)).length ov ((jE (lv.take i)).flatMap jk) := H9.drop.rd (L := qA 67 2 x.1.length va (x.1.flatMap jk) :: WrC w 96 x.1 :: qB a [.ptr w 0, fv] :: qA 3 1 x.2.length fv (x.2.map (.int .i64)) ::
   vi l (.loop .busy none 69 [1, 1, 0, 1, 0] [3] [.ptr b1 0] d) :: vi d .dfd :: qB b4 [v] :: qB b1 [ov] :: qA 67 2 (jE (lv.take i)).length ov ((jE (lv.take i)).flatMap jk) ::
   qB q [.int .i64 (most : Int), v] :: qA 136 1 lv.length v (zn ps) :: T) e_8
  refine qq (Qv (by omega) H9 S2 (by omega) (by omega)) ?_
  rintro _ h10 ⟨_, H10⟩
  rw [ht2] at H10
  dsimp only at H10
  have hpl := Qw (cs := jE (lv.take i)) (l := x.1)
  refine qq (Q2 (by omega) H10 (by omega)) fun vb h11 H11 => ?_
  refine qi H11 (b := b1) e_9 (H11.one .here) (by simp) fun h12 H12 => V6 H12 e_7 fun h13 H13 => .inl ⟨rfl, vb, ?_⟩
  rw [hms]
  have H14 := LvC.I (a := a) (w := w) (fv := fv) (x := x) (R := vi l (.loop .ready none 69 [1, 1, 0, 1, 0] [3] [.ptr b1 0] d) :: vi d .dfd :: qB b4 [v] :: qB b1 [vb] ::
   qA 67 2 (xX x.1 (jE (lv.take i))).length vb ((xX x.1 (jE (lv.take i))).flatMap jk) :: qB q [.int .i64 (most : Int), v] :: qA 136 1 lv.length v (zn ps) :: T) (H13.sub (.cons e_6 (.cons e_5 (.cons e_5 (.cons .here (.cons e_4 (.cons e_4 (.cons .here (.cons .here (.cons e_3 (.cons e_3 (.drop (.drop (.drop (.refl)))))))))))))))
  exact HS.unsel (.there (.there (.there (.there (.there (.there (.there s))))))) H14
 ·rintro _ h6 (⟨ov, H⟩ | hF)
  ·rw [List.take_of_length_le (by omega)] at H
   refine Gz H .here (fun h => by cases h) fun h7 H => Uk ?_
   with_reducible (refine qG (by assumption) e_3 rfl ?_)
   refine Q7 H e_1 fun h10 H => qW ?_
   exact (LgC.I (v := v) (ps := ps) e (HS.back (A := _ :: _ :: List.zipWith LvC ps lv) (H.sub (L' := qA 67 2 (jE lv).length ov ((jE lv).flatMap jk) :: qB q [.int .i64 (most : Int), v] ::
    qA 136 1 lv.length v (zn ps) :: (List.zipWith LvC ps lv ++ R)) (.cons e_4 (.cons e_4 (.cons e_4 (.drop (.drop (.drop (.drop (.refl))))))))))).sub (.cons e_1 (.refl))
  ·exact hF.elim
end Go.Proofs.YtdlfmpmpmkffjaaGreatDoor
namespace Go.Proofs.YtdlfmpmpmkffjaaGreatDoor
open Go Go.Ae
set_option maxRecDepth 100000
variable {g h : AH} {L R : List SP}
structure VM where
  sz : Nat
  K : List Cl
  most : Nat
  lv : List LvM
  need : Int
structure OkV (M : VM) : Prop where
  lo : 32 ≤ M.sz
  hi : M.sz ≤ 256
  lvs : OkL M.most M.lv
  ins : ∀ c ∈ M.K, 1 ≤ c.1 ∧ c.1 < M.sz
  un : UnC M.K
  fr : ∀ x ∈ M.lv, x.2.length < 100000
def gk (M : VM) (p x : Int) : Int × VM :=
 if 1 ≤ p ∧ p < M.sz then match zB p M.K with
  | some y => (if y = x then 0 else 14, M)
  | none => (0, { M with K := M.K ++ [(p, x)] })
 else (2, M)
def qP (M : VM) (p : Int) : (Int × Int) × VM :=
 if 1 ≤ p ∧ p < M.sz then match kS p M.lv with
  | some x => ((x, 0), M)
  | none => match zB p M.K with
   | some x => ((x, 0), M)
   | none => ((0, 11), { M with need := p })
 else ((0, 2), M)
def jT (M : VM) (cs : List Cl) : Int × VM :=
 if ∀ c ∈ cs, 1 ≤ c.1 ∧ c.1 < M.sz then ((xz M.most M.lv M.lv cs).1, { M with lv := (xz M.most M.lv M.lv cs).2 }) else (2, M)
def freeV (M : VM) (b : Int) : VM := { M with lv := kT M.lv b }
def zd (M : VM) : Int × VM := ((yW M.lv).1, { M with lv := (yW M.lv).2 })
def zZ (M : VM) : Int × VM := ((vz M.lv).1, { M with lv := (vz M.lv).2 })
def yZ (M : VM) : Int × VM := ((vN M.lv).1, { M with lv := (vN M.lv).2 })
theorem Uv : ∀ (n : Nat) (l : List Int), l.Nodup → (∀ x ∈ l, 0 ≤ x ∧ x < n) → l.length ≤ n := by
 intro n
 induction n with
 | zero =>
  intro l _ h
  cases l with
  | nil => exact Nat.le_refl _
  | cons x l => have := h x (List.mem_cons_self ..); omega
 | succ n ih =>
  intro l hd h
  by_cases hx : (n : Int) ∈ l
  ·have := ih (l.erase n) (hd.erase _) (fun x hx' => by
    have h1 := h x (List.mem_of_mem_erase hx')
    have h2 : x ≠ n := by rintro rfl; exact (List.Nodup.not_mem_erase hd) hx'
    omega)
   rw [List.length_erase_of_mem hx] at this
   omega
  ·have := ih l hd (fun x hx' => by
    have h1 := h x hx'
    have h2 : x ≠ n := by rintro rfl; exact hx hx'
    omega)
   omega
theorem OkV.klen {M : VM} (O : OkV M) : M.K.length ≤ 256 := by
 have hu : (M.K.map (·.1)).Nodup := O.un
 have := Uv M.sz _ hu (fun x hx => by
  obtain ⟨c, hc, rfl⟩ := List.mem_map.1 hx
  have := O.ins c hc
  omega)
 rw [List.length_map] at this
 have := O.hi
 omega
def wO (f : Int × Bool) : List AV := [.int .u64 f.1, .bool f.2]
def vw (K : List Cl) (i : Nat) : Int × Bool := match zB (i : Int) K with | some x => (x, true) | none => (0, false)
def xT (sz : Nat) (K : List Cl) : List (Int × Bool) := (List.range sz).map (vw K)
theorem wI (sz : Nat) (K : List Cl) : (xT sz K).length = sz := by simp [xT]
theorem wD {sz : Nat} {K : List Cl} {i : Nat} (hi : i < sz) : (xT sz K)[i]? = some (vw K i) := by simp [xT, List.getElem?_range hi]
theorem JS {α : Type} {sz : Nat} {enc : α → List AV} (he : ∀ a, (enc a).length = sz) {l : List α} {i : Nat} {a : α} (h : l[i]? = some a) : ((l.flatMap enc).drop (i * sz)).take sz = enc a := by
 obtain ⟨hi, e⟩ := List.getElem?_eq_some_iff.1 h
 rw [vm (sz := sz) enc he, List.drop_eq_getElem_cons hi, e, List.flatMap_cons, ← he a, List.take_left]
theorem qJp {α : Type} {sz : Nat} {enc : α → List AV} (he : ∀ a, (enc a).length = sz) {l : List α} {i : Nat} {a : α} (hi : i < l.length) : vU (l.flatMap enc) (i * sz) (enc a) = (l.set i a).flatMap enc := by
 have h1 : (l.flatMap enc).take (i * sz) = (l.take i).flatMap enc := by
  have e1 : l.flatMap enc = (l.take i).flatMap enc ++ (l.drop i).flatMap enc := by rw [← List.flatMap_append, List.take_append_drop]
  have e2 : ((l.take i).flatMap enc).length = i * sz := by rw [yV (sz := sz) enc he, List.length_take, Nat.min_eq_left (by omega)]
  rw [e1, ← e2, List.take_left]
 have h2 : (l.flatMap enc).drop (i * sz + sz) = (l.drop (i + 1)).flatMap enc := by
  rw [show i * sz + sz = (i + 1) * sz by rw [Nat.add_mul, Nat.one_mul], vm (sz := sz) enc he]
 unfold vU
 rw [he, h1, h2, List.set_eq_take_append_cons_drop, if_pos hi, List.flatMap_append, List.flatMap_cons, List.append_assoc]
theorem Mv {α : Type} {enc : α → List AV} {a : α} : ∀ n, yv (enc a) n = (List.replicate n a).flatMap enc := by
 intro n
 induction n with
 | zero => rfl
 | succ n ih => rw [yv, ih, List.replicate_succ, List.flatMap_cons]
theorem VQ (sz : Nat) : xT sz [] = List.replicate sz (0, false) := by
 unfold xT
 rw [show vw [] = fun _ => ((0, false) : Int × Bool) from rfl, List.map_const', List.length_range]
theorem Ud {sz : Nat} {K : List Cl} {i : Nat} {x : Int} (hi : i < sz) (hn : zB (i : Int) K = none) : xT sz (K ++ [((i : Int), x)]) = (xT sz K).set i (x, true) := by
 have e : ∀ j : Nat, zB (j : Int) (K ++ [((i : Int), x)]) = if j = i then some x else zB (j : Int) K := by
  intro j
  rw [← gt hn, Uq]
  by_cases h : j = i
  ·rw [if_pos h, if_pos (by rw [h])]
  ·rw [if_neg h, if_neg (by omega)]
 apply List.ext_getElem?
 intro j
 rw [List.getElem?_set, wI]
 by_cases hj : j < sz
 ·rw [wD hj]
  by_cases h : i = j
  ·subst h; rw [if_pos rfl, if_pos hi]; unfold vw; rw [e, if_pos rfl]
  ·rw [if_neg h, wD hj]; unfold vw; rw [e, if_neg (by omega)]
 ·rw [List.getElem?_eq_none (by rw [wI]; omega), if_neg (by omega), List.getElem?_eq_none (by rw [wI]; omega)]
def ViewC (v : Nat) (M : VM) : SP := .ex fun fv => .ex fun ov => .ex fun q => .ex fun e => .all [qB v [fv, ov, .ptr q 0, .int .i64 M.need], qA e 2 M.sz fv ((xT M.sz M.K).flatMap wO),
 qA 3 1 M.K.length ov (M.K.map fun c => .int .i64 c.1), LgC q M.most M.lv]
theorem ViewC.E {v : Nat} {M : VM} (H : HS g h (ViewC v M :: R)) : ∃ fv ov q e, HS g h (qB v [fv, ov, .ptr q 0, .int .i64 M.need] :: qA e 2 M.sz fv ((xT M.sz M.K).flatMap wO) ::
  qA 3 1 M.K.length ov (M.K.map fun c => .int .i64 c.1) :: LgC q M.most M.lv :: R) := by
 obtain ⟨fv, H⟩ := H.exE
 obtain ⟨ov, H⟩ := H.exE
 obtain ⟨q, H⟩ := H.exE
 obtain ⟨e, H⟩ := H.exE
 exact ⟨fv, ov, q, e, H.allE⟩
theorem ViewC.I {v : Nat} {M : VM} {fv ov : AV} {q : Nat} {e : TypeId} (H : HS g h (qB v [fv, ov, .ptr q 0, .int .i64 M.need] :: qA e 2 M.sz fv ((xT M.sz M.K).flatMap wO) ::
  qA 3 1 M.K.length ov (M.K.map fun c => .int .i64 c.1) :: LgC q M.most M.lv :: R)) : HS g h (ViewC v M :: R) :=
 HS.exI fv (HS.exI ov (HS.exI q (HS.exI e (HS.allI H))))
def szZ (n : Int) : Nat := (max 32 (min n 256)).toNat
theorem Zh (n : Int) : 32 ≤ szZ n ∧ szZ n ≤ 256 := by unfold szZ; omega
def wa (words most : Int) : VM := ⟨szZ words, [], (max 0 (min most 96)).toNat, [([], [])], 0⟩
theorem qZa {m : Nat} (hm : m ≤ 96) : OkL m [([], [])] := ⟨by simp [xK], hm, by intro x hx; simp at hx; subst hx; intro c hc; simp at hc, by intro x hx; simp at hx; subst hx; exact List.nodup_nil, by simp, by simp⟩
theorem qZu (words most : Int) : OkV (wa words most) :=
 ⟨(Zh _).1, (Zh _).2, qZa (by show (max 0 (min most 96)).toNat ≤ 96; omega), by intro c hc; simp [wa] at hc, List.nodup_nil, by intro x hx; simp [wa] at hx; subst hx; simp⟩
theorem qQo {n : Nat} (hn : 4 ≤ n) {w m : Int} (H : HS g h R) : wp (callT tab qy n (.fn 11 [] []) [.int .i64 w, .int .i64 m] h) fun r h' => ∃ v, r = .ptr v 0 ∧ HS g h' (ViewC v (wa w m) :: R) := by
 (refine qM (g := (tD2 S11)) rfl (by omega) fun k hk => ?_; show wp (S11 (callT tab qy k) _ _ _).1 _; unfold S11; try simp only [ Int.ofNat_eq_natCast])
 refine zr (zp ?_)
 have hb := Zh w
 rw [show max ((32 : Nat) : Int) (min w ((256 : Nat) : Int)) = ((szZ w : Nat) : Int) by unfold szZ; omega]
 refine Xs (sz := 2) H rfl (Nat.le_refl _) (by omega) fun fv h2 H2 => ?_
 refine qq (qJA (by omega) H2) ?_
 rintro _ h3 ⟨q, rfl, H3⟩
 have h1 := H3.one e_1
 refine qF (l := [fv, .nils, .ptr q 0, .int .i64 0]) (by unfold ye; rw [h1.1]; rfl) ?_
 refine qb H3 (by show (fv.one && (true && (true && (true && true)))) = true; rw [h1.2]; rfl) fun v h4 H4 => qW ⟨v, rfl, ?_⟩
 rw [List.take_of_length_le (by rw [yY]; exact Nat.le_refl _), show yv [AV.int .u64 ((0 : Nat) : Int), AV.bool false] (szZ w) = (xT (szZ w) []).flatMap wO by rw [VQ, ← Mv]; rfl] at H4
 exact ViewC.I (M := wa w m) ((H4.nils (e := 3) (sz := 1)).sub (.cons e_1 (.cons e_2 (.cons .here (.cons .here (.refl))))))
theorem J4 {n : Nat} (hn : 1 ≤ n) {v : Nat} {M : VM} (H : HS g h (ViewC v M :: R)) : wp (callT tab qy n (.fn 107 [] []) [.ptr v 0] h) fun r h' => r = .int .i64 (M.sz : Int) ∧ h' = h := by
 (refine qM (g := (tD1 S107)) rfl (by omega) fun k hk => ?_; show wp (S107 (callT tab qy k) _ _).1 _; unfold S107; try simp only [ Int.ofNat_eq_natCast])
 obtain ⟨fv, ov, q, e, H⟩ := ViewC.E H
 with_reducible (refine qY ?_; refine qJ ?_; refine qG (by assumption) .here rfl ?_; refine qa (by assumption) e_1 ?_)
 exact qW ⟨rfl, rfl⟩
theorem GX {n : Nat} (hn : 1 ≤ n) {v : Nat} {M : VM} {p : Int} (H : HS g h (ViewC v M :: R)) : wp (callT tab qy n (.fn 52 [] []) [.ptr v 0, .int .i64 p] h) fun r h' => r = .bool (decide (1 ≤ p ∧ p < M.sz)) ∧ h' = h := by
 (refine qM (g := (tD2 S52)) rfl (by omega) fun k hk => ?_; show wp (S52 (callT tab qy k) _ _ _).1 _; unfold S52; try simp only [ Int.ofNat_eq_natCast])
 obtain ⟨fv, ov, q, e, H⟩ := ViewC.E H
 by_cases h1 : 1 ≤ p
 ·with_reducible (refine jZ (by omega) ?_; refine qK ?_; (try dsimp only); refine qT ?_; (try dsimp only); refine qY ?_; refine qJ ?_; refine qG (by assumption) .here rfl ?_; refine qa (by assumption) e_1 ?_)
  refine gR ?_
  refine qC ?_
  refine qW ⟨?_, rfl⟩
  congr 1
  exact decide_eq_decide.2 ⟨fun h2 => ⟨h1, h2⟩, fun h2 => h2.2⟩
 ·with_reducible (refine q8 (by omega) ?_; refine qK ?_; (try dsimp only); refine qR ?_; (try dsimp only); refine qx ?_)
  exact qW ⟨by rw [decide_eq_false (fun h2 => h1 h2.1)], rfl⟩
theorem qQa {M : VM} {p x : Int} (O : OkV M) : OkV (gk M p x).2 := by
 unfold gk
 split
 ·rename_i hp
  split
  ·exact O
  ·rename_i hn
   refine ⟨O.lo, O.hi, O.lvs, ?_, ?_, O.fr⟩
   ·intro c hc
    rcases List.mem_append.1 hc with hc | hc
    ·exact O.ins c hc
    ·rw [List.mem_singleton] at hc; subst hc; exact hp
   ·have := O.un.put (p := p) (v := x)
    rw [gt hn] at this
    exact this
 ·exact O
theorem Np {n : Nat} (hn : 2 ≤ n) {v : Nat} {M : VM} {p x : Int} (H : HS g h (ViewC v M :: R)) (O : OkV M) :
  wp (callT tab qy n (.fn 15 [] []) [.ptr v 0, .int .i64 p, .int .u64 x] h) fun r h' => r = .int .i64 (gk M p x).1 ∧ HS g h' (ViewC v (gk M p x).2 :: R) := by
 (refine qM (g := (tD3 S15)) rfl (by omega) fun k hk => ?_; show wp (S15 (callT tab qy k) _ _ _ _).1 _; unfold S15; try simp only [ Int.ofNat_eq_natCast])
 refine qq (GX (by omega) H) ?_
 rintro _ _ ⟨rfl, rfl⟩
 have hO := O.hi
 unfold gk
 by_cases hp : 1 ≤ p ∧ p < M.sz
 ·rw [if_pos hp]
  rw [decide_eq_true hp]
  obtain ⟨i, rfl⟩ : ∃ i : Nat, p = (i : Int) := ⟨p.toNat, by omega⟩
  have hi : i < M.sz := by omega
  have hH := H
  obtain ⟨fv, ov, q, e, H⟩ := ViewC.E H
  with_reducible (refine qn ?_; refine qQ ?_; refine qY ?_; refine qJ ?_; refine qG (by assumption) .here rfl ?_)
  refine zG (l := wO (vw M.K i)) (H.sl e_1) hi (by omega) (JS (enc := wO) (sz := 2) (fun _ => rfl) (wD hi)) ?_
  refine qb H rfl fun b h3 H3 => jq H3 .here rfl (by show 0 + 2 ≤ 2; omega) rfl fun h4 H4 => ?_
  have H5 : HS g h4 (qB b (wO (vw M.K i)) :: qB v [fv, ov, .ptr q 0, .int .i64 M.need] :: qA e 2 M.sz fv ((xT M.sz M.K).flatMap wO) ::
   qA 3 1 M.K.length ov (M.K.map fun c => .int .i64 c.1) :: LgC q M.most M.lv :: R) := H4
  unfold wO at H5
  cases hg : zB (i : Int) M.K with
  | some y =>
   rw [show vw M.K i = (y, true) by unfold vw; rw [hg]] at H5
   with_reducible (refine qJ ?_; refine qG (by assumption) .here rfl ?_; refine qV ?_; refine qJ ?_; refine qG (by assumption) .here rfl ?_)
   have H6 := ViewC.I (H5.drop)
   by_cases hy : y = x
   ·with_reducible (refine qt (by omega) ?_; refine qQ ?_)
    refine qW ⟨by dsimp only; rw [if_pos hy]; rfl, H6⟩
   ·with_reducible (refine jG (by omega) ?_; refine qV ?_)
    refine qW ⟨by dsimp only; rw [if_neg hy]; rfl, H6⟩
  | none =>
   rw [show vw M.K i = (0, false) by unfold vw; rw [hg]] at H5
   have hkl := O.klen
   with_reducible (refine qJ ?_; refine qG (by assumption) .here rfl ?_; refine qQ ?_; refine qY ?_; refine qJ ?_; refine qG (by assumption) e_1 rfl ?_; refine qF rfl ?_)
   refine VV (l := [.int .u64 x, .bool true]) (H5.drop.sel (P := qA e 2 M.sz fv ((xT M.sz M.K).flatMap wO)) e_1) hi rfl rfl fun h6 H6 => ?_
   rw [show vU ((xT M.sz M.K).flatMap wO) (i * 2) [AV.int .u64 x, AV.bool true] = (xT M.sz (M.K ++ [((i : Int), x)])).flatMap wO by
    rw [Ud hi hg, ← qJp (enc := wO) (sz := 2) (fun _ => rfl) (by rw [wI]; exact hi)]; rfl] at H6
   with_reducible (refine qY ?_; refine qJ ?_; refine qG (by assumption) e_1 rfl ?_)
   refine qf (n := 1) (l := [.int .i64 (i : Int)]) (sz := 1) H6 rfl rfl rfl rfl fun v7 h7 H7 => ?_
   refine jc (H7.sel (P := qA 3 1 M.K.length ov (M.K.map fun c => .int .i64 c.1)) e_3) (H7.sl .here) (by omega) (by omega) rfl fun v8 h8 H8 => ?_
   refine qY ?_; refine qJ ?_
   refine qi H8 e_3 (H8.one .here) (by simp) fun h9 H9 => qW ⟨rfl, ViewC.I (M := { M with K := M.K ++ [((i : Int), x)] }) (fv := fv) (ov := v8) (q := q) (e := e) ?_⟩
   rw [List.map_append, List.length_append]
   exact H9.sub (.cons .here (.cons e_2 (.cons .here (.cons e_1 (.drop (.refl))))))
 ·rw [if_neg hp, decide_eq_false hp]
  refine jj ?_; refine qV ?_
  exact qW ⟨rfl, H⟩
theorem zL {M : VM} {p : Int} (O : OkV M) : OkV (qP M p).2 := by
 unfold qP
 repeat' split
 all_goals exact ⟨O.lo, O.hi, O.lvs, O.ins, O.un, O.fr⟩
theorem wc {n : Nat} (hn : 9 ≤ n) {v : Nat} {M : VM} {p : Int} (H : HS g h (ViewC v M :: R)) (O : OkV M) :
  wp (callT tab qy n (.fn 109 [] []) [.ptr v 0, .int .i64 p] h) fun r h' => r = .tup [.int .u64 (qP M p).1.1, .int .i64 (qP M p).1.2] ∧ HS g h' (ViewC v (qP M p).2 :: R) := by
 (refine qM (g := (tD2 S109)) rfl (by omega) fun k hk => ?_; show wp (S109 (callT tab qy k) _ _ _).1 _; unfold S109; try simp only [ Int.ofNat_eq_natCast])
 refine qq (GX (by omega) H) ?_
 rintro _ _ ⟨rfl, rfl⟩
 have hO := O.hi
 unfold qP
 by_cases hp : 1 ≤ p ∧ p < M.sz
 ·rw [if_pos hp]
  rw [decide_eq_true hp]
  obtain ⟨i, rfl⟩ : ∃ i : Nat, p = (i : Int) := ⟨p.toNat, by omega⟩
  have hi : i < M.sz := by omega
  obtain ⟨fv, ov, q, e, H⟩ := ViewC.E H
  with_reducible (refine qn ?_; refine qQ ?_; refine qY ?_; refine qJ ?_; refine qG (by assumption) .here rfl ?_)
  refine qq (qJ1 (by omega) (H.sel (P := LgC q M.most M.lv) e_3) O.lvs) ?_
  rintro _ h2 ⟨rfl, H2⟩
  with_reducible (refine qz rfl ?_; refine qz rfl ?_)
  cases hl : kS (i : Int) M.lv with
  | some y =>
   simp only [Option.isSome_some, Option.getD_some]
   refine qV ?_
   exact qW ⟨rfl, ViewC.I (H2.sub (.cons e_1 (.cons e_1 (.cons e_1 (.refl)))))⟩
  | none =>
   simp only [Option.isSome_none]
   with_reducible (refine qQ ?_; refine qY ?_; refine qJ ?_; refine qG (by assumption) e_1 rfl ?_)
   refine zG (l := wO (vw M.K i)) (H2.sl e_2) hi (by omega) (JS (enc := wO) (sz := 2) (fun _ => rfl) (wD hi)) ?_
   refine qb H2 rfl fun b h3 H3 => jq H3 .here rfl (by show 0 + 2 ≤ 2; omega) rfl fun h4 H4 => ?_
   have H5 : HS g h4 (qB b (wO (vw M.K i)) :: LgC q M.most M.lv :: qB v [fv, ov, .ptr q 0, .int .i64 M.need] :: qA e 2 M.sz fv ((xT M.sz M.K).flatMap wO) ::
    qA 3 1 M.K.length ov (M.K.map fun c => .int .i64 c.1) :: R) := H4
   unfold wO at H5
   cases hg : zB (i : Int) M.K with
   | some y =>
    rw [show vw M.K i = (y, true) by unfold vw; rw [hg]] at H5
    with_reducible (refine qJ ?_; refine qG (by assumption) .here rfl ?_; refine qV ?_; refine qJ ?_; refine qG (by assumption) .here rfl ?_)
    exact qW ⟨rfl, ViewC.I (H5.drop.sub (.cons e_1 (.cons e_1 (.cons e_1 (.refl)))))⟩
   | none =>
    rw [show vw M.K i = (0, false) by unfold vw; rw [hg]] at H5
    with_reducible (refine qJ ?_; refine qG (by assumption) .here rfl ?_; refine qQ ?_; refine qY ?_; refine qJ ?_)
    refine qi H5 (b := v) e_2 ⟨rfl, rfl⟩ (by simp) fun h9 H9 => qW ⟨rfl, ViewC.I (M := { M with need := (i : Int) }) (fv := fv) (ov := ov) (q := q) (e := e) (H9.sub (.cons .here (.cons e_2 (.cons e_2 (.cons e_1 (.drop (.refl)))))))⟩
 ·rw [if_neg hp, decide_eq_false hp]
  refine jj ?_; refine qV ?_
  exact qW ⟨rfl, H⟩
theorem qQ9 {most : Nat} {lv : List LvM} {p v : Int} {n : Nat} (h : ∀ x ∈ lv, x.2.length < n) : ∀ x ∈ (xC most lv p v).2, x.2.length < n := by
 cases lv with
 | nil => exact h
 | cons y r =>
  obtain ⟨c, hc⟩ := JY (most := most) (x := y) (r := r) (p := p) (v := v)
  rw [hc]
  intro x hx
  rcases List.mem_cons.1 hx with rfl | hx
  ·exact h y (List.mem_cons_self ..)
  ·exact h x (List.mem_cons_of_mem _ hx)
theorem Zk {most : Nat} {was : List LvM} {n : Nat} (hw : ∀ x ∈ was, x.2.length < n) : ∀ {cs : List Cl} {lv : List LvM}, (∀ x ∈ lv, x.2.length < n) → ∀ x ∈ (xz most was lv cs).2, x.2.length < n := by
 intro cs
 induction cs with
 | nil => intro lv h; exact h
 | cons c cs ih =>
  intro lv h
  rw [xS]
  split
  ·exact ih (qQ9 h)
  ·exact hw
theorem Qb {M : VM} {cs : List Cl} (O : OkV M) : OkV (jT M cs).2 := by
 unfold jT
 split
 ·exact ⟨O.lo, O.hi, (KE O.lvs O.lvs rfl).1, O.ins, O.un, Zk O.fr O.fr⟩
 ·exact O
theorem XQ {n : Nat} (hn : 8 ≤ n) {v : Nat} {M : VM} {cs : List Cl} {c : AV} (H : HS g h (ViewC v M :: R)) (O : OkV M) (S : Rd g R 2 cs.length c (cs.flatMap jk)) (hc : cs.length < 100000) :
  wp (callT tab qy n (.fn 111 [] []) [.ptr v 0, c] h) fun r h' => r = .int .i64 (jT M cs).1 ∧ HS g h' (ViewC v (jT M cs).2 :: R) := by
 (refine qM (g := (tD2 S111)) rfl (by omega) fun k hk => ?_; show wp (S111 (callT tab qy k) _ _ _).1 _; unfold S111; try simp only [ Int.ofNat_eq_natCast])
 refine zq (S.sl H.drop) ?_
 refine jz (fun k s h' => ∃ i : Nat, s = (.int .i64 (i : Int), .int .i64 (cs.length : Int), c, c, .ptr v 0, ()) ∧ i ≤ cs.length ∧ k = cs.length - i ∧ HS g h' (ViewC v M :: R) ∧ ∀ j, j < i → ∀ d, cs[j]? = some d → 1 ≤ d.1 ∧ d.1 < M.sz)
  ?_ (m := cs.length) (by show _ < 1000000000; omega) ⟨0, rfl, by omega, by omega, H, fun j hj => by omega⟩
 rintro k2 ih s h2 hih ⟨i, rfl, h1, rfl, H, hno⟩
 dsimp only
 refine jU (fun hlt => qV ?_) fun hge => qQ ?_
 ·have hi : i < cs.length := by omega
  have hci : cs[i]? = some cs[i] := List.getElem?_eq_getElem hi
  refine zG (l := jk cs[i]) (S.sl H.drop) hi (by omega) (Qg hci) ?_
  refine qb H rfl fun b h3 H3 => jq H3 .here rfl (by show 0 + 2 ≤ 2; omega) rfl fun h4 H4 => ?_
  have H5 : HS g h4 (qB b (jk cs[i]) :: ViewC v M :: R) := H4
  unfold jk at H5
  with_reducible (refine qJ ?_; refine qG (by assumption) .here rfl ?_)
  refine qq (GX (by omega) H5.drop) ?_
  rintro _ _ ⟨rfl, rfl⟩
  by_cases hin : 1 ≤ cs[i].1 ∧ cs[i].1 < M.sz
  ·rw [decide_eq_true hin]
   with_reducible (refine qn ?_; refine qQ ?_; refine qE (by omega) ?_)
   refine hih (cs.length - (i + 1)) _ _ (by omega) ⟨i + 1, rfl, by omega, rfl, H5.drop, fun j hj d hd => ?_⟩
   by_cases hj' : j < i
   ·exact hno j hj' d hd
   ·obtain rfl : j = i := by omega
    rw [hci] at hd; cases hd; exact hin
  ·rw [decide_eq_false hin]
   refine jj ?_; refine qV ?_; refine qj ?_
   unfold jT
   rw [if_neg (fun h => hin (h _ (List.getElem_mem hi)))]
   exact qW ⟨rfl, H5.drop⟩
 ·have hall : ∀ d ∈ cs, 1 ≤ d.1 ∧ d.1 < M.sz := by
   intro d hd
   obtain ⟨j, hj⟩ := List.getElem?_of_mem hd
   exact hno j (by have := (List.getElem?_eq_some_iff.1 hj).1; omega) d hj
  obtain ⟨fv, ov, q, e, H⟩ := ViewC.E H
  with_reducible (refine qY ?_; refine qJ ?_; refine qG (by assumption) .here rfl ?_)
  refine qq (OR (by omega) (H.sel (P := LgC q M.most M.lv) e_3) O.lvs (S.more.more.more) hc) ?_
  rintro _ h4 ⟨rfl, H4⟩
  unfold jT
  rw [if_pos hall]
  exact qj (qW ⟨rfl, ViewC.I (M := { M with lv := (xz M.most M.lv M.lv cs).2 }) (fv := fv) (ov := ov) (q := q) (e := e) (H4.sub (.cons e_1 (.cons e_1 (.cons e_1 (.refl)))))⟩)
theorem ZO {n : Nat} (hn : 4 ≤ n) {v : Nat} {M : VM} (H : HS g h (ViewC v M :: R)) (O : OkV M) :
  wp (callT tab qy n (.fn 199 [] []) [.ptr v 0] h) fun r h' => r = .int .i64 (zd M).1 ∧ HS g h' (ViewC v (zd M).2 :: R) := by
 (refine qM (g := (tD1 S199)) rfl (by omega) fun k hk => ?_; show wp (S199 (callT tab qy k) _ _).1 _; unfold S199; try simp only [ Int.ofNat_eq_natCast])
 obtain ⟨fv, ov, q, e, H⟩ := ViewC.E H
 with_reducible (refine qY ?_; refine qJ ?_; refine qG (by assumption) .here rfl ?_)
 refine qq (Z7 (by omega) (H.sel (P := LgC q M.most M.lv) e_3) O.lvs) ?_
 rintro _ h2 ⟨rfl, H2⟩
 exact qW ⟨rfl, ViewC.I (M := (zd M).2) (fv := fv) (ov := ov) (q := q) (e := e) (H2.sub (.cons e_1 (.cons e_1 (.cons e_1 (.cons .here (.refl))))))⟩
theorem Kd {n : Nat} (hn : 2 ≤ n) {v : Nat} {M : VM} (H : HS g h (ViewC v M :: R)) (O : OkV M) :
  wp (callT tab qy n (.fn 135 [] []) [.ptr v 0] h) fun r h' => r = .int .i64 (zZ M).1 ∧ HS g h' (ViewC v (zZ M).2 :: R) := by
 (refine qM (g := (tD1 S135)) rfl (by omega) fun k hk => ?_; show wp (S135 (callT tab qy k) _ _).1 _; unfold S135; try simp only [ Int.ofNat_eq_natCast])
 obtain ⟨fv, ov, q, e, H⟩ := ViewC.E H
 with_reducible (refine qY ?_; refine qJ ?_; refine qG (by assumption) .here rfl ?_)
 refine qq (KP (by omega) (H.sel (P := LgC q M.most M.lv) e_3) O.lvs) ?_
 rintro _ h2 ⟨rfl, H2⟩
 exact qW ⟨rfl, ViewC.I (M := (zZ M).2) (fv := fv) (ov := ov) (q := q) (e := e) (H2.sub (.cons e_1 (.cons e_1 (.cons e_1 (.cons .here (.refl))))))⟩
theorem Uw {n : Nat} (hn : 7 ≤ n) {v : Nat} {M : VM} (H : HS g h (ViewC v M :: R)) (O : OkV M) :
  wp (callT tab qy n (.fn 133 [] []) [.ptr v 0] h) fun r h' => r = .int .i64 (yZ M).1 ∧ HS g h' (ViewC v (yZ M).2 :: R) := by
 (refine qM (g := (tD1 S133)) rfl (by omega) fun k hk => ?_; show wp (S133 (callT tab qy k) _ _).1 _; unfold S133; try simp only [ Int.ofNat_eq_natCast])
 obtain ⟨fv, ov, q, e, H⟩ := ViewC.E H
 with_reducible (refine qY ?_; refine qJ ?_; refine qG (by assumption) .here rfl ?_)
 refine qq (OD (by omega) (H.sel (P := LgC q M.most M.lv) e_3) O.lvs fun x hx => Nat.lt_trans (O.fr x hx) (by omega)) ?_
 rintro _ h2 ⟨rfl, H2⟩
 exact qW ⟨rfl, ViewC.I (M := (yZ M).2) (fv := fv) (ov := ov) (q := q) (e := e) (H2.sub (.cons e_1 (.cons e_1 (.cons e_1 (.cons .here (.refl))))))⟩
theorem qQP {n : Nat} (hn : 3 ≤ n) {v : Nat} {M : VM} {b : Int} (H : HS g h (ViewC v M :: R)) (O : OkV M) :
  wp (callT tab qy n (.fn 198 [] []) [.ptr v 0, .int .i64 b] h) fun _ h' => HS g h' (ViewC v (freeV M b) :: R) := by
 (refine qM (g := (tD2 S198)) rfl (by omega) fun k hk => ?_; show wp (S198 (callT tab qy k) _ _ _).1 _; unfold S198; try simp only [ Int.ofNat_eq_natCast])
 obtain ⟨fv, ov, q, e, H⟩ := ViewC.E H
 with_reducible (refine qY ?_; refine qJ ?_; refine qG (by assumption) .here rfl ?_)
 refine qq (ZU (by omega) (H.sel (P := LgC q M.most M.lv) e_3) O.lvs fun x hx => Nat.lt_trans (O.fr x hx) (by omega)) ?_
 intro _ h2 H2
 exact qW (ViewC.I (M := freeV M b) (fv := fv) (ov := ov) (q := q) (e := e) (H2.sub (.cons e_1 (.cons e_1 (.cons e_1 (.cons .here (.refl)))))))
theorem M8 {n : Nat} (hn : 2 ≤ n) {v : Nat} {M : VM} (H : HS g h (ViewC v M :: R)) :
  wp (callT tab qy n (.fn 34 [] []) [.ptr v 0] h) fun r h' => r = .int .i64 (M.lv.length : Int) ∧ h' = h := by
 (refine qM (g := (tD1 S34)) rfl (by omega) fun k hk => ?_; show wp (S34 (callT tab qy k) _ _).1 _; unfold S34; try simp only [ Int.ofNat_eq_natCast])
 obtain ⟨fv, ov, q, e, H⟩ := ViewC.E H
 with_reducible (refine qY ?_; refine qJ ?_; refine qG (by assumption) .here rfl ?_)
 refine qq (MS (by omega) (H.sel (P := LgC q M.most M.lv) e_3)) ?_
 rintro _ h2 ⟨rfl, rfl⟩
 exact qW ⟨rfl, rfl⟩
theorem KM {n : Nat} (hn : 1 ≤ n) {v : Nat} {M : VM} (H : HS g h (ViewC v M :: R)) :
  wp (callT tab qy n (.fn 14 [] []) [.ptr v 0] h) fun r h' => r = .int .i64 M.need ∧ h' = h := by
 (refine qM (g := (tD1 S14)) rfl (by omega) fun k hk => ?_; show wp (S14 (callT tab qy k) _ _).1 _; unfold S14; try simp only [ Int.ofNat_eq_natCast])
 obtain ⟨fv, ov, q, e, H⟩ := ViewC.E H
 with_reducible (refine qY ?_; refine qJ ?_; refine qG (by assumption) .here rfl ?_)
 exact qW ⟨rfl, rfl⟩
theorem My {n : Nat} (hn : 10 ≤ n) {v : Nat} {M : VM} (H : HS g h (ViewC v M :: R)) (O : OkV M) :
  wp (callT tab qy n (.fn 31 [] []) [.ptr v 0] h) fun r h' => HS g h' (qA 67 2 (jE M.lv).length r ((jE M.lv).flatMap jk) :: ViewC v M :: R) := by
 (refine qM (g := (tD1 S31)) rfl (by omega) fun k hk => ?_; show wp (S31 (callT tab qy k) _ _).1 _; unfold S31; try simp only [ Int.ofNat_eq_natCast])
 obtain ⟨fv, ov, q, e, H⟩ := ViewC.E H
 with_reducible (refine qY ?_; refine qJ ?_; refine qG (by assumption) .here rfl ?_)
 refine qq (Mk (by omega) (H.sel (P := LgC q M.most M.lv) e_3) O.lvs) ?_
 intro r h2 H2
 refine qW ?_
 have H3 := ViewC.I (v := v) (M := M) (fv := fv) (ov := ov) (q := q) (e := e) (R := qA 67 2 (jE M.lv).length r ((jE M.lv).flatMap jk) :: R) (H2.sub (.cons e_2 (.cons e_2 (.cons e_2 (.cons e_1 (.refl))))))
 exact H3.sub (.cons e_1 (.refl))
theorem NB {n : Nat} : ∀ {l : List LvM}, (∀ x ∈ l, x.2.length < n) → (l.flatMap (·.2)).length ≤ l.length * n := by
 intro l h
 induction l with
 | nil => simp
 | cons x r ih =>
  have h1 := h x (List.mem_cons_self ..)
  have h2 := ih fun y hy => h y (List.mem_cons_of_mem _ hy)
  rw [List.flatMap_cons, List.length_append, List.length_cons, Nat.add_mul, Nat.one_mul]
  omega
theorem U1 {n : Nat} {lv : List LvM} (h : ∀ x ∈ lv, x.2.length < n) : (xY lv).length ≤ lv.length * n := by
 have := NB (l := lv.reverse) (n := n) fun x hx => h x (List.mem_reverse.1 hx)
 rw [List.length_reverse] at this
 exact this
theorem NO {n : Nat} (hn : 2 ≤ n) {v : Nat} {M : VM} (H : HS g h (ViewC v M :: R)) (O : OkV M) :
  wp (callT tab qy n (.fn 33 [] []) [.ptr v 0] h) fun r h' => HS g h' (qA 3 1 (xY M.lv).length r ((xY M.lv).map (.int .i64)) :: ViewC v M :: R) := by
 (refine qM (g := (tD1 S33)) rfl (by omega) fun k hk => ?_; show wp (S33 (callT tab qy k) _ _).1 _; unfold S33; try simp only [ Int.ofNat_eq_natCast])
 obtain ⟨fv, ov, q, e, H⟩ := ViewC.E H
 with_reducible (refine qY ?_; refine qJ ?_; refine qG (by assumption) .here rfl ?_)
 have hfl := U1 O.fr
 have hd := O.lvs.deep
 refine qq (Mt (by omega) (H.sel (P := LgC q M.most M.lv) e_3) O.lvs (by omega)) ?_
 intro r h2 H2
 refine qW ?_
 have H3 := ViewC.I (v := v) (M := M) (fv := fv) (ov := ov) (q := q) (e := e) (R := qA 3 1 (xY M.lv).length r ((xY M.lv).map (.int .i64)) :: R) (H2.sub (.cons e_2 (.cons e_2 (.cons e_2 (.cons e_1 (.refl))))))
 exact H3.sub (.cons e_1 (.refl))
def wA (zs : List Int) (i : Nat) : Int := zs[i]?.getD 0
end Go.Proofs.YtdlfmpmpmkffjaaGreatDoor
namespace Go.Proofs.YtdlfmpmpmkffjaaGreatDoor
open Go Go.Ae
abbrev qO : Type := Int × Int × Int × Int × Int
def qe (x : qO) : List AV := [.int .i64 x.1, .int .i64 x.2.1, .int .i64 x.2.2.1, .int .i64 x.2.2.2.1, .int .u64 x.2.2.2.2]
theorem JC (l : List qO) : jQ (l.flatMap qe) = true := by
 unfold jQ
 rw [List.all_eq_true]
 intro v hv
 obtain ⟨c, _, hc⟩ := List.mem_flatMap.1 hv
 simp [qe] at hc
 rcases hc with rfl | rfl | rfl | rfl | rfl <;> rfl
def q9 (op : Int) : (Int × Int) × (Int × Int) × (Int × Int) :=
 if op = 1 ∨ op = 11 ∨ op = 21 then ((0, 7), (0, 0), (0, 0))
 else if op = 2 ∨ op = 10 then ((0, 7), (0, 7), (0, 0))
 else if op = 3 ∨ op = 4 ∨ op = 5 ∨ op = 6 ∨ op = 7 then ((0, 7), (0, 7), (0, 7))
 else if op = 8 ∨ op = 9 then ((0, 7), (0, 7), (0, 15))
 else if op = 12 then ((0, 0), (0, 0), (0, 40))
 else if op = 13 then ((0, 7), (0, 0), (0, 40))
 else if op = 23 then ((1, 12), (0, 7), (0, 6))
 else ((0, 0), (0, 0), (0, 0))
def xI (f : Int × Int) (n : Int) : Bool := decide (f.1 ≤ n ∧ n ≤ f.2)
def xd (x : qO) : Bool := decide (1 ≤ x.1 ∧ x.1 ≤ 23) && xI (q9 x.1).1 x.2.1 && xI (q9 x.1).2.1 x.2.2.1 && xI (q9 x.1).2.2 x.2.2.2.1 && decide (x.2.2.2.2 = 0 ∨ x.1 = 1)
def zJ (op : Int) : Bool := decide (op = 14 ∨ op = 17)
def jB (op : Int) : Int := if op = 15 then 14 else if op = 18 then 17 else if op = 19 then 18 else 0
def qm (st : List Int) : Int := st.getLast?.getD (-1)
def qL (l : List qO) (i : Int) : qO := (l[i.toNat]?).getD (0, 0, 0, 0, 0)
def opM (l : List qO) (st : List Int) : Int := if st = [] then 0 else (qL l (qm st)).1
def zX (l : List qO) (st : List Int) (x : qO) : Int :=
 if xd x = false then 8
 else if 0 < jB x.1 ∧ opM l st ≠ jB x.1 then 12
 else if x.1 = 16 ∧ opM l st ≠ 14 then 12
 else if zJ x.1 = true ∧ 5 ≤ st.length then 9
 else 0
def qp (st : List Int) (i op : Int) : List Int :=
 if zJ op = true ∨ op = 18 then (if 0 < jB op then st.dropLast else st) ++ [i] else (if 0 < jB op then st.dropLast else st)
def goM (l : List qO) : List qO → Nat → List Int → (Int × Int) ⊕ List Int
 | [], _, st => .inr st
 | x :: r, i, st => if zX l st x = 0 then goM l r (i + 1) (qp st i x.1) else .inl (i, zX l st x)
def zg : List qO → Nat → List Int → List Int
 | [], _, _ => []
 | x :: r, i, st => qm st :: zg r (i + 1) (qp st i x.1)
def qD (a : List Int) (i : Int) : Int := (a[i.toNat]?).getD 0
def wk (l : List qO) (a : List Int) (i : Nat) (x : qO) : Prop :=
 (x.1 = 12 ∨ x.1 = 13) ∧ ((l.length : Int) < x.2.2.2.1 ∨ (x.2.2.2.1 = l.length ∧ qD a i ≠ -1) ∨ (x.2.2.2.1 < l.length ∧ qD a x.2.2.2.1 ≠ qD a i))
instance {l : List qO} {a : List Int} {i : Nat} {x : qO} : Decidable (wk l a i x) := by unfold wk; infer_instance
def kJ (l : List qO) (a : List Int) : List qO → Nat → Int × Int
 | [], _ => (0, 0)
 | x :: r, i => if wk l a i x then ((i : Int), 2) else kJ l a r (i + 1)
def xr (l : List qO) : Int × Int :=
 if l.length = 0 ∨ 40 < l.length then (0, 4)
 else match goM l l 0 [] with
  | .inl r => r
  | .inr st => if st = [] then kJ l (zg l 0 []) l 0 else (qm st, 12)
def StOk (i : Nat) (st : List Int) : Prop := ∀ y ∈ st, 0 ≤ y ∧ y < (i : Int)
theorem StOk.nil {i : Nat} : StOk i [] := fun _ h => by cases h
theorem StOk.dropLast {i : Nat} {st : List Int} (h : StOk i st) : StOk i st.dropLast := fun y hy => h y ((List.dropLast_sublist st).subset hy)
theorem StOk.behind {i : Nat} {st : List Int} {op : Int} (h : StOk i st) : StOk (i + 1) (qp st i op) := by
 have h1 : ∀ s, StOk i s → StOk (i + 1) s := fun s hs y hy => by have := hs y hy; omega
 have h2 : ∀ s, StOk i s → StOk (i + 1) (s ++ [(i : Int)]) := by
  intro s hs y hy
  rcases List.mem_append.1 hy with hy | hy
  ·exact h1 s hs y hy
  ·rw [List.mem_singleton] at hy; omega
 unfold qp
 repeat' split
 ·exact h2 _ h.dropLast
 ·exact h2 _ h
 ·exact h1 _ h.dropLast
 ·exact h1 _ h
theorem StOk.inmost {i : Nat} {st : List Int} (h : StOk i st) (hn : st ≠ []) : 0 ≤ qm st ∧ qm st < (i : Int) := by
 refine h _ ?_
 unfold qm
 rw [List.getLast?_eq_some_getLast hn]
 exact List.getLast_mem hn
theorem Xq (st : List Int) (i op : Int) : (qp st i op).length ≤ st.length + 1 := by
 unfold qp
 repeat' split
 all_goals simp
 all_goals omega
theorem Jo : qm [] = -1 := rfl
theorem zK {l : List qO} {st : List Int} {x : qO} (h : zX l st x = 0) : xd x = true ∧ (0 < jB x.1 ∨ x.1 = 16 → st ≠ []) ∧ (zJ x.1 = true → st.length < 5) := by
 unfold zX at h
 split at h
 ·cases h
 ·rename_i h1
  split at h
  ·cases h
  ·rename_i h2
   split at h
   ·cases h
   ·rename_i h3
    split at h
    ·cases h
    ·rename_i h4
     refine ⟨by simpa using h1, ?_, fun hb => by
      by_cases h5 : 5 ≤ st.length
      ·exact absurd ⟨hb, h5⟩ h4
      ·omega⟩
     rintro ho rfl
     have h0 : opM l [] = 0 := rfl
     rw [h0] at h2 h3
     rcases ho with ho | ho
     ·exact h2 ⟨ho, by omega⟩
     ·exact h3 ⟨ho, by omega⟩
theorem Qc {l r : List qO} {x : qO} {i : Nat} {st : List Int} : goM l (x :: r) i st = if zX l st x = 0 then goM l r (i + 1) (qp st i x.1) else .inl (i, zX l st x) := rfl
theorem gp : ∀ {r : List qO} {i : Nat} {st : List Int}, (zg r i st).length = r.length := by
 intro r
 induction r with
 | nil => intro i st; rfl
 | cons x r ih => intro i st; show (zg r (i + 1) _).length + 1 = _; rw [ih]; rfl
theorem qQO : ∀ {r : List qO} {i j : Nat} {st : List Int}, j < r.length → ∃ s, (zg r i st)[j]? = some (qm s) ∧ (∀ {l : List qO} {st' : List Int}, goM l r i st = .inr st' → StOk i st → StOk (i + j) s ∧ ∀ x, r[j]? = some x → zX l s x = 0) := by
 intro r
 induction r with
 | nil => intro i j st h; simp at h
 | cons x r ih =>
  intro i j st h
  cases j with
  | zero =>
   refine ⟨st, rfl, fun {l st'} hg hs => ⟨hs, ?_⟩⟩
   intro y hy
   simp at hy
   subst hy
   rw [Qc] at hg
   split at hg
   ·assumption
   ·cases hg
  | succ j =>
   obtain ⟨s, h1, h2⟩ := ih (i := i + 1) (j := j) (st := qp st i x.1) (by simp at h; omega)
   refine ⟨s, h1, fun {l st'} hg hs => ?_⟩
   rw [Qc] at hg
   split at hg
   ·have := h2 hg hs.behind
    rw [show i + 1 + j = i + (j + 1) by omega] at this
    exact this
   ·cases hg
end Go.Proofs.YtdlfmpmpmkffjaaGreatDoor
namespace Go.Proofs.YtdlfmpmpmkffjaaGreatDoor
open Go Go.Ae
set_option maxRecDepth 100000
variable {g h : AH} {L R : List SP}
theorem vP {D : Nat → Prop} {sz n : Nat} {v : AV} {xs : List AV} (S : Sl D h sz n v xs) : One v := by cases S <;> exact ⟨rfl, rfl⟩
theorem xg {v : AV} (o : One v) : jQ [v] = true := by simp [jQ, o.2]
theorem xQ {g' ha : AH} {b off n nx : Nat} {xs ys l : List AV} {L2 R2 : List SP} {K0 : Go.Ae.R} {Q : AV → AH → Prop} (H : HS g h L) (s : Sel L (qB b xs) R) (hx : (xs.drop off).take n = l) (H2 : HS g' ha L2) (s2 : Sel L2 (qB b ys) R2) (hx2 : (ys.drop off).take n = l) (hl : l.length = n) (h0 : 0 < n) (hlt : b < nx)
  (w : wp K0 Q) : wp (wN (.ptr b off) (some n) (.agg l) h ha nx K0) Q := by
 obtain ⟨e, A⟩ := H.obj s
 obtain ⟨e2, A2⟩ := H2.obj s2
 exact qZF hl h0 (fun i hi => by rw [A.at, ← hx, List.getElem?_take_of_lt hi, List.getElem?_drop]) (fun i hi => by rw [A2.at, ← hx2, List.getElem?_take_of_lt hi, List.getElem?_drop]) hlt w
theorem KL {u x : Bool} {r : AV} {K : AV → Go.Ae.R} {Q : AV → AH → Prop} (hr : u = true → r = .bool x) (w : wp (K (.bool (u && x))) Q) : wp (yX (.bool u) r (.bool false) K) Q := by
 cases u
 ·exact w
 ·rw [hr rfl]; exact w
end Go.Proofs.YtdlfmpmpmkffjaaGreatDoor
namespace Go.Proofs.YtdlfmpmpmkffjaaGreatDoor
open Go Go.Ae
set_option maxRecDepth 100000
variable {g h : AH} {L R : List SP}
theorem qZt {s : List UInt8} {K : AV → Go.Ae.R} {Q : AV → AH → Prop} {t : Bool} (ht : Kp .neq s [] = some (.bool t)) (w : wp (K (.bool t)) Q) : wp (kR .neq (.str s) (.str []) K) Q := by
 show wp (ob (Kp .neq s []) K) Q
 rw [ht]; exact w
theorem QE {n : Nat} (hn : 1 ≤ n) {x : Int} : wp (callT tab qy n (.fn 82 [] []) [.int .i64 x] h) fun v h' => v = .int .i64 (jB x) ∧ h' = h := by
 (refine qM (g := (tD1 S82)) rfl (by omega) fun k hk => ?_; show wp (S82 (callT tab qy k) _ _).1 _; unfold S82; try simp only [ Int.ofNat_eq_natCast])
 repeat' (first | with_reducible refine qV ?_ | with_reducible refine qQ ?_ | (with_reducible refine qT ?_; try dsimp only) | (with_reducible refine qS ?_; try dsimp only) | (with_reducible refine qR ?_; try dsimp only) | (with_reducible refine qw ?_; try dsimp only) | (with_reducible refine jY ?_; try dsimp only) | with_reducible refine qC ?_ | with_reducible refine qx ?_ | (with_reducible refine qK ?_; try dsimp only) | with_reducible refine qj ?_ | with_reducible refine qn ?_ | with_reducible refine jj ?_ | with_reducible refine qE (by omega) ?_ | with_reducible refine qc (by omega) ?_ | with_reducible refine zh (by omega) ?_ | with_reducible refine zu (by omega) ?_ | with_reducible refine zr ?_ | with_reducible refine zp ?_ | with_reducible refine jU (fun hc => ?_) (fun hc => ?_) | with_reducible refine xV (fun hc => ?_) (fun hc => ?_) | with_reducible refine zO (fun hc => ?_) (fun hc => ?_) | with_reducible refine xG (fun hc => ?_) (fun hc => ?_) | with_reducible refine z7 (fun hc => ?_) (fun hc => ?_) | with_reducible refine zC (fun hc => ?_) (fun hc => ?_) | with_reducible refine z6 (fun hc => ?_) (fun hc => ?_))
 all_goals refine qW ⟨?_, rfl⟩
 all_goals unfold jB
 all_goals congr 1
 all_goals (repeat' split)
 all_goals omega
theorem XZ {n : Nat} (hn : 1 ≤ n) {x : Int} : wp (callT tab qy n (.fn 105 [] []) [.int .i64 x] h) fun v h' => v = .bool (zJ x) ∧ h' = h := by
 (refine qM (g := (tD1 S105)) rfl (by omega) fun k hk => ?_; show wp (S105 (callT tab qy k) _ _).1 _; unfold S105; try simp only [ Int.ofNat_eq_natCast])
 unfold zJ
 by_cases h1 : x = 14
 ·with_reducible (refine qg (by omega) ?_; refine qK ?_; (try dsimp only); refine qS ?_; (try dsimp only); refine qC ?_)
  exact qW ⟨by rw [decide_eq_true (.inl h1)], rfl⟩
 ·with_reducible (refine qX (by omega) ?_; refine qK ?_; (try dsimp only); refine qw ?_; (try dsimp only))
  refine gU ?_
  refine qx ?_
  exact qW ⟨by congr 1; exact decide_eq_decide.2 ⟨.inr, fun h => h.resolve_left h1⟩, rfl⟩
theorem Od {n : Nat} (hn : 1 ≤ n) {x : Int} : wp (callT tab qy n (.fn 106 [] []) [.int .i64 x] h) fun v h' => v = .bool (decide (x = 12 ∨ x = 13)) ∧ h' = h := by
 (refine qM (g := (tD1 S106)) rfl (by omega) fun k hk => ?_; show wp (S106 (callT tab qy k) _ _).1 _; unfold S106; try simp only [ Int.ofNat_eq_natCast])
 by_cases h1 : x = 12
 ·with_reducible (refine qg (by omega) ?_; refine qK ?_; (try dsimp only); refine qS ?_; (try dsimp only); refine qC ?_)
  exact qW ⟨by rw [decide_eq_true (.inl h1)], rfl⟩
 ·with_reducible (refine qX (by omega) ?_; refine qK ?_; (try dsimp only); refine qw ?_; (try dsimp only))
  refine gU ?_
  refine qx ?_
  exact qW ⟨by congr 1; exact decide_eq_decide.2 ⟨.inr, fun h => h.resolve_left h1⟩, rfl⟩
theorem k8 {D : Nat → Prop} {n : Nat} (hn : 1 ≤ n) {st : List Int} {v : AV} (S : Sl D h 1 st.length v (st.map (.int .i64))) (hl : st.length < 1000) :
  wp (callT tab qy n (.fn 74 [] []) [v] h) fun r h' => r = .int .i64 (qm st) ∧ h' = h := by
 (refine qM (g := (tD1 S74)) rfl (by omega) fun k hk => ?_; show wp (S74 (callT tab qy k) _ _).1 _; unfold S74; try simp only [ Int.ofNat_eq_natCast])
 refine zq S ?_
 by_cases h0 : st.length = 0
 ·obtain rfl := List.eq_nil_of_length_eq_zero h0
  with_reducible (refine qg (by omega) ?_; refine qV ?_)
  exact qW ⟨rfl, rfl⟩
 ·with_reducible (refine qX (by omega) ?_; refine qQ ?_)
  refine zq S ?_
  refine qc (by omega) ?_
  rw [show (st.length : Int) - ((1 : Nat) : Int) = ((st.length - 1 : Nat) : Int) by omega]
  have hne : st ≠ [] := by rintro rfl; exact h0 rfl
  refine jN S (x := .int .i64 (qm st)) ?_ (qW ⟨rfl, rfl⟩)
  unfold qm
  rw [List.getElem?_map, ← List.getLast?_eq_getElem?, List.getLast?_eq_some_getLast hne]; rfl
theorem J8 {n : Nat} (hn : 1 ≤ n) {f : Int × Int} {x : Int} (H : HS g h R) : wp (callT tab qy n (.fn 155 [] []) [.agg [.int .i64 f.1, .int .i64 f.2], .int .i64 x] h) fun v h' => v = .bool (xI f x) ∧ HS g h' R := by
 (refine qM (g := (tD2 S155)) rfl (by omega) fun k hk => ?_; show wp (S155 (callT tab qy k) _ _ _).1 _; unfold S155; try simp only [ Int.ofNat_eq_natCast])
 refine qb H rfl fun b h1 H1 => ?_
 unfold xI
 by_cases c1 : f.1 ≤ x
 ·with_reducible (refine qJ ?_; refine qG (by assumption) .here rfl ?_; refine jZ (by omega) ?_; refine qK ?_; (try dsimp only); refine qT ?_; (try dsimp only); refine qJ ?_; refine qG (by assumption) .here rfl ?_)
  refine Gj ?_
  refine qC ?_
  exact qW ⟨by congr 1; exact decide_eq_decide.2 ⟨fun h => ⟨c1, h⟩, fun h => h.2⟩, H1.drop⟩
 ·with_reducible (refine qJ ?_; refine qG (by assumption) .here rfl ?_; refine q8 (by omega) ?_; refine qK ?_; (try dsimp only); refine qR ?_; (try dsimp only); refine qx ?_)
  exact qW ⟨by rw [decide_eq_false (fun h => c1 h.1)], H1.drop⟩
def x6 (f : Int × Int) : List AV := [.int .i64 f.1, .int .i64 f.2]
theorem VC {n : Nat} (hn : 1 ≤ n) {x : Int} (H : HS g h R) : wp (callT tab qy n (.fn 153 [] []) [.int .i64 x] h) fun v h' => v = .tup [.agg (x6 (q9 x).1), .agg (x6 (q9 x).2.1), .agg (x6 (q9 x).2.2)] ∧ HS g h' R := by
 (refine qM (g := (tD1 S153)) rfl (by omega) fun k hk => ?_; show wp (S153 (callT tab qy k) _ _).1 _; unfold S153; try simp only [ Int.ofNat_eq_natCast])
 refine qb H rfl fun b0 h1 H1 => ?_
 refine qb H1 rfl fun b2 h2 H2 => ?_
 refine qb H2 rfl fun b4 h3 H3 => ?_
 refine qF (l := [.int .i64 ((0 : Nat) : Int), .int .i64 ((7 : Nat) : Int)]) rfl ?_
 refine qb H3 rfl fun b7 h4 H4 => ?_
 refine jq H4 (b := b7) .here rfl (by simp) rfl fun h5 H5 => ?_
 have H5 : HS g h5 (qB b7 (x6 (0, 7)) :: qB b4 (x6 (0, 0)) :: qB b2 (x6 (0, 0)) :: qB b0 (x6 (0, 0)) :: R) := H5
 clear H H1 H2 H3 H4
 refine zM [] (fun s h' => s = (.ptr b4 0, .ptr b2 0, .ptr b0 0, ()) ∧ HS g h' (qB b0 (x6 (q9 x).1) :: qB b2 (x6 (q9 x).2.1) :: qB b4 (x6 (q9 x).2.2) :: R)) ?_ ?_
 ·intro j hj
  by_cases ha : x = 1 ∨ x = 11 ∨ x = 21
  ·have e : q9 x = ((0, 7), (0, 0), (0, 0)) := by unfold q9; rw [if_pos ha]
   rw [e] at hj
   rcases ha with rfl | rfl | rfl
   all_goals (first | with_reducible (refine qK ?_; (try dsimp only); refine qX (by omega) ?_; refine qQ ?_; refine qX (by omega) ?_; refine qQ ?_; refine qg (by omega) ?_; refine qV ?_) | with_reducible (refine qK ?_; (try dsimp only); refine qX (by omega) ?_; refine qQ ?_; refine qg (by omega) ?_; refine qV ?_; refine qV ?_) | with_reducible (refine qK ?_; (try dsimp only); refine qg (by omega) ?_; refine qV ?_; refine qV ?_))
   all_goals refine qr H5 (b := b7) (off := 0) .here rfl (by omega) rfl ?_
   all_goals refine jq H5 (b := b0) e_3 rfl (by simp [x6]) rfl fun h6 H6 => ?_
   all_goals exact hj _ _ ⟨rfl, H6.sub (.cons .here (.cons e_2 (.cons e_1 (.drop .refl))))⟩
  by_cases hb : x = 2 ∨ x = 10
  ·have e : q9 x = ((0, 7), (0, 7), (0, 0)) := by unfold q9; rw [if_neg ha, if_pos hb]
   rw [e] at hj
   rcases hb with rfl | rfl
   all_goals (first | with_reducible (refine qK ?_; (try dsimp only); refine qX (by omega) ?_; refine qQ ?_; refine qX (by omega) ?_; refine qQ ?_; refine qX (by omega) ?_; refine qQ ?_; refine qK ?_; (try dsimp only); refine qX (by omega) ?_; refine qQ ?_; refine qg (by omega) ?_; refine qV ?_; refine qK ?_; (try dsimp only)) | with_reducible (refine qK ?_; (try dsimp only); refine qX (by omega) ?_; refine qQ ?_; refine qX (by omega) ?_; refine qQ ?_; refine qX (by omega) ?_; refine qQ ?_; refine qK ?_; (try dsimp only); refine qg (by omega) ?_; refine qV ?_; refine qV ?_; refine qK ?_; (try dsimp only)))
   all_goals refine qr H5 (b := b7) (off := 0) .here rfl (by omega) rfl ?_
   all_goals refine qr H5 (b := b7) (off := 0) .here rfl (by omega) rfl ?_
   all_goals refine jq H5 (b := b0) e_3 rfl (by simp [x6]) rfl fun h6 H6 => ?_
   all_goals refine jq H6 (b := b2) e_3 rfl (by simp [x6]) rfl fun h7 H7 => ?_
   all_goals refine xQ H5 (b := b7) .here rfl H6 e_1 rfl rfl (by omega) (HS.lt H5 .here) ?_
   all_goals exact hj _ _ ⟨rfl, H7.sub (.cons e_1 (.cons .here (.cons e_1 (.drop .refl))))⟩
  by_cases hc : x = 3 ∨ x = 4 ∨ x = 5 ∨ x = 6 ∨ x = 7
  ·have e : q9 x = ((0, 7), (0, 7), (0, 7)) := by unfold q9; rw [if_neg ha, if_neg hb, if_pos hc]
   rw [e] at hj
   rcases hc with rfl | rfl | rfl | rfl | rfl
   all_goals (first | with_reducible (refine qK ?_; (try dsimp only); refine qX (by omega) ?_; refine qQ ?_; refine qX (by omega) ?_; refine qQ ?_; refine qX (by omega) ?_; refine qQ ?_; refine qK ?_; (try dsimp only); refine qX (by omega) ?_; refine qQ ?_; refine qX (by omega) ?_; refine qQ ?_; refine qK ?_; (try dsimp only); refine qX (by omega) ?_; refine qQ ?_; refine qX (by omega) ?_; refine qQ ?_; refine qX (by omega) ?_; refine qQ ?_; refine qX (by omega) ?_; refine qQ ?_; refine qg (by omega) ?_; refine qV ?_; refine qK ?_; (try dsimp only)) | with_reducible (refine qK ?_; (try dsimp only); refine qX (by omega) ?_; refine qQ ?_; refine qX (by omega) ?_; refine qQ ?_; refine qX (by omega) ?_; refine qQ ?_; refine qK ?_; (try dsimp only); refine qX (by omega) ?_; refine qQ ?_; refine qX (by omega) ?_; refine qQ ?_; refine qK ?_; (try dsimp only); refine qX (by omega) ?_; refine qQ ?_; refine qX (by omega) ?_; refine qQ ?_; refine qX (by omega) ?_; refine qQ ?_; refine qg (by omega) ?_; refine qV ?_; refine qV ?_; refine qK ?_; (try dsimp only)) | with_reducible (refine qK ?_; (try dsimp only); refine qX (by omega) ?_; refine qQ ?_; refine qX (by omega) ?_; refine qQ ?_; refine qX (by omega) ?_; refine qQ ?_; refine qK ?_; (try dsimp only); refine qX (by omega) ?_; refine qQ ?_; refine qX (by omega) ?_; refine qQ ?_; refine qK ?_; (try dsimp only); refine qX (by omega) ?_; refine qQ ?_; refine qX (by omega) ?_; refine qQ ?_; refine qg (by omega) ?_; refine qV ?_; refine qV ?_; refine qK ?_; (try dsimp only)) | with_reducible (refine qK ?_; (try dsimp only); refine qX (by omega) ?_; refine qQ ?_; refine qX (by omega) ?_; refine qQ ?_; refine qX (by omega) ?_; refine qQ ?_; refine qK ?_; (try dsimp only); refine qX (by omega) ?_; refine qQ ?_; refine qX (by omega) ?_; refine qQ ?_; refine qK ?_; (try dsimp only); refine qX (by omega) ?_; refine qQ ?_; refine qg (by omega) ?_; refine qV ?_; refine qV ?_; refine qK ?_; (try dsimp only)) | with_reducible (refine qK ?_; (try dsimp only); refine qX (by omega) ?_; refine qQ ?_; refine qX (by omega) ?_; refine qQ ?_; refine qX (by omega) ?_; refine qQ ?_; refine qK ?_; (try dsimp only); refine qX (by omega) ?_; refine qQ ?_; refine qX (by omega) ?_; refine qQ ?_; refine qK ?_; (try dsimp only); refine qg (by omega) ?_; refine qV ?_; refine qV ?_; refine qK ?_; (try dsimp only)))
   all_goals refine qr H5 (b := b7) (off := 0) .here rfl (by omega) rfl ?_
   all_goals refine qr H5 (b := b7) (off := 0) .here rfl (by omega) rfl ?_
   all_goals refine qr H5 (b := b7) (off := 0) .here rfl (by omega) rfl ?_
   all_goals refine jq H5 (b := b0) e_3 rfl (by simp [x6]) rfl fun h6 H6 => ?_
   all_goals refine jq H6 (b := b2) e_3 rfl (by simp [x6]) rfl fun h7 H7 => ?_
   all_goals refine jq H7 (b := b4) e_3 rfl (by simp [x6]) rfl fun h8 H8 => ?_
   all_goals refine xQ H6 (b := b7) e_1 rfl H7 e_2 rfl rfl (by omega) (HS.lt H5 .here) ?_
   all_goals refine xQ H5 (b := b7) .here rfl H6 e_1 rfl rfl (by omega) (HS.lt H5 .here) ?_
   all_goals refine xQ H5 (b := b7) .here rfl H6 e_1 rfl rfl (by omega) (HS.lt H5 .here) ?_
   all_goals exact hj _ _ ⟨rfl, H8.sub (.cons e_2 (.cons e_1 (.cons .here (.drop .refl))))⟩
  by_cases hd : x = 8 ∨ x = 9
  ·have e : q9 x = ((0, 7), (0, 7), (0, 15)) := by unfold q9; rw [if_neg ha, if_neg hb, if_neg hc, if_pos hd]
   rw [e] at hj
   rcases hd with rfl | rfl
   all_goals (first | with_reducible (refine qK ?_; (try dsimp only); refine qX (by omega) ?_; refine qQ ?_; refine qX (by omega) ?_; refine qQ ?_; refine qX (by omega) ?_; refine qQ ?_; refine qK ?_; (try dsimp only); refine qX (by omega) ?_; refine qQ ?_; refine qX (by omega) ?_; refine qQ ?_; refine qK ?_; (try dsimp only); refine qX (by omega) ?_; refine qQ ?_; refine qX (by omega) ?_; refine qQ ?_; refine qX (by omega) ?_; refine qQ ?_; refine qX (by omega) ?_; refine qQ ?_; refine qX (by omega) ?_; refine qQ ?_; refine qK ?_; (try dsimp only); refine qX (by omega) ?_; refine qQ ?_; refine qg (by omega) ?_; refine qV ?_; refine qK ?_; (try dsimp only)) | with_reducible (refine qK ?_; (try dsimp only); refine qX (by omega) ?_; refine qQ ?_; refine qX (by omega) ?_; refine qQ ?_; refine qX (by omega) ?_; refine qQ ?_; refine qK ?_; (try dsimp only); refine qX (by omega) ?_; refine qQ ?_; refine qX (by omega) ?_; refine qQ ?_; refine qK ?_; (try dsimp only); refine qX (by omega) ?_; refine qQ ?_; refine qX (by omega) ?_; refine qQ ?_; refine qX (by omega) ?_; refine qQ ?_; refine qX (by omega) ?_; refine qQ ?_; refine qX (by omega) ?_; refine qQ ?_; refine qK ?_; (try dsimp only); refine qg (by omega) ?_; refine qV ?_; refine qV ?_; refine qK ?_; (try dsimp only)))
   all_goals refine qr H5 (b := b7) (off := 0) .here rfl (by omega) rfl ?_
   all_goals refine qr H5 (b := b7) (off := 0) .here rfl (by omega) rfl ?_
   all_goals refine qF (l := x6 (0, 15)) rfl ?_
   all_goals refine jq H5 (b := b0) e_3 rfl (by simp [x6]) rfl fun h6 H6 => ?_
   all_goals refine jq H6 (b := b2) e_3 rfl (by simp [x6]) rfl fun h7 H7 => ?_
   all_goals refine jq H7 (b := b4) e_3 rfl (by simp [x6]) rfl fun h8 H8 => ?_
   all_goals refine xQ H5 (b := b7) .here rfl H6 e_1 rfl rfl (by omega) (HS.lt H5 .here) ?_
   all_goals exact hj _ _ ⟨rfl, H8.sub (.cons e_2 (.cons e_1 (.cons .here (.drop .refl))))⟩
  by_cases he : x = 12
  ·have e : q9 x = ((0, 0), (0, 0), (0, 40)) := by unfold q9; rw [if_neg ha, if_neg hb, if_neg hc, if_neg hd, if_pos he]
   rw [e] at hj
   subst he
   with_reducible (refine qK ?_; (try dsimp only); refine qX (by omega) ?_; refine qQ ?_; refine qX (by omega) ?_; refine qQ ?_; refine qX (by omega) ?_; refine qQ ?_; refine qK ?_; (try dsimp only); refine qX (by omega) ?_; refine qQ ?_; refine qX (by omega) ?_; refine qQ ?_; refine qK ?_; (try dsimp only); refine qX (by omega) ?_; refine qQ ?_; refine qX (by omega) ?_; refine qQ ?_; refine qX (by omega) ?_; refine qQ ?_; refine qX (by omega) ?_; refine qQ ?_; refine qX (by omega) ?_; refine qQ ?_; refine qK ?_; (try dsimp only); refine qX (by omega) ?_; refine qQ ?_; refine qX (by omega) ?_; refine qQ ?_; refine qg (by omega) ?_; refine qV ?_; refine qF rfl ?_)
   refine jq H5 (b := b4) e_1 rfl (by simp [x6]) rfl fun h6 H6 => ?_
   exact hj _ _ ⟨rfl, H6.sub (.cons e_3 (.cons e_2 (.cons .here (.drop .refl))))⟩
  by_cases hf : x = 13
  ·have e : q9 x = ((0, 7), (0, 0), (0, 40)) := by unfold q9; rw [if_neg ha, if_neg hb, if_neg hc, if_neg hd, if_neg he, if_pos hf]
   rw [e] at hj
   subst hf
   with_reducible (refine qK ?_; (try dsimp only); refine qX (by omega) ?_; refine qQ ?_; refine qX (by omega) ?_; refine qQ ?_; refine qX (by omega) ?_; refine qQ ?_; refine qK ?_; (try dsimp only); refine qX (by omega) ?_; refine qQ ?_; refine qX (by omega) ?_; refine qQ ?_; refine qK ?_; (try dsimp only); refine qX (by omega) ?_; refine qQ ?_; refine qX (by omega) ?_; refine qQ ?_; refine qX (by omega) ?_; refine qQ ?_; refine qX (by omega) ?_; refine qQ ?_; refine qX (by omega) ?_; refine qQ ?_; refine qK ?_; (try dsimp only); refine qX (by omega) ?_; refine qQ ?_; refine qX (by omega) ?_; refine qQ ?_; refine qX (by omega) ?_; refine qQ ?_; refine qg (by omega) ?_; refine qV ?_)
   refine qr H5 (b := b7) (off := 0) .here rfl (by omega) rfl ?_
   refine qF (l := x6 (0, 40)) rfl ?_
   refine jq H5 (b := b0) e_3 rfl (by simp [x6]) rfl fun h6 H6 => ?_
   refine jq H6 (b := b4) e_2 rfl (by simp [x6]) rfl fun h7 H7 => ?_
   exact hj _ _ ⟨rfl, H7.sub (.cons e_1 (.cons e_2 (.cons .here (.drop .refl))))⟩
  by_cases hg : x = 23
  ·have e : q9 x = ((1, 12), (0, 7), (0, 6)) := by unfold q9; rw [if_neg ha, if_neg hb, if_neg hc, if_neg hd, if_neg he, if_neg hf, if_pos hg]
   rw [e] at hj
   subst hg
   with_reducible (refine qK ?_; (try dsimp only); refine qX (by omega) ?_; refine qQ ?_; refine qX (by omega) ?_; refine qQ ?_; refine qX (by omega) ?_; refine qQ ?_; refine qK ?_; (try dsimp only); refine qX (by omega) ?_; refine qQ ?_; refine qX (by omega) ?_; refine qQ ?_; refine qK ?_; (try dsimp only); refine qX (by omega) ?_; refine qQ ?_; refine qX (by omega) ?_; refine qQ ?_; refine qX (by omega) ?_; refine qQ ?_; refine qX (by omega) ?_; refine qQ ?_; refine qX (by omega) ?_; refine qQ ?_; refine qK ?_; (try dsimp only); refine qX (by omega) ?_; refine qQ ?_; refine qX (by omega) ?_; refine qQ ?_; refine qX (by omega) ?_; refine qQ ?_; refine qX (by omega) ?_; refine qQ ?_; refine qg (by omega) ?_; refine qV ?_; refine qF rfl ?_; refine qF rfl ?_; refine qF rfl ?_)
   refine jq H5 (b := b0) e_3 rfl (by simp [x6]) rfl fun h6 H6 => ?_
   refine jq H6 (b := b2) e_3 rfl (by simp [x6]) rfl fun h7 H7 => ?_
   refine jq H7 (b := b4) e_3 rfl (by simp [x6]) rfl fun h8 H8 => ?_
   exact hj _ _ ⟨rfl, H8.sub (.cons e_2 (.cons e_1 (.cons .here (.drop .refl))))⟩
  ·have e : q9 x = ((0, 0), (0, 0), (0, 0)) := by unfold q9; rw [if_neg ha, if_neg hb, if_neg hc, if_neg hd, if_neg he, if_neg hf, if_neg hg]
   rw [e] at hj ⊢
   with_reducible (refine qK ?_; (try dsimp only); refine qX (by omega) ?_; refine qQ ?_; refine qX (by omega) ?_; refine qQ ?_; refine qX (by omega) ?_; refine qQ ?_; refine qK ?_; (try dsimp only); refine qX (by omega) ?_; refine qQ ?_; refine qX (by omega) ?_; refine qQ ?_; refine qK ?_; (try dsimp only); refine qX (by omega) ?_; refine qQ ?_; refine qX (by omega) ?_; refine qQ ?_; refine qX (by omega) ?_; refine qQ ?_; refine qX (by omega) ?_; refine qQ ?_; refine qX (by omega) ?_; refine qQ ?_; refine qK ?_; (try dsimp only); refine qX (by omega) ?_; refine qQ ?_; refine qX (by omega) ?_; refine qQ ?_; refine qX (by omega) ?_; refine qQ ?_; refine qX (by omega) ?_; refine qQ ?_; refine qX (by omega) ?_; refine qQ ?_)
   exact hj _ _ ⟨rfl, H5.sub (.cons e_3 (.cons e_2 (.cons e_1 (.drop .refl))))⟩
 ·rintro s h6 ⟨rfl, H6⟩
  dsimp only
  generalize q9 x = F at *
  refine qK ?_
  refine qr H6 (b := b0) (off := 0) .here rfl (by omega) rfl ?_
  refine qr H6 (b := b2) (off := 0) e_1 rfl (by omega) rfl ?_
  refine qr H6 (b := b4) (off := 0) e_2 rfl (by omega) rfl ?_
  refine jq H6 (b := b0) .here rfl (by simp [x6]) rfl fun h7 H7 => ?_
  refine jq H7 (b := b2) e_1 rfl (by simp [x6]) rfl fun h8 H8 => ?_
  refine jq H8 (b := b4) e_2 rfl (by simp [x6]) rfl fun h9 H9 => ?_
  refine xQ H7 (b := b4) e_2 rfl H8 e_2 rfl rfl (by omega) (HS.lt H6 e_2) ?_
  refine xQ H6 (b := b4) e_2 rfl H7 e_2 rfl rfl (by omega) (HS.lt H6 e_2) ?_
  refine xQ H6 (b := b2) e_1 rfl H7 e_1 rfl rfl (by omega) (HS.lt H6 e_1) ?_
  refine qj ?_
  refine qr H9 (b := b0) (off := 0) e_2 rfl (by omega) rfl ?_
  refine qr H9 (b := b2) (off := 0) e_1 rfl (by omega) rfl ?_
  refine qr H9 (b := b4) (off := 0) .here rfl (by omega) rfl ?_
  exact qW ⟨rfl, H9.drop.drop.drop⟩
def nameL : List (List UInt8) := [[], [115, 101, 116], [109, 111, 118, 101], [97, 100, 100], [115, 117, 98], [109, 117, 108], [108, 101, 115, 115], [101, 113, 117, 97, 108], [108, 111, 97, 100], [115, 116, 111, 114, 101], [97, 108, 108, 111, 99], [102, 114, 101, 101], [106, 117, 109, 112], [122, 101, 114, 111], [111, 112, 101, 110], [99, 108, 111, 115, 101], [117, 110, 100, 111], [101, 105, 116, 104, 101, 114], [111, 114], [100, 111, 110, 101], [114, 101, 116, 114, 121], [101, 109, 105, 116], [102, 97, 105, 108], [99, 97, 108, 108]]
theorem qQu {p : Nat} (hp : p < 24) : ∃ s, nameL[p]? = some s ∧ Kp .neq s [] = some (.bool (decide (1 ≤ (p : Int) ∧ (p : Int) ≤ 23))) := by
 match p, hp with
 | 0, _ => exact ⟨_, rfl, rfl⟩
 | 1, _ => exact ⟨_, rfl, rfl⟩
 | 2, _ => exact ⟨_, rfl, rfl⟩
 | 3, _ => exact ⟨_, rfl, rfl⟩
 | 4, _ => exact ⟨_, rfl, rfl⟩
 | 5, _ => exact ⟨_, rfl, rfl⟩
 | 6, _ => exact ⟨_, rfl, rfl⟩
 | 7, _ => exact ⟨_, rfl, rfl⟩
 | 8, _ => exact ⟨_, rfl, rfl⟩
 | 9, _ => exact ⟨_, rfl, rfl⟩
 | 10, _ => exact ⟨_, rfl, rfl⟩
 | 11, _ => exact ⟨_, rfl, rfl⟩
 | 12, _ => exact ⟨_, rfl, rfl⟩
 | 13, _ => exact ⟨_, rfl, rfl⟩
 | 14, _ => exact ⟨_, rfl, rfl⟩
 | 15, _ => exact ⟨_, rfl, rfl⟩
 | 16, _ => exact ⟨_, rfl, rfl⟩
 | 17, _ => exact ⟨_, rfl, rfl⟩
 | 18, _ => exact ⟨_, rfl, rfl⟩
 | 19, _ => exact ⟨_, rfl, rfl⟩
 | 20, _ => exact ⟨_, rfl, rfl⟩
 | 21, _ => exact ⟨_, rfl, rfl⟩
 | 22, _ => exact ⟨_, rfl, rfl⟩
 | 23, _ => exact ⟨_, rfl, rfl⟩
 | k + 24, h => exact absurd h (by omega)
theorem Zu {n : Nat} (hn : 2 ≤ n) {x : Int} (H : HS g h R) : wp (callT tab qy n (.fn 154 [] []) [.int .i64 x] h) fun v h' => ∃ s, v = .str s ∧ Kp .neq s [] = some (.bool (decide (1 ≤ x ∧ x ≤ 23))) ∧ HS g h' R := by
 (refine qM (g := (tD1 S154)) rfl (by omega) fun k hk => ?_; show wp (S154 (callT tab qy k) _ _).1 _; unfold S154; try simp only [ Int.ofNat_eq_natCast])
 refine qq (Q' := fun v h' => ∃ e, HS g h' (qA e 1 24 v (nameL.map .str) :: R)) ?_ ?_
 ·(refine qM (g := W220) rfl (by omega) fun k hk => ?_; show wp (S220 (callT tab qy k) _) _; unfold S220; try simp only [iI, uU, Int.ofNat_eq_natCast])
  exact qf (n := 24) (l := nameL.map .str) (sz := 1) H rfl rfl rfl rfl fun v h1 H1 => qW ⟨_, H1⟩
 rintro v h1 ⟨e, H1⟩
 refine qq (Q' := fun w h' => ∃ s, w = .str s ∧ Kp .neq s [] = some (.bool (decide (1 ≤ x ∧ x ≤ 23))) ∧ h' = h1) ?_ ?_
 ·(refine qM (g := (tD2 S219)) rfl (by omega) fun k hk => ?_; show wp (S219 (callT tab qy k) _ _ _).1 _; unfold S219; try simp only [ Int.ofNat_eq_natCast])
  by_cases c0 : x < 0
  ·with_reducible (refine jw (by omega) ?_; refine qK ?_; (try dsimp only); refine qS ?_; (try dsimp only); refine qC ?_; refine qV ?_)
   exact qW ⟨[], rfl, by rw [decide_eq_false (by omega)]; rfl, rfl⟩
  ·refine jW (by omega) ?_
   with_reducible (refine qK ?_; (try dsimp only); refine qw ?_; (try dsimp only); refine qa (by assumption) .here ?_)
   by_cases c1 : x < 24
   ·obtain ⟨p, rfl⟩ : ∃ p : Nat, x = (p : Int) := ⟨x.toNat, by omega⟩
    obtain ⟨s, hs, ht⟩ := qQu (show p < 24 by omega)
    with_reducible (refine q8 (by omega) ?_; refine qx ?_; refine qQ ?_)
    refine jN (H1.sl .here) (x := .str s) (by rw [List.getElem?_map, hs]; rfl) (qW ⟨s, rfl, ht, rfl⟩)
   ·with_reducible (refine jZ (by omega) ?_; refine qx ?_; refine qV ?_)
    exact qW ⟨[], rfl, by rw [decide_eq_false (by omega)]; rfl, rfl⟩
 ·rintro _ h2 ⟨s, rfl, ht, rfl⟩
  exact qW ⟨s, rfl, ht, H1.drop⟩
theorem qZL {n : Nat} (hn : 3 ≤ n) {x : qO} (H : HS g h R) : wp (callT tab qy n (.fn 103 [] []) [.agg (qe x)] h) fun v h' => v = .bool (xd x) ∧ HS g h' R := by
 (refine qM (g := (tD1 S103)) rfl (by omega) fun k hk => ?_; show wp (S103 (callT tab qy k) _ _).1 _; unfold S103; try simp only [ Int.ofNat_eq_natCast])
 obtain ⟨op, a, b, c, q⟩ := x
 refine qb H rfl fun b0 h1 H1 => ?_
 have H1 : HS g h1 (qB b0 [.int .i64 op, .int .i64 a, .int .i64 b, .int .i64 c, .int .u64 q] :: R) := H1
 with_reducible (refine qJ ?_; refine qG (by assumption) .here rfl ?_)
 refine qq (VC (by omega) H1) ?_
 rintro _ h2 ⟨rfl, H2⟩
 have hM : xd (op, a, b, c, q) = (decide (1 ≤ op ∧ op ≤ 23) && xI (q9 op).1 a && xI (q9 op).2.1 b && xI (q9 op).2.2 c && decide (q = 0 ∨ op = 1)) := rfl
 rw [hM]
 generalize q9 op = F at *
 obtain ⟨f1, f2, f3⟩ := F
 dsimp only
 with_reducible (refine qz rfl ?_; refine qz rfl ?_; refine qz rfl ?_)
 refine qb H2 rfl fun b1 h3 H3 => ?_
 refine qb H3 rfl fun b2 h4 H4 => ?_
 refine qb H4 rfl fun b3 h5 H5 => ?_
 refine jq H5 (b := b1) e_2 rfl (by simp) rfl fun h6 H6 => ?_
 refine jq H6 (b := b2) e_2 rfl (by simp) rfl fun h7 H7 => ?_
 refine jq H7 (b := b3) e_2 rfl (by simp) rfl fun h8 H8 => ?_
 have H8 : HS g h8 (qB b3 (x6 f3) :: qB b2 (x6 f2) :: qB b1 (x6 f1) :: qB b0 [.int .i64 op, .int .i64 a, .int .i64 b, .int .i64 c, .int .u64 q] :: R) := H8
 clear H H1 H2 H3 H4 H5 H6 H7
 with_reducible (refine qJ ?_; refine qG (by assumption) e_3 rfl ?_)
 refine qq (Zu (by omega) H8) ?_
 rintro _ h9 ⟨s, rfl, ht, H⟩
 refine qZt ht ?_
 clear H8
 by_cases c1 : 1 ≤ op ∧ op ≤ 23
 rotate_left
 ·rw [decide_eq_false c1]
  with_reducible (refine qK ?_; (try dsimp only); refine qR ?_; (try dsimp only); refine qx ?_; refine qK ?_; (try dsimp only); refine qR ?_; (try dsimp only); refine qx ?_; refine qK ?_; (try dsimp only); refine qR ?_; (try dsimp only); refine qx ?_; refine qK ?_; (try dsimp only); refine qR ?_; (try dsimp only); refine qK ?_; (try dsimp only); refine jY ?_; (try dsimp only); refine qK ?_; (try dsimp only); refine qR ?_; (try dsimp only); refine qx ?_)
  exact qW ⟨rfl, H.drop.drop.drop.drop⟩
 rw [decide_eq_true c1]
 with_reducible (refine qK ?_; (try dsimp only); refine qT ?_; (try dsimp only))
 refine qr H (b := b1) (off := 0) e_2 rfl (by omega) rfl ?_
 with_reducible (refine qJ ?_; refine qG (by assumption) e_3 rfl ?_)
 refine qq (J8 (by omega) H) ?_
 rintro _ h10 ⟨rfl, H10⟩
 cases hf1 : xI f1 a
 ·with_reducible (refine qC ?_; refine qK ?_; (try dsimp only); refine qR ?_; (try dsimp only); refine qx ?_; refine qK ?_; (try dsimp only); refine qR ?_; (try dsimp only); refine qx ?_; refine qK ?_; (try dsimp only); refine qR ?_; (try dsimp only); refine qK ?_; (try dsimp only); refine jY ?_; (try dsimp only); refine qK ?_; (try dsimp only); refine qR ?_; (try dsimp only); refine qx ?_)
  exact qW ⟨rfl, H10.drop.drop.drop.drop⟩
 with_reducible (refine qC ?_; refine qK ?_; (try dsimp only); refine qT ?_; (try dsimp only))
 refine qr H10 (b := b2) (off := 0) e_1 rfl (by omega) rfl ?_
 with_reducible (refine qJ ?_; refine qG (by assumption) e_3 rfl ?_)
 refine qq (J8 (by omega) H10) ?_
 rintro _ h11 ⟨rfl, H11⟩
 cases hf2 : xI f2 b
 ·with_reducible (refine qC ?_; refine qK ?_; (try dsimp only); refine qR ?_; (try dsimp only); refine qx ?_; refine qK ?_; (try dsimp only); refine qR ?_; (try dsimp only); refine qK ?_; (try dsimp only); refine jY ?_; (try dsimp only); refine qK ?_; (try dsimp only); refine qR ?_; (try dsimp only); refine qx ?_)
  exact qW ⟨rfl, H11.drop.drop.drop.drop⟩
 with_reducible (refine qC ?_; refine qK ?_; (try dsimp only); refine qT ?_; (try dsimp only))
 refine qr H11 (b := b3) (off := 0) .here rfl (by omega) rfl ?_
 with_reducible (refine qJ ?_; refine qG (by assumption) e_3 rfl ?_)
 refine qq (J8 (by omega) H11) ?_
 rintro _ h12 ⟨rfl, H12⟩
 cases hf3 : xI f3 c
 ·with_reducible (refine qC ?_; refine qK ?_; (try dsimp only); refine qR ?_; (try dsimp only); refine qK ?_; (try dsimp only); refine jY ?_; (try dsimp only); refine qK ?_; (try dsimp only); refine qR ?_; (try dsimp only); refine qx ?_)
  exact qW ⟨rfl, H12.drop.drop.drop.drop⟩
 by_cases c2 : q = 0
 ·with_reducible (refine qC ?_; refine qK ?_; (try dsimp only); refine qT ?_; (try dsimp only); refine qJ ?_; refine qG (by assumption) e_3 rfl ?_; refine qg (by omega) ?_; refine qK ?_; (try dsimp only); refine qS ?_; (try dsimp only); refine qK ?_; (try dsimp only); refine qT ?_; (try dsimp only); refine qC ?_; refine qC ?_)
  exact qW ⟨by rw [decide_eq_true (.inl c2)]; rfl, H12.drop.drop.drop.drop⟩
 by_cases c3 : op = 1
 ·with_reducible (refine qC ?_; refine qK ?_; (try dsimp only); refine qT ?_; (try dsimp only); refine qJ ?_; refine qG (by assumption) e_3 rfl ?_; refine qX (by omega) ?_; refine qK ?_; (try dsimp only); refine qw ?_; (try dsimp only); refine qJ ?_; refine qG (by assumption) e_3 rfl ?_; refine qg (by omega) ?_; refine qK ?_; (try dsimp only); refine qT ?_; (try dsimp only); refine qx ?_; refine qC ?_)
  exact qW ⟨by rw [decide_eq_true (.inr c3)]; rfl, H12.drop.drop.drop.drop⟩
 ·with_reducible (refine qC ?_; refine qK ?_; (try dsimp only); refine qT ?_; (try dsimp only); refine qJ ?_; refine qG (by assumption) e_3 rfl ?_; refine qX (by omega) ?_; refine qK ?_; (try dsimp only); refine qw ?_; (try dsimp only); refine qJ ?_; refine qG (by assumption) e_3 rfl ?_; refine qX (by omega) ?_; refine qK ?_; (try dsimp only); refine qT ?_; (try dsimp only); refine qx ?_; refine qC ?_)
  exact qW ⟨by rw [decide_eq_false (fun h => h.elim c2 c3)]; rfl, H12.drop.drop.drop.drop⟩
end Go.Proofs.YtdlfmpmpmkffjaaGreatDoor
namespace Go.Proofs.YtdlfmpmpmkffjaaGreatDoor
open Go Go.Ae
set_option maxRecDepth 100000
variable {g h : AH} {L R : List SP}
theorem qJT {l : List qO} {i : Nat} (hi : i < l.length) : qL l (i : Int) = l[i] := by
 unfold qL
 rw [show ((i : Int)).toNat = i by omega, List.getElem?_eq_getElem hi]; rfl
theorem Oi {n : Nat} (hn : 2 ≤ n) {l : List qO} {st : List Int} {sv tv : AV} (H : HS g h R) (S : Rd g R 5 l.length sv (l.flatMap qe)) (T : Rd g R 1 st.length tv (st.map (.int .i64))) (hs : StOk l.length st) (hl : st.length < 1000) :
  wp (callT tab qy n (.fn 104 [] []) [tv, .agg [sv]] h) fun v h' => v = .int .i64 (opM l st) ∧ HS g h' R := by
 (refine qM (g := (tD2 S104)) rfl (by omega) fun k hk => ?_; show wp (S104 (callT tab qy k) _ _ _).1 _; unfold S104; try simp only [ Int.ofNat_eq_natCast])
 refine qb H (xg (vP (S.sl H))) fun b h1 H1 => ?_
 refine zq (T.sl H1.drop) ?_
 unfold opM
 by_cases h0 : st = []
 ·subst h0
  rw [if_pos rfl]
  skip
  exact qW ⟨rfl, H1.drop⟩
 ·have hl0 : st.length ≠ 0 := fun h => h0 (List.eq_nil_of_length_eq_zero h)
  rw [if_neg h0]
  with_reducible (refine qX (by omega) ?_; refine qQ ?_; refine qK ?_; (try dsimp only); refine qJ ?_; refine qG (by assumption) .here rfl ?_)
  refine qq (k8 (by omega) (T.sl H1.drop) hl) ?_
  rintro _ h1 ⟨rfl, rfl⟩
  have hi := hs.inmost h0
  generalize qm st = p at *
  obtain ⟨p, rfl⟩ : ∃ q : Nat, p = (q : Int) := ⟨p.toNat, by omega⟩
  have hp : p < l.length := by omega
  refine zj (x := .int .i64 l[p].1) (S.sl H1.drop) (by omega) hp (by rw [zH (sz := 5) qe (fun _ => rfl) _ _ _ (by omega), List.getElem?_eq_getElem hp]; rfl) ?_
  with_reducible (refine je (by assumption) .here rfl (by assumption) .here rfl (HS.lt (by assumption) .here) ?_)
  exact qW ⟨by rw [qJT hp], H1.drop⟩
theorem M7 {n : Nat} (hn : 4 ≤ n) {l : List qO} {st : List Int} {sv tv : AV} {x : qO} (H : HS g h R) (S : Rd g R 5 l.length sv (l.flatMap qe)) (T : Rd g R 1 st.length tv (st.map (.int .i64))) (hs : StOk l.length st) (hl : st.length < 1000) :
  wp (callT tab qy n (.fn 72 [] []) [.agg [sv], tv, .agg (qe x)] h) fun v h' => v = .int .i64 (zX l st x) ∧ HS g h' R := by
 (refine qM (g := (tD3 S72)) rfl (by omega) fun k hk => ?_; show wp (S72 (callT tab qy k) _ _ _ _).1 _; unfold S72; try simp only [ Int.ofNat_eq_natCast])
 refine qb H (xg (vP (S.sl H))) fun b0 h1 H1 => ?_
 refine qb H1 rfl fun b2 h2 H2 => ?_
 refine qr H2 (b := b2) (off := 0) .here rfl (by omega) rfl ?_
 refine qq (qZL (by omega) H2) ?_
 rintro _ h3 ⟨rfl, H3⟩
 clear H H1 H2
 obtain ⟨op, a, b, c, q⟩ := x
 have hW : zX l st (op, a, b, c, q) = if xd (op, a, b, c, q) = false then 8 else if 0 < jB op ∧ opM l st ≠ jB op then 12 else if op = 16 ∧ opM l st ≠ 14 then 12 else if zJ op = true ∧ 5 ≤ st.length then 9 else 0 := rfl
 rw [hW]
 have H3 : HS g h3 (qB b2 [.int .i64 op, .int .i64 a, .int .i64 b, .int .i64 c, .int .u64 q] :: qB b0 [sv] :: R) := H3
 cases xd (op, a, b, c, q)
 ·refine jj ?_; refine qV ?_
  exact qW ⟨rfl, H3.drop.drop⟩
 rw [if_neg (by simp)]
 (first | with_reducible refine qV ?_ | with_reducible refine qQ ?_ | (with_reducible refine qT ?_; try dsimp only) | (with_reducible refine qS ?_; try dsimp only) | (with_reducible refine qR ?_; try dsimp only) | (with_reducible refine qw ?_; try dsimp only) | (with_reducible refine jY ?_; try dsimp only) | with_reducible refine qC ?_ | with_reducible refine qx ?_ | (with_reducible refine qK ?_; try dsimp only) | with_reducible refine qj ?_ | with_reducible refine qn ?_ | with_reducible refine jj ?_ | with_reducible refine qE (by omega) ?_ | with_reducible refine qc (by omega) ?_ | with_reducible refine zh (by omega) ?_ | with_reducible refine zu (by omega) ?_ | with_reducible refine zr ?_ | with_reducible refine zp ?_)
 (first | with_reducible refine qV ?_ | with_reducible refine qQ ?_ | (with_reducible refine qT ?_; try dsimp only) | (with_reducible refine qS ?_; try dsimp only) | (with_reducible refine qR ?_; try dsimp only) | (with_reducible refine qw ?_; try dsimp only) | (with_reducible refine jY ?_; try dsimp only) | with_reducible refine qC ?_ | with_reducible refine qx ?_ | (with_reducible refine qK ?_; try dsimp only) | with_reducible refine qj ?_ | with_reducible refine qn ?_ | with_reducible refine jj ?_ | with_reducible refine qE (by omega) ?_ | with_reducible refine qc (by omega) ?_ | with_reducible refine zh (by omega) ?_ | with_reducible refine zu (by omega) ?_ | with_reducible refine zr ?_ | with_reducible refine zp ?_)
 refine QM (fun s h' => s = (.bool (decide (0 < jB op ∧ opM l st ≠ jB op)), .ptr b2 0, .ptr b0 0, tv, ()) ∧ HS g h' (qB b2 [.int .i64 op, .int .i64 a, .int .i64 b, .int .i64 c, .int .u64 q] :: qB b0 [sv] :: R)) ?_ ?_
 ·intro j hj
  with_reducible (refine qJ ?_; refine qG (by assumption) .here rfl ?_)
  refine qq (QE (by omega)) ?_
  rintro _ h3 ⟨rfl, rfl⟩
  by_cases h1 : 0 < jB op
  ·with_reducible (refine ji (by omega) ?_; refine qT ?_; (try dsimp only))
   refine qr H3 (b := b0) (off := 0) e_1 rfl (by omega) rfl ?_
   refine qq (Oi (by omega) H3 S.more.more T.more.more hs hl) ?_
   rintro _ h4 ⟨rfl, H4⟩
   with_reducible (refine qJ ?_; refine qG (by assumption) .here rfl ?_)
   refine qq (QE (by omega)) ?_
   rintro _ h4 ⟨rfl, rfl⟩
   refine Xm ?_
   with_reducible (refine qC ?_; refine je (by assumption) .here rfl (by assumption) .here rfl (HS.lt (by assumption) .here) ?_)
   refine hj _ _ ⟨?_, H4⟩
   congr 2
   exact decide_eq_decide.2 ⟨fun h => ⟨h1, h⟩, fun h => h.2⟩
  ·with_reducible (refine ja (by omega) ?_; refine qR ?_; (try dsimp only); refine qx ?_)
   refine hj _ _ ⟨?_, H3⟩
   rw [decide_eq_false (fun h => h1 h.1)]
 clear H3
 rintro s h4 ⟨rfl, H⟩
 dsimp only
 by_cases hA : 0 < jB op ∧ opM l st ≠ jB op
 ·rw [decide_eq_true hA, if_pos hA]
  refine qV ?_
  exact qW ⟨rfl, H.drop.drop⟩
 rw [decide_eq_false hA, if_neg hA]
 with_reducible (refine qQ ?_; refine qJ ?_; refine qG (by assumption) .here rfl ?_)
 refine gU ?_
 refine QM (fun s h' => ∃ (r : AV) (u x : Bool), s = (r, .bool u, .ptr b2 0, tv, ()) ∧ (u = true → r = .bool x) ∧ ((u && x) = decide (op = 16 ∧ opM l st ≠ 14)) ∧ HS g h' (qB b2 [.int .i64 op, .int .i64 a, .int .i64 b, .int .i64 c, .int .u64 q] :: qB b0 [sv] :: R)) ?_ ?_
 ·intro j hj
  by_cases h1 : op = 16
  ·rw [decide_eq_true (show op = ((16 : Nat) : Int) from h1)]
   with_reducible (refine qT ?_; (try dsimp only))
   refine qr H (b := b0) (off := 0) e_1 rfl (by omega) rfl ?_
   refine qq (Oi (by omega) H S.more.more T.more.more hs hl) ?_
   rintro _ h4 ⟨rfl, H4⟩
   refine Xm (hj _ _ ⟨_, true, decide (¬ opM l st = 14), rfl, fun _ => rfl, ?_, H4⟩)
   rw [Bool.true_and]
   exact decide_eq_decide.2 ⟨fun h => ⟨h1, h⟩, fun h => h.2⟩
  ·rw [decide_eq_false (show ¬ op = ((16 : Nat) : Int) from h1)]
   with_reducible (refine qR ?_; (try dsimp only))
   refine hj _ _ ⟨_, false, false, rfl, (fun h => by cases h), ?_, H⟩
   rw [decide_eq_false (fun h => h1 h.1)]; rfl
 clear H
 rintro s h4 ⟨r, u, y, rfl, hr, hu, H⟩
 dsimp only
 refine KL hr ?_
 rw [hu]
 by_cases hB : op = 16 ∧ opM l st ≠ 14
 ·rw [decide_eq_true hB, if_pos hB]
  refine qV ?_
  exact qW ⟨rfl, H.drop.drop⟩
 rw [decide_eq_false hB, if_neg hB]
 with_reducible (refine qQ ?_; refine qJ ?_; refine qG (by assumption) .here rfl ?_)
 refine qq (XZ (by omega)) ?_
 rintro _ h4 ⟨rfl, rfl⟩
 cases hb : zJ op
 ·rw [if_neg (by simp)]
  with_reducible (refine qK ?_; (try dsimp only); refine qR ?_; (try dsimp only); refine qx ?_; refine qQ ?_)
  exact qW ⟨rfl, H.drop.drop⟩
 ·with_reducible (refine qK ?_; (try dsimp only); refine qT ?_; (try dsimp only))
  refine zq (T.sl H.drop.drop) ?_
  by_cases h5 : 5 ≤ st.length
  ·rw [if_pos ⟨rfl, h5⟩]
   with_reducible (refine jZ (by omega) ?_; refine qC ?_; refine qV ?_)
   exact qW ⟨rfl, H.drop.drop⟩
  ·rw [if_neg (fun h => h5 h.2)]
   with_reducible (refine q8 (by omega) ?_; refine qC ?_; refine qQ ?_)
   exact qW ⟨rfl, H.drop.drop⟩
def StC (v : AV) (st : List Int) : SP := qA 3 1 st.length v (st.map (.int .i64))
theorem Xu {n : Nat} (hn : 2 ≤ n) {st : List Int} {tv : AV} {i op : Int} (H : HS g h (StC tv st :: R)) (hs : 0 < jB op → st ≠ []) (hl : st.length < 1000) :
  wp (callT tab qy n (.fn 73 [] []) [tv, .int .i64 i, .int .i64 op] h) fun v h' => HS g h' (StC v (qp st i op) :: R) := by
 (refine qM (g := (tD3 S73)) rfl (by omega) fun k hk => ?_; show wp (S73 (callT tab qy k) _ _ _ _).1 _; unfold S73; try simp only [ Int.ofNat_eq_natCast])
 refine zM [] (fun s h' => ∃ v, s = (.int .i64 op, .int .i64 i, v, ()) ∧ HS g h' (StC v (if 0 < jB op then st.dropLast else st) :: R)) ?_ ?_
 ·intro j hj
  refine qq (QE (by omega)) ?_
  rintro _ h ⟨rfl, rfl⟩
  by_cases h1 : 0 < jB op
  ·have hne := hs h1
   have hl0 : st.length ≠ 0 := fun h => hne (List.eq_nil_of_length_eq_zero h)
   rw [if_pos h1] at hj
   refine ji h1 (qV ?_)
   refine zq (H.sl (e := 3) .here) ?_
   refine qc (by omega) ?_
   rw [show (st.length : Int) - ((1 : Nat) : Int) = ((st.length - 1 : Nat) : Int) by omega]
   refine yj H (by omega) (by omega) fun v H1 => ?_
   refine hj _ _ ⟨v, rfl, ?_⟩
   unfold StC
   rw [List.length_dropLast, List.dropLast_eq_take, List.map_take]
   rw [Nat.mul_one] at H1
   exact H1
  ·rw [if_neg h1] at hj
   refine ja h1 (qQ ?_)
   exact hj _ _ ⟨tv, rfl, H⟩
 clear H
 rintro s h1 ⟨v, rfl, H⟩
 unfold qp
 have hl2 : (if 0 < jB op then st.dropLast else st).length < 1000 := by
  split
  ·rw [List.length_dropLast]; omega
  ·exact hl
 generalize (if 0 < jB op then st.dropLast else st) = st at *
 dsimp only
 with_reducible (refine qK ?_; (try dsimp only))
 refine qq (XZ (by omega)) ?_
 rintro _ h1 ⟨rfl, rfl⟩
 have push : ∀ {K : AV → AH → Go.Ae.R} {Q : AV → AH → Prop}, (∀ v' h', HS g h' (StC v' (st ++ [i]) :: R) → wp (K v' h') Q) →
   wp (j4 h1 3 [.int .i64 ((0 : Nat) : Int)] 1 [(0, 1, .int .i64 i)] fun v15 h16 => j0 h16 3 1 v v15 K) Q := by
  intro K Q w
  refine qf (n := 1) (l := [.int .i64 i]) (sz := 1) H rfl rfl rfl rfl fun v5 h5 H5 => ?_
  refine jc (H5.sel e_1) (H5.sl .here) (by omega) (by omega) rfl fun v6 h6 H6 => w v6 h6 ?_
  unfold StC
  rw [List.map_append, List.length_append]
  exact H6.sub (.cons .here (.drop .refl))
 cases hb : zJ op
 ·by_cases h18 : op = 18
  ·rw [if_pos (.inr h18)]
   with_reducible (refine qK ?_; (try dsimp only); refine qw ?_; (try dsimp only); refine qg (by omega) ?_; refine qx ?_; refine qV ?_)
   exact push fun v' h' H' => qj (qW H')
  ·rw [if_neg (by simp; exact h18)]
   with_reducible (refine qK ?_; (try dsimp only); refine qw ?_; (try dsimp only); refine qX (by omega) ?_; refine qx ?_; refine qQ ?_; refine qj ?_)
   exact qW H
 ·rw [if_pos (.inl rfl)]
  with_reducible (refine qK ?_; (try dsimp only); refine qS ?_; (try dsimp only); refine qC ?_; refine qV ?_)
  exact push fun v' h' H' => qj (qW H')
theorem Ql {l : List qO} {i : Nat} {st : List Int} (hi : i < l.length) : goM l (l.drop i) i st = if zX l st l[i] = 0 then goM l (l.drop (i + 1)) (i + 1) (qp st i l[i].1) else .inl ((i : Int), zX l st l[i]) := by
 rw [List.drop_eq_getElem_cons hi]; rfl
theorem YK {l : List qO} {i : Nat} {st : List Int} (hi : i < l.length) : zg (l.drop i) i st = qm st :: zg (l.drop (i + 1)) (i + 1) (qp st i l[i].1) := by
 rw [List.drop_eq_getElem_cons hi]; rfl
theorem k9 {l : List qO} {a : List Int} {i : Nat} (hi : i < l.length) : kJ l a (l.drop i) i = if wk l a i l[i] then ((i : Int), 2) else kJ l a (l.drop (i + 1)) (i + 1) := by
 rw [List.drop_eq_getElem_cons hi]; rfl
theorem vS {l : List qO} {i : Nat} (hi : i < l.length) : ((l.flatMap qe).drop (i * 5)).take 5 = qe l[i] := JS (sz := 5) (fun _ => rfl) (List.getElem?_eq_getElem hi)
theorem Jy {n : Nat} (hn : 3 ≤ n) {l : List qO} {st' : List Int} {sv : AV} (H : HS g h R) (S : Rd g R 5 l.length sv (l.flatMap qe)) (hg : goM l l 0 [] = .inr st') (hl : l.length ≤ 100) :
  wp (callT tab qy n (.fn 76 [] []) [.agg [sv]] h) fun v h' => HS g h' (qA 3 1 l.length v ((zg l 0 []).map (.int .i64)) :: R) := by
 (refine qM (g := (tD1 S76)) rfl (by omega) fun k hk => ?_; show wp (S76 (callT tab qy k) _ _).1 _; unfold S76; try simp only [ Int.ofNat_eq_natCast])
 refine qb H (xg (vP (S.sl H))) fun b0 h1 H1 => ?_
 with_reducible (refine qJ ?_; refine qG (by assumption) .here rfl ?_)
 refine zq (S.sl H1.drop) ?_
 refine QL (n := l.length) H1 (by omega) fun ov h2 H2 => ?_
 with_reducible (refine qJ ?_; refine qG (by assumption) e_1 rfl ?_)
 refine zq (S.sl H2.drop.drop) ?_
 refine jz (fun m s h' => ∃ (i : Nat) (st A : List Int) (tv : AV), s = (.int .i64 (i : Int), .int .i64 (l.length : Int), sv, tv, ov, ()) ∧ i ≤ l.length ∧ m = l.length - i ∧ StOk i st ∧ st.length ≤ i ∧ goM l (l.drop i) i st = .inr st' ∧ A.length = i ∧ zg l 0 [] = A ++ zg (l.drop i) i st ∧
  HS g h' (qA 3 1 l.length ov ((A ++ List.replicate (l.length - i) 0).map (.int .i64)) :: StC tv st :: R))
  ?_ (m := l.length) (by show _ < 1000000000; omega) ⟨0, [], [], .nils, rfl, by omega, by omega, StOk.nil, by simp, hg, rfl, rfl, by
   rw [List.nil_append, List.map_replicate]
   exact (H2.nils (e := 3) (sz := 1)).sub (.cons e_1 (.cons .here (.drop .refl)))⟩
 clear H H1 H2
 rintro m ih s h3 hih ⟨i, st, A, tv, rfl, hi, rfl, hs, hsl, hgo, hA, hR, H⟩
 dsimp only
 by_cases hlt : i < l.length
 ·rw [Ql hlt] at hgo
  rw [YK hlt] at hR
  have hrow := vS hlt
  generalize l[i] = x at *
  by_cases hw : zX l st x = 0
  rotate_left
  ·rw [if_neg hw] at hgo; cases hgo
  rw [if_pos hw] at hgo
  have ho := zK hw
  with_reducible (refine jw (by omega) ?_; refine qV ?_)
  refine zG (S.sl H.drop.drop) hlt (by omega) hrow ?_
  refine qb H rfl fun b h4 H4 => ?_
  refine jq H4 (b := b) .here rfl (by simp [qe]) rfl fun h5 H5 => ?_
  have H5 : HS g h5 (qB b (qe x) :: qA 3 1 l.length ov ((A ++ List.replicate (l.length - i) 0).map (.int .i64)) :: StC tv st :: R) := H5
  unfold qe at H5
  refine qq (k8 (by omega) (H5.sl (e := 3) e_2) (by omega)) ?_
  rintro _ h5 ⟨rfl, rfl⟩
  refine xo (H5.sel e_1) (by omega) ⟨rfl, rfl⟩ fun h6 H6 => ?_
  have hset : ((A ++ List.replicate (l.length - i) 0).map (AV.int .i64)).set i (.int .i64 (qm st)) = ((A ++ [qm st]) ++ List.replicate (l.length - (i + 1)) 0).map (.int .i64) := by
   rw [← List.map_set]
   congr 1
   rw [List.set_append_right _ _ (by omega), hA, Nat.sub_self, show l.length - i = (l.length - (i + 1)) + 1 by omega, List.replicate_succ]
   simp
  rw [hset] at H6
  with_reducible (refine qJ ?_; refine qG (by assumption) e_1 rfl ?_)
  refine qq (Xu (by omega) (H6.sub (L' := StC tv st :: qB b [.int .i64 x.1, .int .i64 x.2.1, .int .i64 x.2.2.1, .int .i64 x.2.2.2.1, .int .u64 x.2.2.2.2] :: qA 3 1 l.length ov (((A ++ [qm st]) ++ List.replicate (l.length - (i + 1)) 0).map (.int .i64)) :: R) (.cons e_2 (.cons e_1 (.cons .here .refl)))) (fun h => ho.2.1 (.inl h)) (by omega)) ?_
  intro tv2 h8 H8
  with_reducible (refine qE (by omega) ?_)
  have hbl := Xq st i x.1
  exact hih (l.length - (i + 1)) _ _ (by omega) ⟨i + 1, qp st i x.1, A ++ [qm st], tv2, rfl, by omega, rfl, hs.behind, by omega, hgo, by simp [hA], by rw [hR]; simp, H8.sub (.cons e_2 (.cons .here (.drop .refl)))⟩
 ·obtain rfl : i = l.length := by omega
  with_reducible (refine jW (by omega) ?_; refine qQ ?_; refine qj ?_)
  refine qW ?_
  rw [hR]
  rw [Nat.sub_self, List.replicate_zero, List.append_nil] at H
  rw [List.drop_length]
  show HS g h3 (qA _ 1 l.length ov ((A ++ []).map _) :: R)
  rw [List.append_nil]
  exact H.sub (.cons .here (.drop .refl))
theorem Kr {x : qO} (h : xd x = true) (hj : x.1 = 12 ∨ x.1 = 13) : 0 ≤ x.2.2.2.1 ∧ x.2.2.2.1 ≤ 40 := by
 have e : (q9 x.1).2.2 = (0, 40) := by
  rcases hj with e | e <;> rw [e] <;> rfl
 unfold xd at h
 rw [e] at h
 simp only [Bool.and_eq_true, xI, decide_eq_true_eq] at h
 exact h.1.2
theorem Nd {n : Nat} (hn : 2 ≤ n) {l : List qO} {a : List Int} {sv av : AV} (H : HS g h R) (S : Rd g R 5 l.length sv (l.flatMap qe)) (T : Rd g R 1 a.length av (a.map (.int .i64))) (ha : a.length = l.length) (hm : ∀ x ∈ l, xd x = true) (hl : l.length ≤ 100) :
  wp (callT tab qy n (.fn 75 [] []) [.agg [sv], av] h) fun v h' => v = .tup [.int .i64 (kJ l a l 0).1, .int .i64 (kJ l a l 0).2] ∧ HS g h' R := by
 (refine qM (g := (tD2 S75)) rfl (by omega) fun k hk => ?_; show wp (S75 (callT tab qy k) _ _ _).1 _; unfold S75; try simp only [ Int.ofNat_eq_natCast])
 refine qb H (xg (vP (S.sl H))) fun b0 h1 H1 => ?_
 have hLV := (S.sl H).lenV
 clear H
 with_reducible (refine qJ ?_; refine qG (by assumption) .here rfl ?_; refine ju (by assumption) ?_)
 refine jz (fun m s h' => ∃ i : Nat, s = (.int .i64 (i : Int), .int .i64 (l.length : Int), sv, .ptr b0 0, av, ()) ∧ i ≤ l.length ∧ m = l.length - i ∧ kJ l a l 0 = kJ l a (l.drop i) i ∧ HS g h' (qB b0 [sv] :: R))
  ?_ (m := l.length) (by show _ < 1000000000; omega) ⟨0, rfl, by omega, by omega, rfl, H1⟩
 clear H1
 rintro m ih s h2 hih ⟨i, rfl, hi, rfl, hJ, H⟩
 dsimp only
 by_cases hlt : i < l.length
 rotate_left
 ·obtain rfl : i = l.length := by omega
  rw [List.drop_length] at hJ
  rw [hJ]
  with_reducible (refine jW (by omega) ?_; refine qQ ?_; refine qj ?_)
  exact qW ⟨rfl, H.drop⟩
 rw [k9 hlt] at hJ
 have hrow := vS hlt
 have hmx := hm l[i] (List.getElem_mem hlt)
 generalize l[i] = x at *
 obtain ⟨op, xa, xb, c, q⟩ := x
 unfold qe at hrow
 refine jw (by omega) (qV ?_)
 refine zM [] (fun s h' => s = (.int .i64 (i : Int), .int .i64 (l.length : Int), sv, .ptr b0 0, av, ()) ∧ ¬ wk l a i (op, xa, xb, c, q) ∧ HS g h' (qB b0 [sv] :: R)) ?_ ?_
 rotate_left
 ·rintro s h3 ⟨rfl, hno, H3⟩
  rw [if_neg hno] at hJ
  with_reducible (refine qE (by omega) ?_)
  exact hih (l.length - (i + 1)) _ _ (by omega) ⟨i + 1, rfl, by omega, rfl, hJ, H3⟩
 intro j hj
 clear hih
 refine zG (S.sl H.drop) hlt (by omega) hrow ?_
 refine qb H rfl fun b h4 H4 => ?_
 refine jq H4 (b := b) .here rfl (by simp) rfl fun h5 H5 => ?_
 have H5 : HS g h5 (qB b [.int .i64 op, .int .i64 xa, .int .i64 xb, .int .i64 c, .int .u64 q] :: qB b0 [sv] :: R) := H5
 clear H H4
 with_reducible (refine qJ ?_; refine qG (by assumption) .here rfl ?_)
 refine qq (Od (by omega)) ?_
 rintro _ h5 ⟨rfl, rfl⟩
 by_cases hjm : op = 12 ∨ op = 13
 rotate_left
 ·rw [decide_eq_false hjm]
  refine jj ?_; refine qV ?_
  exact hj _ _ ⟨rfl, fun h => hjm h.1, H5.drop⟩
 rw [decide_eq_true hjm]
 have hc := Kr hmx hjm
 dsimp only at hc
 obtain ⟨p, rfl⟩ : ∃ p : Nat, c = (p : Int) := ⟨c.toNat, by omega⟩
 have hcell : ∀ k : Nat, k < l.length → (a.map (AV.int .i64))[k]? = some (.int .i64 (qD a (k : Int))) := by
  intro k hk
  unfold qD
  rw [List.getElem?_map, show ((k : Int)).toNat = k by omega, List.getElem?_eq_getElem (by omega)]; rfl
 have Ta : Sl (fun _ => True) h5 1 a.length av (a.map (.int .i64)) := T.sl H5.drop.drop
 by_cases c1 : l.length < p
 ·rw [if_pos ⟨hjm, .inl (by dsimp only; omega)⟩] at hJ
  rw [hJ]
  with_reducible (refine qn ?_; refine qQ ?_; refine qJ ?_; refine qG (by assumption) .here rfl ?_; refine qJ ?_; refine qG (by assumption) e_1 rfl ?_; refine ju (by assumption) ?_; refine ji (by omega) ?_; refine qK ?_; (try dsimp only); refine qS ?_; (try dsimp only); refine qK ?_; (try dsimp only); refine jY ?_; (try dsimp only); refine qK ?_; (try dsimp only); refine qS ?_; (try dsimp only); refine qC ?_; refine qK ?_; (try dsimp only); refine qS ?_; (try dsimp only); refine qK ?_; (try dsimp only); refine jY ?_; (try dsimp only); refine qK ?_; (try dsimp only); refine qS ?_; (try dsimp only); refine qC ?_; refine qV ?_; refine qj ?_)
  exact qW ⟨rfl, H5.drop.drop⟩
 by_cases c2 : p = l.length
 ·subst c2
  with_reducible (refine qn ?_; refine qQ ?_; refine qJ ?_; refine qG (by assumption) .here rfl ?_; refine qJ ?_; refine qG (by assumption) e_1 rfl ?_; refine ju (by assumption) ?_; refine ja (by omega) ?_; refine qK ?_; (try dsimp only); refine qw ?_; (try dsimp only); refine qJ ?_; refine qG (by assumption) .here rfl ?_; refine qJ ?_; refine qG (by assumption) e_1 rfl ?_; refine ju (by assumption) ?_; refine qg (by omega) ?_; refine qK ?_; (try dsimp only); refine qT ?_; (try dsimp only))
  refine jN Ta (hcell i hlt) ?_
  by_cases c3 : qD a i = -1
  ·refine qt (by rw [c3]; decide) ?_
   with_reducible (refine qK ?_; (try dsimp only); refine qw ?_; (try dsimp only); refine qC ?_; refine qx ?_; refine qK ?_; (try dsimp only); refine qw ?_; (try dsimp only); refine qJ ?_; refine qG (by assumption) .here rfl ?_; refine qJ ?_; refine qG (by assumption) e_1 rfl ?_; refine ju (by assumption) ?_; refine jW (by omega) ?_; refine qK ?_; (try dsimp only); refine qR ?_; (try dsimp only); refine qK ?_; (try dsimp only); refine qw ?_; (try dsimp only); refine qx ?_; refine qx ?_; refine qQ ?_)
   exact hj _ _ ⟨rfl, fun h => by
    rcases h.2 with h | h | h
    ·dsimp only at h; omega
    ·exact h.2 c3
    ·dsimp only at h; omega, H5.drop⟩
  ·refine jG (fun h => c3 (by rw [h]; decide)) ?_
   rw [if_pos ⟨hjm, .inr (.inl ⟨rfl, c3⟩)⟩] at hJ
   rw [hJ]
   with_reducible (refine qK ?_; (try dsimp only); refine qw ?_; (try dsimp only); refine qC ?_; refine qx ?_; refine qK ?_; (try dsimp only); refine qS ?_; (try dsimp only); refine qK ?_; (try dsimp only); refine jY ?_; (try dsimp only); refine qK ?_; (try dsimp only); refine qS ?_; (try dsimp only); refine qC ?_; refine qV ?_; refine qj ?_)
   exact qW ⟨rfl, H5.drop.drop⟩
 ·with_reducible (refine qn ?_; refine qQ ?_; refine qJ ?_; refine qG (by assumption) .here rfl ?_; refine qJ ?_; refine qG (by assumption) e_1 rfl ?_; refine ju (by assumption) ?_; refine ja (by omega) ?_; refine qK ?_; (try dsimp only); refine qw ?_; (try dsimp only); refine qJ ?_; refine qG (by assumption) .here rfl ?_; refine qJ ?_; refine qG (by assumption) e_1 rfl ?_; refine ju (by assumption) ?_; refine qX (by omega) ?_; refine qK ?_; (try dsimp only); refine qR ?_; (try dsimp only); refine qK ?_; (try dsimp only); refine qw ?_; (try dsimp only); refine qx ?_; refine qx ?_; refine qK ?_; (try dsimp only); refine qw ?_; (try dsimp only); refine qJ ?_; refine qG (by assumption) .here rfl ?_; refine qJ ?_; refine qG (by assumption) e_1 rfl ?_; refine ju (by assumption) ?_; refine jw (by omega) ?_; refine qK ?_; (try dsimp only); refine qT ?_; (try dsimp only); refine qJ ?_; refine qG (by assumption) .here rfl ?_)
  refine jN Ta (hcell p (by omega)) ?_
  refine jN Ta (hcell i hlt) ?_
  by_cases c3 : qD a p = qD a i
  ·refine qt c3 ?_
   with_reducible (refine qK ?_; (try dsimp only); refine qw ?_; (try dsimp only); refine qC ?_; refine qx ?_; refine qQ ?_)
   exact hj _ _ ⟨rfl, fun h => by
    rcases h.2 with h | h | h
    ·dsimp only at h; omega
    ·have := h.1; dsimp only at this; omega
    ·exact h.2 c3, H5.drop⟩
  ·refine jG c3 ?_
   rw [if_pos ⟨hjm, .inr (.inr ⟨by dsimp only; omega, c3⟩)⟩] at hJ
   rw [hJ]
   with_reducible (refine qK ?_; (try dsimp only); refine qw ?_; (try dsimp only); refine qC ?_; refine qx ?_; refine qV ?_; refine qj ?_)
   exact qW ⟨rfl, H5.drop.drop⟩
theorem qQ7 {l : List qO} : ∀ {r : List qO} {i : Nat} {st st' : List Int}, goM l r i st = .inr st' → ∀ x ∈ r, xd x = true := by
 intro r
 induction r with
 | nil => intro i st st' _ x hx; cases hx
 | cons y r ih =>
  intro i st st' h x hx
  rw [Qc] at h
  split at h
  ·rename_i hw
   rcases List.mem_cons.1 hx with rfl | hx
   ·exact (zK hw).1
   ·exact ih h x hx
  ·cases h
theorem qJr {l : List qO} : ∀ {r : List qO} {i : Nat} {st : List Int} {q : Int × Int}, goM l r i st = .inl q → q.2 ≠ 0 := by
 intro r
 induction r with
 | nil => intro i st q h; cases h
 | cons y r ih =>
  intro i st q h
  rw [Qc] at h
  split at h
  ·exact ih h
  ·rename_i hw
   cases h
   exact hw
theorem Xx {l : List qO} (h : (xr l).2 = 0) : goM l l 0 [] = .inr [] := by
 unfold xr at h
 split at h
 ·cases h
 ·cases hg : goM l l 0 [] with
  | inl q =>
   rw [hg] at h
   exact absurd h (qJr hg)
  | inr st =>
   rw [hg] at h
   dsimp only at h
   split at h
   ·rename_i h0; rw [h0]
   ·cases h
theorem YI {n : Nat} (hn : 6 ≤ n) {l : List qO} {sv : AV} (H : HS g h R) (S : Rd g R 5 l.length sv (l.flatMap qe)) (hl : l.length ≤ 100) :
  wp (callT tab qy n (.fn 37 [] []) [.agg [sv]] h) fun v h' => v = .tup [.int .i64 (xr l).1, .int .i64 (xr l).2] ∧ HS g h' R := by
 (refine qM (g := (tD1 S37)) rfl (by omega) fun k hk => ?_; show wp (S37 (callT tab qy k) _ _).1 _; unfold S37; try simp only [ Int.ofNat_eq_natCast])
 refine qb H (xg (vP (S.sl H))) fun b0 h1 H1 => ?_
 have hLV := (S.sl H).lenV
 clear H
 have hC : xr l = if l.length = 0 ∨ 40 < l.length then (0, 4) else match goM l l 0 [] with
  | .inl r => r
  | .inr st => if st = [] then kJ l (zg l 0 []) l 0 else (qm st, 12) := rfl
 generalize xr l = C at *
 with_reducible (refine qJ ?_; refine qG (by assumption) .here rfl ?_; refine ju (by assumption) ?_)
 by_cases c0 : l.length = 0
 ·rw [if_pos (.inl c0)] at hC
  subst hC
  with_reducible (refine qg (by omega) ?_; refine qK ?_; (try dsimp only); refine qS ?_; (try dsimp only); refine qC ?_; refine qV ?_)
  exact qW ⟨rfl, H1.drop⟩
 by_cases c1 : 40 < l.length
 ·rw [if_pos (.inr c1)] at hC
  subst hC
  with_reducible (refine qX (by omega) ?_; refine qK ?_; (try dsimp only); refine qw ?_; (try dsimp only); refine qJ ?_; refine qG (by assumption) .here rfl ?_; refine ju (by assumption) ?_; refine ji (by omega) ?_; refine qx ?_; refine qV ?_)
  exact qW ⟨rfl, H1.drop⟩
 rw [if_neg (by omega)] at hC
 with_reducible (refine qX (by omega) ?_; refine qK ?_; (try dsimp only); refine qw ?_; (try dsimp only); refine qJ ?_; refine qG (by assumption) .here rfl ?_; refine ju (by assumption) ?_; refine ja (by omega) ?_; refine qx ?_; refine qQ ?_; refine qJ ?_; refine qG (by assumption) .here rfl ?_; refine ju (by assumption) ?_)
 generalize hG : goM l l 0 [] = G at hC
 refine jz (fun m s h' => ∃ (i : Nat) (st : List Int) (tv : AV), s = (.int .i64 (i : Int), .int .i64 (l.length : Int), sv, tv, .ptr b0 0, ()) ∧ i ≤ l.length ∧ m = l.length - i ∧ StOk i st ∧ st.length ≤ i ∧ goM l (l.drop i) i st = G ∧ HS g h' (StC tv st :: qB b0 [sv] :: R))
  ?_ (m := l.length) (by show _ < 1000000000; omega) ⟨0, [], .nils, rfl, by omega, by omega, StOk.nil, by simp, hG, H1.nils (e := 3) (sz := 1)⟩
 clear H1
 rintro m ih s h2 hih ⟨i, st, tv, rfl, hi, rfl, hs, hsl, hgo, H⟩
 dsimp only
 by_cases hlt : i < l.length
 ·rw [Ql hlt] at hgo
  have hrow := vS hlt
  generalize l[i] = x at *
  with_reducible (refine jw (by omega) ?_; refine qV ?_)
  refine zG (S.sl H.drop.drop) hlt (by omega) hrow ?_
  refine qb H rfl fun b h4 H4 => ?_
  refine jq H4 (b := b) .here rfl (by simp [qe]) rfl fun h5 H5 => ?_
  have H5 : HS g h5 (qB b (qe x) :: StC tv st :: qB b0 [sv] :: R) := H5
  clear H H4
  refine qr H5 (b := b0) (off := 0) e_2 rfl (by omega) rfl ?_
  refine qr H5 (b := b) (off := 0) .here rfl (by omega) rfl ?_
  refine qq (M7 (by omega) H5 S.more.more.more (Rd.own (e := 3) e_1) (fun y hy => by have := hs y hy; omega) (by omega)) ?_
  rintro _ h6 ⟨rfl, H6⟩
  by_cases hw : zX l st x = 0
  ·rw [if_pos hw] at hgo
   have ho := zK hw
   refine qt hw ?_
   unfold qe at H6
   with_reducible (refine qQ ?_; refine qJ ?_; refine qG (by assumption) .here rfl ?_)
   refine qq (Xu (by omega) (H6.sel e_1) (fun h => ho.2.1 (.inl h)) (by omega)) ?_
   intro tv2 h8 H8
   have hbl := Xq st i x.1
   with_reducible (refine qE (by omega) ?_)
   exact hih (l.length - (i + 1)) _ _ (by omega) ⟨i + 1, qp st i x.1, tv2, rfl, by omega, rfl, hs.behind, by omega, hgo, H8.sub (.cons .here (.drop .refl))⟩
  ·rw [if_neg hw] at hgo
   subst hgo
   rw [hC]
   refine jG hw ?_
   refine qV ?_; refine qj ?_
   exact qW ⟨rfl, H6.drop.drop.drop⟩
 ·obtain rfl : i = l.length := by omega
  rw [List.drop_length] at hgo
  have hgo : (Sum.inr st : (Int × Int) ⊕ List Int) = G := hgo
  subst hgo
  dsimp only at hC
  refine jW (by omega) (qQ ?_)
  refine zq (H.sl (e := 3) .here) ?_
  by_cases h0 : st = []
  ·subst h0
   rw [if_pos rfl] at hC
   rw [show ([] : List Int).length = 0 from rfl]
   with_reducible (refine ja (by omega) ?_; refine qQ ?_; refine qK ?_; (try dsimp only))
   refine qr H (b := b0) (off := 0) e_1 rfl (by omega) rfl ?_
   refine qr H (b := b0) (off := 0) e_1 rfl (by omega) rfl ?_
   refine qq (Jy (by omega) H S.more.more hG hl) ?_
   intro av h3 H3
   refine qq (Nd (a := zg l 0 []) (by omega) H3 S.more.more.more (by rw [gp]; exact Rd.own .here) gp (qQ7 hG) hl) ?_
   rintro _ h4 ⟨rfl, H4⟩
   rw [← hC]
   with_reducible (refine qz rfl ?_; refine qz rfl ?_)
   refine xQ H (b := b0) e_1 rfl H3 e_2 rfl rfl (by omega) (HS.lt H e_1) ?_
   refine qj ?_
   exact qW ⟨rfl, H4.drop.drop.drop⟩
  ·rw [if_neg h0] at hC
   subst hC
   have hl0 : st.length ≠ 0 := fun h => h0 (List.eq_nil_of_length_eq_zero h)
   with_reducible (refine ji (by omega) ?_; refine qV ?_)
   refine qq (k8 (by omega) (H.sl (e := 3) .here) (by omega)) ?_
   rintro _ h3 ⟨rfl, rfl⟩
   refine qj ?_
   exact qW ⟨rfl, H.drop.drop⟩
theorem qKF {l : List qO} {st' : List Int} (hg : goM l l 0 [] = .inr st') {i : Nat} (hi : i < l.length) (ho : 0 < jB l[i].1 ∨ l[i].1 = 16) : ∃ p : Nat, (zg l 0 [])[i]? = some (p : Int) ∧ p < l.length := by
 obtain ⟨s, h1, h2⟩ := qQO (r := l) (i := 0) (j := i) (st := []) hi
 obtain ⟨h3, h4⟩ := h2 hg StOk.nil
 have hw := h4 l[i] (List.getElem?_eq_getElem hi)
 have hne := (zK hw).2.1 ho
 have hin := h3.inmost hne
 refine ⟨(qm s).toNat, ?_, by omega⟩
 rw [h1]
 congr 1
 omega
end Go.Proofs.YtdlfmpmpmkffjaaGreatDoor
