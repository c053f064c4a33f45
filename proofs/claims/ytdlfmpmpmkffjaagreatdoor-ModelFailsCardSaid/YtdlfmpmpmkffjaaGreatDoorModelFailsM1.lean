/- Lemmas for 'quietus/quietuslaw22.ModelFails': What a transaction knows and writes, as plain data: cells, levels, views; Write sets: by the program; Levels of cells and frees: by the program; Views: by the program; May a program run? The plain law; Steps more; May an instruction be? The walks of the codes numbers; May a program run? The walks of the check; Views: by the documents own text; Views: by the documents own text: copies, kept levels, the views. No condition. -/
import Derived.Test.YtdlfmpmpmkffjaaGreatDoorModelFailsAe7
import Derived.Test.YtdlfmpmpmkffjaaGreatDoorModelFailsT
import Derived.KernelRfl
namespace Go.Proofs.YtdlfmpmpmkffjaaGreatDoor
open Go Go.Ae
abbrev Cl : Type := Int × Int
def js (c : Int × Int) : List AV := [.int .i64 c.1, .int .u64 c.2]
def kF (p : Int) : List Cl → Option Nat
 | [] => none
 | c :: l => if c.1 = p then some 0 else (kF p l).map (· + 1)
def zV (p : Int) : List Cl → Option Int
 | [] => none
 | c :: l => if c.1 = p then some c.2 else zV p l
def xS (p v : Int) : List Cl → List Cl
 | [] => [(p, v)]
 | c :: l => if c.1 = p then (p, v) :: l else c :: xS p v l
def xE (l cs : List Cl) : List Cl := cs.foldl (fun l c => xS c.1 c.2 l) l
theorem Yq {p : Int} {l : List Cl} : kF p l = none ↔ zV p l = none := by
 induction l with
 | nil => simp [kF, zV]
 | cons c l ih =>
  unfold kF zV
  split
  ·simp
  ·simp [ih]
theorem YG {p : Int} : ∀ {l : List Cl} {i : Nat}, kF p l = some i → i < l.length ∧ (∃ x, l[i]? = some (p, x) ∧ zV p l = some x) ∧ ∀ v, xS p v l = l.set i (p, v) := by
 intro l
 induction l with
 | nil => intro i h; cases h
 | cons c l ih =>
  intro i h
  unfold kF at h
  unfold zV
  split at h
  ·rename_i hc
   cases h
   rw [if_pos hc]
   refine ⟨by simp, ⟨c.2, by rw [← hc]; rfl, rfl⟩, fun v => ?_⟩
   unfold xS
   rw [if_pos hc]; rfl
  ·rename_i hc
   rw [if_neg hc]
   cases hi : kF p l with
   | none => rw [hi] at h; cases h
   | some j =>
    rw [hi] at h
    cases h
    obtain ⟨h1, ⟨x, h2, h2'⟩, h3⟩ := ih hi
    refine ⟨by simp; omega, ⟨x, by simpa using h2, h2'⟩, fun v => ?_⟩
    unfold xS
    rw [if_neg hc, h3]; rfl
theorem QP {p v : Int} {l : List Cl} (h : zV p l = none) : xS p v l = l ++ [(p, v)] := by
 induction l with
 | nil => rfl
 | cons c l ih =>
  unfold zV at h
  split at h
  ·cases h
  ·rename_i hc
   unfold xS
   rw [if_neg hc, ih h]; rfl
theorem UI {p : Int} : ∀ {l : List Cl} {i : Nat}, i < l.length → (∀ j, j < i → ∀ c, l[j]? = some c → c.1 ≠ p) → (∃ x, l[i]? = some (p, x)) → kF p l = some i := by
 intro l
 induction l with
 | nil => intro i h; simp at h
 | cons c l ih =>
  intro i hi h1 ⟨x, h2⟩
  unfold kF
  cases i with
  | zero =>
   simp at h2
   rw [if_pos (by rw [h2])]
  | succ i =>
   rw [if_neg (h1 0 (by omega) c rfl), ih (by simpa using hi) (fun j hj c' hc' => h1 (j + 1) (by omega) c' (by simpa using hc')) ⟨x, by simpa using h2⟩]; rfl
theorem NJ {p : Int} : ∀ {l : List Cl}, (∀ c ∈ l, c.1 ≠ p) → kF p l = none := by
 intro l
 induction l with
 | nil => intro _; rfl
 | cons c l ih =>
  intro h
  unfold kF
  rw [if_neg (h c (List.mem_cons_self ..)), ih fun c' hc' => h c' (List.mem_cons_of_mem _ hc')]; rfl
theorem kp {p v : Int} {l : List Cl} : (xS p v l).length = if zV p l = none then l.length + 1 else l.length := by
 induction l with
 | nil => simp [xS, zV]
 | cons c l ih =>
  unfold xS zV
  split
  ·simp
  ·rw [List.length_cons, ih]
   split <;> simp
theorem G9 {p q v : Int} {l : List Cl} : zV q (xS p v l) = if q = p then some v else zV q l := by
 induction l with
 | nil =>
  simp only [xS, zV]
  by_cases h : p = q
  ·simp [h]
  ·rw [if_neg h, if_neg (fun h' => h h'.symm)]
 | cons c l ih =>
  unfold xS
  split
  ·rename_i hc
   simp only [zV]
   by_cases h : p = q
   ·simp [h]
   ·rw [if_neg h, if_neg (fun h' => h h'.symm), if_neg (by rw [hc]; exact h)]
  ·rename_i hc
   simp only [zV, ih]
   by_cases h : c.1 = q
   ·rw [if_pos h, if_pos h, if_neg (by rintro rfl; exact hc h)]
   ·rw [if_neg h, if_neg h]
def InC (l : List Cl) : Prop := ∀ c ∈ l, 1 ≤ c.1 ∧ c.1 < 256
theorem InC.put {l : List Cl} {p v : Int} (h : InC l) (hp : 1 ≤ p ∧ p < 256) : InC (xS p v l) := by
 induction l with
 | nil => intro c hc; simp [xS] at hc; subst hc; exact hp
 | cons a l ih =>
  unfold xS
  split
  ·intro c hc
   rcases List.mem_cons.1 hc with rfl | hc
   ·exact hp
   ·exact h c (List.mem_cons_of_mem _ hc)
  ·intro c hc
   rcases List.mem_cons.1 hc with rfl | hc
   ·exact h _ (List.mem_cons_self ..)
   ·exact ih (fun c hc => h c (List.mem_cons_of_mem _ hc)) c hc
def UnC (l : List Cl) : Prop := (l.map (·.1)).Nodup
theorem Gz {p : Int} {l : List Cl} : zV p l = none ↔ p ∉ l.map (·.1) := by
 induction l with
 | nil => simp [zV]
 | cons c l ih =>
  unfold zV
  split
  ·rename_i h; simp [h]
  ·rename_i h
   rw [ih, List.map_cons, List.mem_cons, not_or]
   exact ⟨fun h' => ⟨fun h2 => h h2.symm, h'⟩, fun h' => h'.2⟩
theorem MO {p v : Int} {l : List Cl} : (xS p v l).map (·.1) = if zV p l = none then l.map (·.1) ++ [p] else l.map (·.1) := by
 induction l with
 | nil => simp [xS, zV]
 | cons c l ih =>
  unfold xS zV
  split
  ·rename_i h; simp [h]
  ·rw [List.map_cons, ih]
   split <;> simp
theorem UnC.put {l : List Cl} {p v : Int} (h : UnC l) : UnC (xS p v l) := by
 unfold UnC
 rw [MO]
 split
 ·rename_i hp
  rw [Gz] at hp
  rw [List.nodup_append]
  exact ⟨h, by simp, fun a ha b hb => by rw [List.mem_singleton] at hb; subst hb; rintro rfl; exact hp ha⟩
 ·exact h
theorem Zg {l : List Cl} : ∀ {cs : List Cl}, UnC cs → (∀ c ∈ cs, zV c.1 l = none) → xE l cs = l ++ cs := by
 intro cs
 induction cs generalizing l with
 | nil => intro _ _; simp [xE]
 | cons c cs ih =>
  intro hu hn
  have hu' : UnC cs := (List.nodup_cons.1 hu).2
  have hc : c.1 ∉ cs.map (·.1) := (List.nodup_cons.1 hu).1
  show xE (xS c.1 c.2 l) cs = _
  rw [ih hu' (fun d hd => by
   rw [G9, if_neg (by rintro h; exact hc (by rw [← h]; exact List.mem_map_of_mem hd))]
   exact hn d (List.mem_cons_of_mem _ hd)), QP (hn c (List.mem_cons_self ..)), List.append_assoc]
  rfl
theorem YY {cs : List Cl} (h : UnC cs) : xE [] cs = cs := by rw [Zg h (fun _ _ => rfl), List.nil_append]
def kG (m : Nat) (l : List Cl) (p v : Int) : Int × List Cl :=
 if p < 1 ∨ 256 ≤ p then (2, l) else if zV p l = none ∧ m ≤ l.length then (5, l) else (0, xS p v l)
def ww (m : Nat) (l : List Cl) : List Cl → Int × List Cl
 | [] => (0, l)
 | c :: cs => if (kG m l c.1 c.2).1 = 0 then ww m (kG m l c.1 c.2).2 cs else kG m l c.1 c.2
theorem Ue {m : Nat} {l : List Cl} {c : Cl} {cs : List Cl} : ww m l (c :: cs) = if (kG m l c.1 c.2).1 = 0 then ww m (kG m l c.1 c.2).2 cs else kG m l c.1 c.2 := rfl
theorem QE {m : Nat} : ∀ {cs l : List Cl}, InC cs → l.length + cs.length ≤ m → ww m l cs = (0, xE l cs) := by
 intro cs
 induction cs with
 | nil => intro l _ _; rfl
 | cons c cs ih =>
  intro l hi hl
  have hc := hi c (List.mem_cons_self ..)
  have hp : kG m l c.1 c.2 = (0, xS c.1 c.2 l) := by
   unfold kG
   rw [if_neg (by omega), if_neg (by simp at hl; omega)]
  unfold ww
  rw [hp, if_pos rfl, ih (fun d hd => hi d (List.mem_cons_of_mem _ hd)) (by
   have := kp (p := c.1) (v := c.2) (l := l)
   simp at hl
   show (xS c.1 c.2 l).length + cs.length ≤ m
   split at this <;> omega)]
  rfl
abbrev LvM : Type := List Cl × List Int
def Qf (p : Int) : List LvM → Option Int
 | [] => none
 | x :: r => match zV p x.1 with | some v => some v | none => Qf p r
def xy (lv : List LvM) : Nat := (lv.map fun x => x.1.length).sum
def zz (lv : List LvM) : List Cl := lv.foldl (fun out x => xE x.1 out) []
def vY (lv : List LvM) : List Int := lv.reverse.flatMap (·.2)
structure OkL (most : Nat) (lv : List LvM) : Prop where
  held : xy lv ≤ most
  le : most ≤ 96
  ins : ∀ x ∈ lv, InC x.1
  un : ∀ x ∈ lv, UnC x.1
  one : 1 ≤ lv.length
  deep : lv.length ≤ 6
def yq (most : Nat) (lv : List LvM) (p v : Int) : Int × List LvM :=
 match lv with
 | [] => (0, [])
 | x :: r => if p < 1 ∨ 256 ≤ p then (2, lv) else if zV p x.1 = none ∧ most ≤ xy lv then (5, lv) else (0, (xS p v x.1, x.2) :: r)
def yG (most : Nat) (was lv : List LvM) : List Cl → Int × List LvM
 | [] => (0, lv)
 | c :: cs => if (yq most lv c.1 c.2).1 = 0 then yG most was (yq most lv c.1 c.2).2 cs else ((yq most lv c.1 c.2).1, was)
def gZ (lv : List LvM) : Int × List LvM := if 6 ≤ lv.length then (9, lv) else (0, ([], []) :: lv)
def gY (lv : List LvM) : Int × List LvM := if lv.length = 1 then (10, lv) else (0, lv.tail)
def wA (lv : List LvM) : Int × List LvM := match lv with
 | x :: y :: r => (0, (xE y.1 x.1, y.2 ++ x.2) :: r)
 | _ => (10, lv)
def Qz (lv : List LvM) (b : Int) : List LvM := match lv with
 | x :: r => (x.1, x.2 ++ [b]) :: r
 | [] => []
theorem ym {most : Nat} {was lv : List LvM} {c : Cl} {cs : List Cl} : yG most was lv (c :: cs) = if (yq most lv c.1 c.2).1 = 0 then yG most was (yq most lv c.1 c.2).2 cs else ((yq most lv c.1 c.2).1, was) := rfl
theorem zY {x : LvM} {r : List LvM} : xy (x :: r) = x.1.length + xy r := by simp [xy]
theorem Yh {most : Nat} {lv : List LvM} {p v : Int} (O : OkL most lv) : OkL most (yq most lv p v).2 ∧ (yq most lv p v).2.length = lv.length := by
 cases lv with
 | nil => have := O.one; simp at this
 | cons x r =>
  unfold yq
  dsimp only
  split
  ·exact ⟨O, rfl⟩
  ·rename_i hp
   split
   ·exact ⟨O, rfl⟩
   ·rename_i h1
    have hh := O.held
    rw [zY] at hh
    refine ⟨⟨?_, O.le, ?_, ?_, by simp, O.deep⟩, rfl⟩
    ·show xy ((xS p v x.1, x.2) :: r) ≤ most
     rw [zY, kp]
     split
     ·rename_i h2
      rw [zY] at h1
      have : ¬ most ≤ x.1.length + xy r := fun h3 => h1 ⟨h2, h3⟩
      omega
     ·exact hh
    ·intro y hy
     rcases List.mem_cons.1 hy with rfl | hy
     ·exact (O.ins x (List.mem_cons_self ..)).put (by omega)
     ·exact O.ins y (List.mem_cons_of_mem _ hy)
    ·intro y hy
     rcases List.mem_cons.1 hy with rfl | hy
     ·exact (O.un x (List.mem_cons_self ..)).put
     ·exact O.un y (List.mem_cons_of_mem _ hy)
theorem KH {most : Nat} {was : List LvM} (W : OkL most was) : ∀ {cs : List Cl} {lv : List LvM}, OkL most lv → lv.length = was.length → OkL most (yG most was lv cs).2 ∧ (yG most was lv cs).2.length = was.length := by
 intro cs
 induction cs with
 | nil => intro lv O hl; exact ⟨O, hl⟩
 | cons c cs ih =>
  intro lv O hl
  unfold yG
  split
  ·exact ih (Yh O).1 ((Yh O).2.trans hl)
  ·exact ⟨W, rfl⟩
theorem Nl {most : Nat} {lv : List LvM} (O : OkL most lv) : OkL most (gZ lv).2 := by
 unfold gZ
 split
 ·exact O
 ·refine ⟨by rw [zY]; have := O.held; simpa using this, O.le, ?_, ?_, by simp, by simp; omega⟩
  ·intro y hy
   rcases List.mem_cons.1 hy with rfl | hy
   ·intro c hc; cases hc
   ·exact O.ins y hy
  ·intro y hy
   rcases List.mem_cons.1 hy with rfl | hy
   ·exact List.nodup_nil
   ·exact O.un y hy
theorem NK {most : Nat} {lv : List LvM} (O : OkL most lv) : OkL most (gY lv).2 := by
 unfold gY
 split
 ·exact O
 ·rename_i h1
  cases lv with
  | nil => have := O.one; simp at this
  | cons x r =>
   have hh := O.held
   have h2 := O.deep
   rw [zY] at hh
   simp at h1 h2
   refine ⟨by show xy r ≤ most; omega, O.le, fun y hy => O.ins y (List.mem_cons_of_mem _ hy), fun y hy => O.un y (List.mem_cons_of_mem _ hy), ?_, by show r.length ≤ 6; omega⟩
   show 1 ≤ r.length
   cases r with
   | nil => simp at h1
   | cons _ _ => simp
theorem JH : ∀ {cs l : List Cl}, (xE l cs).length ≤ l.length + cs.length := by
 intro cs
 induction cs with
 | nil => intro l; exact Nat.le_refl _
 | cons c cs ih =>
  intro l
  have := ih (l := xS c.1 c.2 l)
  have h2 := kp (p := c.1) (v := c.2) (l := l)
  show (xE (xS c.1 c.2 l) cs).length ≤ _
  rw [List.length_cons]
  split at h2 <;> omega
theorem InC.puts : ∀ {cs l : List Cl}, InC l → InC cs → InC (xE l cs) := by
 intro cs
 induction cs with
 | nil => intro l h _; exact h
 | cons c cs ih => intro l h hc; exact ih (h.put (hc c (List.mem_cons_self ..))) fun d hd => hc d (List.mem_cons_of_mem _ hd)
theorem UnC.puts : ∀ {cs l : List Cl}, UnC l → UnC (xE l cs) := by
 intro cs
 induction cs with
 | nil => intro l h; exact h
 | cons c cs ih => intro l h; exact ih h.put
theorem ZE {most : Nat} {lv : List LvM} (O : OkL most lv) : OkL most (wA lv).2 := by
 match lv, O with
 | [], O => exact O
 | [x], O => exact O
 | x :: y :: r, O =>
  have hh := O.held
  have h2 := O.deep
  rw [zY, zY] at hh
  have := JH (cs := x.1) (l := y.1)
  refine ⟨by show xy ((xE y.1 x.1, y.2 ++ x.2) :: r) ≤ most; rw [zY]; dsimp only; omega, O.le, ?_, ?_, by simp [wA], by simp [wA] at h2 ⊢; omega⟩
  ·intro z hz
   rcases List.mem_cons.1 hz with rfl | hz
   ·exact (O.ins y (by simp)).puts (O.ins x (by simp))
   ·exact O.ins z (by simp [hz])
  ·intro z hz
   rcases List.mem_cons.1 hz with rfl | hz
   ·exact (O.un y (by simp)).puts
   ·exact O.un z (by simp [hz])
theorem ZX {most : Nat} {lv : List LvM} {b : Int} (O : OkL most lv) : OkL most (Qz lv b) := by
 cases lv with
 | nil => exact O
 | cons x r =>
  refine ⟨O.held, O.le, ?_, ?_, by simp [Qz], O.deep⟩
  ·intro z hz
   rcases List.mem_cons.1 hz with rfl | hz
   ·exact O.ins x (by simp)
   ·exact O.ins z (by simp [hz])
  ·intro z hz
   rcases List.mem_cons.1 hz with rfl | hz
   ·exact O.un x (by simp)
   ·exact O.un z (by simp [hz])
end Go.Proofs.YtdlfmpmpmkffjaaGreatDoor
namespace Go.Proofs.YtdlfmpmpmkffjaaGreatDoor
open Go Go.Ae
set_option maxRecDepth 100000
variable {g h : AH} {L R : List SP}
def WrC (w m : Nat) (l : List Cl) : SP := .ex fun v => .all [qa w [.int .i64 (m : Int), v], qL 67 2 l.length v (l.flatMap js)]
theorem WrC.E {w m : Nat} {l : List Cl} (H : HS g h (WrC w m l :: R)) : ∃ v, HS g h (qa w [.int .i64 (m : Int), v] :: qL 67 2 l.length v (l.flatMap js) :: R) := by
 obtain ⟨v, H⟩ := H.exE
 exact ⟨v, H.allE⟩
theorem WrC.I {w m : Nat} {l : List Cl} {v : AV} (H : HS g h (qa w [.int .i64 (m : Int), v] :: qL 67 2 l.length v (l.flatMap js) :: R)) : HS g h (WrC w m l :: R) :=
 HS.exI v (HS.allI H)
theorem KO (l : List Cl) : jA (l.flatMap js) = true := by
 unfold jA
 rw [List.all_eq_true]
 intro v hv
 obtain ⟨c, _, hc⟩ := List.mem_flatMap.1 hv
 simp [js] at hc
 rcases hc with rfl | rfl <;> rfl
theorem k8 {l : List Cl} {i : Nat} {c : Cl} (h : l[i]? = some c) : ((l.flatMap js).drop (i * 2)).take 2 = js c := by
 obtain ⟨hi, e⟩ := List.getElem?_eq_some_iff.1 h
 rw [gA (sz := 2) js (fun _ => rfl), List.drop_eq_getElem_cons hi, e, List.flatMap_cons]; rfl
theorem Nn {l : List Cl} {i : Nat} {p x v : Int} (h : l[i]? = some (p, x)) : (l.flatMap js).set (i * 2 + 1) (.int .u64 v) = (l.set i (p, v)).flatMap js := by
 have hi := (List.getElem?_eq_some_iff.1 h).1
 apply List.ext_getElem?
 intro j
 have hd : j = j / 2 * 2 + j % 2 := by omega
 have hm : j % 2 < 2 := by omega
 rw [List.getElem?_set, QJ (sz := 2) js (fun _ => rfl)]
 have e1 := k6 (sz := 2) js (fun _ => rfl) l (j / 2) (j % 2) hm
 have e2 := k6 (sz := 2) js (fun _ => rfl) (l.set i (p, v)) (j / 2) (j % 2) hm
 rw [← hd] at e1 e2
 rw [e1, e2, List.getElem?_set]
 by_cases h1 : i * 2 + 1 = j
 ·have : j / 2 = i := by omega
  have h3 : j % 2 = 1 := by omega
  rw [if_pos h1, if_pos (by omega), if_pos this.symm, if_pos hi, h3]; rfl
 ·rw [if_neg h1]
  by_cases h2 : i = j / 2
  ·have h3 : j % 2 = 0 := by omega
   rw [if_pos h2, if_pos hi, h3, ← h2, h]; rfl
  ·rw [if_neg h2]
def zI (o : Option Nat) : Int := match o with | some i => (i : Int) | none => -1
theorem YE {n : Nat} (hn : 1 ≤ n) {m : Nat} (hm : m ≤ 96) (H : HS g h R) : wp (callT tab qU n (.fn 100 [] []) [.int .i64 (m : Int)] h) fun v h' => ∃ w, v = .ptr w 0 ∧ HS g h' (WrC w m [] :: R) := by
 (refine qt (g := W100) rfl (by omega) fun k hk => ?_; show wp (S100 (callT tab qU k) _ _) _; unfold S100; try simp only [iI, uU, Int.ofNat_eq_natCast])
 refine zS (ze (qo rfl (jJ H rfl fun w h2 H2 => qk ⟨w, rfl, ?_⟩)))
 rw [show max ((0 : Nat) : Int) (min (m : Int) ((96 : Nat) : Int)) = (m : Int) by omega] at H2
 exact WrC.I ((H2.nils (e := 67) (sz := 2)).sel (P := qa w [.int .i64 (m : Int), .nils]) e_1 :)
theorem MG {n : Nat} (hn : 2 ≤ n) {p : Int} {v : AV} {c0 : Nat} {l : List Cl} (H : HS g h L) (S : Rd g L 2 l.length v (l.flatMap js)) (s : Sel L (qa c0 [.int .i64 p]) R) (hl : l.length < 1000000) :
  wp (callT tab qU n (.fn 249 [] []) [v, .fn 250 [] [.ptr c0 0]] h) fun v h' => v = .int .i64 (zI (kF p l)) ∧ HS g h' L := by
 (refine qt (g := W249) rfl (by omega) fun k hk => ?_; show wp (S249 (callT tab qU k) _ _ _) _; unfold S249; try simp only [iI, uU, Int.ofNat_eq_natCast])
 refine zy (S.sl H) ?_
 refine (jm (fun m s h' => ∃ i : Nat, s = (.int .i64 (i : Int), .int .i64 (l.length : Int), .fn 250 [] [.ptr c0 0], v, ()) ∧ i ≤ l.length ∧ m = l.length - i ∧ HS g h' L ∧
  (∀ j, j < i → ∀ c, l[j]? = some c → c.1 ≠ p)) ?_ (m := l.length) (by show _ < 1000000000; omega) ⟨0, rfl, by omega, by omega, H, fun j hj => by omega⟩)
 rintro m ih s' h' hih ⟨i, rfl, h1, rfl, H, h2⟩
 dsimp only
 refine zW (fun hlt => qY ?_) fun hge => qQ (qI (qk ⟨?_, H⟩))
 ·have hi : i < l.length := by omega
  have hc : l[i]? = some l[i] := List.getElem?_eq_getElem hi
  refine zu (l := js l[i]) (S.sl H) hi (by omega) (k8 hc) ?_
  refine qx (Q' := fun v h2 => v = .bool (decide (l[i].1 = p)) ∧ HS g h2 L) (qZE (g := W250) rfl (by omega) fun k hk => ?_) ?_
  ·show wp (S250 (callT tab qU k) _ _ _) _
   unfold S250
   refine jJ H rfl fun b h3 H3 => ?_
   with_reducible (refine qK ?_; refine qz (by assumption) .here rfl ?_)
   refine qz H3 (.there s) rfl (wx (qk ⟨rfl, H3.drop⟩))
  ·rintro _ h3 ⟨rfl, H3⟩
   refine Y8 (fun he => qI (qk ⟨?_, H3⟩)) fun hne => ql (by omega) ?_
   ·rw [UI hi h2 ⟨l[i].2, by rw [hc, ← he]⟩]; rfl
   ·refine hih (l.length - (i + 1)) _ _ (by omega) ⟨i + 1, rfl, by omega, rfl, H3, fun j hj c hc' => ?_⟩
    by_cases h4 : j < i
    ·exact h2 j h4 c hc'
    ·obtain rfl : j = i := by omega
     rw [hc] at hc'; cases hc'; exact hne
 ·rw [NJ fun c hc => ?_]
  ·rfl
  ·obtain ⟨j, hj⟩ := List.getElem?_of_mem hc
   exact h2 j (by have := (List.getElem?_eq_some_iff.1 hj).1; omega) c hj
theorem G6 {n : Nat} (hn : 3 ≤ n) {w m : Nat} {l : List Cl} {p : Int} (H : HS g h (WrC w m l :: R)) (hl : l.length < 1000000) :
  wp (callT tab qU n (.fn 218 [] []) [.ptr w 0, .int .i64 p] h) fun v h' => v = .int .i64 (zI (kF p l)) ∧ HS g h' (WrC w m l :: R) := by
 (refine qt (g := W218) rfl (by omega) fun k hk => ?_; show wp (S218 (callT tab qU k) _ _ _) _; unfold S218; try simp only [iI, uU, Int.ofNat_eq_natCast])
 obtain ⟨v, H⟩ := WrC.E H
 refine wn H ⟨rfl, rfl⟩ fun c0 h2 H2 => ?_
 with_reducible (refine qD ?_; refine qK ?_; refine qz (by assumption) e_1 rfl ?_)
 refine qx (MG (p := p) (by omega) H2 (H2.rd e_2) .here hl) ?_
 rintro _ h3 ⟨rfl, H3⟩
 exact qk ⟨rfl, WrC.I H3.drop⟩
theorem VV {n : Nat} (hn : 4 ≤ n) {w m : Nat} {l : List Cl} {p : Int} (H : HS g h (WrC w m l :: R)) (hl : l.length < 1000000) :
  wp (callT tab qU n (.fn 221 [] []) [.ptr w 0, .int .i64 p] h) fun v h' => v = .tup [.int .u64 ((zV p l).getD 0), .bool (zV p l).isSome] ∧ HS g h' (WrC w m l :: R) := by
 (refine qt (g := W221) rfl (by omega) fun k hk => ?_; show wp (S221 (callT tab qU k) _ _ _) _; unfold S221; try simp only [iI, uU, Int.ofNat_eq_natCast])
 refine qx (G6 (by omega) H hl) ?_
 rintro _ h3 ⟨rfl, H3⟩
 cases hi : kF p l with
 | none =>
  refine zx (by show ¬ ((0 : Nat) : Int) ≤ -1; omega) ?_
  refine qQ ?_
  exact qk ⟨by rw [Yq.1 hi]; rfl, H3⟩
 | some i =>
  obtain ⟨h1, ⟨x, h2, h2'⟩, _⟩ := YG hi
  refine zk (by show ((0 : Nat) : Int) ≤ (i : Int); omega) ?_
  obtain ⟨v, H4⟩ := WrC.E H3
  with_reducible (refine qY ?_; refine qD ?_; refine qK ?_; refine qz (by assumption) .here rfl ?_)
  refine Jx (x := .int .u64 x) (H4.sl e_1) (by omega) h1 ?_ (qk ⟨by rw [h2']; rfl, H3⟩)
  rw [k6 (sz := 2) js (fun _ => rfl) _ _ _ (by omega), h2]; rfl
theorem U5 {n : Nat} (hn : 4 ≤ n) {w m : Nat} {l : List Cl} {p x : Int} (H : HS g h (WrC w m l :: R)) (hl : l.length < 1000000) :
  wp (callT tab qU n (.fn 151 [] []) [.ptr w 0, .int .i64 p, .int .u64 x] h) fun v h' => v = .int .i64 (kG m l p x).1 ∧ HS g h' (WrC w m (kG m l p x).2 :: R) := by
 (refine qt (g := W151) rfl (by omega) fun k hk => ?_; show wp (S151 (callT tab qU k) _ _ _ _) _; unfold S151; try simp only [iI, uU, Int.ofNat_eq_natCast])
 unfold kG
 by_cases hp : p < 1 ∨ 256 ≤ p
 ·rw [if_pos hp]
  repeat' (first | with_reducible refine qY ?_ | with_reducible refine qQ ?_ | (with_reducible refine qi ?_; try dsimp only) | (with_reducible refine qp ?_; try dsimp only) | (with_reducible refine qh ?_; try dsimp only) | (with_reducible refine qS ?_; try dsimp only) | (with_reducible refine jP ?_; try dsimp only) | with_reducible refine qO ?_ | with_reducible refine qE ?_ | (with_reducible refine qV ?_; try dsimp only) | with_reducible refine qI ?_ | with_reducible refine jU ?_ | with_reducible refine jc ?_ | with_reducible refine ql (by omega) ?_ | with_reducible refine jT (by omega) ?_ | with_reducible refine zt (by omega) ?_ | with_reducible refine zf (by omega) ?_ | with_reducible refine zS ?_ | with_reducible refine ze ?_ | with_reducible refine qH (by omega) ?_ | with_reducible refine qG (by omega) ?_ | with_reducible refine zA (by omega) ?_ | with_reducible refine zZ (by omega) ?_ | with_reducible refine zh (by omega) ?_ | with_reducible refine zC (by omega) ?_ | with_reducible refine wo (by omega) ?_ | with_reducible refine ki (by omega) ?_ | with_reducible refine xR (by omega) ?_ | with_reducible refine xA (by omega) ?_ | with_reducible refine zk (by omega) ?_ | with_reducible refine zx (by omega) ?_ | with_reducible refine zW (fun hc => ?_) (fun hc => ?_) | with_reducible refine vD (fun hc => ?_) (fun hc => ?_) | with_reducible refine xO (fun hc => ?_) (fun hc => ?_) | with_reducible refine yI (fun hc => ?_) (fun hc => ?_) | with_reducible refine y4 (fun hc => ?_) (fun hc => ?_) | with_reducible refine xM (fun hc => ?_) (fun hc => ?_) | with_reducible refine yF (fun hc => ?_) (fun hc => ?_))
  all_goals exact qk ⟨rfl, H⟩
 rw [if_neg hp]
 with_reducible (refine zC (by omega) ?_; refine qV ?_; (try dsimp only); refine qS ?_; (try dsimp only); refine zx (by omega) ?_; refine qE ?_; refine qQ ?_)
 refine qx (G6 (by omega) H hl) ?_
 rintro _ h3 ⟨rfl, H3⟩
 cases hi : kF p l with
 | none =>
  refine zx (by show ¬ ((0 : Nat) : Int) ≤ -1; omega) ?_
  have hg := Yq.1 hi
  obtain ⟨v, H4⟩ := WrC.E H3
  with_reducible (refine qQ ?_; refine qD ?_; refine qK ?_; refine qz (by assumption) .here rfl ?_; refine jH (by assumption) e_1 ?_; refine qD ?_; refine qK ?_; refine qz (by assumption) .here rfl ?_)
  by_cases hf : m ≤ l.length
  ·rw [if_pos ⟨hg, hf⟩]
   with_reducible (refine zk (by omega) ?_; refine qY ?_)
   exact qk ⟨rfl, H3⟩
  ·rw [if_neg (fun h => hf h.2)]
   with_reducible (refine zx (by omega) ?_; refine qQ ?_; refine qD ?_; refine qK ?_; refine qz (by assumption) .here rfl ?_; refine qo rfl ?_)
   refine jw (sz := 2) (l := [.int .i64 p, .int .u64 x]) H4 rfl rfl rfl rfl fun v5 h5 H5 => ?_
   refine zr (H5.sel e_2) (H5.sl .here) (by omega) (by omega) rfl fun v6 h6 H6 => ?_
   refine qD ?_; refine qK ?_
   refine jB H6 e_2 (H6.one .here) (by simp) fun h7 H7 => qk ⟨rfl, WrC.I (v := v6) ?_⟩
   rw [QP hg, List.flatMap_append, List.length_append]
   exact H7.sub (.cons .here (.cons .here (.drop (.refl))))
 | some i =>
  obtain ⟨h1, ⟨y, h2, h2'⟩, h5⟩ := YG hi
  refine zk (by show ((0 : Nat) : Int) ≤ (i : Int); omega) ?_
  obtain ⟨v, H4⟩ := WrC.E H3
  with_reducible (refine qY ?_; refine qD ?_; refine qK ?_; refine qz (by assumption) .here rfl ?_)
  rw [if_neg (fun h => by rw [h2'] at h; cases h.1)]
  refine qZu (H4.sel e_1) h1 (by omega) ⟨rfl, rfl⟩ fun h6 H6 => qk ⟨rfl, WrC.I (v := v) ?_⟩
  rw [Nn h2] at H6
  dsimp only
  rw [h5, List.length_set]
  exact H6.sub (.cons e_1 (.refl))
theorem Oo {n : Nat} (hn : 1 ≤ n) {v : AV} {l : List Cl} (H : HS g h L) (s : Sel L (qL 67 2 l.length v (l.flatMap js)) R) (hl : l.length < 1000000) :
  wp (callT tab qU n (.fn 152 [] []) [v] h) fun v' h' => HS g h' (qL 67 2 l.length v' (l.flatMap js) :: L) := by
 (refine qt (g := W152) rfl (by omega) fun k hk => ?_; show wp (S152 (callT tab qU k) _ _) _; unfold S152; try simp only [iI, uU, Int.ofNat_eq_natCast])
 refine VW H s (fun _ h0 => qY (qk ?_)) (qQ ?_)
 ·have := List.eq_nil_of_length_eq_zero h0
  subst this
  exact H.nils
 ·refine jw (n := 0) (l := []) (sz := 2) H rfl rfl rfl rfl fun v2 h2 H2 => ?_
  refine zr H2 (H2.sl (.there s)) (by omega) (by omega) (KO l) fun v3 h3 H3 => qk ?_
  rw [Nat.zero_add, List.nil_append] at H3
  exact H3
theorem ko {n : Nat} (hn : 2 ≤ n) {w m : Nat} {l : List Cl} (H : HS g h (WrC w m l :: R)) (hl : l.length < 1000000) :
  wp (callT tab qU n (.fn 102 [] []) [.ptr w 0] h) fun v h' => HS g h' (qL 67 2 l.length v (l.flatMap js) :: WrC w m l :: R) := by
 (refine qt (g := W102) rfl (by omega) fun k hk => ?_; show wp (S102 (callT tab qU k) _ _) _; unfold S102; try simp only [iI, uU, Int.ofNat_eq_natCast])
 obtain ⟨v, H⟩ := WrC.E H
 with_reducible (refine qD ?_; refine qK ?_; refine qz (by assumption) .here rfl ?_)
 refine qx (Oo (by omega) H e_1 hl) fun v3 h3 H3 => qk ?_
 have := WrC.I (v := v) (w := w) (m := m) (l := l) (H3.sub (L' := _ :: _ :: qL 67 2 l.length v3 (l.flatMap js) :: R) (.cons e_1 (.cons e_1 .refl)))
 exact this.sub (.cons e_1 (.refl))
theorem qJi {n : Nat} (hn : 1 ≤ n) {w m : Nat} {l : List Cl} (H : HS g h (WrC w m l :: R)) :
  wp (callT tab qU n (.fn 255 [] []) [.ptr w 0] h) fun v h' => v = .int .i64 (l.length : Int) ∧ h' = h := by
 (refine qt (g := W255) rfl (by omega) fun k hk => ?_; show wp (S255 (callT tab qU k) _ _) _; unfold S255; try simp only [iI, uU, Int.ofNat_eq_natCast])
 obtain ⟨v, H⟩ := WrC.E H
 with_reducible (refine qD ?_; refine qK ?_; refine qz (by assumption) .here rfl ?_; refine jH (by assumption) e_1 ?_)
 exact qk ⟨rfl, rfl⟩
def vj (m : Nat) (l cs : List Cl) : Int × List Cl := if (ww m l cs).1 = 0 then ww m l cs else ((ww m l cs).1, l)
theorem Qx {n : Nat} (hn : 5 ≤ n) {w m : Nat} {l cs : List Cl} {c : AV} (H : HS g h (WrC w m l :: R)) (S : Rd g R 2 cs.length c (cs.flatMap js)) (hl : l.length < 100000) (hc : cs.length < 100000) :
  wp (callT tab qU n (.fn 101 [] []) [.ptr w 0, c] h) fun v h' => v = .int .i64 (vj m l cs).1 ∧ HS g h' (WrC w m (vj m l cs).2 :: R) := by
 (refine qt (g := W101) rfl (by omega) fun k hk => ?_; show wp (S101 (callT tab qU k) _ _ _) _; unfold S101; try simp only [iI, uU, Int.ofNat_eq_natCast])
 refine qx (ko (by omega) H (by omega)) fun v0 h1 H1 => ?_
 refine zy (S.sl H1.drop.drop) ?_
 refine jm (fun k s h' => ∃ (i : Nat) (l' : List Cl), s = (.int .i64 (i : Int), .int .i64 (cs.length : Int), c, v0, .ptr w 0, ()) ∧ i ≤ cs.length ∧ k = cs.length - i ∧ l'.length ≤ l.length + i ∧
  HS g h' (WrC w m l' :: qL 67 2 l.length v0 (l.flatMap js) :: R) ∧ ww m l cs = ww m l' (cs.drop i)) ?_ (m := cs.length) (by show _ < 1000000000; omega) ⟨0, l, rfl, by omega, by omega, by omega, H1.sub (.cons e_1 (.refl)), rfl⟩
 rintro k ih s h2 hih ⟨i, l', rfl, h1, rfl, hl', H, hT⟩
 dsimp only
 refine zW (fun hlt => qY ?_) fun hge => qQ (qI (qk ?_))
 ·have hi : i < cs.length := by omega
  have hci : cs[i]? = some cs[i] := List.getElem?_eq_getElem hi
  refine zu (l := js cs[i]) (S.sl H.drop.drop) hi (by omega) (k8 hci) ?_
  refine jJ H rfl fun b h3 H3 => jD H3 .here rfl (by show 0 + 2 ≤ 2; omega) rfl fun h4 H4 => ?_
  have H5 : HS g h4 (qa b (js cs[i]) :: WrC w m l' :: qL 67 2 l.length v0 (l.flatMap js) :: R) := H4
  unfold js at H5
  with_reducible (refine qK ?_; refine qz (by assumption) .here rfl ?_; refine qK ?_; refine qz (by assumption) .here rfl ?_)
  refine qx (U5 (by omega) H5.drop (by omega)) ?_
  rintro _ h6 ⟨rfl, H6⟩
  rw [List.drop_eq_getElem_cons hi, Ue] at hT
  refine xM (fun hne => qY ?_) fun he => qQ (ql (by omega) ?_)
  ·have hne : ¬ (kG m l' cs[i].1 cs[i].2).1 = 0 := by simpa using hne
   rw [if_neg hne] at hT
   obtain ⟨v7, H7⟩ := WrC.E H6
   refine qD ?_; refine qK ?_
   refine jB H7 .here (H7.one e_2) (by simp) fun h8 H8 => qI (qk ?_)
   unfold vj
   rw [hT, if_neg hne]
   exact ⟨rfl, WrC.I (v := v0) (H8.sub (.cons .here (.cons e_1 (.drop .refl))))⟩
  ·have he' : (kG m l' cs[i].1 cs[i].2).1 = 0 := by simpa using he
   rw [if_pos he'] at hT
   refine hih (cs.length - (i + 1)) _ _ (by omega) ⟨i + 1, _, rfl, by omega, rfl, ?_, H6, hT⟩
   have := kp (p := cs[i].1) (v := cs[i].2) (l := l')
   unfold kG
   repeat' split
   all_goals dsimp only
   all_goals first | omega | (split at this <;> omega)
 ·rw [List.drop_of_length_le (by omega)] at hT
  have hT : ww m l cs = (0, l') := hT
  unfold vj
  rw [hT, if_pos rfl]
  exact ⟨rfl, H.sub (.cons .here (.drop .refl))⟩
end Go.Proofs.YtdlfmpmpmkffjaaGreatDoor
namespace Go.Proofs.YtdlfmpmpmkffjaaGreatDoor
open Go Go.Ae
set_option maxRecDepth 100000
variable {g h : AH} {L R : List SP}
def LvC (a : Nat) (x : LvM) : SP := .ex fun w => .ex fun fv => .all [qa a [.ptr w 0, fv], WrC w 96 x.1, qL 3 1 x.2.length fv (x.2.map (.int .i64))]
theorem LvC.E {a : Nat} {x : LvM} (H : HS g h (LvC a x :: R)) : ∃ w fv, HS g h (qa a [.ptr w 0, fv] :: WrC w 96 x.1 :: qL 3 1 x.2.length fv (x.2.map (.int .i64)) :: R) := by
 obtain ⟨w, H⟩ := H.exE
 obtain ⟨fv, H⟩ := H.exE
 exact ⟨w, fv, H.allE⟩
theorem LvC.I {a w : Nat} {fv : AV} {x : LvM} (H : HS g h (qa a [.ptr w 0, fv] :: WrC w 96 x.1 :: qL 3 1 x.2.length fv (x.2.map (.int .i64)) :: R)) : HS g h (LvC a x :: R) :=
 HS.exI w (HS.exI fv (HS.allI H))
def zb (ps : List Nat) : List AV := ps.reverse.map fun a => .ptr a 0
def LgC (q most : Nat) (lv : List LvM) : SP := .ex fun v => .ex fun ps : List Nat => .all (.pur (ps.length = lv.length) :: qa q [.int .i64 (most : Int), v] :: qL 136 1 lv.length v (zb ps) :: List.zipWith LvC ps lv)
theorem LgC.E {q most : Nat} {lv : List LvM} (H : HS g h (LgC q most lv :: R)) : ∃ v ps, ps.length = lv.length ∧ HS g h (qa q [.int .i64 (most : Int), v] :: qL 136 1 lv.length v (zb ps) :: (List.zipWith LvC ps lv ++ R)) := by
 obtain ⟨v, H⟩ := H.exE
 obtain ⟨ps, H⟩ := H.exE
 obtain ⟨e, H⟩ := HS.purE (H.allE)
 exact ⟨v, ps, e, H⟩
theorem LgC.I {q most : Nat} {lv : List LvM} {v : AV} {ps : List Nat} (e : ps.length = lv.length) (H : HS g h (qa q [.int .i64 (most : Int), v] :: qL 136 1 lv.length v (zb ps) :: (List.zipWith LvC ps lv ++ R))) : HS g h (LgC q most lv :: R) :=
 HS.exI v (HS.exI ps (HS.allI (HS.purI e H)))
theorem LgC.E1 {q most : Nat} {x : LvM} {r : List LvM} (H : HS g h (LgC q most (x :: r) :: R)) : ∃ v a ps, ps.length = r.length ∧ HS g h (qa q [.int .i64 (most : Int), v] :: qL 136 1 (r.length + 1) v (zb (a :: ps)) :: LvC a x :: (List.zipWith LvC ps r ++ R)) := by
 obtain ⟨v, ps, e, H⟩ := LgC.E H
 cases ps with
 | nil => simp at e
 | cons a ps => exact ⟨v, a, ps, by simpa using e, H⟩
theorem LgC.I1 {q most : Nat} {x : LvM} {r : List LvM} {v : AV} {a : Nat} {ps : List Nat} (e : ps.length = r.length) (H : HS g h (qa q [.int .i64 (most : Int), v] :: qL 136 1 (r.length + 1) v (zb (a :: ps)) :: LvC a x :: (List.zipWith LvC ps r ++ R))) : HS g h (LgC q most (x :: r) :: R) :=
 LgC.I (ps := a :: ps) (by simp [e]) H
theorem K5 (a : Nat) (ps : List Nat) : (zb (a :: ps))[ps.length]? = some (.ptr a 0) := by
 unfold zb
 rw [List.reverse_cons, List.map_append, List.getElem?_append_right (by simp)]
 simp
theorem Qa {ps : List Nat} {i : Nat} (hi : i < ps.length) : (zb ps)[i]? = (ps[ps.length - 1 - i]?).map fun a => .ptr a 0 := by
 unfold zb
 rw [List.getElem?_map, List.getElem?_reverse hi]
theorem Jv {ps : List Nat} : ∀ {lv : List LvM} {i a : Nat} {x : LvM}, ps[i]? = some a → lv[i]? = some x → ∃ T, Sel (List.zipWith LvC ps lv ++ R) (LvC a x) T := by
 induction ps with
 | nil => intro lv i a x h; simp at h
 | cons b ps ih =>
  intro lv i a x h1 h2
  cases lv with
  | nil => simp at h2
  | cons y lv =>
   cases i with
   | zero =>
    simp at h1 h2
    subst h1; subst h2
    exact ⟨_, .here⟩
   | succ i =>
    obtain ⟨T, s⟩ := ih (lv := lv) (i := i) (by simpa using h1) (by simpa using h2)
    exact ⟨_, .there s⟩
theorem kA {n q : Nat} (hn : 1 ≤ n) {m v : AV} {a : Nat} {ps : List Nat} {R1 R2 : List SP} {e : TypeId} (H : HS g h L) (s1 : Sel L (qa q [m, v]) R1) (s2 : Sel L (qL e 1 (ps.length + 1) v (zb (a :: ps))) R2) (hl : ps.length < 1000000) :
  wp (callT tab qU n (.fn 222 [] []) [.ptr q 0] h) fun r h' => r = .ptr a 0 ∧ h' = h := by
 (refine qt (g := W222) rfl (by omega) fun k hk => ?_; show wp (S222 (callT tab qU k) _ _) _; unfold S222; try simp only [iI, uU, Int.ofNat_eq_natCast])
 refine qD (qK (qz H s1 rfl (qD (qK (qz H s1 rfl (jH H s2 (jT (by omega) ?_)))))))
 rw [show ((ps.length + 1 : Nat) : Int) - ((1 : Nat) : Int) = ((ps.length : Nat) : Int) by omega]
 exact jn (H.sl s2) (K5 a ps) (qk ⟨rfl, rfl⟩)
theorem X6 {n : Nat} (hn : 2 ≤ n) (H : HS g h R) : wp (callT tab qU n (.fn 81 [] []) [] h) fun v h' => ∃ a, v = .ptr a 0 ∧ HS g h' (LvC a ([], []) :: R) := by
 (refine qt (g := W81) rfl (by omega) fun k hk => ?_; show wp (S81 (callT tab qU k) _) _; unfold S81; try simp only [iI, uU, Int.ofNat_eq_natCast])
 refine qx (YE (m := 96) (by omega) (by omega) H) ?_
 rintro _ h2 ⟨w, rfl, H2⟩
 refine qo rfl (jJ H2 rfl fun a h3 H3 => qk ⟨a, rfl, ?_⟩)
 exact LvC.I (w := w) (fv := .nils) ((H3.nils (e := 3) (sz := 1)).sub (.cons e_1 (.cons e_1 (.cons .here (.refl)))))
theorem qJr {n : Nat} (hn : 3 ≤ n) {m : Int} (H : HS g h R) : wp (callT tab qU n (.fn 47 [] []) [.int .i64 m] h) fun v h' => ∃ q, v = .ptr q 0 ∧ HS g h' (LgC q (max 0 (min m 96)).toNat [([], [])] :: R) := by
 (refine qt (g := W47) rfl (by omega) fun k hk => ?_; show wp (S47 (callT tab qU k) _ _) _; unfold S47; try simp only [iI, uU, Int.ofNat_eq_natCast])
 refine zS (ze (qx (X6 (by omega) H) ?_))
 rintro _ h2 ⟨a, rfl, H2⟩
 refine jw (n := 1) (l := [.ptr a 0]) (sz := 1) H2 rfl rfl rfl rfl fun v h3 H3 => ?_
 have h1 := H3.one .here
 refine qo (l := [.int .i64 (max ((0 : Nat) : Int) (min m ((96 : Nat) : Int))), v]) (by simp only [vy, h1.1]; rfl) ?_
 refine jJ H3 (by show (true && (v.one && true)) = true; rw [h1.2]; rfl) fun q h4 H4 => qk ⟨q, rfl, ?_⟩
 refine LgC.I1 (v := v) (a := a) (ps := []) rfl ?_
 rw [show (((max 0 (min m 96)).toNat : Nat) : Int) = max ((0 : Nat) : Int) (min m ((96 : Nat) : Int)) by omega]
 exact H4
theorem ZD {n q most : Nat} (hn : 2 ≤ n) {lv : List LvM} {b : Int} (H : HS g h (LgC q most lv :: R)) (O : OkL most lv) (hf : ∀ x ∈ lv, x.2.length < 1000000) :
  wp (callT tab qU n (.fn 241 [] []) [.ptr q 0, .int .i64 b] h) fun _ h' => HS g h' (LgC q most (Qz lv b) :: R) := by
 cases lv with
 | nil => have := O.one; simp at this
 | cons x r =>
 (refine qt (g := W241) rfl (by omega) fun k hk => ?_; show wp (S241 (callT tab qU k) _ _ _) _; unfold S241; try simp only [iI, uU, Int.ofNat_eq_natCast])
 obtain ⟨v, a, ps, e, H⟩ := LgC.E1 H
 rw [← e] at H
 refine qx (kA (by omega) H .here e_1 (by have := O.deep; simp at this; omega)) ?_
 rintro _ _ ⟨rfl, rfl⟩
 obtain ⟨w, fv, H2⟩ := LvC.E (H.sel e_2)
 with_reducible (refine qD ?_; refine qK ?_; refine qz (by assumption) .here rfl ?_)
 refine jw (n := 1) (l := [.int .i64 b]) (sz := 1) H2 rfl rfl rfl rfl fun v3 h3 H3 => ?_
 have := hf x (List.mem_cons_self ..)
 refine zr (H3.sel (P := qL 3 1 x.2.length fv (x.2.map (.int .i64))) e_3) (H3.sl .here) (by omega) (by omega) rfl fun v4 h4 H4 => ?_
 refine qD ?_; refine qK ?_
 refine jB H4 e_2 (H4.one .here) (by simp) fun h5 H5 => qk ?_
 refine LgC.I1 (v := v) (a := a) (ps := ps) e ?_
 rw [← e]
 have := LvC.I (a := a) (w := w) (fv := v4) (x := (x.1, x.2 ++ [b])) (R := qa q [.int .i64 (most : Int), v] :: qL 136 1 (ps.length + 1) v (zb (a :: ps)) :: (List.zipWith LvC ps r ++ R))
  (by rw [List.map_append, List.length_append]; exact H5.sub (.cons .here (.cons e_2 (.cons .here (.cons e_1 (.cons e_1 (.drop (.refl))))))))
 exact this.sub (.cons e_1 (.cons e_1 (.refl)))
theorem Vd {n q most : Nat} (hn : 1 ≤ n) {lv : List LvM} (H : HS g h (LgC q most lv :: R)) (O : OkL most lv) (hf : (vY lv).length < 1000000) :
  wp (callT tab qU n (.fn 70 [] []) [.ptr q 0] h) fun v h' => HS g h' (qL 3 1 (vY lv).length v ((vY lv).map (.int .i64)) :: LgC q most lv :: R) := by
 (refine qt (g := W70) rfl (by omega) fun k hk => ?_; show wp (S70 (callT tab qU k) _ _) _; unfold S70; try simp only [iI, uU, Int.ofNat_eq_natCast])
 have hd := O.deep
 obtain ⟨v, ps, e, H⟩ := LgC.E H
 with_reducible (refine qD ?_; refine qK ?_; refine qz (by assumption) .here rfl ?_; refine jH (by assumption) e_1 ?_)
 refine jm (fun m s h' => ∃ (i : Nat) (acc : AV), s = (.int .i64 (i : Int), .int .i64 (lv.length : Int), v, acc, ()) ∧ i ≤ lv.length ∧ m = lv.length - i ∧
  HS g h' (qL 3 1 ((lv.reverse.take i).flatMap (·.2)).length acc (((lv.reverse.take i).flatMap (·.2)).map (.int .i64)) :: qa q [.int .i64 (most : Int), v] :: qL 136 1 lv.length v (zb ps) :: (List.zipWith LvC ps lv ++ R)))
  ?_ (m := lv.length) (by have := O.deep; show _ < 1000000000; omega) ⟨0, .nils, rfl, by omega, by omega, H.nils⟩
 rintro m ih s h' hih ⟨i, acc, rfl, h1, rfl, H⟩
 dsimp only
 refine zW (fun hlt => qY ?_) fun hge => qQ (qI (qk ?_))
 ·have hi : i < lv.length := by omega
  have ha : ps[ps.length - 1 - i]? = some (ps[ps.length - 1 - i]'(by omega)) := List.getElem?_eq_getElem _
  have hx : lv[ps.length - 1 - i]? = some (lv[ps.length - 1 - i]'(by omega)) := List.getElem?_eq_getElem _
  generalize ps[ps.length - 1 - i]'(by omega) = a at ha
  have hx2 : lv.reverse[i]? = some (lv[ps.length - 1 - i]'(by omega)) := by rw [List.getElem?_reverse hi, ← hx, e]
  generalize lv[ps.length - 1 - i]'(by omega) = x at hx hx2
  refine jn (H.sl e_2) (by rw [Qa (by omega), ha]; rfl) ?_
  obtain ⟨T, s⟩ := Jv (R := R) ha hx
  have H2 := H.sel (.there (.there (.there s)))
  obtain ⟨w, fv, H3⟩ := LvC.E H2
  with_reducible (refine qD ?_; refine qK ?_; refine qz (by assumption) .here rfl ?_)
  have hlen : ((lv.reverse.take i).flatMap (·.2)).length + x.2.length ≤ (vY lv).length := by
   have e1 : lv.reverse.flatMap (·.2) = (lv.reverse.take (i + 1)).flatMap (·.2) ++ (lv.reverse.drop (i + 1)).flatMap (·.2) := by rw [← List.flatMap_append, List.take_append_drop]
   unfold vY
   rw [e1, List.take_add_one, hx2]
   simp
  refine zr (H3.sel (P := qL 3 1 ((lv.reverse.take i).flatMap (·.2)).length acc (((lv.reverse.take i).flatMap (·.2)).map (.int .i64))) e_3) (H3.sl e_2) (by omega) (by omega) ?_ fun v4 h4 H4 => ql (by omega) ?_
  ·simp [jA, AV.one]
  refine hih (lv.length - (i + 1)) _ _ (by omega) ⟨i + 1, v4, rfl, by omega, rfl, ?_⟩
  rw [List.take_add_one, hx2, Option.toList_some, List.flatMap_append, List.map_append, List.length_append, List.flatMap_cons, List.flatMap_nil, List.append_nil]
  have H5 := LvC.I (a := a) (w := w) (fv := fv) (x := x) (H4.sub (.cons e_1 (.cons e_1 (.cons e_1 .refl))))
  exact HS.unsel (.there (.there (.there s))) (H5.sub (.refl))
 ·obtain rfl : i = lv.length := by omega
  rw [List.take_of_length_le (by simp)] at H
  exact (LgC.I (v := v) (ps := ps) e (HS.back (A := _ :: _ :: List.zipWith LvC ps lv) H)).sub (.cons e_1 (.refl))
theorem rsum (l : List Nat) : l.reverse.sum = l.sum := by
 induction l with
 | nil => rfl
 | cons a l ih => rw [List.reverse_cons, List.sum_append, ih, List.sum_cons]; simp [Nat.add_comm]
theorem Nm {n q most : Nat} (hn : 2 ≤ n) {lv : List LvM} (H : HS g h (LgC q most lv :: R)) (O : OkL most lv) :
  wp (callT tab qU n (.fn 239 [] []) [.ptr q 0] h) fun v h' => v = .int .i64 ((most : Int) - (xy lv : Int)) ∧ h' = h := by
 (refine qt (g := W239) rfl (by omega) fun k hk => ?_; show wp (S239 (callT tab qU k) _ _) _; unfold S239; try simp only [iI, uU, Int.ofNat_eq_natCast])
 obtain ⟨v, ps, e, H⟩ := LgC.E H
 have hh := O.held
 have hl := O.le
 have hd := O.deep
 with_reducible (refine qD ?_; refine qK ?_; refine qz (by assumption) .here rfl ?_; refine qD ?_; refine qK ?_; refine qz (by assumption) .here rfl ?_; refine jH (by assumption) e_1 ?_)
 refine jm (fun m s h' => ∃ (i : Nat), s = (.int .i64 (i : Int), .int .i64 (lv.length : Int), v, .int .i64 ((most : Int) - (((lv.reverse.take i).map fun x => x.1.length).sum : Nat)), ()) ∧ i ≤ lv.length ∧ m = lv.length - i ∧ h' = h)
  ?_ (m := lv.length) (by show _ < 1000000000; omega) ⟨0, by simp, by omega, by omega, rfl⟩
 rintro m ih s h' hih ⟨i, rfl, h1, rfl, rfl⟩
 dsimp only
 have hsum : ∀ j, ((lv.reverse.take j).map fun x => x.1.length).sum + ((lv.reverse.drop j).map fun x => x.1.length).sum = xy lv := by
  intro j
  rw [← List.sum_append, ← List.map_append, List.take_append_drop, List.map_reverse, rsum]; rfl
 refine zW (fun hlt => qY ?_) fun hge => qQ (qI (qk ⟨?_, rfl⟩))
 ·have hi : i < lv.length := by omega
  have ha : ps[ps.length - 1 - i]? = some (ps[ps.length - 1 - i]'(by omega)) := List.getElem?_eq_getElem _
  have hx : lv[ps.length - 1 - i]? = some (lv[ps.length - 1 - i]'(by omega)) := List.getElem?_eq_getElem _
  generalize ps[ps.length - 1 - i]'(by omega) = a at ha
  have hx2 : lv.reverse[i]? = some (lv[ps.length - 1 - i]'(by omega)) := by rw [List.getElem?_reverse hi, ← hx, e]
  generalize lv[ps.length - 1 - i]'(by omega) = x at hx hx2
  refine jn (H.sl e_1) (by rw [Qa (by omega), ha]; rfl) ?_
  obtain ⟨T, s⟩ := Jv (R := R) ha hx
  obtain ⟨w, fv, H3⟩ := LvC.E (H.sel (.there (.there s)))
  with_reducible (refine qD ?_; refine qK ?_; refine qz (by assumption) .here rfl ?_)
  refine qx (qJi (by omega) (H3.sel e_1)) ?_
  rintro _ _ ⟨rfl, rfl⟩
  have h2 := hsum i
  have h3 := hsum (i + 1)
  have h4 : ((lv.reverse.take (i + 1)).map fun x => x.1.length).sum = ((lv.reverse.take i).map fun x => x.1.length).sum + x.1.length := by
   rw [List.take_add_one, hx2, Option.toList_some, List.map_append, List.sum_append]; simp
  refine jT (by omega) (ql (by omega) (hih (lv.length - (i + 1)) _ _ (by omega) ⟨i + 1, ?_, by omega, rfl, rfl⟩))
  rw [h4]
  refine Prod.ext ?_ (Prod.ext rfl (Prod.ext rfl (Prod.ext ?_ rfl)))
  ·show AV.int _ _ = AV.int _ _
   congr 1
  ·show AV.int _ _ = AV.int _ _
   congr 1
   omega
 ·have h2 := hsum i
  rw [List.drop_of_length_le (by simp; omega)] at h2
  rw [show ((lv.reverse.take i).map fun x => x.1.length).sum = xy lv by simpa using h2]
theorem U2 {k b0 l : Nat} {v : AV} {ps : List Nat} {Inv : Nat → AH → Prop} {Fin : AH → Prop}
  (hrd : ∀ i h, Inv i h → h.at b0 0 = some v ∧ Sl (fun _ => True) h 1 ps.length v (zb ps))
  (hy : ∀ i a h, ps[i]? = some a → Inv i h → wp (callT tab qU k (.yield l) [.int .i64 ((ps.length - 1 - i : Nat) : Int), .ptr a 0] h) fun r h' => (r = .bool true ∧ Inv (i + 1) h') ∨ (r = .bool false ∧ Fin h'))
  (hl : ps.length < 1000000) (h0 : Inv 0 h) : wp (callT tab qU (k + 1) (.fn 150 [] [.ptr b0 0]) [.yield l] h) fun _ h' => Inv ps.length h' ∨ Fin h' := by
 refine qZE (g := W150) rfl (by omega) fun k' hk => ?_
 obtain rfl : k' = k := by omega
 show wp (S150 _ _ _ _) _
 unfold S150
 try simp only [iI, uU, Int.ofNat_eq_natCast]
 obtain ⟨r1, r2⟩ := hrd 0 h h0
 refine gD r1 (zy r2 (jT (by omega) ?_))
 refine jm (fun m s h' => ∃ i : Nat, s = (.int .i64 ((ps.length : Int) - ((1 : Nat) : Int) - (i : Int)), .ptr b0 0, .yield l, ()) ∧ i ≤ ps.length ∧ m = ps.length - i ∧ Inv i h') ?_ (m := ps.length) (by show _ < 1000000000; omega) ⟨0, by simp, by omega, by omega, h0⟩
 rintro m ih s h' hih ⟨i, rfl, h1, rfl, hI⟩
 dsimp only
 obtain ⟨r1, r2⟩ := hrd i h' hI
 refine yI (fun hlt => qY ?_) fun hge => qQ (qI (qk (.inl ?_)))
 ·have hi : i < ps.length := by omega
  have ha : ps[i]? = some ps[i] := List.getElem?_eq_getElem hi
  rw [show (ps.length : Int) - ((1 : Nat) : Int) - (i : Int) = ((ps.length - 1 - i : Nat) : Int) by omega]
  refine gD r1 (jn r2 (by rw [Qa (by omega), show ps.length - 1 - (ps.length - 1 - i) = i by omega, ha]; rfl) ?_)
  refine qx (hy i _ h' ha hI) ?_
  rintro _ h2 (⟨rfl, hI2⟩ | ⟨rfl, hF⟩)
  ·refine jU (qQ (jT (by omega) (hih (ps.length - (i + 1)) _ _ (by omega) ⟨i + 1, ?_, by omega, rfl, hI2⟩)))
   refine Prod.ext ?_ rfl
   show AV.int _ _ = AV.int _ _
   congr 1
   omega
  ·exact jc (qY (qI (qk (.inr hF))))
 ·obtain rfl : i = ps.length := by omega
  exact hI
theorem Vr {p : Int} : ∀ {lv : List LvM}, (∀ (j : Nat) x, lv[j]? = some x → zV p x.1 = none) → Qf p lv = none := by
 intro lv
 induction lv with
 | nil => intro _; rfl
 | cons x r ih =>
  intro h
  unfold Qf
  rw [h 0 x rfl]
  exact ih fun j y hy => h (j + 1) y (by simpa using hy)
theorem MK {p v : Int} : ∀ {lv : List LvM} {i : Nat} {x : LvM}, (∀ j, j < i → ∀ x, lv[j]? = some x → zV p x.1 = none) → lv[i]? = some x → zV p x.1 = some v → Qf p lv = some v := by
 intro lv
 induction lv with
 | nil => intro i x _ h; simp at h
 | cons y r ih =>
  intro i x h1 h2 h3
  unfold Qf
  cases i with
  | zero => simp at h2; subst h2; rw [h3]
  | succ i =>
   rw [h1 0 (by omega) y rfl]
   exact ih (i := i) (x := x) (fun j hj z hz => h1 (j + 1) (by omega) z (by simpa using hz)) (by simpa using h2) h3
theorem OkL.len {most : Nat} {lv : List LvM} (O : OkL most lv) {x : LvM} (hx : x ∈ lv) : x.1.length ≤ 96 := by
 have h1 := O.held
 have h2 := O.le
 have : x.1.length ≤ xy lv := by
  clear h1 O
  induction lv with
  | nil => cases hx
  | cons y r ih =>
   rw [zY]
   rcases List.mem_cons.1 hx with rfl | hx
   ·omega
   ·have := ih hx; omega
 omega
theorem Q3 {n : Nat} (hn : 1 ≤ n) {v : AV} (h1 : One v) (H : HS g h L) : wp (callT tab qU n (.fn 99 [] []) [v] h) fun r h' => ∃ b, r = .fn 150 [] [.ptr b 0] ∧ HS g h' (qa b [v] :: L) := by
 (refine qt (g := W99) rfl (by omega) fun k hk => ?_; show wp (S99 (callT tab qU k) _ _) _; unfold S99; try simp only [iI, uU, Int.ofNat_eq_natCast])
 exact wn H h1 fun b h2 H2 => qk ⟨b, rfl, H2⟩
theorem qJB {n q most : Nat} (hn : 8 ≤ n) {lv : List LvM} {p : Int} (H : HS g h (LgC q most lv :: R)) (O : OkL most lv) :
  wp (callT tab qU n (.fn 157 [] []) [.ptr q 0, .int .i64 p] h) fun v h' => v = .tup [.int .u64 ((Qf p lv).getD 0), .bool (Qf p lv).isSome] ∧ HS g h' (LgC q most lv :: R) := by
 (refine qt (g := W157) rfl (by omega) fun k hk => ?_; show wp (S157 (callT tab qU k) _ _ _) _; unfold S157; try simp only [iI, uU, Int.ofNat_eq_natCast])
 obtain ⟨v, ps, e, H⟩ := LgC.E H
 have hd := O.deep
 refine wn H ⟨rfl, rfl⟩ fun b1 h1 H => wn H ⟨rfl, rfl⟩ fun b2 h2 H => wn H ⟨rfl, rfl⟩ fun b3 h3 H => ?_
 with_reducible (refine qD ?_; refine qK ?_; refine qz (by assumption) e_3 rfl ?_)
 refine qx (Q3 (by omega) (H.one e_4) H) ?_
 rintro _ h4 ⟨b4, rfl, H⟩
 have H5 := (H.newBlk .dfd).newBlk (.loop .ready none 157 [1, 0, 1, 0] [5, 4, 3] [.ptr b3 0, .ptr b2 0, .ptr b1 0] h4.nx)
 generalize (h4.new .dfd).nx = l at H5 ⊢
 generalize h4.nx = d at H5 ⊢
 obtain ⟨k2, rfl⟩ : ∃ k2, k = k2 + 1 := ⟨k - 1, by omega⟩
 refine Gc (U2 (b0 := b4) (v := v) (ps := ps)
  (Inv := fun i h' => HS g h' (vE l (.loop .ready none 157 [1, 0, 1, 0] [5, 4, 3] [.ptr b3 0, .ptr b2 0, .ptr b1 0] d) :: vE d .dfd :: qa b4 [v] :: qa b3 [.bool false] :: qa b2 [.int .u64 ((0 : Nat) : Int)] :: qa b1 [.int .i64 p] ::
   qa q [.int .i64 (most : Int), v] :: qL 136 1 lv.length v (zb ps) :: (List.zipWith LvC ps lv ++ R)) ∧ ∀ j, j < i → ∀ x, lv[j]? = some x → zV p x.1 = none)
  (Fin := fun h' => ∃ x, Qf p lv = some x ∧ HS g h' (vE l (.loop .done (some .ret) 157 [1, 0, 1, 0] [5, 4, 3] [.ptr b3 0, .ptr b2 0, .ptr b1 0] d) :: vE d .dfd :: qa b4 [v] :: qa b3 [.bool true] :: qa b2 [.int .u64 x] :: qa b1 [.int .i64 p] ::
   qa q [.int .i64 (most : Int), v] :: qL 136 1 lv.length v (zb ps) :: (List.zipWith LvC ps lv ++ R)))
  ?_ ?_ (by omega) ⟨H5, fun j hj => by omega⟩) ?_
 ·rintro i h' ⟨H, _⟩
  obtain ⟨et, A⟩ := H.obj (b := b4) e_2
  exact ⟨A.at 0, e ▸ H.sl e_7⟩
 ·rintro i a h' ha ⟨H, hno⟩
  have hi := (List.getElem?_eq_some_iff.1 ha).1
  have hx : lv[i]? = some (lv[i]'(by omega)) := List.getElem?_eq_getElem _
  have hm : lv[i]'(by omega) ∈ lv := List.getElem_mem _
  generalize lv[i]'(by omega) = x at hx hm
  have hxl := O.len hm
  refine KJ (H.blk .here) (w := V1) rfl (by omega) fun k3 hk3 => ?_
  show wp (B1 _ _ _ _ _ (.int .i64 ((ps.length - 1 - i : Nat) : Int)) _ _) _
  unfold B1
  try simp only [iI, uU, Int.ofNat_eq_natCast]
  refine G8 H .here fun h6 H => ?_
  obtain ⟨T, s⟩ := Jv (R := R) ha hx
  obtain ⟨w, fv, H7⟩ := LvC.E (H.sel (.there (.there (.there (.there (.there (.there (.there (.there s)))))))))
  with_reducible (refine qD ?_; refine qK ?_; refine qz (by assumption) .here rfl ?_; refine qz (by assumption) e_8 rfl ?_)
  refine qx (VV (by omega) (H7.sel e_1) (by omega)) ?_
  rintro _ h8 ⟨rfl, H8⟩
  with_reducible (refine qc rfl ?_; refine qc rfl ?_)
  cases hg : zV p x.1 with
  | none =>
   refine qQ (U8 H8 e_3 fun h9 H9 => .inl ⟨rfl, ?_, fun j hj y hy => ?_⟩)
   ·have H10 := LvC.I (a := a) (w := w) (fv := fv) (x := x) (H9.sub (.cons e_2 (.cons e_1 (.cons e_1 .refl))))
    exact HS.unsel (.there (.there (.there (.there (.there (.there (.there (.there s)))))))) (H10.sub (.refl))
   ·by_cases hj' : j < i
    ·exact hno j hj' y hy
    ·obtain rfl : j = i := by omega
     rw [hx] at hy; cases hy; exact hg
  | some z =>
   refine qY (jB H8 (b := b2) e_7 ⟨rfl, rfl⟩ (by simp) fun h9 H9 => jB H9 (b := b3) e_7 ⟨rfl, rfl⟩ (by simp) fun h10 H10 => qJ6 H10 e_5 fun h11 H11 => .inr ⟨rfl, z, MK hno hx hg, ?_⟩)
   have H12 := LvC.I (a := a) (w := w) (fv := fv) (x := x) (H11.sub (.cons e_4 (.cons e_3 (.cons e_3 .refl))))
   exact HS.unsel (.there (.there (.there (.there (.there (.there (.there (.there s)))))))) (H12.sub (.cons .here (.cons .here (.cons e_2 (.cons e_2 (.cons .here (.cons .here (.refl))))))))
 ·rintro _ h6 (⟨H, hno⟩ | ⟨x, hx, H⟩)
  ·have hg : Qf p lv = none := Vr fun j x hj => hno j (by have := (List.getElem?_eq_some_iff.1 hj).1; omega) x hj
   refine YM H .here (fun h => by cases h) fun h7 H => Kj (jB H (b := b2) e_4 ⟨rfl, rfl⟩ (by simp) fun h8 H => jB H (b := b3) e_4 ⟨rfl, rfl⟩ (by simp) fun h9 H => Qb H e_3 fun h10 H => ?_)
   with_reducible (refine qz (by assumption) e_2 rfl ?_; refine qz (by assumption) e_1 rfl ?_)
   refine qk ⟨by rw [hg]; rfl, ?_⟩
   exact LgC.I (v := v) (ps := ps) e (H.sub (.cons e_6 (.cons e_6 (.drop (.drop (.drop (.drop (.drop (.drop (.refl))))))))))
  ·refine YM H .here (fun h => by cases h) fun h7 H => Ni (qZ5 rfl (Qb H e_1 fun h8 H => ?_))
   with_reducible (refine qz (by assumption) e_4 rfl ?_; refine qz (by assumption) e_3 rfl ?_)
   refine qk ⟨by rw [hx]; rfl, ?_⟩
   exact LgC.I (v := v) (ps := ps) e (H.sub (.cons e_6 (.cons e_6 (.drop (.drop (.drop (.drop (.drop (.drop (.refl))))))))))
theorem qZ7 {x : LvM} {r : List LvM} {most : Nat} {p v : Int} (O : OkL most (x :: r)) (hp : ¬ (p < 1 ∨ 256 ≤ p)) (hf : ¬ (zV p x.1 = none ∧ most ≤ xy (x :: r))) : kG 96 x.1 p v = (0, xS p v x.1) := by
 have h1 := O.held
 have h2 := O.le
 rw [zY] at h1 hf
 unfold kG
 rw [if_neg hp, if_neg (fun h => hf ⟨h.1, by omega⟩)]
theorem Vv {n q most : Nat} (hn : 5 ≤ n) {lv : List LvM} {p v : Int} (H : HS g h (LgC q most lv :: R)) (O : OkL most lv) :
  wp (callT tab qU n (.fn 194 [] []) [.ptr q 0, .int .i64 p, .int .u64 v] h) fun r h' => r = .int .i64 (yq most lv p v).1 ∧ HS g h' (LgC q most (yq most lv p v).2 :: R) := by
 cases lv with
 | nil => have := O.one; simp at this
 | cons x r =>
 have hxl := O.len (x := x) (List.mem_cons_self ..)
 (refine qt (g := W194) rfl (by omega) fun k hk => ?_; show wp (S194 (callT tab qU k) _ _ _ _) _; unfold S194; try simp only [iI, uU, Int.ofNat_eq_natCast])
 unfold yq
 by_cases hp : p < 1 ∨ 256 ≤ p
 ·simp only [if_pos hp]
  repeat' (first | with_reducible refine qY ?_ | with_reducible refine qQ ?_ | (with_reducible refine qi ?_; try dsimp only) | (with_reducible refine qp ?_; try dsimp only) | (with_reducible refine qh ?_; try dsimp only) | (with_reducible refine qS ?_; try dsimp only) | (with_reducible refine jP ?_; try dsimp only) | with_reducible refine qO ?_ | with_reducible refine qE ?_ | (with_reducible refine qV ?_; try dsimp only) | with_reducible refine qI ?_ | with_reducible refine jU ?_ | with_reducible refine jc ?_ | with_reducible refine ql (by omega) ?_ | with_reducible refine jT (by omega) ?_ | with_reducible refine zt (by omega) ?_ | with_reducible refine zf (by omega) ?_ | with_reducible refine zS ?_ | with_reducible refine ze ?_ | with_reducible refine qH (by omega) ?_ | with_reducible refine qG (by omega) ?_ | with_reducible refine zA (by omega) ?_ | with_reducible refine zZ (by omega) ?_ | with_reducible refine zh (by omega) ?_ | with_reducible refine zC (by omega) ?_ | with_reducible refine wo (by omega) ?_ | with_reducible refine ki (by omega) ?_ | with_reducible refine xR (by omega) ?_ | with_reducible refine xA (by omega) ?_ | with_reducible refine zk (by omega) ?_ | with_reducible refine zx (by omega) ?_ | with_reducible refine zW (fun hc => ?_) (fun hc => ?_) | with_reducible refine vD (fun hc => ?_) (fun hc => ?_) | with_reducible refine xO (fun hc => ?_) (fun hc => ?_) | with_reducible refine yI (fun hc => ?_) (fun hc => ?_) | with_reducible refine y4 (fun hc => ?_) (fun hc => ?_) | with_reducible refine xM (fun hc => ?_) (fun hc => ?_) | with_reducible refine yF (fun hc => ?_) (fun hc => ?_))
  all_goals exact qk ⟨rfl, H⟩
 simp only [if_neg hp]
 with_reducible (refine zC (by omega) ?_; refine qV ?_; (try dsimp only); refine qS ?_; (try dsimp only); refine zx (by omega) ?_; refine qE ?_; refine qQ ?_)
 have hH := H
 obtain ⟨sv, a, ps, e, H⟩ := LgC.E1 H
 rw [← e] at H
 refine qx (kA (by omega) H .here e_1 (by have := O.deep; simp at this; omega)) ?_
 rintro _ _ ⟨rfl, rfl⟩
 obtain ⟨w, fv, H2⟩ := LvC.E (H.sel e_2)
 with_reducible (refine qD ?_; refine qK ?_; refine qz (by assumption) .here rfl ?_)
 refine qx (VV (by omega) (H2.sel e_1) (by omega)) ?_
 rintro _ h3 ⟨rfl, H3⟩
 with_reducible (refine qc rfl ?_; refine qc rfl ?_)
 have H4 : HS g h3 (LgC q most (x :: r) :: R) := by
  have H4 := LvC.I (a := a) (w := w) (fv := fv) (x := x) (H3.sub (.cons e_1 (.cons .here .refl)))
  refine LgC.I1 (v := sv) (a := a) (ps := ps) e ?_
  rw [← e]
  exact H4.sub (.cons e_1 (.cons e_1 (.refl)))
 have fin : ¬ (zV p x.1 = none ∧ most ≤ xy (x :: r)) → ∀ h5, HS g h5 (WrC w 96 x.1 :: qa a [.ptr w 0, fv] :: qL 3 1 x.2.length fv (x.2.map (.int .i64)) :: qa q [.int .i64 (most : Int), sv] :: qL 136 1 (ps.length + 1) sv (zb (a :: ps)) :: (List.zipWith LvC ps r ++ R)) →
   wp (callT tab qU k (.fn 151 [] []) [.ptr w 0, .int .i64 p, .int .u64 v] h5) fun r' h' => r' = .int .i64 0 ∧ HS g h' (LgC q most ((xS p v x.1, x.2) :: r) :: R) := by
  intro hf h5 H5
  refine (U5 (by omega) H5 (by omega)).mono ?_
  rintro _ h6 ⟨rfl, H6⟩
  rw [qZ7 O hp hf] at H6 ⊢
  refine ⟨rfl, LgC.I1 (v := sv) (a := a) (ps := ps) e ?_⟩
  rw [← e]
  have H7 := LvC.I (a := a) (w := w) (fv := fv) (x := (xS p v x.1, x.2)) (H6.sub (.cons e_1 (.cons .here .refl)))
  exact H7.sub (.cons e_1 (.cons e_1 (.refl)))
 cases hg : zV p x.1 with
 | some z =>
  simp only [Option.isSome_some]
  with_reducible (refine jU ?_; refine qV ?_; (try dsimp only); refine qh ?_; (try dsimp only); refine qE ?_; refine qQ ?_)
  rw [if_neg (fun h => by cases h.1)]
  refine qx (fin (fun h => by rw [hg] at h; cases h.1) h3 (H3.sub (.refl))) ?_
  rintro _ h6 ⟨rfl, H6⟩
  exact qk ⟨rfl, H6⟩
 | none =>
  simp only [Option.isSome_none]
  with_reducible (refine jc ?_; refine qV ?_; (try dsimp only); refine qi ?_; (try dsimp only))
  refine qx (Nm (by omega) H4 O) ?_
  rintro _ _ ⟨rfl, rfl⟩
  have hh := O.held
  refine y4 (fun h0 => ?_) fun h0 => ?_
  ·refine qO ?_; refine qY ?_
   rw [if_pos ⟨by trivial, by omega⟩]
   exact qk ⟨rfl, H4⟩
  ·refine qO ?_; refine qQ ?_
   rw [if_neg (fun h => h0 (by omega))]
   refine qx (fin (fun h => h0 (by omega)) _ (H3.sub (.refl))) ?_
   rintro _ h6 ⟨rfl, H6⟩
   exact qk ⟨rfl, H6⟩
theorem QM {most : Nat} {x : LvM} {r : List LvM} {p v : Int} : ∃ c, (yq most (x :: r) p v).2 = (c, x.2) :: r := by
 unfold yq
 dsimp only
 split
 ·exact ⟨x.1, rfl⟩
 ·split
  ·exact ⟨x.1, rfl⟩
  ·exact ⟨_, rfl⟩
theorem Of {n q most : Nat} (hn : 7 ≤ n) {lv : List LvM} {cs : List Cl} {c : AV} (H : HS g h (LgC q most lv :: R)) (O : OkL most lv) (S : Rd g R 2 cs.length c (cs.flatMap js)) (hc : cs.length < 100000) :
  wp (callT tab qU n (.fn 158 [] []) [.ptr q 0, c] h) fun r h' => r = .int .i64 (yG most lv lv cs).1 ∧ HS g h' (LgC q most (yG most lv lv cs).2 :: R) := by
 cases lv with
 | nil => have := O.one; simp at this
 | cons x r =>
 have hxl := O.len (x := x) (List.mem_cons_self ..)
 have hxi := O.ins x (List.mem_cons_self ..)
 have hxu := O.un x (List.mem_cons_self ..)
 (refine qt (g := W158) rfl (by omega) fun k hk => ?_; show wp (S158 (callT tab qU k) _ _ _) _; unfold S158; try simp only [iI, uU, Int.ofNat_eq_natCast])
 refine qx (YE (m := 96) (by omega) (by omega) H) ?_
 rintro _ h1 ⟨w0, rfl, H1⟩
 obtain ⟨sv, a, ps, e, H2⟩ := LgC.E1 (H1.sel e_1)
 rw [← e] at H2
 refine qx (kA (by omega) H2 .here e_1 (by have := O.deep; simp at this; omega)) ?_
 rintro _ _ ⟨rfl, rfl⟩
 obtain ⟨w, fv, H3⟩ := LvC.E (H2.sel e_2)
 with_reducible (refine qD ?_; refine qK ?_; refine qz (by assumption) .here rfl ?_)
 refine qx (ko (by omega) (H3.sel (P := WrC w 96 x.1) e_1) (by omega)) fun va h4 H4 => ?_
 refine qx (Qx (cs := x.1) (l := []) (m := 96) (w := w0) (by omega) (H4.sel (.there (.there (.there (.there (.there (.there (Sel.skip _ .here))))))))  (.own .here) (by simp) (by omega)) ?_
 rintro _ h5 ⟨_, H5⟩
 have ht : vj 96 [] x.1 = (0, x.1) := by
  unfold vj
  rw [QE hxi (by simpa using hxl), YY hxu, if_pos rfl]
 rw [ht] at H5
 have H6 : HS g h5 (LgC q most (x :: r) :: WrC w0 96 x.1 :: R) := by
  have H7 := LvC.I (a := a) (w := w) (fv := fv) (x := x) (H5.sub (.cons e_3 (.cons e_2 (.cons e_2 .refl))))
  refine LgC.I1 (v := sv) (a := a) (ps := ps) e ?_
  rw [← e]
  have H8 : HS g h5 (WrC w0 96 x.1 :: (qa q [.int .i64 (most : Int), sv] :: qL 136 1 (ps.length + 1) sv (zb (a :: ps)) :: LvC a x :: List.zipWith LvC ps r) ++ R) := H7.sub (.cons e_1 (.cons e_2 (.cons e_2 (.cons .here (.drop .refl)))))
  exact HS.back H8
 clear H1 H2 H3 H4 H5
 refine zy (S.sl H6.drop.drop) ?_
 refine jm (fun k s h' => ∃ (i : Nat) (c' : List Cl), s = (.int .i64 (i : Int), .int .i64 (cs.length : Int), c, .ptr w0 0, .ptr q 0, ()) ∧ i ≤ cs.length ∧ k = cs.length - i ∧ OkL most ((c', x.2) :: r) ∧
  HS g h' (LgC q most ((c', x.2) :: r) :: WrC w0 96 x.1 :: R) ∧ yG most (x :: r) (x :: r) cs = yG most (x :: r) ((c', x.2) :: r) (cs.drop i)) ?_ (m := cs.length) (by show _ < 1000000000; omega) ⟨0, x.1, rfl, by omega, by omega, O, H6, rfl⟩
 rintro k2 ih s h2 hih ⟨i, c', rfl, h1, rfl, O', H, hT⟩
 dsimp only
 refine zW (fun hlt => qY ?_) fun hge => qQ (qI (qk ?_))
 ·have hi : i < cs.length := by omega
  have hci : cs[i]? = some cs[i] := List.getElem?_eq_getElem hi
  refine zu (l := js cs[i]) (S.sl H.drop.drop) hi (by omega) (k8 hci) ?_
  refine jJ H rfl fun b h3 H3 => jD H3 .here rfl (by show 0 + 2 ≤ 2; omega) rfl fun h4 H4 => ?_
  have H5 : HS g h4 (qa b (js cs[i]) :: LgC q most ((c', x.2) :: r) :: WrC w0 96 x.1 :: R) := H4
  unfold js at H5
  with_reducible (refine qK ?_; refine qz (by assumption) .here rfl ?_; refine qK ?_; refine qz (by assumption) .here rfl ?_)
  refine qx (Vv (by omega) H5.drop O') ?_
  rintro _ h6 ⟨rfl, H6⟩
  rw [List.drop_eq_getElem_cons hi, ym] at hT
  have O2 := (Yh (p := cs[i].1) (v := cs[i].2) O').1
  obtain ⟨c2, hc2⟩ := QM (most := most) (x := (c', x.2)) (r := r) (p := cs[i].1) (v := cs[i].2)
  refine xM (fun hne => qY ?_) fun he => qQ (ql (by omega) ?_)
  ·have hne : ¬ (yq most ((c', x.2) :: r) cs[i].1 cs[i].2).1 = 0 := by simpa using hne
   rw [if_neg hne] at hT
   rw [hc2] at H6
   obtain ⟨sv, a, ps, e, H7⟩ := LgC.E1 H6
   rw [← e] at H7
   refine qx (kA (by omega) H7 .here e_1 (by have := O.deep; simp at this; omega)) ?_
   rintro _ _ ⟨rfl, rfl⟩
   obtain ⟨w, fv, H8⟩ := LvC.E (H7.sel e_2)
   refine qD ?_; refine qK ?_
   refine jB H8 .here ⟨rfl, rfl⟩ (by simp) fun h9 H9 => qI (qk ?_)
   rw [hT]
   refine ⟨rfl, LgC.I1 (v := sv) (a := a) (ps := ps) e ?_⟩
   rw [← e]
   obtain ⟨T, sT, uT⟩ : ∃ T, Sel (List.zipWith LvC ps r ++ WrC w0 96 x.1 :: R) (WrC w0 96 x.1) T ∧ T = List.zipWith LvC ps r ++ R := ⟨_, Sel.skip _ .here, rfl⟩
   subst uT
   have H10 := LvC.I (a := a) (w := w0) (fv := fv) (x := x) (H9.sub (.cons .here (.cons (.there (.there (.there (.there sT)))) (.cons e_1 (.drop .refl)))))
   exact H10.sub (.cons e_1 (.cons e_1 (.refl)))
  ·have he' : (yq most ((c', x.2) :: r) cs[i].1 cs[i].2).1 = 0 := by simpa using he
   rw [if_pos he', hc2] at hT
   rw [hc2] at H6 O2
   exact hih (cs.length - (i + 1)) _ _ (by omega) ⟨i + 1, c2, rfl, by omega, rfl, O2, H6, hT⟩
 ·rw [List.drop_of_length_le (by omega)] at hT
  have hT : yG most (x :: r) (x :: r) cs = (0, (c', x.2) :: r) := hT
  rw [hT]
  exact ⟨rfl, H.sub (.cons .here (.drop .refl))⟩
theorem JF (a : Nat) (ps : List Nat) : zb (a :: ps) = zb ps ++ [.ptr a 0] := by unfold zb; rw [List.reverse_cons, List.map_append]; rfl
theorem Xr (ps : List Nat) : (zb ps).length = ps.length := by simp [zb]
theorem Ov {n q most : Nat} (hn : 3 ≤ n) {lv : List LvM} (H : HS g h (LgC q most lv :: R)) (O : OkL most lv) :
  wp (callT tab qU n (.fn 242 [] []) [.ptr q 0] h) fun v h' => v = .int .i64 (gZ lv).1 ∧ HS g h' (LgC q most (gZ lv).2 :: R) := by
 (refine qt (g := W242) rfl (by omega) fun k hk => ?_; show wp (S242 (callT tab qU k) _ _) _; unfold S242; try simp only [iI, uU, Int.ofNat_eq_natCast])
 have hH := H
 obtain ⟨v, ps, e, H⟩ := LgC.E H
 unfold gZ
 by_cases h6 : 6 ≤ lv.length
 ·rw [if_pos h6]
  with_reducible (refine qD ?_; refine qK ?_; refine qz (by assumption) .here rfl ?_; refine jH (by assumption) e_1 ?_; refine zk (by omega) ?_; refine qY ?_)
  exact qk ⟨rfl, hH⟩
 ·rw [if_neg h6]
  with_reducible (refine qD ?_; refine qK ?_; refine qz (by assumption) .here rfl ?_; refine jH (by assumption) e_1 ?_; refine zx (by omega) ?_; refine qQ ?_; refine qV ?_; (try dsimp only); refine qD ?_; refine qK ?_; refine qz (by assumption) .here rfl ?_)
  refine qx (X6 (by omega) H) ?_
  rintro _ h2 ⟨a, rfl, H2⟩
  refine jw (n := 1) (l := [.ptr a 0]) (sz := 1) H2 rfl rfl rfl rfl fun v3 h3 H3 => ?_
  refine zr (H3.sel e_3) (H3.sl .here) (by omega) (by omega) rfl fun v4 h4 H4 => ?_
  refine qD ?_; refine qK ?_
  refine jB H4 (b := q) e_3 (H4.one .here) (by simp) fun h5 H5 => ?_
  with_reducible (refine vH (by assumption) .here rfl (by assumption) e_1 rfl (HS.lt (by assumption) .here) ?_)
  refine qk ⟨rfl, LgC.I1 (v := v4) (a := a) (ps := ps) e ?_⟩
  rw [JF]
  exact H5.sub (.cons .here (.cons .here (.cons e_1 (.drop (.refl)))))
theorem Gj {n q : Nat} (hn : 1 ≤ n) {m v : AV} {a : Nat} {ps : List Nat} (h1 : 1 ≤ ps.length) (hl : ps.length < 1000) (H : HS g h (qa q [m, v] :: qL 136 1 (ps.length + 1) v (zb (a :: ps)) :: R)) :
  wp (callT tab qU n (.fn 203 [] []) [.ptr q 0] h) fun r h' => r = .int .i64 0 ∧ ∃ v', HS g h' (qa q [m, v'] :: qL 136 1 ps.length v' (zb ps) :: R) := by
 (refine qt (g := W203) rfl (by omega) fun k hk => ?_; show wp (S203 (callT tab qU k) _ _) _; unfold S203; try simp only [iI, uU, Int.ofNat_eq_natCast])
 with_reducible (refine qD ?_; refine qK ?_; refine qz (by assumption) .here rfl ?_; refine jH (by assumption) e_1 ?_; refine qG (by omega) ?_; refine qQ ?_; refine qD ?_; refine qK ?_; refine qz (by assumption) .here rfl ?_; refine qD ?_; refine qK ?_; refine qz (by assumption) .here rfl ?_; refine jH (by assumption) e_1 ?_; refine jT (by omega) ?_)
 rw [show ((ps.length + 1 : Nat) : Int) - ((1 : Nat) : Int) = ((ps.length : Nat) : Int) by omega]
 refine kK (H.sel e_1) (by omega) (by omega) fun v' H2 => ?_
 refine qD ?_; refine qK ?_
 refine jB H2 (b := q) e_1 (H2.one .here) (by simp) fun h3 H3 => qk ⟨rfl, v', ?_⟩
 rw [JF, Nat.mul_one, ← Xr ps, List.take_left, Xr] at H3
 exact H3.sub (.cons .here (.refl))
theorem KS {n q most : Nat} (hn : 1 ≤ n) {lv : List LvM} (H : HS g h (LgC q most lv :: R)) (O : OkL most lv) :
  wp (callT tab qU n (.fn 203 [] []) [.ptr q 0] h) fun v h' => v = .int .i64 (gY lv).1 ∧ HS g h' (LgC q most (gY lv).2 :: R) := by
 unfold gY
 by_cases h1 : lv.length = 1
 ·rw [if_pos h1]
  (refine qt (g := W203) rfl (by omega) fun k hk => ?_; show wp (S203 (callT tab qU k) _ _) _; unfold S203; try simp only [iI, uU, Int.ofNat_eq_natCast])
  have hH := H
  obtain ⟨v, ps, e, H⟩ := LgC.E H
  with_reducible (refine qD ?_; refine qK ?_; refine qz (by assumption) .here rfl ?_; refine jH (by assumption) e_1 ?_; refine qH (by omega) ?_; refine qY ?_)
  exact qk ⟨rfl, hH⟩
 ·rw [if_neg h1]
  cases lv with
  | nil => have := O.one; simp at this
  | cons x r =>
  have hd := O.deep
  simp at h1 hd
  have h1' : 1 ≤ r.length := by cases r with | nil => simp at h1 | cons _ _ => simp
  obtain ⟨v, a, ps, e, H⟩ := LgC.E1 H
  rw [← e] at H
  refine (Gj hn (by omega) (by omega) H).mono ?_
  rintro _ h2 ⟨rfl, v', H2⟩
  refine ⟨rfl, LgC.I (v := v') (ps := ps) e ?_⟩
  show HS g h2 (_ :: qL 136 1 r.length v' _ :: (List.zipWith LvC ps r ++ R))
  rw [← e]
  exact H2.sub (.cons .here (.cons .here (.drop .refl)))
theorem NF {n q most : Nat} (hn : 6 ≤ n) {lv : List LvM} (H : HS g h (LgC q most lv :: R)) (O : OkL most lv) (hf : ∀ x ∈ lv, x.2.length < 1000000) :
  wp (callT tab qU n (.fn 201 [] []) [.ptr q 0] h) fun v h' => v = .int .i64 (wA lv).1 ∧ HS g h' (LgC q most (wA lv).2 :: R) := by
 rcases lv with _ | ⟨x, _ | ⟨y, r⟩⟩
 ·have := O.one; simp at this
 ·
  (refine qt (g := W201) rfl (by omega) fun k hk => ?_; show wp (S201 (callT tab qU k) _ _) _; unfold S201; try simp only [iI, uU, Int.ofNat_eq_natCast])
  obtain ⟨v, a, ps, e, H2⟩ := LgC.E1 H
  rw [← e] at H2
  refine qx (kA (by omega) H2 .here e_1 (by simp at e; simp [e])) ?_
  rintro _ _ ⟨rfl, rfl⟩
  refine qx (KS (by omega) H O) ?_
  rintro _ h3 ⟨rfl, H3⟩
  rw [show gY [x] = (10, [x]) from rfl] at H3 ⊢
  with_reducible (refine zA (by omega) ?_; refine qY ?_)
  exact qk ⟨rfl, H3⟩
 ·
  have hx := hf x (by simp)
  have hy := hf y (by simp)
  have hxi := O.ins x (by simp)
  have hd := O.deep
  have hh := O.held
  have hle := O.le
  rw [zY, zY] at hh
  simp at hd
  (refine qt (g := W201) rfl (by omega) fun k hk => ?_; show wp (S201 (callT tab qU k) _ _) _; unfold S201; try simp only [iI, uU, Int.ofNat_eq_natCast])
  obtain ⟨v, a, ps, e, H2⟩ := LgC.E1 H
  rw [← e] at H2
  refine qx (kA (by omega) H2 .here e_1 (by simp at e; omega)) ?_
  rintro _ _ ⟨rfl, rfl⟩
  simp at e
  refine qx (Gj (by omega) (by omega) (by omega) H2) ?_
  rintro _ h3 ⟨rfl, v', H3⟩
  cases ps with
  | nil => simp at e
  | cons b ps =>
  simp at e
  with_reducible (refine zZ (by omega) ?_; refine qQ ?_)
  refine qx (kA (by omega) H3 .here e_1 (by omega)) ?_
  rintro _ _ ⟨rfl, rfl⟩
  have H4 : HS g _ (LvC b y :: LvC a x :: qa q [.int .i64 (most : Int), v'] :: qL 136 1 (ps.length + 1) v' (zb (b :: ps)) :: (List.zipWith LvC ps r ++ R)) := H3.sub (.cons e_3 (.cons e_2 (.cons .here (.cons .here .refl))))
  obtain ⟨w1, f1, H4⟩ := LvC.E H4
  obtain ⟨w2, f2, H5⟩ := LvC.E (H4.sel e_3)
  with_reducible (refine qD ?_; refine qK ?_; refine qz (by assumption) e_3 rfl ?_; refine qD ?_; refine qK ?_; refine qz (by assumption) .here rfl ?_)
  refine zr (H5.sel e_5) (H5.sl e_2) (by omega) (by omega) ?_ fun v6 h6 H6 => ?_
  ·simp [jA, AV.one]
  refine qD ?_; refine qK ?_
  refine jB H6 (b := b) e_4 (H6.one .here) (by simp) fun h7 H7 => ?_
  simp only [List.set_cons_zero, List.set_cons_succ] at H7
  with_reducible (refine qV ?_; (try dsimp only); refine qD ?_; refine qK ?_; refine qz (by assumption) .here rfl ?_; refine qD ?_; refine qK ?_; refine qz (by assumption) e_2 rfl ?_)
  refine qx (ko (by omega) (H7.sel (P := WrC w2 96 x.1) e_3) (by omega)) fun v8 h8 H8 => ?_
  refine qx (Qx (cs := x.1) (l := y.1) (m := 96) (w := w1) (by omega) (H8.sel (P := WrC w1 96 y.1) e_6) (.own .here) (by omega) (by omega)) ?_
  rintro _ h9 ⟨rfl, H9⟩
  have ht : vj 96 y.1 x.1 = (0, xE y.1 x.1) := by
   unfold vj
   rw [QE hxi (by omega), if_pos rfl]
  rw [ht] at H9 ⊢
  with_reducible (refine vH (by assumption) .here rfl (by assumption) e_2 rfl (HS.lt (by assumption) .here) ?_)
  refine qk ⟨rfl, LgC.I1 (v := v') (a := b) (ps := ps) (by omega) ?_⟩
  show HS g h9 (_ :: qL 136 1 (r.length + 1) v' _ :: _)
  rw [← e]
  have H10 := LvC.I (a := b) (w := w1) (fv := v6) (x := (xE y.1 x.1, y.2 ++ x.2)) (R := qa q [.int .i64 (most : Int), v'] :: qL 136 1 (ps.length + 1) v' (zb (b :: ps)) :: (List.zipWith LvC ps r ++ R))
   (by rw [List.map_append, List.length_append]; exact H9.sub (.cons e_3 (.cons .here (.cons e_2 (.cons e_4 (.cons e_4 (.drop (.drop (.drop (.drop (.refl)))))))))))
  exact H10.sub (.cons e_1 (.cons e_1 (.refl)))
theorem Xy : ∀ (lv : List LvM) (out : List Cl), (lv.foldl (fun out x => xE x.1 out) out).length ≤ out.length + xy lv := by
 intro lv
 induction lv with
 | nil => intro out; simp
 | cons x r ih =>
  intro out
  have h1 := ih (xE x.1 out)
  have h2 := JH (cs := out) (l := x.1)
  rw [List.foldl_cons, zY]
  omega
theorem MX : ∀ (lv : List LvM) (out : List Cl), InC out → (∀ x ∈ lv, InC x.1) → InC (lv.foldl (fun out x => xE x.1 out) out) := by
 intro lv
 induction lv with
 | nil => intro out h _; exact h
 | cons x r ih => intro out h hx; exact ih _ ((hx x (List.mem_cons_self ..)).puts h) fun y hy => hx y (List.mem_cons_of_mem _ hy)
theorem Mc (l1 l2 : List LvM) : xy (l1 ++ l2) = xy l1 + xy l2 := by simp [xy]
theorem Mh {n q most : Nat} (hn : 9 ≤ n) {lv : List LvM} (H : HS g h (LgC q most lv :: R)) (O : OkL most lv) :
  wp (callT tab qU n (.fn 69 [] []) [.ptr q 0] h) fun v h' => HS g h' (qL 67 2 (zz lv).length v ((zz lv).flatMap js) :: LgC q most lv :: R) := by
 (refine qt (g := W69) rfl (by omega) fun k hk => ?_; show wp (S69 (callT tab qU k) _ _) _; unfold S69; try simp only [iI, uU, Int.ofNat_eq_natCast])
 obtain ⟨v, ps, e, H⟩ := LgC.E H
 have hd := O.deep
 have hle := O.le
 have hhe := O.held
 refine wn (H.nils (e := 67) (sz := 2)) ⟨rfl, rfl⟩ fun b1 h1 H => ?_
 with_reducible (refine qD ?_; refine qK ?_; refine qz (by assumption) e_2 rfl ?_)
 refine qx (Q3 (by omega) (H.one e_3) H) ?_
 rintro _ h4 ⟨b4, rfl, H⟩
 have H5 := (H.newBlk .dfd).newBlk (.loop .ready none 69 [1, 1, 0, 1, 0] [3] [.ptr b1 0] h4.nx)
 generalize (h4.new .dfd).nx = l at H5 ⊢
 generalize h4.nx = d at H5 ⊢
 obtain ⟨k2, rfl⟩ : ∃ k2, k = k2 + 1 := ⟨k - 1, by omega⟩
 refine Gc (U2 (b0 := b4) (v := v) (ps := ps)
  (Inv := fun i h' => ∃ ov, HS g h' (vE l (.loop .ready none 69 [1, 1, 0, 1, 0] [3] [.ptr b1 0] d) :: vE d .dfd :: qa b4 [v] :: qa b1 [ov] :: qL 67 2 (zz (lv.take i)).length ov ((zz (lv.take i)).flatMap js) ::
   qa q [.int .i64 (most : Int), v] :: qL 136 1 lv.length v (zb ps) :: (List.zipWith LvC ps lv ++ R)))
  (Fin := fun _ => False) ?_ ?_ (by omega) ⟨.nils, H5⟩) ?_
 ·rintro i h' ⟨ov, H⟩
  obtain ⟨et, A⟩ := H.obj (b := b4) e_2
  exact ⟨A.at 0, e ▸ H.sl e_6⟩
 ·rintro i a h' ha ⟨ov, H⟩
  have hi := (List.getElem?_eq_some_iff.1 ha).1
  have hx : lv[i]? = some (lv[i]'(by omega)) := List.getElem?_eq_getElem _
  have hm : lv[i]'(by omega) ∈ lv := List.getElem_mem _
  generalize lv[i]'(by omega) = x at hx hm
  have hxl := O.len hm
  have hxi := O.ins x hm
  have hxu := O.un x hm
  have hml : (zz (lv.take i)).length + x.1.length ≤ 96 := by
   have h1 := Xy (lv.take i) []
   have h2 : xy lv = xy (lv.take i) + (x.1.length + xy (lv.drop (i + 1))) := by
    rw [← zY, ← Mc]
    congr 1
    have h3 : lv.drop i = x :: lv.drop (i + 1) := by
     have hi' : i < lv.length := by omega
     rw [List.drop_eq_getElem_cons hi']
     rw [List.getElem?_eq_getElem hi'] at hx
     rw [Option.some.inj hx]
    rw [← h3, List.take_append_drop]
   unfold zz
   simp at h1
   omega
  have hmi : InC (zz (lv.take i)) := MX _ _ (fun c hc => by cases hc) fun y hy => O.ins y (List.mem_of_mem_take hy)
  have hms : zz (lv.take (i + 1)) = xE x.1 (zz (lv.take i)) := by
   unfold zz
   rw [List.take_add_one, hx, Option.toList_some, List.foldl_append]; rfl
  refine KJ (H.blk .here) (w := V0) rfl (by omega) fun k3 hk3 => ?_
  show wp (B0 _ _ _ (.int .i64 ((ps.length - 1 - i : Nat) : Int)) _ _) _
  unfold B0
  try simp only [iI, uU, Int.ofNat_eq_natCast]
  refine G8 H .here fun h6 H => ?_
  refine qx (YE (m := 96) (by omega) (by omega) H) ?_
  rintro _ h7 ⟨w0, rfl, H⟩
  obtain ⟨T, s⟩ := Jv (R := R) ha hx
  obtain ⟨w, fv, H7⟩ := LvC.E (H.sel (.there (.there (.there (.there (.there (.there (.there (.there s)))))))))
  with_reducible (refine qD ?_; refine qK ?_; refine qz (by assumption) .here rfl ?_)
  refine qx (ko (by omega) (H7.sel (P := WrC w 96 x.1) e_1) (by omega)) fun va h8 H8 => ?_
  refine qx (Qx (cs := x.1) (l := []) (m := 96) (w := w0) (by omega) (H8.sel (P := WrC w0 96 []) e_4) (.own .here) (by simp) (by omega)) ?_
  rintro _ h9 ⟨_, H9⟩
  have ht : vj 96 [] x.1 = (0, x.1) := by
   unfold vj
   rw [QE hxi (by simpa using hxl), YY hxu, if_pos rfl]
  rw [ht] at H9
  dsimp only at H9
  with_reducible (refine qz (by assumption) e_8 rfl ?_)
  have ht2 : vj 96 x.1 (zz (lv.take i)) = (0, xE x.1 (zz (lv.take i))) := by
   unfold vj
   rw [QE hmi (by omega), if_pos rfl]
  have S2 : Rd g _ 2 (zz (lv.take i)).length ov ((zz (lv.take i)).flatMap js) := H9.drop.rd (L := qL 67 2 x.1.length va (x.1.flatMap js) :: WrC w 96 x.1 :: qa a [.ptr w 0, fv] :: qL 3 1 x.2.length fv (x.2.map (.int .i64)) ::
   vE l (.loop .busy none 69 [1, 1, 0, 1, 0] [3] [.ptr b1 0] d) :: vE d .dfd :: qa b4 [v] :: qa b1 [ov] :: qL 67 2 (zz (lv.take i)).length ov ((zz (lv.take i)).flatMap js) ::
   qa q [.int .i64 (most : Int), v] :: qL 136 1 lv.length v (zb ps) :: T) e_8
  refine qx (Qx (by omega) H9 S2 (by omega) (by omega)) ?_
  rintro _ h10 ⟨_, H10⟩
  rw [ht2] at H10
  dsimp only at H10
  have hpl := JH (cs := zz (lv.take i)) (l := x.1)
  refine qx (ko (by omega) H10 (by omega)) fun vb h11 H11 => ?_
  refine jB H11 (b := b1) e_9 (H11.one .here) (by simp) fun h12 H12 => U8 H12 e_7 fun h13 H13 => .inl ⟨rfl, vb, ?_⟩
  rw [hms]
  have H14 := LvC.I (a := a) (w := w) (fv := fv) (x := x) (R := vE l (.loop .ready none 69 [1, 1, 0, 1, 0] [3] [.ptr b1 0] d) :: vE d .dfd :: qa b4 [v] :: qa b1 [vb] ::
   qL 67 2 (xE x.1 (zz (lv.take i))).length vb ((xE x.1 (zz (lv.take i))).flatMap js) :: qa q [.int .i64 (most : Int), v] :: qL 136 1 lv.length v (zb ps) :: T) (H13.sub (.cons e_6 (.cons e_5 (.cons e_5 (.cons .here (.cons e_4 (.cons e_4 (.cons .here (.cons .here (.cons e_3 (.cons e_3 (.drop (.drop (.drop (.refl)))))))))))))))
  exact HS.unsel (.there (.there (.there (.there (.there (.there (.there s))))))) H14
 ·rintro _ h6 (⟨ov, H⟩ | hF)
  ·rw [List.take_of_length_le (by omega)] at H
   refine YM H .here (fun h => by cases h) fun h7 H => Kj ?_
   with_reducible (refine qz (by assumption) e_3 rfl ?_)
   refine Qb H e_1 fun h10 H => qk ?_
   exact (LgC.I (v := v) (ps := ps) e (HS.back (A := _ :: _ :: List.zipWith LvC ps lv) (H.sub (L' := qL 67 2 (zz lv).length ov ((zz lv).flatMap js) :: qa q [.int .i64 (most : Int), v] ::
    qL 136 1 lv.length v (zb ps) :: (List.zipWith LvC ps lv ++ R)) (.cons e_4 (.cons e_4 (.cons e_4 (.drop (.drop (.drop (.drop (.refl))))))))))).sub (.cons e_1 (.refl))
  ·exact hF.elim
end Go.Proofs.YtdlfmpmpmkffjaaGreatDoor
namespace Go.Proofs.YtdlfmpmpmkffjaaGreatDoor
open Go Go.Ae
set_option maxRecDepth 100000
variable {g h : AH} {L R : List SP}
structure VM where
  sz : Nat
  K : List Cl
  most : Nat
  lv : List LvM
  need : Int
structure OkV (M : VM) : Prop where
  lo : 32 ≤ M.sz
  hi : M.sz ≤ 256
  lvs : OkL M.most M.lv
  ins : ∀ c ∈ M.K, 1 ≤ c.1 ∧ c.1 < M.sz
  un : UnC M.K
  fr : ∀ x ∈ M.lv, x.2.length < 100000
def GT (M : VM) (p x : Int) : Int × VM :=
 if 1 ≤ p ∧ p < M.sz then match zV p M.K with
  | some y => (if y = x then 0 else 14, M)
  | none => (0, { M with K := M.K ++ [(p, x)] })
 else (2, M)
def qu (M : VM) (p : Int) : (Int × Int) × VM :=
 if 1 ≤ p ∧ p < M.sz then match Qf p M.lv with
  | some x => ((x, 0), M)
  | none => match zV p M.K with
   | some x => ((x, 0), M)
   | none => ((0, 11), { M with need := p })
 else ((0, 2), M)
def j0 (M : VM) (cs : List Cl) : Int × VM :=
 if ∀ c ∈ cs, 1 ≤ c.1 ∧ c.1 < M.sz then ((yG M.most M.lv M.lv cs).1, { M with lv := (yG M.most M.lv M.lv cs).2 }) else (2, M)
def freeV (M : VM) (b : Int) : VM := { M with lv := Qz M.lv b }
def vZ (M : VM) : Int × VM := ((gZ M.lv).1, { M with lv := (gZ M.lv).2 })
def xK (M : VM) : Int × VM := ((gY M.lv).1, { M with lv := (gY M.lv).2 })
def vv (M : VM) : Int × VM := ((wA M.lv).1, { M with lv := (wA M.lv).2 })
theorem N0 : ∀ (n : Nat) (l : List Int), l.Nodup → (∀ x ∈ l, 0 ≤ x ∧ x < n) → l.length ≤ n := by
 intro n
 induction n with
 | zero =>
  intro l _ h
  cases l with
  | nil => exact Nat.le_refl _
  | cons x l => have := h x (List.mem_cons_self ..); omega
 | succ n ih =>
  intro l hd h
  by_cases hx : (n : Int) ∈ l
  ·have := ih (l.erase n) (hd.erase _) (fun x hx' => by
    have h1 := h x (List.mem_of_mem_erase hx')
    have h2 : x ≠ n := by rintro rfl; exact (List.Nodup.not_mem_erase hd) hx'
    omega)
   rw [List.length_erase_of_mem hx] at this
   omega
  ·have := ih l hd (fun x hx' => by
    have h1 := h x hx'
    have h2 : x ≠ n := by rintro rfl; exact hx hx'
    omega)
   omega
theorem OkV.klen {M : VM} (O : OkV M) : M.K.length ≤ 256 := by
 have hu : (M.K.map (·.1)).Nodup := O.un
 have := N0 M.sz _ hu (fun x hx => by
  obtain ⟨c, hc, rfl⟩ := List.mem_map.1 hx
  have := O.ins c hc
  omega)
 rw [List.length_map] at this
 have := O.hi
 omega
def wQ (f : Int × Bool) : List AV := [.int .u64 f.1, .bool f.2]
def y8 (K : List Cl) (i : Nat) : Int × Bool := match zV (i : Int) K with | some x => (x, true) | none => (0, false)
def xI (sz : Nat) (K : List Cl) : List (Int × Bool) := (List.range sz).map (y8 K)
theorem ge (sz : Nat) (K : List Cl) : (xI sz K).length = sz := by simp [xI]
theorem ga {sz : Nat} {K : List Cl} {i : Nat} (hi : i < sz) : (xI sz K)[i]? = some (y8 K i) := by simp [xI, List.getElem?_range hi]
theorem QK {α : Type} {sz : Nat} {enc : α → List AV} (he : ∀ a, (enc a).length = sz) {l : List α} {i : Nat} {a : α} (h : l[i]? = some a) : ((l.flatMap enc).drop (i * sz)).take sz = enc a := by
 obtain ⟨hi, e⟩ := List.getElem?_eq_some_iff.1 h
 rw [gA (sz := sz) enc he, List.drop_eq_getElem_cons hi, e, List.flatMap_cons, ← he a, List.take_left]
theorem qQE {α : Type} {sz : Nat} {enc : α → List AV} (he : ∀ a, (enc a).length = sz) {l : List α} {i : Nat} {a : α} (hi : i < l.length) : vL (l.flatMap enc) (i * sz) (enc a) = (l.set i a).flatMap enc := by
 have h1 : (l.flatMap enc).take (i * sz) = (l.take i).flatMap enc := by
  have e1 : l.flatMap enc = (l.take i).flatMap enc ++ (l.drop i).flatMap enc := by rw [← List.flatMap_append, List.take_append_drop]
  have e2 : ((l.take i).flatMap enc).length = i * sz := by rw [QJ (sz := sz) enc he, List.length_take, Nat.min_eq_left (by omega)]
  rw [e1, ← e2, List.take_left]
 have h2 : (l.flatMap enc).drop (i * sz + sz) = (l.drop (i + 1)).flatMap enc := by
  rw [show i * sz + sz = (i + 1) * sz by rw [Nat.add_mul, Nat.one_mul], gA (sz := sz) enc he]
 unfold vL
 rw [he, h1, h2, List.set_eq_take_append_cons_drop, if_pos hi, List.flatMap_append, List.flatMap_cons, List.append_assoc]
theorem V4 {α : Type} {enc : α → List AV} {a : α} : ∀ n, xp (enc a) n = (List.replicate n a).flatMap enc := by
 intro n
 induction n with
 | zero => rfl
 | succ n ih => rw [xp, ih, List.replicate_succ, List.flatMap_cons]
theorem UW (sz : Nat) : xI sz [] = List.replicate sz (0, false) := by
 unfold xI
 rw [show y8 [] = fun _ => ((0, false) : Int × Bool) from rfl, List.map_const', List.length_range]
theorem Kc {sz : Nat} {K : List Cl} {i : Nat} {x : Int} (hi : i < sz) (hn : zV (i : Int) K = none) : xI sz (K ++ [((i : Int), x)]) = (xI sz K).set i (x, true) := by
 have e : ∀ j : Nat, zV (j : Int) (K ++ [((i : Int), x)]) = if j = i then some x else zV (j : Int) K := by
  intro j
  rw [← QP hn, G9]
  by_cases h : j = i
  ·rw [if_pos h, if_pos (by rw [h])]
  ·rw [if_neg h, if_neg (by omega)]
 apply List.ext_getElem?
 intro j
 rw [List.getElem?_set, ge]
 by_cases hj : j < sz
 ·rw [ga hj]
  by_cases h : i = j
  ·subst h; rw [if_pos rfl, if_pos hi]; unfold y8; rw [e, if_pos rfl]
  ·rw [if_neg h, ga hj]; unfold y8; rw [e, if_neg (by omega)]
 ·rw [List.getElem?_eq_none (by rw [ge]; omega), if_neg (by omega), List.getElem?_eq_none (by rw [ge]; omega)]
def ViewC (v : Nat) (M : VM) : SP := .ex fun fv => .ex fun ov => .ex fun q => .ex fun e => .all [qa v [fv, ov, .ptr q 0, .int .i64 M.need], qL e 2 M.sz fv ((xI M.sz M.K).flatMap wQ),
 qL 3 1 M.K.length ov (M.K.map fun c => .int .i64 c.1), LgC q M.most M.lv]
theorem ViewC.E {v : Nat} {M : VM} (H : HS g h (ViewC v M :: R)) : ∃ fv ov q e, HS g h (qa v [fv, ov, .ptr q 0, .int .i64 M.need] :: qL e 2 M.sz fv ((xI M.sz M.K).flatMap wQ) ::
  qL 3 1 M.K.length ov (M.K.map fun c => .int .i64 c.1) :: LgC q M.most M.lv :: R) := by
 obtain ⟨fv, H⟩ := H.exE
 obtain ⟨ov, H⟩ := H.exE
 obtain ⟨q, H⟩ := H.exE
 obtain ⟨e, H⟩ := H.exE
 exact ⟨fv, ov, q, e, H.allE⟩
theorem ViewC.I {v : Nat} {M : VM} {fv ov : AV} {q : Nat} {e : TypeId} (H : HS g h (qa v [fv, ov, .ptr q 0, .int .i64 M.need] :: qL e 2 M.sz fv ((xI M.sz M.K).flatMap wQ) ::
  qL 3 1 M.K.length ov (M.K.map fun c => .int .i64 c.1) :: LgC q M.most M.lv :: R)) : HS g h (ViewC v M :: R) :=
 HS.exI fv (HS.exI ov (HS.exI q (HS.exI e (HS.allI H))))
def szZ (n : Int) : Nat := (max 32 (min n 256)).toNat
theorem OZ (n : Int) : 32 ≤ szZ n ∧ szZ n ≤ 256 := by unfold szZ; omega
def newV (words most : Int) : VM := ⟨szZ words, [], (max 0 (min most 96)).toNat, [([], [])], 0⟩
theorem Zh {m : Nat} (hm : m ≤ 96) : OkL m [([], [])] := ⟨by simp [xy], hm, by intro x hx; simp at hx; subst hx; intro c hc; simp at hc, by intro x hx; simp at hx; subst hx; exact List.nodup_nil, by simp, by simp⟩
theorem qQp {n : Nat} (hn : 4 ≤ n) {w m : Int} (H : HS g h R) : wp (callT tab qU n (.fn 11 [] []) [.int .i64 w, .int .i64 m] h) fun r h' => ∃ v, r = .ptr v 0 ∧ HS g h' (ViewC v (newV w m) :: R) := by
 (refine qt (g := W11) rfl (by omega) fun k hk => ?_; show wp (S11 (callT tab qU k) _ _ _) _; unfold S11; try simp only [iI, uU, Int.ofNat_eq_natCast])
 refine zS (ze ?_)
 have hb := OZ w
 rw [show max ((32 : Nat) : Int) (min w ((256 : Nat) : Int)) = ((szZ w : Nat) : Int) by unfold szZ; omega]
 refine Kv (sz := 2) H rfl (Nat.le_refl _) (by omega) fun fv h2 H2 => ?_
 refine qx (qJr (by omega) H2) ?_
 rintro _ h3 ⟨q, rfl, H3⟩
 have h1 := H3.one e_1
 refine qo (l := [fv, .nils, .ptr q 0, .int .i64 0]) (by unfold vy; rw [h1.1]; rfl) ?_
 refine jJ H3 (by show (fv.one && (true && (true && (true && true)))) = true; rw [h1.2]; rfl) fun v h4 H4 => qk ⟨v, rfl, ?_⟩
 rw [List.take_of_length_le (by rw [xl]; exact Nat.le_refl _), show xp [AV.int .u64 ((0 : Nat) : Int), AV.bool false] (szZ w) = (xI (szZ w) []).flatMap wQ by rw [UW, ← V4]; rfl] at H4
 exact ViewC.I (M := newV w m) ((H4.nils (e := 3) (sz := 1)).sub (.cons e_1 (.cons e_2 (.cons .here (.cons .here (.refl))))))
theorem k9 {n : Nat} (hn : 1 ≤ n) {v : Nat} {M : VM} (H : HS g h (ViewC v M :: R)) : wp (callT tab qU n (.fn 107 [] []) [.ptr v 0] h) fun r h' => r = .int .i64 (M.sz : Int) ∧ h' = h := by
 (refine qt (g := W107) rfl (by omega) fun k hk => ?_; show wp (S107 (callT tab qU k) _ _) _; unfold S107; try simp only [iI, uU, Int.ofNat_eq_natCast])
 obtain ⟨fv, ov, q, e, H⟩ := ViewC.E H
 with_reducible (refine qD ?_; refine qK ?_; refine qz (by assumption) .here rfl ?_; refine jH (by assumption) e_1 ?_)
 exact qk ⟨rfl, rfl⟩
theorem Yn {n : Nat} (hn : 1 ≤ n) {v : Nat} {M : VM} {p : Int} (H : HS g h (ViewC v M :: R)) : wp (callT tab qU n (.fn 52 [] []) [.ptr v 0, .int .i64 p] h) fun r h' => r = .bool (decide (1 ≤ p ∧ p < M.sz)) ∧ h' = h := by
 (refine qt (g := W52) rfl (by omega) fun k hk => ?_; show wp (S52 (callT tab qU k) _ _ _) _; unfold S52; try simp only [iI, uU, Int.ofNat_eq_natCast])
 obtain ⟨fv, ov, q, e, H⟩ := ViewC.E H
 by_cases h1 : 1 ≤ p
 ·with_reducible (refine zk (by omega) ?_; refine qV ?_; (try dsimp only); refine qi ?_; (try dsimp only); refine qD ?_; refine qK ?_; refine qz (by assumption) .here rfl ?_; refine jH (by assumption) e_1 ?_)
  refine gP ?_
  refine qO ?_
  refine qk ⟨?_, rfl⟩
  congr 1
  exact decide_eq_decide.2 ⟨fun h2 => ⟨h1, h2⟩, fun h2 => h2.2⟩
 ·with_reducible (refine zx (by omega) ?_; refine qV ?_; (try dsimp only); refine qh ?_; (try dsimp only); refine qE ?_)
  exact qk ⟨by rw [decide_eq_false (fun h2 => h1 h2.1)], rfl⟩
theorem NI {n : Nat} (hn : 2 ≤ n) {v : Nat} {M : VM} {p x : Int} (H : HS g h (ViewC v M :: R)) (O : OkV M) :
  wp (callT tab qU n (.fn 15 [] []) [.ptr v 0, .int .i64 p, .int .u64 x] h) fun r h' => r = .int .i64 (GT M p x).1 ∧ HS g h' (ViewC v (GT M p x).2 :: R) := by
 (refine qt (g := W15) rfl (by omega) fun k hk => ?_; show wp (S15 (callT tab qU k) _ _ _ _) _; unfold S15; try simp only [iI, uU, Int.ofNat_eq_natCast])
 refine qx (Yn (by omega) H) ?_
 rintro _ _ ⟨rfl, rfl⟩
 have hO := O.hi
 unfold GT
 by_cases hp : 1 ≤ p ∧ p < M.sz
 ·rw [if_pos hp]
  rw [decide_eq_true hp]
  obtain ⟨i, rfl⟩ : ∃ i : Nat, p = (i : Int) := ⟨p.toNat, by omega⟩
  have hi : i < M.sz := by omega
  have hH := H
  obtain ⟨fv, ov, q, e, H⟩ := ViewC.E H
  with_reducible (refine jU ?_; refine qQ ?_; refine qD ?_; refine qK ?_; refine qz (by assumption) .here rfl ?_)
  refine zu (l := wQ (y8 M.K i)) (H.sl e_1) hi (by omega) (QK (enc := wQ) (sz := 2) (fun _ => rfl) (ga hi)) ?_
  refine jJ H rfl fun b h3 H3 => jD H3 .here rfl (by show 0 + 2 ≤ 2; omega) rfl fun h4 H4 => ?_
  have H5 : HS g h4 (qa b (wQ (y8 M.K i)) :: qa v [fv, ov, .ptr q 0, .int .i64 M.need] :: qL e 2 M.sz fv ((xI M.sz M.K).flatMap wQ) ::
   qL 3 1 M.K.length ov (M.K.map fun c => .int .i64 c.1) :: LgC q M.most M.lv :: R) := H4
  unfold wQ at H5
  cases hg : zV (i : Int) M.K with
  | some y =>
   rw [show y8 M.K i = (y, true) by unfold y8; rw [hg]] at H5
   with_reducible (refine qK ?_; refine qz (by assumption) .here rfl ?_; refine qY ?_; refine qK ?_; refine qz (by assumption) .here rfl ?_)
   have H6 := ViewC.I (H5.drop)
   by_cases hy : y = x
   ·with_reducible (refine zZ (by omega) ?_; refine qQ ?_)
    refine qk ⟨by dsimp only; rw [if_pos hy]; rfl, H6⟩
   ·with_reducible (refine zA (by omega) ?_; refine qY ?_)
    refine qk ⟨by dsimp only; rw [if_neg hy]; rfl, H6⟩
  | none =>
   rw [show y8 M.K i = (0, false) by unfold y8; rw [hg]] at H5
   have hkl := O.klen
   with_reducible (refine qK ?_; refine qz (by assumption) .here rfl ?_; refine qQ ?_; refine qD ?_; refine qK ?_; refine qz (by assumption) e_1 rfl ?_; refine qo rfl ?_)
   refine qZ8 (l := [.int .u64 x, .bool true]) (H5.drop.sel (P := qL e 2 M.sz fv ((xI M.sz M.K).flatMap wQ)) e_1) hi rfl rfl fun h6 H6 => ?_
   rw [show vL ((xI M.sz M.K).flatMap wQ) (i * 2) [AV.int .u64 x, AV.bool true] = (xI M.sz (M.K ++ [((i : Int), x)])).flatMap wQ by
    rw [Kc hi hg, ← qQE (enc := wQ) (sz := 2) (fun _ => rfl) (by rw [ge]; exact hi)]; rfl] at H6
   with_reducible (refine qD ?_; refine qK ?_; refine qz (by assumption) e_1 rfl ?_)
   refine jw (n := 1) (l := [.int .i64 (i : Int)]) (sz := 1) H6 rfl rfl rfl rfl fun v7 h7 H7 => ?_
   refine zr (H7.sel (P := qL 3 1 M.K.length ov (M.K.map fun c => .int .i64 c.1)) e_3) (H7.sl .here) (by omega) (by omega) rfl fun v8 h8 H8 => ?_
   refine qD ?_; refine qK ?_
   refine jB H8 e_3 (H8.one .here) (by simp) fun h9 H9 => qk ⟨rfl, ViewC.I (M := { M with K := M.K ++ [((i : Int), x)] }) (fv := fv) (ov := v8) (q := q) (e := e) ?_⟩
   rw [List.map_append, List.length_append]
   exact H9.sub (.cons .here (.cons e_2 (.cons .here (.cons e_1 (.drop (.refl))))))
 ·rw [if_neg hp, decide_eq_false hp]
  refine jc ?_; refine qY ?_
  exact qk ⟨rfl, H⟩
theorem xQ {M : VM} {p : Int} (O : OkV M) : OkV (qu M p).2 := by
 unfold qu
 repeat' split
 all_goals exact ⟨O.lo, O.hi, O.lvs, O.ins, O.un, O.fr⟩
theorem wW {n : Nat} (hn : 9 ≤ n) {v : Nat} {M : VM} {p : Int} (H : HS g h (ViewC v M :: R)) (O : OkV M) :
  wp (callT tab qU n (.fn 109 [] []) [.ptr v 0, .int .i64 p] h) fun r h' => r = .tup [.int .u64 (qu M p).1.1, .int .i64 (qu M p).1.2] ∧ HS g h' (ViewC v (qu M p).2 :: R) := by
 (refine qt (g := W109) rfl (by omega) fun k hk => ?_; show wp (S109 (callT tab qU k) _ _ _) _; unfold S109; try simp only [iI, uU, Int.ofNat_eq_natCast])
 refine qx (Yn (by omega) H) ?_
 rintro _ _ ⟨rfl, rfl⟩
 have hO := O.hi
 unfold qu
 by_cases hp : 1 ≤ p ∧ p < M.sz
 ·rw [if_pos hp]
  rw [decide_eq_true hp]
  obtain ⟨i, rfl⟩ : ∃ i : Nat, p = (i : Int) := ⟨p.toNat, by omega⟩
  have hi : i < M.sz := by omega
  obtain ⟨fv, ov, q, e, H⟩ := ViewC.E H
  with_reducible (refine jU ?_; refine qQ ?_; refine qD ?_; refine qK ?_; refine qz (by assumption) .here rfl ?_)
  refine qx (qJB (by omega) (H.sel (P := LgC q M.most M.lv) e_3) O.lvs) ?_
  rintro _ h2 ⟨rfl, H2⟩
  with_reducible (refine qc rfl ?_; refine qc rfl ?_)
  cases hl : Qf (i : Int) M.lv with
  | some y =>
   simp only [Option.isSome_some, Option.getD_some]
   refine qY ?_
   exact qk ⟨rfl, ViewC.I (H2.sub (.cons e_1 (.cons e_1 (.cons e_1 (.refl)))))⟩
  | none =>
   simp only [Option.isSome_none]
   with_reducible (refine qQ ?_; refine qD ?_; refine qK ?_; refine qz (by assumption) e_1 rfl ?_)
   refine zu (l := wQ (y8 M.K i)) (H2.sl e_2) hi (by omega) (QK (enc := wQ) (sz := 2) (fun _ => rfl) (ga hi)) ?_
   refine jJ H2 rfl fun b h3 H3 => jD H3 .here rfl (by show 0 + 2 ≤ 2; omega) rfl fun h4 H4 => ?_
   have H5 : HS g h4 (qa b (wQ (y8 M.K i)) :: LgC q M.most M.lv :: qa v [fv, ov, .ptr q 0, .int .i64 M.need] :: qL e 2 M.sz fv ((xI M.sz M.K).flatMap wQ) ::
    qL 3 1 M.K.length ov (M.K.map fun c => .int .i64 c.1) :: R) := H4
   unfold wQ at H5
   cases hg : zV (i : Int) M.K with
   | some y =>
    rw [show y8 M.K i = (y, true) by unfold y8; rw [hg]] at H5
    with_reducible (refine qK ?_; refine qz (by assumption) .here rfl ?_; refine qY ?_; refine qK ?_; refine qz (by assumption) .here rfl ?_)
    exact qk ⟨rfl, ViewC.I (H5.drop.sub (.cons e_1 (.cons e_1 (.cons e_1 (.refl)))))⟩
   | none =>
    rw [show y8 M.K i = (0, false) by unfold y8; rw [hg]] at H5
    with_reducible (refine qK ?_; refine qz (by assumption) .here rfl ?_; refine qQ ?_; refine qD ?_; refine qK ?_)
    refine jB H5 (b := v) e_2 ⟨rfl, rfl⟩ (by simp) fun h9 H9 => qk ⟨rfl, ViewC.I (M := { M with need := (i : Int) }) (fv := fv) (ov := ov) (q := q) (e := e) (H9.sub (.cons .here (.cons e_2 (.cons e_2 (.cons e_1 (.drop (.refl)))))))⟩
 ·rw [if_neg hp, decide_eq_false hp]
  refine jc ?_; refine qY ?_
  exact qk ⟨rfl, H⟩
theorem qJT {most : Nat} {lv : List LvM} {p v : Int} {n : Nat} (h : ∀ x ∈ lv, x.2.length < n) : ∀ x ∈ (yq most lv p v).2, x.2.length < n := by
 cases lv with
 | nil => exact h
 | cons y r =>
  obtain ⟨c, hc⟩ := QM (most := most) (x := y) (r := r) (p := p) (v := v)
  rw [hc]
  intro x hx
  rcases List.mem_cons.1 hx with rfl | hx
  ·exact h y (List.mem_cons_self ..)
  ·exact h x (List.mem_cons_of_mem _ hx)
theorem OE {most : Nat} {was : List LvM} {n : Nat} (hw : ∀ x ∈ was, x.2.length < n) : ∀ {cs : List Cl} {lv : List LvM}, (∀ x ∈ lv, x.2.length < n) → ∀ x ∈ (yG most was lv cs).2, x.2.length < n := by
 intro cs
 induction cs with
 | nil => intro lv h; exact h
 | cons c cs ih =>
  intro lv h
  rw [ym]
  split
  ·exact ih (qJT h)
  ·exact hw
theorem Kw {M : VM} {cs : List Cl} (O : OkV M) : OkV (j0 M cs).2 := by
 unfold j0
 split
 ·exact ⟨O.lo, O.hi, (KH O.lvs O.lvs rfl).1, O.ins, O.un, OE O.fr O.fr⟩
 ·exact O
theorem Xz {n : Nat} (hn : 8 ≤ n) {v : Nat} {M : VM} {cs : List Cl} {c : AV} (H : HS g h (ViewC v M :: R)) (O : OkV M) (S : Rd g R 2 cs.length c (cs.flatMap js)) (hc : cs.length < 100000) :
  wp (callT tab qU n (.fn 111 [] []) [.ptr v 0, c] h) fun r h' => r = .int .i64 (j0 M cs).1 ∧ HS g h' (ViewC v (j0 M cs).2 :: R) := by
 (refine qt (g := W111) rfl (by omega) fun k hk => ?_; show wp (S111 (callT tab qU k) _ _ _) _; unfold S111; try simp only [iI, uU, Int.ofNat_eq_natCast])
 refine zy (S.sl H.drop) ?_
 refine jm (fun k s h' => ∃ i : Nat, s = (.int .i64 (i : Int), .int .i64 (cs.length : Int), c, c, .ptr v 0, ()) ∧ i ≤ cs.length ∧ k = cs.length - i ∧ HS g h' (ViewC v M :: R) ∧ ∀ j, j < i → ∀ d, cs[j]? = some d → 1 ≤ d.1 ∧ d.1 < M.sz)
  ?_ (m := cs.length) (by show _ < 1000000000; omega) ⟨0, rfl, by omega, by omega, H, fun j hj => by omega⟩
 rintro k2 ih s h2 hih ⟨i, rfl, h1, rfl, H, hno⟩
 dsimp only
 refine zW (fun hlt => qY ?_) fun hge => qQ ?_
 ·have hi : i < cs.length := by omega
  have hci : cs[i]? = some cs[i] := List.getElem?_eq_getElem hi
  refine zu (l := js cs[i]) (S.sl H.drop) hi (by omega) (k8 hci) ?_
  refine jJ H rfl fun b h3 H3 => jD H3 .here rfl (by show 0 + 2 ≤ 2; omega) rfl fun h4 H4 => ?_
  have H5 : HS g h4 (qa b (js cs[i]) :: ViewC v M :: R) := H4
  unfold js at H5
  with_reducible (refine qK ?_; refine qz (by assumption) .here rfl ?_)
  refine qx (Yn (by omega) H5.drop) ?_
  rintro _ _ ⟨rfl, rfl⟩
  by_cases hin : 1 ≤ cs[i].1 ∧ cs[i].1 < M.sz
  ·rw [decide_eq_true hin]
   with_reducible (refine jU ?_; refine qQ ?_; refine ql (by omega) ?_)
   refine hih (cs.length - (i + 1)) _ _ (by omega) ⟨i + 1, rfl, by omega, rfl, H5.drop, fun j hj d hd => ?_⟩
   by_cases hj' : j < i
   ·exact hno j hj' d hd
   ·obtain rfl : j = i := by omega
    rw [hci] at hd; cases hd; exact hin
  ·rw [decide_eq_false hin]
   refine jc ?_; refine qY ?_; refine qI ?_
   unfold j0
   rw [if_neg (fun h => hin (h _ (List.getElem_mem hi)))]
   exact qk ⟨rfl, H5.drop⟩
 ·have hall : ∀ d ∈ cs, 1 ≤ d.1 ∧ d.1 < M.sz := by
   intro d hd
   obtain ⟨j, hj⟩ := List.getElem?_of_mem hd
   exact hno j (by have := (List.getElem?_eq_some_iff.1 hj).1; omega) d hj
  obtain ⟨fv, ov, q, e, H⟩ := ViewC.E H
  with_reducible (refine qD ?_; refine qK ?_; refine qz (by assumption) .here rfl ?_)
  refine qx (Of (by omega) (H.sel (P := LgC q M.most M.lv) e_3) O.lvs (S.more.more.more) hc) ?_
  rintro _ h4 ⟨rfl, H4⟩
  unfold j0
  rw [if_pos hall]
  exact qI (qk ⟨rfl, ViewC.I (M := { M with lv := (yG M.most M.lv M.lv cs).2 }) (fv := fv) (ov := ov) (q := q) (e := e) (H4.sub (.cons e_1 (.cons e_1 (.cons e_1 (.refl)))))⟩)
theorem OW {n : Nat} (hn : 4 ≤ n) {v : Nat} {M : VM} (H : HS g h (ViewC v M :: R)) (O : OkV M) :
  wp (callT tab qU n (.fn 199 [] []) [.ptr v 0] h) fun r h' => r = .int .i64 (vZ M).1 ∧ HS g h' (ViewC v (vZ M).2 :: R) := by
 (refine qt (g := W199) rfl (by omega) fun k hk => ?_; show wp (S199 (callT tab qU k) _ _) _; unfold S199; try simp only [iI, uU, Int.ofNat_eq_natCast])
 obtain ⟨fv, ov, q, e, H⟩ := ViewC.E H
 with_reducible (refine qD ?_; refine qK ?_; refine qz (by assumption) .here rfl ?_)
 refine qx (Ov (by omega) (H.sel (P := LgC q M.most M.lv) e_3) O.lvs) ?_
 rintro _ h2 ⟨rfl, H2⟩
 exact qk ⟨rfl, ViewC.I (M := (vZ M).2) (fv := fv) (ov := ov) (q := q) (e := e) (H2.sub (.cons e_1 (.cons e_1 (.cons e_1 (.cons .here (.refl))))))⟩
theorem G4 {n : Nat} (hn : 2 ≤ n) {v : Nat} {M : VM} (H : HS g h (ViewC v M :: R)) (O : OkV M) :
  wp (callT tab qU n (.fn 135 [] []) [.ptr v 0] h) fun r h' => r = .int .i64 (xK M).1 ∧ HS g h' (ViewC v (xK M).2 :: R) := by
 (refine qt (g := W135) rfl (by omega) fun k hk => ?_; show wp (S135 (callT tab qU k) _ _) _; unfold S135; try simp only [iI, uU, Int.ofNat_eq_natCast])
 obtain ⟨fv, ov, q, e, H⟩ := ViewC.E H
 with_reducible (refine qD ?_; refine qK ?_; refine qz (by assumption) .here rfl ?_)
 refine qx (KS (by omega) (H.sel (P := LgC q M.most M.lv) e_3) O.lvs) ?_
 rintro _ h2 ⟨rfl, H2⟩
 exact qk ⟨rfl, ViewC.I (M := (xK M).2) (fv := fv) (ov := ov) (q := q) (e := e) (H2.sub (.cons e_1 (.cons e_1 (.cons e_1 (.cons .here (.refl))))))⟩
theorem GS {n : Nat} (hn : 7 ≤ n) {v : Nat} {M : VM} (H : HS g h (ViewC v M :: R)) (O : OkV M) :
  wp (callT tab qU n (.fn 133 [] []) [.ptr v 0] h) fun r h' => r = .int .i64 (vv M).1 ∧ HS g h' (ViewC v (vv M).2 :: R) := by
 (refine qt (g := W133) rfl (by omega) fun k hk => ?_; show wp (S133 (callT tab qU k) _ _) _; unfold S133; try simp only [iI, uU, Int.ofNat_eq_natCast])
 obtain ⟨fv, ov, q, e, H⟩ := ViewC.E H
 with_reducible (refine qD ?_; refine qK ?_; refine qz (by assumption) .here rfl ?_)
 refine qx (NF (by omega) (H.sel (P := LgC q M.most M.lv) e_3) O.lvs fun x hx => Nat.lt_trans (O.fr x hx) (by omega)) ?_
 rintro _ h2 ⟨rfl, H2⟩
 exact qk ⟨rfl, ViewC.I (M := (vv M).2) (fv := fv) (ov := ov) (q := q) (e := e) (H2.sub (.cons e_1 (.cons e_1 (.cons e_1 (.cons .here (.refl))))))⟩
theorem Ol {n : Nat} (hn : 3 ≤ n) {v : Nat} {M : VM} {b : Int} (H : HS g h (ViewC v M :: R)) (O : OkV M) :
  wp (callT tab qU n (.fn 198 [] []) [.ptr v 0, .int .i64 b] h) fun _ h' => HS g h' (ViewC v (freeV M b) :: R) := by
 (refine qt (g := W198) rfl (by omega) fun k hk => ?_; show wp (S198 (callT tab qU k) _ _ _) _; unfold S198; try simp only [iI, uU, Int.ofNat_eq_natCast])
 obtain ⟨fv, ov, q, e, H⟩ := ViewC.E H
 with_reducible (refine qD ?_; refine qK ?_; refine qz (by assumption) .here rfl ?_)
 refine qx (ZD (by omega) (H.sel (P := LgC q M.most M.lv) e_3) O.lvs fun x hx => Nat.lt_trans (O.fr x hx) (by omega)) ?_
 intro _ h2 H2
 exact qk (ViewC.I (M := freeV M b) (fv := fv) (ov := ov) (q := q) (e := e) (H2.sub (.cons e_1 (.cons e_1 (.cons e_1 (.cons .here (.refl)))))))
theorem Mq {n : Nat} (hn : 10 ≤ n) {v : Nat} {M : VM} (H : HS g h (ViewC v M :: R)) (O : OkV M) :
  wp (callT tab qU n (.fn 31 [] []) [.ptr v 0] h) fun r h' => HS g h' (qL 67 2 (zz M.lv).length r ((zz M.lv).flatMap js) :: ViewC v M :: R) := by
 (refine qt (g := W31) rfl (by omega) fun k hk => ?_; show wp (S31 (callT tab qU k) _ _) _; unfold S31; try simp only [iI, uU, Int.ofNat_eq_natCast])
 obtain ⟨fv, ov, q, e, H⟩ := ViewC.E H
 with_reducible (refine qD ?_; refine qK ?_; refine qz (by assumption) .here rfl ?_)
 refine qx (Mh (by omega) (H.sel (P := LgC q M.most M.lv) e_3) O.lvs) ?_
 intro r h2 H2
 refine qk ?_
 have H3 := ViewC.I (v := v) (M := M) (fv := fv) (ov := ov) (q := q) (e := e) (R := qL 67 2 (zz M.lv).length r ((zz M.lv).flatMap js) :: R) (H2.sub (.cons e_2 (.cons e_2 (.cons e_2 (.cons e_1 (.refl))))))
 exact H3.sub (.cons e_1 (.refl))
theorem VU {n : Nat} : ∀ {l : List LvM}, (∀ x ∈ l, x.2.length < n) → (l.flatMap (·.2)).length ≤ l.length * n := by
 intro l h
 induction l with
 | nil => simp
 | cons x r ih =>
  have h1 := h x (List.mem_cons_self ..)
  have h2 := ih fun y hy => h y (List.mem_cons_of_mem _ hy)
  rw [List.flatMap_cons, List.length_append, List.length_cons, Nat.add_mul, Nat.one_mul]
  omega
theorem Um {n : Nat} {lv : List LvM} (h : ∀ x ∈ lv, x.2.length < n) : (vY lv).length ≤ lv.length * n := by
 have := VU (l := lv.reverse) (n := n) fun x hx => h x (List.mem_reverse.1 hx)
 rw [List.length_reverse] at this
 exact this
theorem VO {n : Nat} (hn : 2 ≤ n) {v : Nat} {M : VM} (H : HS g h (ViewC v M :: R)) (O : OkV M) :
  wp (callT tab qU n (.fn 33 [] []) [.ptr v 0] h) fun r h' => HS g h' (qL 3 1 (vY M.lv).length r ((vY M.lv).map (.int .i64)) :: ViewC v M :: R) := by
 (refine qt (g := W33) rfl (by omega) fun k hk => ?_; show wp (S33 (callT tab qU k) _ _) _; unfold S33; try simp only [iI, uU, Int.ofNat_eq_natCast])
 obtain ⟨fv, ov, q, e, H⟩ := ViewC.E H
 with_reducible (refine qD ?_; refine qK ?_; refine qz (by assumption) .here rfl ?_)
 have hfl := Um O.fr
 have hd := O.lvs.deep
 refine qx (Vd (by omega) (H.sel (P := LgC q M.most M.lv) e_3) O.lvs (by omega)) ?_
 intro r h2 H2
 refine qk ?_
 have H3 := ViewC.I (v := v) (M := M) (fv := fv) (ov := ov) (q := q) (e := e) (R := qL 3 1 (vY M.lv).length r ((vY M.lv).map (.int .i64)) :: R) (H2.sub (.cons e_2 (.cons e_2 (.cons e_2 (.cons e_1 (.refl))))))
 exact H3.sub (.cons e_1 (.refl))
def zm (zs : List Int) (i : Nat) : Int := zs[i]?.getD 0
def kW (zs : List Int) : List Cl := (List.range (szZ zs.length - 1)).map fun i => (((i + 1 : Nat) : Int), zm zs (i + 1))
def xu (zs : List Int) (most : Int) : VM := ⟨szZ zs.length, kW zs, (max 0 (min most 96)).toNat, [([], [])], 0⟩
theorem UG (zs : List Int) : (kW zs).length = szZ zs.length - 1 := by simp [kW]
theorem Yb (zs : List Int) {i : Nat} (hi : i + 1 < szZ zs.length) : (kW zs)[i]? = some (((i + 1 : Nat) : Int), zm zs (i + 1)) := by
 unfold kW
 rw [List.getElem?_map, List.getElem?_range (by omega)]; rfl
theorem U4 (zs : List Int) {i : Nat} {p : Int} (hp : (i : Int) < p) : zV p ((kW zs).take i) = none := by
 rw [Gz]
 intro hm
 obtain ⟨c, hc, he⟩ := List.mem_map.1 hm
 obtain ⟨j, hj⟩ := List.getElem?_of_mem hc
 have hjl := (List.getElem?_eq_some_iff.1 hj).1
 simp [UG] at hjl
 rw [List.getElem?_take_of_lt (by omega), Yb zs (by omega)] at hj
 cases hj
 dsimp only at he
 omega
def Q9 (zs : List Int) (most : Int) (i : Nat) : VM := { xu zs most with K := (kW zs).take i }
theorem VC (zs : List Int) (most : Int) (i : Nat) : OkV (Q9 zs most i) := by
 have hb := OZ (zs.length : Int)
 refine ⟨hb.1, hb.2, Zh (by show (max 0 (min most 96)).toNat ≤ 96; omega), ?_, ?_, by intro x hx; simp [Q9, xu] at hx; subst hx; simp⟩
 ·intro c hc
  obtain ⟨j, hj⟩ := List.getElem?_of_mem (List.mem_of_mem_take hc)
  have hjl := (List.getElem?_eq_some_iff.1 hj).1
  rw [UG] at hjl
  rw [Yb zs (by omega)] at hj
  cases hj
  show 1 ≤ ((j + 1 : Nat) : Int) ∧ ((j + 1 : Nat) : Int) < ((szZ zs.length : Nat) : Int)
  omega
 ·show ((((kW zs).take i).map (·.1))).Nodup
  refine List.Nodup.sublist ((List.take_sublist i _).map _) ?_
  unfold kW
  rw [List.map_map]
  refine List.Pairwise.map _ ?_ (List.nodup_range (n := szZ zs.length - 1))
  intro a b hab
  simp
  omega
theorem MA (zs : List Int) (most : Int) : OkV (xu zs most) := by
 have := VC zs most (kW zs).length
 unfold Q9 at this
 rw [List.take_length] at this
 exact this
theorem Md {n : Nat} (hn : 5 ≤ n) {zs : List Int} {a0 : AV} {m : Int} (H : HS g h R) (S : Rd g R 1 zs.length a0 (zs.map (.int .u64))) :
  wp (callT tab qU n (.fn 77 [] []) [a0, .int .i64 m] h) fun r h' => ∃ v, r = .ptr v 0 ∧ HS g h' (ViewC v (xu zs m) :: R) := by
 (refine qt (g := W77) rfl (by omega) fun k hk => ?_; show wp (S77 (callT tab qU k) _ _ _) _; unfold S77; try simp only [iI, uU, Int.ofNat_eq_natCast])
 have hb := OZ (zs.length : Int)
 refine zy (S.sl H) ?_
 refine qx (qQp (by omega) H) ?_
 rintro _ h1 ⟨v, rfl, H1⟩
 refine jm (fun k s h' => ∃ i : Nat, s = (.int .i64 ((i + 1 : Nat) : Int), .ptr v 0, a0, ()) ∧ i + 1 ≤ szZ zs.length ∧ k = szZ zs.length - (i + 1) ∧ HS g h' (ViewC v (Q9 zs m i) :: R)) ?_ (m := szZ zs.length - 1) (by show _ < 1000000000; omega) ⟨0, rfl, by omega, by omega, H1⟩
 rintro k2 ih s h' hih ⟨i, rfl, h1, rfl, H⟩
 dsimp only
 refine qx (k9 (by omega) H) ?_
 rintro _ _ ⟨rfl, rfl⟩
 show wp (qq .lss _ (.int .i64 ((szZ zs.length : Nat) : Int)) _) _
 refine zW (fun hlt => qY ?_) fun hge => qQ (qI (qk ⟨v, rfl, ?_⟩))
 ·have hi : i + 1 < szZ zs.length := by omega
  refine zl [] (fun s g' => s = (.int .u64 (zm zs (i + 1)), .int .i64 ((i + 1 : Nat) : Int), .ptr v 0, a0, ()) ∧ HS g g' (ViewC v (Q9 zs m i) :: R)) ?_ ?_
  ·intro j hj
   refine zy (S.sl H.drop) ?_
   refine zW (fun hl => qY ?_) fun hl => qQ ?_
   ·refine jn (S.sl H.drop) (x := .int .u64 (zm zs (i + 1))) ?_ (hj _ _ ⟨rfl, H⟩)
    unfold zm
    rw [List.getElem?_map, List.getElem?_eq_getElem (by omega)]; rfl
   ·refine hj _ _ ⟨?_, H⟩
    unfold zm
    rw [List.getElem?_eq_none (by omega)]; rfl
  ·rintro s g' ⟨rfl, H2⟩
   dsimp only
   refine qx (NI (by omega) H2 (VC zs m i)) ?_
   rintro _ h4 ⟨_, H4⟩
   have hk : (GT (Q9 zs m i) ((i + 1 : Nat) : Int) (zm zs (i + 1))).2 = Q9 zs m (i + 1) := by
    unfold GT
    rw [if_pos (show 1 ≤ ((i + 1 : Nat) : Int) ∧ ((i + 1 : Nat) : Int) < ((Q9 zs m i).sz : Int) from ⟨by omega, show ((i + 1 : Nat) : Int) < ((szZ zs.length : Nat) : Int) by omega⟩)]
    show (match zV ((i + 1 : Nat) : Int) ((kW zs).take i) with
     | some y => (if y = zm zs (i + 1) then (0 : Int) else 14, Q9 zs m i)
     | none => (0, { Q9 zs m i with K := (kW zs).take i ++ [(((i + 1 : Nat) : Int), zm zs (i + 1))] })).2 = _
    rw [U4 zs (by omega)]
    dsimp only
    unfold Q9
    rw [List.take_add_one, Yb zs hi]; rfl
   rw [hk] at H4
   refine ql (by omega) (hih (szZ zs.length - (i + 1 + 1)) _ _ (by omega) ⟨i + 1, rfl, by omega, rfl, H4⟩)
 ·have hi : i = (kW zs).length := by rw [UG]; omega
  subst hi
  unfold Q9 at H
  rw [List.take_length] at H
  exact H
end Go.Proofs.YtdlfmpmpmkffjaaGreatDoor
namespace Go.Proofs.YtdlfmpmpmkffjaaGreatDoor
open Go Go.Ae
abbrev qb : Type := Int × Int × Int × Int × Int
def jW (x : qb) : List AV := [.int .i64 x.1, .int .i64 x.2.1, .int .i64 x.2.2.1, .int .i64 x.2.2.2.1, .int .u64 x.2.2.2.2]
theorem Qm (l : List qb) : jA (l.flatMap jW) = true := by
 unfold jA
 rw [List.all_eq_true]
 intro v hv
 obtain ⟨c, _, hc⟩ := List.mem_flatMap.1 hv
 simp [jW] at hc
 rcases hc with rfl | rfl | rfl | rfl | rfl <;> rfl
def jC (op : Int) : (Int × Int) × (Int × Int) × (Int × Int) :=
 if op = 1 ∨ op = 11 ∨ op = 21 then ((0, 7), (0, 0), (0, 0))
 else if op = 2 ∨ op = 10 then ((0, 7), (0, 7), (0, 0))
 else if op = 3 ∨ op = 4 ∨ op = 5 ∨ op = 6 ∨ op = 7 then ((0, 7), (0, 7), (0, 7))
 else if op = 8 ∨ op = 9 then ((0, 7), (0, 7), (0, 15))
 else if op = 12 then ((0, 0), (0, 0), (0, 40))
 else if op = 13 then ((0, 7), (0, 0), (0, 40))
 else if op = 23 then ((1, 12), (0, 7), (0, 6))
 else ((0, 0), (0, 0), (0, 0))
def xm (f : Int × Int) (n : Int) : Bool := decide (f.1 ≤ n ∧ n ≤ f.2)
def xn (x : qb) : Bool := decide (1 ≤ x.1 ∧ x.1 ≤ 23) && xm (jC x.1).1 x.2.1 && xm (jC x.1).2.1 x.2.2.1 && xm (jC x.1).2.2 x.2.2.2.1 && decide (x.2.2.2.2 = 0 ∨ x.1 = 1)
def zG (op : Int) : Bool := decide (op = 14 ∨ op = 17)
def jR (op : Int) : Int := if op = 15 then 14 else if op = 18 then 17 else if op = 19 then 18 else 0
def jV (st : List Int) : Int := st.getLast?.getD (-1)
def qF (l : List qb) (i : Int) : qb := (l[i.toNat]?).getD (0, 0, 0, 0, 0)
def opM (l : List qb) (st : List Int) : Int := if st = [] then 0 else (qF l (jV st)).1
def jo (l : List qb) (st : List Int) (x : qb) : Int :=
 if xn x = false then 8
 else if 0 < jR x.1 ∧ opM l st ≠ jR x.1 then 12
 else if x.1 = 16 ∧ opM l st ≠ 14 then 12
 else if zG x.1 = true ∧ 5 ≤ st.length then 9
 else 0
def jq (st : List Int) (i op : Int) : List Int :=
 if zG op = true ∨ op = 18 then (if 0 < jR op then st.dropLast else st) ++ [i] else (if 0 < jR op then st.dropLast else st)
def goM (l : List qb) : List qb → Nat → List Int → (Int × Int) ⊕ List Int
 | [], _, st => .inr st
 | x :: r, i, st => if jo l st x = 0 then goM l r (i + 1) (jq st i x.1) else .inl (i, jo l st x)
def xf : List qb → Nat → List Int → List Int
 | [], _, _ => []
 | x :: r, i, st => jV st :: xf r (i + 1) (jq st i x.1)
def qd (a : List Int) (i : Int) : Int := (a[i.toNat]?).getD 0
def wJ (l : List qb) (a : List Int) (i : Nat) (x : qb) : Prop :=
 (x.1 = 12 ∨ x.1 = 13) ∧ ((l.length : Int) < x.2.2.2.1 ∨ (x.2.2.2.1 = l.length ∧ qd a i ≠ -1) ∨ (x.2.2.2.1 < l.length ∧ qd a x.2.2.2.1 ≠ qd a i))
instance {l : List qb} {a : List Int} {i : Nat} {x : qb} : Decidable (wJ l a i x) := by unfold wJ; infer_instance
def wS (l : List qb) (a : List Int) : List qb → Nat → Int × Int
 | [], _ => (0, 0)
 | x :: r, i => if wJ l a i x then ((i : Int), 2) else wS l a r (i + 1)
def xv (l : List qb) : Int × Int :=
 if l.length = 0 ∨ 40 < l.length then (0, 4)
 else match goM l l 0 [] with
  | .inl r => r
  | .inr st => if st = [] then wS l (xf l 0 []) l 0 else (jV st, 12)
def StOk (i : Nat) (st : List Int) : Prop := ∀ y ∈ st, 0 ≤ y ∧ y < (i : Int)
theorem StOk.nil {i : Nat} : StOk i [] := fun _ h => by cases h
theorem StOk.dropLast {i : Nat} {st : List Int} (h : StOk i st) : StOk i st.dropLast := fun y hy => h y ((List.dropLast_sublist st).subset hy)
theorem StOk.behind {i : Nat} {st : List Int} {op : Int} (h : StOk i st) : StOk (i + 1) (jq st i op) := by
 have h1 : ∀ s, StOk i s → StOk (i + 1) s := fun s hs y hy => by have := hs y hy; omega
 have h2 : ∀ s, StOk i s → StOk (i + 1) (s ++ [(i : Int)]) := by
  intro s hs y hy
  rcases List.mem_append.1 hy with hy | hy
  ·exact h1 s hs y hy
  ·rw [List.mem_singleton] at hy; omega
 unfold jq
 repeat' split
 ·exact h2 _ h.dropLast
 ·exact h2 _ h
 ·exact h1 _ h.dropLast
 ·exact h1 _ h
theorem StOk.inmost {i : Nat} {st : List Int} (h : StOk i st) (hn : st ≠ []) : 0 ≤ jV st ∧ jV st < (i : Int) := by
 refine h _ ?_
 unfold jV
 rw [List.getLast?_eq_some_getLast hn]
 exact List.getLast_mem hn
theorem Xw (st : List Int) (i op : Int) : (jq st i op).length ≤ st.length + 1 := by
 unfold jq
 repeat' split
 all_goals simp
 all_goals omega
theorem kP : jV [] = -1 := rfl
theorem zw {l : List qb} {st : List Int} {x : qb} (h : jo l st x = 0) : xn x = true ∧ (0 < jR x.1 ∨ x.1 = 16 → st ≠ []) ∧ (zG x.1 = true → st.length < 5) := by
 unfold jo at h
 split at h
 ·cases h
 ·rename_i h1
  split at h
  ·cases h
  ·rename_i h2
   split at h
   ·cases h
   ·rename_i h3
    split at h
    ·cases h
    ·rename_i h4
     refine ⟨by simpa using h1, ?_, fun hb => by
      by_cases h5 : 5 ≤ st.length
      ·exact absurd ⟨hb, h5⟩ h4
      ·omega⟩
     rintro ho rfl
     have h0 : opM l [] = 0 := rfl
     rw [h0] at h2 h3
     rcases ho with ho | ho
     ·exact h2 ⟨ho, by omega⟩
     ·exact h3 ⟨ho, by omega⟩
theorem Qv {l r : List qb} {x : qb} {i : Nat} {st : List Int} : goM l (x :: r) i st = if jo l st x = 0 then goM l r (i + 1) (jq st i x.1) else .inl (i, jo l st x) := rfl
theorem J5 : ∀ {r : List qb} {i : Nat} {st : List Int}, (xf r i st).length = r.length := by
 intro r
 induction r with
 | nil => intro i st; rfl
 | cons x r ih => intro i st; show (xf r (i + 1) _).length + 1 = _; rw [ih]; rfl
theorem Nq : ∀ {r : List qb} {i j : Nat} {st : List Int}, j < r.length → ∃ s, (xf r i st)[j]? = some (jV s) ∧ (∀ {l : List qb} {st' : List Int}, goM l r i st = .inr st' → StOk i st → StOk (i + j) s ∧ ∀ x, r[j]? = some x → jo l s x = 0) := by
 intro r
 induction r with
 | nil => intro i j st h; simp at h
 | cons x r ih =>
  intro i j st h
  cases j with
  | zero =>
   refine ⟨st, rfl, fun {l st'} hg hs => ⟨hs, ?_⟩⟩
   intro y hy
   simp at hy
   subst hy
   rw [Qv] at hg
   split at hg
   ·assumption
   ·cases hg
  | succ j =>
   obtain ⟨s, h1, h2⟩ := ih (i := i + 1) (j := j) (st := jq st i x.1) (by simp at h; omega)
   refine ⟨s, h1, fun {l st'} hg hs => ?_⟩
   rw [Qv] at hg
   split at hg
   ·have := h2 hg hs.behind
    rw [show i + 1 + j = i + (j + 1) by omega] at this
    exact this
   ·cases hg
end Go.Proofs.YtdlfmpmpmkffjaaGreatDoor
namespace Go.Proofs.YtdlfmpmpmkffjaaGreatDoor
open Go Go.Ae
set_option maxRecDepth 100000
variable {g h : AH} {L R : List SP}
theorem gJ {D : Nat → Prop} {sz n : Nat} {v : AV} {xs : List AV} (S : Sl D h sz n v xs) : One v := by cases S <;> exact ⟨rfl, rfl⟩
theorem xD {v : AV} (o : One v) : jA [v] = true := by simp [jA, o.2]
theorem zi {g' ha : AH} {b off n nx : Nat} {xs ys l : List AV} {L2 R2 : List SP} {K0 : Go.Ae.R} {Q : AV → AH → Prop} (H : HS g h L) (s : Sel L (qa b xs) R) (hx : (xs.drop off).take n = l) (H2 : HS g' ha L2) (s2 : Sel L2 (qa b ys) R2) (hx2 : (ys.drop off).take n = l) (hl : l.length = n) (h0 : 0 < n) (hlt : b < nx)
  (w : wp K0 Q) : wp (zQ (.ptr b off) (some n) (.agg l) h ha nx K0) Q := by
 obtain ⟨e, A⟩ := H.obj s
 obtain ⟨e2, A2⟩ := H2.obj s2
 exact Z3 hl h0 (fun i hi => by rw [A.at, ← hx, List.getElem?_take_of_lt hi, List.getElem?_drop]) (fun i hi => by rw [A2.at, ← hx2, List.getElem?_take_of_lt hi, List.getElem?_drop]) hlt w
theorem GG {u x : Bool} {r : AV} {K : AV → Go.Ae.R} {Q : AV → AH → Prop} (hr : u = true → r = .bool x) (w : wp (K (.bool (u && x))) Q) : wp (qn (.bool u) r (.bool false) K) Q := by
 cases u
 ·exact w
 ·rw [hr rfl]; exact w
end Go.Proofs.YtdlfmpmpmkffjaaGreatDoor
namespace Go.Proofs.YtdlfmpmpmkffjaaGreatDoor
open Go Go.Ae
set_option maxRecDepth 100000
variable {g h : AH} {L R : List SP}
theorem Vq {s : List UInt8} {K : AV → Go.Ae.R} {Q : AV → AH → Prop} {t : Bool} (ht : Gd .neq s [] = some (.bool t)) (w : wp (K (.bool t)) Q) : wp (Y1 .neq (.str s) (.str []) K) Q := by
 show wp (ob (Gd .neq s []) K) Q
 rw [ht]; exact w
theorem QD {n : Nat} (hn : 1 ≤ n) {x : Int} : wp (callT tab qU n (.fn 82 [] []) [.int .i64 x] h) fun v h' => v = .int .i64 (jR x) ∧ h' = h := by
 (refine qt (g := W82) rfl (by omega) fun k hk => ?_; show wp (S82 (callT tab qU k) _ _) _; unfold S82; try simp only [iI, uU, Int.ofNat_eq_natCast])
 repeat' (first | with_reducible refine qY ?_ | with_reducible refine qQ ?_ | (with_reducible refine qi ?_; try dsimp only) | (with_reducible refine qp ?_; try dsimp only) | (with_reducible refine qh ?_; try dsimp only) | (with_reducible refine qS ?_; try dsimp only) | (with_reducible refine jP ?_; try dsimp only) | with_reducible refine qO ?_ | with_reducible refine qE ?_ | (with_reducible refine qV ?_; try dsimp only) | with_reducible refine qI ?_ | with_reducible refine jU ?_ | with_reducible refine jc ?_ | with_reducible refine ql (by omega) ?_ | with_reducible refine jT (by omega) ?_ | with_reducible refine zt (by omega) ?_ | with_reducible refine zf (by omega) ?_ | with_reducible refine zS ?_ | with_reducible refine ze ?_ | with_reducible refine zW (fun hc => ?_) (fun hc => ?_) | with_reducible refine vD (fun hc => ?_) (fun hc => ?_) | with_reducible refine xO (fun hc => ?_) (fun hc => ?_) | with_reducible refine yI (fun hc => ?_) (fun hc => ?_) | with_reducible refine y4 (fun hc => ?_) (fun hc => ?_) | with_reducible refine xM (fun hc => ?_) (fun hc => ?_) | with_reducible refine yF (fun hc => ?_) (fun hc => ?_))
 all_goals refine qk ⟨?_, rfl⟩
 all_goals unfold jR
 all_goals congr 1
 all_goals (repeat' split)
 all_goals omega
theorem Jh {n : Nat} (hn : 1 ≤ n) {x : Int} : wp (callT tab qU n (.fn 105 [] []) [.int .i64 x] h) fun v h' => v = .bool (zG x) ∧ h' = h := by
 (refine qt (g := W105) rfl (by omega) fun k hk => ?_; show wp (S105 (callT tab qU k) _ _) _; unfold S105; try simp only [iI, uU, Int.ofNat_eq_natCast])
 unfold zG
 by_cases h1 : x = 14
 ·with_reducible (refine qH (by omega) ?_; refine qV ?_; (try dsimp only); refine qp ?_; (try dsimp only); refine qO ?_)
  exact qk ⟨by rw [decide_eq_true (.inl h1)], rfl⟩
 ·with_reducible (refine qG (by omega) ?_; refine qV ?_; (try dsimp only); refine qS ?_; (try dsimp only))
  refine wx ?_
  refine qE ?_
  exact qk ⟨by congr 1; exact decide_eq_decide.2 ⟨.inr, fun h => h.resolve_left h1⟩, rfl⟩
theorem O6 {n : Nat} (hn : 1 ≤ n) {x : Int} : wp (callT tab qU n (.fn 106 [] []) [.int .i64 x] h) fun v h' => v = .bool (decide (x = 12 ∨ x = 13)) ∧ h' = h := by
 (refine qt (g := W106) rfl (by omega) fun k hk => ?_; show wp (S106 (callT tab qU k) _ _) _; unfold S106; try simp only [iI, uU, Int.ofNat_eq_natCast])
 by_cases h1 : x = 12
 ·with_reducible (refine qH (by omega) ?_; refine qV ?_; (try dsimp only); refine qp ?_; (try dsimp only); refine qO ?_)
  exact qk ⟨by rw [decide_eq_true (.inl h1)], rfl⟩
 ·with_reducible (refine qG (by omega) ?_; refine qV ?_; (try dsimp only); refine qS ?_; (try dsimp only))
  refine wx ?_
  refine qE ?_
  exact qk ⟨by congr 1; exact decide_eq_decide.2 ⟨.inr, fun h => h.resolve_left h1⟩, rfl⟩
theorem kO {D : Nat → Prop} {n : Nat} (hn : 1 ≤ n) {st : List Int} {v : AV} (S : Sl D h 1 st.length v (st.map (.int .i64))) (hl : st.length < 1000) :
  wp (callT tab qU n (.fn 74 [] []) [v] h) fun r h' => r = .int .i64 (jV st) ∧ h' = h := by
 (refine qt (g := W74) rfl (by omega) fun k hk => ?_; show wp (S74 (callT tab qU k) _ _) _; unfold S74; try simp only [iI, uU, Int.ofNat_eq_natCast])
 refine zy S ?_
 by_cases h0 : st.length = 0
 ·obtain rfl := List.eq_nil_of_length_eq_zero h0
  with_reducible (refine qH (by omega) ?_; refine qY ?_)
  exact qk ⟨rfl, rfl⟩
 ·with_reducible (refine qG (by omega) ?_; refine qQ ?_)
  refine zy S ?_
  refine jT (by omega) ?_
  rw [show (st.length : Int) - ((1 : Nat) : Int) = ((st.length - 1 : Nat) : Int) by omega]
  have hne : st ≠ [] := by rintro rfl; exact h0 rfl
  refine jn S (x := .int .i64 (jV st)) ?_ (qk ⟨rfl, rfl⟩)
  unfold jV
  rw [List.getElem?_map, ← List.getLast?_eq_getElem?, List.getLast?_eq_some_getLast hne]; rfl
theorem Xv {n : Nat} (hn : 1 ≤ n) {f : Int × Int} {x : Int} (H : HS g h R) : wp (callT tab qU n (.fn 155 [] []) [.agg [.int .i64 f.1, .int .i64 f.2], .int .i64 x] h) fun v h' => v = .bool (xm f x) ∧ HS g h' R := by
 (refine qt (g := W155) rfl (by omega) fun k hk => ?_; show wp (S155 (callT tab qU k) _ _ _) _; unfold S155; try simp only [iI, uU, Int.ofNat_eq_natCast])
 refine jJ H rfl fun b h1 H1 => ?_
 unfold xm
 by_cases c1 : f.1 ≤ x
 ·with_reducible (refine qK ?_; refine qz (by assumption) .here rfl ?_; refine zk (by omega) ?_; refine qV ?_; (try dsimp only); refine qi ?_; (try dsimp only); refine qK ?_; refine qz (by assumption) .here rfl ?_)
  refine YD ?_
  refine qO ?_
  exact qk ⟨by congr 1; exact decide_eq_decide.2 ⟨fun h => ⟨c1, h⟩, fun h => h.2⟩, H1.drop⟩
 ·with_reducible (refine qK ?_; refine qz (by assumption) .here rfl ?_; refine zx (by omega) ?_; refine qV ?_; (try dsimp only); refine qh ?_; (try dsimp only); refine qE ?_)
  exact qk ⟨by rw [decide_eq_false (fun h => c1 h.1)], H1.drop⟩
def xc (f : Int × Int) : List AV := [.int .i64 f.1, .int .i64 f.2]
theorem UA {n : Nat} (hn : 1 ≤ n) {x : Int} (H : HS g h R) : wp (callT tab qU n (.fn 153 [] []) [.int .i64 x] h) fun v h' => v = .tup [.agg (xc (jC x).1), .agg (xc (jC x).2.1), .agg (xc (jC x).2.2)] ∧ HS g h' R := by
 (refine qt (g := W153) rfl (by omega) fun k hk => ?_; show wp (S153 (callT tab qU k) _ _) _; unfold S153; try simp only [iI, uU, Int.ofNat_eq_natCast])
 refine jJ H rfl fun b0 h1 H1 => ?_
 refine jJ H1 rfl fun b2 h2 H2 => ?_
 refine jJ H2 rfl fun b4 h3 H3 => ?_
 refine qo (l := [.int .i64 ((0 : Nat) : Int), .int .i64 ((7 : Nat) : Int)]) rfl ?_
 refine jJ H3 rfl fun b7 h4 H4 => ?_
 refine jD H4 (b := b7) .here rfl (by simp) rfl fun h5 H5 => ?_
 have H5 : HS g h5 (qa b7 (xc (0, 7)) :: qa b4 (xc (0, 0)) :: qa b2 (xc (0, 0)) :: qa b0 (xc (0, 0)) :: R) := H5
 clear H H1 H2 H3 H4
 refine zl [] (fun s h' => s = (.ptr b4 0, .ptr b2 0, .ptr b0 0, ()) ∧ HS g h' (qa b0 (xc (jC x).1) :: qa b2 (xc (jC x).2.1) :: qa b4 (xc (jC x).2.2) :: R)) ?_ ?_
 ·intro j hj
  by_cases ha : x = 1 ∨ x = 11 ∨ x = 21
  ·have e : jC x = ((0, 7), (0, 0), (0, 0)) := by unfold jC; rw [if_pos ha]
   rw [e] at hj
   rcases ha with rfl | rfl | rfl
   all_goals (first | with_reducible (refine qV ?_; (try dsimp only); refine qG (by omega) ?_; refine qQ ?_; refine qG (by omega) ?_; refine qQ ?_; refine qH (by omega) ?_; refine qY ?_) | with_reducible (refine qV ?_; (try dsimp only); refine qG (by omega) ?_; refine qQ ?_; refine qH (by omega) ?_; refine qY ?_; refine qY ?_) | with_reducible (refine qV ?_; (try dsimp only); refine qH (by omega) ?_; refine qY ?_; refine qY ?_))
   all_goals refine jj H5 (b := b7) (off := 0) .here rfl (by omega) rfl ?_
   all_goals refine jD H5 (b := b0) e_3 rfl (by simp [xc]) rfl fun h6 H6 => ?_
   all_goals exact hj _ _ ⟨rfl, H6.sub (.cons .here (.cons e_2 (.cons e_1 (.drop .refl))))⟩
  by_cases hb : x = 2 ∨ x = 10
  ·have e : jC x = ((0, 7), (0, 7), (0, 0)) := by unfold jC; rw [if_neg ha, if_pos hb]
   rw [e] at hj
   rcases hb with rfl | rfl
   all_goals (first | with_reducible (refine qV ?_; (try dsimp only); refine qG (by omega) ?_; refine qQ ?_; refine qG (by omega) ?_; refine qQ ?_; refine qG (by omega) ?_; refine qQ ?_; refine qV ?_; (try dsimp only); refine qG (by omega) ?_; refine qQ ?_; refine qH (by omega) ?_; refine qY ?_; refine qV ?_; (try dsimp only)) | with_reducible (refine qV ?_; (try dsimp only); refine qG (by omega) ?_; refine qQ ?_; refine qG (by omega) ?_; refine qQ ?_; refine qG (by omega) ?_; refine qQ ?_; refine qV ?_; (try dsimp only); refine qH (by omega) ?_; refine qY ?_; refine qY ?_; refine qV ?_; (try dsimp only)))
   all_goals refine jj H5 (b := b7) (off := 0) .here rfl (by omega) rfl ?_
   all_goals refine jj H5 (b := b7) (off := 0) .here rfl (by omega) rfl ?_
   all_goals refine jD H5 (b := b0) e_3 rfl (by simp [xc]) rfl fun h6 H6 => ?_
   all_goals refine jD H6 (b := b2) e_3 rfl (by simp [xc]) rfl fun h7 H7 => ?_
   all_goals refine zi H5 (b := b7) .here rfl H6 e_1 rfl rfl (by omega) (HS.lt H5 .here) ?_
   all_goals exact hj _ _ ⟨rfl, H7.sub (.cons e_1 (.cons .here (.cons e_1 (.drop .refl))))⟩
  by_cases hc : x = 3 ∨ x = 4 ∨ x = 5 ∨ x = 6 ∨ x = 7
  ·have e : jC x = ((0, 7), (0, 7), (0, 7)) := by unfold jC; rw [if_neg ha, if_neg hb, if_pos hc]
   rw [e] at hj
   rcases hc with rfl | rfl | rfl | rfl | rfl
   all_goals (first | with_reducible (refine qV ?_; (try dsimp only); refine qG (by omega) ?_; refine qQ ?_; refine qG (by omega) ?_; refine qQ ?_; refine qG (by omega) ?_; refine qQ ?_; refine qV ?_; (try dsimp only); refine qG (by omega) ?_; refine qQ ?_; refine qG (by omega) ?_; refine qQ ?_; refine qV ?_; (try dsimp only); refine qG (by omega) ?_; refine qQ ?_; refine qG (by omega) ?_; refine qQ ?_; refine qG (by omega) ?_; refine qQ ?_; refine qG (by omega) ?_; refine qQ ?_; refine qH (by omega) ?_; refine qY ?_; refine qV ?_; (try dsimp only)) | with_reducible (refine qV ?_; (try dsimp only); refine qG (by omega) ?_; refine qQ ?_; refine qG (by omega) ?_; refine qQ ?_; refine qG (by omega) ?_; refine qQ ?_; refine qV ?_; (try dsimp only); refine qG (by omega) ?_; refine qQ ?_; refine qG (by omega) ?_; refine qQ ?_; refine qV ?_; (try dsimp only); refine qG (by omega) ?_; refine qQ ?_; refine qG (by omega) ?_; refine qQ ?_; refine qG (by omega) ?_; refine qQ ?_; refine qH (by omega) ?_; refine qY ?_; refine qY ?_; refine qV ?_; (try dsimp only)) | with_reducible (refine qV ?_; (try dsimp only); refine qG (by omega) ?_; refine qQ ?_; refine qG (by omega) ?_; refine qQ ?_; refine qG (by omega) ?_; refine qQ ?_; refine qV ?_; (try dsimp only); refine qG (by omega) ?_; refine qQ ?_; refine qG (by omega) ?_; refine qQ ?_; refine qV ?_; (try dsimp only); refine qG (by omega) ?_; refine qQ ?_; refine qG (by omega) ?_; refine qQ ?_; refine qH (by omega) ?_; refine qY ?_; refine qY ?_; refine qV ?_; (try dsimp only)) | with_reducible (refine qV ?_; (try dsimp only); refine qG (by omega) ?_; refine qQ ?_; refine qG (by omega) ?_; refine qQ ?_; refine qG (by omega) ?_; refine qQ ?_; refine qV ?_; (try dsimp only); refine qG (by omega) ?_; refine qQ ?_; refine qG (by omega) ?_; refine qQ ?_; refine qV ?_; (try dsimp only); refine qG (by omega) ?_; refine qQ ?_; refine qH (by omega) ?_; refine qY ?_; refine qY ?_; refine qV ?_; (try dsimp only)) | with_reducible (refine qV ?_; (try dsimp only); refine qG (by omega) ?_; refine qQ ?_; refine qG (by omega) ?_; refine qQ ?_; refine qG (by omega) ?_; refine qQ ?_; refine qV ?_; (try dsimp only); refine qG (by omega) ?_; refine qQ ?_; refine qG (by omega) ?_; refine qQ ?_; refine qV ?_; (try dsimp only); refine qH (by omega) ?_; refine qY ?_; refine qY ?_; refine qV ?_; (try dsimp only)))
   all_goals refine jj H5 (b := b7) (off := 0) .here rfl (by omega) rfl ?_
   all_goals refine jj H5 (b := b7) (off := 0) .here rfl (by omega) rfl ?_
   all_goals refine jj H5 (b := b7) (off := 0) .here rfl (by omega) rfl ?_
   all_goals refine jD H5 (b := b0) e_3 rfl (by simp [xc]) rfl fun h6 H6 => ?_
   all_goals refine jD H6 (b := b2) e_3 rfl (by simp [xc]) rfl fun h7 H7 => ?_
   all_goals refine jD H7 (b := b4) e_3 rfl (by simp [xc]) rfl fun h8 H8 => ?_
   all_goals refine zi H6 (b := b7) e_1 rfl H7 e_2 rfl rfl (by omega) (HS.lt H5 .here) ?_
   all_goals refine zi H5 (b := b7) .here rfl H6 e_1 rfl rfl (by omega) (HS.lt H5 .here) ?_
   all_goals refine zi H5 (b := b7) .here rfl H6 e_1 rfl rfl (by omega) (HS.lt H5 .here) ?_
   all_goals exact hj _ _ ⟨rfl, H8.sub (.cons e_2 (.cons e_1 (.cons .here (.drop .refl))))⟩
  by_cases hd : x = 8 ∨ x = 9
  ·have e : jC x = ((0, 7), (0, 7), (0, 15)) := by unfold jC; rw [if_neg ha, if_neg hb, if_neg hc, if_pos hd]
   rw [e] at hj
   rcases hd with rfl | rfl
   all_goals (first | with_reducible (refine qV ?_; (try dsimp only); refine qG (by omega) ?_; refine qQ ?_; refine qG (by omega) ?_; refine qQ ?_; refine qG (by omega) ?_; refine qQ ?_; refine qV ?_; (try dsimp only); refine qG (by omega) ?_; refine qQ ?_; refine qG (by omega) ?_; refine qQ ?_; refine qV ?_; (try dsimp only); refine qG (by omega) ?_; refine qQ ?_; refine qG (by omega) ?_; refine qQ ?_; refine qG (by omega) ?_; refine qQ ?_; refine qG (by omega) ?_; refine qQ ?_; refine qG (by omega) ?_; refine qQ ?_; refine qV ?_; (try dsimp only); refine qG (by omega) ?_; refine qQ ?_; refine qH (by omega) ?_; refine qY ?_; refine qV ?_; (try dsimp only)) | with_reducible (refine qV ?_; (try dsimp only); refine qG (by omega) ?_; refine qQ ?_; refine qG (by omega) ?_; refine qQ ?_; refine qG (by omega) ?_; refine qQ ?_; refine qV ?_; (try dsimp only); refine qG (by omega) ?_; refine qQ ?_; refine qG (by omega) ?_; refine qQ ?_; refine qV ?_; (try dsimp only); refine qG (by omega) ?_; refine qQ ?_; refine qG (by omega) ?_; refine qQ ?_; refine qG (by omega) ?_; refine qQ ?_; refine qG (by omega) ?_; refine qQ ?_; refine qG (by omega) ?_; refine qQ ?_; refine qV ?_; (try dsimp only); refine qH (by omega) ?_; refine qY ?_; refine qY ?_; refine qV ?_; (try dsimp only)))
   all_goals refine jj H5 (b := b7) (off := 0) .here rfl (by omega) rfl ?_
   all_goals refine jj H5 (b := b7) (off := 0) .here rfl (by omega) rfl ?_
   all_goals refine qo (l := xc (0, 15)) rfl ?_
   all_goals refine jD H5 (b := b0) e_3 rfl (by simp [xc]) rfl fun h6 H6 => ?_
   all_goals refine jD H6 (b := b2) e_3 rfl (by simp [xc]) rfl fun h7 H7 => ?_
   all_goals refine jD H7 (b := b4) e_3 rfl (by simp [xc]) rfl fun h8 H8 => ?_
   all_goals refine zi H5 (b := b7) .here rfl H6 e_1 rfl rfl (by omega) (HS.lt H5 .here) ?_
   all_goals exact hj _ _ ⟨rfl, H8.sub (.cons e_2 (.cons e_1 (.cons .here (.drop .refl))))⟩
  by_cases he : x = 12
  ·have e : jC x = ((0, 0), (0, 0), (0, 40)) := by unfold jC; rw [if_neg ha, if_neg hb, if_neg hc, if_neg hd, if_pos he]
   rw [e] at hj
   subst he
   with_reducible (refine qV ?_; (try dsimp only); refine qG (by omega) ?_; refine qQ ?_; refine qG (by omega) ?_; refine qQ ?_; refine qG (by omega) ?_; refine qQ ?_; refine qV ?_; (try dsimp only); refine qG (by omega) ?_; refine qQ ?_; refine qG (by omega) ?_; refine qQ ?_; refine qV ?_; (try dsimp only); refine qG (by omega) ?_; refine qQ ?_; refine qG (by omega) ?_; refine qQ ?_; refine qG (by omega) ?_; refine qQ ?_; refine qG (by omega) ?_; refine qQ ?_; refine qG (by omega) ?_; refine qQ ?_; refine qV ?_; (try dsimp only); refine qG (by omega) ?_; refine qQ ?_; refine qG (by omega) ?_; refine qQ ?_; refine qH (by omega) ?_; refine qY ?_; refine qo rfl ?_)
   refine jD H5 (b := b4) e_1 rfl (by simp [xc]) rfl fun h6 H6 => ?_
   exact hj _ _ ⟨rfl, H6.sub (.cons e_3 (.cons e_2 (.cons .here (.drop .refl))))⟩
  by_cases hf : x = 13
  ·have e : jC x = ((0, 7), (0, 0), (0, 40)) := by unfold jC; rw [if_neg ha, if_neg hb, if_neg hc, if_neg hd, if_neg he, if_pos hf]
   rw [e] at hj
   subst hf
   with_reducible (refine qV ?_; (try dsimp only); refine qG (by omega) ?_; refine qQ ?_; refine qG (by omega) ?_; refine qQ ?_; refine qG (by omega) ?_; refine qQ ?_; refine qV ?_; (try dsimp only); refine qG (by omega) ?_; refine qQ ?_; refine qG (by omega) ?_; refine qQ ?_; refine qV ?_; (try dsimp only); refine qG (by omega) ?_; refine qQ ?_; refine qG (by omega) ?_; refine qQ ?_; refine qG (by omega) ?_; refine qQ ?_; refine qG (by omega) ?_; refine qQ ?_; refine qG (by omega) ?_; refine qQ ?_; refine qV ?_; (try dsimp only); refine qG (by omega) ?_; refine qQ ?_; refine qG (by omega) ?_; refine qQ ?_; refine qG (by omega) ?_; refine qQ ?_; refine qH (by omega) ?_; refine qY ?_)
   refine jj H5 (b := b7) (off := 0) .here rfl (by omega) rfl ?_
   refine qo (l := xc (0, 40)) rfl ?_
   refine jD H5 (b := b0) e_3 rfl (by simp [xc]) rfl fun h6 H6 => ?_
   refine jD H6 (b := b4) e_2 rfl (by simp [xc]) rfl fun h7 H7 => ?_
   exact hj _ _ ⟨rfl, H7.sub (.cons e_1 (.cons e_2 (.cons .here (.drop .refl))))⟩
  by_cases hg : x = 23
  ·have e : jC x = ((1, 12), (0, 7), (0, 6)) := by unfold jC; rw [if_neg ha, if_neg hb, if_neg hc, if_neg hd, if_neg he, if_neg hf, if_pos hg]
   rw [e] at hj
   subst hg
   with_reducible (refine qV ?_; (try dsimp only); refine qG (by omega) ?_; refine qQ ?_; refine qG (by omega) ?_; refine qQ ?_; refine qG (by omega) ?_; refine qQ ?_; refine qV ?_; (try dsimp only); refine qG (by omega) ?_; refine qQ ?_; refine qG (by omega) ?_; refine qQ ?_; refine qV ?_; (try dsimp only); refine qG (by omega) ?_; refine qQ ?_; refine qG (by omega) ?_; refine qQ ?_; refine qG (by omega) ?_; refine qQ ?_; refine qG (by omega) ?_; refine qQ ?_; refine qG (by omega) ?_; refine qQ ?_; refine qV ?_; (try dsimp only); refine qG (by omega) ?_; refine qQ ?_; refine qG (by omega) ?_; refine qQ ?_; refine qG (by omega) ?_; refine qQ ?_; refine qG (by omega) ?_; refine qQ ?_; refine qH (by omega) ?_; refine qY ?_; refine qo rfl ?_; refine qo rfl ?_; refine qo rfl ?_)
   refine jD H5 (b := b0) e_3 rfl (by simp [xc]) rfl fun h6 H6 => ?_
   refine jD H6 (b := b2) e_3 rfl (by simp [xc]) rfl fun h7 H7 => ?_
   refine jD H7 (b := b4) e_3 rfl (by simp [xc]) rfl fun h8 H8 => ?_
   exact hj _ _ ⟨rfl, H8.sub (.cons e_2 (.cons e_1 (.cons .here (.drop .refl))))⟩
  ·have e : jC x = ((0, 0), (0, 0), (0, 0)) := by unfold jC; rw [if_neg ha, if_neg hb, if_neg hc, if_neg hd, if_neg he, if_neg hf, if_neg hg]
   rw [e] at hj ⊢
   with_reducible (refine qV ?_; (try dsimp only); refine qG (by omega) ?_; refine qQ ?_; refine qG (by omega) ?_; refine qQ ?_; refine qG (by omega) ?_; refine qQ ?_; refine qV ?_; (try dsimp only); refine qG (by omega) ?_; refine qQ ?_; refine qG (by omega) ?_; refine qQ ?_; refine qV ?_; (try dsimp only); refine qG (by omega) ?_; refine qQ ?_; refine qG (by omega) ?_; refine qQ ?_; refine qG (by omega) ?_; refine qQ ?_; refine qG (by omega) ?_; refine qQ ?_; refine qG (by omega) ?_; refine qQ ?_; refine qV ?_; (try dsimp only); refine qG (by omega) ?_; refine qQ ?_; refine qG (by omega) ?_; refine qQ ?_; refine qG (by omega) ?_; refine qQ ?_; refine qG (by omega) ?_; refine qQ ?_; refine qG (by omega) ?_; refine qQ ?_)
   exact hj _ _ ⟨rfl, H5.sub (.cons e_3 (.cons e_2 (.cons e_1 (.drop .refl))))⟩
 ·rintro s h6 ⟨rfl, H6⟩
  dsimp only
  generalize jC x = F at *
  refine qV ?_
  refine jj H6 (b := b0) (off := 0) .here rfl (by omega) rfl ?_
  refine jj H6 (b := b2) (off := 0) e_1 rfl (by omega) rfl ?_
  refine jj H6 (b := b4) (off := 0) e_2 rfl (by omega) rfl ?_
  refine jD H6 (b := b0) .here rfl (by simp [xc]) rfl fun h7 H7 => ?_
  refine jD H7 (b := b2) e_1 rfl (by simp [xc]) rfl fun h8 H8 => ?_
  refine jD H8 (b := b4) e_2 rfl (by simp [xc]) rfl fun h9 H9 => ?_
  refine zi H7 (b := b4) e_2 rfl H8 e_2 rfl rfl (by omega) (HS.lt H6 e_2) ?_
  refine zi H6 (b := b4) e_2 rfl H7 e_2 rfl rfl (by omega) (HS.lt H6 e_2) ?_
  refine zi H6 (b := b2) e_1 rfl H7 e_1 rfl rfl (by omega) (HS.lt H6 e_1) ?_
  refine qI ?_
  refine jj H9 (b := b0) (off := 0) e_2 rfl (by omega) rfl ?_
  refine jj H9 (b := b2) (off := 0) e_1 rfl (by omega) rfl ?_
  refine jj H9 (b := b4) (off := 0) .here rfl (by omega) rfl ?_
  exact qk ⟨rfl, H9.drop.drop.drop⟩
def nameL : List (List UInt8) := [[], [115, 101, 116], [109, 111, 118, 101], [97, 100, 100], [115, 117, 98], [109, 117, 108], [108, 101, 115, 115], [101, 113, 117, 97, 108], [108, 111, 97, 100], [115, 116, 111, 114, 101], [97, 108, 108, 111, 99], [102, 114, 101, 101], [106, 117, 109, 112], [122, 101, 114, 111], [111, 112, 101, 110], [99, 108, 111, 115, 101], [117, 110, 100, 111], [101, 105, 116, 104, 101, 114], [111, 114], [100, 111, 110, 101], [114, 101, 116, 114, 121], [101, 109, 105, 116], [102, 97, 105, 108], [99, 97, 108, 108]]
theorem qQ8 {p : Nat} (hp : p < 24) : ∃ s, nameL[p]? = some s ∧ Gd .neq s [] = some (.bool (decide (1 ≤ (p : Int) ∧ (p : Int) ≤ 23))) := by
 match p, hp with
 | 0, _ => exact ⟨_, rfl, rfl⟩
 | 1, _ => exact ⟨_, rfl, rfl⟩
 | 2, _ => exact ⟨_, rfl, rfl⟩
 | 3, _ => exact ⟨_, rfl, rfl⟩
 | 4, _ => exact ⟨_, rfl, rfl⟩
 | 5, _ => exact ⟨_, rfl, rfl⟩
 | 6, _ => exact ⟨_, rfl, rfl⟩
 | 7, _ => exact ⟨_, rfl, rfl⟩
 | 8, _ => exact ⟨_, rfl, rfl⟩
 | 9, _ => exact ⟨_, rfl, rfl⟩
 | 10, _ => exact ⟨_, rfl, rfl⟩
 | 11, _ => exact ⟨_, rfl, rfl⟩
 | 12, _ => exact ⟨_, rfl, rfl⟩
 | 13, _ => exact ⟨_, rfl, rfl⟩
 | 14, _ => exact ⟨_, rfl, rfl⟩
 | 15, _ => exact ⟨_, rfl, rfl⟩
 | 16, _ => exact ⟨_, rfl, rfl⟩
 | 17, _ => exact ⟨_, rfl, rfl⟩
 | 18, _ => exact ⟨_, rfl, rfl⟩
 | 19, _ => exact ⟨_, rfl, rfl⟩
 | 20, _ => exact ⟨_, rfl, rfl⟩
 | 21, _ => exact ⟨_, rfl, rfl⟩
 | 22, _ => exact ⟨_, rfl, rfl⟩
 | 23, _ => exact ⟨_, rfl, rfl⟩
 | k + 24, h => exact absurd h (by omega)
theorem ZM {n : Nat} (hn : 2 ≤ n) {x : Int} (H : HS g h R) : wp (callT tab qU n (.fn 154 [] []) [.int .i64 x] h) fun v h' => ∃ s, v = .str s ∧ Gd .neq s [] = some (.bool (decide (1 ≤ x ∧ x ≤ 23))) ∧ HS g h' R := by
 (refine qt (g := W154) rfl (by omega) fun k hk => ?_; show wp (S154 (callT tab qU k) _ _) _; unfold S154; try simp only [iI, uU, Int.ofNat_eq_natCast])
 refine qx (Q' := fun v h' => ∃ e, HS g h' (qL e 1 24 v (nameL.map .str) :: R)) ?_ ?_
 ·(refine qt (g := W220) rfl (by omega) fun k hk => ?_; show wp (S220 (callT tab qU k) _) _; unfold S220; try simp only [iI, uU, Int.ofNat_eq_natCast])
  exact jw (n := 24) (l := nameL.map .str) (sz := 1) H rfl rfl rfl rfl fun v h1 H1 => qk ⟨_, H1⟩
 rintro v h1 ⟨e, H1⟩
 refine qx (Q' := fun w h' => ∃ s, w = .str s ∧ Gd .neq s [] = some (.bool (decide (1 ≤ x ∧ x ≤ 23))) ∧ h' = h1) ?_ ?_
 ·(refine qt (g := W219) rfl (by omega) fun k hk => ?_; show wp (S219 (callT tab qU k) _ _ _) _; unfold S219; try simp only [iI, uU, Int.ofNat_eq_natCast])
  by_cases c0 : x < 0
  ·with_reducible (refine zh (by omega) ?_; refine qV ?_; (try dsimp only); refine qp ?_; (try dsimp only); refine qO ?_; refine qY ?_)
   exact qk ⟨[], rfl, by rw [decide_eq_false (by omega)]; rfl, rfl⟩
  ·refine zC (by omega) ?_
   with_reducible (refine qV ?_; (try dsimp only); refine qS ?_; (try dsimp only); refine jH (by assumption) .here ?_)
   by_cases c1 : x < 24
   ·obtain ⟨p, rfl⟩ : ∃ p : Nat, x = (p : Int) := ⟨x.toNat, by omega⟩
    obtain ⟨s, hs, ht⟩ := qQ8 (show p < 24 by omega)
    with_reducible (refine zx (by omega) ?_; refine qE ?_; refine qQ ?_)
    refine jn (H1.sl .here) (x := .str s) (by rw [List.getElem?_map, hs]; rfl) (qk ⟨s, rfl, ht, rfl⟩)
   ·with_reducible (refine zk (by omega) ?_; refine qE ?_; refine qY ?_)
    exact qk ⟨[], rfl, by rw [decide_eq_false (by omega)]; rfl, rfl⟩
 ·rintro _ h2 ⟨s, rfl, ht, rfl⟩
  exact qk ⟨s, rfl, ht, H1.drop⟩
theorem Zo {n : Nat} (hn : 3 ≤ n) {x : qb} (H : HS g h R) : wp (callT tab qU n (.fn 103 [] []) [.agg (jW x)] h) fun v h' => v = .bool (xn x) ∧ HS g h' R := by
 (refine qt (g := W103) rfl (by omega) fun k hk => ?_; show wp (S103 (callT tab qU k) _ _) _; unfold S103; try simp only [iI, uU, Int.ofNat_eq_natCast])
 obtain ⟨op, a, b, c, q⟩ := x
 refine jJ H rfl fun b0 h1 H1 => ?_
 have H1 : HS g h1 (qa b0 [.int .i64 op, .int .i64 a, .int .i64 b, .int .i64 c, .int .u64 q] :: R) := H1
 with_reducible (refine qK ?_; refine qz (by assumption) .here rfl ?_)
 refine qx (UA (by omega) H1) ?_
 rintro _ h2 ⟨rfl, H2⟩
 have hM : xn (op, a, b, c, q) = (decide (1 ≤ op ∧ op ≤ 23) && xm (jC op).1 a && xm (jC op).2.1 b && xm (jC op).2.2 c && decide (q = 0 ∨ op = 1)) := rfl
 rw [hM]
 generalize jC op = F at *
 obtain ⟨f1, f2, f3⟩ := F
 dsimp only
 with_reducible (refine qc rfl ?_; refine qc rfl ?_; refine qc rfl ?_)
 refine jJ H2 rfl fun b1 h3 H3 => ?_
 refine jJ H3 rfl fun b2 h4 H4 => ?_
 refine jJ H4 rfl fun b3 h5 H5 => ?_
 refine jD H5 (b := b1) e_2 rfl (by simp) rfl fun h6 H6 => ?_
 refine jD H6 (b := b2) e_2 rfl (by simp) rfl fun h7 H7 => ?_
 refine jD H7 (b := b3) e_2 rfl (by simp) rfl fun h8 H8 => ?_
 have H8 : HS g h8 (qa b3 (xc f3) :: qa b2 (xc f2) :: qa b1 (xc f1) :: qa b0 [.int .i64 op, .int .i64 a, .int .i64 b, .int .i64 c, .int .u64 q] :: R) := H8
 clear H H1 H2 H3 H4 H5 H6 H7
 with_reducible (refine qK ?_; refine qz (by assumption) e_3 rfl ?_)
 refine qx (ZM (by omega) H8) ?_
 rintro _ h9 ⟨s, rfl, ht, H⟩
 refine Vq ht ?_
 clear H8
 by_cases c1 : 1 ≤ op ∧ op ≤ 23
 rotate_left
 ·rw [decide_eq_false c1]
  with_reducible (refine qV ?_; (try dsimp only); refine qh ?_; (try dsimp only); refine qE ?_; refine qV ?_; (try dsimp only); refine qh ?_; (try dsimp only); refine qE ?_; refine qV ?_; (try dsimp only); refine qh ?_; (try dsimp only); refine qE ?_; refine qV ?_; (try dsimp only); refine qh ?_; (try dsimp only); refine qV ?_; (try dsimp only); refine jP ?_; (try dsimp only); refine qV ?_; (try dsimp only); refine qh ?_; (try dsimp only); refine qE ?_)
  exact qk ⟨rfl, H.drop.drop.drop.drop⟩
 rw [decide_eq_true c1]
 with_reducible (refine qV ?_; (try dsimp only); refine qi ?_; (try dsimp only))
 refine jj H (b := b1) (off := 0) e_2 rfl (by omega) rfl ?_
 with_reducible (refine qK ?_; refine qz (by assumption) e_3 rfl ?_)
 refine qx (Xv (by omega) H) ?_
 rintro _ h10 ⟨rfl, H10⟩
 cases hf1 : xm f1 a
 ·with_reducible (refine qO ?_; refine qV ?_; (try dsimp only); refine qh ?_; (try dsimp only); refine qE ?_; refine qV ?_; (try dsimp only); refine qh ?_; (try dsimp only); refine qE ?_; refine qV ?_; (try dsimp only); refine qh ?_; (try dsimp only); refine qV ?_; (try dsimp only); refine jP ?_; (try dsimp only); refine qV ?_; (try dsimp only); refine qh ?_; (try dsimp only); refine qE ?_)
  exact qk ⟨rfl, H10.drop.drop.drop.drop⟩
 with_reducible (refine qO ?_; refine qV ?_; (try dsimp only); refine qi ?_; (try dsimp only))
 refine jj H10 (b := b2) (off := 0) e_1 rfl (by omega) rfl ?_
 with_reducible (refine qK ?_; refine qz (by assumption) e_3 rfl ?_)
 refine qx (Xv (by omega) H10) ?_
 rintro _ h11 ⟨rfl, H11⟩
 cases hf2 : xm f2 b
 ·with_reducible (refine qO ?_; refine qV ?_; (try dsimp only); refine qh ?_; (try dsimp only); refine qE ?_; refine qV ?_; (try dsimp only); refine qh ?_; (try dsimp only); refine qV ?_; (try dsimp only); refine jP ?_; (try dsimp only); refine qV ?_; (try dsimp only); refine qh ?_; (try dsimp only); refine qE ?_)
  exact qk ⟨rfl, H11.drop.drop.drop.drop⟩
 with_reducible (refine qO ?_; refine qV ?_; (try dsimp only); refine qi ?_; (try dsimp only))
 refine jj H11 (b := b3) (off := 0) .here rfl (by omega) rfl ?_
 with_reducible (refine qK ?_; refine qz (by assumption) e_3 rfl ?_)
 refine qx (Xv (by omega) H11) ?_
 rintro _ h12 ⟨rfl, H12⟩
 cases hf3 : xm f3 c
 ·with_reducible (refine qO ?_; refine qV ?_; (try dsimp only); refine qh ?_; (try dsimp only); refine qV ?_; (try dsimp only); refine jP ?_; (try dsimp only); refine qV ?_; (try dsimp only); refine qh ?_; (try dsimp only); refine qE ?_)
  exact qk ⟨rfl, H12.drop.drop.drop.drop⟩
 by_cases c2 : q = 0
 ·with_reducible (refine qO ?_; refine qV ?_; (try dsimp only); refine qi ?_; (try dsimp only); refine qK ?_; refine qz (by assumption) e_3 rfl ?_; refine qH (by omega) ?_; refine qV ?_; (try dsimp only); refine qp ?_; (try dsimp only); refine qV ?_; (try dsimp only); refine qi ?_; (try dsimp only); refine qO ?_; refine qO ?_)
  exact qk ⟨by rw [decide_eq_true (.inl c2)]; rfl, H12.drop.drop.drop.drop⟩
 by_cases c3 : op = 1
 ·with_reducible (refine qO ?_; refine qV ?_; (try dsimp only); refine qi ?_; (try dsimp only); refine qK ?_; refine qz (by assumption) e_3 rfl ?_; refine qG (by omega) ?_; refine qV ?_; (try dsimp only); refine qS ?_; (try dsimp only); refine qK ?_; refine qz (by assumption) e_3 rfl ?_; refine qH (by omega) ?_; refine qV ?_; (try dsimp only); refine qi ?_; (try dsimp only); refine qE ?_; refine qO ?_)
  exact qk ⟨by rw [decide_eq_true (.inr c3)]; rfl, H12.drop.drop.drop.drop⟩
 ·with_reducible (refine qO ?_; refine qV ?_; (try dsimp only); refine qi ?_; (try dsimp only); refine qK ?_; refine qz (by assumption) e_3 rfl ?_; refine qG (by omega) ?_; refine qV ?_; (try dsimp only); refine qS ?_; (try dsimp only); refine qK ?_; refine qz (by assumption) e_3 rfl ?_; refine qG (by omega) ?_; refine qV ?_; (try dsimp only); refine qi ?_; (try dsimp only); refine qE ?_; refine qO ?_)
  exact qk ⟨by rw [decide_eq_false (fun h => h.elim c2 c3)]; rfl, H12.drop.drop.drop.drop⟩
end Go.Proofs.YtdlfmpmpmkffjaaGreatDoor
namespace Go.Proofs.YtdlfmpmpmkffjaaGreatDoor
open Go Go.Ae
set_option maxRecDepth 100000
variable {g h : AH} {L R : List SP}
theorem qQF {l : List qb} {i : Nat} (hi : i < l.length) : qF l (i : Int) = l[i] := by
 unfold qF
 rw [show ((i : Int)).toNat = i by omega, List.getElem?_eq_getElem hi]; rfl
theorem Nh {n : Nat} (hn : 2 ≤ n) {l : List qb} {st : List Int} {sv tv : AV} (H : HS g h R) (S : Rd g R 5 l.length sv (l.flatMap jW)) (T : Rd g R 1 st.length tv (st.map (.int .i64))) (hs : StOk l.length st) (hl : st.length < 1000) :
  wp (callT tab qU n (.fn 104 [] []) [tv, .agg [sv]] h) fun v h' => v = .int .i64 (opM l st) ∧ HS g h' R := by
 (refine qt (g := W104) rfl (by omega) fun k hk => ?_; show wp (S104 (callT tab qU k) _ _ _) _; unfold S104; try simp only [iI, uU, Int.ofNat_eq_natCast])
 refine jJ H (xD (gJ (S.sl H))) fun b h1 H1 => ?_
 refine zy (T.sl H1.drop) ?_
 unfold opM
 by_cases h0 : st = []
 ·subst h0
  rw [if_pos rfl]
  skip
  exact qk ⟨rfl, H1.drop⟩
 ·have hl0 : st.length ≠ 0 := fun h => h0 (List.eq_nil_of_length_eq_zero h)
  rw [if_neg h0]
  with_reducible (refine qG (by omega) ?_; refine qQ ?_; refine qV ?_; (try dsimp only); refine qK ?_; refine qz (by assumption) .here rfl ?_)
  refine qx (kO (by omega) (T.sl H1.drop) hl) ?_
  rintro _ h1 ⟨rfl, rfl⟩
  have hi := hs.inmost h0
  generalize jV st = p at *
  obtain ⟨p, rfl⟩ : ∃ q : Nat, p = (q : Int) := ⟨p.toNat, by omega⟩
  have hp : p < l.length := by omega
  refine Jx (x := .int .i64 l[p].1) (S.sl H1.drop) (by omega) hp (by rw [k6 (sz := 5) jW (fun _ => rfl) _ _ _ (by omega), List.getElem?_eq_getElem hp]; rfl) ?_
  with_reducible (refine vH (by assumption) .here rfl (by assumption) .here rfl (HS.lt (by assumption) .here) ?_)
  exact qk ⟨by rw [qQF hp], H1.drop⟩
theorem Vu {n : Nat} (hn : 4 ≤ n) {l : List qb} {st : List Int} {sv tv : AV} {x : qb} (H : HS g h R) (S : Rd g R 5 l.length sv (l.flatMap jW)) (T : Rd g R 1 st.length tv (st.map (.int .i64))) (hs : StOk l.length st) (hl : st.length < 1000) :
  wp (callT tab qU n (.fn 72 [] []) [.agg [sv], tv, .agg (jW x)] h) fun v h' => v = .int .i64 (jo l st x) ∧ HS g h' R := by
 (refine qt (g := W72) rfl (by omega) fun k hk => ?_; show wp (S72 (callT tab qU k) _ _ _ _) _; unfold S72; try simp only [iI, uU, Int.ofNat_eq_natCast])
 refine jJ H (xD (gJ (S.sl H))) fun b0 h1 H1 => ?_
 refine jJ H1 rfl fun b2 h2 H2 => ?_
 refine jj H2 (b := b2) (off := 0) .here rfl (by omega) rfl ?_
 refine qx (Zo (by omega) H2) ?_
 rintro _ h3 ⟨rfl, H3⟩
 clear H H1 H2
 obtain ⟨op, a, b, c, q⟩ := x
 have hW : jo l st (op, a, b, c, q) = if xn (op, a, b, c, q) = false then 8 else if 0 < jR op ∧ opM l st ≠ jR op then 12 else if op = 16 ∧ opM l st ≠ 14 then 12 else if zG op = true ∧ 5 ≤ st.length then 9 else 0 := rfl
 rw [hW]
 have H3 : HS g h3 (qa b2 [.int .i64 op, .int .i64 a, .int .i64 b, .int .i64 c, .int .u64 q] :: qa b0 [sv] :: R) := H3
 cases xn (op, a, b, c, q)
 ·refine jc ?_; refine qY ?_
  exact qk ⟨rfl, H3.drop.drop⟩
 rw [if_neg (by simp)]
 (first | with_reducible refine qY ?_ | with_reducible refine qQ ?_ | (with_reducible refine qi ?_; try dsimp only) | (with_reducible refine qp ?_; try dsimp only) | (with_reducible refine qh ?_; try dsimp only) | (with_reducible refine qS ?_; try dsimp only) | (with_reducible refine jP ?_; try dsimp only) | with_reducible refine qO ?_ | with_reducible refine qE ?_ | (with_reducible refine qV ?_; try dsimp only) | with_reducible refine qI ?_ | with_reducible refine jU ?_ | with_reducible refine jc ?_ | with_reducible refine ql (by omega) ?_ | with_reducible refine jT (by omega) ?_ | with_reducible refine zt (by omega) ?_ | with_reducible refine zf (by omega) ?_ | with_reducible refine zS ?_ | with_reducible refine ze ?_)
 (first | with_reducible refine qY ?_ | with_reducible refine qQ ?_ | (with_reducible refine qi ?_; try dsimp only) | (with_reducible refine qp ?_; try dsimp only) | (with_reducible refine qh ?_; try dsimp only) | (with_reducible refine qS ?_; try dsimp only) | (with_reducible refine jP ?_; try dsimp only) | with_reducible refine qO ?_ | with_reducible refine qE ?_ | (with_reducible refine qV ?_; try dsimp only) | with_reducible refine qI ?_ | with_reducible refine jU ?_ | with_reducible refine jc ?_ | with_reducible refine ql (by omega) ?_ | with_reducible refine jT (by omega) ?_ | with_reducible refine zt (by omega) ?_ | with_reducible refine zf (by omega) ?_ | with_reducible refine zS ?_ | with_reducible refine ze ?_)
 refine Jg (fun s h' => s = (.bool (decide (0 < jR op ∧ opM l st ≠ jR op)), .ptr b2 0, .ptr b0 0, tv, ()) ∧ HS g h' (qa b2 [.int .i64 op, .int .i64 a, .int .i64 b, .int .i64 c, .int .u64 q] :: qa b0 [sv] :: R)) ?_ ?_
 ·intro j hj
  with_reducible (refine qK ?_; refine qz (by assumption) .here rfl ?_)
  refine qx (QD (by omega)) ?_
  rintro _ h3 ⟨rfl, rfl⟩
  by_cases h1 : 0 < jR op
  ·with_reducible (refine xR (by omega) ?_; refine qi ?_; (try dsimp only))
   refine jj H3 (b := b0) (off := 0) e_1 rfl (by omega) rfl ?_
   refine qx (Nh (by omega) H3 S.more.more T.more.more hs hl) ?_
   rintro _ h4 ⟨rfl, H4⟩
   with_reducible (refine qK ?_; refine qz (by assumption) .here rfl ?_)
   refine qx (QD (by omega)) ?_
   rintro _ h4 ⟨rfl, rfl⟩
   refine Js ?_
   with_reducible (refine qO ?_; refine vH (by assumption) .here rfl (by assumption) .here rfl (HS.lt (by assumption) .here) ?_)
   refine hj _ _ ⟨?_, H4⟩
   congr 2
   exact decide_eq_decide.2 ⟨fun h => ⟨h1, h⟩, fun h => h.2⟩
  ·with_reducible (refine xA (by omega) ?_; refine qh ?_; (try dsimp only); refine qE ?_)
   refine hj _ _ ⟨?_, H3⟩
   rw [decide_eq_false (fun h => h1 h.1)]
 clear H3
 rintro s h4 ⟨rfl, H⟩
 dsimp only
 by_cases hA : 0 < jR op ∧ opM l st ≠ jR op
 ·rw [decide_eq_true hA, if_pos hA]
  refine qY ?_
  exact qk ⟨rfl, H.drop.drop⟩
 rw [decide_eq_false hA, if_neg hA]
 with_reducible (refine qQ ?_; refine qK ?_; refine qz (by assumption) .here rfl ?_)
 refine wx ?_
 refine Jg (fun s h' => ∃ (r : AV) (u x : Bool), s = (r, .bool u, .ptr b2 0, tv, ()) ∧ (u = true → r = .bool x) ∧ ((u && x) = decide (op = 16 ∧ opM l st ≠ 14)) ∧ HS g h' (qa b2 [.int .i64 op, .int .i64 a, .int .i64 b, .int .i64 c, .int .u64 q] :: qa b0 [sv] :: R)) ?_ ?_
 ·intro j hj
  by_cases h1 : op = 16
  ·rw [decide_eq_true (show op = ((16 : Nat) : Int) from h1)]
   with_reducible (refine qi ?_; (try dsimp only))
   refine jj H (b := b0) (off := 0) e_1 rfl (by omega) rfl ?_
   refine qx (Nh (by omega) H S.more.more T.more.more hs hl) ?_
   rintro _ h4 ⟨rfl, H4⟩
   refine Js (hj _ _ ⟨_, true, decide (¬ opM l st = 14), rfl, fun _ => rfl, ?_, H4⟩)
   rw [Bool.true_and]
   exact decide_eq_decide.2 ⟨fun h => ⟨h1, h⟩, fun h => h.2⟩
  ·rw [decide_eq_false (show ¬ op = ((16 : Nat) : Int) from h1)]
   with_reducible (refine qh ?_; (try dsimp only))
   refine hj _ _ ⟨_, false, false, rfl, (fun h => by cases h), ?_, H⟩
   rw [decide_eq_false (fun h => h1 h.1)]; rfl
 clear H
 rintro s h4 ⟨r, u, y, rfl, hr, hu, H⟩
 dsimp only
 refine GG hr ?_
 rw [hu]
 by_cases hB : op = 16 ∧ opM l st ≠ 14
 ·rw [decide_eq_true hB, if_pos hB]
  refine qY ?_
  exact qk ⟨rfl, H.drop.drop⟩
 rw [decide_eq_false hB, if_neg hB]
 with_reducible (refine qQ ?_; refine qK ?_; refine qz (by assumption) .here rfl ?_)
 refine qx (Jh (by omega)) ?_
 rintro _ h4 ⟨rfl, rfl⟩
 cases hb : zG op
 ·rw [if_neg (by simp)]
  with_reducible (refine qV ?_; (try dsimp only); refine qh ?_; (try dsimp only); refine qE ?_; refine qQ ?_)
  exact qk ⟨rfl, H.drop.drop⟩
 ·with_reducible (refine qV ?_; (try dsimp only); refine qi ?_; (try dsimp only))
  refine zy (T.sl H.drop.drop) ?_
  by_cases h5 : 5 ≤ st.length
  ·rw [if_pos ⟨rfl, h5⟩]
   with_reducible (refine zk (by omega) ?_; refine qO ?_; refine qY ?_)
   exact qk ⟨rfl, H.drop.drop⟩
  ·rw [if_neg (fun h => h5 h.2)]
   with_reducible (refine zx (by omega) ?_; refine qO ?_; refine qQ ?_)
   exact qk ⟨rfl, H.drop.drop⟩
def StC (v : AV) (st : List Int) : SP := qL 3 1 st.length v (st.map (.int .i64))
theorem XJ {n : Nat} (hn : 2 ≤ n) {st : List Int} {tv : AV} {i op : Int} (H : HS g h (StC tv st :: R)) (hs : 0 < jR op → st ≠ []) (hl : st.length < 1000) :
  wp (callT tab qU n (.fn 73 [] []) [tv, .int .i64 i, .int .i64 op] h) fun v h' => HS g h' (StC v (jq st i op) :: R) := by
 (refine qt (g := W73) rfl (by omega) fun k hk => ?_; show wp (S73 (callT tab qU k) _ _ _ _) _; unfold S73; try simp only [iI, uU, Int.ofNat_eq_natCast])
 refine zl [] (fun s h' => ∃ v, s = (.int .i64 op, .int .i64 i, v, ()) ∧ HS g h' (StC v (if 0 < jR op then st.dropLast else st) :: R)) ?_ ?_
 ·intro j hj
  refine qx (QD (by omega)) ?_
  rintro _ h ⟨rfl, rfl⟩
  by_cases h1 : 0 < jR op
  ·have hne := hs h1
   have hl0 : st.length ≠ 0 := fun h => hne (List.eq_nil_of_length_eq_zero h)
   rw [if_pos h1] at hj
   refine xR h1 (qY ?_)
   refine zy (H.sl (e := 3) .here) ?_
   refine jT (by omega) ?_
   rw [show (st.length : Int) - ((1 : Nat) : Int) = ((st.length - 1 : Nat) : Int) by omega]
   refine kK H (by omega) (by omega) fun v H1 => ?_
   refine hj _ _ ⟨v, rfl, ?_⟩
   unfold StC
   rw [List.length_dropLast, List.dropLast_eq_take, List.map_take]
   rw [Nat.mul_one] at H1
   exact H1
  ·rw [if_neg h1] at hj
   refine xA h1 (qQ ?_)
   exact hj _ _ ⟨tv, rfl, H⟩
 clear H
 rintro s h1 ⟨v, rfl, H⟩
 unfold jq
 have hl2 : (if 0 < jR op then st.dropLast else st).length < 1000 := by
  split
  ·rw [List.length_dropLast]; omega
  ·exact hl
 generalize (if 0 < jR op then st.dropLast else st) = st at *
 dsimp only
 with_reducible (refine qV ?_; (try dsimp only))
 refine qx (Jh (by omega)) ?_
 rintro _ h1 ⟨rfl, rfl⟩
 have push : ∀ {K : AV → AH → Go.Ae.R} {Q : AV → AH → Prop}, (∀ v' h', HS g h' (StC v' (st ++ [i]) :: R) → wp (K v' h') Q) →
   wp (q8 h1 3 [.int .i64 ((0 : Nat) : Int)] 1 [(0, 1, .int .i64 i)] fun v15 h16 => jX h16 3 1 v v15 K) Q := by
  intro K Q w
  refine jw (n := 1) (l := [.int .i64 i]) (sz := 1) H rfl rfl rfl rfl fun v5 h5 H5 => ?_
  refine zr (H5.sel e_1) (H5.sl .here) (by omega) (by omega) rfl fun v6 h6 H6 => w v6 h6 ?_
  unfold StC
  rw [List.map_append, List.length_append]
  exact H6.sub (.cons .here (.drop .refl))
 cases hb : zG op
 ·by_cases h18 : op = 18
  ·rw [if_pos (.inr h18)]
   with_reducible (refine qV ?_; (try dsimp only); refine qS ?_; (try dsimp only); refine qH (by omega) ?_; refine qE ?_; refine qY ?_)
   exact push fun v' h' H' => qI (qk H')
  ·rw [if_neg (by simp; exact h18)]
   with_reducible (refine qV ?_; (try dsimp only); refine qS ?_; (try dsimp only); refine qG (by omega) ?_; refine qE ?_; refine qQ ?_; refine qI ?_)
   exact qk H
 ·rw [if_pos (.inl rfl)]
  with_reducible (refine qV ?_; (try dsimp only); refine qp ?_; (try dsimp only); refine qO ?_; refine qY ?_)
  exact push fun v' h' H' => qI (qk H')
theorem Qq {l : List qb} {i : Nat} {st : List Int} (hi : i < l.length) : goM l (l.drop i) i st = if jo l st l[i] = 0 then goM l (l.drop (i + 1)) (i + 1) (jq st i l[i].1) else .inl ((i : Int), jo l st l[i]) := by
 rw [List.drop_eq_getElem_cons hi]; rfl
theorem Yy {l : List qb} {i : Nat} {st : List Int} (hi : i < l.length) : xf (l.drop i) i st = jV st :: xf (l.drop (i + 1)) (i + 1) (jq st i l[i].1) := by
 rw [List.drop_eq_getElem_cons hi]; rfl
theorem kT {l : List qb} {a : List Int} {i : Nat} (hi : i < l.length) : wS l a (l.drop i) i = if wJ l a i l[i] then ((i : Int), 2) else wS l a (l.drop (i + 1)) (i + 1) := by
 rw [List.drop_eq_getElem_cons hi]; rfl
theorem wu {l : List qb} {i : Nat} (hi : i < l.length) : ((l.flatMap jW).drop (i * 5)).take 5 = jW l[i] := QK (sz := 5) (fun _ => rfl) (List.getElem?_eq_getElem hi)
theorem Qp {n : Nat} (hn : 3 ≤ n) {l : List qb} {st' : List Int} {sv : AV} (H : HS g h R) (S : Rd g R 5 l.length sv (l.flatMap jW)) (hg : goM l l 0 [] = .inr st') (hl : l.length ≤ 100) :
  wp (callT tab qU n (.fn 76 [] []) [.agg [sv]] h) fun v h' => HS g h' (qL 3 1 l.length v ((xf l 0 []).map (.int .i64)) :: R) := by
 (refine qt (g := W76) rfl (by omega) fun k hk => ?_; show wp (S76 (callT tab qU k) _ _) _; unfold S76; try simp only [iI, uU, Int.ofNat_eq_natCast])
 refine jJ H (xD (gJ (S.sl H))) fun b0 h1 H1 => ?_
 with_reducible (refine qK ?_; refine qz (by assumption) .here rfl ?_)
 refine zy (S.sl H1.drop) ?_
 refine G1 (n := l.length) H1 (by omega) fun ov h2 H2 => ?_
 with_reducible (refine qK ?_; refine qz (by assumption) e_1 rfl ?_)
 refine zy (S.sl H2.drop.drop) ?_
 refine jm (fun m s h' => ∃ (i : Nat) (st A : List Int) (tv : AV), s = (.int .i64 (i : Int), .int .i64 (l.length : Int), sv, tv, ov, ()) ∧ i ≤ l.length ∧ m = l.length - i ∧ StOk i st ∧ st.length ≤ i ∧ goM l (l.drop i) i st = .inr st' ∧ A.length = i ∧ xf l 0 [] = A ++ xf (l.drop i) i st ∧
  HS g h' (qL 3 1 l.length ov ((A ++ List.replicate (l.length - i) 0).map (.int .i64)) :: StC tv st :: R))
  ?_ (m := l.length) (by show _ < 1000000000; omega) ⟨0, [], [], .nils, rfl, by omega, by omega, StOk.nil, by simp, hg, rfl, rfl, by
   rw [List.nil_append, List.map_replicate]
   exact (H2.nils (e := 3) (sz := 1)).sub (.cons e_1 (.cons .here (.drop .refl)))⟩
 clear H H1 H2
 rintro m ih s h3 hih ⟨i, st, A, tv, rfl, hi, rfl, hs, hsl, hgo, hA, hR, H⟩
 dsimp only
 by_cases hlt : i < l.length
 ·rw [Qq hlt] at hgo
  rw [Yy hlt] at hR
  have hrow := wu hlt
  generalize l[i] = x at *
  by_cases hw : jo l st x = 0
  rotate_left
  ·rw [if_neg hw] at hgo; cases hgo
  rw [if_pos hw] at hgo
  have ho := zw hw
  with_reducible (refine zh (by omega) ?_; refine qY ?_)
  refine zu (S.sl H.drop.drop) hlt (by omega) hrow ?_
  refine jJ H rfl fun b h4 H4 => ?_
  refine jD H4 (b := b) .here rfl (by simp [jW]) rfl fun h5 H5 => ?_
  have H5 : HS g h5 (qa b (jW x) :: qL 3 1 l.length ov ((A ++ List.replicate (l.length - i) 0).map (.int .i64)) :: StC tv st :: R) := H5
  unfold jW at H5
  refine qx (kO (by omega) (H5.sl (e := 3) e_2) (by omega)) ?_
  rintro _ h5 ⟨rfl, rfl⟩
  refine vi (H5.sel e_1) (by omega) ⟨rfl, rfl⟩ fun h6 H6 => ?_
  have hset : ((A ++ List.replicate (l.length - i) 0).map (AV.int .i64)).set i (.int .i64 (jV st)) = ((A ++ [jV st]) ++ List.replicate (l.length - (i + 1)) 0).map (.int .i64) := by
   rw [← List.map_set]
   congr 1
   rw [List.set_append_right _ _ (by omega), hA, Nat.sub_self, show l.length - i = (l.length - (i + 1)) + 1 by omega, List.replicate_succ]
   simp
  rw [hset] at H6
  with_reducible (refine qK ?_; refine qz (by assumption) e_1 rfl ?_)
  refine qx (XJ (by omega) (H6.sub (L' := StC tv st :: qa b [.int .i64 x.1, .int .i64 x.2.1, .int .i64 x.2.2.1, .int .i64 x.2.2.2.1, .int .u64 x.2.2.2.2] :: qL 3 1 l.length ov (((A ++ [jV st]) ++ List.replicate (l.length - (i + 1)) 0).map (.int .i64)) :: R) (.cons e_2 (.cons e_1 (.cons .here .refl)))) (fun h => ho.2.1 (.inl h)) (by omega)) ?_
  intro tv2 h8 H8
  with_reducible (refine ql (by omega) ?_)
  have hbl := Xw st i x.1
  exact hih (l.length - (i + 1)) _ _ (by omega) ⟨i + 1, jq st i x.1, A ++ [jV st], tv2, rfl, by omega, rfl, hs.behind, by omega, hgo, by simp [hA], by rw [hR]; simp, H8.sub (.cons e_2 (.cons .here (.drop .refl)))⟩
 ·obtain rfl : i = l.length := by omega
  with_reducible (refine zC (by omega) ?_; refine qQ ?_; refine qI ?_)
  refine qk ?_
  rw [hR]
  rw [Nat.sub_self, List.replicate_zero, List.append_nil] at H
  rw [List.drop_length]
  show HS g h3 (qL _ 1 l.length ov ((A ++ []).map _) :: R)
  rw [List.append_nil]
  exact H.sub (.cons .here (.drop .refl))
theorem Nj {x : qb} (h : xn x = true) (hj : x.1 = 12 ∨ x.1 = 13) : 0 ≤ x.2.2.2.1 ∧ x.2.2.2.1 ≤ 40 := by
 have e : (jC x.1).2.2 = (0, 40) := by
  rcases hj with e | e <;> rw [e] <;> rfl
 unfold xn at h
 rw [e] at h
 simp only [Bool.and_eq_true, xm, decide_eq_true_eq] at h
 exact h.1.2
theorem MF {n : Nat} (hn : 2 ≤ n) {l : List qb} {a : List Int} {sv av : AV} (H : HS g h R) (S : Rd g R 5 l.length sv (l.flatMap jW)) (T : Rd g R 1 a.length av (a.map (.int .i64))) (ha : a.length = l.length) (hm : ∀ x ∈ l, xn x = true) (hl : l.length ≤ 100) :
  wp (callT tab qU n (.fn 75 [] []) [.agg [sv], av] h) fun v h' => v = .tup [.int .i64 (wS l a l 0).1, .int .i64 (wS l a l 0).2] ∧ HS g h' R := by
 (refine qt (g := W75) rfl (by omega) fun k hk => ?_; show wp (S75 (callT tab qU k) _ _ _) _; unfold S75; try simp only [iI, uU, Int.ofNat_eq_natCast])
 refine jJ H (xD (gJ (S.sl H))) fun b0 h1 H1 => ?_
 have hLV := (S.sl H).lenV
 clear H
 with_reducible (refine qK ?_; refine qz (by assumption) .here rfl ?_; refine xW (by assumption) ?_)
 refine jm (fun m s h' => ∃ i : Nat, s = (.int .i64 (i : Int), .int .i64 (l.length : Int), sv, .ptr b0 0, av, ()) ∧ i ≤ l.length ∧ m = l.length - i ∧ wS l a l 0 = wS l a (l.drop i) i ∧ HS g h' (qa b0 [sv] :: R))
  ?_ (m := l.length) (by show _ < 1000000000; omega) ⟨0, rfl, by omega, by omega, rfl, H1⟩
 clear H1
 rintro m ih s h2 hih ⟨i, rfl, hi, rfl, hJ, H⟩
 dsimp only
 by_cases hlt : i < l.length
 rotate_left
 ·obtain rfl : i = l.length := by omega
  rw [List.drop_length] at hJ
  rw [hJ]
  with_reducible (refine zC (by omega) ?_; refine qQ ?_; refine qI ?_)
  exact qk ⟨rfl, H.drop⟩
 rw [kT hlt] at hJ
 have hrow := wu hlt
 have hmx := hm l[i] (List.getElem_mem hlt)
 generalize l[i] = x at *
 obtain ⟨op, xa, xb, c, q⟩ := x
 unfold jW at hrow
 refine zh (by omega) (qY ?_)
 refine zl [] (fun s h' => s = (.int .i64 (i : Int), .int .i64 (l.length : Int), sv, .ptr b0 0, av, ()) ∧ ¬ wJ l a i (op, xa, xb, c, q) ∧ HS g h' (qa b0 [sv] :: R)) ?_ ?_
 rotate_left
 ·rintro s h3 ⟨rfl, hno, H3⟩
  rw [if_neg hno] at hJ
  with_reducible (refine ql (by omega) ?_)
  exact hih (l.length - (i + 1)) _ _ (by omega) ⟨i + 1, rfl, by omega, rfl, hJ, H3⟩
 intro j hj
 clear hih
 refine zu (S.sl H.drop) hlt (by omega) hrow ?_
 refine jJ H rfl fun b h4 H4 => ?_
 refine jD H4 (b := b) .here rfl (by simp) rfl fun h5 H5 => ?_
 have H5 : HS g h5 (qa b [.int .i64 op, .int .i64 xa, .int .i64 xb, .int .i64 c, .int .u64 q] :: qa b0 [sv] :: R) := H5
 clear H H4
 with_reducible (refine qK ?_; refine qz (by assumption) .here rfl ?_)
 refine qx (O6 (by omega)) ?_
 rintro _ h5 ⟨rfl, rfl⟩
 by_cases hjm : op = 12 ∨ op = 13
 rotate_left
 ·rw [decide_eq_false hjm]
  refine jc ?_; refine qY ?_
  exact hj _ _ ⟨rfl, fun h => hjm h.1, H5.drop⟩
 rw [decide_eq_true hjm]
 have hc := Nj hmx hjm
 dsimp only at hc
 obtain ⟨p, rfl⟩ : ∃ p : Nat, c = (p : Int) := ⟨c.toNat, by omega⟩
 have hcell : ∀ k : Nat, k < l.length → (a.map (AV.int .i64))[k]? = some (.int .i64 (qd a (k : Int))) := by
  intro k hk
  unfold qd
  rw [List.getElem?_map, show ((k : Int)).toNat = k by omega, List.getElem?_eq_getElem (by omega)]; rfl
 have Ta : Sl (fun _ => True) h5 1 a.length av (a.map (.int .i64)) := T.sl H5.drop.drop
 by_cases c1 : l.length < p
 ·rw [if_pos ⟨hjm, .inl (by dsimp only; omega)⟩] at hJ
  rw [hJ]
  with_reducible (refine jU ?_; refine qQ ?_; refine qK ?_; refine qz (by assumption) .here rfl ?_; refine qK ?_; refine qz (by assumption) e_1 rfl ?_; refine xW (by assumption) ?_; refine xR (by omega) ?_; refine qV ?_; (try dsimp only); refine qp ?_; (try dsimp only); refine qV ?_; (try dsimp only); refine jP ?_; (try dsimp only); refine qV ?_; (try dsimp only); refine qp ?_; (try dsimp only); refine qO ?_; refine qV ?_; (try dsimp only); refine qp ?_; (try dsimp only); refine qV ?_; (try dsimp only); refine jP ?_; (try dsimp only); refine qV ?_; (try dsimp only); refine qp ?_; (try dsimp only); refine qO ?_; refine qY ?_; refine qI ?_)
  exact qk ⟨rfl, H5.drop.drop⟩
 by_cases c2 : p = l.length
 ·subst c2
  with_reducible (refine jU ?_; refine qQ ?_; refine qK ?_; refine qz (by assumption) .here rfl ?_; refine qK ?_; refine qz (by assumption) e_1 rfl ?_; refine xW (by assumption) ?_; refine xA (by omega) ?_; refine qV ?_; (try dsimp only); refine qS ?_; (try dsimp only); refine qK ?_; refine qz (by assumption) .here rfl ?_; refine qK ?_; refine qz (by assumption) e_1 rfl ?_; refine xW (by assumption) ?_; refine qH (by omega) ?_; refine qV ?_; (try dsimp only); refine qi ?_; (try dsimp only))
  refine jn Ta (hcell i hlt) ?_
  by_cases c3 : qd a i = -1
  ·refine zZ (by rw [c3]; decide) ?_
   with_reducible (refine qV ?_; (try dsimp only); refine qS ?_; (try dsimp only); refine qO ?_; refine qE ?_; refine qV ?_; (try dsimp only); refine qS ?_; (try dsimp only); refine qK ?_; refine qz (by assumption) .here rfl ?_; refine qK ?_; refine qz (by assumption) e_1 rfl ?_; refine xW (by assumption) ?_; refine zC (by omega) ?_; refine qV ?_; (try dsimp only); refine qh ?_; (try dsimp only); refine qV ?_; (try dsimp only); refine qS ?_; (try dsimp only); refine qE ?_; refine qE ?_; refine qQ ?_)
   exact hj _ _ ⟨rfl, fun h => by
    rcases h.2 with h | h | h
    ·dsimp only at h; omega
    ·exact h.2 c3
    ·dsimp only at h; omega, H5.drop⟩
  ·refine zA (fun h => c3 (by rw [h]; decide)) ?_
   rw [if_pos ⟨hjm, .inr (.inl ⟨rfl, c3⟩)⟩] at hJ
   rw [hJ]
   with_reducible (refine qV ?_; (try dsimp only); refine qS ?_; (try dsimp only); refine qO ?_; refine qE ?_; refine qV ?_; (try dsimp only); refine qp ?_; (try dsimp only); refine qV ?_; (try dsimp only); refine jP ?_; (try dsimp only); refine qV ?_; (try dsimp only); refine qp ?_; (try dsimp only); refine qO ?_; refine qY ?_; refine qI ?_)
   exact qk ⟨rfl, H5.drop.drop⟩
 ·with_reducible (refine jU ?_; refine qQ ?_; refine qK ?_; refine qz (by assumption) .here rfl ?_; refine qK ?_; refine qz (by assumption) e_1 rfl ?_; refine xW (by assumption) ?_; refine xA (by omega) ?_; refine qV ?_; (try dsimp only); refine qS ?_; (try dsimp only); refine qK ?_; refine qz (by assumption) .here rfl ?_; refine qK ?_; refine qz (by assumption) e_1 rfl ?_; refine xW (by assumption) ?_; refine qG (by omega) ?_; refine qV ?_; (try dsimp only); refine qh ?_; (try dsimp only); refine qV ?_; (try dsimp only); refine qS ?_; (try dsimp only); refine qE ?_; refine qE ?_; refine qV ?_; (try dsimp only); refine qS ?_; (try dsimp only); refine qK ?_; refine qz (by assumption) .here rfl ?_; refine qK ?_; refine qz (by assumption) e_1 rfl ?_; refine xW (by assumption) ?_; refine zh (by omega) ?_; refine qV ?_; (try dsimp only); refine qi ?_; (try dsimp only); refine qK ?_; refine qz (by assumption) .here rfl ?_)
  refine jn Ta (hcell p (by omega)) ?_
  refine jn Ta (hcell i hlt) ?_
  by_cases c3 : qd a p = qd a i
  ·refine zZ c3 ?_
   with_reducible (refine qV ?_; (try dsimp only); refine qS ?_; (try dsimp only); refine qO ?_; refine qE ?_; refine qQ ?_)
   exact hj _ _ ⟨rfl, fun h => by
    rcases h.2 with h | h | h
    ·dsimp only at h; omega
    ·have := h.1; dsimp only at this; omega
    ·exact h.2 c3, H5.drop⟩
  ·refine zA c3 ?_
   rw [if_pos ⟨hjm, .inr (.inr ⟨by dsimp only; omega, c3⟩)⟩] at hJ
   rw [hJ]
   with_reducible (refine qV ?_; (try dsimp only); refine qS ?_; (try dsimp only); refine qO ?_; refine qE ?_; refine qY ?_; refine qI ?_)
   exact qk ⟨rfl, H5.drop.drop⟩
theorem Zi {l : List qb} : ∀ {r : List qb} {i : Nat} {st st' : List Int}, goM l r i st = .inr st' → ∀ x ∈ r, xn x = true := by
 intro r
 induction r with
 | nil => intro i st st' _ x hx; cases hx
 | cons y r ih =>
  intro i st st' h x hx
  rw [Qv] at h
  split at h
  ·rename_i hw
   rcases List.mem_cons.1 hx with rfl | hx
   ·exact (zw hw).1
   ·exact ih h x hx
  ·cases h
theorem qJl {l : List qb} : ∀ {r : List qb} {i : Nat} {st : List Int} {q : Int × Int}, goM l r i st = .inl q → q.2 ≠ 0 := by
 intro r
 induction r with
 | nil => intro i st q h; cases h
 | cons y r ih =>
  intro i st q h
  rw [Qv] at h
  split at h
  ·exact ih h
  ·rename_i hw
   cases h
   exact hw
theorem XK {l : List qb} (h : (xv l).2 = 0) : goM l l 0 [] = .inr [] := by
 unfold xv at h
 split at h
 ·cases h
 ·cases hg : goM l l 0 [] with
  | inl q =>
   rw [hg] at h
   exact absurd h (qJl hg)
  | inr st =>
   rw [hg] at h
   dsimp only at h
   split at h
   ·rename_i h0; rw [h0]
   ·cases h
theorem Yx {n : Nat} (hn : 6 ≤ n) {l : List qb} {sv : AV} (H : HS g h R) (S : Rd g R 5 l.length sv (l.flatMap jW)) (hl : l.length ≤ 100) :
  wp (callT tab qU n (.fn 37 [] []) [.agg [sv]] h) fun v h' => v = .tup [.int .i64 (xv l).1, .int .i64 (xv l).2] ∧ HS g h' R := by
 (refine qt (g := W37) rfl (by omega) fun k hk => ?_; show wp (S37 (callT tab qU k) _ _) _; unfold S37; try simp only [iI, uU, Int.ofNat_eq_natCast])
 refine jJ H (xD (gJ (S.sl H))) fun b0 h1 H1 => ?_
 have hLV := (S.sl H).lenV
 clear H
 have hC : xv l = if l.length = 0 ∨ 40 < l.length then (0, 4) else match goM l l 0 [] with
  | .inl r => r
  | .inr st => if st = [] then wS l (xf l 0 []) l 0 else (jV st, 12) := rfl
 generalize xv l = C at *
 with_reducible (refine qK ?_; refine qz (by assumption) .here rfl ?_; refine xW (by assumption) ?_)
 by_cases c0 : l.length = 0
 ·rw [if_pos (.inl c0)] at hC
  subst hC
  with_reducible (refine qH (by omega) ?_; refine qV ?_; (try dsimp only); refine qp ?_; (try dsimp only); refine qO ?_; refine qY ?_)
  exact qk ⟨rfl, H1.drop⟩
 by_cases c1 : 40 < l.length
 ·rw [if_pos (.inr c1)] at hC
  subst hC
  with_reducible (refine qG (by omega) ?_; refine qV ?_; (try dsimp only); refine qS ?_; (try dsimp only); refine qK ?_; refine qz (by assumption) .here rfl ?_; refine xW (by assumption) ?_; refine xR (by omega) ?_; refine qE ?_; refine qY ?_)
  exact qk ⟨rfl, H1.drop⟩
 rw [if_neg (by omega)] at hC
 with_reducible (refine qG (by omega) ?_; refine qV ?_; (try dsimp only); refine qS ?_; (try dsimp only); refine qK ?_; refine qz (by assumption) .here rfl ?_; refine xW (by assumption) ?_; refine xA (by omega) ?_; refine qE ?_; refine qQ ?_; refine qK ?_; refine qz (by assumption) .here rfl ?_; refine xW (by assumption) ?_)
 generalize hG : goM l l 0 [] = G at hC
 refine jm (fun m s h' => ∃ (i : Nat) (st : List Int) (tv : AV), s = (.int .i64 (i : Int), .int .i64 (l.length : Int), sv, tv, .ptr b0 0, ()) ∧ i ≤ l.length ∧ m = l.length - i ∧ StOk i st ∧ st.length ≤ i ∧ goM l (l.drop i) i st = G ∧ HS g h' (StC tv st :: qa b0 [sv] :: R))
  ?_ (m := l.length) (by show _ < 1000000000; omega) ⟨0, [], .nils, rfl, by omega, by omega, StOk.nil, by simp, hG, H1.nils (e := 3) (sz := 1)⟩
 clear H1
 rintro m ih s h2 hih ⟨i, st, tv, rfl, hi, rfl, hs, hsl, hgo, H⟩
 dsimp only
 by_cases hlt : i < l.length
 ·rw [Qq hlt] at hgo
  have hrow := wu hlt
  generalize l[i] = x at *
  with_reducible (refine zh (by omega) ?_; refine qY ?_)
  refine zu (S.sl H.drop.drop) hlt (by omega) hrow ?_
  refine jJ H rfl fun b h4 H4 => ?_
  refine jD H4 (b := b) .here rfl (by simp [jW]) rfl fun h5 H5 => ?_
  have H5 : HS g h5 (qa b (jW x) :: StC tv st :: qa b0 [sv] :: R) := H5
  clear H H4
  refine jj H5 (b := b0) (off := 0) e_2 rfl (by omega) rfl ?_
  refine jj H5 (b := b) (off := 0) .here rfl (by omega) rfl ?_
  refine qx (Vu (by omega) H5 S.more.more.more (Rd.own (e := 3) e_1) (fun y hy => by have := hs y hy; omega) (by omega)) ?_
  rintro _ h6 ⟨rfl, H6⟩
  by_cases hw : jo l st x = 0
  ·rw [if_pos hw] at hgo
   have ho := zw hw
   refine zZ hw ?_
   unfold jW at H6
   with_reducible (refine qQ ?_; refine qK ?_; refine qz (by assumption) .here rfl ?_)
   refine qx (XJ (by omega) (H6.sel e_1) (fun h => ho.2.1 (.inl h)) (by omega)) ?_
   intro tv2 h8 H8
   have hbl := Xw st i x.1
   with_reducible (refine ql (by omega) ?_)
   exact hih (l.length - (i + 1)) _ _ (by omega) ⟨i + 1, jq st i x.1, tv2, rfl, by omega, rfl, hs.behind, by omega, hgo, H8.sub (.cons .here (.drop .refl))⟩
  ·rw [if_neg hw] at hgo
   subst hgo
   rw [hC]
   refine zA hw ?_
   refine qY ?_; refine qI ?_
   exact qk ⟨rfl, H6.drop.drop.drop⟩
 ·obtain rfl : i = l.length := by omega
  rw [List.drop_length] at hgo
  have hgo : (Sum.inr st : (Int × Int) ⊕ List Int) = G := hgo
  subst hgo
  dsimp only at hC
  refine zC (by omega) (qQ ?_)
  refine zy (H.sl (e := 3) .here) ?_
  by_cases h0 : st = []
  ·subst h0
   rw [if_pos rfl] at hC
   rw [show ([] : List Int).length = 0 from rfl]
   with_reducible (refine xA (by omega) ?_; refine qQ ?_; refine qV ?_; (try dsimp only))
   refine jj H (b := b0) (off := 0) e_1 rfl (by omega) rfl ?_
   refine jj H (b := b0) (off := 0) e_1 rfl (by omega) rfl ?_
   refine qx (Qp (by omega) H S.more.more hG hl) ?_
   intro av h3 H3
   refine qx (MF (a := xf l 0 []) (by omega) H3 S.more.more.more (by rw [J5]; exact Rd.own .here) J5 (Zi hG) hl) ?_
   rintro _ h4 ⟨rfl, H4⟩
   rw [← hC]
   with_reducible (refine qc rfl ?_; refine qc rfl ?_)
   refine zi H (b := b0) e_1 rfl H3 e_2 rfl rfl (by omega) (HS.lt H e_1) ?_
   refine qI ?_
   exact qk ⟨rfl, H4.drop.drop.drop⟩
  ·rw [if_neg h0] at hC
   subst hC
   have hl0 : st.length ≠ 0 := fun h => h0 (List.eq_nil_of_length_eq_zero h)
   with_reducible (refine xR (by omega) ?_; refine qY ?_)
   refine qx (kO (by omega) (H.sl (e := 3) .here) (by omega)) ?_
   rintro _ h3 ⟨rfl, rfl⟩
   refine qI ?_
   exact qk ⟨rfl, H.drop.drop⟩
theorem qXO {l : List qb} {st' : List Int} (hg : goM l l 0 [] = .inr st') {i : Nat} (hi : i < l.length) (ho : 0 < jR l[i].1 ∨ l[i].1 = 16) : ∃ p : Nat, (xf l 0 [])[i]? = some (p : Int) ∧ p < l.length := by
 obtain ⟨s, h1, h2⟩ := Nq (r := l) (i := 0) (j := i) (st := []) hi
 obtain ⟨h3, h4⟩ := h2 hg StOk.nil
 have hw := h4 l[i] (List.getElem?_eq_getElem hi)
 have hne := (zw hw).2.1 ho
 have hin := h3.inmost hne
 refine ⟨(jV s).toNat, ?_, by omega⟩
 rw [h1]
 congr 1
 omega
end Go.Proofs.YtdlfmpmpmkffjaaGreatDoor
namespace Go.Proofs.YtdlfmpmpmkffjaaGreatDoor
open Go Go.Ae
set_option maxRecDepth 100000
variable {g h : AH} {L R : List SP}
theorem Sel.app {A A' : List SP} {P : SP} (s : Sel A P A') (R : List SP) : Sel (A ++ R) P (A' ++ R) := by
 induction s with
 | here => exact .here
 | there s ih => exact .there ih
theorem HS.allSel {A A' : List SP} {P : SP} (s : Sel A P A') (H : HS g h (.all A :: R)) : HS g h (P :: .all A' :: R) := by
 have H1 := (H.allE).sel (Sel.app s R)
 have H2 := HS.allI (HS.back (A := A') H1)
 exact H2.sub (.cons e_1 (.refl))
theorem HS.allUn {A A' : List SP} {P : SP} (s : Sel A P A') (H : HS g h (P :: .all A' :: R)) : HS g h (.all A :: R) := by
 have H1 : HS g h (.all A' :: P :: R) := H.sub (.cons e_1 (.refl))
 have H2 := (H1.allE).sel (Sel.skip A' .here)
 exact HS.allI (HS.unsel (Sel.app s R) H2)
def RlC (p : AV × AV) (x : LvM) : SP := .all [qL 67 2 x.1.length p.1 (x.1.flatMap js), qL 3 1 x.2.length p.2 (x.2.map (.int .i64))]
theorem RlC.E {p : AV × AV} {x : LvM} (H : HS g h (RlC p x :: R)) : HS g h (qL 67 2 x.1.length p.1 (x.1.flatMap js) :: qL 3 1 x.2.length p.2 (x.2.map (.int .i64)) :: R) := H.allE
theorem RlC.I {p : AV × AV} {x : LvM} (H : HS g h (qL 67 2 x.1.length p.1 (x.1.flatMap js) :: qL 3 1 x.2.length p.2 (x.2.map (.int .i64)) :: R)) : HS g h (RlC p x :: R) := H.allI
def yL (ps : List (AV × AV)) : List AV := ps.reverse.flatMap fun p => [p.1, p.2]
theorem Q6 (p : AV × AV) (ps : List (AV × AV)) : yL (p :: ps) = yL ps ++ [p.1, p.2] := by unfold yL; rw [List.reverse_cons, List.flatMap_append]; rfl
def RgC (q most : Nat) (lv : List LvM) : SP := .ex fun v => .ex fun ps : List (AV × AV) => .all [.pur (ps.length = lv.length), qa q [.int .i64 (most : Int), v], qL 63 2 lv.length v (yL ps), .all (List.zipWith RlC ps lv)]
theorem RgC.E {q most : Nat} {lv : List LvM} (H : HS g h (RgC q most lv :: R)) : ∃ v ps, ps.length = lv.length ∧ HS g h (qa q [.int .i64 (most : Int), v] :: qL 63 2 lv.length v (yL ps) :: .all (List.zipWith RlC ps lv) :: R) := by
 obtain ⟨v, H⟩ := H.exE
 obtain ⟨ps, H⟩ := H.exE
 obtain ⟨e, H⟩ := HS.purE (H.allE)
 exact ⟨v, ps, e, H⟩
theorem RgC.I {q most : Nat} {lv : List LvM} {v : AV} {ps : List (AV × AV)} (e : ps.length = lv.length) (H : HS g h (qa q [.int .i64 (most : Int), v] :: qL 63 2 lv.length v (yL ps) :: .all (List.zipWith RlC ps lv) :: R)) : HS g h (RgC q most lv :: R) :=
 HS.exI v (HS.exI ps (HS.allI (HS.purI e H)))
theorem RgC.E1 {q most : Nat} {x : LvM} {r : List LvM} (H : HS g h (RgC q most (x :: r) :: R)) : ∃ (v : AV) (p : AV × AV) (ps : List (AV × AV)), ps.length = r.length ∧ HS g h (qa q [.int .i64 (most : Int), v] :: qL 63 2 (ps.length + 1) v (yL ps ++ [p.1, p.2]) ::
  qL 67 2 x.1.length p.1 (x.1.flatMap js) :: qL 3 1 x.2.length p.2 (x.2.map (.int .i64)) :: .all (List.zipWith RlC ps r) :: R) := by
 obtain ⟨v, ps, e, H⟩ := RgC.E H
 cases ps with
 | nil => simp at e
 | cons p ps =>
  have e' : ps.length = r.length := by simpa using e
  refine ⟨v, p, ps, e', ?_⟩
  rw [Q6] at H
  have H1 : HS g h (.all (RlC p x :: List.zipWith RlC ps r) :: qa q [.int .i64 (most : Int), v] :: qL 63 2 (r.length + 1) v (yL ps ++ [p.1, p.2]) :: R) := H.sub (.cons e_2 .refl)
  have H2 := RlC.E (HS.allSel .here H1)
  rw [e']
  exact H2.sub (.cons e_3 (.cons e_3 (.refl)))
theorem RgC.I1 {q most : Nat} {x : LvM} {r : List LvM} {v : AV} {p : AV × AV} {ps : List (AV × AV)} (e : ps.length = r.length) (H : HS g h (qa q [.int .i64 (most : Int), v] :: qL 63 2 (ps.length + 1) v (yL ps ++ [p.1, p.2]) ::
  qL 67 2 x.1.length p.1 (x.1.flatMap js) :: qL 3 1 x.2.length p.2 (x.2.map (.int .i64)) :: .all (List.zipWith RlC ps r) :: R)) : HS g h (RgC q most (x :: r) :: R) := by
 refine RgC.I (v := v) (ps := p :: ps) (by simp [e]) ?_
 rw [Q6]
 have H1 := RlC.I (p := p) (x := x) (R := .all (List.zipWith RlC ps r) :: qa q [.int .i64 (most : Int), v] :: qL 63 2 (ps.length + 1) v (yL ps ++ [p.1, p.2]) :: R) (H.sub (.cons e_2 (.cons e_2 (.cons e_2 (.refl)))))
 have H2 := HS.allUn (A := RlC p x :: List.zipWith RlC ps r) .here H1
 show HS g h (_ :: qL 63 2 (r.length + 1) v _ :: .all (RlC p x :: List.zipWith RlC ps r) :: R)
 rw [← e]
 exact H2.sub (.cons e_1 (.cons e_1 (.cons .here .refl)))
end Go.Proofs.YtdlfmpmpmkffjaaGreatDoor
namespace Go.Proofs.YtdlfmpmpmkffjaaGreatDoor
open Go Go.Ae
set_option maxRecDepth 100000
variable {g h : AH} {L R : List SP}
def frS (lv : List LvM) : Nat := (lv.map fun x => x.2.length).sum
theorem vT (x : LvM) (r : List LvM) : frS (x :: r) = x.2.length + frS r := by simp [frS]
theorem NS {x y : LvM} {r : List LvM} : frS (wA (x :: y :: r)).2 = frS (x :: y :: r) := by
 unfold frS wA
 simp
 omega
def RvC (o : Nat) (M : VM) : SP := .ex fun kv => .ex fun q => .all [qa o [.int .i64 (M.sz : Int), kv, .ptr q 0, .int .i64 M.need], qL 67 2 M.K.length kv (M.K.flatMap js), RgC q M.most M.lv]
theorem RvC.E {o : Nat} {M : VM} (H : HS g h (RvC o M :: R)) : ∃ kv q, HS g h (qa o [.int .i64 (M.sz : Int), kv, .ptr q 0, .int .i64 M.need] :: qL 67 2 M.K.length kv (M.K.flatMap js) :: RgC q M.most M.lv :: R) := by
 obtain ⟨kv, H⟩ := H.exE
 obtain ⟨q, H⟩ := H.exE
 exact ⟨kv, q, H.allE⟩
theorem RvC.I {o : Nat} {M : VM} {kv : AV} {q : Nat} (H : HS g h (qa o [.int .i64 (M.sz : Int), kv, .ptr q 0, .int .i64 M.need] :: qL 67 2 M.K.length kv (M.K.flatMap js) :: RgC q M.most M.lv :: R)) : HS g h (RvC o M :: R) :=
 HS.exI kv (HS.exI q (HS.allI H))
end Go.Proofs.YtdlfmpmpmkffjaaGreatDoor
