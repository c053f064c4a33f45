/- Lemmas for 'quietus/quietuslaw20.TreeNeeds': What a transaction knows and writes, as plain data: cells, levels, views; Write sets: by the program; Levels of cells and frees: by the program; Views: by the program; Views: by the documents own text; Views: by the documents own text: copies, kept levels, the views; Blocks of words: by the program; Blocks of words: by the documents own text; Numbers brought into bounds; Are two lists of numbers the same?; Are two lists of words the same?; Are two lists of cells the same?; An ask on both; what both show; What a containers call does on a draft of a view: the plain law; A drafts own calls: the walks; ArenaPlays comes to true for every argument: its own walk; ArenaFull comes to true for every argument: its own walk. No condition. -/
import Derived.Test.YtpohfcljfemhlaaGreatTreeNeedsAe7
import Derived.Test.YtpohfcljfemhlaaGreatTreeNeedsT
import Derived.KernelRfl
namespace Go.Proofs.YtpohfcljfemhlaaGreat
open Go Go.Ae
abbrev Cl : Type := Int × Int
def jO (c : Int × Int) : List AV := [.int .i64 c.1, .int .u64 c.2]
def QE (p : Int) : List Cl → Option Nat
  | [] => none
  | c :: l => if c.1 = p then some 0 else (QE p l).map (· + 1)
def jF (p : Int) : List Cl → Option Int
  | [] => none
  | c :: l => if c.1 = p then some c.2 else jF p l
def zo (p v : Int) : List Cl → List Cl
  | [] => [(p, v)]
  | c :: l => if c.1 = p then (p, v) :: l else c :: zo p v l
def zy (l cs : List Cl) : List Cl := cs.foldl (fun l c => zo c.1 c.2 l) l
theorem Yn {p : Int} {l : List Cl} : QE p l = none ↔ jF p l = none := by
  induction l with
  | nil => simp [QE, jF]
  | cons c l ih =>
    unfold QE jF
    split
    · simp
    · simp [ih]
theorem GF {p : Int} : ∀ {l : List Cl} {i : Nat}, QE p l = some i → i < l.length ∧ (∃ x, l[i]? = some (p, x) ∧ jF p l = some x) ∧ ∀ v, zo p v l = l.set i (p, v) := by
  intro l
  induction l with
  | nil => intro i h; cases h
  | cons c l ih =>
    intro i h
    unfold QE at h
    unfold jF
    split at h
    · rename_i hc
      cases h
      rw [if_pos hc]
      refine ⟨by simp, ⟨c.2, by rw [← hc]; rfl, rfl⟩, fun v => ?_⟩
      unfold zo
      rw [if_pos hc]; rfl
    · rename_i hc
      rw [if_neg hc]
      cases hi : QE p l with
      | none => rw [hi] at h; cases h
      | some j =>
        rw [hi] at h
        cases h
        obtain ⟨h1, ⟨x, h2, h2'⟩, h3⟩ := ih hi
        refine ⟨by simp; omega, ⟨x, by simpa using h2, h2'⟩, fun v => ?_⟩
        unfold zo
        rw [if_neg hc, h3]; rfl
theorem wM {p v : Int} {l : List Cl} (h : jF p l = none) : zo p v l = l ++ [(p, v)] := by
  induction l with
  | nil => rfl
  | cons c l ih =>
    unfold jF at h
    split at h
    · cases h
    · rename_i hc
      unfold zo
      rw [if_neg hc, ih h]; rfl
theorem Vk {p : Int} : ∀ {l : List Cl} {i : Nat}, i < l.length → (∀ j, j < i → ∀ c, l[j]? = some c → c.1 ≠ p) → (∃ x, l[i]? = some (p, x)) → QE p l = some i := by
  intro l
  induction l with
  | nil => intro i h; simp at h
  | cons c l ih =>
    intro i hi h1 ⟨x, h2⟩
    unfold QE
    cases i with
    | zero =>
      simp at h2
      rw [if_pos (by rw [h2])]
    | succ i =>
      rw [if_neg (h1 0 (by omega) c rfl), ih (by simpa using hi) (fun j hj c' hc' => h1 (j + 1) (by omega) c' (by simpa using hc')) ⟨x, by simpa using h2⟩]; rfl
theorem ZN {p : Int} : ∀ {l : List Cl}, (∀ c ∈ l, c.1 ≠ p) → QE p l = none := by
  intro l
  induction l with
  | nil => intro _; rfl
  | cons c l ih =>
    intro h
    unfold QE
    rw [if_neg (h c (List.mem_cons_self ..)), ih fun c' hc' => h c' (List.mem_cons_of_mem _ hc')]; rfl
theorem kA {p v : Int} {l : List Cl} : (zo p v l).length = if jF p l = none then l.length + 1 else l.length := by
  induction l with
  | nil => simp [zo, jF]
  | cons c l ih =>
    unfold zo jF
    split
    · simp
    · rw [List.length_cons, ih]
      split <;> simp
theorem Jv {p q v : Int} {l : List Cl} : jF q (zo p v l) = if q = p then some v else jF q l := by
  induction l with
  | nil =>
    simp only [zo, jF]
    by_cases h : p = q
    · simp [h]
    · rw [if_neg h, if_neg (fun h' => h h'.symm)]
  | cons c l ih =>
    unfold zo
    split
    · rename_i hc
      simp only [jF]
      by_cases h : p = q
      · simp [h]
      · rw [if_neg h, if_neg (fun h' => h h'.symm), if_neg (by rw [hc]; exact h)]
    · rename_i hc
      simp only [jF, ih]
      by_cases h : c.1 = q
      · rw [if_pos h, if_pos h, if_neg (by rintro rfl; exact hc h)]
      · rw [if_neg h, if_neg h]
def InC (l : List Cl) : Prop := ∀ c ∈ l, 1 ≤ c.1 ∧ c.1 < 256
theorem InC.put {l : List Cl} {p v : Int} (h : InC l) (hp : 1 ≤ p ∧ p < 256) : InC (zo p v l) := by
  induction l with
  | nil => intro c hc; simp [zo] at hc; subst hc; exact hp
  | cons a l ih =>
    unfold zo
    split
    · intro c hc
      rcases List.mem_cons.1 hc with rfl | hc
      · exact hp
      · exact h c (List.mem_cons_of_mem _ hc)
    · intro c hc
      rcases List.mem_cons.1 hc with rfl | hc
      · exact h _ (List.mem_cons_self ..)
      · exact ih (fun c hc => h c (List.mem_cons_of_mem _ hc)) c hc
def UnC (l : List Cl) : Prop := (l.map (·.1)).Nodup
theorem kL {p : Int} {l : List Cl} : jF p l = none ↔ p ∉ l.map (·.1) := by
  induction l with
  | nil => simp [jF]
  | cons c l ih =>
    unfold jF
    split
    · rename_i h; simp [h]
    · rename_i h
      rw [ih, List.map_cons, List.mem_cons, not_or]
      exact ⟨fun h' => ⟨fun h2 => h h2.symm, h'⟩, fun h' => h'.2⟩
theorem Nk {p v : Int} {l : List Cl} : (zo p v l).map (·.1) = if jF p l = none then l.map (·.1) ++ [p] else l.map (·.1) := by
  induction l with
  | nil => simp [zo, jF]
  | cons c l ih =>
    unfold zo jF
    split
    · rename_i h; simp [h]
    · rw [List.map_cons, ih]
      split <;> simp
theorem UnC.put {l : List Cl} {p v : Int} (h : UnC l) : UnC (zo p v l) := by
  unfold UnC
  rw [Nk]
  split
  · rename_i hp
    rw [kL] at hp
    rw [List.nodup_append]
    exact ⟨h, by simp, fun a ha b hb => by rw [List.mem_singleton] at hb; subst hb; rintro rfl; exact hp ha⟩
  · exact h
theorem YH {l : List Cl} : ∀ {cs : List Cl}, UnC cs → (∀ c ∈ cs, jF c.1 l = none) → zy l cs = l ++ cs := by
  intro cs
  induction cs generalizing l with
  | nil => intro _ _; simp [zy]
  | cons c cs ih =>
    intro hu hn
    have hu' : UnC cs := (List.nodup_cons.1 hu).2
    have hc : c.1 ∉ cs.map (·.1) := (List.nodup_cons.1 hu).1
    show zy (zo c.1 c.2 l) cs = _
    rw [ih hu' (fun d hd => by
      rw [Jv, if_neg (by rintro h; exact hc (by rw [← h]; exact List.mem_map_of_mem hd))]
      exact hn d (List.mem_cons_of_mem _ hd)), wM (hn c (List.mem_cons_self ..)), List.append_assoc]
    rfl
theorem Gq {cs : List Cl} (h : UnC cs) : zy [] cs = cs := by rw [YH h (fun _ _ => rfl), List.nil_append]
def Qz (m : Nat) (l : List Cl) (p v : Int) : Int × List Cl :=
  if p < 1 ∨ 256 ≤ p then (2, l) else if jF p l = none ∧ m ≤ l.length then (5, l) else (0, zo p v l)
def kX (m : Nat) (l : List Cl) : List Cl → Int × List Cl
  | [] => (0, l)
  | c :: cs => if (Qz m l c.1 c.2).1 = 0 then kX m (Qz m l c.1 c.2).2 cs else Qz m l c.1 c.2
theorem Vi {m : Nat} {l : List Cl} {c : Cl} {cs : List Cl} : kX m l (c :: cs) = if (Qz m l c.1 c.2).1 = 0 then kX m (Qz m l c.1 c.2).2 cs else Qz m l c.1 c.2 := rfl
theorem YW {m : Nat} : ∀ {cs l : List Cl}, InC cs → l.length + cs.length ≤ m → kX m l cs = (0, zy l cs) := by
  intro cs
  induction cs with
  | nil => intro l _ _; rfl
  | cons c cs ih =>
    intro l hi hl
    have hc := hi c (List.mem_cons_self ..)
    have hp : Qz m l c.1 c.2 = (0, zo c.1 c.2 l) := by
      unfold Qz
      rw [if_neg (by omega), if_neg (by simp at hl; omega)]
    unfold kX
    rw [hp, if_pos rfl, ih (fun d hd => hi d (List.mem_cons_of_mem _ hd)) (by
      have := kA (p := c.1) (v := c.2) (l := l)
      simp at hl
      show (zo c.1 c.2 l).length + cs.length ≤ m
      split at this <;> omega)]
    rfl
abbrev LvM : Type := List Cl × List Int
def kF (p : Int) : List LvM → Option Int
  | [] => none
  | x :: r => match jF p x.1 with | some v => some v | none => kF p r
def xK (lv : List LvM) : Nat := (lv.map fun x => x.1.length).sum
def jY (lv : List LvM) : List Cl := lv.foldl (fun out x => zy x.1 out) []
def zE (lv : List LvM) : List Int := lv.reverse.flatMap (·.2)
structure OkL (most : Nat) (lv : List LvM) : Prop where
  held : xK lv ≤ most
  le : most ≤ 96
  ins : ∀ x ∈ lv, InC x.1
  un : ∀ x ∈ lv, UnC x.1
  one : 1 ≤ lv.length
  deep : lv.length ≤ 6
def vP (most : Nat) (lv : List LvM) (p v : Int) : Int × List LvM :=
  match lv with
  | [] => (0, [])
  | x :: r => if p < 1 ∨ 256 ≤ p then (2, lv) else if jF p x.1 = none ∧ most ≤ xK lv then (5, lv) else (0, (zo p v x.1, x.2) :: r)
def x5 (most : Nat) (was lv : List LvM) : List Cl → Int × List LvM
  | [] => (0, lv)
  | c :: cs => if (vP most lv c.1 c.2).1 = 0 then x5 most was (vP most lv c.1 c.2).2 cs else ((vP most lv c.1 c.2).1, was)
def JK (lv : List LvM) : Int × List LvM := if lv.length = 1 then (10, lv) else (0, lv.tail)
def Qv (lv : List LvM) (b : Int) : List LvM := match lv with
  | x :: r => (x.1, x.2 ++ [b]) :: r
  | [] => []
theorem yu {most : Nat} {was lv : List LvM} {c : Cl} {cs : List Cl} : x5 most was lv (c :: cs) = if (vP most lv c.1 c.2).1 = 0 then x5 most was (vP most lv c.1 c.2).2 cs else ((vP most lv c.1 c.2).1, was) := rfl
theorem xj {x : LvM} {r : List LvM} : xK (x :: r) = x.1.length + xK r := by simp [xK]
theorem Kj {most : Nat} {lv : List LvM} {p v : Int} (O : OkL most lv) : OkL most (vP most lv p v).2 ∧ (vP most lv p v).2.length = lv.length := by
  cases lv with
  | nil => have := O.one; simp at this
  | cons x r =>
    unfold vP
    dsimp only
    split
    · exact ⟨O, rfl⟩
    · rename_i hp
      split
      · exact ⟨O, rfl⟩
      · rename_i h1
        have hh := O.held
        rw [xj] at hh
        refine ⟨⟨?_, O.le, ?_, ?_, by simp, O.deep⟩, rfl⟩
        · show xK ((zo p v x.1, x.2) :: r) ≤ most
          rw [xj, kA]
          split
          · rename_i h2
            rw [xj] at h1
            have : ¬ most ≤ x.1.length + xK r := fun h3 => h1 ⟨h2, h3⟩
            omega
          · exact hh
        · intro y hy
          rcases List.mem_cons.1 hy with rfl | hy
          · exact (O.ins x (List.mem_cons_self ..)).put (by omega)
          · exact O.ins y (List.mem_cons_of_mem _ hy)
        · intro y hy
          rcases List.mem_cons.1 hy with rfl | hy
          · exact (O.un x (List.mem_cons_self ..)).put
          · exact O.un y (List.mem_cons_of_mem _ hy)
theorem Of {most : Nat} {was : List LvM} (W : OkL most was) : ∀ {cs : List Cl} {lv : List LvM}, OkL most lv → lv.length = was.length → OkL most (x5 most was lv cs).2 ∧ (x5 most was lv cs).2.length = was.length := by
  intro cs
  induction cs with
  | nil => intro lv O hl; exact ⟨O, hl⟩
  | cons c cs ih =>
    intro lv O hl
    unfold x5
    split
    · exact ih (Kj O).1 ((Kj O).2.trans hl)
    · exact ⟨W, rfl⟩
theorem qQ2 {most : Nat} {lv : List LvM} (O : OkL most lv) : OkL most (JK lv).2 := by
  unfold JK
  split
  · exact O
  · rename_i h1
    cases lv with
    | nil => have := O.one; simp at this
    | cons x r =>
      have hh := O.held
      have h2 := O.deep
      rw [xj] at hh
      simp at h1 h2
      refine ⟨by show xK r ≤ most; omega, O.le, fun y hy => O.ins y (List.mem_cons_of_mem _ hy), fun y hy => O.un y (List.mem_cons_of_mem _ hy), ?_, by show r.length ≤ 6; omega⟩
      show 1 ≤ r.length
      cases r with
      | nil => simp at h1
      | cons _ _ => simp
theorem JV : ∀ {cs l : List Cl}, (zy l cs).length ≤ l.length + cs.length := by
  intro cs
  induction cs with
  | nil => intro l; exact Nat.le_refl _
  | cons c cs ih =>
    intro l
    have := ih (l := zo c.1 c.2 l)
    have h2 := kA (p := c.1) (v := c.2) (l := l)
    show (zy (zo c.1 c.2 l) cs).length ≤ _
    rw [List.length_cons]
    split at h2 <;> omega
theorem InC.puts : ∀ {cs l : List Cl}, InC l → InC cs → InC (zy l cs) := by
  intro cs
  induction cs with
  | nil => intro l h _; exact h
  | cons c cs ih => intro l h hc; exact ih (h.put (hc c (List.mem_cons_self ..))) fun d hd => hc d (List.mem_cons_of_mem _ hd)
theorem UnC.puts : ∀ {cs l : List Cl}, UnC l → UnC (zy l cs) := by
  intro cs
  induction cs with
  | nil => intro l h; exact h
  | cons c cs ih => intro l h; exact ih h.put
theorem qQE {most : Nat} {lv : List LvM} {b : Int} (O : OkL most lv) : OkL most (Qv lv b) := by
  cases lv with
  | nil => exact O
  | cons x r =>
    refine ⟨O.held, O.le, ?_, ?_, by simp [Qv], O.deep⟩
    · intro z hz
      rcases List.mem_cons.1 hz with rfl | hz
      · exact O.ins x (by simp)
      · exact O.ins z (by simp [hz])
    · intro z hz
      rcases List.mem_cons.1 hz with rfl | hz
      · exact O.un x (by simp)
      · exact O.un z (by simp [hz])
end Go.Proofs.YtpohfcljfemhlaaGreat
namespace Go.Proofs.YtpohfcljfemhlaaGreat
open Go Go.Ae
set_option maxRecDepth 100000
variable {g h : AH} {L R : List SP}
def WrC (w m : Nat) (l : List Cl) : SP := .ex fun v => .all [qg w [.int .i64 (m : Int), v], qS 48 2 l.length v (l.flatMap jO)]
theorem WrC.E {w m : Nat} {l : List Cl} (H : HS g h (WrC w m l :: R)) : ∃ v, HS g h (qg w [.int .i64 (m : Int), v] :: qS 48 2 l.length v (l.flatMap jO) :: R) := by
  obtain ⟨v, H⟩ := H.exE
  exact ⟨v, H.allE⟩
theorem WrC.I {w m : Nat} {l : List Cl} {v : AV} (H : HS g h (qg w [.int .i64 (m : Int), v] :: qS 48 2 l.length v (l.flatMap jO) :: R)) : HS g h (WrC w m l :: R) :=
  HS.exI v (HS.allI H)
theorem Uo (l : List Cl) : zK (l.flatMap jO) = true := by
  unfold zK
  rw [List.all_eq_true]
  intro v hv
  obtain ⟨c, _, hc⟩ := List.mem_flatMap.1 hv
  simp [jO] at hc
  rcases hc with rfl | rfl <;> rfl
theorem Jk {l : List Cl} {i : Nat} {c : Cl} (h : l[i]? = some c) : ((l.flatMap jO).drop (i * 2)).take 2 = jO c := by
  obtain ⟨hi, e⟩ := List.getElem?_eq_some_iff.1 h
  rw [xU (sz := 2) jO (fun _ => rfl), List.drop_eq_getElem_cons hi, e, List.flatMap_cons]; rfl
theorem Zu {l : List Cl} {i : Nat} {p x v : Int} (h : l[i]? = some (p, x)) : (l.flatMap jO).set (i * 2 + 1) (.int .u64 v) = (l.set i (p, v)).flatMap jO := by
  have hi := (List.getElem?_eq_some_iff.1 h).1
  apply List.ext_getElem?
  intro j
  have hd : j = j / 2 * 2 + j % 2 := by omega
  have hm : j % 2 < 2 := by omega
  rw [List.getElem?_set, gw (sz := 2) jO (fun _ => rfl)]
  have e1 := yT (sz := 2) jO (fun _ => rfl) l (j / 2) (j % 2) hm
  have e2 := yT (sz := 2) jO (fun _ => rfl) (l.set i (p, v)) (j / 2) (j % 2) hm
  rw [← hd] at e1 e2
  rw [e1, e2, List.getElem?_set]
  by_cases h1 : i * 2 + 1 = j
  · have : j / 2 = i := by omega
    have h3 : j % 2 = 1 := by omega
    rw [if_pos h1, if_pos (by omega), if_pos this.symm, if_pos hi, h3]; rfl
  · rw [if_neg h1]
    by_cases h2 : i = j / 2
    · have h3 : j % 2 = 0 := by omega
      rw [if_pos h2, if_pos hi, h3, ← h2, h]; rfl
    · rw [if_neg h2]
def zI (o : Option Nat) : Int := match o with | some i => (i : Int) | none => -1
theorem Kx {n : Nat} (hn : 1 ≤ n) {m : Nat} (hm : m ≤ 96) (H : HS g h R) : wp (qw tab qI n (.fn 76 [] []) [.int .i64 (m : Int)] h) fun v h' => ∃ w, v = .ptr w 0 ∧ HS g h' (WrC w m [] :: R) := by
  (refine qc (g := W76) rfl (by omega) fun k hk => ?_; show wp (S76 (qw tab qI k) _ _) _; unfold S76; try simp only [iI, uU, Int.ofNat_eq_natCast])
  refine y3 (yH (ql rfl (jx H rfl fun w h2 H2 => qz ⟨w, rfl, ?_⟩)))
  rw [show max ((0 : Nat) : Int) (min (m : Int) ((96 : Nat) : Int)) = (m : Int) by omega] at H2
  exact WrC.I ((H2.nils (e := 48) (sz := 2)).sel (P := qg w [.int .i64 (m : Int), .nils]) e_1 :)
theorem OC {n : Nat} (hn : 2 ≤ n) {p : Int} {v : AV} {c0 : Nat} {l : List Cl} (H : HS g h L) (S : Rd g L 2 l.length v (l.flatMap jO)) (s : Sel L (qg c0 [.int .i64 p]) R) (hl : l.length < 1000000) :
    wp (qw tab qI n (.fn 121 [] []) [v, .fn 122 [] [.ptr c0 0]] h) fun v h' => v = .int .i64 (zI (QE p l)) ∧ HS g h' L := by
  (refine qc (g := W121) rfl (by omega) fun k hk => ?_; show wp (S121 (qw tab qI k) _ _ _) _; unfold S121; try simp only [iI, uU, Int.ofNat_eq_natCast])
  refine zO (S.sl H) ?_
  refine (jh (fun m s h' => ∃ i : Nat, s = (.int .i64 (i : Int), .int .i64 (l.length : Int), .fn 122 [] [.ptr c0 0], v, ()) ∧ i ≤ l.length ∧ m = l.length - i ∧ HS g h' L ∧
    (∀ j, j < i → ∀ c, l[j]? = some c → c.1 ≠ p)) ?_ (m := l.length) (by show _ < 1000000000; omega) ⟨0, rfl, by omega, by omega, H, fun j hj => by omega⟩)
  rintro m ih s' h' hih ⟨i, rfl, h1, rfl, H, h2⟩
  dsimp only
  refine zW (fun hlt => qx ?_) fun hge => qK (qE (qz ⟨?_, H⟩))
  · have hi : i < l.length := by omega
    have hc : l[i]? = some l[i] := List.getElem?_eq_getElem hi
    refine z7 (l := jO l[i]) (S.sl H) hi (by omega) (Jk hc) ?_
    refine qJ (Q' := fun v h2 => v = .bool (decide (l[i].1 = p)) ∧ HS g h2 L) (YJ (g := W122) rfl (by omega) fun k hk => ?_) ?_
    · show wp (S122 (qw tab qI k) _ _ _) _
      unfold S122
      refine jx H rfl fun b h3 H3 => ?_
      with_reducible (refine qZ ?_; refine qv (by assumption) .here (by with_unfolding_all exact rfl) ?_)
      refine qv H3 (.there s) rfl (kw (qz ⟨rfl, H3.drop⟩))
    · rintro _ h3 ⟨rfl, H3⟩
      refine XH (fun he => qE (qz ⟨?_, H3⟩)) fun hne => qU (by omega) ?_
      · rw [Vk hi h2 ⟨l[i].2, by rw [hc, ← he]⟩]; rfl
      · refine hih (l.length - (i + 1)) _ _ (by omega) ⟨i + 1, rfl, by omega, rfl, H3, fun j hj c hc' => ?_⟩
        by_cases h4 : j < i
        · exact h2 j h4 c hc'
        · obtain rfl : j = i := by omega
          rw [hc] at hc'; cases hc'; exact hne
  · rw [ZN fun c hc => ?_]
    · rfl
    · obtain ⟨j, hj⟩ := List.getElem?_of_mem hc
      exact h2 j (by have := (List.getElem?_eq_some_iff.1 hj).1; omega) c hj
theorem U0 {n : Nat} (hn : 3 ≤ n) {w m : Nat} {l : List Cl} {p : Int} (H : HS g h (WrC w m l :: R)) (hl : l.length < 1000000) :
    wp (qw tab qI n (.fn 115 [] []) [.ptr w 0, .int .i64 p] h) fun v h' => v = .int .i64 (zI (QE p l)) ∧ HS g h' (WrC w m l :: R) := by
  (refine qc (g := W115) rfl (by omega) fun k hk => ?_; show wp (S115 (qw tab qI k) _ _ _) _; unfold S115; try simp only [iI, uU, Int.ofNat_eq_natCast])
  obtain ⟨v, H⟩ := WrC.E H
  refine jP H ⟨rfl, rfl⟩ fun c0 h2 H2 => ?_
  with_reducible (refine qC ?_; refine qZ ?_; refine qv (by assumption) e_1 (by with_unfolding_all exact rfl) ?_)
  refine qJ (OC (p := p) (by omega) H2 (H2.rd e_2) .here hl) ?_
  rintro _ h3 ⟨rfl, H3⟩
  exact qz ⟨rfl, WrC.I H3.drop⟩
theorem MM {n : Nat} (hn : 4 ≤ n) {w m : Nat} {l : List Cl} {p : Int} (H : HS g h (WrC w m l :: R)) (hl : l.length < 1000000) :
    wp (qw tab qI n (.fn 116 [] []) [.ptr w 0, .int .i64 p] h) fun v h' => v = .tup [.int .u64 ((jF p l).getD 0), .bool (jF p l).isSome] ∧ HS g h' (WrC w m l :: R) := by
  (refine qc (g := W116) rfl (by omega) fun k hk => ?_; show wp (S116 (qw tab qI k) _ _ _) _; unfold S116; try simp only [iI, uU, Int.ofNat_eq_natCast])
  refine qJ (U0 (by omega) H hl) ?_
  rintro _ h3 ⟨rfl, H3⟩
  cases hi : QE p l with
  | none =>
    refine zh (by show ¬ ((0 : Nat) : Int) ≤ -1; omega) ?_
    with_reducible (refine qK ?_)
    exact qz ⟨by rw [Yn.1 hi]; rfl, H3⟩
  | some i =>
    obtain ⟨h1, ⟨x, h2, h2'⟩, _⟩ := GF hi
    refine zl (by show ((0 : Nat) : Int) ≤ (i : Int); omega) ?_
    obtain ⟨v, H4⟩ := WrC.E H3
    with_reducible (refine qx ?_; refine qC ?_; refine qZ ?_; refine qv (by assumption) .here (by with_unfolding_all exact rfl) ?_)
    refine xF (x := .int .u64 x) (H4.sl e_1) (by omega) h1 ?_ (qz ⟨by rw [h2']; rfl, H3⟩)
    rw [yT (sz := 2) jO (fun _ => rfl) _ _ _ (by omega), h2]; rfl
theorem MH {n : Nat} (hn : 4 ≤ n) {w m : Nat} {l : List Cl} {p x : Int} (H : HS g h (WrC w m l :: R)) (hl : l.length < 1000000) :
    wp (qw tab qI n (.fn 101 [] []) [.ptr w 0, .int .i64 p, .int .u64 x] h) fun v h' => v = .int .i64 (Qz m l p x).1 ∧ HS g h' (WrC w m (Qz m l p x).2 :: R) := by
  (refine qc (g := W101) rfl (by omega) fun k hk => ?_; show wp (S101 (qw tab qI k) _ _ _ _) _; unfold S101; try simp only [iI, uU, Int.ofNat_eq_natCast])
  unfold Qz
  by_cases hp : p < 1 ∨ 256 ≤ p
  · rw [if_pos hp]
    repeat' (first | with_reducible refine qx ?_ | with_reducible refine qK ?_ | (with_reducible refine qh ?_; try dsimp only) | (with_reducible refine jt ?_; try dsimp only) | (with_reducible refine jy ?_; try dsimp only) | (with_reducible refine jJ ?_; try dsimp only) | (with_reducible refine yP ?_; try dsimp only) | with_reducible refine qR ?_ | with_reducible refine qb ?_ | (with_reducible refine qk ?_; try dsimp only) | with_reducible refine qE ?_ | with_reducible refine jb ?_ | with_reducible refine jl ?_ | with_reducible refine qU (by omega) ?_ | with_reducible refine jD (by omega) ?_ | with_reducible refine x9 (by omega) ?_ | with_reducible refine y7 (by omega) ?_ | with_reducible refine y3 ?_ | with_reducible refine yH ?_ | with_reducible refine jk (by omega) ?_ | with_reducible refine qp (by omega) ?_ | with_reducible refine jo (by omega) ?_ | with_reducible refine jE (by omega) ?_ | with_reducible refine xg (by omega) ?_ | with_reducible refine zB (by omega) ?_ | with_reducible refine yQ (by omega) ?_ | with_reducible refine gl (by omega) ?_ | with_reducible refine vO (by omega) ?_ | with_reducible refine wb (by omega) ?_ | with_reducible refine zl (by omega) ?_ | with_reducible refine zh (by omega) ?_ | with_reducible refine zW (fun hc => ?_) (fun hc => ?_) | with_reducible refine vI (fun hc => ?_) (fun hc => ?_) | with_reducible refine vF (fun hc => ?_) (fun hc => ?_) | with_reducible refine vQ (fun hc => ?_) (fun hc => ?_) | with_reducible refine y5 (fun hc => ?_) (fun hc => ?_) | with_reducible refine xz (fun hc => ?_) (fun hc => ?_) | with_reducible refine yL (fun hc => ?_) (fun hc => ?_))
    all_goals exact qz ⟨rfl, H⟩
  rw [if_neg hp]
  with_reducible (refine zB (by omega) ?_; refine qk ?_; (try dsimp only); refine jJ ?_; (try dsimp only); refine zh (by omega) ?_; refine qb ?_; refine qK ?_)
  refine qJ (U0 (by omega) H hl) ?_
  rintro _ h3 ⟨rfl, H3⟩
  cases hi : QE p l with
  | none =>
    refine zh (by show ¬ ((0 : Nat) : Int) ≤ -1; omega) ?_
    have hg := Yn.1 hi
    obtain ⟨v, H4⟩ := WrC.E H3
    with_reducible (refine qK ?_; refine qC ?_; refine qZ ?_; refine qv (by assumption) .here (by with_unfolding_all exact rfl) ?_; refine jg (by assumption) e_1 ?_; refine qC ?_; refine qZ ?_; refine qv (by assumption) .here (by with_unfolding_all exact rfl) ?_)
    by_cases hf : m ≤ l.length
    · rw [if_pos ⟨hg, hf⟩]
      with_reducible (refine zl (by omega) ?_; refine qx ?_)
      exact qz ⟨rfl, H3⟩
    · rw [if_neg (fun h => hf h.2)]
      with_reducible (refine zh (by omega) ?_; refine qK ?_; refine qC ?_; refine qZ ?_; refine qv (by assumption) .here (by with_unfolding_all exact rfl) ?_; refine ql (by with_unfolding_all exact rfl) ?_)
      refine jp (sz := 2) (l := [.int .i64 p, .int .u64 x]) H4 rfl rfl rfl rfl fun v5 h5 H5 => ?_
      refine z4 (H5.sel e_2) (H5.sl .here) (by omega) (by omega) rfl fun v6 h6 H6 => ?_
      with_reducible (refine qC ?_; refine qZ ?_)
      refine jB H6 e_2 (H6.one .here) (by simp) fun h7 H7 => qz ⟨rfl, WrC.I (v := v6) ?_⟩
      rw [wM hg, List.flatMap_append, List.length_append]
      exact H7.sub (.cons .here (.cons .here (.drop (.refl))))
  | some i =>
    obtain ⟨h1, ⟨y, h2, h2'⟩, h5⟩ := GF hi
    refine zl (by show ((0 : Nat) : Int) ≤ (i : Int); omega) ?_
    obtain ⟨v, H4⟩ := WrC.E H3
    with_reducible (refine qx ?_; refine qC ?_; refine qZ ?_; refine qv (by assumption) .here (by with_unfolding_all exact rfl) ?_)
    rw [if_neg (fun h => by rw [h2'] at h; cases h.1)]
    refine Zf (H4.sel e_1) h1 (by omega) ⟨rfl, rfl⟩ fun h6 H6 => qz ⟨rfl, WrC.I (v := v) ?_⟩
    rw [Zu h2] at H6
    dsimp only
    rw [h5, List.length_set]
    exact H6.sub (.cons e_1 (.refl))
theorem qQm {n : Nat} (hn : 1 ≤ n) {v : AV} {l : List Cl} (H : HS g h L) (s : Sel L (qS 48 2 l.length v (l.flatMap jO)) R) (hl : l.length < 1000000) :
    wp (qw tab qI n (.fn 102 [] []) [v] h) fun v' h' => HS g h' (qS 48 2 l.length v' (l.flatMap jO) :: L) := by
  (refine qc (g := W102) rfl (by omega) fun k hk => ?_; show wp (S102 (qw tab qI k) _ _) _; unfold S102; try simp only [iI, uU, Int.ofNat_eq_natCast])
  refine qXs H s (fun _ h0 => qx (qz ?_)) (qK ?_)
  · have := List.eq_nil_of_length_eq_zero h0
    subst this
    exact H.nils
  · refine jp (n := 0) (l := []) (sz := 2) H rfl rfl rfl rfl fun v2 h2 H2 => ?_
    refine z4 H2 (H2.sl (.there s)) (by omega) (by omega) (Uo l) fun v3 h3 H3 => qz ?_
    rw [Nat.zero_add, List.nil_append] at H3
    exact H3
theorem XA {n : Nat} (hn : 2 ≤ n) {w m : Nat} {l : List Cl} (H : HS g h (WrC w m l :: R)) (hl : l.length < 1000000) :
    wp (qw tab qI n (.fn 78 [] []) [.ptr w 0] h) fun v h' => HS g h' (qS 48 2 l.length v (l.flatMap jO) :: WrC w m l :: R) := by
  (refine qc (g := W78) rfl (by omega) fun k hk => ?_; show wp (S78 (qw tab qI k) _ _) _; unfold S78; try simp only [iI, uU, Int.ofNat_eq_natCast])
  obtain ⟨v, H⟩ := WrC.E H
  with_reducible (refine qC ?_; refine qZ ?_; refine qv (by assumption) .here (by with_unfolding_all exact rfl) ?_)
  refine qJ (qQm (by omega) H e_1 hl) fun v3 h3 H3 => qz ?_
  have := WrC.I (v := v) (w := w) (m := m) (l := l) (H3.sub (L' := _ :: _ :: qS 48 2 l.length v3 (l.flatMap jO) :: R) (.cons e_1 (.cons e_1 .refl)))
  exact this.sub (.cons e_1 (.refl))
theorem qZC {n : Nat} (hn : 1 ≤ n) {w m : Nat} {l : List Cl} (H : HS g h (WrC w m l :: R)) :
    wp (qw tab qI n (.fn 123 [] []) [.ptr w 0] h) fun v h' => v = .int .i64 (l.length : Int) ∧ h' = h := by
  (refine qc (g := W123) rfl (by omega) fun k hk => ?_; show wp (S123 (qw tab qI k) _ _) _; unfold S123; try simp only [iI, uU, Int.ofNat_eq_natCast])
  obtain ⟨v, H⟩ := WrC.E H
  with_reducible (refine qC ?_; refine qZ ?_; refine qv (by assumption) .here (by with_unfolding_all exact rfl) ?_; refine jg (by assumption) e_1 ?_)
  exact qz ⟨rfl, rfl⟩
def wV (m : Nat) (l cs : List Cl) : Int × List Cl := if (kX m l cs).1 = 0 then kX m l cs else ((kX m l cs).1, l)
theorem YZ {n : Nat} (hn : 5 ≤ n) {w m : Nat} {l cs : List Cl} {c : AV} (H : HS g h (WrC w m l :: R)) (S : Rd g R 2 cs.length c (cs.flatMap jO)) (hl : l.length < 100000) (hc : cs.length < 100000) :
    wp (qw tab qI n (.fn 77 [] []) [.ptr w 0, c] h) fun v h' => v = .int .i64 (wV m l cs).1 ∧ HS g h' (WrC w m (wV m l cs).2 :: R) := by
  (refine qc (g := W77) rfl (by omega) fun k hk => ?_; show wp (S77 (qw tab qI k) _ _ _) _; unfold S77; try simp only [iI, uU, Int.ofNat_eq_natCast])
  refine qJ (XA (by omega) H (by omega)) fun v0 h1 H1 => ?_
  refine zO (S.sl H1.drop.drop) ?_
  refine jh (fun k s h' => ∃ (i : Nat) (l' : List Cl), s = (.int .i64 (i : Int), .int .i64 (cs.length : Int), c, v0, .ptr w 0, ()) ∧ i ≤ cs.length ∧ k = cs.length - i ∧ l'.length ≤ l.length + i ∧
    HS g h' (WrC w m l' :: qS 48 2 l.length v0 (l.flatMap jO) :: R) ∧ kX m l cs = kX m l' (cs.drop i)) ?_ (m := cs.length) (by show _ < 1000000000; omega) ⟨0, l, rfl, by omega, by omega, by omega, H1.sub (.cons e_1 (.refl)), rfl⟩
  rintro k ih s h2 hih ⟨i, l', rfl, h1, rfl, hl', H, hT⟩
  dsimp only
  refine zW (fun hlt => qx ?_) fun hge => qK (qE (qz ?_))
  · have hi : i < cs.length := by omega
    have hci : cs[i]? = some cs[i] := List.getElem?_eq_getElem hi
    refine z7 (l := jO cs[i]) (S.sl H.drop.drop) hi (by omega) (Jk hci) ?_
    refine jx H rfl fun b h3 H3 => js H3 .here rfl (by show 0 + 2 ≤ 2; omega) rfl fun h4 H4 => ?_
    have H5 : HS g h4 (qg b (jO cs[i]) :: WrC w m l' :: qS 48 2 l.length v0 (l.flatMap jO) :: R) := H4
    unfold jO at H5
    with_reducible (refine qZ ?_; refine qv (by assumption) .here (by with_unfolding_all exact rfl) ?_; refine qZ ?_; refine qv (by assumption) .here (by with_unfolding_all exact rfl) ?_)
    refine qJ (MH (by omega) H5.drop (by omega)) ?_
    rintro _ h6 ⟨rfl, H6⟩
    rw [List.drop_eq_getElem_cons hi, Vi] at hT
    refine xz (fun hne => qx ?_) fun he => qK (qU (by omega) ?_)
    · have hne : ¬ (Qz m l' cs[i].1 cs[i].2).1 = 0 := by simpa using hne
      rw [if_neg hne] at hT
      obtain ⟨v7, H7⟩ := WrC.E H6
      with_reducible (refine qC ?_; refine qZ ?_)
      refine jB H7 .here (H7.one e_2) (by simp) fun h8 H8 => qE (qz ?_)
      unfold wV
      rw [hT, if_neg hne]
      exact ⟨rfl, WrC.I (v := v0) (H8.sub (.cons .here (.cons e_1 (.drop .refl))))⟩
    · have he' : (Qz m l' cs[i].1 cs[i].2).1 = 0 := by simpa using he
      rw [if_pos he'] at hT
      refine hih (cs.length - (i + 1)) _ _ (by omega) ⟨i + 1, _, rfl, by omega, rfl, ?_, H6, hT⟩
      have := kA (p := cs[i].1) (v := cs[i].2) (l := l')
      unfold Qz
      repeat' split
      all_goals dsimp only
      all_goals first | omega | (split at this <;> omega)
  · rw [List.drop_of_length_le (by omega)] at hT
    have hT : kX m l cs = (0, l') := hT
    unfold wV
    rw [hT, if_pos rfl]
    exact ⟨rfl, H.sub (.cons .here (.drop .refl))⟩
end Go.Proofs.YtpohfcljfemhlaaGreat
namespace Go.Proofs.YtpohfcljfemhlaaGreat
open Go Go.Ae
set_option maxRecDepth 100000
variable {g h : AH} {L R : List SP}
def LvC (a : Nat) (x : LvM) : SP := .ex fun w => .ex fun fv => .all [qg a [.ptr w 0, fv], WrC w 96 x.1, qS 3 1 x.2.length fv (x.2.map (.int .i64))]
theorem LvC.E {a : Nat} {x : LvM} (H : HS g h (LvC a x :: R)) : ∃ w fv, HS g h (qg a [.ptr w 0, fv] :: WrC w 96 x.1 :: qS 3 1 x.2.length fv (x.2.map (.int .i64)) :: R) := by
  obtain ⟨w, H⟩ := H.exE
  obtain ⟨fv, H⟩ := H.exE
  exact ⟨w, fv, H.allE⟩
theorem LvC.I {a w : Nat} {fv : AV} {x : LvM} (H : HS g h (qg a [.ptr w 0, fv] :: WrC w 96 x.1 :: qS 3 1 x.2.length fv (x.2.map (.int .i64)) :: R)) : HS g h (LvC a x :: R) :=
  HS.exI w (HS.exI fv (HS.allI H))
def xn (ps : List Nat) : List AV := ps.reverse.map fun a => .ptr a 0
def LgC (q most : Nat) (lv : List LvM) : SP := .ex fun v => .ex fun ps : List Nat => .all (.pur (ps.length = lv.length) :: qg q [.int .i64 (most : Int), v] :: qS 119 1 lv.length v (xn ps) :: List.zipWith LvC ps lv)
theorem LgC.E {q most : Nat} {lv : List LvM} (H : HS g h (LgC q most lv :: R)) : ∃ v ps, ps.length = lv.length ∧ HS g h (qg q [.int .i64 (most : Int), v] :: qS 119 1 lv.length v (xn ps) :: (List.zipWith LvC ps lv ++ R)) := by
  obtain ⟨v, H⟩ := H.exE
  obtain ⟨ps, H⟩ := H.exE
  obtain ⟨e, H⟩ := HS.purE (H.allE)
  exact ⟨v, ps, e, H⟩
theorem LgC.I {q most : Nat} {lv : List LvM} {v : AV} {ps : List Nat} (e : ps.length = lv.length) (H : HS g h (qg q [.int .i64 (most : Int), v] :: qS 119 1 lv.length v (xn ps) :: (List.zipWith LvC ps lv ++ R))) : HS g h (LgC q most lv :: R) :=
  HS.exI v (HS.exI ps (HS.allI (HS.purI e H)))
theorem LgC.E1 {q most : Nat} {x : LvM} {r : List LvM} (H : HS g h (LgC q most (x :: r) :: R)) : ∃ v a ps, ps.length = r.length ∧ HS g h (qg q [.int .i64 (most : Int), v] :: qS 119 1 (r.length + 1) v (xn (a :: ps)) :: LvC a x :: (List.zipWith LvC ps r ++ R)) := by
  obtain ⟨v, ps, e, H⟩ := LgC.E H
  cases ps with
  | nil => simp at e
  | cons a ps => exact ⟨v, a, ps, by simpa using e, H⟩
theorem LgC.I1 {q most : Nat} {x : LvM} {r : List LvM} {v : AV} {a : Nat} {ps : List Nat} (e : ps.length = r.length) (H : HS g h (qg q [.int .i64 (most : Int), v] :: qS 119 1 (r.length + 1) v (xn (a :: ps)) :: LvC a x :: (List.zipWith LvC ps r ++ R))) : HS g h (LgC q most (x :: r) :: R) :=
  LgC.I (ps := a :: ps) (by simp [e]) H
theorem VG (a : Nat) (ps : List Nat) : (xn (a :: ps))[ps.length]? = some (.ptr a 0) := by
  unfold xn
  rw [List.reverse_cons, List.map_append, List.getElem?_append_right (by simp)]
  simp
theorem JU {ps : List Nat} {i : Nat} (hi : i < ps.length) : (xn ps)[i]? = (ps[ps.length - 1 - i]?).map fun a => .ptr a 0 := by
  unfold xn
  rw [List.getElem?_map, List.getElem?_reverse hi]
theorem Xv {ps : List Nat} : ∀ {lv : List LvM} {i a : Nat} {x : LvM}, ps[i]? = some a → lv[i]? = some x → ∃ T, Sel (List.zipWith LvC ps lv ++ R) (LvC a x) T := by
  induction ps with
  | nil => intro lv i a x h; simp at h
  | cons b ps ih =>
    intro lv i a x h1 h2
    cases lv with
    | nil => simp at h2
    | cons y lv =>
      cases i with
      | zero =>
        simp at h1 h2
        subst h1; subst h2
        exact ⟨_, .here⟩
      | succ i =>
        obtain ⟨T, s⟩ := ih (lv := lv) (i := i) (by simpa using h1) (by simpa using h2)
        exact ⟨_, .there s⟩
theorem Ki {n q : Nat} (hn : 1 ≤ n) {m v : AV} {a : Nat} {ps : List Nat} {R1 R2 : List SP} {e : TypeId} (H : HS g h L) (s1 : Sel L (qg q [m, v]) R1) (s2 : Sel L (qS e 1 (ps.length + 1) v (xn (a :: ps))) R2) (hl : ps.length < 1000000) :
    wp (qw tab qI n (.fn 117 [] []) [.ptr q 0] h) fun r h' => r = .ptr a 0 ∧ h' = h := by
  (refine qc (g := W117) rfl (by omega) fun k hk => ?_; show wp (S117 (qw tab qI k) _ _) _; unfold S117; try simp only [iI, uU, Int.ofNat_eq_natCast])
  refine qC (qZ (qv H s1 rfl (qC (qZ (qv H s1 rfl (jg H s2 (jD (by omega) ?_)))))))
  rw [show ((ps.length + 1 : Nat) : Int) - ((1 : Nat) : Int) = ((ps.length : Nat) : Int) by omega]
  exact xe (H.sl s2) (VG a ps) (qz ⟨rfl, rfl⟩)
theorem Ox {n : Nat} (hn : 2 ≤ n) (H : HS g h R) : wp (qw tab qI n (.fn 72 [] []) [] h) fun v h' => ∃ a, v = .ptr a 0 ∧ HS g h' (LvC a ([], []) :: R) := by
  (refine qc (g := W72) rfl (by omega) fun k hk => ?_; show wp (S72 (qw tab qI k) _) _; unfold S72; try simp only [iI, uU, Int.ofNat_eq_natCast])
  refine qJ (Kx (m := 96) (by omega) (by omega) H) ?_
  rintro _ h2 ⟨w, rfl, H2⟩
  refine ql rfl (jx H2 rfl fun a h3 H3 => qz ⟨a, rfl, ?_⟩)
  exact LvC.I (w := w) (fv := .nils) ((H3.nils (e := 3) (sz := 1)).sub (.cons e_1 (.cons e_1 (.cons .here (.refl)))))
theorem qXa {n : Nat} (hn : 3 ≤ n) {m : Int} (H : HS g h R) : wp (qw tab qI n (.fn 36 [] []) [.int .i64 m] h) fun v h' => ∃ q, v = .ptr q 0 ∧ HS g h' (LgC q (max 0 (min m 96)).toNat [([], [])] :: R) := by
  (refine qc (g := W36) rfl (by omega) fun k hk => ?_; show wp (S36 (qw tab qI k) _ _) _; unfold S36; try simp only [iI, uU, Int.ofNat_eq_natCast])
  refine y3 (yH (qJ (Ox (by omega) H) ?_))
  rintro _ h2 ⟨a, rfl, H2⟩
  refine jp (n := 1) (l := [.ptr a 0]) (sz := 1) H2 rfl rfl rfl rfl fun v h3 H3 => ?_
  have h1 := H3.one .here
  refine ql (l := [.int .i64 (max ((0 : Nat) : Int) (min m ((96 : Nat) : Int))), v]) (by simp only [kQ, h1.1]; rfl) ?_
  refine jx H3 (by show (true && (v.one && true)) = true; rw [h1.2]; rfl) fun q h4 H4 => qz ⟨q, rfl, ?_⟩
  refine LgC.I1 (v := v) (a := a) (ps := []) rfl ?_
  rw [show (((max 0 (min m 96)).toNat : Nat) : Int) = max ((0 : Nat) : Int) (min m ((96 : Nat) : Int)) by omega]
  exact H4
theorem qQn {n q most : Nat} (hn : 2 ≤ n) {lv : List LvM} {b : Int} (H : HS g h (LgC q most lv :: R)) (O : OkL most lv) (hf : ∀ x ∈ lv, x.2.length < 1000000) :
    wp (qw tab qI n (.fn 105 [] []) [.ptr q 0, .int .i64 b] h) fun _ h' => HS g h' (LgC q most (Qv lv b) :: R) := by
  cases lv with
  | nil => have := O.one; simp at this
  | cons x r =>
  (refine qc (g := W105) rfl (by omega) fun k hk => ?_; show wp (S105 (qw tab qI k) _ _ _) _; unfold S105; try simp only [iI, uU, Int.ofNat_eq_natCast])
  obtain ⟨v, a, ps, e, H⟩ := LgC.E1 H
  rw [← e] at H
  refine qJ (Ki (by omega) H .here e_1 (by have := O.deep; simp at this; omega)) ?_
  rintro _ _ ⟨rfl, rfl⟩
  obtain ⟨w, fv, H2⟩ := LvC.E (H.sel e_2)
  with_reducible (refine qC ?_; refine qZ ?_; refine qv (by assumption) .here (by with_unfolding_all exact rfl) ?_)
  refine jp (n := 1) (l := [.int .i64 b]) (sz := 1) H2 rfl rfl rfl rfl fun v3 h3 H3 => ?_
  have := hf x (List.mem_cons_self ..)
  refine z4 (H3.sel (P := qS 3 1 x.2.length fv (x.2.map (.int .i64))) e_3) (H3.sl .here) (by omega) (by omega) rfl fun v4 h4 H4 => ?_
  with_reducible (refine qC ?_; refine qZ ?_)
  refine jB H4 e_2 (H4.one .here) (by simp) fun h5 H5 => qz ?_
  refine LgC.I1 (v := v) (a := a) (ps := ps) e ?_
  rw [← e]
  have := LvC.I (a := a) (w := w) (fv := v4) (x := (x.1, x.2 ++ [b])) (R := qg q [.int .i64 (most : Int), v] :: qS 119 1 (ps.length + 1) v (xn (a :: ps)) :: (List.zipWith LvC ps r ++ R))
    (by rw [List.map_append, List.length_append]; exact H5.sub (.cons .here (.cons e_2 (.cons .here (.cons e_1 (.cons e_1 (.drop (.refl))))))))
  exact this.sub (.cons e_1 (.cons e_1 (.refl)))
theorem OG {n q most : Nat} (hn : 1 ≤ n) {lv : List LvM} (H : HS g h (LgC q most lv :: R)) (O : OkL most lv) (hf : (zE lv).length < 1000000) :
    wp (qw tab qI n (.fn 42 [] []) [.ptr q 0] h) fun v h' => HS g h' (qS 3 1 (zE lv).length v ((zE lv).map (.int .i64)) :: LgC q most lv :: R) := by
  (refine qc (g := W42) rfl (by omega) fun k hk => ?_; show wp (S42 (qw tab qI k) _ _) _; unfold S42; try simp only [iI, uU, Int.ofNat_eq_natCast])
  have hd := O.deep
  obtain ⟨v, ps, e, H⟩ := LgC.E H
  with_reducible (refine qC ?_; refine qZ ?_; refine qv (by assumption) .here (by with_unfolding_all exact rfl) ?_; refine jg (by assumption) e_1 ?_)
  refine jh (fun m s h' => ∃ (i : Nat) (acc : AV), s = (.int .i64 (i : Int), .int .i64 (lv.length : Int), v, acc, ()) ∧ i ≤ lv.length ∧ m = lv.length - i ∧
    HS g h' (qS 3 1 ((lv.reverse.take i).flatMap (·.2)).length acc (((lv.reverse.take i).flatMap (·.2)).map (.int .i64)) :: qg q [.int .i64 (most : Int), v] :: qS 119 1 lv.length v (xn ps) :: (List.zipWith LvC ps lv ++ R)))
    ?_ (m := lv.length) (by have := O.deep; show _ < 1000000000; omega) ⟨0, .nils, rfl, by omega, by omega, H.nils⟩
  rintro m ih s h' hih ⟨i, acc, rfl, h1, rfl, H⟩
  dsimp only
  refine zW (fun hlt => qx ?_) fun hge => qK (qE (qz ?_))
  · have hi : i < lv.length := by omega
    have ha : ps[ps.length - 1 - i]? = some (ps[ps.length - 1 - i]'(by omega)) := List.getElem?_eq_getElem _
    have hx : lv[ps.length - 1 - i]? = some (lv[ps.length - 1 - i]'(by omega)) := List.getElem?_eq_getElem _
    generalize ps[ps.length - 1 - i]'(by omega) = a at ha
    have hx2 : lv.reverse[i]? = some (lv[ps.length - 1 - i]'(by omega)) := by rw [List.getElem?_reverse hi, ← hx, e]
    generalize lv[ps.length - 1 - i]'(by omega) = x at hx hx2
    refine xe (H.sl e_2) (by rw [JU (by omega), ha]; rfl) ?_
    obtain ⟨T, s⟩ := Xv (R := R) ha hx
    have H2 := H.sel (.there (.there (.there s)))
    obtain ⟨w, fv, H3⟩ := LvC.E H2
    with_reducible (refine qC ?_; refine qZ ?_; refine qv (by assumption) .here (by with_unfolding_all exact rfl) ?_)
    have hlen : ((lv.reverse.take i).flatMap (·.2)).length + x.2.length ≤ (zE lv).length := by
      have e1 : lv.reverse.flatMap (·.2) = (lv.reverse.take (i + 1)).flatMap (·.2) ++ (lv.reverse.drop (i + 1)).flatMap (·.2) := by rw [← List.flatMap_append, List.take_append_drop]
      unfold zE
      rw [e1, List.take_add_one, hx2]
      simp
    refine z4 (H3.sel (P := qS 3 1 ((lv.reverse.take i).flatMap (·.2)).length acc (((lv.reverse.take i).flatMap (·.2)).map (.int .i64))) e_3) (H3.sl e_2) (by omega) (by omega) ?_ fun v4 h4 H4 => qU (by omega) ?_
    · simp [zK, AV.one]
    refine hih (lv.length - (i + 1)) _ _ (by omega) ⟨i + 1, v4, rfl, by omega, rfl, ?_⟩
    rw [List.take_add_one, hx2, Option.toList_some, List.flatMap_append, List.map_append, List.length_append, List.flatMap_cons, List.flatMap_nil, List.append_nil]
    have H5 := LvC.I (a := a) (w := w) (fv := fv) (x := x) (H4.sub (.cons e_1 (.cons e_1 (.cons e_1 .refl))))
    exact HS.unsel (.there (.there (.there s))) (H5.sub (.refl))
  · obtain rfl : i = lv.length := by omega
    rw [List.take_of_length_le (by simp)] at H
    exact (LgC.I (v := v) (ps := ps) e (HS.back (A := _ :: _ :: List.zipWith LvC ps lv) H)).sub (.cons e_1 (.refl))
theorem rsum (l : List Nat) : l.reverse.sum = l.sum := by
  induction l with
  | nil => rfl
  | cons a l ih => rw [List.reverse_cons, List.sum_append, ih, List.sum_cons]; simp [Nat.add_comm]
theorem On {n q most : Nat} (hn : 2 ≤ n) {lv : List LvM} (H : HS g h (LgC q most lv :: R)) (O : OkL most lv) :
    wp (qw tab qI n (.fn 118 [] []) [.ptr q 0] h) fun v h' => v = .int .i64 ((most : Int) - (xK lv : Int)) ∧ h' = h := by
  (refine qc (g := W118) rfl (by omega) fun k hk => ?_; show wp (S118 (qw tab qI k) _ _) _; unfold S118; try simp only [iI, uU, Int.ofNat_eq_natCast])
  obtain ⟨v, ps, e, H⟩ := LgC.E H
  have hh := O.held
  have hl := O.le
  have hd := O.deep
  with_reducible (refine qC ?_; refine qZ ?_; refine qv (by assumption) .here (by with_unfolding_all exact rfl) ?_; refine qC ?_; refine qZ ?_; refine qv (by assumption) .here (by with_unfolding_all exact rfl) ?_; refine jg (by assumption) e_1 ?_)
  refine jh (fun m s h' => ∃ (i : Nat), s = (.int .i64 (i : Int), .int .i64 (lv.length : Int), v, .int .i64 ((most : Int) - (((lv.reverse.take i).map fun x => x.1.length).sum : Nat)), ()) ∧ i ≤ lv.length ∧ m = lv.length - i ∧ h' = h)
    ?_ (m := lv.length) (by show _ < 1000000000; omega) ⟨0, by simp, by omega, by omega, rfl⟩
  rintro m ih s h' hih ⟨i, rfl, h1, rfl, rfl⟩
  dsimp only
  have hsum : ∀ j, ((lv.reverse.take j).map fun x => x.1.length).sum + ((lv.reverse.drop j).map fun x => x.1.length).sum = xK lv := by
    intro j
    rw [← List.sum_append, ← List.map_append, List.take_append_drop, List.map_reverse, rsum]; rfl
  refine zW (fun hlt => qx ?_) fun hge => qK (qE (qz ⟨?_, rfl⟩))
  · have hi : i < lv.length := by omega
    have ha : ps[ps.length - 1 - i]? = some (ps[ps.length - 1 - i]'(by omega)) := List.getElem?_eq_getElem _
    have hx : lv[ps.length - 1 - i]? = some (lv[ps.length - 1 - i]'(by omega)) := List.getElem?_eq_getElem _
    generalize ps[ps.length - 1 - i]'(by omega) = a at ha
    have hx2 : lv.reverse[i]? = some (lv[ps.length - 1 - i]'(by omega)) := by rw [List.getElem?_reverse hi, ← hx, e]
    generalize lv[ps.length - 1 - i]'(by omega) = x at hx hx2
    refine xe (H.sl e_1) (by rw [JU (by omega), ha]; rfl) ?_
    obtain ⟨T, s⟩ := Xv (R := R) ha hx
    obtain ⟨w, fv, H3⟩ := LvC.E (H.sel (.there (.there s)))
    with_reducible (refine qC ?_; refine qZ ?_; refine qv (by assumption) .here (by with_unfolding_all exact rfl) ?_)
    refine qJ (qZC (by omega) (H3.sel e_1)) ?_
    rintro _ _ ⟨rfl, rfl⟩
    have h2 := hsum i
    have h3 := hsum (i + 1)
    have h4 : ((lv.reverse.take (i + 1)).map fun x => x.1.length).sum = ((lv.reverse.take i).map fun x => x.1.length).sum + x.1.length := by
      rw [List.take_add_one, hx2, Option.toList_some, List.map_append, List.sum_append]; simp
    refine jD (by omega) (qU (by omega) (hih (lv.length - (i + 1)) _ _ (by omega) ⟨i + 1, ?_, by omega, rfl, rfl⟩))
    rw [h4]
    refine Prod.ext ?_ (Prod.ext rfl (Prod.ext rfl (Prod.ext ?_ rfl)))
    · show AV.int _ _ = AV.int _ _
      congr 1
    · show AV.int _ _ = AV.int _ _
      congr 1
      omega
  · have h2 := hsum i
    rw [List.drop_of_length_le (by simp; omega)] at h2
    rw [show ((lv.reverse.take i).map fun x => x.1.length).sum = xK lv by simpa using h2]
theorem MA {k b0 l : Nat} {v : AV} {ps : List Nat} {Inv : Nat → AH → Prop} {Fin : AH → Prop}
    (hrd : ∀ i h, Inv i h → h.at b0 0 = some v ∧ Sl (fun _ => True) h 1 ps.length v (xn ps))
    (hy : ∀ i a h, ps[i]? = some a → Inv i h → wp (qw tab qI k (.yield l) [.int .i64 ((ps.length - 1 - i : Nat) : Int), .ptr a 0] h) fun r h' => (r = .bool true ∧ Inv (i + 1) h') ∨ (r = .bool false ∧ Fin h'))
    (hl : ps.length < 1000000) (h0 : Inv 0 h) : wp (qw tab qI (k + 1) (.fn 100 [] [.ptr b0 0]) [.yield l] h) fun _ h' => Inv ps.length h' ∨ Fin h' := by
  refine YJ (g := W100) rfl (by omega) fun k' hk => ?_
  obtain rfl : k' = k := by omega
  show wp (S100 _ _ _ _) _
  unfold S100
  try simp only [iI, uU, Int.ofNat_eq_natCast]
  obtain ⟨r1, r2⟩ := hrd 0 h h0
  refine kU r1 (zO r2 (jD (by omega) ?_))
  refine jh (fun m s h' => ∃ i : Nat, s = (.int .i64 ((ps.length : Int) - ((1 : Nat) : Int) - (i : Int)), .ptr b0 0, .yield l, ()) ∧ i ≤ ps.length ∧ m = ps.length - i ∧ Inv i h') ?_ (m := ps.length) (by show _ < 1000000000; omega) ⟨0, by simp, by omega, by omega, h0⟩
  rintro m ih s h' hih ⟨i, rfl, h1, rfl, hI⟩
  dsimp only
  obtain ⟨r1, r2⟩ := hrd i h' hI
  refine vQ (fun hlt => qx ?_) fun hge => qK (qE (qz (.inl ?_)))
  · have hi : i < ps.length := by omega
    have ha : ps[i]? = some ps[i] := List.getElem?_eq_getElem hi
    rw [show (ps.length : Int) - ((1 : Nat) : Int) - (i : Int) = ((ps.length - 1 - i : Nat) : Int) by omega]
    refine kU r1 (xe r2 (by rw [JU (by omega), show ps.length - 1 - (ps.length - 1 - i) = i by omega, ha]; rfl) ?_)
    refine qJ (hy i _ h' ha hI) ?_
    rintro _ h2 (⟨rfl, hI2⟩ | ⟨rfl, hF⟩)
    · refine jb (qK (jD (by omega) (hih (ps.length - (i + 1)) _ _ (by omega) ⟨i + 1, ?_, by omega, rfl, hI2⟩)))
      refine Prod.ext ?_ rfl
      show AV.int _ _ = AV.int _ _
      congr 1
      omega
    · exact jl (qx (qE (qz (.inr hF))))
  · obtain rfl : i = ps.length := by omega
    exact hI
theorem NV {p : Int} : ∀ {lv : List LvM}, (∀ (j : Nat) x, lv[j]? = some x → jF p x.1 = none) → kF p lv = none := by
  intro lv
  induction lv with
  | nil => intro _; rfl
  | cons x r ih =>
    intro h
    unfold kF
    rw [h 0 x rfl]
    exact ih fun j y hy => h (j + 1) y (by simpa using hy)
theorem Oj {p v : Int} : ∀ {lv : List LvM} {i : Nat} {x : LvM}, (∀ j, j < i → ∀ x, lv[j]? = some x → jF p x.1 = none) → lv[i]? = some x → jF p x.1 = some v → kF p lv = some v := by
  intro lv
  induction lv with
  | nil => intro i x _ h; simp at h
  | cons y r ih =>
    intro i x h1 h2 h3
    unfold kF
    cases i with
    | zero => simp at h2; subst h2; rw [h3]
    | succ i =>
      rw [h1 0 (by omega) y rfl]
      exact ih (i := i) (x := x) (fun j hj z hz => h1 (j + 1) (by omega) z (by simpa using hz)) (by simpa using h2) h3
theorem OkL.len {most : Nat} {lv : List LvM} (O : OkL most lv) {x : LvM} (hx : x ∈ lv) : x.1.length ≤ 96 := by
  have h1 := O.held
  have h2 := O.le
  have : x.1.length ≤ xK lv := by
    clear h1 O
    induction lv with
    | nil => cases hx
    | cons y r ih =>
      rw [xj]
      rcases List.mem_cons.1 hx with rfl | hx
      · omega
      · have := ih hx; omega
  omega
theorem J1 {n : Nat} (hn : 1 ≤ n) {v : AV} (h1 : One v) (H : HS g h L) : wp (qw tab qI n (.fn 75 [] []) [v] h) fun r h' => ∃ b, r = .fn 100 [] [.ptr b 0] ∧ HS g h' (qg b [v] :: L) := by
  (refine qc (g := W75) rfl (by omega) fun k hk => ?_; show wp (S75 (qw tab qI k) _ _) _; unfold S75; try simp only [iI, uU, Int.ofNat_eq_natCast])
  exact jP H h1 fun b h2 H2 => qz ⟨b, rfl, H2⟩
theorem qZB {n q most : Nat} (hn : 8 ≤ n) {lv : List LvM} {p : Int} (H : HS g h (LgC q most lv :: R)) (O : OkL most lv) :
    wp (qw tab qI n (.fn 103 [] []) [.ptr q 0, .int .i64 p] h) fun v h' => v = .tup [.int .u64 ((kF p lv).getD 0), .bool (kF p lv).isSome] ∧ HS g h' (LgC q most lv :: R) := by
  (refine qc (g := W103) rfl (by omega) fun k hk => ?_; show wp (S103 (qw tab qI k) _ _ _) _; unfold S103; try simp only [iI, uU, Int.ofNat_eq_natCast])
  obtain ⟨v, ps, e, H⟩ := LgC.E H
  have hd := O.deep
  refine jP H ⟨rfl, rfl⟩ fun b1 h1 H => jP H ⟨rfl, rfl⟩ fun b2 h2 H => jP H ⟨rfl, rfl⟩ fun b3 h3 H => ?_
  with_reducible (refine qC ?_; refine qZ ?_; refine qv (by assumption) e_3 (by with_unfolding_all exact rfl) ?_)
  refine qJ (J1 (by omega) (H.one e_4) H) ?_
  rintro _ h4 ⟨b4, rfl, H⟩
  have H5 := (H.newBlk .dfd).newBlk (.loop .ready none 103 [1, 0, 1, 0] [5, 4, 3] [.ptr b3 0, .ptr b2 0, .ptr b1 0] h4.nx)
  generalize (h4.new .dfd).nx = l at H5 ⊢
  generalize h4.nx = d at H5 ⊢
  obtain ⟨k2, rfl⟩ : ∃ k2, k = k2 + 1 := ⟨k - 1, by omega⟩
  refine Uv (MA (b0 := b4) (v := v) (ps := ps)
    (Inv := fun i h' => HS g h' (vC l (.loop .ready none 103 [1, 0, 1, 0] [5, 4, 3] [.ptr b3 0, .ptr b2 0, .ptr b1 0] d) :: vC d .dfd :: qg b4 [v] :: qg b3 [.bool false] :: qg b2 [.int .u64 ((0 : Nat) : Int)] :: qg b1 [.int .i64 p] ::
      qg q [.int .i64 (most : Int), v] :: qS 119 1 lv.length v (xn ps) :: (List.zipWith LvC ps lv ++ R)) ∧ ∀ j, j < i → ∀ x, lv[j]? = some x → jF p x.1 = none)
    (Fin := fun h' => ∃ x, kF p lv = some x ∧ HS g h' (vC l (.loop .done (some .ret) 103 [1, 0, 1, 0] [5, 4, 3] [.ptr b3 0, .ptr b2 0, .ptr b1 0] d) :: vC d .dfd :: qg b4 [v] :: qg b3 [.bool true] :: qg b2 [.int .u64 x] :: qg b1 [.int .i64 p] ::
      qg q [.int .i64 (most : Int), v] :: qS 119 1 lv.length v (xn ps) :: (List.zipWith LvC ps lv ++ R)))
    ?_ ?_ (by omega) ⟨H5, fun j hj => by omega⟩) ?_
  · rintro i h' ⟨H, _⟩
    obtain ⟨et, A⟩ := H.obj (b := b4) e_2
    exact ⟨A.at 0, e ▸ H.sl e_7⟩
  · rintro i a h' ha ⟨H, hno⟩
    have hi := (List.getElem?_eq_some_iff.1 ha).1
    have hx : lv[i]? = some (lv[i]'(by omega)) := List.getElem?_eq_getElem _
    have hm : lv[i]'(by omega) ∈ lv := List.getElem_mem _
    generalize lv[i]'(by omega) = x at hx hm
    have hxl := O.len hm
    refine K7 (H.blk .here) (w := V1) rfl (by omega) fun k3 hk3 => ?_
    show wp (B1 _ _ _ _ _ (.int .i64 ((ps.length - 1 - i : Nat) : Int)) _ _) _
    unfold B1
    try simp only [iI, uU, Int.ofNat_eq_natCast]
    refine Kn H .here fun h6 H => ?_
    obtain ⟨T, s⟩ := Xv (R := R) ha hx
    obtain ⟨w, fv, H7⟩ := LvC.E (H.sel (.there (.there (.there (.there (.there (.there (.there (.there s)))))))))
    with_reducible (refine qC ?_; refine qZ ?_; refine qv (by assumption) .here (by with_unfolding_all exact rfl) ?_; refine qv (by assumption) e_8 (by with_unfolding_all exact rfl) ?_)
    refine qJ (MM (by omega) (H7.sel e_1) (by omega)) ?_
    rintro _ h8 ⟨rfl, H8⟩
    with_reducible (refine qy (by with_unfolding_all exact rfl) ?_; refine qy (by with_unfolding_all exact rfl) ?_)
    cases hg : jF p x.1 with
    | none =>
      refine qK (Mn H8 e_3 fun h9 H9 => .inl ⟨rfl, ?_, fun j hj y hy => ?_⟩)
      · have H10 := LvC.I (a := a) (w := w) (fv := fv) (x := x) (H9.sub (.cons e_2 (.cons e_1 (.cons e_1 .refl))))
        exact HS.unsel (.there (.there (.there (.there (.there (.there (.there (.there s)))))))) (H10.sub (.refl))
      · by_cases hj' : j < i
        · exact hno j hj' y hy
        · obtain rfl : j = i := by omega
          rw [hx] at hy; cases hy; exact hg
    | some z =>
      refine qx (jB H8 (b := b2) e_7 ⟨rfl, rfl⟩ (by simp) fun h9 H9 => jB H9 (b := b3) e_7 ⟨rfl, rfl⟩ (by simp) fun h10 H10 => qZ3 H10 e_5 fun h11 H11 => .inr ⟨rfl, z, Oj hno hx hg, ?_⟩)
      have H12 := LvC.I (a := a) (w := w) (fv := fv) (x := x) (H11.sub (.cons e_4 (.cons e_3 (.cons e_3 .refl))))
      exact HS.unsel (.there (.there (.there (.there (.there (.there (.there (.there s)))))))) (H12.sub (.cons .here (.cons .here (.cons e_2 (.cons e_2 (.cons .here (.cons .here (.refl))))))))
  · rintro _ h6 (⟨H, hno⟩ | ⟨x, hx, H⟩)
    · have hg : kF p lv = none := NV fun j x hj => hno j (by have := (List.getElem?_eq_some_iff.1 hj).1; omega) x hj
      refine KD H .here (fun h => by cases h) fun h7 H => K5 (jB H (b := b2) e_4 ⟨rfl, rfl⟩ (by simp) fun h8 H => jB H (b := b3) e_4 ⟨rfl, rfl⟩ (by simp) fun h9 H => Jm H e_3 fun h10 H => ?_)
      with_reducible (refine qv (by assumption) e_2 (by with_unfolding_all exact rfl) ?_; refine qv (by assumption) e_1 (by with_unfolding_all exact rfl) ?_)
      refine qz ⟨by rw [hg]; rfl, ?_⟩
      exact LgC.I (v := v) (ps := ps) e (H.sub (.cons e_6 (.cons e_6 (.drop (.drop (.drop (.drop (.drop (.drop (.refl))))))))))
    · refine KD H .here (fun h => by cases h) fun h7 H => Od (qVU rfl (Jm H e_1 fun h8 H => ?_))
      with_reducible (refine qv (by assumption) e_4 (by with_unfolding_all exact rfl) ?_; refine qv (by assumption) e_3 (by with_unfolding_all exact rfl) ?_)
      refine qz ⟨by rw [hx]; rfl, ?_⟩
      exact LgC.I (v := v) (ps := ps) e (H.sub (.cons e_6 (.cons e_6 (.drop (.drop (.drop (.drop (.drop (.drop (.refl))))))))))
theorem qVI {x : LvM} {r : List LvM} {most : Nat} {p v : Int} (O : OkL most (x :: r)) (hp : ¬ (p < 1 ∨ 256 ≤ p)) (hf : ¬ (jF p x.1 = none ∧ most ≤ xK (x :: r))) : Qz 96 x.1 p v = (0, zo p v x.1) := by
  have h1 := O.held
  have h2 := O.le
  rw [xj] at h1 hf
  unfold Qz
  rw [if_neg hp, if_neg (fun h => hf ⟨h.1, by omega⟩)]
theorem MI {n q most : Nat} (hn : 5 ≤ n) {lv : List LvM} {p v : Int} (H : HS g h (LgC q most lv :: R)) (O : OkL most lv) :
    wp (qw tab qI n (.fn 107 [] []) [.ptr q 0, .int .i64 p, .int .u64 v] h) fun r h' => r = .int .i64 (vP most lv p v).1 ∧ HS g h' (LgC q most (vP most lv p v).2 :: R) := by
  cases lv with
  | nil => have := O.one; simp at this
  | cons x r =>
  have hxl := O.len (x := x) (List.mem_cons_self ..)
  (refine qc (g := W107) rfl (by omega) fun k hk => ?_; show wp (S107 (qw tab qI k) _ _ _ _) _; unfold S107; try simp only [iI, uU, Int.ofNat_eq_natCast])
  unfold vP
  by_cases hp : p < 1 ∨ 256 ≤ p
  · simp only [if_pos hp]
    repeat' (first | with_reducible refine qx ?_ | with_reducible refine qK ?_ | (with_reducible refine qh ?_; try dsimp only) | (with_reducible refine jt ?_; try dsimp only) | (with_reducible refine jy ?_; try dsimp only) | (with_reducible refine jJ ?_; try dsimp only) | (with_reducible refine yP ?_; try dsimp only) | with_reducible refine qR ?_ | with_reducible refine qb ?_ | (with_reducible refine qk ?_; try dsimp only) | with_reducible refine qE ?_ | with_reducible refine jb ?_ | with_reducible refine jl ?_ | with_reducible refine qU (by omega) ?_ | with_reducible refine jD (by omega) ?_ | with_reducible refine x9 (by omega) ?_ | with_reducible refine y7 (by omega) ?_ | with_reducible refine y3 ?_ | with_reducible refine yH ?_ | with_reducible refine jk (by omega) ?_ | with_reducible refine qp (by omega) ?_ | with_reducible refine jo (by omega) ?_ | with_reducible refine jE (by omega) ?_ | with_reducible refine xg (by omega) ?_ | with_reducible refine zB (by omega) ?_ | with_reducible refine yQ (by omega) ?_ | with_reducible refine gl (by omega) ?_ | with_reducible refine vO (by omega) ?_ | with_reducible refine wb (by omega) ?_ | with_reducible refine zl (by omega) ?_ | with_reducible refine zh (by omega) ?_ | with_reducible refine zW (fun hc => ?_) (fun hc => ?_) | with_reducible refine vI (fun hc => ?_) (fun hc => ?_) | with_reducible refine vF (fun hc => ?_) (fun hc => ?_) | with_reducible refine vQ (fun hc => ?_) (fun hc => ?_) | with_reducible refine y5 (fun hc => ?_) (fun hc => ?_) | with_reducible refine xz (fun hc => ?_) (fun hc => ?_) | with_reducible refine yL (fun hc => ?_) (fun hc => ?_))
    all_goals exact qz ⟨rfl, H⟩
  simp only [if_neg hp]
  with_reducible (refine zB (by omega) ?_; refine qk ?_; (try dsimp only); refine jJ ?_; (try dsimp only); refine zh (by omega) ?_; refine qb ?_; refine qK ?_)
  have hH := H
  obtain ⟨sv, a, ps, e, H⟩ := LgC.E1 H
  rw [← e] at H
  refine qJ (Ki (by omega) H .here e_1 (by have := O.deep; simp at this; omega)) ?_
  rintro _ _ ⟨rfl, rfl⟩
  obtain ⟨w, fv, H2⟩ := LvC.E (H.sel e_2)
  with_reducible (refine qC ?_; refine qZ ?_; refine qv (by assumption) .here (by with_unfolding_all exact rfl) ?_)
  refine qJ (MM (by omega) (H2.sel e_1) (by omega)) ?_
  rintro _ h3 ⟨rfl, H3⟩
  with_reducible (refine qy (by with_unfolding_all exact rfl) ?_; refine qy (by with_unfolding_all exact rfl) ?_)
  have H4 : HS g h3 (LgC q most (x :: r) :: R) := by
    have H4 := LvC.I (a := a) (w := w) (fv := fv) (x := x) (H3.sub (.cons e_1 (.cons .here .refl)))
    refine LgC.I1 (v := sv) (a := a) (ps := ps) e ?_
    rw [← e]
    exact H4.sub (.cons e_1 (.cons e_1 (.refl)))
  have fin : ¬ (jF p x.1 = none ∧ most ≤ xK (x :: r)) → ∀ h5, HS g h5 (WrC w 96 x.1 :: qg a [.ptr w 0, fv] :: qS 3 1 x.2.length fv (x.2.map (.int .i64)) :: qg q [.int .i64 (most : Int), sv] :: qS 119 1 (ps.length + 1) sv (xn (a :: ps)) :: (List.zipWith LvC ps r ++ R)) →
      wp (qw tab qI k (.fn 101 [] []) [.ptr w 0, .int .i64 p, .int .u64 v] h5) fun r' h' => r' = .int .i64 0 ∧ HS g h' (LgC q most ((zo p v x.1, x.2) :: r) :: R) := by
    intro hf h5 H5
    refine (MH (by omega) H5 (by omega)).mono ?_
    rintro _ h6 ⟨rfl, H6⟩
    rw [qVI O hp hf] at H6 ⊢
    refine ⟨rfl, LgC.I1 (v := sv) (a := a) (ps := ps) e ?_⟩
    rw [← e]
    have H7 := LvC.I (a := a) (w := w) (fv := fv) (x := (zo p v x.1, x.2)) (H6.sub (.cons e_1 (.cons .here .refl)))
    exact H7.sub (.cons e_1 (.cons e_1 (.refl)))
  cases hg : jF p x.1 with
  | some z =>
    simp only [Option.isSome_some]
    with_reducible (refine jb ?_; refine qk ?_; (try dsimp only); refine jy ?_; (try dsimp only); refine qb ?_; refine qK ?_)
    rw [if_neg (fun h => by cases h.1)]
    refine qJ (fin (fun h => by rw [hg] at h; cases h.1) h3 (H3.sub (.refl))) ?_
    rintro _ h6 ⟨rfl, H6⟩
    exact qz ⟨rfl, H6⟩
  | none =>
    simp only [Option.isSome_none]
    with_reducible (refine jl ?_; refine qk ?_; (try dsimp only); refine qh ?_; (try dsimp only))
    refine qJ (On (by omega) H4 O) ?_
    rintro _ _ ⟨rfl, rfl⟩
    have hh := O.held
    refine y5 (fun h0 => ?_) fun h0 => ?_
    · with_reducible (refine qR ?_; refine qx ?_)
      rw [if_pos ⟨by trivial, by omega⟩]
      exact qz ⟨rfl, H4⟩
    · with_reducible (refine qR ?_; refine qK ?_)
      rw [if_neg (fun h => h0 (by omega))]
      refine qJ (fin (fun h => h0 (by omega)) _ (H3.sub (.refl))) ?_
      rintro _ h6 ⟨rfl, H6⟩
      exact qz ⟨rfl, H6⟩
theorem JI {most : Nat} {x : LvM} {r : List LvM} {p v : Int} : ∃ c, (vP most (x :: r) p v).2 = (c, x.2) :: r := by
  unfold vP
  dsimp only
  split
  · exact ⟨x.1, rfl⟩
  · split
    · exact ⟨x.1, rfl⟩
    · exact ⟨_, rfl⟩
theorem Zl {n q most : Nat} (hn : 7 ≤ n) {lv : List LvM} {cs : List Cl} {c : AV} (H : HS g h (LgC q most lv :: R)) (O : OkL most lv) (S : Rd g R 2 cs.length c (cs.flatMap jO)) (hc : cs.length < 100000) :
    wp (qw tab qI n (.fn 104 [] []) [.ptr q 0, c] h) fun r h' => r = .int .i64 (x5 most lv lv cs).1 ∧ HS g h' (LgC q most (x5 most lv lv cs).2 :: R) := by
  cases lv with
  | nil => have := O.one; simp at this
  | cons x r =>
  have hxl := O.len (x := x) (List.mem_cons_self ..)
  have hxi := O.ins x (List.mem_cons_self ..)
  have hxu := O.un x (List.mem_cons_self ..)
  (refine qc (g := W104) rfl (by omega) fun k hk => ?_; show wp (S104 (qw tab qI k) _ _ _) _; unfold S104; try simp only [iI, uU, Int.ofNat_eq_natCast])
  refine qJ (Kx (m := 96) (by omega) (by omega) H) ?_
  rintro _ h1 ⟨w0, rfl, H1⟩
  obtain ⟨sv, a, ps, e, H2⟩ := LgC.E1 (H1.sel e_1)
  rw [← e] at H2
  refine qJ (Ki (by omega) H2 .here e_1 (by have := O.deep; simp at this; omega)) ?_
  rintro _ _ ⟨rfl, rfl⟩
  obtain ⟨w, fv, H3⟩ := LvC.E (H2.sel e_2)
  with_reducible (refine qC ?_; refine qZ ?_; refine qv (by assumption) .here (by with_unfolding_all exact rfl) ?_)
  refine qJ (XA (by omega) (H3.sel (P := WrC w 96 x.1) e_1) (by omega)) fun va h4 H4 => ?_
  refine qJ (YZ (cs := x.1) (l := []) (m := 96) (w := w0) (by omega) (H4.sel (.there (.there (.there (.there (.there (.there (Sel.skip _ .here))))))))  (.own .here) (by simp) (by omega)) ?_
  rintro _ h5 ⟨_, H5⟩
  have ht : wV 96 [] x.1 = (0, x.1) := by
    unfold wV
    rw [YW hxi (by simpa using hxl), Gq hxu, if_pos rfl]
  rw [ht] at H5
  have H6 : HS g h5 (LgC q most (x :: r) :: WrC w0 96 x.1 :: R) := by
    have H7 := LvC.I (a := a) (w := w) (fv := fv) (x := x) (H5.sub (.cons e_3 (.cons e_2 (.cons e_2 .refl))))
    refine LgC.I1 (v := sv) (a := a) (ps := ps) e ?_
    rw [← e]
    have H8 : HS g h5 (WrC w0 96 x.1 :: (qg q [.int .i64 (most : Int), sv] :: qS 119 1 (ps.length + 1) sv (xn (a :: ps)) :: LvC a x :: List.zipWith LvC ps r) ++ R) := H7.sub (.cons e_1 (.cons e_2 (.cons e_2 (.cons .here (.drop .refl)))))
    exact HS.back H8
  clear H1 H2 H3 H4 H5
  refine zO (S.sl H6.drop.drop) ?_
  refine jh (fun k s h' => ∃ (i : Nat) (c' : List Cl), s = (.int .i64 (i : Int), .int .i64 (cs.length : Int), c, .ptr w0 0, .ptr q 0, ()) ∧ i ≤ cs.length ∧ k = cs.length - i ∧ OkL most ((c', x.2) :: r) ∧
    HS g h' (LgC q most ((c', x.2) :: r) :: WrC w0 96 x.1 :: R) ∧ x5 most (x :: r) (x :: r) cs = x5 most (x :: r) ((c', x.2) :: r) (cs.drop i)) ?_ (m := cs.length) (by show _ < 1000000000; omega) ⟨0, x.1, rfl, by omega, by omega, O, H6, rfl⟩
  rintro k2 ih s h2 hih ⟨i, c', rfl, h1, rfl, O', H, hT⟩
  dsimp only
  refine zW (fun hlt => qx ?_) fun hge => qK (qE (qz ?_))
  · have hi : i < cs.length := by omega
    have hci : cs[i]? = some cs[i] := List.getElem?_eq_getElem hi
    refine z7 (l := jO cs[i]) (S.sl H.drop.drop) hi (by omega) (Jk hci) ?_
    refine jx H rfl fun b h3 H3 => js H3 .here rfl (by show 0 + 2 ≤ 2; omega) rfl fun h4 H4 => ?_
    have H5 : HS g h4 (qg b (jO cs[i]) :: LgC q most ((c', x.2) :: r) :: WrC w0 96 x.1 :: R) := H4
    unfold jO at H5
    with_reducible (refine qZ ?_; refine qv (by assumption) .here (by with_unfolding_all exact rfl) ?_; refine qZ ?_; refine qv (by assumption) .here (by with_unfolding_all exact rfl) ?_)
    refine qJ (MI (by omega) H5.drop O') ?_
    rintro _ h6 ⟨rfl, H6⟩
    rw [List.drop_eq_getElem_cons hi, yu] at hT
    have O2 := (Kj (p := cs[i].1) (v := cs[i].2) O').1
    obtain ⟨c2, hc2⟩ := JI (most := most) (x := (c', x.2)) (r := r) (p := cs[i].1) (v := cs[i].2)
    refine xz (fun hne => qx ?_) fun he => qK (qU (by omega) ?_)
    · have hne : ¬ (vP most ((c', x.2) :: r) cs[i].1 cs[i].2).1 = 0 := by simpa using hne
      rw [if_neg hne] at hT
      rw [hc2] at H6
      obtain ⟨sv, a, ps, e, H7⟩ := LgC.E1 H6
      rw [← e] at H7
      refine qJ (Ki (by omega) H7 .here e_1 (by have := O.deep; simp at this; omega)) ?_
      rintro _ _ ⟨rfl, rfl⟩
      obtain ⟨w, fv, H8⟩ := LvC.E (H7.sel e_2)
      with_reducible (refine qC ?_; refine qZ ?_)
      refine jB H8 .here ⟨rfl, rfl⟩ (by simp) fun h9 H9 => qE (qz ?_)
      rw [hT]
      refine ⟨rfl, LgC.I1 (v := sv) (a := a) (ps := ps) e ?_⟩
      rw [← e]
      obtain ⟨T, sT, uT⟩ : ∃ T, Sel (List.zipWith LvC ps r ++ WrC w0 96 x.1 :: R) (WrC w0 96 x.1) T ∧ T = List.zipWith LvC ps r ++ R := ⟨_, Sel.skip _ .here, rfl⟩
      subst uT
      have H10 := LvC.I (a := a) (w := w0) (fv := fv) (x := x) (H9.sub (.cons .here (.cons (.there (.there (.there (.there sT)))) (.cons e_1 (.drop .refl)))))
      exact H10.sub (.cons e_1 (.cons e_1 (.refl)))
    · have he' : (vP most ((c', x.2) :: r) cs[i].1 cs[i].2).1 = 0 := by simpa using he
      rw [if_pos he', hc2] at hT
      rw [hc2] at H6 O2
      exact hih (cs.length - (i + 1)) _ _ (by omega) ⟨i + 1, c2, rfl, by omega, rfl, O2, H6, hT⟩
  · rw [List.drop_of_length_le (by omega)] at hT
    have hT : x5 most (x :: r) (x :: r) cs = (0, (c', x.2) :: r) := hT
    rw [hT]
    exact ⟨rfl, H.sub (.cons .here (.drop .refl))⟩
theorem NO {n q most : Nat} (hn : 1 ≤ n) {lv : List LvM} (H : HS g h (LgC q most lv :: R)) :
    wp (qw tab qI n (.fn 43 [] []) [.ptr q 0] h) fun v h' => v = .int .i64 (lv.length : Int) ∧ h' = h := by
  (refine qc (g := W43) rfl (by omega) fun k hk => ?_; show wp (S43 (qw tab qI k) _ _) _; unfold S43; try simp only [iI, uU, Int.ofNat_eq_natCast])
  obtain ⟨v, ps, e, H⟩ := LgC.E H
  with_reducible (refine qC ?_; refine qZ ?_; refine qv (by assumption) .here (by with_unfolding_all exact rfl) ?_; refine jg (by assumption) e_1 ?_)
  exact qz ⟨rfl, rfl⟩
theorem Vy : ∀ (lv : List LvM) (out : List Cl), (lv.foldl (fun out x => zy x.1 out) out).length ≤ out.length + xK lv := by
  intro lv
  induction lv with
  | nil => intro out; simp
  | cons x r ih =>
    intro out
    have h1 := ih (zy x.1 out)
    have h2 := JV (cs := out) (l := x.1)
    rw [List.foldl_cons, xj]
    omega
theorem M7 : ∀ (lv : List LvM) (out : List Cl), InC out → (∀ x ∈ lv, InC x.1) → InC (lv.foldl (fun out x => zy x.1 out) out) := by
  intro lv
  induction lv with
  | nil => intro out h _; exact h
  | cons x r ih => intro out h hx; exact ih _ ((hx x (List.mem_cons_self ..)).puts h) fun y hy => hx y (List.mem_cons_of_mem _ hy)
theorem Nc (l1 l2 : List LvM) : xK (l1 ++ l2) = xK l1 + xK l2 := by simp [xK]
theorem Ov {n q most : Nat} (hn : 9 ≤ n) {lv : List LvM} (H : HS g h (LgC q most lv :: R)) (O : OkL most lv) :
    wp (qw tab qI n (.fn 41 [] []) [.ptr q 0] h) fun v h' => HS g h' (qS 48 2 (jY lv).length v ((jY lv).flatMap jO) :: LgC q most lv :: R) := by
  (refine qc (g := W41) rfl (by omega) fun k hk => ?_; show wp (S41 (qw tab qI k) _ _) _; unfold S41; try simp only [iI, uU, Int.ofNat_eq_natCast])
  obtain ⟨v, ps, e, H⟩ := LgC.E H
  have hd := O.deep
  have hle := O.le
  have hhe := O.held
  refine jP (H.nils (e := 48) (sz := 2)) ⟨rfl, rfl⟩ fun b1 h1 H => ?_
  with_reducible (refine qC ?_; refine qZ ?_; refine qv (by assumption) e_2 (by with_unfolding_all exact rfl) ?_)
  refine qJ (J1 (by omega) (H.one e_3) H) ?_
  rintro _ h4 ⟨b4, rfl, H⟩
  have H5 := (H.newBlk .dfd).newBlk (.loop .ready none 41 [1, 1, 0, 1, 0] [3] [.ptr b1 0] h4.nx)
  generalize (h4.new .dfd).nx = l at H5 ⊢
  generalize h4.nx = d at H5 ⊢
  obtain ⟨k2, rfl⟩ : ∃ k2, k = k2 + 1 := ⟨k - 1, by omega⟩
  refine Uv (MA (b0 := b4) (v := v) (ps := ps)
    (Inv := fun i h' => ∃ ov, HS g h' (vC l (.loop .ready none 41 [1, 1, 0, 1, 0] [3] [.ptr b1 0] d) :: vC d .dfd :: qg b4 [v] :: qg b1 [ov] :: qS 48 2 (jY (lv.take i)).length ov ((jY (lv.take i)).flatMap jO) ::
      qg q [.int .i64 (most : Int), v] :: qS 119 1 lv.length v (xn ps) :: (List.zipWith LvC ps lv ++ R)))
    (Fin := fun _ => False) ?_ ?_ (by omega) ⟨.nils, H5⟩) ?_
  · rintro i h' ⟨ov, H⟩
    obtain ⟨et, A⟩ := H.obj (b := b4) e_2
    exact ⟨A.at 0, e ▸ H.sl e_6⟩
  · rintro i a h' ha ⟨ov, H⟩
    have hi := (List.getElem?_eq_some_iff.1 ha).1
    have hx : lv[i]? = some (lv[i]'(by omega)) := List.getElem?_eq_getElem _
    have hm : lv[i]'(by omega) ∈ lv := List.getElem_mem _
    generalize lv[i]'(by omega) = x at hx hm
    have hxl := O.len hm
    have hxi := O.ins x hm
    have hxu := O.un x hm
    have hml : (jY (lv.take i)).length + x.1.length ≤ 96 := by
      have h1 := Vy (lv.take i) []
      have h2 : xK lv = xK (lv.take i) + (x.1.length + xK (lv.drop (i + 1))) := by
        rw [← xj, ← Nc]
        congr 1
        have h3 : lv.drop i = x :: lv.drop (i + 1) := by
          have hi' : i < lv.length := by omega
          rw [List.drop_eq_getElem_cons hi']
          rw [List.getElem?_eq_getElem hi'] at hx
          rw [Option.some.inj hx]
        rw [← h3, List.take_append_drop]
      unfold jY
      simp at h1
      omega
    have hmi : InC (jY (lv.take i)) := M7 _ _ (fun c hc => by cases hc) fun y hy => O.ins y (List.mem_of_mem_take hy)
    have hms : jY (lv.take (i + 1)) = zy x.1 (jY (lv.take i)) := by
      unfold jY
      rw [List.take_add_one, hx, Option.toList_some, List.foldl_append]; rfl
    refine K7 (H.blk .here) (w := V0) rfl (by omega) fun k3 hk3 => ?_
    show wp (B0 _ _ _ (.int .i64 ((ps.length - 1 - i : Nat) : Int)) _ _) _
    unfold B0
    try simp only [iI, uU, Int.ofNat_eq_natCast]
    refine Kn H .here fun h6 H => ?_
    refine qJ (Kx (m := 96) (by omega) (by omega) H) ?_
    rintro _ h7 ⟨w0, rfl, H⟩
    obtain ⟨T, s⟩ := Xv (R := R) ha hx
    obtain ⟨w, fv, H7⟩ := LvC.E (H.sel (.there (.there (.there (.there (.there (.there (.there (.there s)))))))))
    with_reducible (refine qC ?_; refine qZ ?_; refine qv (by assumption) .here (by with_unfolding_all exact rfl) ?_)
    refine qJ (XA (by omega) (H7.sel (P := WrC w 96 x.1) e_1) (by omega)) fun va h8 H8 => ?_
    refine qJ (YZ (cs := x.1) (l := []) (m := 96) (w := w0) (by omega) (H8.sel (P := WrC w0 96 []) e_4) (.own .here) (by simp) (by omega)) ?_
    rintro _ h9 ⟨_, H9⟩
    have ht : wV 96 [] x.1 = (0, x.1) := by
      unfold wV
      rw [YW hxi (by simpa using hxl), Gq hxu, if_pos rfl]
    rw [ht] at H9
    dsimp only at H9
    with_reducible (refine qv (by assumption) e_8 (by with_unfolding_all exact rfl) ?_)
    have ht2 : wV 96 x.1 (jY (lv.take i)) = (0, zy x.1 (jY (lv.take i))) := by
      unfold wV
      rw [YW hmi (by omega), if_pos rfl]
    have S2 : Rd g _ 2 (jY (lv.take i)).length ov ((jY (lv.take i)).flatMap jO) := H9.drop.rd (L := qS 48 2 x.1.length va (x.1.flatMap jO) :: WrC w 96 x.1 :: qg a [.ptr w 0, fv] :: qS 3 1 x.2.length fv (x.2.map (.int .i64)) ::
      vC l (.loop .busy none 41 [1, 1, 0, 1, 0] [3] [.ptr b1 0] d) :: vC d .dfd :: qg b4 [v] :: qg b1 [ov] :: qS 48 2 (jY (lv.take i)).length ov ((jY (lv.take i)).flatMap jO) ::
      qg q [.int .i64 (most : Int), v] :: qS 119 1 lv.length v (xn ps) :: T) e_8
    refine qJ (YZ (by omega) H9 S2 (by omega) (by omega)) ?_
    rintro _ h10 ⟨_, H10⟩
    rw [ht2] at H10
    dsimp only at H10
    have hpl := JV (cs := jY (lv.take i)) (l := x.1)
    refine qJ (XA (by omega) H10 (by omega)) fun vb h11 H11 => ?_
    refine jB H11 (b := b1) e_9 (H11.one .here) (by simp) fun h12 H12 => Mn H12 e_7 fun h13 H13 => .inl ⟨rfl, vb, ?_⟩
    rw [hms]
    have H14 := LvC.I (a := a) (w := w) (fv := fv) (x := x) (R := vC l (.loop .ready none 41 [1, 1, 0, 1, 0] [3] [.ptr b1 0] d) :: vC d .dfd :: qg b4 [v] :: qg b1 [vb] ::
      qS 48 2 (zy x.1 (jY (lv.take i))).length vb ((zy x.1 (jY (lv.take i))).flatMap jO) :: qg q [.int .i64 (most : Int), v] :: qS 119 1 lv.length v (xn ps) :: T) (H13.sub (.cons e_6 (.cons e_5 (.cons e_5 (.cons .here (.cons e_4 (.cons e_4 (.cons .here (.cons .here (.cons e_3 (.cons e_3 (.drop (.drop (.drop (.refl)))))))))))))))
    exact HS.unsel (.there (.there (.there (.there (.there (.there (.there s))))))) H14
  · rintro _ h6 (⟨ov, H⟩ | hF)
    · rw [List.take_of_length_le (by omega)] at H
      refine KD H .here (fun h => by cases h) fun h7 H => K5 ?_
      with_reducible (refine qv (by assumption) e_3 (by with_unfolding_all exact rfl) ?_)
      refine Jm H e_1 fun h10 H => qz ?_
      exact (LgC.I (v := v) (ps := ps) e (HS.back (A := _ :: _ :: List.zipWith LvC ps lv) (H.sub (L' := qS 48 2 (jY lv).length ov ((jY lv).flatMap jO) :: qg q [.int .i64 (most : Int), v] ::
        qS 119 1 lv.length v (xn ps) :: (List.zipWith LvC ps lv ++ R)) (.cons e_4 (.cons e_4 (.cons e_4 (.drop (.drop (.drop (.drop (.refl))))))))))).sub (.cons e_1 (.refl))
    · exact hF.elim
end Go.Proofs.YtpohfcljfemhlaaGreat
namespace Go.Proofs.YtpohfcljfemhlaaGreat
open Go Go.Ae
set_option maxRecDepth 100000
variable {g h : AH} {L R : List SP}
structure VM where
  sz : Nat
  K : List Cl
  most : Nat
  lv : List LvM
  need : Int
structure OkV (M : VM) : Prop where
  lo : 32 ≤ M.sz
  hi : M.sz ≤ 256
  lvs : OkL M.most M.lv
  ins : ∀ c ∈ M.K, 1 ≤ c.1 ∧ c.1 < M.sz
  un : UnC M.K
  fr : ∀ x ∈ M.lv, x.2.length < 100000
def gg (M : VM) (p x : Int) : Int × VM :=
  if 1 ≤ p ∧ p < M.sz then match jF p M.K with
    | some y => (if y = x then 0 else 14, M)
    | none => (0, { M with K := M.K ++ [(p, x)] })
  else (2, M)
def qM (M : VM) (p : Int) : (Int × Int) × VM :=
  if 1 ≤ p ∧ p < M.sz then match kF p M.lv with
    | some x => ((x, 0), M)
    | none => match jF p M.K with
      | some x => ((x, 0), M)
      | none => ((0, 11), { M with need := p })
  else ((0, 2), M)
def jw (M : VM) (cs : List Cl) : Int × VM :=
  if ∀ c ∈ cs, 1 ≤ c.1 ∧ c.1 < M.sz then ((x5 M.most M.lv M.lv cs).1, { M with lv := (x5 M.most M.lv M.lv cs).2 }) else (2, M)
def freeV (M : VM) (b : Int) : VM := { M with lv := Qv M.lv b }
def qKd (M : VM) : Int × VM := ((JK M.lv).1, { M with lv := (JK M.lv).2 })
theorem Yw : ∀ (n : Nat) (l : List Int), l.Nodup → (∀ x ∈ l, 0 ≤ x ∧ x < n) → l.length ≤ n := by
  intro n
  induction n with
  | zero =>
    intro l _ h
    cases l with
    | nil => exact Nat.le_refl _
    | cons x l => have := h x (List.mem_cons_self ..); omega
  | succ n ih =>
    intro l hd h
    by_cases hx : (n : Int) ∈ l
    · have := ih (l.erase n) (hd.erase _) (fun x hx' => by
        have h1 := h x (List.mem_of_mem_erase hx')
        have h2 : x ≠ n := by rintro rfl; exact (List.Nodup.not_mem_erase hd) hx'
        omega)
      rw [List.length_erase_of_mem hx] at this
      omega
    · have := ih l hd (fun x hx' => by
        have h1 := h x hx'
        have h2 : x ≠ n := by rintro rfl; exact hx hx'
        omega)
      omega
theorem OkV.klen {M : VM} (O : OkV M) : M.K.length ≤ 256 := by
  have hu : (M.K.map (·.1)).Nodup := O.un
  have := Yw M.sz _ hu (fun x hx => by
    obtain ⟨c, hc, rfl⟩ := List.mem_map.1 hx
    have := O.ins c hc
    omega)
  rw [List.length_map] at this
  have := O.hi
  omega
def wG (f : Int × Bool) : List AV := [.int .u64 f.1, .bool f.2]
def yS (K : List Cl) (i : Nat) : Int × Bool := match jF (i : Int) K with | some x => (x, true) | none => (0, false)
def xq (sz : Nat) (K : List Cl) : List (Int × Bool) := (List.range sz).map (yS K)
theorem wi (sz : Nat) (K : List Cl) : (xq sz K).length = sz := by simp [xq]
theorem gB {sz : Nat} {K : List Cl} {i : Nat} (hi : i < sz) : (xq sz K)[i]? = some (yS K i) := by simp [xq, List.getElem?_range hi]
theorem k0 {α : Type} {sz : Nat} {enc : α → List AV} (he : ∀ a, (enc a).length = sz) {l : List α} {i : Nat} {a : α} (h : l[i]? = some a) : ((l.flatMap enc).drop (i * sz)).take sz = enc a := by
  obtain ⟨hi, e⟩ := List.getElem?_eq_some_iff.1 h
  rw [xU (sz := sz) enc he, List.drop_eq_getElem_cons hi, e, List.flatMap_cons, ← he a, List.take_left]
theorem Mi {α : Type} {sz : Nat} {enc : α → List AV} (he : ∀ a, (enc a).length = sz) {l : List α} {i : Nat} {a : α} (hi : i < l.length) : w5 (l.flatMap enc) (i * sz) (enc a) = (l.set i a).flatMap enc := by
  have h1 : (l.flatMap enc).take (i * sz) = (l.take i).flatMap enc := by
    have e1 : l.flatMap enc = (l.take i).flatMap enc ++ (l.drop i).flatMap enc := by rw [← List.flatMap_append, List.take_append_drop]
    have e2 : ((l.take i).flatMap enc).length = i * sz := by rw [gw (sz := sz) enc he, List.length_take, Nat.min_eq_left (by omega)]
    rw [e1, ← e2, List.take_left]
  have h2 : (l.flatMap enc).drop (i * sz + sz) = (l.drop (i + 1)).flatMap enc := by
    rw [show i * sz + sz = (i + 1) * sz by rw [Nat.add_mul, Nat.one_mul], xU (sz := sz) enc he]
  unfold w5
  rw [he, h1, h2, List.set_eq_take_append_cons_drop, if_pos hi, List.flatMap_append, List.flatMap_cons, List.append_assoc]
theorem N4 {α : Type} {enc : α → List AV} {a : α} : ∀ n, yv (enc a) n = (List.replicate n a).flatMap enc := by
  intro n
  induction n with
  | zero => rfl
  | succ n ih => rw [yv, ih, List.replicate_succ, List.flatMap_cons]
theorem V7 (sz : Nat) : xq sz [] = List.replicate sz (0, false) := by
  unfold xq
  rw [show yS [] = fun _ => ((0, false) : Int × Bool) from rfl, List.map_const', List.length_range]
theorem Vq {sz : Nat} {K : List Cl} {i : Nat} {x : Int} (hi : i < sz) (hn : jF (i : Int) K = none) : xq sz (K ++ [((i : Int), x)]) = (xq sz K).set i (x, true) := by
  have e : ∀ j : Nat, jF (j : Int) (K ++ [((i : Int), x)]) = if j = i then some x else jF (j : Int) K := by
    intro j
    rw [← wM hn, Jv]
    by_cases h : j = i
    · rw [if_pos h, if_pos (by rw [h])]
    · rw [if_neg h, if_neg (by omega)]
  apply List.ext_getElem?
  intro j
  rw [List.getElem?_set, wi]
  by_cases hj : j < sz
  · rw [gB hj]
    by_cases h : i = j
    · subst h; rw [if_pos rfl, if_pos hi]; unfold yS; rw [e, if_pos rfl]
    · rw [if_neg h, gB hj]; unfold yS; rw [e, if_neg (by omega)]
  · rw [List.getElem?_eq_none (by rw [wi]; omega), if_neg (by omega), List.getElem?_eq_none (by rw [wi]; omega)]
def ViewC (v : Nat) (M : VM) : SP := .ex fun fv => .ex fun ov => .ex fun q => .ex fun e => .all [qg v [fv, ov, .ptr q 0, .int .i64 M.need], qS e 2 M.sz fv ((xq M.sz M.K).flatMap wG),
  qS 3 1 M.K.length ov (M.K.map fun c => .int .i64 c.1), LgC q M.most M.lv]
theorem ViewC.E {v : Nat} {M : VM} (H : HS g h (ViewC v M :: R)) : ∃ fv ov q e, HS g h (qg v [fv, ov, .ptr q 0, .int .i64 M.need] :: qS e 2 M.sz fv ((xq M.sz M.K).flatMap wG) ::
    qS 3 1 M.K.length ov (M.K.map fun c => .int .i64 c.1) :: LgC q M.most M.lv :: R) := by
  obtain ⟨fv, H⟩ := H.exE
  obtain ⟨ov, H⟩ := H.exE
  obtain ⟨q, H⟩ := H.exE
  obtain ⟨e, H⟩ := H.exE
  exact ⟨fv, ov, q, e, H.allE⟩
theorem ViewC.I {v : Nat} {M : VM} {fv ov : AV} {q : Nat} {e : TypeId} (H : HS g h (qg v [fv, ov, .ptr q 0, .int .i64 M.need] :: qS e 2 M.sz fv ((xq M.sz M.K).flatMap wG) ::
    qS 3 1 M.K.length ov (M.K.map fun c => .int .i64 c.1) :: LgC q M.most M.lv :: R)) : HS g h (ViewC v M :: R) :=
  HS.exI fv (HS.exI ov (HS.exI q (HS.exI e (HS.allI H))))
def szZ (n : Int) : Nat := (max 32 (min n 256)).toNat
theorem Jt (n : Int) : 32 ≤ szZ n ∧ szZ n ≤ 256 := by unfold szZ; omega
def V4 (words most : Int) : VM := ⟨szZ words, [], (max 0 (min most 96)).toNat, [([], [])], 0⟩
theorem G1 {m : Nat} (hm : m ≤ 96) : OkL m [([], [])] := ⟨by simp [xK], hm, by intro x hx; simp at hx; subst hx; intro c hc; simp at hc, by intro x hx; simp at hx; subst hx; exact List.nodup_nil, by simp, by simp⟩
theorem KG {n : Nat} (hn : 4 ≤ n) {w m : Int} (H : HS g h R) : wp (qw tab qI n (.fn 11 [] []) [.int .i64 w, .int .i64 m] h) fun r h' => ∃ v, r = .ptr v 0 ∧ HS g h' (ViewC v (V4 w m) :: R) := by
  (refine qc (g := W11) rfl (by omega) fun k hk => ?_; show wp (S11 (qw tab qI k) _ _ _) _; unfold S11; try simp only [iI, uU, Int.ofNat_eq_natCast])
  refine y3 (yH ?_)
  have hb := Jt w
  rw [show max ((32 : Nat) : Int) (min w ((256 : Nat) : Int)) = ((szZ w : Nat) : Int) by unfold szZ; omega]
  refine Jq (sz := 2) H rfl (Nat.le_refl _) (by omega) fun fv h2 H2 => ?_
  refine qJ (qXa (by omega) H2) ?_
  rintro _ h3 ⟨q, rfl, H3⟩
  have h1 := H3.one e_1
  refine ql (l := [fv, .nils, .ptr q 0, .int .i64 0]) (by unfold kQ; rw [h1.1]; rfl) ?_
  refine jx H3 (by show (fv.one && (true && (true && (true && true)))) = true; rw [h1.2]; rfl) fun v h4 H4 => qz ⟨v, rfl, ?_⟩
  rw [List.take_of_length_le (by rw [gF]; exact Nat.le_refl _), show yv [AV.int .u64 ((0 : Nat) : Int), AV.bool false] (szZ w) = (xq (szZ w) []).flatMap wG by rw [V7, ← N4]; rfl] at H4
  exact ViewC.I (M := V4 w m) ((H4.nils (e := 3) (sz := 1)).sub (.cons e_1 (.cons e_2 (.cons .here (.cons .here (.refl))))))
theorem kV {n : Nat} (hn : 1 ≤ n) {v : Nat} {M : VM} (H : HS g h (ViewC v M :: R)) : wp (qw tab qI n (.fn 37 [] []) [.ptr v 0] h) fun r h' => r = .int .i64 (M.sz : Int) ∧ h' = h := by
  (refine qc (g := W37) rfl (by omega) fun k hk => ?_; show wp (S37 (qw tab qI k) _ _) _; unfold S37; try simp only [iI, uU, Int.ofNat_eq_natCast])
  obtain ⟨fv, ov, q, e, H⟩ := ViewC.E H
  with_reducible (refine qC ?_; refine qZ ?_; refine qv (by assumption) .here (by with_unfolding_all exact rfl) ?_; refine jg (by assumption) e_1 ?_)
  exact qz ⟨rfl, rfl⟩
theorem KA {n : Nat} (hn : 1 ≤ n) {v : Nat} {M : VM} {p : Int} (H : HS g h (ViewC v M :: R)) : wp (qw tab qI n (.fn 44 [] []) [.ptr v 0, .int .i64 p] h) fun r h' => r = .bool (decide (1 ≤ p ∧ p < M.sz)) ∧ h' = h := by
  (refine qc (g := W44) rfl (by omega) fun k hk => ?_; show wp (S44 (qw tab qI k) _ _ _) _; unfold S44; try simp only [iI, uU, Int.ofNat_eq_natCast])
  obtain ⟨fv, ov, q, e, H⟩ := ViewC.E H
  by_cases h1 : 1 ≤ p
  · with_reducible (refine zl (by omega) ?_; refine qk ?_; (try dsimp only); refine qh ?_; (try dsimp only); refine qC ?_; refine qZ ?_; refine qv (by assumption) .here (by with_unfolding_all exact rfl) ?_; refine jg (by assumption) e_1 ?_)
    refine wJ ?_
    with_reducible (refine qR ?_)
    refine qz ⟨?_, rfl⟩
    congr 1
    exact decide_eq_decide.2 ⟨fun h2 => ⟨h1, h2⟩, fun h2 => h2.2⟩
  · with_reducible (refine zh (by omega) ?_; refine qk ?_; (try dsimp only); refine jy ?_; (try dsimp only); refine qb ?_)
    exact qz ⟨by rw [decide_eq_false (fun h2 => h1 h2.1)], rfl⟩
theorem qQc {M : VM} {p x : Int} (O : OkV M) : OkV (gg M p x).2 := by
  unfold gg
  split
  · rename_i hp
    split
    · exact O
    · rename_i hn
      refine ⟨O.lo, O.hi, O.lvs, ?_, ?_, O.fr⟩
      · intro c hc
        rcases List.mem_append.1 hc with hc | hc
        · exact O.ins c hc
        · rw [List.mem_singleton] at hc; subst hc; exact hp
      · have := O.un.put (p := p) (v := x)
        rw [wM hn] at this
        exact this
  · exact O
theorem Qs {n : Nat} (hn : 2 ≤ n) {v : Nat} {M : VM} {p x : Int} (H : HS g h (ViewC v M :: R)) (O : OkV M) :
    wp (qw tab qI n (.fn 20 [] []) [.ptr v 0, .int .i64 p, .int .u64 x] h) fun r h' => r = .int .i64 (gg M p x).1 ∧ HS g h' (ViewC v (gg M p x).2 :: R) := by
  (refine qc (g := W20) rfl (by omega) fun k hk => ?_; show wp (S20 (qw tab qI k) _ _ _ _) _; unfold S20; try simp only [iI, uU, Int.ofNat_eq_natCast])
  refine qJ (KA (by omega) H) ?_
  rintro _ _ ⟨rfl, rfl⟩
  have hO := O.hi
  unfold gg
  by_cases hp : 1 ≤ p ∧ p < M.sz
  · rw [if_pos hp]
    rw [decide_eq_true hp]
    obtain ⟨i, rfl⟩ : ∃ i : Nat, p = (i : Int) := ⟨p.toNat, by omega⟩
    have hi : i < M.sz := by omega
    have hH := H
    obtain ⟨fv, ov, q, e, H⟩ := ViewC.E H
    with_reducible (refine jb ?_; refine qK ?_; refine qC ?_; refine qZ ?_; refine qv (by assumption) .here (by with_unfolding_all exact rfl) ?_)
    refine z7 (l := wG (yS M.K i)) (H.sl e_1) hi (by omega) (k0 (enc := wG) (sz := 2) (fun _ => rfl) (gB hi)) ?_
    refine jx H rfl fun b h3 H3 => js H3 .here rfl (by show 0 + 2 ≤ 2; omega) rfl fun h4 H4 => ?_
    have H5 : HS g h4 (qg b (wG (yS M.K i)) :: qg v [fv, ov, .ptr q 0, .int .i64 M.need] :: qS e 2 M.sz fv ((xq M.sz M.K).flatMap wG) ::
      qS 3 1 M.K.length ov (M.K.map fun c => .int .i64 c.1) :: LgC q M.most M.lv :: R) := H4
    unfold wG at H5
    cases hg : jF (i : Int) M.K with
    | some y =>
      rw [show yS M.K i = (y, true) by unfold yS; rw [hg]] at H5
      with_reducible (refine qZ ?_; refine qv (by assumption) .here (by with_unfolding_all exact rfl) ?_; refine qx ?_; refine qZ ?_; refine qv (by assumption) .here (by with_unfolding_all exact rfl) ?_)
      have H6 := ViewC.I (H5.drop)
      by_cases hy : y = x
      · with_reducible (refine jE (by omega) ?_; refine qK ?_)
        refine qz ⟨by dsimp only; rw [if_pos hy]; rfl, H6⟩
      · with_reducible (refine jo (by omega) ?_; refine qx ?_)
        refine qz ⟨by dsimp only; rw [if_neg hy]; rfl, H6⟩
    | none =>
      rw [show yS M.K i = (0, false) by unfold yS; rw [hg]] at H5
      have hkl := O.klen
      with_reducible (refine qZ ?_; refine qv (by assumption) .here (by with_unfolding_all exact rfl) ?_; refine qK ?_; refine qC ?_; refine qZ ?_; refine qv (by assumption) e_1 (by with_unfolding_all exact rfl) ?_; refine ql (by with_unfolding_all exact rfl) ?_)
      refine Zg (l := [.int .u64 x, .bool true]) (H5.drop.sel (P := qS e 2 M.sz fv ((xq M.sz M.K).flatMap wG)) e_1) hi rfl rfl fun h6 H6 => ?_
      rw [show w5 ((xq M.sz M.K).flatMap wG) (i * 2) [AV.int .u64 x, AV.bool true] = (xq M.sz (M.K ++ [((i : Int), x)])).flatMap wG by
        rw [Vq hi hg, ← Mi (enc := wG) (sz := 2) (fun _ => rfl) (by rw [wi]; exact hi)]; rfl] at H6
      with_reducible (refine qC ?_; refine qZ ?_; refine qv (by assumption) e_1 (by with_unfolding_all exact rfl) ?_)
      refine jp (n := 1) (l := [.int .i64 (i : Int)]) (sz := 1) H6 rfl rfl rfl rfl fun v7 h7 H7 => ?_
      refine z4 (H7.sel (P := qS 3 1 M.K.length ov (M.K.map fun c => .int .i64 c.1)) e_3) (H7.sl .here) (by omega) (by omega) rfl fun v8 h8 H8 => ?_
      with_reducible (refine qC ?_; refine qZ ?_)
      refine jB H8 e_3 (H8.one .here) (by simp) fun h9 H9 => qz ⟨rfl, ViewC.I (M := { M with K := M.K ++ [((i : Int), x)] }) (fv := fv) (ov := v8) (q := q) (e := e) ?_⟩
      rw [List.map_append, List.length_append]
      exact H9.sub (.cons .here (.cons e_2 (.cons .here (.cons e_1 (.drop (.refl))))))
  · rw [if_neg hp, decide_eq_false hp]
    with_reducible (refine jl ?_; refine qx ?_)
    exact qz ⟨rfl, H⟩
theorem vq {M : VM} {p : Int} (O : OkV M) : OkV (qM M p).2 := by
  unfold qM
  repeat' split
  all_goals exact ⟨O.lo, O.hi, O.lvs, O.ins, O.un, O.fr⟩
theorem gH {n : Nat} (hn : 9 ≤ n) {v : Nat} {M : VM} {p : Int} (H : HS g h (ViewC v M :: R)) (O : OkV M) :
    wp (qw tab qI n (.fn 81 [] []) [.ptr v 0, .int .i64 p] h) fun r h' => r = .tup [.int .u64 (qM M p).1.1, .int .i64 (qM M p).1.2] ∧ HS g h' (ViewC v (qM M p).2 :: R) := by
  (refine qc (g := W81) rfl (by omega) fun k hk => ?_; show wp (S81 (qw tab qI k) _ _ _) _; unfold S81; try simp only [iI, uU, Int.ofNat_eq_natCast])
  refine qJ (KA (by omega) H) ?_
  rintro _ _ ⟨rfl, rfl⟩
  have hO := O.hi
  unfold qM
  by_cases hp : 1 ≤ p ∧ p < M.sz
  · rw [if_pos hp]
    rw [decide_eq_true hp]
    obtain ⟨i, rfl⟩ : ∃ i : Nat, p = (i : Int) := ⟨p.toNat, by omega⟩
    have hi : i < M.sz := by omega
    obtain ⟨fv, ov, q, e, H⟩ := ViewC.E H
    with_reducible (refine jb ?_; refine qK ?_; refine qC ?_; refine qZ ?_; refine qv (by assumption) .here (by with_unfolding_all exact rfl) ?_)
    refine qJ (qZB (by omega) (H.sel (P := LgC q M.most M.lv) e_3) O.lvs) ?_
    rintro _ h2 ⟨rfl, H2⟩
    with_reducible (refine qy (by with_unfolding_all exact rfl) ?_; refine qy (by with_unfolding_all exact rfl) ?_)
    cases hl : kF (i : Int) M.lv with
    | some y =>
      simp only [Option.isSome_some, Option.getD_some]
      with_reducible (refine qx ?_)
      exact qz ⟨rfl, ViewC.I (H2.sub (.cons e_1 (.cons e_1 (.cons e_1 (.refl)))))⟩
    | none =>
      simp only [Option.isSome_none]
      with_reducible (refine qK ?_; refine qC ?_; refine qZ ?_; refine qv (by assumption) e_1 (by with_unfolding_all exact rfl) ?_)
      refine z7 (l := wG (yS M.K i)) (H2.sl e_2) hi (by omega) (k0 (enc := wG) (sz := 2) (fun _ => rfl) (gB hi)) ?_
      refine jx H2 rfl fun b h3 H3 => js H3 .here rfl (by show 0 + 2 ≤ 2; omega) rfl fun h4 H4 => ?_
      have H5 : HS g h4 (qg b (wG (yS M.K i)) :: LgC q M.most M.lv :: qg v [fv, ov, .ptr q 0, .int .i64 M.need] :: qS e 2 M.sz fv ((xq M.sz M.K).flatMap wG) ::
        qS 3 1 M.K.length ov (M.K.map fun c => .int .i64 c.1) :: R) := H4
      unfold wG at H5
      cases hg : jF (i : Int) M.K with
      | some y =>
        rw [show yS M.K i = (y, true) by unfold yS; rw [hg]] at H5
        with_reducible (refine qZ ?_; refine qv (by assumption) .here (by with_unfolding_all exact rfl) ?_; refine qx ?_; refine qZ ?_; refine qv (by assumption) .here (by with_unfolding_all exact rfl) ?_)
        exact qz ⟨rfl, ViewC.I (H5.drop.sub (.cons e_1 (.cons e_1 (.cons e_1 (.refl)))))⟩
      | none =>
        rw [show yS M.K i = (0, false) by unfold yS; rw [hg]] at H5
        with_reducible (refine qZ ?_; refine qv (by assumption) .here (by with_unfolding_all exact rfl) ?_; refine qK ?_; refine qC ?_; refine qZ ?_)
        refine jB H5 (b := v) e_2 ⟨rfl, rfl⟩ (by simp) fun h9 H9 => qz ⟨rfl, ViewC.I (M := { M with need := (i : Int) }) (fv := fv) (ov := ov) (q := q) (e := e) (H9.sub (.cons .here (.cons e_2 (.cons e_2 (.cons e_1 (.drop (.refl)))))))⟩
  · rw [if_neg hp, decide_eq_false hp]
    with_reducible (refine jl ?_; refine qx ?_)
    exact qz ⟨rfl, H⟩
theorem qZ9 {most : Nat} {lv : List LvM} {p v : Int} {n : Nat} (h : ∀ x ∈ lv, x.2.length < n) : ∀ x ∈ (vP most lv p v).2, x.2.length < n := by
  cases lv with
  | nil => exact h
  | cons y r =>
    obtain ⟨c, hc⟩ := JI (most := most) (x := y) (r := r) (p := p) (v := v)
    rw [hc]
    intro x hx
    rcases List.mem_cons.1 hx with rfl | hx
    · exact h y (List.mem_cons_self ..)
    · exact h x (List.mem_cons_of_mem _ hx)
theorem qJl {most : Nat} {was : List LvM} {n : Nat} (hw : ∀ x ∈ was, x.2.length < n) : ∀ {cs : List Cl} {lv : List LvM}, (∀ x ∈ lv, x.2.length < n) → ∀ x ∈ (x5 most was lv cs).2, x.2.length < n := by
  intro cs
  induction cs with
  | nil => intro lv h; exact h
  | cons c cs ih =>
    intro lv h
    rw [yu]
    split
    · exact ih (qZ9 h)
    · exact hw
theorem Ko {M : VM} {cs : List Cl} (O : OkV M) : OkV (jw M cs).2 := by
  unfold jw
  split
  · exact ⟨O.lo, O.hi, (Of O.lvs O.lvs rfl).1, O.ins, O.un, qJl O.fr O.fr⟩
  · exact O
theorem kz {n : Nat} (hn : 8 ≤ n) {v : Nat} {M : VM} {cs : List Cl} {c : AV} (H : HS g h (ViewC v M :: R)) (O : OkV M) (S : Rd g R 2 cs.length c (cs.flatMap jO)) (hc : cs.length < 100000) :
    wp (qw tab qI n (.fn 82 [] []) [.ptr v 0, c] h) fun r h' => r = .int .i64 (jw M cs).1 ∧ HS g h' (ViewC v (jw M cs).2 :: R) := by
  (refine qc (g := W82) rfl (by omega) fun k hk => ?_; show wp (S82 (qw tab qI k) _ _ _) _; unfold S82; try simp only [iI, uU, Int.ofNat_eq_natCast])
  refine zO (S.sl H.drop) ?_
  refine jh (fun k s h' => ∃ i : Nat, s = (.int .i64 (i : Int), .int .i64 (cs.length : Int), c, c, .ptr v 0, ()) ∧ i ≤ cs.length ∧ k = cs.length - i ∧ HS g h' (ViewC v M :: R) ∧ ∀ j, j < i → ∀ d, cs[j]? = some d → 1 ≤ d.1 ∧ d.1 < M.sz)
    ?_ (m := cs.length) (by show _ < 1000000000; omega) ⟨0, rfl, by omega, by omega, H, fun j hj => by omega⟩
  rintro k2 ih s h2 hih ⟨i, rfl, h1, rfl, H, hno⟩
  dsimp only
  refine zW (fun hlt => qx ?_) fun hge => qK ?_
  · have hi : i < cs.length := by omega
    have hci : cs[i]? = some cs[i] := List.getElem?_eq_getElem hi
    refine z7 (l := jO cs[i]) (S.sl H.drop) hi (by omega) (Jk hci) ?_
    refine jx H rfl fun b h3 H3 => js H3 .here rfl (by show 0 + 2 ≤ 2; omega) rfl fun h4 H4 => ?_
    have H5 : HS g h4 (qg b (jO cs[i]) :: ViewC v M :: R) := H4
    unfold jO at H5
    with_reducible (refine qZ ?_; refine qv (by assumption) .here (by with_unfolding_all exact rfl) ?_)
    refine qJ (KA (by omega) H5.drop) ?_
    rintro _ _ ⟨rfl, rfl⟩
    by_cases hin : 1 ≤ cs[i].1 ∧ cs[i].1 < M.sz
    · rw [decide_eq_true hin]
      with_reducible (refine jb ?_; refine qK ?_; refine qU (by omega) ?_)
      refine hih (cs.length - (i + 1)) _ _ (by omega) ⟨i + 1, rfl, by omega, rfl, H5.drop, fun j hj d hd => ?_⟩
      by_cases hj' : j < i
      · exact hno j hj' d hd
      · obtain rfl : j = i := by omega
        rw [hci] at hd; cases hd; exact hin
    · rw [decide_eq_false hin]
      with_reducible (refine jl ?_; refine qx ?_; refine qE ?_)
      unfold jw
      rw [if_neg (fun h => hin (h _ (List.getElem_mem hi)))]
      exact qz ⟨rfl, H5.drop⟩
  · have hall : ∀ d ∈ cs, 1 ≤ d.1 ∧ d.1 < M.sz := by
      intro d hd
      obtain ⟨j, hj⟩ := List.getElem?_of_mem hd
      exact hno j (by have := (List.getElem?_eq_some_iff.1 hj).1; omega) d hj
    obtain ⟨fv, ov, q, e, H⟩ := ViewC.E H
    with_reducible (refine qC ?_; refine qZ ?_; refine qv (by assumption) .here (by with_unfolding_all exact rfl) ?_)
    refine qJ (Zl (by omega) (H.sel (P := LgC q M.most M.lv) e_3) O.lvs (S.more.more.more) hc) ?_
    rintro _ h4 ⟨rfl, H4⟩
    unfold jw
    rw [if_pos hall]
    exact qE (qz ⟨rfl, ViewC.I (M := { M with lv := (x5 M.most M.lv M.lv cs).2 }) (fv := fv) (ov := ov) (q := q) (e := e) (H4.sub (.cons e_1 (.cons e_1 (.cons e_1 (.refl)))))⟩)
theorem Um {n : Nat} (hn : 3 ≤ n) {v : Nat} {M : VM} {b : Int} (H : HS g h (ViewC v M :: R)) (O : OkV M) :
    wp (qw tab qI n (.fn 83 [] []) [.ptr v 0, .int .i64 b] h) fun _ h' => HS g h' (ViewC v (freeV M b) :: R) := by
  (refine qc (g := W83) rfl (by omega) fun k hk => ?_; show wp (S83 (qw tab qI k) _ _ _) _; unfold S83; try simp only [iI, uU, Int.ofNat_eq_natCast])
  obtain ⟨fv, ov, q, e, H⟩ := ViewC.E H
  with_reducible (refine qC ?_; refine qZ ?_; refine qv (by assumption) .here (by with_unfolding_all exact rfl) ?_)
  refine qJ (qQn (by omega) (H.sel (P := LgC q M.most M.lv) e_3) O.lvs fun x hx => Nat.lt_trans (O.fr x hx) (by omega)) ?_
  intro _ h2 H2
  exact qz (ViewC.I (M := freeV M b) (fv := fv) (ov := ov) (q := q) (e := e) (H2.sub (.cons e_1 (.cons e_1 (.cons e_1 (.cons .here (.refl)))))))
theorem QY {n : Nat} (hn : 2 ≤ n) {v : Nat} {M : VM} (H : HS g h (ViewC v M :: R)) :
    wp (qw tab qI n (.fn 18 [] []) [.ptr v 0] h) fun r h' => r = .int .i64 (M.lv.length : Int) ∧ h' = h := by
  (refine qc (g := W18) rfl (by omega) fun k hk => ?_; show wp (S18 (qw tab qI k) _ _) _; unfold S18; try simp only [iI, uU, Int.ofNat_eq_natCast])
  obtain ⟨fv, ov, q, e, H⟩ := ViewC.E H
  with_reducible (refine qC ?_; refine qZ ?_; refine qv (by assumption) .here (by with_unfolding_all exact rfl) ?_)
  refine qJ (NO (by omega) (H.sel (P := LgC q M.most M.lv) e_3)) ?_
  rintro _ h2 ⟨rfl, rfl⟩
  exact qz ⟨rfl, rfl⟩
theorem Uu {n : Nat} (hn : 1 ≤ n) {v : Nat} {M : VM} (H : HS g h (ViewC v M :: R)) :
    wp (qw tab qI n (.fn 19 [] []) [.ptr v 0] h) fun r h' => r = .int .i64 M.need ∧ h' = h := by
  (refine qc (g := W19) rfl (by omega) fun k hk => ?_; show wp (S19 (qw tab qI k) _ _) _; unfold S19; try simp only [iI, uU, Int.ofNat_eq_natCast])
  obtain ⟨fv, ov, q, e, H⟩ := ViewC.E H
  with_reducible (refine qC ?_; refine qZ ?_; refine qv (by assumption) .here (by with_unfolding_all exact rfl) ?_)
  exact qz ⟨rfl, rfl⟩
theorem xf {n : Nat} (hn : 10 ≤ n) {v : Nat} {M : VM} (H : HS g h (ViewC v M :: R)) (O : OkV M) :
    wp (qw tab qI n (.fn 15 [] []) [.ptr v 0] h) fun r h' => HS g h' (qS 48 2 (jY M.lv).length r ((jY M.lv).flatMap jO) :: ViewC v M :: R) := by
  (refine qc (g := W15) rfl (by omega) fun k hk => ?_; show wp (S15 (qw tab qI k) _ _) _; unfold S15; try simp only [iI, uU, Int.ofNat_eq_natCast])
  obtain ⟨fv, ov, q, e, H⟩ := ViewC.E H
  with_reducible (refine qC ?_; refine qZ ?_; refine qv (by assumption) .here (by with_unfolding_all exact rfl) ?_)
  refine qJ (Ov (by omega) (H.sel (P := LgC q M.most M.lv) e_3) O.lvs) ?_
  intro r h2 H2
  refine qz ?_
  have H3 := ViewC.I (v := v) (M := M) (fv := fv) (ov := ov) (q := q) (e := e) (R := qS 48 2 (jY M.lv).length r ((jY M.lv).flatMap jO) :: R) (H2.sub (.cons e_2 (.cons e_2 (.cons e_2 (.cons e_1 (.refl))))))
  exact H3.sub (.cons e_1 (.refl))
theorem OJ {n : Nat} : ∀ {l : List LvM}, (∀ x ∈ l, x.2.length < n) → (l.flatMap (·.2)).length ≤ l.length * n := by
  intro l h
  induction l with
  | nil => simp
  | cons x r ih =>
    have h1 := h x (List.mem_cons_self ..)
    have h2 := ih fun y hy => h y (List.mem_cons_of_mem _ hy)
    rw [List.flatMap_cons, List.length_append, List.length_cons, Nat.add_mul, Nat.one_mul]
    omega
theorem Vp {n : Nat} {lv : List LvM} (h : ∀ x ∈ lv, x.2.length < n) : (zE lv).length ≤ lv.length * n := by
  have := OJ (l := lv.reverse) (n := n) fun x hx => h x (List.mem_reverse.1 hx)
  rw [List.length_reverse] at this
  exact this
theorem vp {n : Nat} (hn : 2 ≤ n) {v : Nat} {M : VM} (H : HS g h (ViewC v M :: R)) (O : OkV M) :
    wp (qw tab qI n (.fn 17 [] []) [.ptr v 0] h) fun r h' => HS g h' (qS 3 1 (zE M.lv).length r ((zE M.lv).map (.int .i64)) :: ViewC v M :: R) := by
  (refine qc (g := W17) rfl (by omega) fun k hk => ?_; show wp (S17 (qw tab qI k) _ _) _; unfold S17; try simp only [iI, uU, Int.ofNat_eq_natCast])
  obtain ⟨fv, ov, q, e, H⟩ := ViewC.E H
  with_reducible (refine qC ?_; refine qZ ?_; refine qv (by assumption) .here (by with_unfolding_all exact rfl) ?_)
  have hfl := Vp O.fr
  have hd := O.lvs.deep
  refine qJ (OG (by omega) (H.sel (P := LgC q M.most M.lv) e_3) O.lvs (by omega)) ?_
  intro r h2 H2
  refine qz ?_
  have H3 := ViewC.I (v := v) (M := M) (fv := fv) (ov := ov) (q := q) (e := e) (R := qS 3 1 (zE M.lv).length r ((zE M.lv).map (.int .i64)) :: R) (H2.sub (.cons e_2 (.cons e_2 (.cons e_2 (.cons e_1 (.refl))))))
  exact H3.sub (.cons e_1 (.refl))
def qG (zs : List Int) (i : Nat) : Int := zs[i]?.getD 0
def kW (zs : List Int) : List Cl := (List.range (szZ zs.length - 1)).map fun i => (((i + 1 : Nat) : Int), qG zs (i + 1))
def zk (zs : List Int) (most : Int) : VM := ⟨szZ zs.length, kW zs, (max 0 (min most 96)).toNat, [([], [])], 0⟩
theorem QO (zs : List Int) : (kW zs).length = szZ zs.length - 1 := by simp [kW]
theorem ki (zs : List Int) {i : Nat} (hi : i + 1 < szZ zs.length) : (kW zs)[i]? = some (((i + 1 : Nat) : Int), qG zs (i + 1)) := by
  unfold kW
  rw [List.getElem?_map, List.getElem?_range (by omega)]; rfl
theorem Mx (zs : List Int) {i : Nat} {p : Int} (hp : (i : Int) < p) : jF p ((kW zs).take i) = none := by
  rw [kL]
  intro hm
  obtain ⟨c, hc, he⟩ := List.mem_map.1 hm
  obtain ⟨j, hj⟩ := List.getElem?_of_mem hc
  have hjl := (List.getElem?_eq_some_iff.1 hj).1
  simp [QO] at hjl
  rw [List.getElem?_take_of_lt (by omega), ki zs (by omega)] at hj
  cases hj
  dsimp only at he
  omega
def ky (zs : List Int) (most : Int) (i : Nat) : VM := { zk zs most with K := (kW zs).take i }
theorem MK (zs : List Int) (most : Int) (i : Nat) : OkV (ky zs most i) := by
  have hb := Jt (zs.length : Int)
  refine ⟨hb.1, hb.2, G1 (by show (max 0 (min most 96)).toNat ≤ 96; omega), ?_, ?_, by intro x hx; simp [ky, zk] at hx; subst hx; simp⟩
  · intro c hc
    obtain ⟨j, hj⟩ := List.getElem?_of_mem (List.mem_of_mem_take hc)
    have hjl := (List.getElem?_eq_some_iff.1 hj).1
    rw [QO] at hjl
    rw [ki zs (by omega)] at hj
    cases hj
    show 1 ≤ ((j + 1 : Nat) : Int) ∧ ((j + 1 : Nat) : Int) < ((szZ zs.length : Nat) : Int)
    omega
  · show ((((kW zs).take i).map (·.1))).Nodup
    refine List.Nodup.sublist ((List.take_sublist i _).map _) ?_
    unfold kW
    rw [List.map_map]
    refine List.Pairwise.map _ ?_ (List.nodup_range (n := szZ zs.length - 1))
    intro a b hab
    simp
    omega
theorem Nz (zs : List Int) (most : Int) : OkV (zk zs most) := by
  have := MK zs most (kW zs).length
  unfold ky at this
  rw [List.take_length] at this
  exact this
theorem ww {n : Nat} (hn : 5 ≤ n) {zs : List Int} {a0 : AV} {m : Int} (H : HS g h R) (S : Rd g R 1 zs.length a0 (zs.map (.int .u64))) :
    wp (qw tab qI n (.fn 12 [] []) [a0, .int .i64 m] h) fun r h' => ∃ v, r = .ptr v 0 ∧ HS g h' (ViewC v (zk zs m) :: R) := by
  (refine qc (g := W12) rfl (by omega) fun k hk => ?_; show wp (S12 (qw tab qI k) _ _ _) _; unfold S12; try simp only [iI, uU, Int.ofNat_eq_natCast])
  have hb := Jt (zs.length : Int)
  refine zO (S.sl H) ?_
  refine qJ (KG (by omega) H) ?_
  rintro _ h1 ⟨v, rfl, H1⟩
  refine jh (fun k s h' => ∃ i : Nat, s = (.int .i64 ((i + 1 : Nat) : Int), .ptr v 0, a0, ()) ∧ i + 1 ≤ szZ zs.length ∧ k = szZ zs.length - (i + 1) ∧ HS g h' (ViewC v (ky zs m i) :: R)) ?_ (m := szZ zs.length - 1) (by show _ < 1000000000; omega) ⟨0, rfl, by omega, by omega, H1⟩
  rintro k2 ih s h' hih ⟨i, rfl, h1, rfl, H⟩
  dsimp only
  refine qJ (kV (by omega) H) ?_
  rintro _ _ ⟨rfl, rfl⟩
  show wp (qB .lss _ (.int .i64 ((szZ zs.length : Nat) : Int)) _) _
  refine zW (fun hlt => qx ?_) fun hge => qK (qE (qz ⟨v, rfl, ?_⟩))
  · have hi : i + 1 < szZ zs.length := by omega
    refine z9 [] (fun s g' => s = (.int .u64 (qG zs (i + 1)), .int .i64 ((i + 1 : Nat) : Int), .ptr v 0, a0, ()) ∧ HS g g' (ViewC v (ky zs m i) :: R)) ?_ ?_
    · intro j hj
      refine zO (S.sl H.drop) ?_
      refine zW (fun hl => qx ?_) fun hl => qK ?_
      · refine xe (S.sl H.drop) (x := .int .u64 (qG zs (i + 1))) ?_ (hj _ _ ⟨rfl, H⟩)
        unfold qG
        rw [List.getElem?_map, List.getElem?_eq_getElem (by omega)]; rfl
      · refine hj _ _ ⟨?_, H⟩
        unfold qG
        rw [List.getElem?_eq_none (by omega)]; rfl
    · rintro s g' ⟨rfl, H2⟩
      dsimp only
      refine qJ (Qs (by omega) H2 (MK zs m i)) ?_
      rintro _ h4 ⟨_, H4⟩
      have hk : (gg (ky zs m i) ((i + 1 : Nat) : Int) (qG zs (i + 1))).2 = ky zs m (i + 1) := by
        unfold gg
        rw [if_pos (show 1 ≤ ((i + 1 : Nat) : Int) ∧ ((i + 1 : Nat) : Int) < ((ky zs m i).sz : Int) from ⟨by omega, show ((i + 1 : Nat) : Int) < ((szZ zs.length : Nat) : Int) by omega⟩)]
        show (match jF ((i + 1 : Nat) : Int) ((kW zs).take i) with
          | some y => (if y = qG zs (i + 1) then (0 : Int) else 14, ky zs m i)
          | none => (0, { ky zs m i with K := (kW zs).take i ++ [(((i + 1 : Nat) : Int), qG zs (i + 1))] })).2 = _
        rw [Mx zs (by omega)]
        dsimp only
        unfold ky
        rw [List.take_add_one, ki zs hi]; rfl
      rw [hk] at H4
      refine qU (by omega) (hih (szZ zs.length - (i + 1 + 1)) _ _ (by omega) ⟨i + 1, rfl, by omega, rfl, H4⟩)
  · have hi : i = (kW zs).length := by rw [QO]; omega
    subst hi
    unfold ky at H
    rw [List.take_length] at H
    exact H
end Go.Proofs.YtpohfcljfemhlaaGreat
namespace Go.Proofs.YtpohfcljfemhlaaGreat
open Go Go.Ae
set_option maxRecDepth 100000
variable {g h : AH} {L R : List SP}
theorem Sel.app {A A' : List SP} {P : SP} (s : Sel A P A') (R : List SP) : Sel (A ++ R) P (A' ++ R) := by
  induction s with
  | here => exact .here
  | there s ih => exact .there ih
theorem HS.allSel {A A' : List SP} {P : SP} (s : Sel A P A') (H : HS g h (.all A :: R)) : HS g h (P :: .all A' :: R) := by
  have H1 := (H.allE).sel (Sel.app s R)
  have H2 := HS.allI (HS.back (A := A') H1)
  exact H2.sub (.cons e_1 (.refl))
theorem HS.allUn {A A' : List SP} {P : SP} (s : Sel A P A') (H : HS g h (P :: .all A' :: R)) : HS g h (.all A :: R) := by
  have H1 : HS g h (.all A' :: P :: R) := H.sub (.cons e_1 (.refl))
  have H2 := (H1.allE).sel (Sel.skip A' .here)
  exact HS.allI (HS.unsel (Sel.app s R) H2)
def RlC (p : AV × AV) (x : LvM) : SP := .all [qS 48 2 x.1.length p.1 (x.1.flatMap jO), qS 3 1 x.2.length p.2 (x.2.map (.int .i64))]
theorem RlC.E {p : AV × AV} {x : LvM} (H : HS g h (RlC p x :: R)) : HS g h (qS 48 2 x.1.length p.1 (x.1.flatMap jO) :: qS 3 1 x.2.length p.2 (x.2.map (.int .i64)) :: R) := H.allE
theorem RlC.I {p : AV × AV} {x : LvM} (H : HS g h (qS 48 2 x.1.length p.1 (x.1.flatMap jO) :: qS 3 1 x.2.length p.2 (x.2.map (.int .i64)) :: R)) : HS g h (RlC p x :: R) := H.allI
def yy (ps : List (AV × AV)) : List AV := ps.reverse.flatMap fun p => [p.1, p.2]
theorem J6 (p : AV × AV) (ps : List (AV × AV)) : yy (p :: ps) = yy ps ++ [p.1, p.2] := by unfold yy; rw [List.reverse_cons, List.flatMap_append]; rfl
def RgC (q most : Nat) (lv : List LvM) : SP := .ex fun v => .ex fun ps : List (AV × AV) => .all [.pur (ps.length = lv.length), qg q [.int .i64 (most : Int), v], qS 185 2 lv.length v (yy ps), .all (List.zipWith RlC ps lv)]
theorem RgC.E {q most : Nat} {lv : List LvM} (H : HS g h (RgC q most lv :: R)) : ∃ v ps, ps.length = lv.length ∧ HS g h (qg q [.int .i64 (most : Int), v] :: qS 185 2 lv.length v (yy ps) :: .all (List.zipWith RlC ps lv) :: R) := by
  obtain ⟨v, H⟩ := H.exE
  obtain ⟨ps, H⟩ := H.exE
  obtain ⟨e, H⟩ := HS.purE (H.allE)
  exact ⟨v, ps, e, H⟩
theorem RgC.I {q most : Nat} {lv : List LvM} {v : AV} {ps : List (AV × AV)} (e : ps.length = lv.length) (H : HS g h (qg q [.int .i64 (most : Int), v] :: qS 185 2 lv.length v (yy ps) :: .all (List.zipWith RlC ps lv) :: R)) : HS g h (RgC q most lv :: R) :=
  HS.exI v (HS.exI ps (HS.allI (HS.purI e H)))
theorem RgC.E1 {q most : Nat} {x : LvM} {r : List LvM} (H : HS g h (RgC q most (x :: r) :: R)) : ∃ (v : AV) (p : AV × AV) (ps : List (AV × AV)), ps.length = r.length ∧ HS g h (qg q [.int .i64 (most : Int), v] :: qS 185 2 (ps.length + 1) v (yy ps ++ [p.1, p.2]) ::
    qS 48 2 x.1.length p.1 (x.1.flatMap jO) :: qS 3 1 x.2.length p.2 (x.2.map (.int .i64)) :: .all (List.zipWith RlC ps r) :: R) := by
  obtain ⟨v, ps, e, H⟩ := RgC.E H
  cases ps with
  | nil => simp at e
  | cons p ps =>
    have e' : ps.length = r.length := by simpa using e
    refine ⟨v, p, ps, e', ?_⟩
    rw [J6] at H
    have H1 : HS g h (.all (RlC p x :: List.zipWith RlC ps r) :: qg q [.int .i64 (most : Int), v] :: qS 185 2 (r.length + 1) v (yy ps ++ [p.1, p.2]) :: R) := H.sub (.cons e_2 .refl)
    have H2 := RlC.E (HS.allSel .here H1)
    rw [e']
    exact H2.sub (.cons e_3 (.cons e_3 (.refl)))
theorem RgC.I1 {q most : Nat} {x : LvM} {r : List LvM} {v : AV} {p : AV × AV} {ps : List (AV × AV)} (e : ps.length = r.length) (H : HS g h (qg q [.int .i64 (most : Int), v] :: qS 185 2 (ps.length + 1) v (yy ps ++ [p.1, p.2]) ::
    qS 48 2 x.1.length p.1 (x.1.flatMap jO) :: qS 3 1 x.2.length p.2 (x.2.map (.int .i64)) :: .all (List.zipWith RlC ps r) :: R)) : HS g h (RgC q most (x :: r) :: R) := by
  refine RgC.I (v := v) (ps := p :: ps) (by simp [e]) ?_
  rw [J6]
  have H1 := RlC.I (p := p) (x := x) (R := .all (List.zipWith RlC ps r) :: qg q [.int .i64 (most : Int), v] :: qS 185 2 (ps.length + 1) v (yy ps ++ [p.1, p.2]) :: R) (H.sub (.cons e_2 (.cons e_2 (.cons e_2 (.refl)))))
  have H2 := HS.allUn (A := RlC p x :: List.zipWith RlC ps r) .here H1
  show HS g h (_ :: qS 185 2 (r.length + 1) v _ :: .all (RlC p x :: List.zipWith RlC ps r) :: R)
  rw [← e]
  exact H2.sub (.cons e_1 (.cons e_1 (.cons .here .refl)))
theorem Up {n : Nat} (hn : 1 ≤ n) {x lo hi : Int} (hl : lo ≤ hi) : wp (qw tab qI n (.fn 119 [] []) [.int .i64 x, .int .i64 lo, .int .i64 hi] h) fun v h' => v = .int .i64 (max lo (min x hi)) ∧ h' = h := by
  (refine qc (g := W119) rfl (by omega) fun k hk => ?_; show wp (S119 (qw tab qI k) _ _ _ _) _; unfold S119; try simp only [iI, uU, Int.ofNat_eq_natCast])
  repeat' (first | with_reducible refine qx ?_ | with_reducible refine qK ?_ | (with_reducible refine qh ?_; try dsimp only) | (with_reducible refine jt ?_; try dsimp only) | (with_reducible refine jy ?_; try dsimp only) | (with_reducible refine jJ ?_; try dsimp only) | (with_reducible refine yP ?_; try dsimp only) | with_reducible refine qR ?_ | with_reducible refine qb ?_ | (with_reducible refine qk ?_; try dsimp only) | with_reducible refine qE ?_ | with_reducible refine jb ?_ | with_reducible refine jl ?_ | with_reducible refine qU (by omega) ?_ | with_reducible refine jD (by omega) ?_ | with_reducible refine x9 (by omega) ?_ | with_reducible refine y7 (by omega) ?_ | with_reducible refine y3 ?_ | with_reducible refine yH ?_ | with_reducible refine zW (fun hc => ?_) (fun hc => ?_) | with_reducible refine vI (fun hc => ?_) (fun hc => ?_) | with_reducible refine vF (fun hc => ?_) (fun hc => ?_) | with_reducible refine vQ (fun hc => ?_) (fun hc => ?_) | with_reducible refine y5 (fun hc => ?_) (fun hc => ?_) | with_reducible refine xz (fun hc => ?_) (fun hc => ?_) | with_reducible refine yL (fun hc => ?_) (fun hc => ?_))
  all_goals refine qz ⟨?_, rfl⟩
  all_goals congr 1
  all_goals omega
theorem qJE {n : Nat} (hn : 2 ≤ n) {m : Int} (H : HS g h R) : wp (qw tab qI n (.fn 120 [] []) [.int .i64 m] h) fun v h' => ∃ q, v = .ptr q 0 ∧ HS g h' (RgC q (max 0 (min m 96)).toNat [([], [])] :: R) := by
  (refine qc (g := W120) rfl (by omega) fun k hk => ?_; show wp (S120 (qw tab qI k) _ _) _; unfold S120; try simp only [iI, uU, Int.ofNat_eq_natCast])
  refine qJ (Up (by omega) (by omega)) ?_
  rintro _ _ ⟨rfl, rfl⟩
  refine Jq (sz := 2) (ln := 1) (cp := 1) H rfl (Nat.le_refl _) (by omega) fun v h3 H3 => ?_
  have h1 := H3.one .here
  refine ql (l := [.int .i64 (max ((0 : Nat) : Int) (min m ((96 : Nat) : Int))), v]) (by simp only [kQ, h1.1]; rfl) ?_
  refine jx H3 (by show (true && (v.one && true)) = true; rw [h1.2]; rfl) fun q h4 H4 => qz ⟨q, rfl, ?_⟩
  refine RgC.I1 (v := v) (p := (.nils, .nils)) (ps := []) rfl ?_
  rw [show (((max 0 (min m 96)).toNat : Nat) : Int) = max ((0 : Nat) : Int) (min m ((96 : Nat) : Int)) by omega]
  have H5 := ((HS.allI (A := []) H4).nils (e := 3) (sz := 1)).nils (e := 48) (sz := 2)
  exact H5.sub (.cons e_3 (.cons e_3 (.cons .here (.cons .here (.cons .here .refl)))))
end Go.Proofs.YtpohfcljfemhlaaGreat
namespace Go.Proofs.YtpohfcljfemhlaaGreat
open Go Go.Ae
set_option maxRecDepth 100000
variable {g h : AH} {L R : List SP}
def frS (lv : List LvM) : Nat := (lv.map fun x => x.2.length).sum
theorem yM (x : LvM) (r : List LvM) : frS (x :: r) = x.2.length + frS r := by simp [frS]
def RvC (o : Nat) (M : VM) : SP := .ex fun kv => .ex fun q => .all [qg o [.int .i64 (M.sz : Int), kv, .ptr q 0, .int .i64 M.need], qS 48 2 M.K.length kv (M.K.flatMap jO), RgC q M.most M.lv]
theorem RvC.E {o : Nat} {M : VM} (H : HS g h (RvC o M :: R)) : ∃ kv q, HS g h (qg o [.int .i64 (M.sz : Int), kv, .ptr q 0, .int .i64 M.need] :: qS 48 2 M.K.length kv (M.K.flatMap jO) :: RgC q M.most M.lv :: R) := by
  obtain ⟨kv, H⟩ := H.exE
  obtain ⟨q, H⟩ := H.exE
  exact ⟨kv, q, H.allE⟩
theorem RvC.I {o : Nat} {M : VM} {kv : AV} {q : Nat} (H : HS g h (qg o [.int .i64 (M.sz : Int), kv, .ptr q 0, .int .i64 M.need] :: qS 48 2 M.K.length kv (M.K.flatMap jO) :: RgC q M.most M.lv :: R)) : HS g h (RvC o M :: R) :=
  HS.exI kv (HS.exI q (HS.allI H))
theorem qQh {n : Nat} (hn : 3 ≤ n) {w m : Int} (H : HS g h R) : wp (qw tab qI n (.fn 112 [] []) [.int .i64 w, .int .i64 m] h) fun r h' => ∃ o, r = .ptr o 0 ∧ HS g h' (RvC o (V4 w m) :: R) := by
  (refine qc (g := W112) rfl (by omega) fun k hk => ?_; show wp (S112 (qw tab qI k) _ _ _) _; unfold S112; try simp only [iI, uU, Int.ofNat_eq_natCast])
  refine qJ (Up (by omega) (by omega)) ?_
  rintro _ _ ⟨rfl, rfl⟩
  refine qJ (qJE (by omega) H) ?_
  rintro _ h2 ⟨q, rfl, H2⟩
  refine ql rfl (jx H2 rfl fun o h4 H4 => qz ⟨o, rfl, ?_⟩)
  rw [show max ((32 : Nat) : Int) (min w ((256 : Nat) : Int)) = ((szZ w : Nat) : Int) by unfold szZ; omega] at H4
  have H5 := H4.nils (e := 48) (sz := 2)
  exact RvC.I (M := V4 w m) (kv := .nils) (q := q) (H5.sub (.cons e_1 (.cons .here (.cons .here .refl))))
theorem qX4 {n : Nat} (hn : 1 ≤ n) {o : Nat} {M : VM} {p : Int} (H : HS g h (RvC o M :: R)) : wp (qw tab qI n (.fn 95 [] []) [.ptr o 0, .int .i64 p] h) fun r h' => r = .bool (decide (1 ≤ p ∧ p < M.sz)) ∧ h' = h := by
  (refine qc (g := W95) rfl (by omega) fun k hk => ?_; show wp (S95 (qw tab qI k) _ _ _) _; unfold S95; try simp only [iI, uU, Int.ofNat_eq_natCast])
  obtain ⟨kv, q, H⟩ := RvC.E H
  by_cases h1 : 1 ≤ p
  · with_reducible (refine zl (by omega) ?_; refine qk ?_; (try dsimp only); refine qh ?_; (try dsimp only); refine qC ?_; refine qZ ?_; refine qv (by assumption) .here (by with_unfolding_all exact rfl) ?_)
    refine wJ ?_
    with_reducible (refine qR ?_)
    refine qz ⟨?_, rfl⟩
    congr 1
    exact decide_eq_decide.2 ⟨fun h2 => ⟨h1, h2⟩, fun h2 => h2.2⟩
  · with_reducible (refine zh (by omega) ?_; refine qk ?_; (try dsimp only); refine jy ?_; (try dsimp only); refine qb ?_)
    exact qz ⟨by rw [decide_eq_false (fun h2 => h1 h2.1)], rfl⟩
theorem Vr {n : Nat} (hn : 4 ≤ n) {zs : List Int} {a0 : AV} {m : Int} (H : HS g h R) (S : Rd g R 1 zs.length a0 (zs.map (.int .u64))) :
    wp (qw tab qI n (.fn 94 [] []) [a0, .int .i64 m] h) fun r h' => ∃ o, r = .ptr o 0 ∧ HS g h' (RvC o (zk zs m) :: R) := by
  (refine qc (g := W94) rfl (by omega) fun k hk => ?_; show wp (S94 (qw tab qI k) _ _ _) _; unfold S94; try simp only [iI, uU, Int.ofNat_eq_natCast])
  have hb := Jt (zs.length : Int)
  refine zO (S.sl H) ?_
  refine qJ (qQh (by omega) H) ?_
  rintro _ h1 ⟨o, rfl, H1⟩
  refine jh (fun k s h' => ∃ i : Nat, s = (.int .i64 ((i + 1 : Nat) : Int), .ptr o 0, a0, ()) ∧ i + 1 ≤ szZ zs.length ∧ k = szZ zs.length - (i + 1) ∧ HS g h' (RvC o (ky zs m i) :: R)) ?_ (m := szZ zs.length - 1) (by show _ < 1000000000; omega) ⟨0, rfl, by omega, by omega, H1⟩
  rintro k2 ih s h' hih ⟨i, rfl, h1, rfl, H⟩
  dsimp only
  have hH := H
  obtain ⟨kv, q, H⟩ := RvC.E H
  with_reducible (refine qC ?_; refine qZ ?_; refine qv (by assumption) .here (by with_unfolding_all exact rfl) ?_)
  show wp (qB .lss _ (.int .i64 ((szZ zs.length : Nat) : Int)) _) _
  refine zW (fun hlt => qx ?_) fun hge => qK (qE (qz ⟨o, rfl, ?_⟩))
  · have hi : i + 1 < szZ zs.length := by omega
    have hkt : ((kW zs).take i).length = i := by rw [List.length_take, QO]; omega
    refine z9 [] (fun s g' => s = (.int .u64 (qG zs (i + 1)), .int .i64 ((i + 1 : Nat) : Int), .ptr o 0, a0, ()) ∧ g' = h') ?_ ?_
    · intro j hj
      refine zO (S.sl hH.drop) ?_
      refine zW (fun hl => qx ?_) fun hl => qK ?_
      · refine xe (S.sl hH.drop) (x := .int .u64 (qG zs (i + 1))) ?_ (hj _ _ ⟨rfl, rfl⟩)
        unfold qG
        rw [List.getElem?_map, List.getElem?_eq_getElem (by omega)]; rfl
      · refine hj _ _ ⟨?_, rfl⟩
        unfold qG
        rw [List.getElem?_eq_none (by omega)]; rfl
    · rintro s g' ⟨rfl, rfl⟩
      dsimp only
      with_reducible (refine qC ?_; refine qZ ?_; refine qv (by assumption) .here (by with_unfolding_all exact rfl) ?_; refine ql (by with_unfolding_all exact rfl) ?_)
      refine jp (n := 1) (l := [.int .i64 ((i + 1 : Nat) : Int), .int .u64 (qG zs (i + 1))]) (sz := 2) H rfl rfl rfl rfl fun v7 h7 H7 => ?_
      have H7' : HS g h7 (qS 48 2 1 v7 [.int .i64 ((i + 1 : Nat) : Int), .int .u64 (qG zs (i + 1))] :: qg o [.int .i64 ((szZ zs.length : Nat) : Int), kv, .ptr q 0, .int .i64 0] ::
        qS 48 2 ((kW zs).take i).length kv (((kW zs).take i).flatMap jO) :: RgC q (ky zs m i).most (ky zs m i).lv :: R) := H7
      refine z4 (H7'.sel e_2) (H7'.sl .here) (by omega) (by omega) rfl fun v8 h8 H8 => ?_
      with_reducible (refine qC ?_; refine qZ ?_)
      refine jB H8 (b := o) e_2 (H8.one .here) (by simp) fun h9 H9 => ?_
      simp only [List.set_cons_zero, List.set_cons_succ] at H9
      refine qU (by omega) (hih (szZ zs.length - (i + 1 + 1)) _ _ (by omega) ⟨i + 1, rfl, by omega, rfl, RvC.I (kv := v8) (q := q) ?_⟩)
      have e1 : (ky zs m (i + 1)).K = (kW zs).take i ++ [(((i + 1 : Nat) : Int), qG zs (i + 1))] := by
        show (kW zs).take (i + 1) = _
        rw [List.take_add_one, ki zs hi]; rfl
      rw [e1, List.flatMap_append, List.length_append]
      exact H9.sub (.cons .here (.cons .here (.drop .refl)))
  · have hi : i = (kW zs).length := by rw [QO]; omega
    subst hi
    unfold ky at hH
    rw [List.take_length] at hH
    exact hH
end Go.Proofs.YtpohfcljfemhlaaGreat
namespace Go.Proofs.YtpohfcljfemhlaaGreat
open Go Go.Ae
set_option maxRecDepth 100000
variable {g h : AH} {L R : List SP}
def jf (x : Int) : Int := if x = 1 then 2 else if x = 2 then 4 else if x = 3 then 8 else if x = 4 then 16 else 0
def jc (x : Int) : Int := if x < 1 then 0 else if x ≤ 2 then 1 else if x ≤ 4 then 2 else if x ≤ 8 then 3 else if x ≤ 16 then 4 else 0
theorem MG (x : Int) : 0 ≤ jf x ∧ jf x ≤ 16 := by unfold jf; repeat' split <;> omega
theorem U4 (x : Int) : 0 ≤ jc x ∧ jc x ≤ 4 := by unfold jc; repeat' split <;> omega
structure WdV (M : VM) : Prop where
  k : ∀ c ∈ M.K, 0 ≤ c.2 ∧ c.2 < 18446744073709551616
  l : ∀ x ∈ M.lv, ∀ c ∈ x.1, 0 ≤ c.2 ∧ c.2 < 18446744073709551616
theorem Y7 {P : Int → Prop} {p x : Int} : ∀ {l : List Cl}, (∀ c ∈ l, P c.2) → jF p l = some x → P x := by
  intro l
  induction l with
  | nil => intro _ h; cases h
  | cons c l ih =>
    intro h e
    unfold jF at e
    split at e
    · cases e; exact h c (List.mem_cons_self ..)
    · exact ih (fun d hd => h d (List.mem_cons_of_mem _ hd)) e
theorem NC {P : Int → Prop} {p x : Int} : ∀ {lv : List LvM}, (∀ y ∈ lv, ∀ c ∈ y.1, P c.2) → kF p lv = some x → P x := by
  intro lv
  induction lv with
  | nil => intro _ h; cases h
  | cons y r ih =>
    intro h e
    unfold kF at e
    split at e
    · rename_i v hv
      cases e; exact Y7 (h y (List.mem_cons_self ..)) hv
    · exact ih (fun z hz => h z (List.mem_cons_of_mem _ hz)) e
theorem WdV.read {M : VM} {p : Int} (W : WdV M) : 0 ≤ (qM M p).1.1 ∧ (qM M p).1.1 < 18446744073709551616 := by
  unfold qM
  split
  · split
    · rename_i x hx
      exact NC (P := fun x => 0 ≤ x ∧ x < 18446744073709551616) W.l hx
    · split
      · rename_i x hx
        exact Y7 (P := fun x => 0 ≤ x ∧ x < 18446744073709551616) W.k hx
      · show (0 : Int) ≤ 0 ∧ (0 : Int) < 18446744073709551616; omega
  · show (0 : Int) ≤ 0 ∧ (0 : Int) < 18446744073709551616; omega
theorem WdV.read2 {M : VM} {p : Int} (W : WdV M) : WdV (qM M p).2 := by
  unfold qM
  repeat' split
  all_goals exact ⟨W.k, W.l⟩
def WdC (cs : List Cl) : Prop := ∀ c ∈ cs, 0 ≤ c.2 ∧ c.2 < 18446744073709551616
theorem WdC.put {l : List Cl} {p v : Int} (h : WdC l) (hv : 0 ≤ v ∧ v < 18446744073709551616) : WdC (zo p v l) := by
  induction l with
  | nil => intro c hc; simp [zo] at hc; subst hc; exact hv
  | cons a l ih =>
    unfold zo
    split
    · intro c hc
      rcases List.mem_cons.1 hc with rfl | hc
      · exact hv
      · exact h c (List.mem_cons_of_mem _ hc)
    · intro c hc
      rcases List.mem_cons.1 hc with rfl | hc
      · exact h _ (List.mem_cons_self ..)
      · exact ih (fun c hc => h c (List.mem_cons_of_mem _ hc)) c hc
theorem WdC.puts : ∀ {cs l : List Cl}, WdC l → WdC cs → WdC (zy l cs) := by
  intro cs
  induction cs with
  | nil => intro l h _; exact h
  | cons c cs ih => intro l h hc; exact ih (h.put (hc c (List.mem_cons_self ..))) fun d hd => hc d (List.mem_cons_of_mem _ hd)
theorem qJn {most : Nat} {was : List LvM} (hw : ∀ x ∈ was, WdC x.1) : ∀ {cs : List Cl} {lv : List LvM}, WdC cs → (∀ x ∈ lv, WdC x.1) → ∀ x ∈ (x5 most was lv cs).2, WdC x.1 := by
  intro cs
  induction cs with
  | nil => intro lv _ h; exact h
  | cons c cs ih =>
    intro lv hc h
    rw [yu]
    split
    · refine ih (fun d hd => hc d (List.mem_cons_of_mem _ hd)) ?_
      cases lv with
      | nil => exact h
      | cons y r =>
        unfold vP
        dsimp only
        split
        · exact h
        · split
          · exact h
          · intro x hx
            rcases List.mem_cons.1 hx with rfl | hx
            · exact (show WdC y.1 from h y (List.mem_cons_self ..)).put (hc c (List.mem_cons_self ..))
            · exact h x (List.mem_cons_of_mem _ hx)
    · exact hw
theorem WdV.take {M : VM} {cs : List Cl} (W : WdV M) (hc : WdC cs) : WdV (jw M cs).2 := by
  unfold jw
  split
  · exact ⟨W.k, qJn W.l hc W.l⟩
  · exact W
def gY (M : VM) (c b : Int) : (Int × Int) × VM :=
  if 2147483648 ≤ b then ((0, 2), M) else
  if (qM M b).1.2 = 0 then
    (if (jw (qM M b).2 [(c, (qM M b).1.1), (b - 1, c + 8)]).1 = 0 then ((b, 0), (jw (qM M b).2 [(c, (qM M b).1.1), (b - 1, c + 8)]).2)
      else ((0, (jw (qM M b).2 [(c, (qM M b).1.1), (b - 1, c + 8)]).1), (jw (qM M b).2 [(c, (qM M b).1.1), (b - 1, c + 8)]).2))
  else ((0, (qM M b).1.2), (qM M b).2)
def gA (M : VM) (c : Int) : (Int × Int) × VM :=
  if (qM M 5).1.2 = 0 then
    (if (qM M 5).1.1 < 14 ∨ 2147483648 ≤ (qM M 5).1.1 ∨ (M.sz : Int) < (qM M 5).1.1 + 1 + jf c then ((0, 4), (qM M 5).2)
      else if (jw (qM M 5).2 [(5, (qM M 5).1.1 + 1 + jf c), ((qM M 5).1.1, c + 8)]).1 = 0 then (((qM M 5).1.1 + 1, 0), (jw (qM M 5).2 [(5, (qM M 5).1.1 + 1 + jf c), ((qM M 5).1.1, c + 8)]).2)
      else ((0, (jw (qM M 5).2 [(5, (qM M 5).1.1 + 1 + jf c), ((qM M 5).1.1, c + 8)]).1), (jw (qM M 5).2 [(5, (qM M 5).1.1 + 1 + jf c), ((qM M 5).1.1, c + 8)]).2))
  else ((0, (qM M 5).1.2), (qM M 5).2)
def xv (M : VM) (n : Int) : (Int × Int) × VM :=
  if jc n = 0 then ((0, 3), M) else
  if (qM M (jc n)).1.2 = 0 then
    (if (qM M (jc n)).1.1 = 0 then gA (qM M (jc n)).2 (jc n) else gY (qM M (jc n)).2 (jc n) (qM M (jc n)).1.1)
  else ((0, (qM M (jc n)).1.2), (qM M (jc n)).2)
def xW (w : Int) : Int × Bool := if 1 ≤ w ∧ w ≤ 4 then (w, false) else if 9 ≤ w ∧ w ≤ 12 then (w - 8, true) else (0, false)
def zQ (M : VM) (b : Int) : (Int × Bool × Int) × VM :=
  if b ≤ 14 ∨ M.sz ≤ b then ((0, false, 2), M) else
  if (qM M (b - 1)).1.2 = 0 then
    (if (xW (qM M (b - 1)).1.1).1 = 0 then ((0, false, 2), (qM M (b - 1)).2) else (((xW (qM M (b - 1)).1.1).1, (xW (qM M (b - 1)).1.1).2, 0), (qM M (b - 1)).2))
  else ((0, false, (qM M (b - 1)).1.2), (qM M (b - 1)).2)
def gi (M : VM) (b : Int) : Int × VM :=
  if (zQ M b).1.2.2 = 0 then
    (if (zQ M b).1.2.1 = true then
      (if (jw (zQ M b).2 [(b - 1, (zQ M b).1.1)]).1 = 0 then (0, freeV (jw (zQ M b).2 [(b - 1, (zQ M b).1.1)]).2 b) else jw (zQ M b).2 [(b - 1, (zQ M b).1.1)])
    else (2, (zQ M b).2))
  else ((zQ M b).1.2.2, (zQ M b).2)
def kS (M : VM) (b : Int) : Int × VM :=
  if (zQ M b).1.2.2 = 0 then
    (if (zQ M b).1.2.1 = true then (2, (zQ M b).2) else
      if (qM (zQ M b).2 (zQ M b).1.1).1.2 = 0 then jw (qM (zQ M b).2 (zQ M b).1.1).2 [(b, (qM (zQ M b).2 (zQ M b).1.1).1.1), ((zQ M b).1.1, b)]
      else ((qM (zQ M b).2 (zQ M b).1.1).1.2, (qM (zQ M b).2 (zQ M b).1.1).2))
  else ((zQ M b).1.2.2, (zQ M b).2)
theorem readV_sz {M : VM} {p : Int} : (qM M p).2.sz = M.sz := by
  unfold qM
  repeat' split
  all_goals rfl
theorem qKH (w : Int) : 0 ≤ (xW w).1 ∧ (xW w).1 ≤ 4 := by
  unfold xW
  repeat' split
  all_goals dsimp only
  all_goals omega
theorem Kc (M : VM) (b : Int) : 0 ≤ (zQ M b).1.1 ∧ (zQ M b).1.1 ≤ 4 ∧ ((zQ M b).1.2.2 = 0 → 14 < b ∧ b < M.sz) := by
  unfold zQ
  split
  · exact ⟨Int.le_refl 0, by show (0 : Int) ≤ 4; omega, fun h => by cases h⟩
  · split
    · split
      · exact ⟨Int.le_refl 0, by show (0 : Int) ≤ 4; omega, fun h => by cases h⟩
      · have := qKH (qM M (b - 1)).1.1
        exact ⟨this.1, this.2, fun _ => by omega⟩
    · exact ⟨Int.le_refl 0, by show (0 : Int) ≤ 4; omega, fun _ => by omega⟩
theorem Kv {M : VM} {b : Int} (O : OkV M) : OkV (zQ M b).2 := by
  unfold zQ
  split
  · exact O
  · split
    · split <;> exact vq O
    · exact vq O
theorem qJ5 {M : VM} {b : Int} (O : WdV M) : WdV (zQ M b).2 := by
  unfold zQ
  split
  · exact O
  · split
    · split <;> exact O.read2
    · exact O.read2
theorem qJo {M : VM} {b : Int} (O : OkV M) (hf : ∀ x ∈ M.lv, x.2.length + 1 < 100000) : OkV (freeV M b) := by
  refine ⟨O.lo, O.hi, qQE O.lvs, O.ins, O.un, ?_⟩
  show ∀ x ∈ Qv M.lv b, x.2.length < 100000
  cases hl : M.lv with
  | nil => intro x hx; cases hx
  | cons y r =>
    rw [hl] at hf
    intro x hx
    rcases List.mem_cons.1 hx with rfl | hx
    · have := hf y (List.mem_cons_self ..); simpa using this
    · have := hf x (List.mem_cons_of_mem _ hx); omega
theorem JQ {n : Nat} (hn : 1 ≤ n) {x : Int} : wp (qw tab qI n (.fn 23 [] []) [.int .i64 x] h) fun v h' => v = .int .i64 (jf x) ∧ h' = h := by
  (refine qc (g := W23) rfl (by omega) fun k hk => ?_; show wp (S23 (qw tab qI k) _ _) _; unfold S23; try simp only [iI, uU, Int.ofNat_eq_natCast])
  repeat' (first | with_reducible refine qx ?_ | with_reducible refine qK ?_ | (with_reducible refine qh ?_; try dsimp only) | (with_reducible refine jt ?_; try dsimp only) | (with_reducible refine jy ?_; try dsimp only) | (with_reducible refine jJ ?_; try dsimp only) | (with_reducible refine yP ?_; try dsimp only) | with_reducible refine qR ?_ | with_reducible refine qb ?_ | (with_reducible refine qk ?_; try dsimp only) | with_reducible refine qE ?_ | with_reducible refine jb ?_ | with_reducible refine jl ?_ | with_reducible refine qU (by omega) ?_ | with_reducible refine jD (by omega) ?_ | with_reducible refine x9 (by omega) ?_ | with_reducible refine y7 (by omega) ?_ | with_reducible refine y3 ?_ | with_reducible refine yH ?_ | with_reducible refine zW (fun hc => ?_) (fun hc => ?_) | with_reducible refine vI (fun hc => ?_) (fun hc => ?_) | with_reducible refine vF (fun hc => ?_) (fun hc => ?_) | with_reducible refine vQ (fun hc => ?_) (fun hc => ?_) | with_reducible refine y5 (fun hc => ?_) (fun hc => ?_) | with_reducible refine xz (fun hc => ?_) (fun hc => ?_) | with_reducible refine yL (fun hc => ?_) (fun hc => ?_))
  · refine qz ⟨?_, rfl⟩
    unfold jf; congr 1; repeat' split <;> omega
  · refine qz ⟨?_, rfl⟩
    unfold jf; congr 1; repeat' split <;> omega
  · refine Zb (by omega) ?_
    refine qz ⟨?_, rfl⟩
    rcases (show x = 1 ∨ x = 2 ∨ x = 3 ∨ x = 4 by omega) with rfl | rfl | rfl | rfl <;> rfl
theorem Ng {n : Nat} (hn : 2 ≤ n) {x : Int} : wp (qw tab qI n (.fn 108 [] []) [.int .i64 x] h) fun v h' => v = .int .i64 (jc x) ∧ h' = h := by
  (refine qc (g := W108) rfl (by omega) fun k hk => ?_; show wp (S108 (qw tab qI k) _ _) _; unfold S108; try simp only [iI, uU, Int.ofNat_eq_natCast])
  repeat' (first | with_reducible refine qx ?_ | with_reducible refine qK ?_ | (with_reducible refine qh ?_; try dsimp only) | (with_reducible refine jt ?_; try dsimp only) | (with_reducible refine jy ?_; try dsimp only) | (with_reducible refine jJ ?_; try dsimp only) | (with_reducible refine yP ?_; try dsimp only) | with_reducible refine qR ?_ | with_reducible refine qb ?_ | (with_reducible refine qk ?_; try dsimp only) | with_reducible refine qE ?_ | with_reducible refine jb ?_ | with_reducible refine jl ?_ | with_reducible refine qU (by omega) ?_ | with_reducible refine jD (by omega) ?_ | with_reducible refine x9 (by omega) ?_ | with_reducible refine y7 (by omega) ?_ | with_reducible refine y3 ?_ | with_reducible refine yH ?_ | with_reducible refine zW (fun hc => ?_) (fun hc => ?_) | with_reducible refine vI (fun hc => ?_) (fun hc => ?_) | with_reducible refine vF (fun hc => ?_) (fun hc => ?_) | with_reducible refine vQ (fun hc => ?_) (fun hc => ?_) | with_reducible refine y5 (fun hc => ?_) (fun hc => ?_) | with_reducible refine xz (fun hc => ?_) (fun hc => ?_) | with_reducible refine yL (fun hc => ?_) (fun hc => ?_))
  · refine qz ⟨?_, rfl⟩
    unfold jc; congr 1; repeat' split <;> omega
  · refine jh (fun m s g => ∃ i : Int, s = (.int .i64 i, .int .i64 x, ()) ∧ 1 ≤ i ∧ i ≤ 5 ∧ (m : Int) = 5 - i ∧ g = h ∧ (1 < i → 2 < x) ∧ (2 < i → 4 < x) ∧ (3 < i → 8 < x) ∧ (4 < i → 16 < x)) ?_ (m := 4) (by decide) ⟨1, rfl, by omega, by omega, by omega, rfl, by omega, by omega, by omega, by omega⟩
    rintro m ih s g hih ⟨i, rfl, h1, h2, h3, rfl, h4, h5, h6, h7⟩
    dsimp only
    repeat' (first | with_reducible refine qx ?_ | with_reducible refine qK ?_ | (with_reducible refine qh ?_; try dsimp only) | (with_reducible refine jt ?_; try dsimp only) | (with_reducible refine jy ?_; try dsimp only) | (with_reducible refine jJ ?_; try dsimp only) | (with_reducible refine yP ?_; try dsimp only) | with_reducible refine qR ?_ | with_reducible refine qb ?_ | (with_reducible refine qk ?_; try dsimp only) | with_reducible refine qE ?_ | with_reducible refine jb ?_ | with_reducible refine jl ?_ | with_reducible refine qU (by omega) ?_ | with_reducible refine jD (by omega) ?_ | with_reducible refine x9 (by omega) ?_ | with_reducible refine y7 (by omega) ?_ | with_reducible refine y3 ?_ | with_reducible refine yH ?_ | with_reducible refine zW (fun hc => ?_) (fun hc => ?_) | with_reducible refine vI (fun hc => ?_) (fun hc => ?_) | with_reducible refine vF (fun hc => ?_) (fun hc => ?_) | with_reducible refine vQ (fun hc => ?_) (fun hc => ?_) | with_reducible refine y5 (fun hc => ?_) (fun hc => ?_) | with_reducible refine xz (fun hc => ?_) (fun hc => ?_) | with_reducible refine yL (fun hc => ?_) (fun hc => ?_))
    · refine qJ (JQ (by omega)) ?_
      rintro v g' ⟨rfl, rfl⟩
      repeat' (first | with_reducible refine qx ?_ | with_reducible refine qK ?_ | (with_reducible refine qh ?_; try dsimp only) | (with_reducible refine jt ?_; try dsimp only) | (with_reducible refine jy ?_; try dsimp only) | (with_reducible refine jJ ?_; try dsimp only) | (with_reducible refine yP ?_; try dsimp only) | with_reducible refine qR ?_ | with_reducible refine qb ?_ | (with_reducible refine qk ?_; try dsimp only) | with_reducible refine qE ?_ | with_reducible refine jb ?_ | with_reducible refine jl ?_ | with_reducible refine qU (by omega) ?_ | with_reducible refine jD (by omega) ?_ | with_reducible refine x9 (by omega) ?_ | with_reducible refine y7 (by omega) ?_ | with_reducible refine y3 ?_ | with_reducible refine yH ?_ | with_reducible refine zW (fun hc => ?_) (fun hc => ?_) | with_reducible refine vI (fun hc => ?_) (fun hc => ?_) | with_reducible refine vF (fun hc => ?_) (fun hc => ?_) | with_reducible refine vQ (fun hc => ?_) (fun hc => ?_) | with_reducible refine y5 (fun hc => ?_) (fun hc => ?_) | with_reducible refine xz (fun hc => ?_) (fun hc => ?_) | with_reducible refine yL (fun hc => ?_) (fun hc => ?_))
      · refine qz ⟨?_, rfl⟩
        unfold jf at *; unfold jc; congr 1; repeat' split <;> omega
      · refine hih (m - 1) _ _ (by omega) ⟨i + 1, rfl, by omega, by omega, by omega, rfl, ?_, ?_, ?_, ?_⟩ <;> (unfold jf at *; repeat' split at * <;> omega)
    · refine qz ⟨?_, rfl⟩
      unfold jc; congr 1; repeat' split <;> omega
theorem Jz {n : Nat} (hn : 1 ≤ n) {c : Int} (hc : 0 ≤ c ∧ c ≤ 4) : wp (qw tab qI n (.fn 46 [] []) [.int .i64 c] h) fun v h' => v = .int .i64 c ∧ h' = h := by
  (refine qc (g := W46) rfl (by omega) fun k hk => ?_; show wp (S46 (qw tab qI k) _ _) _; unfold S46; try simp only [iI, uU, Int.ofNat_eq_natCast])
  with_reducible (refine qU (by omega) ?_)
  exact qz ⟨by congr 1; omega, rfl⟩
theorem VI {n : Nat} (hn : 1 ≤ n) {w : Int} : wp (qw tab qI n (.fn 45 [] []) [.int .u64 w] h) fun v h' => v = .tup [.int .i64 (xW w).1, .bool (xW w).2] ∧ h' = h := by
  (refine qc (g := W45) rfl (by omega) fun k hk => ?_; show wp (S45 (qw tab qI k) _ _) _; unfold S45; try simp only [iI, uU, Int.ofNat_eq_natCast])
  unfold xW
  by_cases h1 : 1 ≤ w ∧ w ≤ 4
  · rw [if_pos h1]
    with_reducible (refine zl (by omega) ?_; refine qk ?_; (try dsimp only); refine qh ?_; (try dsimp only); refine yQ (by omega) ?_; refine qR ?_; refine qx ?_; refine yh (by omega) ?_)
    exact qz ⟨rfl, rfl⟩
  · rw [if_neg h1]
    by_cases h2 : 9 ≤ w ∧ w ≤ 12
    · rw [if_pos h2]
      with_reducible (refine zl (by omega) ?_; refine qk ?_; (try dsimp only); refine qh ?_; (try dsimp only); refine gl (by omega) ?_; refine qR ?_; refine qK ?_; refine zl (by omega) ?_; refine qk ?_; (try dsimp only); refine qh ?_; (try dsimp only); refine yQ (by omega) ?_; refine qR ?_; refine qx ?_; refine y7 (by omega) ?_; refine yh (by omega) ?_)
      exact qz ⟨rfl, rfl⟩
    · rw [if_neg h2]
      repeat' (first | with_reducible refine qx ?_ | with_reducible refine qK ?_ | (with_reducible refine qh ?_; try dsimp only) | (with_reducible refine jt ?_; try dsimp only) | (with_reducible refine jy ?_; try dsimp only) | (with_reducible refine jJ ?_; try dsimp only) | (with_reducible refine yP ?_; try dsimp only) | with_reducible refine qR ?_ | with_reducible refine qb ?_ | (with_reducible refine qk ?_; try dsimp only) | with_reducible refine qE ?_ | with_reducible refine jb ?_ | with_reducible refine jl ?_ | with_reducible refine qU (by omega) ?_ | with_reducible refine jD (by omega) ?_ | with_reducible refine x9 (by omega) ?_ | with_reducible refine y7 (by omega) ?_ | with_reducible refine y3 ?_ | with_reducible refine yH ?_ | with_reducible refine jk (by omega) ?_ | with_reducible refine qp (by omega) ?_ | with_reducible refine jo (by omega) ?_ | with_reducible refine jE (by omega) ?_ | with_reducible refine xg (by omega) ?_ | with_reducible refine zB (by omega) ?_ | with_reducible refine yQ (by omega) ?_ | with_reducible refine gl (by omega) ?_ | with_reducible refine vO (by omega) ?_ | with_reducible refine wb (by omega) ?_ | with_reducible refine zl (by omega) ?_ | with_reducible refine zh (by omega) ?_ | with_reducible refine zW (fun hc => ?_) (fun hc => ?_) | with_reducible refine vI (fun hc => ?_) (fun hc => ?_) | with_reducible refine vF (fun hc => ?_) (fun hc => ?_) | with_reducible refine vQ (fun hc => ?_) (fun hc => ?_) | with_reducible refine y5 (fun hc => ?_) (fun hc => ?_) | with_reducible refine xz (fun hc => ?_) (fun hc => ?_) | with_reducible refine yL (fun hc => ?_) (fun hc => ?_))
      all_goals exact qz ⟨rfl, rfl⟩
theorem Ga {n : Nat} (hn : 10 ≤ n) {v : Nat} {M : VM} {b : Int} (H : HS g h (ViewC v M :: R)) (O : OkV M) :
    wp (qw tab qI n (.fn 96 [] []) [.ptr v 0, .int .i64 b] h) fun r h' => r = .tup [.int .i64 (zQ M b).1.1, .bool (zQ M b).1.2.1, .int .i64 (zQ M b).1.2.2] ∧ HS g h' (ViewC v (zQ M b).2 :: R) := by
  (refine qc (g := W96) rfl (by omega) fun k hk => ?_; show wp (S96 (qw tab qI k) _ _ _) _; unfold S96; try simp only [iI, uU, Int.ofNat_eq_natCast])
  unfold zQ
  by_cases h1 : b ≤ 14
  · rw [if_pos (.inl h1)]
    with_reducible (refine yQ (by omega) ?_; refine qk ?_; (try dsimp only); refine jt ?_; (try dsimp only); refine qR ?_; refine qx ?_)
    exact qz ⟨rfl, H⟩
  · with_reducible (refine gl (by omega) ?_; refine qk ?_; (try dsimp only); refine jJ ?_; (try dsimp only))
    refine qJ (kV (by omega) H) ?_
    rintro _ _ ⟨rfl, rfl⟩
    by_cases h2 : (M.sz : Int) ≤ b
    · rw [if_pos (.inr h2)]
      with_reducible (refine zl (by omega) ?_; refine qb ?_; refine qx ?_)
      exact qz ⟨rfl, H⟩
    · rw [if_neg (by omega)]
      with_reducible (refine zh (by omega) ?_; refine qb ?_; refine qK ?_)
      have := O.hi
      refine jD (by omega) (qJ (gH (by omega) H O) ?_)
      rintro _ h3 ⟨rfl, H3⟩
      simp only [show ((1 : Nat) : Int) = 1 from rfl] at H3 ⊢
      with_reducible (refine qy (by with_unfolding_all exact rfl) ?_; refine qy (by with_unfolding_all exact rfl) ?_)
      by_cases h4 : (qM M (b - 1)).1.2 = 0
      · rw [if_pos h4]
        with_reducible (refine jE (by omega) ?_; refine qK ?_)
        refine qJ (VI (by omega)) ?_
        rintro _ _ ⟨rfl, rfl⟩
        with_reducible (refine qy (by with_unfolding_all exact rfl) ?_; refine qy (by with_unfolding_all exact rfl) ?_)
        by_cases h5 : (xW (qM M (b - 1)).1.1).1 = 0
        · rw [if_pos h5]
          with_reducible (refine jk (by omega) ?_; refine qx ?_)
          exact qz ⟨rfl, H3⟩
        · rw [if_neg h5]
          with_reducible (refine qp (by omega) ?_; refine qK ?_)
          exact qz ⟨rfl, H3⟩
      · rw [if_neg h4]
        with_reducible (refine jo (by omega) ?_; refine qx ?_)
        exact qz ⟨rfl, H3⟩
theorem qQl {n : Nat} (hn : 11 ≤ n) {v : Nat} {M : VM} {b : Int} (H : HS g h (ViewC v M :: R)) (O : OkV M) :
    wp (qw tab qI n (.fn 114 [] []) [.ptr v 0, .int .i64 b] h) fun r h' => r = .int .i64 (gi M b).1 ∧ HS g h' (ViewC v (gi M b).2 :: R) := by
  (refine qc (g := W114) rfl (by omega) fun k hk => ?_; show wp (S114 (qw tab qI k) _ _ _) _; unfold S114; try simp only [iI, uU, Int.ofNat_eq_natCast])
  refine qJ (Ga (by omega) H O) ?_
  rintro _ h1 ⟨rfl, H1⟩
  have hb := Kc M b
  have hO := Kv (b := b) O
  have := O.hi
  unfold gi
  with_reducible (refine qy (by with_unfolding_all exact rfl) ?_; refine qy (by with_unfolding_all exact rfl) ?_; refine qy (by with_unfolding_all exact rfl) ?_; refine qk ?_; (try dsimp only))
  by_cases h2 : (zQ M b).1.2.2 = 0
  · rw [if_pos h2]
    with_reducible (refine jk (by omega) ?_; refine qk ?_; (try dsimp only); refine qh ?_; (try dsimp only))
    cases h3 : (zQ M b).1.2.1
    · rw [if_neg (by simp)]
      with_reducible (refine jl ?_; refine qR ?_; refine qx ?_; refine qk ?_; (try dsimp only); refine qp (by omega) ?_; refine qK ?_; refine qk ?_; (try dsimp only); refine qp (by omega) ?_; refine qK ?_; refine qE ?_)
      exact qz ⟨rfl, H1⟩
    · rw [if_pos rfl]
      with_reducible (refine jb ?_; refine qR ?_; refine qK ?_; refine qk ?_; (try dsimp only); refine jk (by omega) ?_; refine qx ?_; refine jD (by omega) ?_; refine xJ (by omega) ?_; refine ql (by with_unfolding_all exact rfl) ?_)
      simp only [show ((1 : Nat) : Int) = 1 from rfl]
      refine (jp (n := 1) (l := [.int .i64 (b - 1), .int .u64 (zQ M b).1.1]) (sz := 2) H1 rfl rfl rfl rfl fun v3 h3 H3 => ?_)
      refine qJ (kz (cs := [(b - 1, (zQ M b).1.1)]) (by omega) (H3.sel e_1) hO (.own .here) (by simp)) ?_
      rintro _ h4 ⟨rfl, H4⟩
      by_cases h5 : (jw (zQ M b).2 [(b - 1, (zQ M b).1.1)]).1 = 0
      · rw [if_pos h5]
        with_reducible (refine qk ?_; (try dsimp only); refine jk (by omega) ?_; refine qx ?_)
        refine qJ (Um (by omega) H4 (Ko hO)) ?_
        intro _ h6 H6
        with_reducible (refine qE ?_)
        exact qz ⟨by rw [h5], H6.sub (.cons .here (.drop (.refl)))⟩
      · rw [if_neg h5]
        with_reducible (refine qk ?_; (try dsimp only); refine qp (by omega) ?_; refine qK ?_; refine qE ?_)
        exact qz ⟨rfl, H4.sub (.cons .here (.drop (.refl)))⟩
  · rw [if_neg h2]
    with_reducible (refine qp (by omega) ?_; refine qk ?_; (try dsimp only); refine jy ?_; (try dsimp only); refine qb ?_; refine qK ?_; refine qk ?_; (try dsimp only); refine qp (by omega) ?_; refine qK ?_; refine qk ?_; (try dsimp only); refine qp (by omega) ?_; refine qK ?_; refine qE ?_)
    exact qz ⟨rfl, H1⟩
theorem Z8 {n : Nat} (hn : 11 ≤ n) {v : Nat} {M : VM} {b : Int} (H : HS g h (ViewC v M :: R)) (O : OkV M) :
    wp (qw tab qI n (.fn 71 [] []) [.ptr v 0, .int .i64 b] h) fun r h' => r = .int .i64 (kS M b).1 ∧ HS g h' (ViewC v (kS M b).2 :: R) := by
  (refine qc (g := W71) rfl (by omega) fun k hk => ?_; show wp (S71 (qw tab qI k) _ _ _) _; unfold S71; try simp only [iI, uU, Int.ofNat_eq_natCast])
  refine qJ (Ga (by omega) H O) ?_
  rintro _ h1 ⟨rfl, H1⟩
  have hb := Kc M b
  have hO := Kv (b := b) O
  have := O.hi
  unfold kS
  with_reducible (refine qy (by with_unfolding_all exact rfl) ?_; refine qy (by with_unfolding_all exact rfl) ?_; refine qy (by with_unfolding_all exact rfl) ?_; refine qk ?_; (try dsimp only))
  by_cases h2 : (zQ M b).1.2.2 = 0
  · rw [if_pos h2]
    with_reducible (refine jk (by omega) ?_; refine qk ?_; (try dsimp only); refine qh ?_; (try dsimp only); refine qR ?_)
    cases h3 : (zQ M b).1.2.1
    · rw [if_neg (by simp)]
      with_reducible (refine qK ?_; refine jE (by omega) ?_; refine qK ?_)
      refine qJ (Jz (by omega) (by omega)) ?_
      rintro _ _ ⟨rfl, rfl⟩
      refine qJ (gH (by omega) H1 hO) ?_
      rintro _ h4 ⟨rfl, H4⟩
      with_reducible (refine qy (by with_unfolding_all exact rfl) ?_; refine qy (by with_unfolding_all exact rfl) ?_)
      by_cases h5 : (qM (zQ M b).2 (zQ M b).1.1).1.2 = 0
      · rw [if_pos h5]
        with_reducible (refine jE (by omega) ?_; refine qK ?_; refine ql (by with_unfolding_all exact rfl) ?_)
        refine qJ (Jz (by omega) (by omega)) ?_
        rintro _ _ ⟨rfl, rfl⟩
        refine xJ (by omega) ?_
        refine ql rfl (jp (n := 2) (l := [.int .i64 b, .int .u64 (qM (zQ M b).2 (zQ M b).1.1).1.1, .int .i64 (zQ M b).1.1, .int .u64 b]) (sz := 2) H4 rfl rfl rfl rfl fun v5 h5 H5 => ?_)
        refine qJ (kz (cs := [(b, (qM (zQ M b).2 (zQ M b).1.1).1.1), ((zQ M b).1.1, b)]) (by omega) (H5.sel e_1) (vq hO) (.own .here) (by simp)) ?_
        rintro _ h6 ⟨rfl, H6⟩
        with_reducible (refine qE ?_)
        exact qz ⟨rfl, H6.sub (.cons .here (.drop (.refl)))⟩
      · rw [if_neg h5]
        with_reducible (refine jo (by omega) ?_; refine qx ?_; refine qE ?_)
        exact qz ⟨rfl, H4⟩
    · rw [if_pos rfl]
      with_reducible (refine qx ?_; refine jo (by omega) ?_; refine qx ?_; refine qE ?_)
      exact qz ⟨rfl, H1⟩
  · rw [if_neg h2]
    with_reducible (refine qp (by omega) ?_; refine qk ?_; (try dsimp only); refine jy ?_; (try dsimp only); refine qb ?_; refine qK ?_; refine jo (by omega) ?_; refine qx ?_; refine qE ?_)
    exact qz ⟨rfl, H1⟩
theorem OX {n : Nat} (hn : 10 ≤ n) {v : Nat} {M : VM} {c b : Int} (H : HS g h (ViewC v M :: R)) (O : OkV M) (hc : 1 ≤ c ∧ c ≤ 4) (hb : 0 ≤ b) :
    wp (qw tab qI n (.fn 109 [] []) [.ptr v 0, .int .i64 c, .int .u64 b] h) fun r h' => r = .tup [.int .i64 (gY M c b).1.1, .int .i64 (gY M c b).1.2] ∧ HS g h' (ViewC v (gY M c b).2 :: R) := by
  (refine qc (g := W109) rfl (by omega) fun k hk => ?_; show wp (S109 (qw tab qI k) _ _ _ _) _; unfold S109; try simp only [iI, uU, Int.ofNat_eq_natCast])
  unfold gY
  by_cases h1 : 2147483648 ≤ b
  · rw [if_pos h1]
    with_reducible (refine zl (by omega) ?_; refine qx ?_)
    exact qz ⟨rfl, H⟩
  · rw [if_neg h1]
    with_reducible (refine zh (by omega) ?_; refine qK ?_; refine yh (by omega) ?_)
    refine qJ (gH (by omega) H O) ?_
    rintro _ h3 ⟨rfl, H3⟩
    with_reducible (refine qy (by with_unfolding_all exact rfl) ?_; refine qy (by with_unfolding_all exact rfl) ?_; refine qk ?_; (try dsimp only))
    by_cases h4 : (qM M b).1.2 = 0
    · rw [if_pos h4]
      with_reducible (refine jk (by omega) ?_; refine qx ?_)
      refine qJ (Jz (by omega) (by omega)) ?_
      rintro _ _ ⟨rfl, rfl⟩
      refine ql rfl (jD (by omega) (qU (by omega) (xJ (by omega) (ql rfl ?_))))
      refine jp (n := 2) (l := [.int .i64 c, .int .u64 (qM M b).1.1, .int .i64 (b - 1), .int .u64 (c + 8)]) (sz := 2) H3 rfl rfl rfl rfl fun v5 h5 H5 => ?_
      refine qJ (kz (cs := [(c, (qM M b).1.1), (b - 1, c + 8)]) (by omega) (H5.sel e_1) (vq O) (.own .here) (by simp)) ?_
      rintro _ h6 ⟨rfl, H6⟩
      by_cases h7 : (jw (qM M b).2 [(c, (qM M b).1.1), (b - 1, c + 8)]).1 = 0
      · rw [if_pos h7]
        with_reducible (refine jE (by omega) ?_; refine qK ?_; refine qE ?_)
        exact qz ⟨rfl, H6.sub (.cons .here (.drop (.refl)))⟩
      · rw [if_neg h7]
        with_reducible (refine jo (by omega) ?_; refine qx ?_; refine qE ?_)
        exact qz ⟨rfl, H6.sub (.cons .here (.drop (.refl)))⟩
    · rw [if_neg h4]
      with_reducible (refine qp (by omega) ?_; refine qK ?_; refine jo (by omega) ?_; refine qx ?_; refine qE ?_)
      exact qz ⟨rfl, H3⟩
theorem Np {n : Nat} (hn : 10 ≤ n) {v : Nat} {M : VM} {c : Int} (H : HS g h (ViewC v M :: R)) (O : OkV M) (W : WdV M) (hc : 1 ≤ c ∧ c ≤ 4) :
    wp (qw tab qI n (.fn 110 [] []) [.ptr v 0, .int .i64 c] h) fun r h' => r = .tup [.int .i64 (gA M c).1.1, .int .i64 (gA M c).1.2] ∧ HS g h' (ViewC v (gA M c).2 :: R) := by
  (refine qc (g := W110) rfl (by omega) fun k hk => ?_; show wp (S110 (qw tab qI k) _ _ _) _; unfold S110; try simp only [iI, uU, Int.ofNat_eq_natCast])
  unfold gA
  refine qJ (gH (by omega) H O) ?_
  rintro _ h3 ⟨rfl, H3⟩
  have hw := W.read (p := 5)
  simp only [show ((5 : Nat) : Int) = 5 from rfl] at H3 ⊢
  have hs := MG c
  have hO := O.hi
  with_reducible (refine qy (by with_unfolding_all exact rfl) ?_; refine qy (by with_unfolding_all exact rfl) ?_)
  by_cases h4 : (qM M 5).1.2 = 0
  · rw [if_pos h4]
    with_reducible (refine jE (by omega) ?_; refine qK ?_)
    have hsz : (qM M 5).2.sz = M.sz := readV_sz
    by_cases h5 : (qM M 5).1.1 < 14 ∨ 2147483648 ≤ (qM M 5).1.1 ∨ (M.sz : Int) < (qM M 5).1.1 + 1 + jf c
    · rw [if_pos h5]
      by_cases h6 : (qM M 5).1.1 < 14
      · with_reducible (refine xg (by omega) ?_; refine qk ?_; (try dsimp only); refine jt ?_; (try dsimp only); refine qR ?_; refine qk ?_; (try dsimp only); refine jt ?_; (try dsimp only); refine qR ?_; refine qx ?_)
        exact qz ⟨rfl, H3⟩
      · by_cases h7 : 2147483648 ≤ (qM M 5).1.1
        · with_reducible (refine zB (by omega) ?_; refine qk ?_; (try dsimp only); refine jJ ?_; (try dsimp only); refine zl (by omega) ?_; refine qb ?_; refine qk ?_; (try dsimp only); refine jt ?_; (try dsimp only); refine qR ?_; refine qx ?_)
          exact qz ⟨rfl, H3⟩
        · with_reducible (refine zB (by omega) ?_; refine qk ?_; (try dsimp only); refine jJ ?_; (try dsimp only); refine zh (by omega) ?_; refine qb ?_; refine qk ?_; (try dsimp only); refine jJ ?_; (try dsimp only); refine yh (by omega) ?_; refine qU (by omega) ?_)
          refine qJ (JQ (by omega)) ?_
          rintro _ _ ⟨rfl, rfl⟩
          with_reducible (refine qU (by omega) ?_)
          refine qJ (kV (by omega) H3) ?_
          rintro _ _ ⟨rfl, rfl⟩
          rw [hsz]
          with_reducible (refine vO (by omega) ?_; refine qb ?_; refine qx ?_)
          exact qz ⟨rfl, H3⟩
    · rw [if_neg h5]
      with_reducible (refine zB (by omega) ?_; refine qk ?_; (try dsimp only); refine jJ ?_; (try dsimp only); refine zh (by omega) ?_; refine qb ?_; refine qk ?_; (try dsimp only); refine jJ ?_; (try dsimp only); refine yh (by omega) ?_; refine qU (by omega) ?_)
      refine qJ (JQ (by omega)) ?_
      rintro _ _ ⟨rfl, rfl⟩
      with_reducible (refine qU (by omega) ?_)
      refine qJ (kV (by omega) H3) ?_
      rintro _ _ ⟨rfl, rfl⟩
      rw [hsz]
      with_reducible (refine wb (by omega) ?_; refine qb ?_; refine qK ?_; refine yh (by omega) ?_; refine qU (by omega) ?_)
      refine qJ (JQ (by omega)) ?_
      rintro _ _ ⟨rfl, rfl⟩
      refine qU (by omega) (xJ (by omega) (ql rfl (qU (by omega) (xJ (by omega) (ql rfl ?_)))))
      refine jp (n := 2) (l := [.int .i64 5, .int .u64 ((qM M 5).1.1 + 1 + jf c), .int .i64 (qM M 5).1.1, .int .u64 (c + 8)]) (sz := 2) H3 rfl rfl rfl rfl fun v5 h5 H5 => ?_
      refine qJ (kz (cs := [(5, (qM M 5).1.1 + 1 + jf c), ((qM M 5).1.1, c + 8)]) (by omega) (H5.sel e_1) (vq O) (.own .here) (by simp)) ?_
      rintro _ h6 ⟨rfl, H6⟩
      by_cases h7 : (jw (qM M 5).2 [(5, (qM M 5).1.1 + 1 + jf c), ((qM M 5).1.1, c + 8)]).1 = 0
      · rw [if_pos h7]
        with_reducible (refine jE (by omega) ?_; refine qK ?_; refine qU (by omega) ?_)
        exact qz ⟨rfl, H6.sub (.cons .here (.drop (.refl)))⟩
      · rw [if_neg h7]
        with_reducible (refine jo (by omega) ?_; refine qx ?_)
        exact qz ⟨rfl, H6.sub (.cons .here (.drop (.refl)))⟩
  · rw [if_neg h4]
    with_reducible (refine jo (by omega) ?_; refine qx ?_)
    exact qz ⟨rfl, H3⟩
theorem NB {n : Nat} (hn : 11 ≤ n) {v : Nat} {M : VM} {x : Int} (H : HS g h (ViewC v M :: R)) (O : OkV M) (W : WdV M) :
    wp (qw tab qI n (.fn 88 [] []) [.ptr v 0, .int .i64 x] h) fun r h' => r = .tup [.int .i64 (xv M x).1.1, .int .i64 (xv M x).1.2] ∧ HS g h' (ViewC v (xv M x).2 :: R) := by
  (refine qc (g := W88) rfl (by omega) fun k hk => ?_; show wp (S88 (qw tab qI k) _ _ _) _; unfold S88; try simp only [iI, uU, Int.ofNat_eq_natCast])
  refine qJ (Ng (by omega)) ?_
  rintro _ _ ⟨rfl, rfl⟩
  have hc := U4 x
  unfold xv
  by_cases h1 : jc x = 0
  · rw [if_pos h1]
    with_reducible (refine jk (by omega) ?_; refine qx ?_)
    exact qz ⟨rfl, H⟩
  · rw [if_neg h1]
    with_reducible (refine qp (by omega) ?_; refine qK ?_)
    refine qJ (Jz (by omega) hc) ?_
    rintro _ _ ⟨rfl, rfl⟩
    refine qJ (gH (by omega) H O) ?_
    rintro _ h3 ⟨rfl, H3⟩
    have hw := W.read (p := jc x)
    with_reducible (refine qy (by with_unfolding_all exact rfl) ?_; refine qy (by with_unfolding_all exact rfl) ?_)
    by_cases h4 : (qM M (jc x)).1.2 = 0
    · rw [if_pos h4]
      by_cases h5 : (qM M (jc x)).1.1 = 0
      · rw [if_pos h5]
        with_reducible (refine jE (by omega) ?_; refine qK ?_; refine jE (by omega) ?_; refine qK ?_)
        refine qJ (Np (by omega) H3 (vq O) W.read2 (by omega)) ?_
        rintro _ h6 ⟨rfl, H6⟩
        with_reducible (refine qy (by with_unfolding_all exact rfl) ?_; refine qy (by with_unfolding_all exact rfl) ?_)
        exact qz ⟨rfl, H6⟩
      · rw [if_neg h5]
        with_reducible (refine jE (by omega) ?_; refine qK ?_; refine jo (by omega) ?_; refine qx ?_)
        refine qJ (OX (by omega) H3 (vq O) (by omega) hw.1) ?_
        rintro _ h6 ⟨rfl, H6⟩
        with_reducible (refine qy (by with_unfolding_all exact rfl) ?_; refine qy (by with_unfolding_all exact rfl) ?_)
        exact qz ⟨rfl, H6⟩
    · rw [if_neg h4]
      with_reducible (refine jo (by omega) ?_; refine qx ?_)
      exact qz ⟨rfl, H3⟩
def zr (n : Int) : List Int := (List.replicate (szZ n) (0 : Int)).set 5 14
theorem Vc (n : Int) : (zr n).length = szZ n := by simp [zr]
theorem Y8 {n : Nat} (hn : 1 ≤ n) {x : Int} (H : HS g h R) : wp (qw tab qI n (.fn 7 [] []) [.int .i64 x] h) fun v h' => ∃ e, HS g h' (qS e 1 (szZ x) v ((zr x).map (.int .u64)) :: R) := by
  (refine qc (g := W7) rfl (by omega) fun k hk => ?_; show wp (S7 (qw tab qI k) _ _) _; unfold S7; try simp only [iI, uU, Int.ofNat_eq_natCast])
  have hb := Jt x
  refine y3 (yH ?_)
  rw [show max ((32 : Nat) : Int) (min x ((256 : Nat) : Int)) = ((szZ x : Nat) : Int) by unfold szZ; omega]
  refine K8 H (by omega) fun v h2 H2 => ?_
  refine V3 (i := 5) H2 (by omega) ⟨rfl, rfl⟩ fun h3 H3 => ?_
  unfold zr
  rw [List.map_set, List.map_replicate]
  exact qz ⟨_, H3⟩
end Go.Proofs.YtpohfcljfemhlaaGreat
namespace Go.Proofs.YtpohfcljfemhlaaGreat
open Go Go.Ae
set_option maxRecDepth 100000
variable {g h : AH} {L R : List SP}
end Go.Proofs.YtpohfcljfemhlaaGreat
namespace Go.Proofs.YtpohfcljfemhlaaGreat
open Go Go.Ae
set_option maxRecDepth 100000
def j0 (x lo hi : Int) : Int := lo + (if x.tmod (hi - lo + 1) < 0 then x.tmod (hi - lo + 1) + (hi - lo + 1) else x.tmod (hi - lo + 1))
theorem J3 (x : Int) {m : Int} (hm : 0 < m) : -m < x.tmod m ∧ x.tmod m < m := by
  refine ⟨?_, Int.tmod_lt_of_pos x hm⟩
  have := Int.tmod_lt_of_pos (-x) hm
  rw [Int.neg_tmod] at this
  omega
theorem xu (x : Int) {lo hi : Int} (h : lo ≤ hi) : lo ≤ j0 x lo hi ∧ j0 x lo hi ≤ hi := by
  have := J3 x (show 0 < hi - lo + 1 by omega)
  unfold j0
  split <;> omega
theorem GI {n : Nat} (hn : 1 ≤ n) {x lo hi : Int} {h : AH} (h1 : lo ≤ hi) (h2 : -1000000000 ≤ lo) (h3 : hi ≤ 1000000000) :
    wp (qw tab qI n (.fn 34 [] []) [.int .i64 x, .int .i64 lo, .int .i64 hi] h) fun v h' => v = .int .i64 (j0 x lo hi) ∧ h' = h := by
  (refine qc (g := W34) rfl (by omega) fun k hk => ?_; show wp (S34 (qw tab qI k) _ _ _ _) _; unfold S34; try simp only [iI, uU, Int.ofNat_eq_natCast])
  simp only [show ((1 : Nat) : Int) = 1 from rfl, show ((0 : Nat) : Int) = 0 from rfl]
  have hb := J3 x (show 0 < hi - lo + 1 by omega)
  unfold j0
  repeat' (first | (first | with_reducible refine qx ?_ | with_reducible refine qK ?_ | (with_reducible refine qh ?_; try dsimp only) | (with_reducible refine jt ?_; try dsimp only) | (with_reducible refine jy ?_; try dsimp only) | (with_reducible refine jJ ?_; try dsimp only) | (with_reducible refine yP ?_; try dsimp only) | with_reducible refine qR ?_ | with_reducible refine qb ?_ | (with_reducible refine qk ?_; try dsimp only) | with_reducible refine qE ?_ | with_reducible refine jb ?_ | with_reducible refine jl ?_ | with_reducible refine qU (by omega) ?_ | with_reducible refine jD (by omega) ?_ | with_reducible refine x9 (by omega) ?_ | with_reducible refine y7 (by omega) ?_ | with_reducible refine y3 ?_ | with_reducible refine yH ?_) | with_reducible refine MX (by omega) ?_ | (first | with_reducible refine zW (fun hc => ?_) (fun hc => ?_) | with_reducible refine vI (fun hc => ?_) (fun hc => ?_) | with_reducible refine vF (fun hc => ?_) (fun hc => ?_) | with_reducible refine vQ (fun hc => ?_) (fun hc => ?_) | with_reducible refine y5 (fun hc => ?_) (fun hc => ?_) | with_reducible refine xz (fun hc => ?_) (fun hc => ?_) | with_reducible refine yL (fun hc => ?_) (fun hc => ?_)))
  all_goals refine qz ⟨?_, rfl⟩
  all_goals congr 1
  all_goals (first | rw [if_pos (by omega)] | rw [if_neg (by omega)])
  all_goals omega
end Go.Proofs.YtpohfcljfemhlaaGreat
namespace Go.Proofs.YtpohfcljfemhlaaGreat
open Go Go.Ae
set_option maxRecDepth 100000
theorem qQp {D1 D2 : Nat → Prop} {n p q : Nat} (hn : 1 ≤ n) {a b : AV} {xs ys : List Int} {h : AH} (S1 : Sl D1 h 1 p a (xs.map (.int .i64))) (S2 : Sl D2 h 1 q b (ys.map (.int .i64))) (hp : p < 1000000000) :
    wp (qw tab qI n (.fn 16 [] []) [a, b] h) fun v h' => v = .bool (decide (xs = ys)) ∧ h' = h := by
  have hxl : xs.length = p := by simpa using S1.len
  have hyl : ys.length = q := by simpa using S2.len
  (refine qc (g := W16) rfl (by omega) fun k hk => ?_; show wp (S16 (qw tab qI k) _ _ _) _; unfold S16; try simp only [iI, uU, Int.ofNat_eq_natCast])
  refine zO S1 (zO S2 (xz (fun hne => ?_) fun heq => ?_))
  · refine qx (qz ⟨?_, rfl⟩)
    rw [decide_eq_false]
    rintro rfl
    exact hne (by omega)
  · refine qK (jh (fun m s g => ∃ i : Nat, s = (.int .i64 (i : Int), b, a, ()) ∧ i ≤ p ∧ m = p - i ∧ g = h ∧ xs.take i = ys.take i) ?_ (m := p) (by show p < 1000000000; omega) ⟨0, rfl, by omega, by omega, rfl, rfl⟩)
    rintro m ih s g hih ⟨i, rfl, h1, rfl, rfl, h2⟩
    dsimp only
    refine zO S1 (zW (fun hlt => qx ?_) fun hge => qK (qE (qz ⟨?_, rfl⟩)))
    · have hi : i < p := by omega
      refine xe S1 (x := .int .i64 xs[i]) (by rw [List.getElem?_map, List.getElem?_eq_getElem (by omega)]; rfl) ?_
      refine xe S2 (x := .int .i64 ys[i]) (by rw [List.getElem?_map, List.getElem?_eq_getElem (by omega)]; rfl) ?_
      refine xz (fun hne => qx (qE (qz ⟨?_, rfl⟩))) fun he => qK (qU (by omega) ?_)
      · rw [decide_eq_false]
        rintro rfl
        exact hne rfl
      · refine hih (p - (i + 1)) _ _ (by omega) ⟨i + 1, rfl, by omega, rfl, rfl, ?_⟩
        rw [List.take_succ_eq_append_getElem (by omega), List.take_succ_eq_append_getElem (by omega), h2, he]
    · rw [decide_eq_true]
      rw [List.take_of_length_le (by omega), List.take_of_length_le (by omega)] at h2
      exact h2
end Go.Proofs.YtpohfcljfemhlaaGreat
namespace Go.Proofs.YtpohfcljfemhlaaGreat
open Go Go.Ae
set_option maxRecDepth 100000
end Go.Proofs.YtpohfcljfemhlaaGreat
namespace Go.Proofs.YtpohfcljfemhlaaGreat
open Go Go.Ae
set_option maxRecDepth 100000
theorem JW {l : List ES} {a b : List AV} {K : AV → Go.Ae.R} {Q : AV → AH → Prop} {neg : Bool} {p : Prop} [Decidable p] (e : zz l a b = some (decide p)) (h1 : p → wp (K (.bool (!neg))) Q) (h2 : ¬ p → wp (K (.bool neg)) Q) : wp (QT l neg (.agg a) (.agg b) K) Q := by
  unfold QT
  simp only [e, ob]
  by_cases h : p
  · have := h1 h
    simpa [h] using this
  · have := h2 h
    simpa [h] using this
theorem qXR (x y : Cl) : zz [.bas .int 0, .bas .int 1] (jO x) (jO y) = some (decide (x = y)) := by
  obtain ⟨a, b⟩ := x
  obtain ⟨a', b'⟩ := y
  show (bif ieq a a' then (bif ieq b b' then some true else some false) else some false) = _
  rw [vR, vR]
  by_cases h1 : a = a' <;> by_cases h2 : b = b' <;> simp [h1, h2]
theorem qQF {D1 D2 : Nat → Prop} {n p q : Nat} (hn : 1 ≤ n) {a b : AV} {xs ys : List Cl} {h : AH} (S1 : Sl D1 h 2 p a (xs.flatMap jO)) (S2 : Sl D2 h 2 q b (ys.flatMap jO)) (hp : p < 100000000) :
    wp (qw tab qI n (.fn 14 [] []) [a, b] h) fun v h' => v = .bool (decide (xs = ys)) ∧ h' = h := by
  have hxl : xs.length = p := by
    have := S1.len
    rw [gw (sz := 2) jO (fun _ => rfl)] at this
    omega
  have hyl : ys.length = q := by
    have := S2.len
    rw [gw (sz := 2) jO (fun _ => rfl)] at this
    omega
  (refine qc (g := W14) rfl (by omega) fun k hk => ?_; show wp (S14 (qw tab qI k) _ _ _) _; unfold S14; try simp only [iI, uU, Int.ofNat_eq_natCast])
  refine zO S1 (zO S2 (xz (fun hne => ?_) fun heq => ?_))
  · refine qx (qz ⟨?_, rfl⟩)
    rw [decide_eq_false]
    rintro rfl
    exact hne (by omega)
  · refine qK (jh (fun m s g => ∃ i : Nat, s = (.int .i64 (i : Int), b, a, ()) ∧ i ≤ p ∧ m = p - i ∧ g = h ∧ xs.take i = ys.take i) ?_ (m := p) (by show p < 1000000000; omega) ⟨0, rfl, by omega, by omega, rfl, rfl⟩)
    rintro m ih s g hih ⟨i, rfl, h1, rfl, rfl, h2⟩
    dsimp only
    refine zO S1 (zW (fun hlt => qx ?_) fun hge => qK (qE (qz ⟨?_, rfl⟩)))
    · have hi : i < p := by omega
      refine z7 (l := jO xs[i]) S1 hi (by omega) ?_ ?_
      · rw [xU (sz := 2) jO (fun _ => rfl), List.drop_eq_getElem_cons (by omega), List.flatMap_cons]; rfl
      refine z7 (l := jO ys[i]) S2 (by omega) (by omega) ?_ ?_
      · rw [xU (sz := 2) jO (fun _ => rfl), List.drop_eq_getElem_cons (by omega), List.flatMap_cons]; rfl
      refine JW (qXR _ _) (fun he => qK (qU (by omega) ?_)) (fun hne => qx (qE (qz ⟨?_, rfl⟩)))
      · refine hih (p - (i + 1)) _ _ (by omega) ⟨i + 1, rfl, by omega, rfl, rfl, ?_⟩
        rw [List.take_succ_eq_append_getElem (by omega), List.take_succ_eq_append_getElem (by omega), h2, he]
      · rw [decide_eq_false]
        rintro rfl
        exact hne rfl
    · rw [decide_eq_true]
      rw [List.take_of_length_le (by omega), List.take_of_length_le (by omega)] at h2
      exact h2
end Go.Proofs.YtpohfcljfemhlaaGreat
namespace Go.Proofs.YtpohfcljfemhlaaGreat
open Go Go.Ae
set_option maxRecDepth 100000
variable {g h : AH} {L R : List SP}
def AskP (M M' : VM) : Prop := M'.sz = M.sz ∧ M'.K = M.K ∧ M'.most = M.most ∧ (M'.need = M.need ∨ M'.lv = M.lv ∧ 1 ≤ M'.need ∧ M'.need < M.sz ∧ jF M'.need M.K = none)
theorem AskP.refl (M : VM) : AskP M M := ⟨rfl, rfl, rfl, .inl rfl⟩
theorem frS_put {most : Nat} {lv : List LvM} {p v : Int} : frS (vP most lv p v).2 = frS lv := by
  cases lv with
  | nil => rfl
  | cons x r =>
    obtain ⟨c, hc⟩ := JI (most := most) (x := x) (r := r) (p := p) (v := v)
    rw [hc, yM, yM]
theorem Na {most : Nat} {was : List LvM} : ∀ {cs : List Cl} {lv : List LvM}, frS lv = frS was → frS (x5 most was lv cs).2 = frS was := by
  intro cs
  induction cs with
  | nil => intro lv h; exact h
  | cons c cs ih =>
    intro lv h
    rw [yu]
    split
    · exact ih (frS_put.trans h)
    · rfl
theorem xM {M : VM} {cs : List Cl} : frS (jw M cs).2.lv = frS M.lv := by
  unfold jw
  split
  · exact Na rfl
  · rfl
theorem ze {M : VM} {p : Int} : frS (qM M p).2.lv = frS M.lv := by
  unfold qM
  repeat' split
  all_goals rfl
theorem vN {M : VM} {b : Int} : frS (zQ M b).2.lv = frS M.lv := by
  unfold zQ
  repeat' split
  all_goals first | rfl | exact ze
theorem Ob {lv : List LvM} {b : Int} : frS (Qv lv b) ≤ frS lv + 1 := by
  cases lv with
  | nil => simp [Qv]
  | cons x r =>
    show frS ((x.1, x.2 ++ [b]) :: r) ≤ _
    rw [yM, yM, List.length_append]; simp; omega
theorem fr_le : ∀ {lv : List LvM} {x : LvM}, x ∈ lv → x.2.length ≤ frS lv := by
  intro l
  induction l with
  | nil => intro x hx; cases hx
  | cons y r ih =>
    intro x hx
    rw [yM]
    rcases List.mem_cons.1 hx with rfl | hx
    · omega
    · have := ih hx; omega
structure jC (M : VM) : Prop where
  ok : OkV M
  wd : WdV M
theorem jC.read {M : VM} {p : Int} (G : jC M) : jC (qM M p).2 := ⟨vq G.ok, G.wd.read2⟩
theorem jC.take {M : VM} {cs : List Cl} (G : jC M) (h : WdC cs) : jC (jw M cs).2 := ⟨Ko G.ok, G.wd.take h⟩
theorem jC.ask {M : VM} {b : Int} (G : jC M) : jC (zQ M b).2 := ⟨Kv G.ok, qJ5 G.wd⟩
theorem WdC.two {a b : Cl} (ha : 0 ≤ a.2 ∧ a.2 < 18446744073709551616) (hb : 0 ≤ b.2 ∧ b.2 < 18446744073709551616) : WdC [a, b] := by
  intro c hc
  rcases List.mem_cons.1 hc with rfl | hc
  · exact ha
  · rw [List.mem_singleton] at hc; subst hc; exact hb
theorem WdC.one1 {a : Cl} (ha : 0 ≤ a.2 ∧ a.2 < 18446744073709551616) : WdC [a] := by
  intro c hc
  rw [List.mem_singleton] at hc; subst hc; exact ha
theorem jC.freeV {M : VM} {b : Int} (G : jC M) (hf : frS M.lv < 90000) : jC (freeV M b) := by
  refine ⟨qJo G.ok fun x hx => by have := fr_le hx; omega, G.wd.k, ?_⟩
  show ∀ x ∈ Qv M.lv b, ∀ c ∈ x.1, 0 ≤ c.2 ∧ c.2 < 18446744073709551616
  have := G.wd.l
  cases hl : M.lv with
  | nil => intro x hx; cases hx
  | cons y r =>
    rw [hl] at this
    intro x hx
    rcases List.mem_cons.1 hx with rfl | hx
    · exact this y (List.mem_cons_self ..)
    · exact this x (List.mem_cons_of_mem _ hx)
theorem jC.free {M : VM} {b : Int} (G : jC M) (hf : frS M.lv < 90000) : jC (gi M b).2 ∧ frS (gi M b).2.lv ≤ frS M.lv + 1 := by
  have hb := Kc M b
  have hc : WdC [(b - 1, (zQ M b).1.1)] := .one1 ⟨hb.1, by dsimp only; omega⟩
  unfold gi
  repeat' split
  · refine ⟨(G.ask.take hc).freeV (by rw [xM, vN]; exact hf), ?_⟩
    have := Ob (lv := (jw (zQ M b).2 [(b - 1, (zQ M b).1.1)]).2.lv) (b := b)
    rw [xM, vN] at this
    exact this
  · exact ⟨G.ask.take hc, by rw [xM, vN]; omega⟩
  · exact ⟨G.ask, by rw [vN]; omega⟩
  · exact ⟨G.ask, by rw [vN]; omega⟩
theorem jC.give {M : VM} {b : Int} (G : jC M) : jC (kS M b).2 ∧ frS (kS M b).2.lv = frS M.lv := by
  have hb := Kc M b
  have hO := G.ok.hi
  unfold kS
  split
  · rename_i h1
    have hbb := hb.2.2 h1
    split
    · exact ⟨G.ask, vN⟩
    · split
      · refine ⟨(G.ask.read).take (.two G.ask.wd.read ⟨by dsimp only; omega, by dsimp only; omega⟩), by rw [xM, ze, vN]⟩
      · exact ⟨G.ask.read, by rw [ze, vN]⟩
  · exact ⟨G.ask, vN⟩
theorem jC.again {M : VM} {c b : Int} (G : jC M) (hc : 0 ≤ c ∧ c ≤ 4) : jC (gY M c b).2 ∧ frS (gY M c b).2.lv = frS M.lv := by
  have ht : WdC [(c, (qM M b).1.1), (b - 1, c + 8)] := .two G.wd.read ⟨by dsimp only; omega, by dsimp only; omega⟩
  unfold gY
  repeat' split
  · exact ⟨G, rfl⟩
  · exact ⟨G.read.take ht, by rw [xM, ze]⟩
  · exact ⟨G.read.take ht, by rw [xM, ze]⟩
  · exact ⟨G.read, ze⟩
theorem jC.grown {M : VM} {c : Int} (G : jC M) (hc : 0 ≤ c ∧ c ≤ 4) : jC (gA M c).2 ∧ frS (gA M c).2.lv = frS M.lv := by
  have hs := MG c
  have hw := G.wd.read (p := 5)
  unfold gA
  split
  · split
    · exact ⟨G.read, ze⟩
    · rename_i h1
      have ht : WdC [(5, (qM M 5).1.1 + 1 + jf c), ((qM M 5).1.1, c + 8)] := .two ⟨by dsimp only; omega, by dsimp only; omega⟩ ⟨by dsimp only; omega, by dsimp only; omega⟩
      split
      · exact ⟨G.read.take ht, by rw [xM, ze]⟩
      · exact ⟨G.read.take ht, by rw [xM, ze]⟩
  · exact ⟨G.read, ze⟩
theorem jC.alloc {M : VM} {x : Int} (G : jC M) : jC (xv M x).2 ∧ frS (xv M x).2.lv = frS M.lv := by
  have hc := U4 x
  unfold xv
  repeat' split
  · exact ⟨G, rfl⟩
  · exact ⟨(G.read.grown hc).1, by rw [(G.read.grown hc).2, ze]⟩
  · exact ⟨(G.read.again hc).1, by rw [(G.read.again hc).2, ze]⟩
  · exact ⟨G.read, ze⟩
theorem jC.dropG {M : VM} (G : jC M) : jC (qKd M).2 ∧ frS (qKd M).2.lv ≤ frS M.lv := by
  have e : (JK M.lv).2 = M.lv ∨ (JK M.lv).2 = M.lv.tail := by unfold JK; split <;> simp
  have hs : ∀ x ∈ (JK M.lv).2, x ∈ M.lv := by
    rcases e with e | e
    · rw [e]; exact fun x hx => hx
    · rw [e]; exact fun x hx => List.mem_of_mem_tail hx
  refine ⟨⟨⟨G.ok.lo, G.ok.hi, qQ2 G.ok.lvs, G.ok.ins, G.ok.un, fun x hx => G.ok.fr x (hs x hx)⟩, G.wd.k, fun x hx => G.wd.l x (hs x hx)⟩, ?_⟩
  show frS (JK M.lv).2 ≤ _
  rcases e with e | e
  · rw [e]; exact Nat.le_refl _
  · rw [e]
    cases M.lv with
    | nil => exact Nat.le_refl _
    | cons x r => rw [yM]; show frS r ≤ _; omega
end Go.Proofs.YtpohfcljfemhlaaGreat
namespace Go.Proofs.YtpohfcljfemhlaaGreat
open Go Go.Ae
structure DM where
  M : VM
  err : Int
  stp : Int
inductive Act (α : Type) where
  | ret (a : α)
  | fail (e : Int)
  | read (p : Int) (k : Int → Act α)
  | take (cs : List Cl) (k : Act α)
  | note (b : Int) (k : Act α)
  | step (k : Act α)
variable {α : Type}
def qO : Act α → DM → Option α × DM
  | .ret a, D => (if D.err = 0 then some a else none, D)
  | .fail e, D => (none, if D.err = 0 then { D with err := e } else D)
  | .read p k, D => if D.err ≠ 0 then (none, D) else
      if (qM D.M p).1.2 = 0 then qO (k (qM D.M p).1.1) { D with M := (qM D.M p).2 } else (none, { D with M := (qM D.M p).2, err := (qM D.M p).1.2 })
  | .take cs k, D => if D.err ≠ 0 then (none, D) else
      if (jw D.M cs).1 = 0 then qO k { D with M := (jw D.M cs).2 } else (none, { D with M := (jw D.M cs).2, err := (jw D.M cs).1 })
  | .note b k, D => if D.err ≠ 0 then (none, D) else qO k { D with M := freeV D.M b }
  | .step k, D => if D.err ≠ 0 then (none, { D with stp := D.stp + 1 }) else if 2048 < D.stp + 1 then (none, { D with stp := D.stp + 1, err := 2 }) else qO k { D with stp := D.stp + 1 }
def DM.eqv (D E : DM) : Prop := D.M = E.M ∧ D.err = E.err
theorem Kz : ∀ {a : Act α} {D : DM}, D.err ≠ 0 → (qO a D).1 = none ∧ DM.eqv (qO a D).2 D := by
  intro a D h
  cases a with
  | ret a => unfold qO; rw [if_neg h]; exact ⟨rfl, rfl, rfl⟩
  | fail e => unfold qO; rw [if_neg h]; exact ⟨rfl, rfl, rfl⟩
  | read p k => unfold qO; rw [if_pos h]; exact ⟨rfl, rfl, rfl⟩
  | take cs k => unfold qO; rw [if_pos h]; exact ⟨rfl, rfl, rfl⟩
  | note b k => unfold qO; rw [if_pos h]; exact ⟨rfl, rfl, rfl⟩
  | step k => unfold qO; rw [if_pos h]; exact ⟨rfl, rfl, rfl⟩
def EqR (x y : Option α × DM) : Prop := x.1 = y.1 ∧ DM.eqv x.2 y.2
theorem EqR.refl (x : Option α × DM) : EqR x x := ⟨rfl, rfl, rfl⟩
theorem EqR.trans {x y z : Option α × DM} (h1 : EqR x y) (h2 : EqR y z) : EqR x z := ⟨h1.1.trans h2.1, h1.2.1.trans h2.2.1, h1.2.2.trans h2.2.2⟩
theorem EqR.symm {x y : Option α × DM} (h : EqR x y) : EqR y x := ⟨h.1.symm, h.2.1.symm, h.2.2.symm⟩
theorem EqR.errs {a b : Act α} {D E : DM} (h : D.err ≠ 0) (e : DM.eqv D E) : EqR (qO a D) (qO b E) := by
  have h2 : E.err ≠ 0 := by rw [← e.2]; exact h
  obtain ⟨q1, q2⟩ := Kz (a := a) h
  obtain ⟨q3, q4⟩ := Kz (a := b) h2
  exact ⟨q1.trans q3.symm, (q2.1.trans e.1).trans q4.1.symm, (q2.2.trans e.2).trans q4.2.symm⟩
theorem EqR.err1 {a : Act α} {D E : DM} {o : Option α} (ho : o = none) (h : D.err ≠ 0) (e : DM.eqv D E) : EqR (qO a D) (o, E) := by
  obtain ⟨q1, q2⟩ := Kz (a := a) h
  exact ⟨by rw [ho]; exact q1, q2.1.trans e.1, q2.2.trans e.2⟩
def xi (D : DM) (e : Int) : DM := if D.err = 0 then { D with err := e } else D
def zq (D : DM) (p : Int) : Int × DM := if D.err = 0 then ((qM D.M p).1.1, { D with M := (qM D.M p).2, err := (qM D.M p).1.2 }) else (0, D)
def yG (D : DM) (w : Int) : Int × DM := if 2147483648 ≤ w then (0, xi D 2) else (w, D)
def y4 (D : DM) (p : Int) : Int × DM := yG (zq D p).2 (zq D p).1
def z6 (D : DM) (cs : List Cl) : DM := if D.err = 0 then { D with M := (jw D.M cs).2, err := (jw D.M cs).1 } else D
def yZ (D : DM) (n : Int) : Int × DM := if D.err = 0 then ((xv D.M n).1.1, { D with M := (xv D.M n).2, err := (xv D.M n).1.2 }) else (0, D)
def Xu (D : DM) (b : Int) : DM := if D.err = 0 then { D with M := (gi D.M b).2, err := (gi D.M b).1 } else D
def zx (D : DM) : DM := if 2048 < D.stp + 1 then xi { D with stp := D.stp + 1 } 2 else { D with stp := D.stp + 1 }
def yR (p : Int) (k : Int → Act α) : Act α := .read p fun w => if 2147483648 ≤ w then .fail 2 else k w
def Jo (sz : Nat) (n : Int) (k : Int → Act α) : Act α :=
  if jc n = 0 then .fail 3 else .read (jc n) fun w =>
    if w = 0 then .read 5 fun e => if e < 14 ∨ 2147483648 ≤ e ∨ (sz : Int) < e + 1 + jf (jc n) then .fail 4 else .take [(5, e + 1 + jf (jc n)), (e, jc n + 8)] (k (e + 1))
    else if 2147483648 ≤ w then .fail 2 else .read w fun l => .take [(jc n, l), (w - 1, jc n + 8)] (k w)
def xx (sz : Nat) (b : Int) (k : Act α) : Act α :=
  if b ≤ 14 ∨ (sz : Int) ≤ b then .fail 2 else .read (b - 1) fun w => if (xW w).1 = 0 then .fail 2 else if (xW w).2 = true then .take [(b - 1, (xW w).1)] (.note b k) else .fail 2
theorem OD {M : VM} {p : Int} (h : (qM M p).1.2 ≠ 0) : (qM M p).1.1 = 0 := by
  unfold qM at h ⊢
  repeat' split at h
  all_goals first | exact absurd rfl h | skip
  all_goals repeat' split
  all_goals first | rfl | skip
  all_goals simp_all
theorem run_read {p : Int} {k : Int → Act α} {D : DM} : EqR (qO (.read p k) D) (qO (k (zq D p).1) (zq D p).2) := by
  unfold zq
  by_cases h : D.err = 0
  · rw [if_pos h]
    dsimp only
    rw [qO, if_neg (by simpa using h)]
    split
    · rename_i h2
      have e : ({ D with M := (qM D.M p).2 } : DM) = { D with M := (qM D.M p).2, err := (qM D.M p).1.2 } := by rw [h2]; cases D; dsimp only at h; rw [h]
      rw [e]; exact EqR.refl _
    · rename_i h2
      exact (EqR.err1 rfl h2 ⟨rfl, rfl⟩).symm
  · rw [if_neg h]
    exact EqR.errs h ⟨rfl, rfl⟩
theorem run_take {cs : List Cl} {k : Act α} {D : DM} : EqR (qO (.take cs k) D) (qO k (z6 D cs)) := by
  unfold z6
  by_cases h : D.err = 0
  · rw [if_pos h]
    rw [qO, if_neg (by simpa using h)]
    split
    · rename_i h2
      have e : ({ D with M := (jw D.M cs).2 } : DM) = { D with M := (jw D.M cs).2, err := (jw D.M cs).1 } := by rw [h2]; cases D; dsimp only at h; rw [h]
      rw [e]; exact EqR.refl _
    · rename_i h2
      exact (EqR.err1 rfl h2 ⟨rfl, rfl⟩).symm
  · rw [if_neg h]
    exact EqR.errs h ⟨rfl, rfl⟩
theorem wI {k : Act α} {D : DM} : EqR (qO (.step k) D) (qO k (zx D)) := by
  unfold zx xi
  by_cases h : D.err = 0
  · rw [qO, if_neg (by simpa using h)]
    split
    · exact (EqR.err1 rfl (by show (2 : Int) ≠ 0; omega) ⟨rfl, rfl⟩).symm
    · exact EqR.refl _
  · rw [if_neg h]
    split
    · exact EqR.errs h ⟨rfl, rfl⟩
    · exact EqR.errs h ⟨rfl, rfl⟩
theorem kI {e : Int} (he : e ≠ 0) {D : DM} {a : Act α} : EqR (qO (.fail e) D) (qO a (xi D e)) := by
  unfold xi
  by_cases h : D.err = 0
  · rw [if_pos h, qO, if_pos h]
    exact (EqR.err1 rfl he ⟨rfl, rfl⟩).symm
  · rw [if_neg h]
    exact EqR.errs h ⟨rfl, rfl⟩
theorem GH {p : Int} {k : Int → Act α} {D : DM} : EqR (qO (yR p k) D) (qO (k (y4 D p).1) (y4 D p).2) := by
  unfold yR y4 yG
  refine run_read.trans ?_
  split
  · exact kI (by omega)
  · exact EqR.refl _
theorem OF {n : Int} {k : Int → Act α} {D : DM} : EqR (qO (Jo D.M.sz n k) D) (qO (k (yZ D n).1) (yZ D n).2) := by
  by_cases h : D.err = 0
  rotate_left
  · unfold yZ
    rw [if_neg h]
    exact EqR.errs h ⟨rfl, rfl⟩
  unfold Jo yZ
  rw [if_pos h]
  unfold xv
  split
  · dsimp only
    rw [qO, if_pos h]
    exact (EqR.err1 rfl (by show (3 : Int) ≠ 0; omega) ⟨rfl, rfl⟩).symm
  have hf : ∀ {e : Int} {M : VM} {a : Act α}, e ≠ 0 → EqR (qO (Act.fail e) ({ D with M := M } : DM)) (qO a ({ D with M := M, err := e } : DM)) := by
    intro e M a he
    have h0 : ({ D with M := M } : DM).err = 0 := h
    rw [qO, if_pos h0]
    exact (EqR.err1 rfl he ⟨rfl, rfl⟩).symm
  rw [qO, if_neg (by simpa using h)]
  by_cases h1 : (qM D.M (jc n)).1.2 = 0
  rotate_left
  · rw [if_neg h1, if_neg h1]
    exact (EqR.err1 rfl h1 ⟨rfl, rfl⟩).symm
  rw [if_pos h1, if_pos h1]
  have hsz : (qM D.M (jc n)).2.sz = D.M.sz := readV_sz
  generalize qM D.M (jc n) = r1 at *
  obtain ⟨⟨w, e1⟩, M1⟩ := r1
  dsimp only at *
  have ht : ∀ {M : VM} {cs : List Cl} {a : Act α} {b : Int} {e : Int} {M' : VM} {c : Int}, (jw M cs).1 = e → (jw M cs).2 = M' → (e = 0 → c = b) → EqR (qO (.take cs (k b)) ({ D with M := M } : DM)) (qO (k c) ({ D with M := M', err := e } : DM)) := by
    intro M cs a b e M' c q1 q2 q3
    refine run_take.trans ?_
    unfold z6
    rw [if_pos (show ({ D with M := M } : DM).err = 0 from h)]
    dsimp only
    rw [q1, q2]
    by_cases he : e = 0
    · rw [q3 he]; exact EqR.refl _
    · exact EqR.errs he ⟨rfl, rfl⟩
  by_cases hw : w = 0
  · rw [if_pos hw, if_pos hw]
    unfold gA
    rw [qO, if_neg (by simpa using h)]
    dsimp only
    by_cases h2 : (qM M1 5).1.2 = 0
    rotate_left
    · rw [if_neg h2, if_neg h2]
      exact (EqR.err1 rfl h2 ⟨rfl, rfl⟩).symm
    rw [if_pos h2, if_pos h2]
    generalize qM M1 5 = r2 at *
    obtain ⟨⟨e5, e2⟩, M2⟩ := r2
    dsimp only at *
    rw [hsz]
    by_cases h3 : e5 < 14 ∨ 2147483648 ≤ e5 ∨ (D.M.sz : Int) < e5 + 1 + jf (jc n)
    · rw [if_pos h3, if_pos h3]
      exact hf (by omega)
    · rw [if_neg h3, if_neg h3]
      by_cases h4 : (jw M2 [(5, e5 + 1 + jf (jc n)), (e5, jc n + 8)]).1 = 0
      · rw [if_pos h4]
        exact ht (a := .fail 0) h4 rfl (fun _ => rfl)
      · rw [if_neg h4]
        exact ht (a := .fail 0) rfl rfl (fun h => absurd h h4)
  · rw [if_neg hw, if_neg hw]
    unfold gY
    by_cases h5 : 2147483648 ≤ w
    · rw [if_pos h5, if_pos h5]
      exact hf (by omega)
    · rw [if_neg h5, if_neg h5]
      rw [qO, if_neg (by simpa using h)]
      dsimp only
      by_cases h2 : (qM M1 w).1.2 = 0
      rotate_left
      · rw [if_neg h2, if_neg h2]
        exact (EqR.err1 rfl h2 ⟨rfl, rfl⟩).symm
      rw [if_pos h2, if_pos h2]
      generalize qM M1 w = r2 at *
      obtain ⟨⟨l, e2⟩, M2⟩ := r2
      dsimp only at *
      by_cases h4 : (jw M2 [(jc n, l), (w - 1, jc n + 8)]).1 = 0
      · rw [if_pos h4]
        exact ht (a := .fail 0) h4 rfl (fun _ => rfl)
      · rw [if_neg h4]
        exact ht (a := .fail 0) rfl rfl (fun h => absurd h h4)
theorem qJN {b : Int} {k : Act α} {D : DM} : EqR (qO (xx D.M.sz b k) D) (qO k (Xu D b)) := by
  by_cases h : D.err = 0
  rotate_left
  · unfold Xu
    rw [if_neg h]
    exact EqR.errs h ⟨rfl, rfl⟩
  have hf : ∀ {e : Int} {M : VM} {a : Act α}, e ≠ 0 → EqR (qO (Act.fail e) ({ D with M := M } : DM)) (qO a ({ D with M := M, err := e } : DM)) := by
    intro e M a he
    have h0 : ({ D with M := M } : DM).err = 0 := h
    rw [qO, if_pos h0]
    exact (EqR.err1 rfl he ⟨rfl, rfl⟩).symm
  unfold xx Xu
  rw [if_pos h]
  unfold gi zQ
  by_cases h1 : b ≤ 14 ∨ (D.M.sz : Int) ≤ b
  · rw [if_pos h1, if_pos h1]
    dsimp only
    rw [if_neg (by omega)]
    exact hf (M := D.M) (by omega)
  rw [if_neg h1, if_neg h1, qO, if_neg (by simpa using h)]
  by_cases h2 : (qM D.M (b - 1)).1.2 = 0
  rotate_left
  · rw [if_neg h2, if_neg h2]
    dsimp only
    rw [if_neg h2]
    exact (EqR.err1 rfl h2 ⟨rfl, rfl⟩).symm
  rw [if_pos h2, if_pos h2]
  generalize qM D.M (b - 1) = r at *
  obtain ⟨⟨w, e1⟩, M1⟩ := r
  dsimp only at *
  by_cases h3 : (xW w).1 = 0
  · rw [if_pos h3, if_pos h3]
    dsimp only
    rw [if_neg (by omega)]
    exact hf (by omega)
  rw [if_neg h3, if_neg h3]
  dsimp only
  rw [if_pos rfl]
  by_cases h4 : (xW w).2 = true
  · rw [if_pos h4, if_pos h4, qO, if_neg (by simpa using h)]
    dsimp only
    by_cases h5 : (jw M1 [(b - 1, (xW w).1)]).1 = 0
    · rw [if_pos h5, if_pos h5, qO, if_neg (by simpa using h)]
      dsimp only
      have e : ({ D with M := freeV (jw M1 [(b - 1, (xW w).1)]).2 b } : DM) = { D with M := freeV (jw M1 [(b - 1, (xW w).1)]).2 b, err := 0 } := by cases D; dsimp only at h; rw [h]
      rw [e]; exact EqR.refl _
    · rw [if_neg h5, if_neg h5]
      exact (EqR.err1 rfl h5 ⟨rfl, rfl⟩).symm
  · rw [if_neg h4, if_neg h4]
    exact hf (by omega)
end Go.Proofs.YtpohfcljfemhlaaGreat
namespace Go.Proofs.YtpohfcljfemhlaaGreat
open Go Go.Ae
set_option maxRecDepth 100000
variable {g h : AH} {L R : List SP}
def DrC (d : Nat) (D : DM) : SP := .ex fun q : Nat => .all [qg d [.ptr q 0, .int .i64 D.err, .int .i64 D.stp], ViewC q D.M]
theorem DrC.E {d : Nat} {D : DM} (H : HS g h (DrC d D :: R)) : ∃ q, HS g h (qg d [.ptr q 0, .int .i64 D.err, .int .i64 D.stp] :: ViewC q D.M :: R) := by
  obtain ⟨q, H⟩ := H.exE
  exact ⟨q, H.allE⟩
theorem DrC.I {d q : Nat} {D : DM} (H : HS g h (qg d [.ptr q 0, .int .i64 D.err, .int .i64 D.stp] :: ViewC q D.M :: R)) : HS g h (DrC d D :: R) := HS.exI q (HS.allI H)
theorem DrC.eqv {d : Nat} {D E : DM} (H : HS g h (DrC d D :: R)) (e : D = E) : HS g h (DrC d E :: R) := e ▸ H
theorem Gm {most : Nat} {lv : List LvM} {c : Cl} : x5 most lv lv [c] = vP most lv c.1 c.2 := by
  rw [yu]
  split
  · rename_i h
    show (0, _) = _
    rw [← h]
  · rename_i h
    cases lv with
    | nil => exact absurd rfl h
    | cons x r =>
      unfold vP at h ⊢
      dsimp only at h ⊢
      repeat' split at h
      all_goals first | exact absurd rfl h | skip
      · rename_i h1
        rw [if_pos h1]
      · rename_i h1 h2
        rw [if_neg h1, if_pos h2]
theorem NH {n : Nat} (hn : 6 ≤ n) {v : Nat} {M : VM} {p x : Int} (H : HS g h (ViewC v M :: R)) (O : OkV M) :
    wp (qw tab qI n (.fn 87 [] []) [.ptr v 0, .int .i64 p, .int .u64 x] h) fun r h' => r = .int .i64 (jw M [(p, x)]).1 ∧ HS g h' (ViewC v (jw M [(p, x)]).2 :: R) := by
  (refine qc (g := W87) rfl (by omega) fun k hk => ?_; show wp (S87 (qw tab qI k) _ _ _ _) _; unfold S87; try simp only [iI, uU, Int.ofNat_eq_natCast])
  refine qJ (KA (by omega) H) ?_
  rintro _ h1 ⟨rfl, rfl⟩
  unfold jw
  by_cases hp : 1 ≤ p ∧ p < M.sz
  · rw [decide_eq_true hp, if_pos (by intro c hc; rw [List.mem_singleton] at hc; subst hc; exact hp)]
    obtain ⟨fv, ov, q, e, H⟩ := ViewC.E H
    with_reducible (refine jb ?_; refine qK ?_; refine qC ?_; refine qZ ?_; refine qv (by assumption) .here (by with_unfolding_all exact rfl) ?_)
    refine qJ (MI (by omega) (H.sel e_3) O.lvs) ?_
    rintro _ h2 ⟨rfl, H2⟩
    rw [Gm]
    exact qz ⟨rfl, ViewC.I (M := { M with lv := (vP M.most M.lv p x).2 }) (H2.sub (.cons e_1 (.cons e_1 (.cons e_1 (.cons .here .refl)))))⟩
  · rw [decide_eq_false hp, if_neg (fun h => hp (h (p, x) (List.mem_singleton.2 rfl)))]
    with_reducible (refine jl ?_; refine qx ?_)
    exact qz ⟨rfl, H⟩
theorem w8 {n : Nat} (hn : 1 ≤ n) {d : Nat} {D : DM} (H : HS g h (DrC d D :: R)) : wp (qw tab qI n (.fn 53 [] []) [.ptr d 0] h) fun r h' => r = .bool (decide (D.err = 0)) ∧ h' = h := by
  (refine qc (g := W53) rfl (by omega) fun k hk => ?_; show wp (S53 (qw tab qI k) _ _) _; unfold S53; try simp only [iI, uU, Int.ofNat_eq_natCast])
  obtain ⟨q, H⟩ := DrC.E H
  with_reducible (refine qC ?_; refine qZ ?_; refine qv (by assumption) .here (by with_unfolding_all exact rfl) ?_)
  exact kw (qz ⟨rfl, rfl⟩)
theorem vz {n : Nat} (hn : 2 ≤ n) {d : Nat} {D : DM} {e : Int} (H : HS g h (DrC d D :: R)) : wp (qw tab qI n (.fn 86 [] []) [.ptr d 0, .int .i64 e] h) fun r h' => HS g h' (DrC d (xi D e) :: R) := by
  (refine qc (g := W86) rfl (by omega) fun k hk => ?_; show wp (S86 (qw tab qI k) _ _ _) _; unfold S86; try simp only [iI, uU, Int.ofNat_eq_natCast])
  refine qJ (w8 (by omega) H) ?_
  rintro _ h1 ⟨rfl, rfl⟩
  unfold xi
  by_cases h0 : D.err = 0
  · rw [decide_eq_true h0, if_pos h0]
    obtain ⟨q, H⟩ := DrC.E H
    with_reducible (refine qx ?_; refine qC ?_; refine qZ ?_)
    refine jB H (b := d) .here ⟨rfl, rfl⟩ (by simp) fun h2 H2 => ?_
    exact qz (DrC.I (D := { D with err := e }) H2)
  · rw [decide_eq_false h0, if_neg h0]
    with_reducible (refine qK ?_)
    exact qz H
theorem xN {n : Nat} (hn : 10 ≤ n) {d : Nat} {D : DM} {p : Int} (H : HS g h (DrC d D :: R)) (O : OkV D.M) : wp (qw tab qI n (.fn 65 [] []) [.ptr d 0, .int .i64 p] h) fun r h' => r = .int .u64 (zq D p).1 ∧ HS g h' (DrC d (zq D p).2 :: R) := by
  (refine qc (g := W65) rfl (by omega) fun k hk => ?_; show wp (S65 (qw tab qI k) _ _ _) _; unfold S65; try simp only [iI, uU, Int.ofNat_eq_natCast])
  refine qJ (w8 (by omega) H) ?_
  rintro _ h1 ⟨rfl, rfl⟩
  unfold zq
  by_cases h0 : D.err = 0
  · rw [decide_eq_true h0, if_pos h0]
    obtain ⟨q, H⟩ := DrC.E H
    with_reducible (refine jb ?_; refine qK ?_; refine qC ?_; refine qZ ?_; refine qv (by assumption) .here (by with_unfolding_all exact rfl) ?_)
    refine qJ (gH (by omega) (H.sel e_1) O) ?_
    rintro _ h2 ⟨rfl, H2⟩
    with_reducible (refine qy (by with_unfolding_all exact rfl) ?_; refine qy (by with_unfolding_all exact rfl) ?_)
    refine qJ (vz (by omega) (DrC.I (D := { D with M := (qM D.M p).2 }) (H2.sub (.cons e_1 (.cons .here .refl))))) ?_
    intro _ h3 H3
    unfold xi at H3
    rw [if_pos (show ({ D with M := (qM D.M p).2 } : DM).err = 0 from h0)] at H3
    exact qz ⟨rfl, H3⟩
  · rw [decide_eq_false h0, if_neg h0]
    with_reducible (refine jl ?_; refine qx ?_)
    exact qz ⟨rfl, H⟩
theorem U7 {n : Nat} (hn : 3 ≤ n) {d : Nat} {D : DM} {w : Int} (hw : 0 ≤ w) (H : HS g h (DrC d D :: R)) : wp (qw tab qI n (.fn 106 [] []) [.ptr d 0, .int .u64 w] h) fun r h' => r = .int .i64 (yG D w).1 ∧ HS g h' (DrC d (yG D w).2 :: R) := by
  (refine qc (g := W106) rfl (by omega) fun k hk => ?_; show wp (S106 (qw tab qI k) _ _ _) _; unfold S106; try simp only [iI, uU, Int.ofNat_eq_natCast])
  unfold yG
  by_cases h0 : 2147483648 ≤ w
  · rw [if_pos h0]
    with_reducible (refine zl (by omega) ?_; refine qx ?_)
    refine qJ (vz (by omega) H) ?_
    intro _ h1 H1
    exact qz ⟨rfl, H1⟩
  · rw [if_neg h0]
    with_reducible (refine zh (by omega) ?_; refine qK ?_; refine yh (by omega) ?_)
    exact qz ⟨rfl, H⟩
structure jX (D : DM) (sz : Nat) (f : Nat) : Prop where
  g : jC D.M
  sz : D.M.sz = sz
  fr : frS D.M.lv ≤ f
  st : 0 ≤ D.stp ∧ D.stp ≤ 1000000
theorem jX.fail {D : DM} {sz f : Nat} {e : Int} (G : jX D sz f) : jX (xi D e) sz f := by
  unfold xi
  split
  · exact ⟨G.g, G.sz, G.fr, G.st⟩
  · exact G
theorem jX.read {D : DM} {sz f : Nat} {p : Int} (G : jX D sz f) : jX (zq D p).2 sz f ∧ 0 ≤ (zq D p).1 ∧ (zq D p).1 < 18446744073709551616 := by
  unfold zq
  split
  · exact ⟨⟨G.g.read, readV_sz.trans G.sz, by show frS (qM D.M p).2.lv ≤ f; rw [ze]; exact G.fr, G.st⟩, G.g.wd.read⟩
  · exact ⟨G, by show (0 : Int) ≤ 0 ∧ (0 : Int) < 18446744073709551616; omega⟩
theorem jX.place {D : DM} {sz f : Nat} {p : Int} (G : jX D sz f) : jX (y4 D p).2 sz f ∧ 0 ≤ (y4 D p).1 ∧ (y4 D p).1 < 2147483648 := by
  have h := G.read (p := p)
  unfold y4 yG
  split
  · exact ⟨h.1.fail, by show (0 : Int) ≤ 0 ∧ (0 : Int) < 2147483648; omega⟩
  · exact ⟨h.1, by dsimp only; omega⟩
theorem takeV_sz {M : VM} {cs : List Cl} : (jw M cs).2.sz = M.sz := by unfold jw; split <;> rfl
theorem jX.take {D : DM} {sz f : Nat} {cs : List Cl} (G : jX D sz f) (hc : WdC cs) : jX (z6 D cs) sz f := by
  unfold z6
  split
  · exact ⟨G.g.take hc, takeV_sz.trans G.sz, by show frS (jw D.M cs).2.lv ≤ f; rw [xM]; exact G.fr, G.st⟩
  · exact G
theorem alloc_sz {M : VM} {n : Int} : (xv M n).2.sz = M.sz := by
  unfold xv gA gY
  repeat' split
  all_goals simp only [takeV_sz, readV_sz]
theorem free_sz {M : VM} {b : Int} : (gi M b).2.sz = M.sz := by
  unfold gi zQ
  repeat' split
  all_goals first | rfl | simp only [freeV, takeV_sz, readV_sz]
theorem qXM {M : VM} {n : Int} (W : WdV M) : 0 ≤ (xv M n).1.1 ∧ (xv M n).1.1 ≤ 2147483648 := by
  unfold xv
  split
  · dsimp only; omega
  have h1 := W.read (p := jc n)
  have h2 := W.read2 (p := jc n)
  generalize qM M (jc n) = q at *
  obtain ⟨⟨w, e1⟩, M1⟩ := q
  dsimp only at *
  split
  · split
    · unfold gA
      have h5 := h2.read (p := 5)
      generalize qM M1 5 = q at *
      obtain ⟨⟨e5, e2⟩, M2⟩ := q
      dsimp only at *
      repeat' split
      all_goals dsimp only
      all_goals omega
    · unfold gY
      repeat' split
      all_goals dsimp only
      all_goals omega
  · dsimp only; omega
theorem jX.alloc {D : DM} {sz f : Nat} {n : Int} (G : jX D sz f) : jX (yZ D n).2 sz f ∧ 0 ≤ (yZ D n).1 ∧ (yZ D n).1 ≤ 2147483648 := by
  unfold yZ
  split
  · have h := G.g.alloc (x := n)
    exact ⟨⟨h.1, alloc_sz.trans G.sz, by show frS (xv D.M n).2.lv ≤ f; rw [h.2]; exact G.fr, G.st⟩, qXM G.g.wd⟩
  · exact ⟨G, by dsimp only; omega⟩
theorem jX.free {D : DM} {sz f : Nat} {b : Int} (G : jX D sz f) (hf : f < 90000) : jX (Xu D b) sz (f + 1) := by
  unfold Xu
  split
  · have h := G.g.free (b := b) (by have := G.fr; omega)
    exact ⟨h.1, free_sz.trans G.sz, by show frS (gi D.M b).2.lv ≤ f + 1; have := G.fr; have := h.2; omega, G.st⟩
  · exact ⟨G.g, G.sz, by have := G.fr; omega, G.st⟩
theorem jX.step {D : DM} {sz f : Nat} (G : jX D sz f) (hs : D.stp < 1000000) : jX (zx D) sz f ∧ (zx D).stp = D.stp + 1 := by
  have h := G.st
  unfold zx xi
  repeat' split
  all_goals exact ⟨⟨G.g, G.sz, G.fr, by dsimp only; omega⟩, rfl⟩
theorem GR {n : Nat} (hn : 11 ≤ n) {d : Nat} {D : DM} {p : Int} {sz f : Nat} (H : HS g h (DrC d D :: R)) (G : jX D sz f) : wp (qw tab qI n (.fn 93 [] []) [.ptr d 0, .int .i64 p] h) fun r h' => r = .int .i64 (y4 D p).1 ∧ HS g h' (DrC d (y4 D p).2 :: R) := by
  (refine qc (g := W93) rfl (by omega) fun k hk => ?_; show wp (S93 (qw tab qI k) _ _ _) _; unfold S93; try simp only [iI, uU, Int.ofNat_eq_natCast])
  refine qJ (xN (by omega) H G.g.ok) ?_
  rintro _ h1 ⟨rfl, H1⟩
  refine qJ (U7 (by omega) (G.read (p := p)).2.1 H1) ?_
  rintro _ h2 ⟨rfl, H2⟩
  exact qz ⟨rfl, H2⟩
theorem xR {n : Nat} (hn : 10 ≤ n) {d : Nat} {D : DM} {p x : Int} (H : HS g h (DrC d D :: R)) (O : OkV D.M) : wp (qw tab qI n (.fn 54 [] []) [.ptr d 0, .int .i64 p, .int .u64 x] h) fun r h' => HS g h' (DrC d (z6 D [(p, x)]) :: R) := by
  (refine qc (g := W54) rfl (by omega) fun k hk => ?_; show wp (S54 (qw tab qI k) _ _ _ _) _; unfold S54; try simp only [iI, uU, Int.ofNat_eq_natCast])
  refine qJ (w8 (by omega) H) ?_
  rintro _ h1 ⟨rfl, rfl⟩
  unfold z6
  by_cases h0 : D.err = 0
  · rw [decide_eq_true h0, if_pos h0]
    obtain ⟨q, H⟩ := DrC.E H
    with_reducible (refine qx ?_; refine qC ?_; refine qZ ?_; refine qv (by assumption) .here (by with_unfolding_all exact rfl) ?_)
    refine qJ (NH (by omega) (H.sel e_1) O) ?_
    rintro _ h2 ⟨rfl, H2⟩
    refine qJ (vz (by omega) (DrC.I (D := { D with M := (jw D.M [(p, x)]).2 }) (H2.sub (.cons e_1 (.cons .here .refl))))) ?_
    intro _ h3 H3
    unfold xi at H3
    rw [if_pos (show ({ D with M := (jw D.M [(p, x)]).2 } : DM).err = 0 from h0)] at H3
    exact qz H3
  · rw [decide_eq_false h0, if_neg h0]
    with_reducible (refine qK ?_)
    exact qz H
theorem Ja {n : Nat} (hn : 11 ≤ n) {d : Nat} {D : DM} {p x : Int} (hx : 0 ≤ x ∧ x < 9223372036854775808) (H : HS g h (DrC d D :: R)) (O : OkV D.M) : wp (qw tab qI n (.fn 56 [] []) [.ptr d 0, .int .i64 p, .int .i64 x] h) fun r h' => HS g h' (DrC d (z6 D [(p, x)]) :: R) := by
  (refine qc (g := W56) rfl (by omega) fun k hk => ?_; show wp (S56 (qw tab qI k) _ _ _ _) _; unfold S56; try simp only [iI, uU, Int.ofNat_eq_natCast])
  refine xJ (by omega) ?_
  refine qJ (xR (by omega) H O) ?_
  intro _ h1 H1
  exact qz H1
theorem OY {n : Nat} (hn : 12 ≤ n) {d : Nat} {D : DM} {x : Int} {sz f : Nat} (H : HS g h (DrC d D :: R)) (G : jX D sz f) : wp (qw tab qI n (.fn 55 [] []) [.ptr d 0, .int .i64 x] h) fun r h' => r = .int .i64 (yZ D x).1 ∧ HS g h' (DrC d (yZ D x).2 :: R) := by
  (refine qc (g := W55) rfl (by omega) fun k hk => ?_; show wp (S55 (qw tab qI k) _ _ _) _; unfold S55; try simp only [iI, uU, Int.ofNat_eq_natCast])
  refine qJ (w8 (by omega) H) ?_
  rintro _ h1 ⟨rfl, rfl⟩
  unfold yZ
  by_cases h0 : D.err = 0
  · rw [decide_eq_true h0, if_pos h0]
    obtain ⟨q, H⟩ := DrC.E H
    with_reducible (refine jb ?_; refine qK ?_; refine qC ?_; refine qZ ?_; refine qv (by assumption) .here (by with_unfolding_all exact rfl) ?_)
    refine qJ (NB (by omega) (H.sel e_1) G.g.ok G.g.wd) ?_
    rintro _ h2 ⟨rfl, H2⟩
    with_reducible (refine qy (by with_unfolding_all exact rfl) ?_; refine qy (by with_unfolding_all exact rfl) ?_)
    refine qJ (vz (by omega) (DrC.I (D := { D with M := (xv D.M x).2 }) (H2.sub (.cons e_1 (.cons .here .refl))))) ?_
    intro _ h3 H3
    unfold xi at H3
    rw [if_pos (show ({ D with M := (xv D.M x).2 } : DM).err = 0 from h0)] at H3
    exact qz ⟨rfl, H3⟩
  · rw [decide_eq_false h0, if_neg h0]
    with_reducible (refine jl ?_; refine qx ?_)
    exact qz ⟨rfl, H⟩
theorem Zw {n : Nat} (hn : 12 ≤ n) {d : Nat} {D : DM} {b : Int} {sz f : Nat} (H : HS g h (DrC d D :: R)) (G : jX D sz f) : wp (qw tab qI n (.fn 99 [] []) [.ptr d 0, .int .i64 b] h) fun r h' => HS g h' (DrC d (Xu D b) :: R) := by
  (refine qc (g := W99) rfl (by omega) fun k hk => ?_; show wp (S99 (qw tab qI k) _ _ _) _; unfold S99; try simp only [iI, uU, Int.ofNat_eq_natCast])
  refine qJ (w8 (by omega) H) ?_
  rintro _ h1 ⟨rfl, rfl⟩
  unfold Xu
  by_cases h0 : D.err = 0
  · rw [decide_eq_true h0, if_pos h0]
    obtain ⟨q, H⟩ := DrC.E H
    with_reducible (refine qx ?_; refine qC ?_; refine qZ ?_; refine qv (by assumption) .here (by with_unfolding_all exact rfl) ?_)
    refine qJ (qQl (by omega) (H.sel e_1) G.g.ok) ?_
    rintro _ h2 ⟨rfl, H2⟩
    skip
    refine qJ (vz (by omega) (DrC.I (D := { D with M := (gi D.M b).2 }) (H2.sub (.cons e_1 (.cons .here .refl))))) ?_
    intro _ h3 H3
    unfold xi at H3
    rw [if_pos (show ({ D with M := (gi D.M b).2 } : DM).err = 0 from h0)] at H3
    exact qz H3
  · rw [decide_eq_false h0, if_neg h0]
    with_reducible (refine qK ?_)
    exact qz H
theorem wP {n : Nat} (hn : 3 ≤ n) {d : Nat} {D : DM} {sz f : Nat} (H : HS g h (DrC d D :: R)) (G : jX D sz f) : wp (qw tab qI n (.fn 84 [] []) [.ptr d 0] h) fun r h' => r = .bool (decide ((zx D).err = 0)) ∧ HS g h' (DrC d (zx D) :: R) := by
  (refine qc (g := W84) rfl (by omega) fun k hk => ?_; show wp (S84 (qw tab qI k) _ _) _; unfold S84; try simp only [iI, uU, Int.ofNat_eq_natCast])
  have hs := G.st
  obtain ⟨q, H⟩ := DrC.E H
  with_reducible (refine qC ?_; refine qZ ?_; refine qv (by assumption) .here (by with_unfolding_all exact rfl) ?_; refine qU (by omega) ?_; refine qC ?_; refine qZ ?_)
  refine jB H (b := d) .here ⟨rfl, rfl⟩ (by simp) fun h2 H2 => ?_
  have H2 := DrC.I (D := { D with stp := D.stp + 1 }) H2
  refine z9 [] (fun s h' => s = (.ptr d 0, ()) ∧ HS g h' (DrC d (zx D) :: R)) ?_ ?_
  · intro j hj
    have H3 := H2
    obtain ⟨q, H2⟩ := DrC.E H2
    by_cases hc : 2048 < D.stp + 1
    · have e : zx D = xi { D with stp := D.stp + 1 } 2 := by unfold zx; rw [if_pos hc]
      with_reducible (refine qC ?_; refine qZ ?_; refine qv (by assumption) .here (by with_unfolding_all exact rfl) ?_; refine vO (by omega) ?_; refine qx ?_)
      refine qJ (vz (by omega) H3) ?_
      intro _ h4 H4
      exact hj _ _ ⟨rfl, by rw [e]; exact H4⟩
    · have e : zx D = { D with stp := D.stp + 1 } := by unfold zx; rw [if_neg hc]
      with_reducible (refine qC ?_; refine qZ ?_; refine qv (by assumption) .here (by with_unfolding_all exact rfl) ?_; refine wb (by omega) ?_; refine qK ?_)
      exact hj _ _ ⟨rfl, by rw [e]; exact H3⟩
  · rintro s h3 ⟨rfl, H3⟩
    dsimp only
    refine qJ (w8 (by omega) H3) ?_
    rintro _ h4 ⟨rfl, rfl⟩
    exact qE (qz ⟨rfl, H3⟩)
end Go.Proofs.YtpohfcljfemhlaaGreat
namespace Go.Proofs.YtpohfcljfemhlaaGreat.arenaPlays
open Go Go.Ae
set_option maxRecDepth 100000
variable {g h : AH} {L R : List SP}
theorem QZ {b o : Nat} {K : AV → Go.Ae.R} {Q : AV → AH → Prop} (w : wp (K (.bool false)) Q) : wp (pEq .ptr false (.ptr b o) .nilp K) Q := w
theorem gZ {zs : List Int} {m : Int} (hz : ∀ z ∈ zs, 0 ≤ z ∧ z < 18446744073709551616) : jC (zk zs m) := by
  refine ⟨Nz zs m, ?_, ?_⟩
  · intro c hc
    obtain ⟨i, _, rfl⟩ := List.mem_map.1 hc
    show 0 ≤ qG zs (i + 1) ∧ qG zs (i + 1) < 18446744073709551616
    unfold qG
    cases hzi : zs[i + 1]? with
    | none => simp
    | some z => exact hz z (List.mem_of_getElem? hzi)
  · intro x hx
    simp [zk] at hx
    subst hx
    intro c hc; cases hc
theorem UZ (w : Int) : ∀ z ∈ zr w, 0 ≤ z ∧ z < 18446744073709551616 := by
  intro z hz
  unfold zr at hz
  rcases List.mem_or_eq_of_mem_set hz with h | rfl
  · rw [List.mem_replicate] at h; omega
  · omega
end Go.Proofs.YtpohfcljfemhlaaGreat.arenaPlays
namespace Go.Proofs.YtpohfcljfemhlaaGreat
open Go Go.Ae
set_option maxRecDepth 100000
variable {g h : AH} {L R : List SP}
def gW (zs : List Int) : List Int := (List.range (szZ zs.length)).map fun i => if i = 0 then 0 else qG zs i
def zp (l : List Int) (c : Cl) : List Int := if 1 ≤ c.1 ∧ c.1 < l.length then l.set c.1.toNat c.2 else l
def jK (zs : List Int) (cs : List Cl) : List Int := cs.foldl zp (gW zs)
theorem kx (l : List Int) (c : Cl) : (zp l c).length = l.length := by unfold zp; split <;> simp
theorem M6 {l : List Int} {c : Cl} (h : 1 ≤ c.1 ∧ c.1 < l.length) : zp l c = l.set c.1.toNat c.2 := if_pos h
theorem qQT {l : List Int} {c : Cl} (h : ¬ (1 ≤ c.1 ∧ c.1 < l.length)) : zp l c = l := if_neg h
theorem vn : ∀ (cs : List Cl) (l : List Int), (cs.foldl zp l).length = l.length := by
  intro cs
  induction cs with
  | nil => intro l; rfl
  | cons c cs ih => intro l; rw [List.foldl_cons, ih, kx]
theorem Je (zs : List Int) : (gW zs).length = szZ zs.length := by simp [gW]
theorem yX (zs : List Int) (cs : List Cl) : (jK zs cs).length = szZ zs.length := by unfold jK; rw [vn, Je]
theorem qXp (zs : List Int) {i : Nat} (hi : 0 < i) (h : i < szZ zs.length) : qG (gW zs) i = qG zs i := by
  unfold gW
  show ((List.map _ _)[i]?).getD 0 = _
  rw [List.getElem?_map, List.getElem?_range h, Option.map_some, Option.getD_some, if_neg (by omega)]
theorem wa (l : List Int) (c : Cl) (i : Nat) : qG (zp l c) i = if (c.1 = (i : Int) ∧ 1 ≤ c.1 ∧ c.1 < l.length) then c.2 else qG l i := by
  unfold zp qG
  by_cases h : 1 ≤ c.1 ∧ c.1 < l.length
  · rw [if_pos h, List.getElem?_set]
    by_cases h2 : c.1 = (i : Int)
    · rw [if_pos (by omega), if_pos (by omega), if_pos ⟨h2, h⟩]; rfl
    · rw [if_neg (by omega), if_neg (fun h' => h2 h'.1)]
  · rw [if_neg h, if_neg (fun h' => h h'.2)]
theorem KI {l : List Int} {c : Cl} (h : ∀ z ∈ l, 0 ≤ z ∧ z < 18446744073709551616) (hc : 0 ≤ c.2 ∧ c.2 < 18446744073709551616) : ∀ z ∈ zp l c, 0 ≤ z ∧ z < 18446744073709551616 := by
  unfold zp
  split
  · intro z hz
    rcases List.mem_or_eq_of_mem_set hz with h1 | rfl
    · exact h z h1
    · exact hc
  · exact h
theorem yl {zs : List Int} {cs : List Cl} (h : ∀ z ∈ zs, 0 ≤ z ∧ z < 18446744073709551616) (hc : WdC cs) : ∀ z ∈ jK zs cs, 0 ≤ z ∧ z < 18446744073709551616 := by
  unfold jK
  have hb : ∀ z ∈ gW zs, 0 ≤ z ∧ z < 18446744073709551616 := by
    intro z hz
    obtain ⟨i, _, rfl⟩ := List.mem_map.1 hz
    split
    · omega
    · unfold qG
      cases hzi : zs[i]? with
      | none => simp
      | some z => exact h z (List.mem_of_getElem? hzi)
  generalize gW zs = l at hb
  induction cs generalizing l with
  | nil => exact hb
  | cons c cs ih => exact ih (fun d hd => hc d (List.mem_cons_of_mem _ hd)) _ (KI hb (hc c (List.mem_cons_self ..)))
theorem qX9 (zs : List Int) : ∀ i, i ≤ szZ zs.length - 1 → ((kW zs).take i).foldl zp (List.replicate (szZ zs.length) 0) = (List.range (szZ zs.length)).map fun j => if j = 0 ∨ i < j then 0 else qG zs j := by
  intro i
  induction i with
  | zero =>
    intro _
    rw [List.take_zero, List.foldl_nil]
    apply List.ext_getElem?
    intro j
    by_cases hj : j < szZ zs.length
    · rw [List.getElem?_replicate, if_pos hj, List.getElem?_map, List.getElem?_range hj, Option.map_some, if_pos (by omega)]
    · rw [List.getElem?_eq_none (by simp; omega), List.getElem?_eq_none (by simp; omega)]
  | succ i ih =>
    intro hi
    have hk := ki zs (show i + 1 < szZ zs.length by omega)
    rw [List.take_add_one, hk, Option.toList_some, List.foldl_append, ih (by omega)]
    show zp _ _ = _
    unfold zp
    rw [if_pos ⟨by show 1 ≤ ((i + 1 : Nat) : Int); omega, by show ((i + 1 : Nat) : Int) < _; simp; omega⟩]
    apply List.ext_getElem?
    intro j
    rw [List.getElem?_set]
    by_cases hj : j < szZ zs.length
    · by_cases h1 : ((i + 1 : Nat) : Int).toNat = j
      · rw [if_pos h1, if_pos (by simp; omega), List.getElem?_map, List.getElem?_range hj, Option.map_some, if_neg (by omega)]
        rw [show j = i + 1 by omega]
      · rw [if_neg h1, List.getElem?_map, List.getElem?_map, List.getElem?_range hj, Option.map_some, Option.map_some]
        by_cases h2 : j = 0 ∨ i < j
        · rw [if_pos h2, if_pos (by omega)]
        · rw [if_neg h2, if_neg (by omega)]
    · rw [if_neg (by omega), List.getElem?_eq_none (by simp; omega), List.getElem?_eq_none (by simp; omega)]
theorem Gk {n : Nat} (hn : 5 ≤ n) {zs : List Int} {cs : List Cl} {a0 c : AV} (H : HS g h R) (S : Rd g R 1 zs.length a0 (zs.map (.int .u64))) (S1 : Rd g R 2 cs.length c (cs.flatMap jO)) (hc : cs.length < 100000) :
    wp (qw tab qI n (.fn 70 [] []) [a0, c] h) fun r h' => ∃ e, HS g h' (qS e 1 (jK zs cs).length r ((jK zs cs).map (.int .u64)) :: R) := by
  (refine qc (g := W70) rfl (by omega) fun k hk => ?_; show wp (S70 (qw tab qI k) _ _ _) _; unfold S70; try simp only [iI, uU, Int.ofNat_eq_natCast])
  have hb := Jt (zs.length : Int)
  refine qJ (Vr (by omega) H S) ?_
  rintro _ h1 ⟨o, rfl, H⟩
  obtain ⟨kv, q, H⟩ := RvC.E H
  have H : HS g h1 (qg o [.int .i64 ((szZ zs.length : Nat) : Int), kv, .ptr q 0, .int .i64 0] :: qS 48 2 (kW zs).length kv ((kW zs).flatMap jO) :: RgC q (zk zs ((0 : Nat) : Int)).most (zk zs ((0 : Nat) : Int)).lv :: R) := H
  with_reducible (refine qC ?_; refine qZ ?_; refine qv (by assumption) .here (by with_unfolding_all exact rfl) ?_)
  refine K8 H (by omega) fun ov h2 H2 => ?_
  obtain ⟨e, H2⟩ : ∃ e, HS g h2 (qS e 1 (szZ zs.length) ov (List.replicate (szZ zs.length) (.int .u64 ((0 : Nat) : Int))) :: qg o [.int .i64 ((szZ zs.length : Nat) : Int), kv, .ptr q 0, .int .i64 0] :: qS 48 2 (kW zs).length kv ((kW zs).flatMap jO) :: RgC q (zk zs ((0 : Nat) : Int)).most (zk zs ((0 : Nat) : Int)).lv :: R) := ⟨_, H2⟩
  have hkl := QO zs
  refine jh (fun m s h' => ∃ i : Nat, s = (.int .i64 (i : Int), ov, .ptr o 0, c, ()) ∧ i ≤ szZ zs.length - 1 ∧ m = szZ zs.length - 1 - i ∧ HS g h' (qS e 1 (szZ zs.length) ov ((((kW zs).take i).foldl zp (List.replicate (szZ zs.length) 0)).map (.int .u64)) ::
    qg o [.int .i64 ((szZ zs.length : Nat) : Int), kv, .ptr q 0, .int .i64 0] :: qS 48 2 (kW zs).length kv ((kW zs).flatMap jO) :: RgC q (zk zs ((0 : Nat) : Int)).most (zk zs ((0 : Nat) : Int)).lv :: R))
    ?_ (m := szZ zs.length - 1) (by show _ < 1000000000; omega) ⟨0, rfl, by omega, by omega, by rw [List.take_zero, List.foldl_nil, List.map_replicate]; exact H2⟩
  clear H H2
  rintro m ih s h3 hih ⟨i, rfl, h1, rfl, H⟩
  dsimp only
  with_reducible (refine qC ?_; refine qZ ?_; refine qv (by assumption) e_1 (by with_unfolding_all exact rfl) ?_; refine jg (by assumption) e_2 ?_)
  have hfl : (((kW zs).take i).foldl zp (List.replicate (szZ zs.length) 0)).length = szZ zs.length := by rw [vn, List.length_replicate]
  refine zW (fun hlt => qx ?_) fun hge => qK ?_
  · have hi : i < szZ zs.length - 1 := by omega
    have hk := ki zs (show i + 1 < szZ zs.length by omega)
    with_reducible (refine qC ?_; refine qZ ?_; refine qv (by assumption) e_1 (by with_unfolding_all exact rfl) ?_)
    refine xF (x := .int .i64 ((i + 1 : Nat) : Int)) (H.sl e_2) (by omega) (by omega) (by rw [yT (sz := 2) jO (fun _ => rfl) _ _ _ (by omega), hk]; rfl) ?_
    with_reducible (refine qC ?_; refine qZ ?_; refine qv (by assumption) e_1 (by with_unfolding_all exact rfl) ?_)
    refine xF (x := .int .u64 (qG zs (i + 1))) (H.sl e_2) (by omega) (by omega) (by rw [yT (sz := 2) jO (fun _ => rfl) _ _ _ (by omega), hk]; rfl) ?_
    refine V3 H (by omega) ⟨rfl, rfl⟩ fun h4 H4 => ?_
    refine qU (by omega) (hih (szZ zs.length - 1 - (i + 1)) _ _ (by omega) ⟨i + 1, rfl, by omega, rfl, ?_⟩)
    rw [List.take_add_one, hk, Option.toList_some, List.foldl_append]
    show HS g h4 (qS e 1 (szZ zs.length) ov ((zp _ _).map _) :: _)
    rw [M6 ⟨by show 1 ≤ ((i + 1 : Nat) : Int); omega, by show ((i + 1 : Nat) : Int) < _; rw [hfl]; omega⟩, List.map_set]
    exact H4
  · obtain rfl : i = szZ zs.length - 1 := by omega
    have hbase : ((kW zs).take (szZ zs.length - 1)).foldl zp (List.replicate (szZ zs.length) 0) = gW zs := by
      rw [qX9 zs _ (Nat.le_refl _)]
      unfold gW
      apply List.map_congr_left
      intro j hj
      rw [List.mem_range] at hj
      by_cases h0 : j = 0
      · rw [if_pos (.inl h0), if_pos h0]
      · rw [if_neg (by omega), if_neg h0]
    rw [hbase] at H
    refine jh (fun m s h' => ∃ i : Nat, s = (.int .i64 (i : Int), ov, .ptr o 0, c, ()) ∧ i ≤ cs.length ∧ m = cs.length - i ∧ HS g h' (qS e 1 (szZ zs.length) ov (((cs.take i).foldl zp (gW zs)).map (.int .u64)) ::
      qg o [.int .i64 ((szZ zs.length : Nat) : Int), kv, .ptr q 0, .int .i64 0] :: qS 48 2 (kW zs).length kv ((kW zs).flatMap jO) :: RgC q (zk zs ((0 : Nat) : Int)).most (zk zs ((0 : Nat) : Int)).lv :: R))
      ?_ (m := cs.length) (by show _ < 1000000000; omega) ⟨0, rfl, by omega, by omega, H⟩
    clear H hih hfl
    rintro m ih s h3 hih ⟨i, rfl, h1, rfl, H⟩
    dsimp only
    have Sc := S1.sl H.drop.drop.drop.drop
    have hfl : ((cs.take i).foldl zp (gW zs)).length = szZ zs.length := by rw [vn, Je]
    refine zO Sc ?_
    refine zW (fun hlt => qx ?_) fun hge => qK (qE (qz ?_))
    · have hi : i < cs.length := by omega
      have hci : cs[i]? = some cs[i] := List.getElem?_eq_getElem hi
      have hcf : ∀ f, f < 2 → (cs.flatMap jO)[i * 2 + f]? = [AV.int .i64 cs[i].1, AV.int .u64 cs[i].2][f]? := by
        intro f hf
        rw [yT (sz := 2) jO (fun _ => rfl) _ _ _ hf, hci]; rfl
      have hnext : (cs.take (i + 1)).foldl zp (gW zs) = zp ((cs.take i).foldl zp (gW zs)) cs[i] := by
        rw [List.take_succ_eq_append_getElem hi, List.foldl_append]; rfl
      refine qk ?_
      refine xF (x := .int .i64 cs[i].1) Sc (by omega) hi (hcf 0 (by omega)) ?_
      have HV : HS g h3 (RvC o (zk zs ((0 : Nat) : Int)) :: qS e 1 (szZ zs.length) ov (((cs.take i).foldl zp (gW zs)).map (.int .u64)) :: R) := RvC.I (kv := kv) (q := q) (H.sub (.cons e_1 (.cons e_1 (.cons e_1 (.cons .here .refl)))))
      refine qJ (qX4 (by omega) HV) ?_
      rintro _ h3 ⟨rfl, rfl⟩
      by_cases hin : 1 ≤ cs[i].1 ∧ cs[i].1 < ((szZ zs.length : Nat) : Int)
      · rw [decide_eq_true (show 1 ≤ cs[i].1 ∧ cs[i].1 < ((zk zs ((0 : Nat) : Int)).sz : Int) from hin)]
        refine qx ?_
        refine xF (x := .int .i64 cs[i].1) Sc (by omega) hi (hcf 0 (by omega)) ?_
        refine xF (x := .int .u64 cs[i].2) Sc (by omega) hi (hcf 1 (by omega)) ?_
        obtain ⟨p, hp⟩ : ∃ p : Nat, cs[i].1 = (p : Int) := ⟨cs[i].1.toNat, by omega⟩
        rw [hp]
        refine V3 H (by omega) ⟨rfl, rfl⟩ fun h4 H4 => ?_
        refine qU (by omega) (hih (cs.length - (i + 1)) _ _ (by omega) ⟨i + 1, rfl, by omega, rfl, ?_⟩)
        rw [hnext]
        rw [M6 (by rw [hfl]; exact hin), List.map_set, hp]
        exact H4
      · rw [decide_eq_false (show ¬ (1 ≤ cs[i].1 ∧ cs[i].1 < ((zk zs ((0 : Nat) : Int)).sz : Int)) from hin)]
        refine qK (qU (by omega) (hih (cs.length - (i + 1)) _ _ (by omega) ⟨i + 1, rfl, by omega, rfl, ?_⟩))
        rw [hnext]
        rw [qQT (by rw [hfl]; exact hin)]
        exact H
    · obtain rfl : i = cs.length := by omega
      rw [List.take_length] at H
      have ha : cs.foldl zp (gW zs) = jK zs cs := rfl
      rw [ha] at H
      rw [yX]
      exact ⟨e, H.sub (.cons .here (.drop (.drop (.drop .refl))))⟩
theorem GY {most : Nat} {F : List Int} {was : List LvM} : ∀ {cs C : List Cl}, InC cs → C.length + cs.length ≤ most → x5 most was [(C, F)] cs = (0, [(zy C cs, F)]) := by
  intro cs
  induction cs with
  | nil => intro C _ _; rfl
  | cons c cs ih =>
    intro C hi hl
    have hc := hi c (List.mem_cons_self ..)
    simp at hl
    have hp : vP most [(C, F)] c.1 c.2 = (0, [(zo c.1 c.2 C, F)]) := by
      unfold vP
      dsimp only
      rw [if_neg (by omega), if_neg (fun h => by have := h.2; simp [xK] at this; omega)]
    rw [yu, hp, if_pos rfl, ih (fun d hd => hi d (List.mem_cons_of_mem _ hd)) (by
      have := kA (p := c.1) (v := c.2) (l := C)
      split at this <;> omega)]
    rfl
def yK (zs : List Int) (m : Int) (C : List Cl) (F : List Int) : VM := { zk zs m with lv := [(C, F)] }
theorem QV {p : Int} {c : Cl} {l : List Cl} : jF p (c :: l) = if c.1 = p then some c.2 else jF p l := rfl
theorem Md (zs : List Int) {i : Nat} (h0 : 0 < i) (h : i < szZ zs.length) : jF (i : Int) (kW zs) = some (qG zs i) := by
  have e : kW zs = (kW zs).take (i - 1) ++ [((i : Int), qG zs i)] ++ (kW zs).drop i := by
    have hk := ki zs (show i - 1 + 1 < szZ zs.length by omega)
    rw [show i - 1 + 1 = i by omega] at hk
    have := List.take_add_one (l := kW zs) (i := i - 1)
    rw [show i - 1 + 1 = i by omega, hk, Option.toList_some] at this
    rw [← this, List.take_append_drop]
  have hg : ∀ (l1 l2 : List Cl), jF (i : Int) l1 = none → jF (i : Int) (l1 ++ l2) = jF (i : Int) l2 := by
    intro l1 l2
    induction l1 with
    | nil => intro _; rfl
    | cons c l ih =>
      intro hn
      rw [QV] at hn
      split at hn
      · cases hn
      · rename_i hc
        show jF (i : Int) (c :: (l ++ l2)) = _
        rw [QV, if_neg hc]
        exact ih hn
  rw [e, List.append_assoc, hg _ _ (Mx zs (by omega))]
  show jF (i : Int) (((i : Int), qG zs i) :: _) = _
  rw [QV, if_pos rfl]
theorem UP {zs : List Int} {m : Int} {C : List Cl} {F : List Int} {i : Nat} (h0 : 0 < i) (h : i < szZ zs.length) : qM (yK zs m C F) (i : Int) = (((jF (i : Int) C).getD (qG zs i), 0), yK zs m C F) := by
  unfold qM
  rw [if_pos (show 1 ≤ (i : Int) ∧ (i : Int) < ((yK zs m C F).sz : Int) from ⟨by omega, show (i : Int) < ((szZ zs.length : Nat) : Int) by omega⟩)]
  have hL : kF (i : Int) (yK zs m C F).lv = jF (i : Int) C := by
    show (match jF (i : Int) C with | some v => some v | none => kF (i : Int) []) = _
    cases jF (i : Int) C <;> rfl
  have hK : jF (i : Int) (yK zs m C F).K = some (qG zs i) := Md zs h0 h
  rw [hL, hK]
  cases jF (i : Int) C <;> rfl
theorem ZL {zs : List Int} {m : Int} {C cs : List Cl} {F : List Int} (hi : ∀ c ∈ cs, 1 ≤ c.1 ∧ c.1 < ((szZ zs.length : Nat) : Int)) (hl : C.length + cs.length ≤ (max 0 (min m 96)).toNat) :
    jw (yK zs m C F) cs = (0, yK zs m (zy C cs) F) := by
  have hb := Jt (zs.length : Int)
  unfold jw
  rw [if_pos (show ∀ c ∈ cs, 1 ≤ c.1 ∧ c.1 < ((yK zs m C F).sz : Int) from hi)]
  rw [show x5 (yK zs m C F).most (yK zs m C F).lv (yK zs m C F).lv cs = (0, [(zy C cs, F)]) from GY (fun c hc => by have := hi c hc; omega) hl]; rfl
theorem VU (zs : List Int) (m : Int) : zk zs m = yK zs m [] [] := rfl
structure FullS (zs : List Int) (T c i : Nat) : Prop where
  len : zs.length = T
  lo : 32 ≤ T
  hi : T ≤ 256
  cls : 1 ≤ c ∧ c ≤ 4
  nn : ∀ z ∈ zs, 0 ≤ z ∧ z < 18446744073709551616
  head : qG zs c = 0
  bump : qG zs 5 = 14 + (i : Int) * (jf c + 1)
  hdr : ∀ j, j < i → ∀ p : Nat, (p : Int) = 14 + (j : Int) * (jf c + 1) → qG zs p = (c : Int) + 8
theorem QP {T : Nat} (h1 : 32 ≤ T) (h2 : T ≤ 256) : szZ (T : Int) = T := by unfold szZ; omega
theorem qXN {zs : List Int} {m : Int} {C : List Cl} {F : List Int} {p : Nat} {w : Int} (h0 : 14 ≤ p) (h : p + 1 < szZ zs.length) (hw : (jF (p : Int) C).getD (qG zs p) = w) :
    zQ (yK zs m C F) ((p : Int) + 1) = (if (xW w).1 = 0 then ((0, false, 2), yK zs m C F) else (((xW w).1, (xW w).2, 0), yK zs m C F)) := by
  unfold zQ
  have hsz : ((yK zs m C F).sz : Int) = ((szZ zs.length : Nat) : Int) := rfl
  rw [if_neg (by rw [hsz]; omega), show (p : Int) + 1 - 1 = (p : Int) by omega, UP (by omega) (by omega), hw]
  rfl
end Go.Proofs.YtpohfcljfemhlaaGreat
namespace Go.Proofs.YtpohfcljfemhlaaGreat.arenaFull
open Go Go.Ae arenaPlays
set_option maxRecDepth 100000
variable {g h : AH} {L R : List SP}
end Go.Proofs.YtpohfcljfemhlaaGreat.arenaFull
