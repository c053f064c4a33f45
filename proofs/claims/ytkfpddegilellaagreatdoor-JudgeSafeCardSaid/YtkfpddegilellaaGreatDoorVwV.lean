/- Views: by the program. -/
import Derived.Test.YtkfpddegilellaaGreatDoorVwL
namespace Go.Proofs.YtkfpddegilellaaGreatDoor
open Go Go.Ae
set_option maxRecDepth 100000

variable {g h : AH} {L R : List SP}

/-- what is known, and what is to be written -/
structure VM where
  sz : Nat
  K : List Cl
  most : Nat
  lv : List LvM
  need : Int
structure OkV (M : VM) : Prop where
  lo : 32 ≤ M.sz
  hi : M.sz ≤ 256
  lvs : OkL M.most M.lv
  ins : ∀ c ∈ M.K, 1 ≤ c.1 ∧ c.1 < M.sz
  un : UnC M.K
  fr : ∀ x ∈ M.lv, x.2.length < 100000
def knowV (M : VM) (p x : Int) : Int × VM :=
  if 1 ≤ p ∧ p < M.sz then match getC p M.K with
    | some y => (if y = x then 0 else 14, M)
    | none => (0, { M with K := M.K ++ [(p, x)] })
  else (2, M)
def readV (M : VM) (p : Int) : (Int × Int) × VM :=
  if 1 ≤ p ∧ p < M.sz then match getL p M.lv with
    | some x => ((x, 0), M)
    | none => match getC p M.K with
      | some x => ((x, 0), M)
      | none => ((0, 11), { M with need := p })
  else ((0, 2), M)
def takeV (M : VM) (cs : List Cl) : Int × VM :=
  if ∀ c ∈ cs, 1 ≤ c.1 ∧ c.1 < M.sz then ((takeL M.most M.lv M.lv cs).1, { M with lv := (takeL M.most M.lv M.lv cs).2 }) else (2, M)
def freeV (M : VM) (b : Int) : VM := { M with lv := freeL M.lv b }
def openV (M : VM) : Int × VM := ((openL M.lv).1, { M with lv := (openL M.lv).2 })
def dropV (M : VM) : Int × VM := ((dropL M.lv).1, { M with lv := (dropL M.lv).2 })
def keepV (M : VM) : Int × VM := ((keepL M.lv).1, { M with lv := (keepL M.lv).2 })

/-- different numbers below n: at most n -/
theorem nodup_le : ∀ (n : Nat) (l : List Int), l.Nodup → (∀ x ∈ l, 0 ≤ x ∧ x < n) → l.length ≤ n := by
  intro n
  induction n with
  | zero =>
    intro l _ h
    cases l with
    | nil => exact Nat.le_refl _
    | cons x l => have := h x (List.mem_cons_self ..); omega
  | succ n ih =>
    intro l hd h
    by_cases hx : (n : Int) ∈ l
    · have := ih (l.erase n) (hd.erase _) (fun x hx' => by
        have h1 := h x (List.mem_of_mem_erase hx')
        have h2 : x ≠ n := by rintro rfl; exact (List.Nodup.not_mem_erase hd) hx'
        omega)
      rw [List.length_erase_of_mem hx] at this
      omega
    · have := ih l hd (fun x hx' => by
        have h1 := h x hx'
        have h2 : x ≠ n := by rintro rfl; exact hx hx'
        omega)
      omega
theorem OkV.klen {M : VM} (O : OkV M) : M.K.length ≤ 256 := by
  have hu : (M.K.map (·.1)).Nodup := O.un
  have := nodup_le M.sz _ hu (fun x hx => by
    obtain ⟨c, hc, rfl⟩ := List.mem_map.1 hx
    have := O.ins c hc
    omega)
  rw [List.length_map] at this
  have := O.hi
  omega

def encF (f : Int × Bool) : List AV := [.int .u64 f.1, .bool f.2]
def factM (K : List Cl) (i : Nat) : Int × Bool := match getC (i : Int) K with | some x => (x, true) | none => (0, false)
def factsM (sz : Nat) (K : List Cl) : List (Int × Bool) := (List.range sz).map (factM K)
theorem factsM_len (sz : Nat) (K : List Cl) : (factsM sz K).length = sz := by simp [factsM]
theorem factsM_get {sz : Nat} {K : List Cl} {i : Nat} (hi : i < sz) : (factsM sz K)[i]? = some (factM K i) := by simp [factsM, List.getElem?_range hi]

theorem enc_row {α : Type} {sz : Nat} {enc : α → List AV} (he : ∀ a, (enc a).length = sz) {l : List α} {i : Nat} {a : α} (h : l[i]? = some a) : ((l.flatMap enc).drop (i * sz)).take sz = enc a := by
  obtain ⟨hi, e⟩ := List.getElem?_eq_some_iff.1 h
  rw [flat_drop (sz := sz) enc he, List.drop_eq_getElem_cons hi, e, List.flatMap_cons, ← he a, List.take_left]
theorem enc_put {α : Type} {sz : Nat} {enc : α → List AV} (he : ∀ a, (enc a).length = sz) {l : List α} {i : Nat} {a : α} (hi : i < l.length) : lset (l.flatMap enc) (i * sz) (enc a) = (l.set i a).flatMap enc := by
  have h1 : (l.flatMap enc).take (i * sz) = (l.take i).flatMap enc := by
    have e1 : l.flatMap enc = (l.take i).flatMap enc ++ (l.drop i).flatMap enc := by rw [← List.flatMap_append, List.take_append_drop]
    have e2 : ((l.take i).flatMap enc).length = i * sz := by rw [flat_len (sz := sz) enc he, List.length_take, Nat.min_eq_left (by omega)]
    rw [e1, ← e2, List.take_left]
  have h2 : (l.flatMap enc).drop (i * sz + sz) = (l.drop (i + 1)).flatMap enc := by
    rw [show i * sz + sz = (i + 1) * sz by rw [Nat.add_mul, Nat.one_mul], flat_drop (sz := sz) enc he]
  unfold lset
  rw [he, h1, h2, List.set_eq_take_append_cons_drop, if_pos hi, List.flatMap_append, List.flatMap_cons, List.append_assoc]
theorem repl_flat {α : Type} {enc : α → List AV} {a : α} : ∀ n, repl (enc a) n = (List.replicate n a).flatMap enc := by
  intro n
  induction n with
  | zero => rfl
  | succ n ih => rw [repl, ih, List.replicate_succ, List.flatMap_cons]
theorem factsM_nil (sz : Nat) : factsM sz [] = List.replicate sz (0, false) := by
  unfold factsM
  rw [show factM [] = fun _ => ((0, false) : Int × Bool) from rfl, List.map_const', List.length_range]
theorem factsM_add {sz : Nat} {K : List Cl} {i : Nat} {x : Int} (hi : i < sz) (hn : getC (i : Int) K = none) : factsM sz (K ++ [((i : Int), x)]) = (factsM sz K).set i (x, true) := by
  have e : ∀ j : Nat, getC (j : Int) (K ++ [((i : Int), x)]) = if j = i then some x else getC (j : Int) K := by
    intro j
    rw [← putC_none hn, getC_put]
    by_cases h : j = i
    · rw [if_pos h, if_pos (by rw [h])]
    · rw [if_neg h, if_neg (by omega)]
  apply List.ext_getElem?
  intro j
  rw [List.getElem?_set, factsM_len]
  by_cases hj : j < sz
  · rw [factsM_get hj]
    by_cases h : i = j
    · subst h; rw [if_pos rfl, if_pos hi]; unfold factM; rw [e, if_pos rfl]
    · rw [if_neg h, factsM_get hj]; unfold factM; rw [e, if_neg (by omega)]
  · rw [List.getElem?_eq_none (by rw [factsM_len]; omega), if_neg (by omega), List.getElem?_eq_none (by rw [factsM_len]; omega)]

def ViewC (v : Nat) (M : VM) : SP := .ex fun fv => .ex fun ov => .ex fun q => .ex fun e => .all [ObjC v [fv, ov, .ptr q 0, .int .i64 M.need], SliC e 2 M.sz fv ((factsM M.sz M.K).flatMap encF),
  SliC 3 1 M.K.length ov (M.K.map fun c => .int .i64 c.1), LgC q M.most M.lv]
theorem ViewC.E {v : Nat} {M : VM} (H : HS g h (ViewC v M :: R)) : ∃ fv ov q e, HS g h (ObjC v [fv, ov, .ptr q 0, .int .i64 M.need] :: SliC e 2 M.sz fv ((factsM M.sz M.K).flatMap encF) ::
    SliC 3 1 M.K.length ov (M.K.map fun c => .int .i64 c.1) :: LgC q M.most M.lv :: R) := by
  obtain ⟨fv, H⟩ := H.exE
  obtain ⟨ov, H⟩ := H.exE
  obtain ⟨q, H⟩ := H.exE
  obtain ⟨e, H⟩ := H.exE
  exact ⟨fv, ov, q, e, H.allE⟩
theorem ViewC.I {v : Nat} {M : VM} {fv ov : AV} {q : Nat} {e : TypeId} (H : HS g h (ObjC v [fv, ov, .ptr q 0, .int .i64 M.need] :: SliC e 2 M.sz fv ((factsM M.sz M.K).flatMap encF) ::
    SliC 3 1 M.K.length ov (M.K.map fun c => .int .i64 c.1) :: LgC q M.most M.lv :: R)) : HS g h (ViewC v M :: R) :=
  HS.exI fv (HS.exI ov (HS.exI q (HS.exI e (HS.allI H))))

def szZ (n : Int) : Nat := (max 32 (min n 256)).toNat
theorem szZ_b (n : Int) : 32 ≤ szZ n ∧ szZ n ≤ 256 := by unfold szZ; omega
def newV (words most : Int) : VM := ⟨szZ words, [], (max 0 (min most 96)).toNat, [([], [])], 0⟩
theorem newL_ok {m : Nat} (hm : m ≤ 96) : OkL m [([], [])] := ⟨by simp [heldL], hm, by intro x hx; simp at hx; subst hx; intro c hc; simp at hc, by intro x hx; simp at hx; subst hx; exact List.nodup_nil, by simp, by simp⟩
theorem newV_ok (words most : Int) : OkV (newV words most) :=
  ⟨(szZ_b _).1, (szZ_b _).2, newL_ok (by show (max 0 (min most 96)).toNat ≤ 96; omega), by intro c hc; simp [newV] at hc, List.nodup_nil, by intro x hx; simp [newV] at hx; subst hx; simp⟩

theorem vnew_ok {n : Nat} (hn : 4 ≤ n) {w m : Int} (H : HS g h R) : wp (callT tab rtab n (.fn 52 [] []) [.int .i64 w, .int .i64 m] h) fun r h' => ∃ v, r = .ptr v 0 ∧ HS g h' (ViewC v (newV w m) :: R) := by
  (refine ww_fn (g := W52) rfl (by omega) fun k hk => ?_; show wp (S52 (callT tab rtab k) _ _ _) _; unfold S52; try simp only [Int.ofNat_eq_natCast])
  refine ww_min (ww_max ?_)
  have hb := szZ_b w
  rw [show max ((32 : Nat) : Int) (min w ((256 : Nat) : Int)) = ((szZ w : Nat) : Int) by unfold szZ; omega]
  refine ww_makeH (sz := 2) H rfl (Nat.le_refl _) (by omega) fun fv h2 H2 => ?_
  refine ww_call (lnew_ok (by omega) H2) ?_
  rintro _ h3 ⟨q, rfl, H3⟩
  have h1 := H3.one (.there .here)
  refine ww_build (l := [fv, .nils, .ptr q 0, .int .i64 0]) (by unfold afill; rw [h1.1]; rfl) ?_
  refine ww_boxA H3 (by show (fv.one && (true && (true && (true && true)))) = true; rw [h1.2]; rfl) fun v h4 H4 => ww_ret ⟨v, rfl, ?_⟩
  rw [List.take_of_length_le (by rw [repl_len]; exact Nat.le_refl _), show repl [AV.int .u64 ((0 : Nat) : Int), AV.bool false] (szZ w) = (factsM (szZ w) []).flatMap encF by rw [factsM_nil, ← repl_flat]; rfl] at H4
  exact ViewC.I (M := newV w m) ((H4.nils (e := 3) (sz := 1)).sub (.cons (.there .here) (.cons (.there (.there .here)) (.cons .here (.cons .here (.refl))))))

theorem vsize_ok {n : Nat} (hn : 1 ≤ n) {v : Nat} {M : VM} (H : HS g h (ViewC v M :: R)) : wp (callT tab rtab n (.fn 53 [] []) [.ptr v 0] h) fun r h' => r = .int .i64 (M.sz : Int) ∧ h' = h := by
  (refine ww_fn (g := W53) rfl (by omega) fun k hk => ?_; show wp (S53 (callT tab rtab k) _ _) _; unfold S53; try simp only [Int.ofNat_eq_natCast])
  obtain ⟨fv, ov, q, e, H⟩ := ViewC.E H
  with_reducible (refine ww_nil ?_; refine ww_field0 ?_; refine ww_ldH (by assumption) .here (by with_unfolding_all exact rfl) ?_; refine ww_lenH (by assumption) (.there .here) ?_)
  exact ww_ret ⟨rfl, rfl⟩
theorem vis_ok {n : Nat} (hn : 1 ≤ n) {v : Nat} {M : VM} {p : Int} (H : HS g h (ViewC v M :: R)) : wp (callT tab rtab n (.fn 70 [] []) [.ptr v 0, .int .i64 p] h) fun r h' => r = .bool (decide (1 ≤ p ∧ p < M.sz)) ∧ h' = h := by
  (refine ww_fn (g := W70) rfl (by omega) fun k hk => ?_; show wp (S70 (callT tab rtab k) _ _ _) _; unfold S70; try simp only [Int.ofNat_eq_natCast])
  obtain ⟨fv, ov, q, e, H⟩ := ViewC.E H
  by_cases h1 : 1 ≤ p
  · with_reducible (refine ww_geqT (by omega) ?_; refine ww_joinS ?_; (try dsimp only); refine ww_wantTT ?_; (try dsimp only); refine ww_nil ?_; refine ww_field0 ?_; refine ww_ldH (by assumption) .here (by with_unfolding_all exact rfl) ?_; refine ww_lenH (by assumption) (.there .here) ?_)
    refine ww_lss ?_
    with_reducible (refine ww_pickT ?_)
    refine ww_ret ⟨?_, rfl⟩
    congr 1
    exact decide_eq_decide.2 ⟨fun h2 => ⟨h1, h2⟩, fun h2 => h2.2⟩
  · with_reducible (refine ww_geqF (by omega) ?_; refine ww_joinS ?_; (try dsimp only); refine ww_wantFT ?_; (try dsimp only); refine ww_pickF ?_)
    exact ww_ret ⟨by rw [decide_eq_false (fun h2 => h1 h2.1)], rfl⟩

theorem knowV_ok {M : VM} {p x : Int} (O : OkV M) : OkV (knowV M p x).2 := by
  unfold knowV
  split
  · rename_i hp
    split
    · exact O
    · rename_i hn
      refine ⟨O.lo, O.hi, O.lvs, ?_, ?_, O.fr⟩
      · intro c hc
        rcases List.mem_append.1 hc with hc | hc
        · exact O.ins c hc
        · rw [List.mem_singleton] at hc; subst hc; exact hp
      · have := O.un.put (p := p) (v := x)
        rw [putC_none hn] at this
        exact this
  · exact O

theorem vknow_ok {n : Nat} (hn : 2 ≤ n) {v : Nat} {M : VM} {p x : Int} (H : HS g h (ViewC v M :: R)) (O : OkV M) :
    wp (callT tab rtab n (.fn 54 [] []) [.ptr v 0, .int .i64 p, .int .u64 x] h) fun r h' => r = .int .i64 (knowV M p x).1 ∧ HS g h' (ViewC v (knowV M p x).2 :: R) := by
  (refine ww_fn (g := W54) rfl (by omega) fun k hk => ?_; show wp (S54 (callT tab rtab k) _ _ _ _) _; unfold S54; try simp only [Int.ofNat_eq_natCast])
  refine ww_call (vis_ok (by omega) H) ?_
  rintro _ _ ⟨rfl, rfl⟩
  have hO := O.hi
  unfold knowV
  by_cases hp : 1 ≤ p ∧ p < M.sz
  · rw [if_pos hp]
    rw [decide_eq_true hp]
    obtain ⟨i, rfl⟩ : ∃ i : Nat, p = (i : Int) := ⟨p.toNat, by omega⟩
    have hi : i < M.sz := by omega
    have hH := H
    obtain ⟨fv, ov, q, e, H⟩ := ViewC.E H
    with_reducible (refine ww_notT ?_; refine ww_condF ?_; refine ww_nil ?_; refine ww_field0 ?_; refine ww_ldH (by assumption) .here (by with_unfolding_all exact rfl) ?_)
    refine ww_idxN (l := encF (factM M.K i)) (H.sl (.there .here)) hi (by omega) (enc_row (enc := encF) (sz := 2) (fun _ => rfl) (factsM_get hi)) ?_
    refine ww_boxA H rfl fun b h3 H3 => ww_stH H3 .here rfl (by show 0 + 2 ≤ 2; omega) rfl fun h4 H4 => ?_
    have H5 : HS g h4 (ObjC b (encF (factM M.K i)) :: ObjC v [fv, ov, .ptr q 0, .int .i64 M.need] :: SliC e 2 M.sz fv ((factsM M.sz M.K).flatMap encF) ::
      SliC 3 1 M.K.length ov (M.K.map fun c => .int .i64 c.1) :: LgC q M.most M.lv :: R) := H4
    unfold encF at H5
    cases hg : getC (i : Int) M.K with
    | some y =>
      rw [show factM M.K i = (y, true) by unfold factM; rw [hg]] at H5
      with_reducible (refine ww_field0 ?_; refine ww_ldH (by assumption) .here (by with_unfolding_all exact rfl) ?_; refine ww_condT ?_; refine ww_field0 ?_; refine ww_ldH (by assumption) .here (by with_unfolding_all exact rfl) ?_)
      have H6 := ViewC.I (H5.drop)
      by_cases hy : y = x
      · with_reducible (refine ww_neqF (by omega) ?_; refine ww_condF ?_)
        refine ww_ret ⟨by dsimp only; rw [if_pos hy]; rfl, H6⟩
      · with_reducible (refine ww_neqT (by omega) ?_; refine ww_condT ?_)
        refine ww_ret ⟨by dsimp only; rw [if_neg hy]; rfl, H6⟩
    | none =>
      rw [show factM M.K i = (0, false) by unfold factM; rw [hg]] at H5
      have hkl := O.klen
      with_reducible (refine ww_field0 ?_; refine ww_ldH (by assumption) .here (by with_unfolding_all exact rfl) ?_; refine ww_condF ?_; refine ww_nil ?_; refine ww_field0 ?_; refine ww_ldH (by assumption) (.there .here) (by with_unfolding_all exact rfl) ?_; refine ww_build (by with_unfolding_all exact rfl) ?_)
      refine ww_slN (l := [.int .u64 x, .bool true]) (H5.drop.sel (P := SliC e 2 M.sz fv ((factsM M.sz M.K).flatMap encF)) (.there .here)) hi rfl rfl fun h6 H6 => ?_
      rw [show lset ((factsM M.sz M.K).flatMap encF) (i * 2) [AV.int .u64 x, AV.bool true] = (factsM M.sz (M.K ++ [((i : Int), x)])).flatMap encF by
        rw [factsM_add hi hg, ← enc_put (enc := encF) (sz := 2) (fun _ => rfl) (by rw [factsM_len]; exact hi)]; rfl] at H6
      with_reducible (refine ww_nil ?_; refine ww_field0 ?_; refine ww_ldH (by assumption) (.there .here) (by with_unfolding_all exact rfl) ?_)
      refine ww_buildSH (n := 1) (l := [.int .i64 (i : Int)]) (sz := 1) H6 rfl rfl rfl rfl fun v7 h7 H7 => ?_
      refine ww_appH (H7.sel (P := SliC 3 1 M.K.length ov (M.K.map fun c => .int .i64 c.1)) (.there (.there (.there .here)))) (H7.sl .here) (by omega) (by omega) rfl fun v8 h8 H8 => ?_
      with_reducible (refine ww_nil ?_; refine ww_field0 ?_)
      refine ww_st1H H8 (.there (.there (.there .here))) (H8.one .here) (by simp) fun h9 H9 => ww_ret ⟨rfl, ViewC.I (M := { M with K := M.K ++ [((i : Int), x)] }) (fv := fv) (ov := v8) (q := q) (e := e) ?_⟩
      rw [List.map_append, List.length_append]
      exact H9.sub (.cons .here (.cons (.there (.there .here)) (.cons .here (.cons (.there .here) (.drop (.refl))))))
  · rw [if_neg hp, decide_eq_false hp]
    with_reducible (refine ww_notF ?_; refine ww_condT ?_)
    exact ww_ret ⟨rfl, H⟩

theorem readV_ok {M : VM} {p : Int} (O : OkV M) : OkV (readV M p).2 := by
  unfold readV
  repeat' split
  all_goals exact ⟨O.lo, O.hi, O.lvs, O.ins, O.un, O.fr⟩
theorem vread_ok {n : Nat} (hn : 9 ≤ n) {v : Nat} {M : VM} {p : Int} (H : HS g h (ViewC v M :: R)) (O : OkV M) :
    wp (callT tab rtab n (.fn 56 [] []) [.ptr v 0, .int .i64 p] h) fun r h' => r = .tup [.int .u64 (readV M p).1.1, .int .i64 (readV M p).1.2] ∧ HS g h' (ViewC v (readV M p).2 :: R) := by
  (refine ww_fn (g := W56) rfl (by omega) fun k hk => ?_; show wp (S56 (callT tab rtab k) _ _ _) _; unfold S56; try simp only [Int.ofNat_eq_natCast])
  refine ww_call (vis_ok (by omega) H) ?_
  rintro _ _ ⟨rfl, rfl⟩
  have hO := O.hi
  unfold readV
  by_cases hp : 1 ≤ p ∧ p < M.sz
  · rw [if_pos hp]
    rw [decide_eq_true hp]
    obtain ⟨i, rfl⟩ : ∃ i : Nat, p = (i : Int) := ⟨p.toNat, by omega⟩
    have hi : i < M.sz := by omega
    obtain ⟨fv, ov, q, e, H⟩ := ViewC.E H
    with_reducible (refine ww_notT ?_; refine ww_condF ?_; refine ww_nil ?_; refine ww_field0 ?_; refine ww_ldH (by assumption) .here (by with_unfolding_all exact rfl) ?_)
    refine ww_call (lget_ok (by omega) (H.sel (P := LgC q M.most M.lv) (.there (.there (.there .here)))) O.lvs) ?_
    rintro _ h2 ⟨rfl, H2⟩
    with_reducible (refine ww_extract (by with_unfolding_all exact rfl) ?_; refine ww_extract (by with_unfolding_all exact rfl) ?_)
    cases hl : getL (i : Int) M.lv with
    | some y =>
      simp only [Option.isSome_some, Option.getD_some]
      with_reducible (refine ww_condT ?_)
      exact ww_ret ⟨rfl, ViewC.I (H2.sub (.cons (.there .here) (.cons (.there .here) (.cons (.there .here) (.refl)))))⟩
    | none =>
      simp only [Option.isSome_none]
      with_reducible (refine ww_condF ?_; refine ww_nil ?_; refine ww_field0 ?_; refine ww_ldH (by assumption) (.there .here) (by with_unfolding_all exact rfl) ?_)
      refine ww_idxN (l := encF (factM M.K i)) (H2.sl (.there (.there .here))) hi (by omega) (enc_row (enc := encF) (sz := 2) (fun _ => rfl) (factsM_get hi)) ?_
      refine ww_boxA H2 rfl fun b h3 H3 => ww_stH H3 .here rfl (by show 0 + 2 ≤ 2; omega) rfl fun h4 H4 => ?_
      have H5 : HS g h4 (ObjC b (encF (factM M.K i)) :: LgC q M.most M.lv :: ObjC v [fv, ov, .ptr q 0, .int .i64 M.need] :: SliC e 2 M.sz fv ((factsM M.sz M.K).flatMap encF) ::
        SliC 3 1 M.K.length ov (M.K.map fun c => .int .i64 c.1) :: R) := H4
      unfold encF at H5
      cases hg : getC (i : Int) M.K with
      | some y =>
        rw [show factM M.K i = (y, true) by unfold factM; rw [hg]] at H5
        with_reducible (refine ww_field0 ?_; refine ww_ldH (by assumption) .here (by with_unfolding_all exact rfl) ?_; refine ww_condT ?_; refine ww_field0 ?_; refine ww_ldH (by assumption) .here (by with_unfolding_all exact rfl) ?_)
        exact ww_ret ⟨rfl, ViewC.I (H5.drop.sub (.cons (.there .here) (.cons (.there .here) (.cons (.there .here) (.refl)))))⟩
      | none =>
        rw [show factM M.K i = (0, false) by unfold factM; rw [hg]] at H5
        with_reducible (refine ww_field0 ?_; refine ww_ldH (by assumption) .here (by with_unfolding_all exact rfl) ?_; refine ww_condF ?_; refine ww_nil ?_; refine ww_field0 ?_)
        refine ww_st1H H5 (b := v) (.there (.there .here)) ⟨rfl, rfl⟩ (by simp) fun h9 H9 => ww_ret ⟨rfl, ViewC.I (M := { M with need := (i : Int) }) (fv := fv) (ov := ov) (q := q) (e := e) (H9.sub (.cons .here (.cons (.there (.there .here)) (.cons (.there (.there .here)) (.cons (.there .here) (.drop (.refl)))))))⟩
  · rw [if_neg hp, decide_eq_false hp]
    with_reducible (refine ww_notF ?_; refine ww_condT ?_)
    exact ww_ret ⟨rfl, H⟩

theorem putL_fr {most : Nat} {lv : List LvM} {p v : Int} {n : Nat} (h : ∀ x ∈ lv, x.2.length < n) : ∀ x ∈ (putL most lv p v).2, x.2.length < n := by
  cases lv with
  | nil => exact h
  | cons y r =>
    obtain ⟨c, hc⟩ := putL_tail (most := most) (x := y) (r := r) (p := p) (v := v)
    rw [hc]
    intro x hx
    rcases List.mem_cons.1 hx with rfl | hx
    · exact h y (List.mem_cons_self ..)
    · exact h x (List.mem_cons_of_mem _ hx)
theorem takeL_fr {most : Nat} {was : List LvM} {n : Nat} (hw : ∀ x ∈ was, x.2.length < n) : ∀ {cs : List Cl} {lv : List LvM}, (∀ x ∈ lv, x.2.length < n) → ∀ x ∈ (takeL most was lv cs).2, x.2.length < n := by
  intro cs
  induction cs with
  | nil => intro lv h; exact h
  | cons c cs ih =>
    intro lv h
    rw [takeL_cons]
    split
    · exact ih (putL_fr h)
    · exact hw
theorem takeV_ok {M : VM} {cs : List Cl} (O : OkV M) : OkV (takeV M cs).2 := by
  unfold takeV
  split
  · exact ⟨O.lo, O.hi, (takeL_ok O.lvs O.lvs rfl).1, O.ins, O.un, takeL_fr O.fr O.fr⟩
  · exact O
theorem vtake_ok {n : Nat} (hn : 8 ≤ n) {v : Nat} {M : VM} {cs : List Cl} {c : AV} (H : HS g h (ViewC v M :: R)) (O : OkV M) (S : Rd g R 2 cs.length c (cs.flatMap encC)) (hc : cs.length < 100000) :
    wp (callT tab rtab n (.fn 57 [] []) [.ptr v 0, c] h) fun r h' => r = .int .i64 (takeV M cs).1 ∧ HS g h' (ViewC v (takeV M cs).2 :: R) := by
  (refine ww_fn (g := W57) rfl (by omega) fun k hk => ?_; show wp (S57 (callT tab rtab k) _ _ _) _; unfold S57; try simp only [Int.ofNat_eq_natCast])
  refine ww_len (S.sl H.drop) ?_
  refine ww_iter (fun k s h' => ∃ i : Nat, s = (.int .i64 (i : Int), .int .i64 (cs.length : Int), c, c, .ptr v 0, ()) ∧ i ≤ cs.length ∧ k = cs.length - i ∧ HS g h' (ViewC v M :: R) ∧ ∀ j, j < i → ∀ d, cs[j]? = some d → 1 ≤ d.1 ∧ d.1 < M.sz)
    ?_ (m := cs.length) (by show _ < 1000000000; omega) ⟨0, rfl, by omega, by omega, H, fun j hj => by omega⟩
  rintro k2 ih s h2 hih ⟨i, rfl, h1, rfl, H, hno⟩
  dsimp only
  refine ww_lssC (fun hlt => ww_condT ?_) fun hge => ww_condF ?_
  · have hi : i < cs.length := by omega
    have hci : cs[i]? = some cs[i] := List.getElem?_eq_getElem hi
    refine ww_idxN (l := encC cs[i]) (S.sl H.drop) hi (by omega) (encC_row hci) ?_
    refine ww_boxA H rfl fun b h3 H3 => ww_stH H3 .here rfl (by show 0 + 2 ≤ 2; omega) rfl fun h4 H4 => ?_
    have H5 : HS g h4 (ObjC b (encC cs[i]) :: ViewC v M :: R) := H4
    unfold encC at H5
    with_reducible (refine ww_field0 ?_; refine ww_ldH (by assumption) .here (by with_unfolding_all exact rfl) ?_)
    refine ww_call (vis_ok (by omega) H5.drop) ?_
    rintro _ _ ⟨rfl, rfl⟩
    by_cases hin : 1 ≤ cs[i].1 ∧ cs[i].1 < M.sz
    · rw [decide_eq_true hin]
      with_reducible (refine ww_notT ?_; refine ww_condF ?_; refine ww_addI (by omega) ?_)
      refine hih (cs.length - (i + 1)) _ _ (by omega) ⟨i + 1, rfl, by omega, rfl, H5.drop, fun j hj d hd => ?_⟩
      by_cases hj' : j < i
      · exact hno j hj' d hd
      · obtain rfl : j = i := by omega
        rw [hci] at hd; cases hd; exact hin
    · rw [decide_eq_false hin]
      with_reducible (refine ww_notF ?_; refine ww_condT ?_; refine ww_leave ?_)
      unfold takeV
      rw [if_neg (fun h => hin (h _ (List.getElem_mem hi)))]
      exact ww_ret ⟨rfl, H5.drop⟩
  · have hall : ∀ d ∈ cs, 1 ≤ d.1 ∧ d.1 < M.sz := by
      intro d hd
      obtain ⟨j, hj⟩ := List.getElem?_of_mem hd
      exact hno j (by have := (List.getElem?_eq_some_iff.1 hj).1; omega) d hj
    obtain ⟨fv, ov, q, e, H⟩ := ViewC.E H
    with_reducible (refine ww_nil ?_; refine ww_field0 ?_; refine ww_ldH (by assumption) .here (by with_unfolding_all exact rfl) ?_)
    refine ww_call (ltake_ok (by omega) (H.sel (P := LgC q M.most M.lv) (.there (.there (.there .here)))) O.lvs (S.more.more.more) hc) ?_
    rintro _ h4 ⟨rfl, H4⟩
    unfold takeV
    rw [if_pos hall]
    exact ww_leave (ww_ret ⟨rfl, ViewC.I (M := { M with lv := (takeL M.most M.lv M.lv cs).2 }) (fv := fv) (ov := ov) (q := q) (e := e) (H4.sub (.cons (.there .here) (.cons (.there .here) (.cons (.there .here) (.refl)))))⟩)

theorem vopen_ok {n : Nat} (hn : 4 ≤ n) {v : Nat} {M : VM} (H : HS g h (ViewC v M :: R)) (O : OkV M) :
    wp (callT tab rtab n (.fn 177 [] []) [.ptr v 0] h) fun r h' => r = .int .i64 (openV M).1 ∧ HS g h' (ViewC v (openV M).2 :: R) := by
  (refine ww_fn (g := W177) rfl (by omega) fun k hk => ?_; show wp (S177 (callT tab rtab k) _ _) _; unfold S177; try simp only [Int.ofNat_eq_natCast])
  obtain ⟨fv, ov, q, e, H⟩ := ViewC.E H
  with_reducible (refine ww_nil ?_; refine ww_field0 ?_; refine ww_ldH (by assumption) .here (by with_unfolding_all exact rfl) ?_)
  refine ww_call (lopen_ok (by omega) (H.sel (P := LgC q M.most M.lv) (.there (.there (.there .here)))) O.lvs) ?_
  rintro _ h2 ⟨rfl, H2⟩
  exact ww_ret ⟨rfl, ViewC.I (M := (openV M).2) (fv := fv) (ov := ov) (q := q) (e := e) (H2.sub (.cons (.there .here) (.cons (.there .here) (.cons (.there .here) (.cons .here (.refl))))))⟩
theorem vdrop_ok {n : Nat} (hn : 2 ≤ n) {v : Nat} {M : VM} (H : HS g h (ViewC v M :: R)) (O : OkV M) :
    wp (callT tab rtab n (.fn 128 [] []) [.ptr v 0] h) fun r h' => r = .int .i64 (dropV M).1 ∧ HS g h' (ViewC v (dropV M).2 :: R) := by
  (refine ww_fn (g := W128) rfl (by omega) fun k hk => ?_; show wp (S128 (callT tab rtab k) _ _) _; unfold S128; try simp only [Int.ofNat_eq_natCast])
  obtain ⟨fv, ov, q, e, H⟩ := ViewC.E H
  with_reducible (refine ww_nil ?_; refine ww_field0 ?_; refine ww_ldH (by assumption) .here (by with_unfolding_all exact rfl) ?_)
  refine ww_call (ldrop_ok (by omega) (H.sel (P := LgC q M.most M.lv) (.there (.there (.there .here)))) O.lvs) ?_
  rintro _ h2 ⟨rfl, H2⟩
  exact ww_ret ⟨rfl, ViewC.I (M := (dropV M).2) (fv := fv) (ov := ov) (q := q) (e := e) (H2.sub (.cons (.there .here) (.cons (.there .here) (.cons (.there .here) (.cons .here (.refl))))))⟩
theorem vkeep_ok {n : Nat} (hn : 7 ≤ n) {v : Nat} {M : VM} (H : HS g h (ViewC v M :: R)) (O : OkV M) :
    wp (callT tab rtab n (.fn 126 [] []) [.ptr v 0] h) fun r h' => r = .int .i64 (keepV M).1 ∧ HS g h' (ViewC v (keepV M).2 :: R) := by
  (refine ww_fn (g := W126) rfl (by omega) fun k hk => ?_; show wp (S126 (callT tab rtab k) _ _) _; unfold S126; try simp only [Int.ofNat_eq_natCast])
  obtain ⟨fv, ov, q, e, H⟩ := ViewC.E H
  with_reducible (refine ww_nil ?_; refine ww_field0 ?_; refine ww_ldH (by assumption) .here (by with_unfolding_all exact rfl) ?_)
  refine ww_call (lkeep_ok (by omega) (H.sel (P := LgC q M.most M.lv) (.there (.there (.there .here)))) O.lvs fun x hx => Nat.lt_trans (O.fr x hx) (by omega)) ?_
  rintro _ h2 ⟨rfl, H2⟩
  exact ww_ret ⟨rfl, ViewC.I (M := (keepV M).2) (fv := fv) (ov := ov) (q := q) (e := e) (H2.sub (.cons (.there .here) (.cons (.there .here) (.cons (.there .here) (.cons .here (.refl))))))⟩
theorem vfree_ok {n : Nat} (hn : 3 ≤ n) {v : Nat} {M : VM} {b : Int} (H : HS g h (ViewC v M :: R)) (O : OkV M) :
    wp (callT tab rtab n (.fn 176 [] []) [.ptr v 0, .int .i64 b] h) fun _ h' => HS g h' (ViewC v (freeV M b) :: R) := by
  (refine ww_fn (g := W176) rfl (by omega) fun k hk => ?_; show wp (S176 (callT tab rtab k) _ _ _) _; unfold S176; try simp only [Int.ofNat_eq_natCast])
  obtain ⟨fv, ov, q, e, H⟩ := ViewC.E H
  with_reducible (refine ww_nil ?_; refine ww_field0 ?_; refine ww_ldH (by assumption) .here (by with_unfolding_all exact rfl) ?_)
  refine ww_call (lfree_ok (by omega) (H.sel (P := LgC q M.most M.lv) (.there (.there (.there .here)))) O.lvs fun x hx => Nat.lt_trans (O.fr x hx) (by omega)) ?_
  intro _ h2 H2
  exact ww_ret (ViewC.I (M := freeV M b) (fv := fv) (ov := ov) (q := q) (e := e) (H2.sub (.cons (.there .here) (.cons (.there .here) (.cons (.there .here) (.cons .here (.refl)))))))
theorem vneed_ok {n : Nat} (hn : 1 ≤ n) {v : Nat} {M : VM} (H : HS g h (ViewC v M :: R)) :
    wp (callT tab rtab n (.fn 194 [] []) [.ptr v 0] h) fun r h' => r = .int .i64 M.need ∧ h' = h := by
  (refine ww_fn (g := W194) rfl (by omega) fun k hk => ?_; show wp (S194 (callT tab rtab k) _ _) _; unfold S194; try simp only [Int.ofNat_eq_natCast])
  obtain ⟨fv, ov, q, e, H⟩ := ViewC.E H
  with_reducible (refine ww_nil ?_; refine ww_field0 ?_; refine ww_ldH (by assumption) .here (by with_unfolding_all exact rfl) ?_)
  exact ww_ret ⟨rfl, rfl⟩
theorem vcells_ok {n : Nat} (hn : 10 ≤ n) {v : Nat} {M : VM} (H : HS g h (ViewC v M :: R)) (O : OkV M) :
    wp (callT tab rtab n (.fn 42 [] []) [.ptr v 0] h) fun r h' => HS g h' (SliC 35 2 (mergeL M.lv).length r ((mergeL M.lv).flatMap encC) :: ViewC v M :: R) := by
  (refine ww_fn (g := W42) rfl (by omega) fun k hk => ?_; show wp (S42 (callT tab rtab k) _ _) _; unfold S42; try simp only [Int.ofNat_eq_natCast])
  obtain ⟨fv, ov, q, e, H⟩ := ViewC.E H
  with_reducible (refine ww_nil ?_; refine ww_field0 ?_; refine ww_ldH (by assumption) .here (by with_unfolding_all exact rfl) ?_)
  refine ww_call (lcells_ok (by omega) (H.sel (P := LgC q M.most M.lv) (.there (.there (.there .here)))) O.lvs) ?_
  intro r h2 H2
  refine ww_ret ?_
  have H3 := ViewC.I (v := v) (M := M) (fv := fv) (ov := ov) (q := q) (e := e) (R := SliC 35 2 (mergeL M.lv).length r ((mergeL M.lv).flatMap encC) :: R) (H2.sub (.cons (.there (.there .here)) (.cons (.there (.there .here)) (.cons (.there (.there .here)) (.cons (.there .here) (.refl))))))
  exact H3.sub (.cons (.there .here) (.refl))
theorem flat2_len {n : Nat} : ∀ {l : List LvM}, (∀ x ∈ l, x.2.length < n) → (l.flatMap (·.2)).length ≤ l.length * n := by
  intro l h
  induction l with
  | nil => simp
  | cons x r ih =>
    have h1 := h x (List.mem_cons_self ..)
    have h2 := ih fun y hy => h y (List.mem_cons_of_mem _ hy)
    rw [List.flatMap_cons, List.length_append, List.length_cons, Nat.add_mul, Nat.one_mul]
    omega
theorem freesL_len {n : Nat} {lv : List LvM} (h : ∀ x ∈ lv, x.2.length < n) : (freesL lv).length ≤ lv.length * n := by
  have := flat2_len (l := lv.reverse) (n := n) fun x hx => h x (List.mem_reverse.1 hx)
  rw [List.length_reverse] at this
  exact this
theorem vfrees_ok {n : Nat} (hn : 2 ≤ n) {v : Nat} {M : VM} (H : HS g h (ViewC v M :: R)) (O : OkV M) :
    wp (callT tab rtab n (.fn 48 [] []) [.ptr v 0] h) fun r h' => HS g h' (SliC 3 1 (freesL M.lv).length r ((freesL M.lv).map (.int .i64)) :: ViewC v M :: R) := by
  (refine ww_fn (g := W48) rfl (by omega) fun k hk => ?_; show wp (S48 (callT tab rtab k) _ _) _; unfold S48; try simp only [Int.ofNat_eq_natCast])
  obtain ⟨fv, ov, q, e, H⟩ := ViewC.E H
  with_reducible (refine ww_nil ?_; refine ww_field0 ?_; refine ww_ldH (by assumption) .here (by with_unfolding_all exact rfl) ?_)
  have hfl := freesL_len O.fr
  have hd := O.lvs.deep
  refine ww_call (lfrees_ok (by omega) (H.sel (P := LgC q M.most M.lv) (.there (.there (.there .here)))) O.lvs (by omega)) ?_
  intro r h2 H2
  refine ww_ret ?_
  have H3 := ViewC.I (v := v) (M := M) (fv := fv) (ov := ov) (q := q) (e := e) (R := SliC 3 1 (freesL M.lv).length r ((freesL M.lv).map (.int .i64)) :: R) (H2.sub (.cons (.there (.there .here)) (.cons (.there (.there .here)) (.cons (.there (.there .here)) (.cons (.there .here) (.refl))))))
  exact H3.sub (.cons (.there .here) (.refl))

/-- all words are known -/
def wordAt (zs : List Int) (i : Nat) : Int := zs[i]?.getD 0
def kW (zs : List Int) : List Cl := (List.range (szZ zs.length - 1)).map fun i => (((i + 1 : Nat) : Int), wordAt zs (i + 1))
def wholeV (zs : List Int) (most : Int) : VM := ⟨szZ zs.length, kW zs, (max 0 (min most 96)).toNat, [([], [])], 0⟩
theorem kW_len (zs : List Int) : (kW zs).length = szZ zs.length - 1 := by simp [kW]
theorem kW_get (zs : List Int) {i : Nat} (hi : i + 1 < szZ zs.length) : (kW zs)[i]? = some (((i + 1 : Nat) : Int), wordAt zs (i + 1)) := by
  unfold kW
  rw [List.getElem?_map, List.getElem?_range (by omega)]; rfl
theorem kW_take (zs : List Int) {i : Nat} {p : Int} (hp : (i : Int) < p) : getC p ((kW zs).take i) = none := by
  rw [getC_mem]
  intro hm
  obtain ⟨c, hc, he⟩ := List.mem_map.1 hm
  obtain ⟨j, hj⟩ := List.getElem?_of_mem hc
  have hjl := (List.getElem?_eq_some_iff.1 hj).1
  simp [kW_len] at hjl
  rw [List.getElem?_take_of_lt (by omega), kW_get zs (by omega)] at hj
  cases hj
  dsimp only at he
  omega
def preV (zs : List Int) (most : Int) (i : Nat) : VM := { wholeV zs most with K := (kW zs).take i }
theorem preV_ok (zs : List Int) (most : Int) (i : Nat) : OkV (preV zs most i) := by
  have hb := szZ_b (zs.length : Int)
  refine ⟨hb.1, hb.2, newL_ok (by show (max 0 (min most 96)).toNat ≤ 96; omega), ?_, ?_, by intro x hx; simp [preV, wholeV] at hx; subst hx; simp⟩
  · intro c hc
    obtain ⟨j, hj⟩ := List.getElem?_of_mem (List.mem_of_mem_take hc)
    have hjl := (List.getElem?_eq_some_iff.1 hj).1
    rw [kW_len] at hjl
    rw [kW_get zs (by omega)] at hj
    cases hj
    show 1 ≤ ((j + 1 : Nat) : Int) ∧ ((j + 1 : Nat) : Int) < ((szZ zs.length : Nat) : Int)
    omega
  · show ((((kW zs).take i).map (·.1))).Nodup
    refine List.Nodup.sublist ((List.take_sublist i _).map _) ?_
    unfold kW
    rw [List.map_map]
    refine List.Pairwise.map _ ?_ (List.nodup_range (n := szZ zs.length - 1))
    intro a b hab
    simp
    omega
theorem wholeV_ok (zs : List Int) (most : Int) : OkV (wholeV zs most) := by
  have := preV_ok zs most (kW zs).length
  unfold preV at this
  rw [List.take_length] at this
  exact this

theorem vwhole_ok {n : Nat} (hn : 5 ≤ n) {zs : List Int} {a0 : AV} {m : Int} (H : HS g h R) (S : Rd g R 1 zs.length a0 (zs.map (.int .u64))) :
    wp (callT tab rtab n (.fn 40 [] []) [a0, .int .i64 m] h) fun r h' => ∃ v, r = .ptr v 0 ∧ HS g h' (ViewC v (wholeV zs m) :: R) := by
  (refine ww_fn (g := W40) rfl (by omega) fun k hk => ?_; show wp (S40 (callT tab rtab k) _ _ _) _; unfold S40; try simp only [Int.ofNat_eq_natCast])
  have hb := szZ_b (zs.length : Int)
  refine ww_len (S.sl H) ?_
  refine ww_call (vnew_ok (by omega) H) ?_
  rintro _ h1 ⟨v, rfl, H1⟩
  refine ww_iter (fun k s h' => ∃ i : Nat, s = (.int .i64 ((i + 1 : Nat) : Int), .ptr v 0, a0, ()) ∧ i + 1 ≤ szZ zs.length ∧ k = szZ zs.length - (i + 1) ∧ HS g h' (ViewC v (preV zs m i) :: R)) ?_ (m := szZ zs.length - 1) (by show _ < 1000000000; omega) ⟨0, rfl, by omega, by omega, H1⟩
  rintro k2 ih s h' hih ⟨i, rfl, h1, rfl, H⟩
  dsimp only
  refine ww_call (vsize_ok (by omega) H) ?_
  rintro _ _ ⟨rfl, rfl⟩
  show wp (pInt .lss _ (.int .i64 ((szZ zs.length : Nat) : Int)) _) _
  refine ww_lssC (fun hlt => ww_condT ?_) fun hge => ww_condF (ww_leave (ww_ret ⟨v, rfl, ?_⟩))
  · have hi : i + 1 < szZ zs.length := by omega
    refine ww_joinD [] (fun s g' => s = (.int .u64 (wordAt zs (i + 1)), .int .i64 ((i + 1 : Nat) : Int), .ptr v 0, a0, ()) ∧ HS g g' (ViewC v (preV zs m i) :: R)) ?_ ?_
    · intro j hj
      refine ww_len (S.sl H.drop) ?_
      refine ww_lssC (fun hl => ww_condT ?_) fun hl => ww_condF ?_
      · refine ww_idx1 (S.sl H.drop) (x := .int .u64 (wordAt zs (i + 1))) ?_ (hj _ _ ⟨rfl, H⟩)
        unfold wordAt
        rw [List.getElem?_map, List.getElem?_eq_getElem (by omega)]; rfl
      · refine hj _ _ ⟨?_, H⟩
        unfold wordAt
        rw [List.getElem?_eq_none (by omega)]; rfl
    · rintro s g' ⟨rfl, H2⟩
      dsimp only
      refine ww_call (vknow_ok (by omega) H2 (preV_ok zs m i)) ?_
      rintro _ h4 ⟨_, H4⟩
      have hk : (knowV (preV zs m i) ((i + 1 : Nat) : Int) (wordAt zs (i + 1))).2 = preV zs m (i + 1) := by
        unfold knowV
        rw [if_pos (show 1 ≤ ((i + 1 : Nat) : Int) ∧ ((i + 1 : Nat) : Int) < ((preV zs m i).sz : Int) from ⟨by omega, show ((i + 1 : Nat) : Int) < ((szZ zs.length : Nat) : Int) by omega⟩)]
        show (match getC ((i + 1 : Nat) : Int) ((kW zs).take i) with
          | some y => (if y = wordAt zs (i + 1) then (0 : Int) else 14, preV zs m i)
          | none => (0, { preV zs m i with K := (kW zs).take i ++ [(((i + 1 : Nat) : Int), wordAt zs (i + 1))] })).2 = _
        rw [kW_take zs (by omega)]
        dsimp only
        unfold preV
        rw [List.take_add_one, kW_get zs hi]; rfl
      rw [hk] at H4
      refine ww_addI (by omega) (hih (szZ zs.length - (i + 1 + 1)) _ _ (by omega) ⟨i + 1, rfl, by omega, rfl, H4⟩)
  · have hi : i = (kW zs).length := by rw [kW_len]; omega
    subst hi
    unfold preV at H
    rw [List.take_length] at H
    exact H
end Go.Proofs.YtkfpddegilellaaGreatDoor
