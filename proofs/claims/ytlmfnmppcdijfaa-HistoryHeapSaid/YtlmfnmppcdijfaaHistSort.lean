/- The library's stable sort on short lists of numbers: by insertion. -/
import Derived.Test.YtlmfnmppcdijfaaAe7
import Derived.Test.YtlmfnmppcdijfaaT
import Derived.KernelRfl
namespace Go.Proofs.Ytlmfnmppcdijfaa
open Go Go.Ae
set_option maxRecDepth 100000

abbrev I64 (i : Nat) : AV := .int .i64 (i : Int)
theorem ww_once {σ : Type} {f : (σ → AH → List Nat → R) → σ → AH → List Nat → R} {d : List Nat} {s : σ} {g : AH} {Q : AV → AH → Prop} {N : Nat} (hN : 0 < N) (w : ∀ ih, wp (f ih s g d) Q) : wp (loopC N f s g d) Q := by
  obtain ⟨k, rfl⟩ : ∃ k, N = k + 1 := ⟨N - 1, by omega⟩
  exact w (loopC k f)
/-- what a comparison does: it tells which is less, and turns nothing that was there -/
structure Cmps (vf : AV) (b m0 N : Nat) (lt : Nat → Nat → Prop) (Ok : AH → Prop) : Prop where
  run : ∀ m, m0 ≤ m → ∀ g, Ok g → ∀ i j, i < N → j < N → wp (callT tab rtab m vf [I64 i, I64 j] g) fun v g' => (∃ z : Int, v = .int .i64 z ∧ (z < 0 ↔ lt i j)) ∧ Old g.nx g g'
  fr : ∀ g g', Ok g → Fr (fun y => y = b ∨ g.nx ≤ y) g g' → Ok g'
  asym : ∀ i j, lt i j → ¬ lt j i
  ntrans : ∀ i j k, j < N → ¬ lt j i → ¬ lt k j → ¬ lt k i

/-- put into what is sorted: behind all that it is not less than -/
noncomputable def insM (lt : Nat → Nat → Prop) (c : Nat) (P : List Nat) : List Nat :=
  open Classical in (P.reverse.dropWhile fun y => decide (lt c y)).reverse ++ c :: (P.reverse.takeWhile fun y => decide (lt c y)).reverse
noncomputable def isM (lt : Nat → Nat → Prop) (xs : List Nat) : List Nat := xs.foldl (fun P c => insM lt c P) []
theorem insM_eq {lt : Nat → Nat → Prop} {c : Nat} {L B : List Nat} (hB : ∀ y ∈ B, lt c y) (hL : ∀ x ∈ L, ¬ lt c x) : insM lt c (L ++ B) = L ++ c :: B := by
  classical
  have h1 : ∀ y ∈ B.reverse, decide (lt c y) = true := fun y hy => decide_eq_true (hB y (List.mem_reverse.1 hy))
  have h2 : (L.reverse.dropWhile fun y => decide (lt c y)) = L.reverse ∧ (L.reverse.takeWhile fun y => decide (lt c y)) = [] := by
    cases hr : L.reverse with
    | nil => exact ⟨rfl, rfl⟩
    | cons x r =>
      have : ¬ lt c x := hL x (List.mem_reverse.1 (by rw [hr]; simp))
      constructor
      · rw [List.dropWhile_cons, if_neg (by simp [this])]
      · rw [List.takeWhile_cons, if_neg (by simp [this])]
  unfold insM
  rw [List.reverse_append]
  have e1 : ((B.reverse ++ L.reverse).dropWhile fun y => decide (lt c y)) = L.reverse := by
    rw [List.dropWhile_append_of_pos h1]; exact h2.1
  have e2 : ((B.reverse ++ L.reverse).takeWhile fun y => decide (lt c y)) = B.reverse := by
    rw [List.takeWhile_append_of_pos h1]
    exact (congrArg (B.reverse ++ ·) h2.2).trans (List.append_nil _)
  rw [e1, e2, List.reverse_reverse, List.reverse_reverse]

theorem row_get {g : AH} {b : Nat} {e : TypeId} {xs : List Nat} {N i : Nat} (A : Row g b (xs.map I64) e false) (hl : xs.length = N) (hi : i < N) : Sl (fun _ => True) g 1 N (.slice b 0 N N false) (xs.map I64) ∧ (xs.map I64)[i]? = some (I64 (xs[i]'(by omega))) :=
  ⟨Sl.of_row0 A trivial (by simp [hl]), by rw [List.getElem?_map, List.getElem?_eq_getElem (by omega)]; rfl⟩

theorem insert_triv {n : Nat} (hn : 1 ≤ n) {a b : Nat} {d vf : AV} {h : AH} (hab : b ≤ a + 1) (ha : a < 1000000) : wp (callT tab rtab n (.fn 20 [] []) [d, I64 a, I64 b, vf] h) fun v h' => h' = h := by
  refine ww_fn (g := W20) rfl (by omega) fun k hk => ?_
  show wp (S20 (callT tab rtab k) _ _ _ _ _) _
  unfold S20
  try simp only [Int.ofNat_eq_natCast]
  refine ww_addI (by omega) ?_
  refine ww_iter (fun m s g => s = (.int .i64 ((a : Int) + ((1 : Nat) : Int)), vf, I64 b, I64 a, d, ()) ∧ g = h) ?_ (m := 0) (by decide) ⟨rfl, rfl⟩
  rintro m ih s g _ ⟨rfl, rfl⟩
  dsimp only
  refine ww_lssC (fun hc => by omega) fun hc => ww_condF (ww_leave (ww_ret rfl))

theorem insert_ok {n m0 N b : Nat} {e : TypeId} {vf : AV} {lt : Nat → Nat → Prop} {Ok : AH → Prop} (Cm : Cmps vf b m0 N lt Ok) (hn : m0 + 1 ≤ n) {xs : List Nat} {h : AH} (hx : xs.length = N) (hr : ∀ x ∈ xs, x < N) (hN : N ≤ 20) (hN0 : 0 < N)
    (A : Row h b (xs.map I64) e false) (hok : Ok h) :
    wp (callT tab rtab n (.fn 20 [] []) [.slice b 0 N N false, I64 0, I64 N, vf] h) fun v h' =>
      ∃ ys : List Nat, ys = isM lt xs ∧ ys.Perm xs ∧ ys.Pairwise (fun x y => ¬ lt y x) ∧ Row h' b (ys.map I64) e false ∧ Fr (fun y => y = b ∨ h.nx ≤ y) h h' ∧ Ok h' := by
  have hb := A.lt
  refine ww_fn (g := W20) rfl (by omega) fun k hk => ?_
  show wp (S20 (callT tab rtab k) _ _ _ _ _) _
  unfold S20
  try simp only [Int.ofNat_eq_natCast]
  refine ww_addI (by omega) ?_
  refine ww_iter (fun m s g => ∃ (i : Nat) (P C : List Nat), s = (I64 i, vf, I64 N, I64 0, .slice b 0 N N false, ()) ∧ 1 ≤ i ∧ i ≤ N ∧ m = N - i ∧ P.length = i ∧ P = isM lt (xs.take i) ∧ C = xs.drop i ∧ (P ++ C).Perm xs ∧ P.Pairwise (fun x y => ¬ lt y x) ∧ Row g b ((P ++ C).map I64) e false ∧ Fr (fun y => y = b ∨ h.nx ≤ y) h g ∧ Ok g) ?_ (m := N - 1) (by show N - 1 < 1000000000; omega) ?_
  rotate_left
  · obtain ⟨x, r, rfl⟩ : ∃ x r, xs = x :: r := by cases xs with | nil => simp at hx; omega | cons x r => exact ⟨x, r, rfl⟩
    exact ⟨1, [x], r, rfl, by omega, by omega, rfl, rfl, by simp [isM, insM], by simp, List.Perm.refl _, List.pairwise_singleton _ _, A, Fr.refl _ _, hok⟩
  rintro m ih s g hih ⟨i, P, C, rfl, h1, h2, rfl, h3, hP, hC, h4, h5, A1, F1, O1⟩
  dsimp only
  have hpl : P.length + C.length = N := by have := h4.length_eq; simp at this; omega
  refine ww_lssC (fun hc => ww_condT ?_) fun hc => ww_condF (ww_leave (ww_ret ?_))
  · obtain ⟨c, C', rfl⟩ : ∃ c C', C = c :: C' := by cases C with | nil => simp at hpl; omega | cons c C' => exact ⟨c, C', rfl⟩
    -- the one that is put in walks down
    refine ww_iter (fun m s g' => ∃ (L B : List Nat), s = (I64 L.length, I64 i, vf, I64 N, I64 0, .slice b 0 N N false, ()) ∧ m = L.length ∧ L ++ B = P ∧ (∀ y ∈ B, lt c y) ∧ Row g' b ((L ++ c :: B ++ C').map I64) e false ∧ Fr (fun y => y = b ∨ h.nx ≤ y) h g' ∧ Ok g') ?_ (m := P.length) (by show P.length < 1000000000; omega)
      ⟨P, [], by rw [h3], rfl, by simp, fun y hy => (by cases hy), by simpa using A1, F1, O1⟩
    rintro m2 ih2 s g' hih2 ⟨L, B, rfl, rfl, hLB, hB, A2, F2, O2⟩
    dsimp only
    have hlen : (L ++ c :: B ++ C').length = N := by have : L.length + B.length = P.length := by rw [← hLB]; simp
                                                     simp at hpl ⊢; omega
    have hmem : ∀ x ∈ L ++ c :: B ++ C', x < N := by
      intro x hx
      refine hr x (h4.mem_iff.1 ?_)
      rw [← hLB]
      simp only [List.mem_append, List.mem_cons] at hx ⊢
      rcases hx with (hx | hx | hx) | hx <;> simp [hx]
    have hbg : b < g'.nx := A2.lt
    -- where it stays
    have stay : ∀ g3, Row g3 b ((L ++ c :: B ++ C').map I64) e false → Fr (fun y => y = b ∨ h.nx ≤ y) h g3 → Ok g3 → (∀ x ∈ L, ¬ lt c x) → wp (ih (.int .i64 ((i : Int) + ((1 : Nat) : Int)), vf, I64 N, I64 0, .slice b 0 N N false, ()) g3 []) fun v h' =>
        ∃ ys : List Nat, ys = isM lt xs ∧ ys.Perm xs ∧ ys.Pairwise (fun x y => ¬ lt y x) ∧ Row h' b (ys.map I64) e false ∧ Fr (fun y => y = b ∨ h.nx ≤ y) h h' ∧ Ok h' := by
      intro g3 A3 F3 O3 hL
      refine hih (N - (i + 1)) _ _ (by omega) ⟨i + 1, L ++ c :: B, C', rfl, by omega, by omega, rfl, ?_, ?_, ?_, ?_, ?_, A3, F3, O3⟩
      · have : L.length + B.length = P.length := by rw [← hLB]; simp
        simp; omega
      · have hc : xs[i]? = some c := by
          have := congrArg (·[0]?) hC
          simpa using this.symm
        obtain ⟨hil, hce⟩ := List.getElem?_eq_some_iff.1 hc
        rw [List.take_succ_eq_append_getElem hil]
        unfold isM at hP ⊢
        rw [List.foldl_append, ← hP, hce, ← hLB]
        exact (insM_eq hB hL).symm
      · have := congrArg List.tail hC
        simpa using this
      · refine List.Perm.trans ?_ h4
        rw [← hLB]
        simp only [List.append_assoc, List.cons_append]
        exact List.Perm.append_left L (List.perm_middle.symm)
      · rw [← hLB, List.pairwise_append] at h5
        obtain ⟨p1, p2, p3⟩ := h5
        rw [List.pairwise_append]
        refine ⟨p1, List.pairwise_cons.2 ⟨fun y hy => Cm.asym _ _ (hB y hy), p2⟩, ?_⟩
        intro x hx y hy
        rcases List.mem_cons.1 hy with rfl | hy
        · exact hL x hx
        · exact p3 x hx y hy
    refine ww_gtrC (fun hc1 => ?_) fun hc1 => ?_
    · obtain ⟨L', y, rfl⟩ : ∃ L' y, L = L' ++ [y] := ⟨L.dropLast, L.getLast (by intro h; subst h; simp at hc1), (List.dropLast_concat_getLast _).symm⟩
      have e1 : ((L' ++ [y]).length : Nat) = L'.length + 1 := by simp
      repeat (first | with_reducible refine ww_condT ?_ | with_reducible refine ww_condF ?_ | (with_reducible refine ww_wantTT ?_; try dsimp only) | (with_reducible refine ww_wantTF ?_; try dsimp only) | (with_reducible refine ww_wantFT ?_; try dsimp only) | (with_reducible refine ww_wantFF ?_; try dsimp only) | (with_reducible refine ww_wantU ?_; try dsimp only) | with_reducible refine ww_pickT ?_ | with_reducible refine ww_pickF ?_ | (with_reducible refine ww_joinS ?_; try dsimp only) | with_reducible refine ww_leave ?_ | with_reducible refine ww_notT ?_ | with_reducible refine ww_notF ?_ | with_reducible refine ww_addI (by omega) ?_ | with_reducible refine ww_subI (by omega) ?_ | with_reducible refine ww_addU (by omega) ?_ | with_reducible refine ww_subU (by omega) ?_ | with_reducible refine ww_min ?_ | with_reducible refine ww_max ?_)
      rw [e1]
      have hll : L'.length + 1 < N := by rw [← hlen]; simp
      obtain ⟨Sg, x1⟩ := row_get (i := L'.length + 1) A2 hlen hll
      obtain ⟨_, x0⟩ := row_get (i := L'.length) A2 hlen (by omega)
      have v1 : (L' ++ [y] ++ c :: B ++ C')[L'.length + 1]'(by rw [hlen]; omega) = c := by simp [List.getElem_append]
      have v0 : (L' ++ [y] ++ c :: B ++ C')[L'.length]'(by rw [hlen]; omega) = y := by simp [List.getElem_append]
      rw [v1] at x1
      rw [v0] at x0
      refine ww_idx1 Sg x1 ?_
      refine ww_subI (by omega) ?_
      rw [show ((L'.length + 1 : Nat) : Int) - ((1 : Nat) : Int) = ((L'.length : Nat) : Int) by omega]
      refine ww_idx1 Sg x0 ?_
      refine ww_call (Cm.run _ (by omega) g' O2 c y (hmem c (by simp)) (hmem y (by simp))) ?_
      rintro v g3 ⟨⟨z, rfl, hz⟩, F3⟩
      have A3 := A2.old F3 hbg
      have F3' : Fr (fun y => y = b ∨ h.nx ≤ y) h g3 := (F2.trans F3).mono (by rintro x _ (hx | hx); exact hx; exact .inr (Nat.le_trans F2.nx hx))
      have O3 : Ok g3 := Cm.fr g' g3 O2 (F3.mono fun x _ hx => .inr hx)
      refine ww_lssC (fun hlt => ?_) fun hlt => ?_
      · repeat (first | with_reducible refine ww_condT ?_ | with_reducible refine ww_condF ?_ | (with_reducible refine ww_wantTT ?_; try dsimp only) | (with_reducible refine ww_wantTF ?_; try dsimp only) | (with_reducible refine ww_wantFT ?_; try dsimp only) | (with_reducible refine ww_wantFF ?_; try dsimp only) | (with_reducible refine ww_wantU ?_; try dsimp only) | with_reducible refine ww_pickT ?_ | with_reducible refine ww_pickF ?_ | (with_reducible refine ww_joinS ?_; try dsimp only) | with_reducible refine ww_leave ?_ | with_reducible refine ww_notT ?_ | with_reducible refine ww_notF ?_ | with_reducible refine ww_addI (by omega) ?_ | with_reducible refine ww_subI (by omega) ?_ | with_reducible refine ww_addU (by omega) ?_ | with_reducible refine ww_subU (by omega) ?_ | with_reducible refine ww_min ?_ | with_reducible refine ww_max ?_)
        rw [show ((L'.length + 1 : Nat) : Int) - ((1 : Nat) : Int) = ((L'.length : Nat) : Int) by omega]
        obtain ⟨Sg3, _⟩ := row_get (i := L'.length + 1) A3 hlen hll
        refine ww_idx1 Sg3 x0 (ww_idx1 Sg3 x1 ?_)
        refine ww_setI A3 rfl rfl hll (by rw [List.length_map, hlen]; omega) fun h22 A4 F4 hx4 => ?_
        refine ww_setI A4 rfl rfl (by omega) (by rw [List.length_set, List.length_map, hlen]; omega) fun h24 A5 F5 hx5 => ?_
        refine ww_subI (by omega) ?_
        rw [show ((L'.length + 1 : Nat) : Int) - ((1 : Nat) : Int) = ((L'.length : Nat) : Int) by omega]
        have hsw : (((L' ++ [y] ++ c :: B ++ C').map I64).set (0 + (L'.length + 1)) (I64 y)).set (0 + L'.length) (I64 c) = (L' ++ c :: (y :: B) ++ C').map I64 := by
          rw [Nat.zero_add, Nat.zero_add, ← List.map_set, ← List.map_set]
          congr 1
          rw [show L' ++ [y] ++ c :: B ++ C' = L' ++ (y :: c :: (B ++ C')) by simp, List.set_append_right _ _ (by omega), List.set_append_right _ _ (by omega)]
          simp
        rw [hsw] at A5
        refine hih2 L'.length _ _ (by omega) ⟨L', y :: B, rfl, rfl, by rw [← hLB]; simp, ?_, A5, ?_, ?_⟩
        · intro x hx
          rcases List.mem_cons.1 hx with rfl | hx
          · exact hz.1 hlt
          · exact hB x hx
        · exact ((F3'.trans F4).trans F5).mono (by rintro x _ ((hx | hx) | hx); exact hx; exact .inl hx; exact .inl hx)
        · exact Cm.fr g3 h24 O3 ((F4.trans F5).mono (by rintro x _ (hx | hx) <;> exact .inl hx))
      · repeat (first | with_reducible refine ww_condT ?_ | with_reducible refine ww_condF ?_ | (with_reducible refine ww_wantTT ?_; try dsimp only) | (with_reducible refine ww_wantTF ?_; try dsimp only) | (with_reducible refine ww_wantFT ?_; try dsimp only) | (with_reducible refine ww_wantFF ?_; try dsimp only) | (with_reducible refine ww_wantU ?_; try dsimp only) | with_reducible refine ww_pickT ?_ | with_reducible refine ww_pickF ?_ | (with_reducible refine ww_joinS ?_; try dsimp only) | with_reducible refine ww_leave ?_ | with_reducible refine ww_notT ?_ | with_reducible refine ww_notF ?_ | with_reducible refine ww_addI (by omega) ?_ | with_reducible refine ww_subI (by omega) ?_ | with_reducible refine ww_addU (by omega) ?_ | with_reducible refine ww_subU (by omega) ?_ | with_reducible refine ww_min ?_ | with_reducible refine ww_max ?_)
        refine stay g3 A3 F3' O3 ?_
        intro x hx
        have hcy : ¬ lt c y := fun h => hlt (hz.2 h)
        rcases List.mem_append.1 hx with hx | hx
        · rw [← hLB, List.append_assoc, List.pairwise_append] at h5
          exact Cm.ntrans x y c (hmem y (by simp)) (h5.2.2 x hx y (by simp)) hcy
        · rw [List.mem_singleton.1 hx]; exact hcy
    · obtain rfl : L = [] := List.eq_nil_of_length_eq_zero (by omega)
      repeat (first | with_reducible refine ww_condT ?_ | with_reducible refine ww_condF ?_ | (with_reducible refine ww_wantTT ?_; try dsimp only) | (with_reducible refine ww_wantTF ?_; try dsimp only) | (with_reducible refine ww_wantFT ?_; try dsimp only) | (with_reducible refine ww_wantFF ?_; try dsimp only) | (with_reducible refine ww_wantU ?_; try dsimp only) | with_reducible refine ww_pickT ?_ | with_reducible refine ww_pickF ?_ | (with_reducible refine ww_joinS ?_; try dsimp only) | with_reducible refine ww_leave ?_ | with_reducible refine ww_notT ?_ | with_reducible refine ww_notF ?_ | with_reducible refine ww_addI (by omega) ?_ | with_reducible refine ww_subI (by omega) ?_ | with_reducible refine ww_addU (by omega) ?_ | with_reducible refine ww_subU (by omega) ?_ | with_reducible refine ww_min ?_ | with_reducible refine ww_max ?_)
      exact stay g' A2 F2 O2 (fun x hx => by cases hx)
  · obtain rfl : C = [] := List.eq_nil_of_length_eq_zero (by omega)
    rw [List.append_nil] at h4 A1
    refine ⟨P, ?_, h4, h5, A1, F1, O1⟩
    rw [hP, List.take_of_length_le (by omega)]

theorem sort_ok {n m0 N b : Nat} {e : TypeId} {vf : AV} {lt : Nat → Nat → Prop} {Ok : AH → Prop} (Cm : Cmps vf b m0 N lt Ok) (hn : m0 + 3 ≤ n) {xs : List Nat} {h : AH} (hx : xs.length = N) (hr : ∀ x ∈ xs, x < N) (hN : N ≤ 20)
    (A : Row h b (xs.map I64) e false) (hok : Ok h) :
    wp (callT tab rtab n (.fn 15 [] []) [.slice b 0 N N false, vf] h) fun v h' =>
      ∃ ys : List Nat, ys = isM lt xs ∧ ys.Perm xs ∧ ys.Pairwise (fun x y => ¬ lt y x) ∧ Row h' b (ys.map I64) e false ∧ Fr (fun y => y = b ∨ h.nx ≤ y) h h' ∧ Ok h' := by
  refine ww_fn (g := W15) rfl (by omega) fun k hk => ?_
  show wp (S15 (callT tab rtab k) _ _ _) _
  unfold S15
  try simp only [Int.ofNat_eq_natCast]
  refine ww_lenS ?_
  refine ww_call (Q' := fun v h' => ∃ ys : List Nat, ys = isM lt xs ∧ ys.Perm xs ∧ ys.Pairwise (fun x y => ¬ lt y x) ∧ Row h' b (ys.map I64) e false ∧ Fr (fun y => y = b ∨ h.nx ≤ y) h h' ∧ Ok h') ?_ (fun v h' q => ww_ret q)
  have h0 : m0 + 2 ≤ k := by omega
  clear hk hn
  revert h0
  generalize k = n
  intro hn
  refine ww_fn (g := W19) rfl (by omega) fun k hk => ?_
  show wp (S19 (callT tab rtab k) _ _ _ _) _
  unfold S19
  try simp only [Int.ofNat_eq_natCast]
  refine ww_iter (fun m s g => (s = (I64 20, I64 0, I64 20, vf, I64 N, .slice b 0 N N false, ()) ∧ g = h ∧ m = 1) ∨ (N = 20 ∧ m = 0 ∧ s = (I64 40, I64 20, I64 20, vf, I64 N, .slice b 0 N N false, ()) ∧
    ∃ ys : List Nat, ys = isM lt xs ∧ ys.Perm xs ∧ ys.Pairwise (fun x y => ¬ lt y x) ∧ Row g b (ys.map I64) e false ∧ Fr (fun y => y = b ∨ h.nx ≤ y) h g ∧ Ok g)) ?_ (m := 1) (by decide) (.inl ⟨rfl, rfl, rfl⟩)
  rintro m ih s g hih (⟨rfl, rfl, rfl⟩ | ⟨h20, rfl, rfl, hg⟩)
  · dsimp only
    refine ww_leqC (fun hc => ww_condT ?_) fun hc => ww_condF ?_
    · obtain rfl : N = 20 := by omega
      refine ww_call (insert_ok Cm (by omega) hx hr (by omega) (by omega) A hok) ?_
      rintro v g' hg
      refine ww_addI (by omega) ?_
      exact hih 0 _ _ (by omega) (.inr ⟨rfl, rfl, rfl, hg⟩)
    · by_cases hN0 : N = 0
      · subst hN0
        obtain rfl : xs = [] := List.eq_nil_of_length_eq_zero hx
        refine ww_call (insert_triv (by omega) (by omega) (by omega)) ?_
        rintro v g' rfl
        refine ww_once (by decide) fun ih2 => ?_
        dsimp only
        exact ww_lssC (fun hc => by omega) fun _ => ww_condF (ww_leave (ww_ret ⟨[], rfl, List.Perm.refl _, List.Pairwise.nil, A, Fr.refl _ _, hok⟩))
      · refine ww_call (insert_ok Cm (by omega) hx hr (by omega) (by omega) A hok) ?_
        rintro v g' hg
        refine ww_once (by decide) fun ih2 => ?_
        dsimp only
        exact ww_lssC (fun hc => by omega) fun _ => ww_condF (ww_leave (ww_ret hg))
  · dsimp only
    subst h20
    refine ww_leqC (fun hc => by omega) fun hc => ww_condF ?_
    refine ww_call (insert_triv (by omega) (by omega) (by omega)) ?_
    rintro v g' rfl
    refine ww_once (by decide) fun ih2 => ?_
    dsimp only
    exact ww_lssC (fun hc => by omega) fun _ => ww_condF (ww_leave (ww_ret hg))
end Go.Proofs.Ytlmfnmppcdijfaa
