/- Write sets: by the program. -/
import Derived.Test.YtkfpddegilellaaGreatDoorVwM
import Derived.Test.YtkfpddegilellaaGreatDoorT
import Derived.KernelRfl
namespace Go.Proofs.YtkfpddegilellaaGreatDoor
open Go Go.Ae
set_option maxRecDepth 100000

variable {g h : AH} {L R : List SP}

/-- a write set: room, cells -/
def WrC (w m : Nat) (l : List Cl) : SP := .ex fun v => .all [ObjC w [.int .i64 (m : Int), v], SliC 35 2 l.length v (l.flatMap encC)]
theorem WrC.E {w m : Nat} {l : List Cl} (H : HS g h (WrC w m l :: R)) : ∃ v, HS g h (ObjC w [.int .i64 (m : Int), v] :: SliC 35 2 l.length v (l.flatMap encC) :: R) := by
  obtain ⟨v, H⟩ := H.exE
  exact ⟨v, H.allE⟩
theorem WrC.I {w m : Nat} {l : List Cl} {v : AV} (H : HS g h (ObjC w [.int .i64 (m : Int), v] :: SliC 35 2 l.length v (l.flatMap encC) :: R)) : HS g h (WrC w m l :: R) :=
  HS.exI v (HS.allI H)

theorem allOne_encC (l : List Cl) : allOne (l.flatMap encC) = true := by
  unfold allOne
  rw [List.all_eq_true]
  intro v hv
  obtain ⟨c, _, hc⟩ := List.mem_flatMap.1 hv
  simp [encC] at hc
  rcases hc with rfl | rfl <;> rfl
theorem encC_row {l : List Cl} {i : Nat} {c : Cl} (h : l[i]? = some c) : ((l.flatMap encC).drop (i * 2)).take 2 = encC c := by
  obtain ⟨hi, e⟩ := List.getElem?_eq_some_iff.1 h
  rw [flat_drop (sz := 2) encC (fun _ => rfl), List.drop_eq_getElem_cons hi, e, List.flatMap_cons]; rfl
theorem encC_set {l : List Cl} {i : Nat} {p x v : Int} (h : l[i]? = some (p, x)) : (l.flatMap encC).set (i * 2 + 1) (.int .u64 v) = (l.set i (p, v)).flatMap encC := by
  have hi := (List.getElem?_eq_some_iff.1 h).1
  apply List.ext_getElem?
  intro j
  have hd : j = j / 2 * 2 + j % 2 := by omega
  have hm : j % 2 < 2 := by omega
  rw [List.getElem?_set, flat_len (sz := 2) encC (fun _ => rfl)]
  have e1 := flat_get (sz := 2) encC (fun _ => rfl) l (j / 2) (j % 2) hm
  have e2 := flat_get (sz := 2) encC (fun _ => rfl) (l.set i (p, v)) (j / 2) (j % 2) hm
  rw [← hd] at e1 e2
  rw [e1, e2, List.getElem?_set]
  by_cases h1 : i * 2 + 1 = j
  · have : j / 2 = i := by omega
    have h3 : j % 2 = 1 := by omega
    rw [if_pos h1, if_pos (by omega), if_pos this.symm, if_pos hi, h3]; rfl
  · rw [if_neg h1]
    by_cases h2 : i = j / 2
    · have h3 : j % 2 = 0 := by omega
      rw [if_pos h2, if_pos hi, h3, ← h2, h]; rfl
    · rw [if_neg h2]

def zI (o : Option Nat) : Int := match o with | some i => (i : Int) | none => -1

theorem wnew_ok {n : Nat} (hn : 1 ≤ n) {m : Nat} (hm : m ≤ 96) (H : HS g h R) : wp (callT tab rtab n (.fn 74 [] []) [.int .i64 (m : Int)] h) fun v h' => ∃ w, v = .ptr w 0 ∧ HS g h' (WrC w m [] :: R) := by
  (refine ww_fn (g := W74) rfl (by omega) fun k hk => ?_; show wp (S74 (callT tab rtab k) _ _) _; unfold S74; try simp only [Int.ofNat_eq_natCast])
  refine ww_min (ww_max (ww_build rfl (ww_boxA H rfl fun w h2 H2 => ww_ret ⟨w, rfl, ?_⟩)))
  rw [show max ((0 : Nat) : Int) (min (m : Int) ((96 : Nat) : Int)) = (m : Int) by omega] at H2
  exact WrC.I ((H2.nils (e := 35) (sz := 2)).sel (P := ObjC w [.int .i64 (m : Int), .nils]) (.there .here) :)

theorem windex_ok {n : Nat} (hn : 2 ≤ n) {p : Int} {v : AV} {c0 : Nat} {l : List Cl} (H : HS g h L) (S : Rd g L 2 l.length v (l.flatMap encC)) (s : Sel L (ObjC c0 [.int .i64 p]) R) (hl : l.length < 1000000) :
    wp (callT tab rtab n (.fn 188 [] []) [v, .fn 189 [] [.ptr c0 0]] h) fun v h' => v = .int .i64 (zI (idxC p l)) ∧ HS g h' L := by
  (refine ww_fn (g := W188) rfl (by omega) fun k hk => ?_; show wp (S188 (callT tab rtab k) _ _ _) _; unfold S188; try simp only [Int.ofNat_eq_natCast])
  refine ww_len (S.sl H) ?_
  refine (ww_iter (fun m s h' => ∃ i : Nat, s = (.int .i64 (i : Int), .int .i64 (l.length : Int), .fn 189 [] [.ptr c0 0], v, ()) ∧ i ≤ l.length ∧ m = l.length - i ∧ HS g h' L ∧
    (∀ j, j < i → ∀ c, l[j]? = some c → c.1 ≠ p)) ?_ (m := l.length) (by show _ < 1000000000; omega) ⟨0, rfl, by omega, by omega, H, fun j hj => by omega⟩)
  rintro m ih s' h' hih ⟨i, rfl, h1, rfl, H, h2⟩
  dsimp only
  refine ww_lssC (fun hlt => ww_condT ?_) fun hge => ww_condF (ww_leave (ww_ret ⟨?_, H⟩))
  · have hi : i < l.length := by omega
    have hc : l[i]? = some l[i] := List.getElem?_eq_getElem hi
    refine ww_idxN (l := encC l[i]) (S.sl H) hi (by omega) (encC_row hc) ?_
    refine ww_call (Q' := fun v h2 => v = .bool (decide (l[i].1 = p)) ∧ HS g h2 L) (ww_fc (g := W189) rfl (by omega) fun k hk => ?_) ?_
    · show wp (S189 (callT tab rtab k) _ _ _) _
      unfold S189
      refine ww_boxA H rfl fun b h3 H3 => ?_
      with_reducible (refine ww_field0 ?_; refine ww_ldH (by assumption) .here (by with_unfolding_all exact rfl) ?_)
      refine ww_ldH H3 (.there s) rfl (ww_eql (ww_ret ⟨rfl, H3.drop⟩))
    · rintro _ h3 ⟨rfl, H3⟩
      refine ww_cond (fun he => ww_leave (ww_ret ⟨?_, H3⟩)) fun hne => ww_addI (by omega) ?_
      · rw [idxC_first hi h2 ⟨l[i].2, by rw [hc, ← he]⟩]; rfl
      · refine hih (l.length - (i + 1)) _ _ (by omega) ⟨i + 1, rfl, by omega, rfl, H3, fun j hj c hc' => ?_⟩
        by_cases h4 : j < i
        · exact h2 j h4 c hc'
        · obtain rfl : j = i := by omega
          rw [hc] at hc'; cases hc'; exact hne
  · rw [idxC_all fun c hc => ?_]
    · rfl
    · obtain ⟨j, hj⟩ := List.getElem?_of_mem hc
      exact h2 j (by have := (List.getElem?_eq_some_iff.1 hj).1; omega) c hj

theorem wfind_ok {n : Nat} (hn : 3 ≤ n) {w m : Nat} {l : List Cl} {p : Int} (H : HS g h (WrC w m l :: R)) (hl : l.length < 1000000) :
    wp (callT tab rtab n (.fn 133 [] []) [.ptr w 0, .int .i64 p] h) fun v h' => v = .int .i64 (zI (idxC p l)) ∧ HS g h' (WrC w m l :: R) := by
  (refine ww_fn (g := W133) rfl (by omega) fun k hk => ?_; show wp (S133 (callT tab rtab k) _ _ _) _; unfold S133; try simp only [Int.ofNat_eq_natCast])
  obtain ⟨v, H⟩ := WrC.E H
  refine ww_box1 H ⟨rfl, rfl⟩ fun c0 h2 H2 => ?_
  with_reducible (refine ww_nil ?_; refine ww_field0 ?_; refine ww_ldH (by assumption) (.there .here) (by with_unfolding_all exact rfl) ?_)
  refine ww_call (windex_ok (p := p) (by omega) H2 (H2.rd (.there (.there .here))) .here hl) ?_
  rintro _ h3 ⟨rfl, H3⟩
  exact ww_ret ⟨rfl, WrC.I H3.drop⟩

theorem wget_ok {n : Nat} (hn : 4 ≤ n) {w m : Nat} {l : List Cl} {p : Int} (H : HS g h (WrC w m l :: R)) (hl : l.length < 1000000) :
    wp (callT tab rtab n (.fn 95 [] []) [.ptr w 0, .int .i64 p] h) fun v h' => v = .tup [.int .u64 ((getC p l).getD 0), .bool (getC p l).isSome] ∧ HS g h' (WrC w m l :: R) := by
  (refine ww_fn (g := W95) rfl (by omega) fun k hk => ?_; show wp (S95 (callT tab rtab k) _ _ _) _; unfold S95; try simp only [Int.ofNat_eq_natCast])
  refine ww_call (wfind_ok (by omega) H hl) ?_
  rintro _ h3 ⟨rfl, H3⟩
  cases hi : idxC p l with
  | none =>
    refine ww_geqF (by show ¬ ((0 : Nat) : Int) ≤ -1; omega) ?_
    with_reducible (refine ww_condF ?_)
    exact ww_ret ⟨by rw [idxC_none.1 hi]; rfl, H3⟩
  | some i =>
    obtain ⟨h1, ⟨x, h2, h2'⟩, _⟩ := idxC_some hi
    refine ww_geqT (by show ((0 : Nat) : Int) ≤ (i : Int); omega) ?_
    obtain ⟨v, H4⟩ := WrC.E H3
    with_reducible (refine ww_condT ?_; refine ww_nil ?_; refine ww_field0 ?_; refine ww_ldH (by assumption) .here (by with_unfolding_all exact rfl) ?_)
    refine ww_idxF (x := .int .u64 x) (H4.sl (.there .here)) (by omega) h1 ?_ (ww_ret ⟨by rw [h2']; rfl, H3⟩)
    rw [flat_get (sz := 2) encC (fun _ => rfl) _ _ _ (by omega), h2]; rfl

theorem wput_ok {n : Nat} (hn : 4 ≤ n) {w m : Nat} {l : List Cl} {p x : Int} (H : HS g h (WrC w m l :: R)) (hl : l.length < 1000000) :
    wp (callT tab rtab n (.fn 99 [] []) [.ptr w 0, .int .i64 p, .int .u64 x] h) fun v h' => v = .int .i64 (putW m l p x).1 ∧ HS g h' (WrC w m (putW m l p x).2 :: R) := by
  (refine ww_fn (g := W99) rfl (by omega) fun k hk => ?_; show wp (S99 (callT tab rtab k) _ _ _ _) _; unfold S99; try simp only [Int.ofNat_eq_natCast])
  unfold putW
  by_cases hp : p < 1 ∨ 256 ≤ p
  · rw [if_pos hp]
    repeat' (first | with_reducible refine ww_condT ?_ | with_reducible refine ww_condF ?_ | (with_reducible refine ww_wantTT ?_; try dsimp only) | (with_reducible refine ww_wantTF ?_; try dsimp only) | (with_reducible refine ww_wantFT ?_; try dsimp only) | (with_reducible refine ww_wantFF ?_; try dsimp only) | (with_reducible refine ww_wantU ?_; try dsimp only) | with_reducible refine ww_pickT ?_ | with_reducible refine ww_pickF ?_ | (with_reducible refine ww_joinS ?_; try dsimp only) | with_reducible refine ww_leave ?_ | with_reducible refine ww_notT ?_ | with_reducible refine ww_notF ?_ | with_reducible refine ww_addI (by omega) ?_ | with_reducible refine ww_subI (by omega) ?_ | with_reducible refine ww_addU (by omega) ?_ | with_reducible refine ww_subU (by omega) ?_ | with_reducible refine ww_min ?_ | with_reducible refine ww_max ?_ | with_reducible refine ww_eqlT (by omega) ?_ | with_reducible refine ww_eqlF (by omega) ?_ | with_reducible refine ww_neqT (by omega) ?_ | with_reducible refine ww_neqF (by omega) ?_ | with_reducible refine ww_lssT (by omega) ?_ | with_reducible refine ww_lssF (by omega) ?_ | with_reducible refine ww_leqT (by omega) ?_ | with_reducible refine ww_leqF (by omega) ?_ | with_reducible refine ww_gtrT (by omega) ?_ | with_reducible refine ww_gtrF (by omega) ?_ | with_reducible refine ww_geqT (by omega) ?_ | with_reducible refine ww_geqF (by omega) ?_ | with_reducible refine ww_lssC (fun hc => ?_) (fun hc => ?_) | with_reducible refine ww_leqC (fun hc => ?_) (fun hc => ?_) | with_reducible refine ww_gtrC (fun hc => ?_) (fun hc => ?_) | with_reducible refine ww_geqC (fun hc => ?_) (fun hc => ?_) | with_reducible refine ww_eqlC (fun hc => ?_) (fun hc => ?_) | with_reducible refine ww_neqC (fun hc => ?_) (fun hc => ?_) | with_reducible refine ww_condB (fun hc => ?_) (fun hc => ?_))
    all_goals exact ww_ret ⟨rfl, H⟩
  rw [if_neg hp]
  with_reducible (refine ww_lssF (by omega) ?_; refine ww_joinS ?_; (try dsimp only); refine ww_wantFF ?_; (try dsimp only); refine ww_geqF (by omega) ?_; refine ww_pickF ?_; refine ww_condF ?_)
  refine ww_call (wfind_ok (by omega) H hl) ?_
  rintro _ h3 ⟨rfl, H3⟩
  cases hi : idxC p l with
  | none =>
    refine ww_geqF (by show ¬ ((0 : Nat) : Int) ≤ -1; omega) ?_
    have hg := idxC_none.1 hi
    obtain ⟨v, H4⟩ := WrC.E H3
    with_reducible (refine ww_condF ?_; refine ww_nil ?_; refine ww_field0 ?_; refine ww_ldH (by assumption) .here (by with_unfolding_all exact rfl) ?_; refine ww_lenH (by assumption) (.there .here) ?_; refine ww_nil ?_; refine ww_field0 ?_; refine ww_ldH (by assumption) .here (by with_unfolding_all exact rfl) ?_)
    by_cases hf : m ≤ l.length
    · rw [if_pos ⟨hg, hf⟩]
      with_reducible (refine ww_geqT (by omega) ?_; refine ww_condT ?_)
      exact ww_ret ⟨rfl, H3⟩
    · rw [if_neg (fun h => hf h.2)]
      with_reducible (refine ww_geqF (by omega) ?_; refine ww_condF ?_; refine ww_nil ?_; refine ww_field0 ?_; refine ww_ldH (by assumption) .here (by with_unfolding_all exact rfl) ?_; refine ww_build (by with_unfolding_all exact rfl) ?_)
      refine ww_buildSH (sz := 2) (l := [.int .i64 p, .int .u64 x]) H4 rfl rfl rfl rfl fun v5 h5 H5 => ?_
      refine ww_appH (H5.sel (.there (.there .here))) (H5.sl .here) (by omega) (by omega) rfl fun v6 h6 H6 => ?_
      with_reducible (refine ww_nil ?_; refine ww_field0 ?_)
      refine ww_st1H H6 (.there (.there .here)) (H6.one .here) (by simp) fun h7 H7 => ww_ret ⟨rfl, WrC.I (v := v6) ?_⟩
      rw [putC_none hg, List.flatMap_append, List.length_append]
      exact H7.sub (.cons .here (.cons .here (.drop (.refl))))
  | some i =>
    obtain ⟨h1, ⟨y, h2, h2'⟩, h5⟩ := idxC_some hi
    refine ww_geqT (by show ((0 : Nat) : Int) ≤ (i : Int); omega) ?_
    obtain ⟨v, H4⟩ := WrC.E H3
    with_reducible (refine ww_condT ?_; refine ww_nil ?_; refine ww_field0 ?_; refine ww_ldH (by assumption) .here (by with_unfolding_all exact rfl) ?_)
    rw [if_neg (fun h => by rw [h2'] at h; cases h.1)]
    refine ww_slF (H4.sel (.there .here)) h1 (by omega) ⟨rfl, rfl⟩ fun h6 H6 => ww_ret ⟨rfl, WrC.I (v := v) ?_⟩
    rw [encC_set h2] at H6
    dsimp only
    rw [h5, List.length_set]
    exact H6.sub (.cons (.there .here) (.refl))

theorem clone_ok {n : Nat} (hn : 1 ≤ n) {v : AV} {l : List Cl} (H : HS g h L) (s : Sel L (SliC 35 2 l.length v (l.flatMap encC)) R) (hl : l.length < 1000000) :
    wp (callT tab rtab n (.fn 100 [] []) [v] h) fun v' h' => HS g h' (SliC 35 2 l.length v' (l.flatMap encC) :: L) := by
  (refine ww_fn (g := W100) rfl (by omega) fun k hk => ?_; show wp (S100 (callT tab rtab k) _ _) _; unfold S100; try simp only [Int.ofNat_eq_natCast])
  refine ww_nilS H s (fun _ h0 => ww_condT (ww_ret ?_)) (ww_condF ?_)
  · have := List.eq_nil_of_length_eq_zero h0
    subst this
    exact H.nils
  · refine ww_buildSH (n := 0) (l := []) (sz := 2) H rfl rfl rfl rfl fun v2 h2 H2 => ?_
    refine ww_appH H2 (H2.sl (.there s)) (by omega) (by omega) (allOne_encC l) fun v3 h3 H3 => ww_ret ?_
    rw [Nat.zero_add, List.nil_append] at H3
    exact H3
theorem wall_ok {n : Nat} (hn : 2 ≤ n) {w m : Nat} {l : List Cl} (H : HS g h (WrC w m l :: R)) (hl : l.length < 1000000) :
    wp (callT tab rtab n (.fn 76 [] []) [.ptr w 0] h) fun v h' => HS g h' (SliC 35 2 l.length v (l.flatMap encC) :: WrC w m l :: R) := by
  (refine ww_fn (g := W76) rfl (by omega) fun k hk => ?_; show wp (S76 (callT tab rtab k) _ _) _; unfold S76; try simp only [Int.ofNat_eq_natCast])
  obtain ⟨v, H⟩ := WrC.E H
  with_reducible (refine ww_nil ?_; refine ww_field0 ?_; refine ww_ldH (by assumption) .here (by with_unfolding_all exact rfl) ?_)
  refine ww_call (clone_ok (by omega) H (.there .here) hl) fun v3 h3 H3 => ww_ret ?_
  have := WrC.I (v := v) (w := w) (m := m) (l := l) (H3.sub (L' := _ :: _ :: SliC 35 2 l.length v3 (l.flatMap encC) :: R) (.cons (.there .here) (.cons (.there .here) .refl)))
  exact this.sub (.cons (.there .here) (.refl))
theorem wlen_ok {n : Nat} (hn : 1 ≤ n) {w m : Nat} {l : List Cl} (H : HS g h (WrC w m l :: R)) :
    wp (callT tab rtab n (.fn 190 [] []) [.ptr w 0] h) fun v h' => v = .int .i64 (l.length : Int) ∧ h' = h := by
  (refine ww_fn (g := W190) rfl (by omega) fun k hk => ?_; show wp (S190 (callT tab rtab k) _ _) _; unfold S190; try simp only [Int.ofNat_eq_natCast])
  obtain ⟨v, H⟩ := WrC.E H
  with_reducible (refine ww_nil ?_; refine ww_field0 ?_; refine ww_ldH (by assumption) .here (by with_unfolding_all exact rfl) ?_; refine ww_lenH (by assumption) (.there .here) ?_)
  exact ww_ret ⟨rfl, rfl⟩

theorem takeW_zero {m : Nat} {l : List Cl} {cs : List Cl} : (takeW m l cs).1 = 0 ∨ (takeW m l cs).1 = 2 ∨ (takeW m l cs).1 = 5 := by
  induction cs generalizing l with
  | nil => exact .inl rfl
  | cons c cs ih =>
    unfold takeW
    split
    · exact ih
    · unfold putW; repeat' split
      all_goals simp
/-- all, or none -/
def takeWM (m : Nat) (l cs : List Cl) : Int × List Cl := if (takeW m l cs).1 = 0 then takeW m l cs else ((takeW m l cs).1, l)

theorem wtake_ok {n : Nat} (hn : 5 ≤ n) {w m : Nat} {l cs : List Cl} {c : AV} (H : HS g h (WrC w m l :: R)) (S : Rd g R 2 cs.length c (cs.flatMap encC)) (hl : l.length < 100000) (hc : cs.length < 100000) :
    wp (callT tab rtab n (.fn 75 [] []) [.ptr w 0, c] h) fun v h' => v = .int .i64 (takeWM m l cs).1 ∧ HS g h' (WrC w m (takeWM m l cs).2 :: R) := by
  (refine ww_fn (g := W75) rfl (by omega) fun k hk => ?_; show wp (S75 (callT tab rtab k) _ _ _) _; unfold S75; try simp only [Int.ofNat_eq_natCast])
  refine ww_call (wall_ok (by omega) H (by omega)) fun v0 h1 H1 => ?_
  refine ww_len (S.sl H1.drop.drop) ?_
  refine ww_iter (fun k s h' => ∃ (i : Nat) (l' : List Cl), s = (.int .i64 (i : Int), .int .i64 (cs.length : Int), c, v0, .ptr w 0, ()) ∧ i ≤ cs.length ∧ k = cs.length - i ∧ l'.length ≤ l.length + i ∧
    HS g h' (WrC w m l' :: SliC 35 2 l.length v0 (l.flatMap encC) :: R) ∧ takeW m l cs = takeW m l' (cs.drop i)) ?_ (m := cs.length) (by show _ < 1000000000; omega) ⟨0, l, rfl, by omega, by omega, by omega, H1.sub (.cons (.there .here) (.refl)), rfl⟩
  rintro k ih s h2 hih ⟨i, l', rfl, h1, rfl, hl', H, hT⟩
  dsimp only
  refine ww_lssC (fun hlt => ww_condT ?_) fun hge => ww_condF (ww_leave (ww_ret ?_))
  · have hi : i < cs.length := by omega
    have hci : cs[i]? = some cs[i] := List.getElem?_eq_getElem hi
    refine ww_idxN (l := encC cs[i]) (S.sl H.drop.drop) hi (by omega) (encC_row hci) ?_
    refine ww_boxA H rfl fun b h3 H3 => ww_stH H3 .here rfl (by show 0 + 2 ≤ 2; omega) rfl fun h4 H4 => ?_
    have H5 : HS g h4 (ObjC b (encC cs[i]) :: WrC w m l' :: SliC 35 2 l.length v0 (l.flatMap encC) :: R) := H4
    unfold encC at H5
    with_reducible (refine ww_field0 ?_; refine ww_ldH (by assumption) .here (by with_unfolding_all exact rfl) ?_; refine ww_field0 ?_; refine ww_ldH (by assumption) .here (by with_unfolding_all exact rfl) ?_)
    refine ww_call (wput_ok (by omega) H5.drop (by omega)) ?_
    rintro _ h6 ⟨rfl, H6⟩
    rw [List.drop_eq_getElem_cons hi, takeW_cons] at hT
    refine ww_neqC (fun hne => ww_condT ?_) fun he => ww_condF (ww_addI (by omega) ?_)
    · have hne : ¬ (putW m l' cs[i].1 cs[i].2).1 = 0 := by simpa using hne
      rw [if_neg hne] at hT
      obtain ⟨v7, H7⟩ := WrC.E H6
      with_reducible (refine ww_nil ?_; refine ww_field0 ?_)
      refine ww_st1H H7 .here (H7.one (.there (.there .here))) (by simp) fun h8 H8 => ww_leave (ww_ret ?_)
      unfold takeWM
      rw [hT, if_neg hne]
      exact ⟨rfl, WrC.I (v := v0) (H8.sub (.cons .here (.cons (.there .here) (.drop .refl))))⟩
    · have he' : (putW m l' cs[i].1 cs[i].2).1 = 0 := by simpa using he
      rw [if_pos he'] at hT
      refine hih (cs.length - (i + 1)) _ _ (by omega) ⟨i + 1, _, rfl, by omega, rfl, ?_, H6, hT⟩
      have := putC_len (p := cs[i].1) (v := cs[i].2) (l := l')
      unfold putW
      repeat' split
      all_goals dsimp only
      all_goals first | omega | (split at this <;> omega)
  · rw [List.drop_of_length_le (by omega)] at hT
    have hT : takeW m l cs = (0, l') := hT
    unfold takeWM
    rw [hT, if_pos rfl]
    exact ⟨rfl, H.sub (.cons .here (.drop .refl))⟩
end Go.Proofs.YtkfpddegilellaaGreatDoor
