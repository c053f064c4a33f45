/- Trees: the walks of a node's words: child, red, hang, paint, top, link, turn. -/
import Derived.Test.YtpohfcljfemhlaaTreeM
namespace Go.Proofs.Ytpohfcljfemhlaa.arenaParts
open Go Go.Ae arenaPlays
set_option maxRecDepth 100000

variable {g h : AH} {L R : List SP} {α : Type}

theorem stp_read {D : DM} {p : Int} : (readD D p).2.stp = D.stp := by unfold readD; split <;> rfl
theorem stp_fail {D : DM} {e : Int} : (failD D e).stp = D.stp := by unfold failD; split <;> rfl
theorem stp_name {D : DM} {w : Int} : (nameD D w).2.stp = D.stp := by
  unfold nameD
  split
  · exact stp_fail
  · rfl
theorem stp_place {D : DM} {p : Int} : (placeD D p).2.stp = D.stp := stp_name.trans stp_read
theorem stp_take {D : DM} {cs : List Cl} : (takeD D cs).stp = D.stp := by unfold takeD; split <;> rfl
theorem stp_alloc {D : DM} {x : Int} : (allocD D x).2.stp = D.stp := by unfold allocD; split <;> rfl
theorem run_name {w : Int} {k : Int → Act α} {D : DM} : EqR (runA (nameA w k) D) (runA (k (nameD D w).1) (nameD D w).2) := by
  unfold nameA nameD
  split
  · exact run_fail (by omega)
  · exact EqR.refl _
theorem good_name {D : DM} {sz f : Nat} {w : Int} (G : GoodD D sz f) (hw : 0 ≤ w) : GoodD (nameD D w).2 sz f ∧ 0 ≤ (nameD D w).1 ∧ (nameD D w).1 < 2147483648 := by
  unfold nameD
  split
  · exact ⟨G.fail, by show (0 : Int) ≤ 0 ∧ (0 : Int) < 2147483648; omega⟩
  · exact ⟨G, by dsimp only; omega⟩
theorem wd1 {a x : Int} (h : 0 ≤ x ∧ x < 18446744073709551616) : WdC [(a, x)] := .one1 h

/-- a tree in a draft -/
abbrev TrC (t d : Nat) (root : Int) (wv : AV) : SP := ObjC t [.ptr d 0, .int .i64 root, wv]
/-- after an act that changes the draft alone -/
structure Aft (D D' : DM) (sz : Nat) : Prop where
  good : GoodD D' sz 5
  stp : D'.stp = D.stp

theorem read_err {D : DM} {p : Int} (h : (readD D p).2.err ≠ 0) : (readD D p).1 = 0 := by
  unfold readD at h ⊢
  split at h
  · rename_i h0
    rw [if_pos h0]
    exact readV_err h
  · rename_i h0
    rw [if_neg h0]
theorem name_err {D : DM} {w : Int} (hw : D.err ≠ 0 → w = 0) (h : (nameD D w).2.err ≠ 0) : (nameD D w).1 = 0 := by
  unfold nameD at h ⊢
  split at h
  · rename_i h0
    rw [if_pos h0]
  · rename_i h0
    rw [if_neg h0]
    exact hw h
theorem place_err {D : DM} {p : Int} (h : (placeD D p).2.err ≠ 0) : (placeD D p).1 = 0 := name_err read_err h
theorem fail_st {D : DM} {e : Int} (h : D.err ≠ 0) : (failD D e).err ≠ 0 := by unfold failD; rw [if_neg h]; exact h
theorem read_st {D : DM} {p : Int} (h : D.err ≠ 0) : (readD D p).2.err ≠ 0 := by unfold readD; rw [if_neg h]; exact h
theorem name_st {D : DM} {w : Int} (h : D.err ≠ 0) : (nameD D w).2.err ≠ 0 := by
  unfold nameD
  split
  · exact fail_st h
  · exact h
theorem place_st {D : DM} {p : Int} (h : D.err ≠ 0) : (placeD D p).2.err ≠ 0 := name_st (read_st h)
theorem child_ok {n : Nat} (hn : 13 ≤ n) {t d : Nat} {D : DM} {root at_ side : Int} {wv : AV} {sz : Nat} (H : HS g h (DrC d D :: TrC t d root wv :: R)) (G : GoodD D sz 5) (hb : 0 ≤ at_ ∧ at_ ≤ 2147483648) :
    wp (callT tab rtab n (.fn 39 [] []) [.ptr t 0, .int .i64 at_, .int .i64 side] h) fun r h' => ∃ (v : Int) (D' : DM), r = .int .i64 v ∧ (∀ k : Int → Act α, EqR (runA (childA at_ side k) D) (runA (k v) D')) ∧ Aft D D' sz ∧ ((0 ≤ v ∧ v < 2147483648) ∧ (D'.err ≠ 0 → v = 0) ∧ (D.err ≠ 0 → D'.err ≠ 0)) ∧ HS g h' (DrC d D' :: TrC t d root wv :: R) := by
  (refine ww_fn (g := W39) rfl (by omega) fun k hk => ?_; show wp (S39 (callT tab rtab k) _ _ _ _) _; unfold S39; try simp only [Int.ofNat_eq_natCast])
  by_cases h0 : at_ = 0
  · refine ww_eqlT h0 (ww_condT ?_)
    with_reducible (refine ww_nil ?_; refine ww_field0 ?_; refine ww_ldH (by assumption) (.there .here) (by with_unfolding_all exact rfl) ?_)
    refine ww_call (dfail_ok (by omega) H) ?_
    intro _ h1 H1
    exact ww_ret ⟨0, _, rfl, fun k => by unfold childA; rw [if_pos h0]; exact run_fail (by omega), ⟨G.fail, stp_fail⟩, ⟨by omega, fun _ => rfl, fail_st⟩, H1⟩
  refine ww_eqlF h0 (ww_condF ?_)
  by_cases h1 : side = 1
  · refine ww_eqlT h1 (ww_condT ?_)
    with_reducible (refine ww_nil ?_; refine ww_field0 ?_; refine ww_ldH (by assumption) (.there .here) (by with_unfolding_all exact rfl) ?_; refine ww_addI (by omega) ?_)
    rw [show at_ + ((3 : Nat) : Int) = at_ + 3 from rfl]
    refine ww_call (dplace_ok (by omega) H G) ?_
    rintro _ h2 ⟨rfl, H2⟩
    exact ww_ret ⟨_, _, rfl, fun k => by unfold childA; rw [if_neg h0, if_pos h1]; exact run_place, ⟨G.place.1, stp_place⟩, ⟨G.place.2, place_err, place_st⟩, H2⟩
  refine ww_eqlF h1 (ww_condF ?_)
  with_reducible (refine ww_joinS ?_; (try dsimp only); refine ww_nil ?_; refine ww_field0 ?_; refine ww_ldH (by assumption) (.there .here) (by with_unfolding_all exact rfl) ?_; refine ww_nil ?_; refine ww_field0 ?_; refine ww_ldH (by assumption) (.there .here) (by with_unfolding_all exact rfl) ?_; refine ww_addI (by omega) ?_)
  rw [show at_ + ((2 : Nat) : Int) = at_ + 2 from rfl]
  refine ww_call (dread_ok (by omega) H G.g.ok) ?_
  rintro _ h2 ⟨rfl, H2⟩
  have G2 := G.read (p := at_ + 2)
  refine ww_shr1 ?_
  refine ww_call (dname_ok (by omega) (by omega) H2) ?_
  rintro _ h3 ⟨rfl, H3⟩
  have G3 := good_name G2.1 (w := (readD D (at_ + 2)).1 / 2) (by omega)
  refine ww_chkH H (b := t) (.there .here) rfl H2 (.there .here) rfl (HS.lt H (.there .here)) ?_
  exact ww_ret ⟨_, _, rfl, fun k => by unfold childA; rw [if_neg h0, if_neg h1]; exact run_read.trans run_name, ⟨G3.1, stp_name.trans stp_read⟩, ⟨G3.2, name_err fun he => by rw [read_err he]; rfl, fun he => name_st (read_st he)⟩, H3⟩

theorem red_ok {n : Nat} (hn : 13 ≤ n) {t d : Nat} {D : DM} {root at_ : Int} {wv : AV} {sz : Nat} (H : HS g h (DrC d D :: TrC t d root wv :: R)) (G : GoodD D sz 5) (hb : 0 ≤ at_ ∧ at_ ≤ 2147483648) :
    wp (callT tab rtab n (.fn 44 [] []) [.ptr t 0, .int .i64 at_] h) fun r h' => ∃ (v : Bool) (D' : DM), r = .bool v ∧ (∀ k : Bool → Act α, EqR (runA (redA at_ k) D) (runA (k v) D')) ∧ Aft D D' sz ∧ HS g h' (DrC d D' :: TrC t d root wv :: R) := by
  (refine ww_fn (g := W44) rfl (by omega) fun k hk => ?_; show wp (S44 (callT tab rtab k) _ _ _) _; unfold S44; try simp only [Int.ofNat_eq_natCast])
  by_cases h0 : at_ = 0
  · refine ww_neqF h0 ?_
    with_reducible (refine ww_joinS ?_; (try dsimp only); refine ww_wantFT ?_; (try dsimp only); refine ww_pickF ?_)
    exact ww_ret ⟨false, D, rfl, fun k => by unfold redA; rw [if_pos h0]; exact EqR.refl _, ⟨G, rfl⟩, H⟩
  refine ww_neqT h0 ?_
  with_reducible (refine ww_joinS ?_; (try dsimp only); refine ww_wantTT ?_; (try dsimp only); refine ww_nil ?_; refine ww_field0 ?_; refine ww_ldH (by assumption) (.there .here) (by with_unfolding_all exact rfl) ?_; refine ww_addI (by omega) ?_)
  rw [show at_ + ((2 : Nat) : Int) = at_ + 2 from rfl]
  refine ww_call (dread_ok (by omega) H G.g.ok) ?_
  rintro _ h2 ⟨rfl, H2⟩
  have G2 := G.read (p := at_ + 2)
  refine ww_and1 (by omega) ?_
  refine ww_eql ?_
  with_reducible (refine ww_pickT ?_)
  exact ww_ret ⟨_, _, rfl, fun k => by unfold redA; rw [if_neg h0]; exact run_read, ⟨G2.1, stp_read⟩, H2⟩

theorem hang_ok {n : Nat} (hn : 13 ≤ n) {t d : Nat} {D : DM} {root at_ side c : Int} {wv : AV} {sz : Nat} (H : HS g h (DrC d D :: TrC t d root wv :: R)) (G : GoodD D sz 5) (hb : 0 ≤ at_ ∧ at_ ≤ 2147483648) (hc : 0 ≤ c ∧ c ≤ 2147483648) :
    wp (callT tab rtab n (.fn 43 [] []) [.ptr t 0, .int .i64 at_, .int .i64 side, .int .i64 c] h) fun _ h' => ∃ (D' : DM), (∀ k : Act α, EqR (runA (hangA at_ side c k) D) (runA k D')) ∧ Aft D D' sz ∧ HS g h' (DrC d D' :: TrC t d root wv :: R) := by
  (refine ww_fn (g := W43) rfl (by omega) fun k hk => ?_; show wp (S43 (callT tab rtab k) _ _ _ _ _) _; unfold S43; try simp only [Int.ofNat_eq_natCast])
  by_cases h1 : side = 1
  · refine ww_eqlT h1 (ww_condT ?_)
    with_reducible (refine ww_nil ?_; refine ww_field0 ?_; refine ww_ldH (by assumption) (.there .here) (by with_unfolding_all exact rfl) ?_; refine ww_addI (by omega) ?_)
    rw [show at_ + ((3 : Nat) : Int) = at_ + 3 from rfl]
    refine ww_call (dpoint_ok (by omega) (by omega) H G.g.ok) ?_
    intro _ h2 H2
    exact ww_ret ⟨_, fun k => by unfold hangA; rw [if_pos h1]; exact run_take, ⟨G.take (wd1 (by omega)), stp_take⟩, H2⟩
  refine ww_eqlF h1 (ww_condF ?_)
  with_reducible (refine ww_joinS ?_; (try dsimp only); refine ww_nil ?_; refine ww_field0 ?_; refine ww_ldH (by assumption) (.there .here) (by with_unfolding_all exact rfl) ?_; refine ww_addI (by omega) ?_; refine ww_convIU (by omega) ?_)
  refine ww_shl1 (by omega) ?_
  with_reducible (refine ww_nil ?_; refine ww_field0 ?_; refine ww_ldH (by assumption) (.there .here) (by with_unfolding_all exact rfl) ?_; refine ww_addI (by omega) ?_)
  rw [show at_ + ((2 : Nat) : Int) = at_ + 2 from rfl]
  refine ww_call (dread_ok (by omega) H G.g.ok) ?_
  rintro _ h2 ⟨rfl, H2⟩
  have G2 := G.read (p := at_ + 2)
  refine ww_and1 (by omega) (ww_or1 (by omega) (by omega) ?_)
  refine ww_call (dwrite_ok (by omega) H2 G2.1.g.ok) ?_
  intro _ h3 H3
  refine ww_chkH H (b := t) (.there .here) rfl H2 (.there .here) rfl (HS.lt H (.there .here)) ?_
  exact ww_ret ⟨_, fun k => by unfold hangA; rw [if_neg h1]; exact run_read.trans run_take, ⟨G2.1.take (wd1 (by omega)), stp_take.trans stp_read⟩, H3⟩

theorem ww_neB {a b : Bool} {K : AV → Go.Ae.R} {Q : AV → AH → Prop} (w : wp (K (.bool (!decide (a = b)))) Q) : wp (pEq .bool true (.bool a) (.bool b) K) Q := by
  cases a <;> cases b <;> exact w
theorem paint_ok {n : Nat} (hn : 13 ≤ n) {t d : Nat} {D : DM} {root at_ : Int} {red : Bool} {wv : AV} {sz : Nat} (H : HS g h (DrC d D :: TrC t d root wv :: R)) (G : GoodD D sz 5) (hb : 0 ≤ at_ ∧ at_ ≤ 2147483648) :
    wp (callT tab rtab n (.fn 46 [] []) [.ptr t 0, .int .i64 at_, .bool red] h) fun _ h' => ∃ (D' : DM), (∀ k : Act α, EqR (runA (paintA at_ red k) D) (runA k D')) ∧ Aft D D' sz ∧ HS g h' (DrC d D' :: TrC t d root wv :: R) := by
  (refine ww_fn (g := W46) rfl (by omega) fun k hk => ?_; show wp (S46 (callT tab rtab k) _ _ _ _) _; unfold S46; try simp only [Int.ofNat_eq_natCast])
  by_cases h0 : at_ = 0
  · refine ww_eqlT h0 (ww_condT ?_)
    with_reducible (refine ww_nil ?_; refine ww_field0 ?_; refine ww_ldH (by assumption) (.there .here) (by with_unfolding_all exact rfl) ?_)
    refine ww_call (dfail_ok (by omega) H) ?_
    intro _ h1 H1
    exact ww_ret ⟨_, fun k => by unfold paintA; rw [if_pos h0]; exact run_fail (by omega), ⟨G.fail, stp_fail⟩, H1⟩
  refine ww_eqlF h0 (ww_condF ?_)
  with_reducible (refine ww_nil ?_; refine ww_field0 ?_; refine ww_ldH (by assumption) (.there .here) (by with_unfolding_all exact rfl) ?_; refine ww_addI (by omega) ?_)
  rw [show at_ + ((2 : Nat) : Int) = at_ + 2 from rfl]
  refine ww_call (dread_ok (by omega) H G.g.ok) ?_
  rintro _ h2 ⟨rfl, H2⟩
  have G2 := G.read (p := at_ + 2)
  refine ww_and1 (by omega) (ww_eql (ww_neB ?_))
  by_cases h1 : decide ((readD D (at_ + 2)).1 % 2 = 1) = red
  · rw [show decide ((readD D (at_ + 2)).1 % 2 = ((1 : Nat) : Int)) = red from h1, decide_eq_true rfl]
    refine ww_condF (ww_ret ⟨_, fun k => ?_, ⟨G2.1, stp_read⟩, H2⟩)
    unfold paintA
    rw [if_neg h0]
    refine run_read.trans ?_
    rw [if_pos h1]
    exact EqR.refl _
  · rw [decide_eq_false (show ¬ decide ((readD D (at_ + 2)).1 % 2 = ((1 : Nat) : Int)) = red from h1)]
    refine ww_condT ?_
    with_reducible (refine ww_nil ?_; refine ww_field0 ?_; refine ww_ldH (by assumption) (.there .here) (by with_unfolding_all exact rfl) ?_; refine ww_addI (by omega) ?_)
    rw [show at_ + ((2 : Nat) : Int) = at_ + 2 from rfl]
    refine ww_xor1 (by omega) ?_
    refine ww_call (dwrite_ok (by omega) H2 G2.1.g.ok) ?_
    intro _ h3 H3
    refine ww_ret ⟨_, fun k => ?_, ⟨G2.1.take (wd1 (flip_b (by omega))), stp_take.trans stp_read⟩, H3⟩
    unfold paintA
    rw [if_neg h0]
    refine run_read.trans ?_
    rw [if_neg h1]
    exact run_take

theorem top_ok {n : Nat} (hn : 13 ≤ n) {t d : Nat} {D : DM} {root : Int} {wv : AV} {sz : Nat} (H : HS g h (DrC d D :: TrC t d root wv :: R)) (G : GoodD D sz 5) :
    wp (callT tab rtab n (.fn 24 [] []) [.ptr t 0] h) fun r h' => ∃ (v : Int) (D' : DM), r = .int .i64 v ∧ (∀ k : Int → Act α, EqR (runA (placeA root k) D) (runA (k v) D')) ∧ Aft D D' sz ∧ ((0 ≤ v ∧ v < 2147483648) ∧ (D'.err ≠ 0 → v = 0) ∧ (D.err ≠ 0 → D'.err ≠ 0)) ∧ HS g h' (DrC d D' :: TrC t d root wv :: R) := by
  (refine ww_fn (g := W24) rfl (by omega) fun k hk => ?_; show wp (S24 (callT tab rtab k) _ _) _; unfold S24; try simp only [Int.ofNat_eq_natCast])
  with_reducible (refine ww_nil ?_; refine ww_field0 ?_; refine ww_ldH (by assumption) (.there .here) (by with_unfolding_all exact rfl) ?_; refine ww_nil ?_; refine ww_field0 ?_; refine ww_ldH (by assumption) (.there .here) (by with_unfolding_all exact rfl) ?_)
  refine ww_call (dplace_ok (by omega) H G) ?_
  rintro _ h2 ⟨rfl, H2⟩
  exact ww_ret ⟨_, _, rfl, fun k => run_place, ⟨G.place.1, stp_place⟩, ⟨G.place.2, place_err, place_st⟩, H2⟩

theorem turn_ok {n : Nat} (hn : 14 ≤ n) {t d : Nat} {D : DM} {root at_ side : Int} {wv : AV} {sz : Nat} (H : HS g h (DrC d D :: TrC t d root wv :: R)) (G : GoodD D sz 5) (hb : 0 ≤ at_ ∧ at_ ≤ 2147483648) (hs : 0 ≤ side ∧ side ≤ 1) :
    wp (callT tab rtab n (.fn 61 [] []) [.ptr t 0, .int .i64 at_, .int .i64 side] h) fun r h' => ∃ (v : Int) (D' : DM), r = .int .i64 v ∧ (∀ k : Int → Act α, EqR (runA (turnA at_ side k) D) (runA (k v) D')) ∧ Aft D D' sz ∧ (0 ≤ v ∧ v < 2147483648) ∧ HS g h' (DrC d D' :: TrC t d root wv :: R) := by
  (refine ww_fn (g := W61) rfl (by omega) fun k hk => ?_; show wp (S61 (callT tab rtab k) _ _ _ _) _; unfold S61; try simp only [Int.ofNat_eq_natCast])
  refine ww_subI (by omega) ?_
  rw [show ((1 : Nat) : Int) - side = 1 - side from rfl]
  refine ww_call (child_ok (α := α) (by omega) H G hb) ?_
  rintro _ h1 ⟨up, D1, rfl, E1, A1, b1, H1⟩
  refine ww_subI (by omega) ?_
  rw [show ((1 : Nat) : Int) - side = 1 - side from rfl]
  refine ww_call (child_ok (α := α) (by omega) H1 A1.good (by omega)) ?_
  rintro _ h2 ⟨c, D2, rfl, E2, A2, b2, H2⟩
  refine ww_call (hang_ok (α := α) (by omega) H2 A2.good hb (by omega)) ?_
  rintro _ h3 ⟨D3, E3, A3, H3⟩
  refine ww_call (hang_ok (α := α) (by omega) H3 A3.good (by omega) hb) ?_
  rintro _ h4 ⟨D4, E4, A4, H4⟩
  exact ww_ret ⟨up, D4, rfl, fun k => (E1 _).trans ((E2 _).trans ((E3 _).trans (E4 _))), ⟨A4.good, A4.stp.trans (A3.stp.trans (A2.stp.trans A1.stp))⟩, b1.1, H4⟩

/-! ### the way down -/
def encS (s : StpT) : List AV := [.int .i64 s.1, .int .i64 s.2]
def OkW (way : List StpT) : Prop := ∀ s ∈ way, (0 ≤ s.1 ∧ s.1 ≤ 2147483648) ∧ (0 ≤ s.2 ∧ s.2 ≤ 1)
abbrev WayC (wv : AV) (way : List StpT) : SP := SliC 76 2 way.length wv (way.flatMap encS)
theorem OkW.nil : OkW [] := fun s hs => by cases hs
theorem OkW.add {way : List StpT} {s : StpT} (O : OkW way) (h1 : 0 ≤ s.1 ∧ s.1 ≤ 2147483648) (h2 : 0 ≤ s.2 ∧ s.2 ≤ 1) : OkW (way ++ [s]) := by
  intro x hx
  rcases List.mem_append.1 hx with hx | hx
  · exact O x hx
  · rw [List.mem_singleton.1 hx]; exact ⟨h1, h2⟩
theorem OkW.nth {way : List StpT} {n : Nat} (O : OkW way) (hn : n < way.length) : (0 ≤ (wayN way n).1 ∧ (wayN way n).1 ≤ 2147483648) ∧ (0 ≤ (wayN way n).2 ∧ (wayN way n).2 ≤ 1) := by
  unfold wayN
  rw [List.getElem?_eq_getElem hn]
  exact O _ (List.getElem_mem hn)
theorem way_cell {way : List StpT} {n f : Nat} (hn : n < way.length) (hf : f < 2) : (way.flatMap encS)[n * 2 + f]? = (encS (wayN way n))[f]? := by
  rw [flat_get (sz := 2) encS (fun _ => rfl) _ _ _ hf]
  unfold wayN
  rw [List.getElem?_eq_getElem hn]; rfl
theorem way_row {way : List StpT} {n : Nat} (hn : n < way.length) : ((way.flatMap encS).drop (n * 2)).take 2 = encS (wayN way n) := by
  unfold wayN
  exact enc_row (sz := 2) (fun _ => rfl) (by rw [List.getElem?_eq_getElem hn]; rfl)

theorem link_ok {n : Nat} (hn : 14 ≤ n) {t d m : Nat} {D : DM} {root a : Int} {wv : AV} {way : List StpT} {sz : Nat} (H : HS g h (DrC d D :: TrC t d root wv :: WayC wv way :: R)) (G : GoodD D sz 5) (O : OkW way) (hm : m ≤ way.length) (hl : way.length ≤ 1000000) (ha : 0 ≤ a ∧ a ≤ 2147483648) :
    wp (callT tab rtab n (.fn 20 [] []) [.ptr t 0, .int .i64 (m : Int), .int .i64 a] h) fun _ h' => ∃ (D' : DM), (∀ k : Act α, EqR (runA (linkA root way m a k) D) (runA k D')) ∧ Aft D D' sz ∧ HS g h' (DrC d D' :: TrC t d root wv :: WayC wv way :: R) := by
  (refine ww_fn (g := W20) rfl (by omega) fun k hk => ?_; show wp (S20 (callT tab rtab k) _ _ _ _) _; unfold S20; try simp only [Int.ofNat_eq_natCast])
  cases m with
  | zero =>
    with_reducible (refine ww_eqlT (by omega) ?_; refine ww_condT ?_; refine ww_nil ?_; refine ww_field0 ?_; refine ww_ldH (by assumption) (.there .here) (by with_unfolding_all exact rfl) ?_; refine ww_nil ?_; refine ww_field0 ?_; refine ww_ldH (by assumption) (.there .here) (by with_unfolding_all exact rfl) ?_)
    refine ww_call (dpoint_ok (by omega) (by omega) H G.g.ok) ?_
    intro _ h2 H2
    exact ww_ret ⟨_, fun k => run_take, ⟨G.take (wd1 (by omega)), stp_take⟩, H2⟩
  | succ m =>
    with_reducible (refine ww_eqlF (by omega) ?_; refine ww_condF ?_; refine ww_nil ?_; refine ww_field0 ?_; refine ww_ldH (by assumption) (.there .here) (by with_unfolding_all exact rfl) ?_; refine ww_subI (by omega) ?_)
    rw [show ((m + 1 : Nat) : Int) - ((1 : Nat) : Int) = (m : Int) by omega]
    refine ww_idxF (H.sl (.there (.there .here))) (by omega) (show m < way.length by omega) (way_cell (by omega) (by omega)) ?_
    with_reducible (refine ww_nil ?_; refine ww_field0 ?_; refine ww_ldH (by assumption) (.there .here) (by with_unfolding_all exact rfl) ?_; refine ww_subI (by omega) ?_)
    rw [show ((m + 1 : Nat) : Int) - ((1 : Nat) : Int) = (m : Int) by omega]
    refine ww_idxF (H.sl (.there (.there .here))) (by omega) (show m < way.length by omega) (way_cell (by omega) (by omega)) ?_
    have hw := O.nth (n := m) (by omega)
    refine ww_call (hang_ok (α := α) (by omega) H G hw.1 ha) ?_
    rintro _ h3 ⟨D3, E3, A3, H3⟩
    exact ww_ret ⟨D3, fun k => E3 k, A3, H3⟩
end Go.Proofs.Ytpohfcljfemhlaa.arenaParts
