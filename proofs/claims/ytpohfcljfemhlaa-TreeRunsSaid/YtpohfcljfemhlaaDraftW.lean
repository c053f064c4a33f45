/- A draft's own calls: the walks. -/
import Derived.Test.YtpohfcljfemhlaaDraftM
namespace Go.Proofs.Ytpohfcljfemhlaa
open Go Go.Ae
set_option maxRecDepth 100000

variable {g h : AH} {L R : List SP}

/-- a draft in the heap -/
def DrC (d : Nat) (D : DM) : SP := .ex fun q : Nat => .all [ObjC d [.ptr q 0, .int .i64 D.err, .int .i64 D.stp], ViewC q D.M]
theorem DrC.E {d : Nat} {D : DM} (H : HS g h (DrC d D :: R)) : ∃ q, HS g h (ObjC d [.ptr q 0, .int .i64 D.err, .int .i64 D.stp] :: ViewC q D.M :: R) := by
  obtain ⟨q, H⟩ := H.exE
  exact ⟨q, H.allE⟩
theorem DrC.I {d q : Nat} {D : DM} (H : HS g h (ObjC d [.ptr q 0, .int .i64 D.err, .int .i64 D.stp] :: ViewC q D.M :: R)) : HS g h (DrC d D :: R) := HS.exI q (HS.allI H)
theorem DrC.eqv {d : Nat} {D E : DM} (H : HS g h (DrC d D :: R)) (e : D = E) : HS g h (DrC d E :: R) := e ▸ H

theorem takeL_single {most : Nat} {lv : List LvM} {c : Cl} : takeL most lv lv [c] = putL most lv c.1 c.2 := by
  rw [takeL_cons]
  split
  · rename_i h
    show (0, _) = _
    rw [← h]
  · rename_i h
    cases lv with
    | nil => exact absurd rfl h
    | cons x r =>
      unfold putL at h ⊢
      dsimp only at h ⊢
      repeat' split at h
      all_goals first | exact absurd rfl h | skip
      · rename_i h1
        rw [if_pos h1]
      · rename_i h1 h2
        rw [if_neg h1, if_pos h2]
theorem vwrite_ok {n : Nat} (hn : 6 ≤ n) {v : Nat} {M : VM} {p x : Int} (H : HS g h (ViewC v M :: R)) (O : OkV M) :
    wp (callT tab rtab n (.fn 41 [] []) [.ptr v 0, .int .i64 p, .int .u64 x] h) fun r h' => r = .int .i64 (takeV M [(p, x)]).1 ∧ HS g h' (ViewC v (takeV M [(p, x)]).2 :: R) := by
  (refine ww_fn (g := W41) rfl (by omega) fun k hk => ?_; show wp (S41 (callT tab rtab k) _ _ _ _) _; unfold S41; try simp only [Int.ofNat_eq_natCast])
  refine ww_call (vis_ok (by omega) H) ?_
  rintro _ h1 ⟨rfl, rfl⟩
  unfold takeV
  by_cases hp : 1 ≤ p ∧ p < M.sz
  · rw [decide_eq_true hp, if_pos (by intro c hc; rw [List.mem_singleton] at hc; subst hc; exact hp)]
    obtain ⟨fv, ov, q, e, H⟩ := ViewC.E H
    with_reducible (refine ww_notT ?_; refine ww_condF ?_; refine ww_nil ?_; refine ww_field0 ?_; refine ww_ldH (by assumption) .here (by with_unfolding_all exact rfl) ?_)
    refine ww_call (lput_ok (by omega) (H.sel (.there (.there (.there .here)))) O.lvs) ?_
    rintro _ h2 ⟨rfl, H2⟩
    rw [takeL_single]
    exact ww_ret ⟨rfl, ViewC.I (M := { M with lv := (putL M.most M.lv p x).2 }) (H2.sub (.cons (.there .here) (.cons (.there .here) (.cons (.there .here) (.cons .here .refl)))))⟩
  · rw [decide_eq_false hp, if_neg (fun h => hp (h (p, x) (List.mem_singleton.2 rfl)))]
    with_reducible (refine ww_notF ?_; refine ww_condT ?_)
    exact ww_ret ⟨rfl, H⟩

theorem dok_ok {n : Nat} (hn : 1 ≤ n) {d : Nat} {D : DM} (H : HS g h (DrC d D :: R)) : wp (callT tab rtab n (.fn 16 [] []) [.ptr d 0] h) fun r h' => r = .bool (decide (D.err = 0)) ∧ h' = h := by
  (refine ww_fn (g := W16) rfl (by omega) fun k hk => ?_; show wp (S16 (callT tab rtab k) _ _) _; unfold S16; try simp only [Int.ofNat_eq_natCast])
  obtain ⟨q, H⟩ := DrC.E H
  with_reducible (refine ww_nil ?_; refine ww_field0 ?_; refine ww_ldH (by assumption) .here (by with_unfolding_all exact rfl) ?_)
  exact ww_eql (ww_ret ⟨rfl, rfl⟩)
theorem dfail_ok {n : Nat} (hn : 2 ≤ n) {d : Nat} {D : DM} {e : Int} (H : HS g h (DrC d D :: R)) : wp (callT tab rtab n (.fn 40 [] []) [.ptr d 0, .int .i64 e] h) fun r h' => HS g h' (DrC d (failD D e) :: R) := by
  (refine ww_fn (g := W40) rfl (by omega) fun k hk => ?_; show wp (S40 (callT tab rtab k) _ _ _) _; unfold S40; try simp only [Int.ofNat_eq_natCast])
  refine ww_call (dok_ok (by omega) H) ?_
  rintro _ h1 ⟨rfl, rfl⟩
  unfold failD
  by_cases h0 : D.err = 0
  · rw [decide_eq_true h0, if_pos h0]
    obtain ⟨q, H⟩ := DrC.E H
    with_reducible (refine ww_condT ?_; refine ww_nil ?_; refine ww_field0 ?_)
    refine ww_st1H H (b := d) .here ⟨rfl, rfl⟩ (by simp) fun h2 H2 => ?_
    exact ww_ret (DrC.I (D := { D with err := e }) H2)
  · rw [decide_eq_false h0, if_neg h0]
    with_reducible (refine ww_condF ?_)
    exact ww_ret H
theorem dread_ok {n : Nat} (hn : 10 ≤ n) {d : Nat} {D : DM} {p : Int} (H : HS g h (DrC d D :: R)) (O : OkV D.M) : wp (callT tab rtab n (.fn 28 [] []) [.ptr d 0, .int .i64 p] h) fun r h' => r = .int .u64 (readD D p).1 ∧ HS g h' (DrC d (readD D p).2 :: R) := by
  (refine ww_fn (g := W28) rfl (by omega) fun k hk => ?_; show wp (S28 (callT tab rtab k) _ _ _) _; unfold S28; try simp only [Int.ofNat_eq_natCast])
  refine ww_call (dok_ok (by omega) H) ?_
  rintro _ h1 ⟨rfl, rfl⟩
  unfold readD
  by_cases h0 : D.err = 0
  · rw [decide_eq_true h0, if_pos h0]
    obtain ⟨q, H⟩ := DrC.E H
    with_reducible (refine ww_notT ?_; refine ww_condF ?_; refine ww_nil ?_; refine ww_field0 ?_; refine ww_ldH (by assumption) .here (by with_unfolding_all exact rfl) ?_)
    refine ww_call (vread_ok (by omega) (H.sel (.there .here)) O) ?_
    rintro _ h2 ⟨rfl, H2⟩
    with_reducible (refine ww_extract (by with_unfolding_all exact rfl) ?_; refine ww_extract (by with_unfolding_all exact rfl) ?_)
    refine ww_call (dfail_ok (by omega) (DrC.I (D := { D with M := (readV D.M p).2 }) (H2.sub (.cons (.there .here) (.cons .here .refl))))) ?_
    intro _ h3 H3
    unfold failD at H3
    rw [if_pos (show ({ D with M := (readV D.M p).2 } : DM).err = 0 from h0)] at H3
    exact ww_ret ⟨rfl, H3⟩
  · rw [decide_eq_false h0, if_neg h0]
    with_reducible (refine ww_notF ?_; refine ww_condT ?_)
    exact ww_ret ⟨rfl, H⟩
theorem dname_ok {n : Nat} (hn : 3 ≤ n) {d : Nat} {D : DM} {w : Int} (hw : 0 ≤ w) (H : HS g h (DrC d D :: R)) : wp (callT tab rtab n (.fn 55 [] []) [.ptr d 0, .int .u64 w] h) fun r h' => r = .int .i64 (nameD D w).1 ∧ HS g h' (DrC d (nameD D w).2 :: R) := by
  (refine ww_fn (g := W55) rfl (by omega) fun k hk => ?_; show wp (S55 (callT tab rtab k) _ _ _) _; unfold S55; try simp only [Int.ofNat_eq_natCast])
  unfold nameD
  by_cases h0 : 2147483648 ≤ w
  · rw [if_pos h0]
    with_reducible (refine ww_geqT (by omega) ?_; refine ww_condT ?_)
    refine ww_call (dfail_ok (by omega) H) ?_
    intro _ h1 H1
    exact ww_ret ⟨rfl, H1⟩
  · rw [if_neg h0]
    with_reducible (refine ww_geqF (by omega) ?_; refine ww_condF ?_; refine ww_convII (by omega) ?_)
    exact ww_ret ⟨rfl, H⟩

/-- a draft that is in order -/
structure GoodD (D : DM) (sz : Nat) (f : Nat) : Prop where
  g : GoodV D.M
  sz : D.M.sz = sz
  fr : frS D.M.lv ≤ f
  st : 0 ≤ D.stp ∧ D.stp ≤ 1000000
theorem GoodD.fail {D : DM} {sz f : Nat} {e : Int} (G : GoodD D sz f) : GoodD (failD D e) sz f := by
  unfold failD
  split
  · exact ⟨G.g, G.sz, G.fr, G.st⟩
  · exact G
theorem GoodD.read {D : DM} {sz f : Nat} {p : Int} (G : GoodD D sz f) : GoodD (readD D p).2 sz f ∧ 0 ≤ (readD D p).1 ∧ (readD D p).1 < 18446744073709551616 := by
  unfold readD
  split
  · exact ⟨⟨G.g.read, readV_sz.trans G.sz, by show frS (readV D.M p).2.lv ≤ f; rw [frS_read]; exact G.fr, G.st⟩, G.g.wd.read⟩
  · exact ⟨G, by show (0 : Int) ≤ 0 ∧ (0 : Int) < 18446744073709551616; omega⟩
theorem GoodD.place {D : DM} {sz f : Nat} {p : Int} (G : GoodD D sz f) : GoodD (placeD D p).2 sz f ∧ 0 ≤ (placeD D p).1 ∧ (placeD D p).1 < 2147483648 := by
  have h := G.read (p := p)
  unfold placeD nameD
  split
  · exact ⟨h.1.fail, by show (0 : Int) ≤ 0 ∧ (0 : Int) < 2147483648; omega⟩
  · exact ⟨h.1, by dsimp only; omega⟩
theorem takeV_sz {M : VM} {cs : List Cl} : (takeV M cs).2.sz = M.sz := by unfold takeV; split <;> rfl
theorem GoodD.take {D : DM} {sz f : Nat} {cs : List Cl} (G : GoodD D sz f) (hc : WdC cs) : GoodD (takeD D cs) sz f := by
  unfold takeD
  split
  · exact ⟨G.g.take hc, takeV_sz.trans G.sz, by show frS (takeV D.M cs).2.lv ≤ f; rw [frS_take]; exact G.fr, G.st⟩
  · exact G
theorem alloc_sz {M : VM} {n : Int} : (allocV M n).2.sz = M.sz := by
  unfold allocV grownV againV
  repeat' split
  all_goals simp only [takeV_sz, readV_sz]
theorem free_sz {M : VM} {b : Int} : (freeA M b).2.sz = M.sz := by
  unfold freeA askV
  repeat' split
  all_goals first | rfl | simp only [freeV, takeV_sz, readV_sz]
theorem alloc_b {M : VM} {n : Int} (W : WdV M) : 0 ≤ (allocV M n).1.1 ∧ (allocV M n).1.1 ≤ 2147483648 := by
  unfold allocV
  split
  · dsimp only; omega
  have h1 := W.read (p := classA n)
  have h2 := W.read2 (p := classA n)
  generalize readV M (classA n) = q at *
  obtain ⟨⟨w, e1⟩, M1⟩ := q
  dsimp only at *
  split
  · split
    · unfold grownV
      have h5 := h2.read (p := 5)
      generalize readV M1 5 = q at *
      obtain ⟨⟨e5, e2⟩, M2⟩ := q
      dsimp only at *
      repeat' split
      all_goals dsimp only
      all_goals omega
    · unfold againV
      repeat' split
      all_goals dsimp only
      all_goals omega
  · dsimp only; omega
theorem GoodD.alloc {D : DM} {sz f : Nat} {n : Int} (G : GoodD D sz f) : GoodD (allocD D n).2 sz f ∧ 0 ≤ (allocD D n).1 ∧ (allocD D n).1 ≤ 2147483648 := by
  unfold allocD
  split
  · have h := G.g.alloc (x := n)
    exact ⟨⟨h.1, alloc_sz.trans G.sz, by show frS (allocV D.M n).2.lv ≤ f; rw [h.2]; exact G.fr, G.st⟩, alloc_b G.g.wd⟩
  · exact ⟨G, by dsimp only; omega⟩
theorem GoodD.free {D : DM} {sz f : Nat} {b : Int} (G : GoodD D sz f) (hf : f < 90000) : GoodD (freeD D b) sz (f + 1) := by
  unfold freeD
  split
  · have h := G.g.free (b := b) (by have := G.fr; omega)
    exact ⟨h.1, free_sz.trans G.sz, by show frS (freeA D.M b).2.lv ≤ f + 1; have := G.fr; have := h.2; omega, G.st⟩
  · exact ⟨G.g, G.sz, by have := G.fr; omega, G.st⟩
theorem GoodD.step {D : DM} {sz f : Nat} (G : GoodD D sz f) (hs : D.stp < 1000000) : GoodD (stepD D) sz f ∧ (stepD D).stp = D.stp + 1 := by
  have h := G.st
  unfold stepD failD
  repeat' split
  all_goals exact ⟨⟨G.g, G.sz, G.fr, by dsimp only; omega⟩, rfl⟩

theorem dplace_ok {n : Nat} (hn : 11 ≤ n) {d : Nat} {D : DM} {p : Int} {sz f : Nat} (H : HS g h (DrC d D :: R)) (G : GoodD D sz f) : wp (callT tab rtab n (.fn 47 [] []) [.ptr d 0, .int .i64 p] h) fun r h' => r = .int .i64 (placeD D p).1 ∧ HS g h' (DrC d (placeD D p).2 :: R) := by
  (refine ww_fn (g := W47) rfl (by omega) fun k hk => ?_; show wp (S47 (callT tab rtab k) _ _ _) _; unfold S47; try simp only [Int.ofNat_eq_natCast])
  refine ww_call (dread_ok (by omega) H G.g.ok) ?_
  rintro _ h1 ⟨rfl, H1⟩
  refine ww_call (dname_ok (by omega) (G.read (p := p)).2.1 H1) ?_
  rintro _ h2 ⟨rfl, H2⟩
  exact ww_ret ⟨rfl, H2⟩
theorem dwrite_ok {n : Nat} (hn : 10 ≤ n) {d : Nat} {D : DM} {p x : Int} (H : HS g h (DrC d D :: R)) (O : OkV D.M) : wp (callT tab rtab n (.fn 17 [] []) [.ptr d 0, .int .i64 p, .int .u64 x] h) fun r h' => HS g h' (DrC d (takeD D [(p, x)]) :: R) := by
  (refine ww_fn (g := W17) rfl (by omega) fun k hk => ?_; show wp (S17 (callT tab rtab k) _ _ _ _) _; unfold S17; try simp only [Int.ofNat_eq_natCast])
  refine ww_call (dok_ok (by omega) H) ?_
  rintro _ h1 ⟨rfl, rfl⟩
  unfold takeD
  by_cases h0 : D.err = 0
  · rw [decide_eq_true h0, if_pos h0]
    obtain ⟨q, H⟩ := DrC.E H
    with_reducible (refine ww_condT ?_; refine ww_nil ?_; refine ww_field0 ?_; refine ww_ldH (by assumption) .here (by with_unfolding_all exact rfl) ?_)
    refine ww_call (vwrite_ok (by omega) (H.sel (.there .here)) O) ?_
    rintro _ h2 ⟨rfl, H2⟩
    refine ww_call (dfail_ok (by omega) (DrC.I (D := { D with M := (takeV D.M [(p, x)]).2 }) (H2.sub (.cons (.there .here) (.cons .here .refl))))) ?_
    intro _ h3 H3
    unfold failD at H3
    rw [if_pos (show ({ D with M := (takeV D.M [(p, x)]).2 } : DM).err = 0 from h0)] at H3
    exact ww_ret H3
  · rw [decide_eq_false h0, if_neg h0]
    with_reducible (refine ww_condF ?_)
    exact ww_ret H
theorem dpoint_ok {n : Nat} (hn : 11 ≤ n) {d : Nat} {D : DM} {p x : Int} (hx : 0 ≤ x ∧ x < 9223372036854775808) (H : HS g h (DrC d D :: R)) (O : OkV D.M) : wp (callT tab rtab n (.fn 19 [] []) [.ptr d 0, .int .i64 p, .int .i64 x] h) fun r h' => HS g h' (DrC d (takeD D [(p, x)]) :: R) := by
  (refine ww_fn (g := W19) rfl (by omega) fun k hk => ?_; show wp (S19 (callT tab rtab k) _ _ _ _) _; unfold S19; try simp only [Int.ofNat_eq_natCast])
  refine ww_convIU (by omega) ?_
  refine ww_call (dwrite_ok (by omega) H O) ?_
  intro _ h1 H1
  exact ww_ret H1
theorem dalloc_ok {n : Nat} (hn : 12 ≤ n) {d : Nat} {D : DM} {x : Int} {sz f : Nat} (H : HS g h (DrC d D :: R)) (G : GoodD D sz f) : wp (callT tab rtab n (.fn 18 [] []) [.ptr d 0, .int .i64 x] h) fun r h' => r = .int .i64 (allocD D x).1 ∧ HS g h' (DrC d (allocD D x).2 :: R) := by
  (refine ww_fn (g := W18) rfl (by omega) fun k hk => ?_; show wp (S18 (callT tab rtab k) _ _ _) _; unfold S18; try simp only [Int.ofNat_eq_natCast])
  refine ww_call (dok_ok (by omega) H) ?_
  rintro _ h1 ⟨rfl, rfl⟩
  unfold allocD
  by_cases h0 : D.err = 0
  · rw [decide_eq_true h0, if_pos h0]
    obtain ⟨q, H⟩ := DrC.E H
    with_reducible (refine ww_notT ?_; refine ww_condF ?_; refine ww_nil ?_; refine ww_field0 ?_; refine ww_ldH (by assumption) .here (by with_unfolding_all exact rfl) ?_)
    refine ww_call (aalloc_ok (by omega) (H.sel (.there .here)) G.g.ok G.g.wd) ?_
    rintro _ h2 ⟨rfl, H2⟩
    with_reducible (refine ww_extract (by with_unfolding_all exact rfl) ?_; refine ww_extract (by with_unfolding_all exact rfl) ?_)
    refine ww_call (dfail_ok (by omega) (DrC.I (D := { D with M := (allocV D.M x).2 }) (H2.sub (.cons (.there .here) (.cons .here .refl))))) ?_
    intro _ h3 H3
    unfold failD at H3
    rw [if_pos (show ({ D with M := (allocV D.M x).2 } : DM).err = 0 from h0)] at H3
    exact ww_ret ⟨rfl, H3⟩
  · rw [decide_eq_false h0, if_neg h0]
    with_reducible (refine ww_notF ?_; refine ww_condT ?_)
    exact ww_ret ⟨rfl, H⟩
theorem dstep_ok {n : Nat} (hn : 3 ≤ n) {d : Nat} {D : DM} {sz f : Nat} (H : HS g h (DrC d D :: R)) (G : GoodD D sz f) : wp (callT tab rtab n (.fn 38 [] []) [.ptr d 0] h) fun r h' => r = .bool (decide ((stepD D).err = 0)) ∧ HS g h' (DrC d (stepD D) :: R) := by
  (refine ww_fn (g := W38) rfl (by omega) fun k hk => ?_; show wp (S38 (callT tab rtab k) _ _) _; unfold S38; try simp only [Int.ofNat_eq_natCast])
  have hs := G.st
  obtain ⟨q, H⟩ := DrC.E H
  with_reducible (refine ww_nil ?_; refine ww_field0 ?_; refine ww_ldH (by assumption) .here (by with_unfolding_all exact rfl) ?_; refine ww_addI (by omega) ?_; refine ww_nil ?_; refine ww_field0 ?_)
  refine ww_st1H H (b := d) .here ⟨rfl, rfl⟩ (by simp) fun h2 H2 => ?_
  have H2 := DrC.I (D := { D with stp := D.stp + 1 }) H2
  refine ww_joinD [] (fun s h' => s = (.ptr d 0, ()) ∧ HS g h' (DrC d (stepD D) :: R)) ?_ ?_
  · intro j hj
    have H3 := H2
    obtain ⟨q, H2⟩ := DrC.E H2
    by_cases hc : 2048 < D.stp + 1
    · have e : stepD D = failD { D with stp := D.stp + 1 } 2 := by unfold stepD; rw [if_pos hc]
      with_reducible (refine ww_nil ?_; refine ww_field0 ?_; refine ww_ldH (by assumption) .here (by with_unfolding_all exact rfl) ?_; refine ww_gtrT (by omega) ?_; refine ww_condT ?_)
      refine ww_call (dfail_ok (by omega) H3) ?_
      intro _ h4 H4
      exact hj _ _ ⟨rfl, by rw [e]; exact H4⟩
    · have e : stepD D = { D with stp := D.stp + 1 } := by unfold stepD; rw [if_neg hc]
      with_reducible (refine ww_nil ?_; refine ww_field0 ?_; refine ww_ldH (by assumption) .here (by with_unfolding_all exact rfl) ?_; refine ww_gtrF (by omega) ?_; refine ww_condF ?_)
      exact hj _ _ ⟨rfl, by rw [e]; exact H3⟩
  · rintro s h3 ⟨rfl, H3⟩
    dsimp only
    refine ww_call (dok_ok (by omega) H3) ?_
    rintro _ h4 ⟨rfl, rfl⟩
    exact ww_leave (ww_ret ⟨rfl, H3⟩)
end Go.Proofs.Ytpohfcljfemhlaa
