/- 'ModelApply' comes to true whatever its arguments: its own walk. -/
import Derived.Test.YtpcmjgfefjobdaaGreatDoorRefApply
import Derived.Test.YtpcmjgfefjobdaaGreatDoorBookWithin
import Derived.Test.YtpcmjgfefjobdaaGreatDoorBookSameU
namespace Go.Proofs.YtpcmjgfefjobdaaGreatDoor.modelApply
open Go Go.Ae
set_option maxRecDepth 100000

theorem law {D1 D2 : Nat → Prop} {n p q : Nat} (hn : 6 ≤ n) {a0 a1 : AV} {near : Bool} {zs : List Int} {cs : List (Int × Int)} {h : AH} (S0 : Sl D1 h 1 p a0 (zs.map (.int .u64))) (hs : shut a0 = true) (hr : roomy a0) (S1 : Sl D2 h 2 q a1 (cs.flatMap encC)) :
    wp (W3 (withRun 4 (callT tab rtab n)) [a0, a1, .bool near] h) fun v _ => v = .bool true := by
  have hzl : zs.length = p := by simpa using S0.len
  have hcl : cs.length = q := by
    have := S1.len
    rw [flat_len (sz := 2) encC (fun _ => rfl)] at this
    omega
  show wp (S3 (withRun _ (callT tab rtab _)) _ _ _ _) _
  unfold S3
  try simp only [Int.ofNat_eq_natCast]
  refine ww_run ?_
  repeat (first | with_reducible refine ww_condT ?_ | with_reducible refine ww_condF ?_ | (with_reducible refine ww_wantTT ?_; try dsimp only) | (with_reducible refine ww_wantTF ?_; try dsimp only) | (with_reducible refine ww_wantFT ?_; try dsimp only) | (with_reducible refine ww_wantFF ?_; try dsimp only) | (with_reducible refine ww_wantU ?_; try dsimp only) | with_reducible refine ww_pickT ?_ | with_reducible refine ww_pickF ?_ | (with_reducible refine ww_joinS ?_; try dsimp only) | with_reducible refine ww_leave ?_ | with_reducible refine ww_notT ?_ | with_reducible refine ww_notF ?_ | with_reducible refine ww_addI (by omega) ?_ | with_reducible refine ww_subI (by omega) ?_ | with_reducible refine ww_addU (by omega) ?_ | with_reducible refine ww_subU (by omega) ?_ | with_reducible refine ww_min ?_ | with_reducible refine ww_max ?_)
  refine ww_len S0 (ww_gtrC (fun h1 => ?_) fun h1 => ?_)
  · repeat (first | with_reducible refine ww_condT ?_ | with_reducible refine ww_condF ?_ | (with_reducible refine ww_wantTT ?_; try dsimp only) | (with_reducible refine ww_wantTF ?_; try dsimp only) | (with_reducible refine ww_wantFT ?_; try dsimp only) | (with_reducible refine ww_wantFF ?_; try dsimp only) | (with_reducible refine ww_wantU ?_; try dsimp only) | with_reducible refine ww_pickT ?_ | with_reducible refine ww_pickF ?_ | (with_reducible refine ww_joinS ?_; try dsimp only) | with_reducible refine ww_leave ?_ | with_reducible refine ww_notT ?_ | with_reducible refine ww_notF ?_ | with_reducible refine ww_addI (by omega) ?_ | with_reducible refine ww_subI (by omega) ?_ | with_reducible refine ww_addU (by omega) ?_ | with_reducible refine ww_subU (by omega) ?_ | with_reducible refine ww_min ?_ | with_reducible refine ww_max ?_)
    exact ww_ret rfl
  repeat (first | with_reducible refine ww_condT ?_ | with_reducible refine ww_condF ?_ | (with_reducible refine ww_wantTT ?_; try dsimp only) | (with_reducible refine ww_wantTF ?_; try dsimp only) | (with_reducible refine ww_wantFT ?_; try dsimp only) | (with_reducible refine ww_wantFF ?_; try dsimp only) | (with_reducible refine ww_wantU ?_; try dsimp only) | with_reducible refine ww_pickT ?_ | with_reducible refine ww_pickF ?_ | (with_reducible refine ww_joinS ?_; try dsimp only) | with_reducible refine ww_leave ?_ | with_reducible refine ww_notT ?_ | with_reducible refine ww_notF ?_ | with_reducible refine ww_addI (by omega) ?_ | with_reducible refine ww_subI (by omega) ?_ | with_reducible refine ww_addU (by omega) ?_ | with_reducible refine ww_subU (by omega) ?_ | with_reducible refine ww_min ?_ | with_reducible refine ww_max ?_)
  refine ww_len S1 (ww_gtrC (fun h2 => ?_) fun h2 => ?_)
  · repeat (first | with_reducible refine ww_condT ?_ | with_reducible refine ww_condF ?_ | (with_reducible refine ww_wantTT ?_; try dsimp only) | (with_reducible refine ww_wantTF ?_; try dsimp only) | (with_reducible refine ww_wantFT ?_; try dsimp only) | (with_reducible refine ww_wantFF ?_; try dsimp only) | (with_reducible refine ww_wantU ?_; try dsimp only) | with_reducible refine ww_pickT ?_ | with_reducible refine ww_pickF ?_ | (with_reducible refine ww_joinS ?_; try dsimp only) | with_reducible refine ww_leave ?_ | with_reducible refine ww_notT ?_ | with_reducible refine ww_notF ?_ | with_reducible refine ww_addI (by omega) ?_ | with_reducible refine ww_subI (by omega) ?_ | with_reducible refine ww_addU (by omega) ?_ | with_reducible refine ww_subU (by omega) ?_ | with_reducible refine ww_min ?_ | with_reducible refine ww_max ?_)
    exact ww_ret rfl
  repeat (first | with_reducible refine ww_condT ?_ | with_reducible refine ww_condF ?_ | (with_reducible refine ww_wantTT ?_; try dsimp only) | (with_reducible refine ww_wantTF ?_; try dsimp only) | (with_reducible refine ww_wantFT ?_; try dsimp only) | (with_reducible refine ww_wantFF ?_; try dsimp only) | (with_reducible refine ww_wantU ?_; try dsimp only) | with_reducible refine ww_pickT ?_ | with_reducible refine ww_pickF ?_ | (with_reducible refine ww_joinS ?_; try dsimp only) | with_reducible refine ww_leave ?_ | with_reducible refine ww_notT ?_ | with_reducible refine ww_notF ?_ | with_reducible refine ww_addI (by omega) ?_ | with_reducible refine ww_subI (by omega) ?_ | with_reducible refine ww_addU (by omega) ?_ | with_reducible refine ww_subU (by omega) ?_ | with_reducible refine ww_min ?_ | with_reducible refine ww_max ?_)
  refine ww_iter (fun m s g => ∃ (i : Nat) (l : AV) (cs' : List (Int × Int)), s = (.int .i64 (i : Nat), l, .bool near, a1, a0, ()) ∧ i ≤ q ∧ m = q - i ∧ cs'.length = i ∧ Acc (fun y => h.nx ≤ y) g 27 2 i l (cs'.flatMap encC) ∧ Old h.nx h g) ?_ (m := q)
    (by show q < 1000000000; omega) ⟨0, .nils, [], rfl, by omega, by omega, rfl, Acc.nils, Old.refl _ _⟩
  rintro m ih s g hih ⟨i, l, cs', rfl, h3, rfl, h4, C, O⟩
  dsimp only
  have S0g := S0.old O
  have S1g := S1.old O
  refine ww_len S1g (ww_lssC (fun hlt => ww_condT ?_) fun hge => ww_condF ?_)
  · have hi : i < q := by omega
    refine ww_idxN (l := encC cs[i]) S1g hi (by omega) ?_ ?_
    · rw [flat_drop (sz := 2) encC (fun _ => rfl), List.drop_eq_getElem_cons (by omega), List.flatMap_cons]; rfl
    refine ww_box rfl fun b2 h18 hb2 A2 F2 => ?_
    refine ww_store A2 rfl (by show 0 + 2 ≤ 2; omega) rfl fun h19 A3 F3 hx3 => ?_
    obtain ⟨e3, A3⟩ : ∃ e3, Row h19 b2 (encC cs[i]) e3 false := ⟨_, A3⟩
    have O19 : Old h.nx h h19 := (O.step F2 (fun _ hf => hf.elim)).step F3 (by rintro x rfl; exact Nat.le_trans O.nx hb2)
    have C19 : Acc (fun y => h.nx ≤ y ∧ y < g.nx) h19 27 2 i l (cs'.flatMap encC) := by
      obtain ⟨c1, c2 | ⟨b, rfl, c2, c3⟩⟩ := C
      · exact ⟨c1, .inl c2⟩
      · have hlt := c3.lt
        exact ⟨c1, .inr ⟨b, rfl, ⟨c2, hlt⟩, (c3.fr F2 (fun hf => hf)).fr F3 (fun hf : b = b2 => by omega)⟩⟩
    refine ww_joinD [] (fun s g' => s = (.ptr b2 0, .int .i64 (i : Nat), l, .bool near, a1, a0, ()) ∧ (∃ c, Row g' b2 (encC c) e3 false) ∧ Fr (fun y => y = b2) h19 g') ?_ ?_
    · intro j hj
      refine ww_condB (fun _ => ?_) fun _ => hj _ _ ⟨rfl, ⟨_, A3⟩, Fr.refl _ _⟩
      refine ww_fld A3 rfl ?_
      refine ww_callZ (by decide) (within_ok (by omega) (by omega) (by omega) (by omega)) ?_
      rintro v g' ⟨rfl, rfl⟩
      refine ww_setF A3 rfl rfl (by show 0 + 0 < 2; omega) fun h35 A4 F4 _ => hj _ _ ⟨rfl, ⟨(withinZ cs[i].1 (Int.negSucc 0) ((70 : Nat) : Int), cs[i].2), A4⟩, F4⟩
    · rintro s g' ⟨rfl, ⟨c, A4⟩, F4⟩
      dsimp only
      refine ww_loadN (l := encC c) rfl (by omega) (fun j _ => by rw [Nat.zero_add]; exact A4.at j) ?_
      refine ww_buildS rfl rfl fun b3 h26 hb3 A5 F5 => ?_
      have hb2lt := A3.lt
      have hnx : g.nx ≤ h19.nx := by have := F2.nx; omega
      have hnx2 := F4.nx
      have C26 := (C19.fr F4 (by rintro y ⟨_, hy⟩ rfl; omega)).fr F5 (fun _ _ hf => hf)
      refine ww_app C26 (Sl.of_row0 (D := fun _ => True) A5 trivial rfl) (by omega) (by omega) rfl fun l' h28 C28 F28 => ?_
      refine ww_addI (by omega) ?_
      refine hih (q - (i + 1)) _ _ (by omega) ⟨i + 1, l', cs' ++ [c], rfl, by omega, rfl, by simp [h4], ?_, ?_⟩
      · have := C28.mono (D' := fun y => h.nx ≤ y) (by rintro y (⟨hy, _⟩ | hy); exact hy; have := F5.nx; have := O.nx; omega)
        rw [List.flatMap_append]; exact this
      · exact ((O19.step F4 (by rintro x rfl; exact Nat.le_trans O.nx hb2)).step F5 (fun _ hf => hf.elim)).step F28 (fun y hy => hy.1)
  · refine ww_callZ (by decide) (mapply_ok (by omega) S0g hs hr C.sl (by omega) (by omega)) ?_
    rintro v g1 ⟨b1, e1, rfl, hb1, A1, O1⟩
    have O01 : Old h.nx h g1 := O.step O1 (fun y hy => Nat.le_trans O.nx hy)
    refine ww_callZ (by decide) (refapply_ok (by omega) (S0.old O01) (C.sl.old O1) (by omega) (by omega)) ?_
    rintro v g2 ⟨b2, e2, rfl, hb2, A2, O2⟩
    have hl : ∀ cs : List (Int × Int), (applyM zs cs).length = sizeM p := fun cs => by unfold applyM; rw [foldM_len, baseM_len, hzl]
    have hN := sizeM_bounds p
    refine ww_callZ (by decide) (sameU_ok (by omega) (Sl.of_row0 (D := fun _ => True) (A1.old O2 A1.lt) trivial (by simp [hl])) (Sl.of_row0 (D := fun _ => True) A2 trivial (by simp [hl])) (by omega)) ?_
    rintro v g3 ⟨rfl, rfl⟩
    exact ww_leave (ww_ret (by simp))

theorem told {h : AH} {l : List AV} (H : WTs Tryz.prog h 8 Tryz.f3.params.toList l) : wp (W3 (withRun 4 (callT tab rtab 60)) l h) fun v _ => v = .bool true := by
  have e : Tryz.f3.params.toList = [22, 23, 4] := by kernel_rfl
  rw [e] at H
  obtain ⟨a0, a1, a2, rfl, H0, H1, H2⟩ := WTs3 H
  simp only [WTV, Tryz.underlying3, Tryz.underlying4, Tryz.underlying22, Tryz.underlying23, Tryz.underlying25, Tryz.underlying27] at H0 H1 H2
  obtain ⟨zs, S0, _⟩ := WT_ints Tryz.underlying22 Tryz.underlying25 (by kernel_rfl) H0
  obtain ⟨hs, hr⟩ := WT_shut Tryz.underlying22 (by rw [show Tryz.prog.cellsOf 25 = 1 by kernel_rfl]; omega) H0
  obtain ⟨q, xs, S1, _, H1⟩ := WT_slice (sz := 2) Tryz.underlying23 (by kernel_rfl) (by omega) H1
  obtain ⟨cs, g1, _, rfl⟩ := rows_enc (α := Int × Int) (Pr := fun _ => True) encC S1.len (fun i hi => by
    have := H1 i hi
    generalize (xs.drop (i * 2)).take 2 = row at this
    unfold WT at this
    simp only [Tryz.underlying27] at this
    obtain ⟨g1, g2⟩ := this
    rw [show Tryz.prog.cellsOf 27 = 2 by kernel_rfl] at g1
    match row, g1 with
    | [x, y], _ =>
      have f1 := g2 _ (List.mem_cons_self ..)
      have f2 := g2 _ (List.mem_cons_of_mem _ (List.mem_cons_self ..))
      rw [show Tryz.prog.cellsOf 3 = 1 by kernel_rfl] at f1
      rw [show Tryz.prog.cellsOf 25 = 1 by kernel_rfl] at f2
      unfold WT at f1 f2
      simp only [Tryz.underlying3, List.drop_zero, List.take_succ_cons, List.take_zero] at f1
      simp only [Tryz.underlying25, List.drop_succ_cons, List.drop_zero, List.take_succ_cons, List.take_zero] at f2
      obtain ⟨a, ha, _⟩ := f1
      obtain ⟨b, hb, _⟩ := f2
      cases ha; cases hb
      exact ⟨(a, b), trivial, rfl⟩)
  unfold WT at H2
  simp only [Tryz.underlying3, Tryz.underlying4, Tryz.underlying22, Tryz.underlying23, Tryz.underlying25, Tryz.underlying27] at H2
  obtain ⟨b, hb⟩ := H2
  cases hb
  exact law (by omega) S0 hs hr S1

end Go.Proofs.YtpcmjgfefjobdaaGreatDoor.modelApply
