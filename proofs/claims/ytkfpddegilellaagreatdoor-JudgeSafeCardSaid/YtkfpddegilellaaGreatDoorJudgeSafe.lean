/- 'JudgeSafe' comes to true for every argument: its own walk. -/
import Derived.Test.YtkfpddegilellaaGreatDoorJudgeA
import Derived.Test.YtkfpddegilellaaGreatDoorKeepWords
namespace Go.Proofs.YtkfpddegilellaaGreatDoor.judgeSafe
open Go Go.Ae
set_option maxRecDepth 100000

variable {g h : AH} {L R : List SP}

theorem ww_beqT {a b neg t : Bool} {K : AV → Go.Ae.R} {Q : AV → AH → Prop} (ht : ((a == b) != neg) = t) (w : wp (K (.bool t)) Q) : wp (pEq .bool neg (.bool a) (.bool b) K) Q := by
  subst ht; exact w
theorem allOne_set {xs : List AV} {i : Nat} {v : AV} (h : allOne xs = true) (hv : One v) : allOne (xs.set i v) = true := by
  unfold allOne at *
  rw [List.all_eq_true] at *
  intro x hx
  rcases List.mem_or_eq_of_mem_set hx with h1 | rfl
  · exact h x h1
  · exact hv.2
theorem opl_setK {xs : List AV} {kd at_ z : Int} (o : OpL xs kd at_) : OpL (xs.set 0 (.int .i64 z)) z at_ :=
  ⟨by rw [List.length_set]; exact o.len, allOne_set o.one ⟨rfl, rfl⟩, by rw [List.getElem?_set_self (by rw [o.len]; omega)], by rw [List.getElem?_set_ne (by omega)]; exact o.a⟩
theorem opl_setA {xs : List AV} {kd at_ z : Int} (o : OpL xs kd at_) : OpL (xs.set 1 (.int .i64 z)) kd z :=
  ⟨by rw [List.length_set]; exact o.len, allOne_set o.one ⟨rfl, rfl⟩, by rw [List.getElem?_set_ne (by omega)]; exact o.k, by rw [List.getElem?_set_self (by rw [o.len]; omega)]⟩

theorem law {k : Nat} (hk : 20 ≤ k) {x kd at_ word turn v : Int} {a1 : AV} {bs : List Int} {xs : List AV} (S1 : Sl (fun b => b < h.nx) h 1 bs.length a1 (bs.map (.int .u8))) (hb : ∀ z ∈ bs, 0 ≤ z ∧ z ≤ 255)
    (o : OpL xs kd at_) (ow : xs[3]? = some (.int .u64 word)) (hw : 0 ≤ word) (ht : 0 ≤ turn ∧ turn ≤ 255) (hv : 0 ≤ v ∧ v ≤ 255) :
    wp (W4 (withRun 3 (callT tab rtab k)) [.int .i64 x, a1, .agg xs, .int .u8 turn, .int .u8 v] h) fun v _ => v = .bool true := by
  show wp (S4 (withRun _ (callT tab rtab _)) _ _ _ _ _ _) _
  unfold S4
  try simp only [Int.ofNat_eq_natCast]
  refine ww_boxA (HS.nil h) o.one fun b h1 H => ?_
  refine ww_run ?_
  with_reducible (refine ww_notT ?_; refine ww_condF ?_)
  refine ww_callZ (by decide) (kwords_ok (by omega) H (Rd.arg S1) hb) ?_
  rintro wv h2 ⟨zs, hz, hz1, hz2, hsh, hro, H⟩
  have hz : ∀ z ∈ zs, 0 ≤ z ∧ z < 18446744073709551616 := hz
  have S2 := H.nils (e := 24) (sz := 1) |>.sl (.there .here)
  refine ww_appH H.nils S2 (by omega) (by omega) (by unfold allOne; rw [List.all_eq_true]; intro v hv; obtain ⟨z, _, rfl⟩ := List.mem_map.1 hv; rfl) fun xv h3 H3 => ?_
  rw [Nat.zero_add, List.nil_append] at H3
  clear S2 H
  have hr1 := Int.tmod_nonneg (zs.length : Int) ht.1
  have hr2 := Int.tmod_lt_of_pos turn (show 0 < (zs.length : Int) by omega)
  obtain ⟨i, hi⟩ : ∃ i : Nat, turn.tmod (zs.length : Int) = (i : Int) := ⟨_, (Int.toNat_of_nonneg hr1).symm⟩
  have hv1 := Int.tmod_nonneg ((40 : Nat) : Int) hv.1
  have hv2 := Int.tmod_lt_of_pos v (show 0 < ((40 : Nat) : Int) by omega)
  refine ww_convII (by omega) (ww_lenH H3 .here (ww_rem (by omega) (ww_rem (by omega) (ww_convIU (by omega) ?_))))
  rw [hi] at hr2 ⊢
  generalize v.tmod ((40 : Nat) : Int) = y at *
  refine ww_slI (i := i) H3 (by omega) ⟨rfl, rfl⟩ fun h4 H4 => ?_
  rw [← List.map_set] at H4
  have hz2' : ∀ z ∈ zs.set i y, 0 ≤ z ∧ z < 18446744073709551616 := OkN.set hz (by omega)
  have hl2 : (zs.set i y).length = zs.length := List.length_set
  generalize zs.set i y = us at *
  clear H3
  refine ww_field0 (ww_ldH H4 (.there (.there .here)) o.k ?_)
  refine ww_callZ (by decide) (within_ok (by omega) (by omega) (by omega) (by omega)) ?_
  rintro _ h5 ⟨rfl, e5⟩
  rw [e5]
  clear e5
  refine ww_field0 (ww_st1H H4 (.there (.there .here)) ⟨rfl, rfl⟩ (by rw [o.len]; omega) fun h6 H6 => ?_)
  have o := opl_setK o (z := withinZ kd ((0 : Nat) : Int) ((4 : Nat) : Int))
  have ow : (xs.set 0 (.int .i64 (withinZ kd ((0 : Nat) : Int) ((4 : Nat) : Int))))[3]? = some (.int .u64 word) := by rw [List.getElem?_set_ne (by omega)]; exact ow
  generalize withinZ kd ((0 : Nat) : Int) ((4 : Nat) : Int) = kd at *
  generalize xs.set 0 (.int .i64 kd) = xs at *
  clear H4
  refine ww_joinD [] (fun s h' => ∃ (at_ : Int) (xs : List AV), s = (xv, wv, .ptr b 0, ()) ∧ OpL xs kd at_ ∧ HS h h' [ObjC b xs, SliC 24 1 zs.length xv (us.map (.int .u64)), SliC 24 1 zs.length wv (zs.map (.int .u64))]) ?_ ?_
  · intro j hj
    refine ww_field0 (ww_ldH H6 .here ow (ww_rem (by omega) (ww_gtr (ww_cond (fun _ => ?_) fun _ => hj _ _ ⟨_, _, rfl, o, H6.sub (.refl)⟩))))
    refine ww_field0 (ww_ldH H6 .here o.a (ww_lenH H6 (.there (.there .here)) ?_))
    refine ww_callZ (by decide) (within_ok (by omega) (by omega) (by omega) (by omega)) ?_
    rintro _ h7 ⟨rfl, e7⟩
    rw [e7]
    refine ww_field0 (ww_st1H H6 .here ⟨rfl, rfl⟩ (by rw [o.len]; omega) fun h8 H8 => hj _ _ ⟨_, _, rfl, opl_setA o, H8.sub (.refl)⟩)
  clear o H6 ow
  rintro s h7 ⟨at_, xs, rfl, o, H⟩
  dsimp only
  have hx : (xs.drop 0).take 10 = xs := by rw [List.drop_zero, List.take_of_length_le (by rw [o.len]; omega)]
  refine ww_join (fun s _ => s = (.bool true, ())) ?_ ?_
  · intro j hj
    refine ww_ldNH H .here o.len (by omega) hx ?_
    refine ww_callZ (by decide) (asafe_ok (by omega) H (Rd.own (.there (.there .here))) hz o) ?_
    rintro _ h8 ⟨rfl, H8⟩
    refine ww_ldNH H8 .here o.len (by omega) hx ?_
    refine ww_callZ (by decide) (rsafe_ok (by omega) H8 (Rd.own (.there (.there .here))) hz o) ?_
    rintro _ h9 ⟨rfl, H9⟩
    refine ww_beqT (t := true) (by simp) (ww_wantTT ?_)
    refine ww_ldNH H9 .here o.len (by omega) hx ?_
    refine ww_callZ (by decide) (asafe_ok (by omega) H9 (by rw [hl2]; exact Rd.own (.there .here)) hz2' o) ?_
    rintro _ h10 ⟨rfl, H10⟩
    refine ww_ldNH H10 .here o.len (by omega) hx ?_
    refine ww_callZ (by decide) (rsafe_ok (by omega) H10 (by rw [hl2]; exact Rd.own (.there .here)) hz2' o) ?_
    rintro _ h11 ⟨rfl, H11⟩
    refine ww_beqT (t := true) (by simp) (ww_pickT ?_)
    refine ww_chkNH H9 .here hx H10 .here hx o.len (by omega) (H.lt .here) ?_
    refine ww_chkNH H .here hx H8 .here hx o.len (by omega) (H.lt .here) ?_
    exact hj _ _ rfl
  rintro s h8 rfl
  exact ww_leave (ww_ret rfl)

theorem told {h : AH} {l : List AV} (H : WTs Tryz.prog h 8 Tryz.f4.params.toList l) : wp (W4 (withRun 3 (callT tab rtab 60)) l h) fun v _ => v = .bool true := by
  have e : Tryz.f4.params.toList = [3, 53, 51, 5, 5] := by kernel_rfl
  rw [e] at H
  obtain ⟨a0, a1, a2, a3, a4, rfl, H0, H1, H2, H3, H4⟩ := WTs5 H
  simp only [WTV, Tryz.underlying3, Tryz.underlying4, Tryz.underlying5, Tryz.underlying24, Tryz.underlying49, Tryz.underlying51, Tryz.underlying53] at H0 H1 H2 H3 H4
  obtain ⟨bs, S1, b1⟩ := WT_ints Tryz.underlying53 Tryz.underlying5 (by kernel_rfl) H1
  unfold WT at H0 H3 H4
  simp only [Tryz.underlying3, Tryz.underlying4, Tryz.underlying5, Tryz.underlying24, Tryz.underlying49, Tryz.underlying51, Tryz.underlying53] at H0 H3 H4
  obtain ⟨x, hx, _⟩ := H0
  obtain ⟨t, ht, ht2⟩ := H3
  obtain ⟨v, hv, hv2⟩ := H4
  cases hx; cases ht; cases hv
  obtain ⟨xs, rfl, H2⟩ := H2
  unfold WT at H2
  simp only [Tryz.underlying51] at H2
  obtain ⟨g1, g2⟩ := H2
  rw [show Tryz.prog.cellsOf 51 = 10 by kernel_rfl] at g1
  match xs, g1 with
  | [x0, x1, x2, x3, x4, x5, x6, x7, x8, x9], _ =>
    have f0 := g2 _ (List.mem_cons_self ..)
    have f1 := g2 _ (List.mem_cons_of_mem _ (List.mem_cons_self ..))
    have f2 := g2 _ (List.mem_cons_of_mem _ (List.mem_cons_of_mem _ (List.mem_cons_self ..)))
    have f3 := g2 _ (List.mem_cons_of_mem _ (List.mem_cons_of_mem _ (List.mem_cons_of_mem _ (List.mem_cons_self ..))))
    have f4 := g2 _ (List.mem_cons_of_mem _ (List.mem_cons_of_mem _ (List.mem_cons_of_mem _ (List.mem_cons_of_mem _ (List.mem_cons_self ..)))))
    have f5 := g2 _ (List.mem_cons_of_mem _ (List.mem_cons_of_mem _ (List.mem_cons_of_mem _ (List.mem_cons_of_mem _ (List.mem_cons_of_mem _ (List.mem_cons_self ..))))))
    rw [show Tryz.prog.cellsOf 3 = 1 by kernel_rfl] at f0 f1
    rw [show Tryz.prog.cellsOf 24 = 1 by kernel_rfl] at f2 f3
    rw [show Tryz.prog.cellsOf 49 = 3 by kernel_rfl] at f4 f5
    simp only [List.drop_succ_cons, List.drop_zero, List.take_succ_cons, List.take_zero] at f0 f1 f2 f3 f4 f5
    unfold WT at f0 f1 f2 f3 f4 f5
    simp only [Tryz.underlying3] at f0 f1
    simp only [Tryz.underlying24] at f2 f3
    simp only [Tryz.underlying49] at f4 f5
    obtain ⟨y0, e0, _⟩ := f0
    obtain ⟨y1, e1, _⟩ := f1
    obtain ⟨y2, e2, _⟩ := f2
    obtain ⟨y3, e3, e3', _⟩ := f3
    cases e0; cases e1; cases e2; cases e3
    obtain ⟨_, q⟩ := f4
    have q0 := q _ (List.mem_cons_self ..)
    have q1 := q _ (List.mem_cons_of_mem _ (List.mem_cons_self ..))
    have q2 := q _ (List.mem_cons_of_mem _ (List.mem_cons_of_mem _ (List.mem_cons_self ..)))
    rw [show Tryz.prog.cellsOf 24 = 1 by kernel_rfl] at q0
    rw [show Tryz.prog.cellsOf 4 = 1 by kernel_rfl] at q1
    rw [show Tryz.prog.cellsOf 3 = 1 by kernel_rfl] at q2
    simp only [List.drop_succ_cons, List.drop_zero, List.take_succ_cons, List.take_zero] at q0 q1 q2
    unfold WT at q0 q1 q2
    simp only [Tryz.underlying24] at q0
    simp only [Tryz.underlying4] at q1
    simp only [Tryz.underlying3] at q2
    obtain ⟨_, r0, _⟩ := q0
    obtain ⟨_, r1⟩ := q1
    obtain ⟨_, r2, _⟩ := q2
    cases r0; cases r1; cases r2
    clear q
    obtain ⟨_, q⟩ := f5
    have q0 := q _ (List.mem_cons_self ..)
    have q1 := q _ (List.mem_cons_of_mem _ (List.mem_cons_self ..))
    have q2 := q _ (List.mem_cons_of_mem _ (List.mem_cons_of_mem _ (List.mem_cons_self ..)))
    rw [show Tryz.prog.cellsOf 24 = 1 by kernel_rfl] at q0
    rw [show Tryz.prog.cellsOf 4 = 1 by kernel_rfl] at q1
    rw [show Tryz.prog.cellsOf 3 = 1 by kernel_rfl] at q2
    simp only [List.drop_succ_cons, List.drop_zero, List.take_succ_cons, List.take_zero] at q0 q1 q2
    unfold WT at q0 q1 q2
    simp only [Tryz.underlying24] at q0
    simp only [Tryz.underlying4] at q1
    simp only [Tryz.underlying3] at q2
    obtain ⟨_, r0, _⟩ := q0
    obtain ⟨_, r1⟩ := q1
    obtain ⟨_, r2, _⟩ := q2
    cases r0; cases r1; cases r2
    clear q
    exact law (by omega) S1 b1 ⟨rfl, rfl, rfl, rfl⟩ rfl e3' ht2 hv2
end Go.Proofs.YtkfpddegilellaaGreatDoor.judgeSafe
