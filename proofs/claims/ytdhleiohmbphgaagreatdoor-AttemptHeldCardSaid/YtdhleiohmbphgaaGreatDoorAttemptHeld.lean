/- 'AttemptHeld' comes to true for every setup: its own walk. -/
import Derived.Test.YtdhleiohmbphgaaGreatDoorAe7
import Derived.Test.YtdhleiohmbphgaaGreatDoorT
import Derived.KernelRfl
namespace Go.Proofs.YtdhleiohmbphgaaGreatDoor.attemptHeld
open Go Go.Ae
set_option maxRecDepth 100000

def shapeM (w st wi th u : Int) : List AV := [.int .i64 (max 32 (min w 256)), .int .i64 (max 1 (min st 16)), .int .i64 (max 1 (min wi 16)), .int .i64 (max 1 (min th 4)), .int .u64 (min u 4611686018427387903)]
def setupM (w st wi th u sp wr fu : Int) : List AV := shapeM w st wi th u ++ [.int .i64 (max 0 (min sp 4)), .int .i64 (max 0 (min wr 96)), .int .i64 (max 0 (min fu 400))]

theorem held_ok {n : Nat} (hn : 1 ≤ n) {x lo hi : Int} {h : AH} (hl : lo ≤ hi) : wp (callT tab rtab n (.fn 36 [] []) [.int .i64 x, .int .i64 lo, .int .i64 hi] h) fun v h' => v = .int .i64 (max lo (min x hi)) ∧ h' = h := by
  refine ww_fn (g := W36) rfl (by omega) fun k hk => ?_
  show wp (S36 (callT tab rtab k) _ _ _ _) _
  unfold S36
  try simp only [Int.ofNat_eq_natCast]
  repeat' (first | with_reducible refine ww_condT ?_ | with_reducible refine ww_condF ?_ | (with_reducible refine ww_wantTT ?_; try dsimp only) | (with_reducible refine ww_wantTF ?_; try dsimp only) | (with_reducible refine ww_wantFT ?_; try dsimp only) | (with_reducible refine ww_wantFF ?_; try dsimp only) | (with_reducible refine ww_wantU ?_; try dsimp only) | with_reducible refine ww_pickT ?_ | with_reducible refine ww_pickF ?_ | (with_reducible refine ww_joinS ?_; try dsimp only) | with_reducible refine ww_leave ?_ | with_reducible refine ww_notT ?_ | with_reducible refine ww_notF ?_ | with_reducible refine ww_addI (by omega) ?_ | with_reducible refine ww_subI (by omega) ?_ | with_reducible refine ww_addU (by omega) ?_ | with_reducible refine ww_subU (by omega) ?_ | with_reducible refine ww_min ?_ | with_reducible refine ww_max ?_ | with_reducible refine ww_lssC (fun hc => ?_) (fun hc => ?_) | with_reducible refine ww_leqC (fun hc => ?_) (fun hc => ?_) | with_reducible refine ww_gtrC (fun hc => ?_) (fun hc => ?_) | with_reducible refine ww_geqC (fun hc => ?_) (fun hc => ?_) | with_reducible refine ww_eqlC (fun hc => ?_) (fun hc => ?_) | with_reducible refine ww_neqC (fun hc => ?_) (fun hc => ?_) | with_reducible refine ww_condB (fun hc => ?_) (fun hc => ?_))
  all_goals refine ww_ret ⟨?_, rfl⟩
  all_goals congr 1
  all_goals omega

theorem parts_ints (a : List AV) : ∀ l : List Nat, (∀ o ∈ l, ∃ k x, lget a o = some (.int k x)) → partsEq (l.map (.bas .int)) a a = some true := by
  intro l
  induction l with
  | nil => intro _; rfl
  | cons o r ih =>
    intro H
    obtain ⟨k, x, hx⟩ := H o (List.mem_cons_self ..)
    have := ih fun o' ho => H o' (List.mem_cons_of_mem _ ho)
    show ((lget a o).bind fun x => (lget a o).bind fun y => (basicEq .int x y).bind fun e => bif e then partsEq (r.map (.bas .int)) a a else some false) = some true
    rw [hx]
    simp only [Option.bind_some, basicEq, ieq_eq, beq_self_eq_true, cond_true, this]

theorem row_to {g : AH} {b : Nat} {l l' : List AV} {e : TypeId} (A : Row g b l e false) (h : l = l') : Row g b l' e false := h ▸ A

theorem mheld_ok {n : Nat} (hn : 1 ≤ n) {w st wi th u : Int} {h : AH} :
    wp (callT tab rtab n (.fn 19 [] []) [.agg [.int .i64 w, .int .i64 st, .int .i64 wi, .int .i64 th, .int .u64 u]] h) fun v h' => v = .agg (shapeM w st wi th u) ∧ Old h.nx h h' := by
  refine ww_fn (g := W19) rfl (by omega) fun k hk => ?_
  show wp (S19 (callT tab rtab k) _ _) _
  unfold S19
  try simp only [Int.ofNat_eq_natCast]
  refine ww_box rfl fun b0 h1 hb0 A0 F0 => ?_
  have l0 := A0.lt
  refine ww_box rfl fun b2 h3 hb2 A2 F2 => ?_
  have A0 := A0.fr F2 (fun hf => hf)
  refine ww_fld A0 rfl (ww_min (ww_max ?_))
  refine ww_fld A0 rfl (ww_min (ww_max ?_))
  refine ww_fld A0 rfl (ww_min (ww_max ?_))
  refine ww_fld A0 rfl (ww_min (ww_max ?_))
  refine ww_fld A0 rfl (ww_min ?_)
  refine ww_build rfl ?_
  refine ww_store A2 rfl (by show 0 + 5 ≤ 5; omega) rfl fun h24 A4 F4 _ => ?_
  refine ww_loadN (l := shapeM w st wi th u) rfl (by omega) (fun j _ => by rw [Nat.zero_add]; exact A4.at j) ?_
  refine ww_ret ⟨rfl, ?_⟩
  have := F0.nx
  exact (((Old.refl h.nx h).step F0 (fun _ hf => hf.elim)).step F2 (fun _ hf => hf.elim)).step F4 (by rintro x rfl; omega)

theorem shape_ok {n : Nat} (hn : 2 ≤ n) {w st wi th u : Int} {h : AH} :
    wp (callT tab rtab n (.fn 35 [] []) [.agg [.int .i64 w, .int .i64 st, .int .i64 wi, .int .i64 th, .int .u64 u]] h) fun v h' => v = .agg (shapeM w st wi th u) ∧ Old h.nx h h' := by
  refine ww_fn (g := W35) rfl (by omega) fun k hk => ?_
  show wp (S35 (callT tab rtab k) _ _) _
  unfold S35
  try simp only [Int.ofNat_eq_natCast]
  refine ww_box rfl fun b0 h1 hb0 A0 F0 => ?_
  have l0 := A0.lt
  refine ww_box rfl fun b2 h3 hb2 A2 F2 => ?_
  have A0 := A0.fr F2 (fun hf => hf)
  have hn0 := F0.nx
  have hlt0 := A0.lt
  have O0 := ((Old.refl h.nx h).step F0 (fun _ hf => hf.elim)).step F2 (fun _ hf => hf.elim)
  refine ww_fld A0 rfl (ww_call (held_ok (by omega) (by omega)) ?_)
  rintro v g ⟨rfl, rfl⟩
  refine ww_setF A0 rfl rfl (by show 0 + 0 < 5; omega) fun h9 A0 F9 _ => ?_
  refine ww_fld A0 rfl (ww_call (held_ok (by omega) (by omega)) ?_)
  rintro v g ⟨rfl, rfl⟩
  refine ww_setF A0 rfl rfl (by show 0 + 1 < 5; omega) fun h15 A0 F15 _ => ?_
  refine ww_fld A0 rfl (ww_call (held_ok (by omega) (by omega)) ?_)
  rintro v g ⟨rfl, rfl⟩
  refine ww_setF A0 rfl rfl (by show 0 + 2 < 5; omega) fun h21 A0 F21 _ => ?_
  refine ww_fld A0 rfl (ww_call (held_ok (by omega) (by omega)) ?_)
  rintro v g ⟨rfl, rfl⟩
  refine ww_setF A0 rfl rfl (by show 0 + 3 < 5; omega) fun h27 A0 F27 _ => ?_
  have hb2' : ¬ b2 = b0 := by omega
  have A2 := (((A2.fr F9 hb2').fr F15 hb2').fr F21 hb2').fr F27 hb2'
  have O27 : Old h.nx h h27 := (((O0.step F9 (by rintro x rfl; exact hb0)).step F15 (by rintro x rfl; exact hb0)).step F21 (by rintro x rfl; exact hb0)).step F27 (by rintro x rfl; exact hb0)
  refine ww_joinS ?_
  dsimp only
  refine ww_fld A0 rfl (ww_geqC (fun hc => ww_condT ?_) fun hc => ww_condF ?_)
  · refine ww_setF A0 rfl rfl (by show 0 + 4 < 5; omega) fun h40 A0 F40 _ => ?_
    have A5 := row_to (l' := shapeM w st wi th u) A0 (by unfold shapeM; rw [show min u 4611686018427387903 = 4611686018427387903 by omega]; rfl)
    refine ww_loadN (l := shapeM w st wi th u) rfl (by omega) (fun j _ => by rw [Nat.zero_add]; exact A5.at j) ?_
    refine ww_store (A2.fr F40 hb2') rfl (by show 0 + 5 ≤ 5; omega) rfl fun h33 A6 F33 _ => ?_
    refine ww_leave ?_
    refine ww_loadN (l := shapeM w st wi th u) rfl (by omega) (fun j _ => by rw [Nat.zero_add]; exact A6.at j) ?_
    exact ww_ret ⟨rfl, (O27.step F40 (by rintro x rfl; exact hb0)).step F33 (by rintro x rfl; omega)⟩
  · have A5 := row_to (l' := shapeM w st wi th u) A0 (by unfold shapeM; rw [show min u 4611686018427387903 = u by omega]; rfl)
    refine ww_loadN (l := shapeM w st wi th u) rfl (by omega) (fun j _ => by rw [Nat.zero_add]; exact A5.at j) ?_
    refine ww_store A2 rfl (by show 0 + 5 ≤ 5; omega) rfl fun h33 A6 F33 _ => ?_
    refine ww_leave ?_
    refine ww_loadN (l := shapeM w st wi th u) rfl (by omega) (fun j _ => by rw [Nat.zero_add]; exact A6.at j) ?_
    exact ww_ret ⟨rfl, O27.step F33 (by rintro x rfl; omega)⟩

theorem aheld_ok {n : Nat} (hn : 2 ≤ n) {w st wi th u sp wr fu : Int} {h : AH} :
    wp (callT tab rtab n (.fn 17 [] []) [.agg [.int .i64 w, .int .i64 st, .int .i64 wi, .int .i64 th, .int .u64 u, .int .i64 sp, .int .i64 wr, .int .i64 fu]] h) fun v h' => v = .agg (setupM w st wi th u sp wr fu) ∧ Old h.nx h h' := by
  refine ww_fn (g := W17) rfl (by omega) fun k hk => ?_
  show wp (S17 (callT tab rtab k) _ _) _
  unfold S17
  try simp only [Int.ofNat_eq_natCast]
  refine ww_box rfl fun b0 h1 hb0 A0 F0 => ?_
  have l0 := A0.lt
  refine ww_box rfl fun b2 h3 hb2 A2 F2 => ?_
  have A0 := A0.fr F2 (fun hf => hf)
  have hn0 := F0.nx
  have O0 := ((Old.refl h.nx h).step F0 (fun _ hf => hf.elim)).step F2 (fun _ hf => hf.elim)
  refine ww_joinS ?_
  dsimp only
  refine ww_fieldA (ww_loadN (l := [.int .i64 w, .int .i64 st, .int .i64 wi, .int .i64 th, .int .u64 u]) rfl (by omega) (fun j hj => by rw [A0.at]; rcases j with _ | _ | _ | _ | _ | j <;> first | rfl | omega) ?_)
  refine ww_call (mheld_ok (by omega)) ?_
  rintro v h11 ⟨rfl, O11⟩
  have A1 := A0.old O11 A0.lt
  have A2' := A2.old O11 A2.lt
  have hlt := A0.lt
  refine ww_fieldA (ww_load1 (x := .int .i64 sp) (A1.at _) (ww_min (ww_max ?_)))
  refine ww_fieldA (ww_load1 (x := .int .i64 wr) (A1.at _) (ww_min (ww_max ?_)))
  refine ww_fieldA (ww_load1 (x := .int .i64 fu) (A1.at _) (ww_min (ww_max ?_)))
  refine ww_build (l := setupM w st wi th u sp wr fu) rfl ?_
  refine ww_store A2' rfl (by show 0 + 8 ≤ 8; omega) rfl fun h25 A4 F4 _ => ?_
  refine ww_chk1 (A0.at _) (A1.at _) hlt ?_
  refine ww_chk1 (A0.at _) (A1.at _) hlt ?_
  refine ww_chk1 (A0.at _) (A1.at _) hlt ?_
  refine ww_loadN (l := setupM w st wi th u sp wr fu) rfl (by omega) (fun j _ => by rw [Nat.zero_add]; exact A4.at j) ?_
  refine ww_ret ⟨rfl, ?_⟩
  exact (O0.step O11 (fun y hy => Nat.le_trans O0.nx hy)).step F4 (by rintro x rfl; omega)

theorem rheld_ok {n : Nat} (hn : 3 ≤ n) {w st wi th u sp wr fu : Int} {h : AH} :
    wp (callT tab rtab n (.fn 18 [] []) [.agg [.int .i64 w, .int .i64 st, .int .i64 wi, .int .i64 th, .int .u64 u, .int .i64 sp, .int .i64 wr, .int .i64 fu]] h) fun v _ => v = .agg (setupM w st wi th u sp wr fu) := by
  refine ww_fn (g := W18) rfl (by omega) fun k hk => ?_
  show wp (S18 (callT tab rtab k) _ _) _
  unfold S18
  try simp only [Int.ofNat_eq_natCast]
  refine ww_box rfl fun b0 h1 hb0 A0 F0 => ?_
  have l0 := A0.lt
  refine ww_box rfl fun b2 h3 hb2 A2 F2 => ?_
  have A0 := A0.fr F2 (fun hf => hf)
  have hlt0 := A0.lt
  refine ww_fieldA (ww_loadN (l := [.int .i64 w, .int .i64 st, .int .i64 wi, .int .i64 th, .int .u64 u]) rfl (by omega) (fun j hj => by rw [A0.at]; rcases j with _ | _ | _ | _ | _ | j <;> first | rfl | omega) ?_)
  refine ww_call (shape_ok (by omega)) ?_
  rintro v h7 ⟨rfl, O7⟩
  have A0 := A0.old O7 A0.lt
  have A2 := A2.old O7 A2.lt
  refine ww_fieldA (ww_store A0 rfl (by show 0 + 0 + 5 ≤ 8; omega) rfl fun h9 A0 F9 _ => ?_)
  refine ww_fld A0 rfl (ww_call (held_ok (by omega) (by omega)) ?_)
  rintro v g ⟨rfl, rfl⟩
  refine ww_setF A0 rfl rfl (by show 0 + 5 < 8; omega) fun h15 A0 F15 _ => ?_
  refine ww_fld A0 rfl (ww_call (held_ok (by omega) (by omega)) ?_)
  rintro v g ⟨rfl, rfl⟩
  refine ww_setF A0 rfl rfl (by show 0 + 6 < 8; omega) fun h21 A0 F21 _ => ?_
  refine ww_fld A0 rfl (ww_call (held_ok (by omega) (by omega)) ?_)
  rintro v g ⟨rfl, rfl⟩
  refine ww_setF A0 rfl rfl (by show 0 + 7 < 8; omega) fun h27 A0 F27 _ => ?_
  have hb2' : ¬ b2 = b0 := by omega
  have A2 := (((A2.fr F9 hb2').fr F15 hb2').fr F21 hb2').fr F27 hb2'
  refine ww_loadN (l := setupM w st wi th u sp wr fu) rfl (by omega) (fun j _ => by rw [Nat.zero_add]; exact A0.at j) ?_
  refine ww_store A2 rfl (by show 0 + 8 ≤ 8; omega) rfl fun h33 A6 F33 _ => ?_
  refine ww_loadN (l := setupM w st wi th u sp wr fu) rfl (by omega) (fun j _ => by rw [Nat.zero_add]; exact A6.at j) ?_
  exact ww_ret rfl

theorem law {k : Nat} (hk : 4 ≤ k) {w st wi th u sp wr fu : Int} {h : AH} : wp (W4 (withRun 3 (callT tab rtab k)) [.agg [.int .i64 w, .int .i64 st, .int .i64 wi, .int .i64 th, .int .u64 u, .int .i64 sp, .int .i64 wr, .int .i64 fu]] h) fun v _ => v = .bool true := by
  show wp (S4 (withRun _ (callT tab rtab _)) _ _) _
  unfold S4
  try simp only [Int.ofNat_eq_natCast]
  refine ww_box rfl fun b0 h1 hb0 A0 F0 => ?_
  refine ww_run ?_
  repeat (first | with_reducible refine ww_condT ?_ | with_reducible refine ww_condF ?_ | (with_reducible refine ww_wantTT ?_; try dsimp only) | (with_reducible refine ww_wantTF ?_; try dsimp only) | (with_reducible refine ww_wantFT ?_; try dsimp only) | (with_reducible refine ww_wantFF ?_; try dsimp only) | (with_reducible refine ww_wantU ?_; try dsimp only) | with_reducible refine ww_pickT ?_ | with_reducible refine ww_pickF ?_ | (with_reducible refine ww_joinS ?_; try dsimp only) | with_reducible refine ww_leave ?_ | with_reducible refine ww_notT ?_ | with_reducible refine ww_notF ?_ | with_reducible refine ww_addI (by omega) ?_ | with_reducible refine ww_subI (by omega) ?_ | with_reducible refine ww_addU (by omega) ?_ | with_reducible refine ww_subU (by omega) ?_ | with_reducible refine ww_min ?_ | with_reducible refine ww_max ?_)
  have hlt := A0.lt
  refine ww_loadN (l := [.int .i64 w, .int .i64 st, .int .i64 wi, .int .i64 th, .int .u64 u, .int .i64 sp, .int .i64 wr, .int .i64 fu]) rfl (by omega) (fun j _ => by rw [Nat.zero_add]; exact A0.at j) ?_
  refine ww_callZ (by decide) (aheld_ok (by omega)) ?_
  rintro v h10 ⟨rfl, O10⟩
  have A1 := A0.old O10 A0.lt
  refine ww_loadN (l := [.int .i64 w, .int .i64 st, .int .i64 wi, .int .i64 th, .int .u64 u, .int .i64 sp, .int .i64 wr, .int .i64 fu]) rfl (by omega) (fun j _ => by rw [Nat.zero_add]; exact A1.at j) ?_
  refine ww_callZ (by decide) (rheld_ok (by omega)) ?_
  rintro v h13 rfl
  unfold pEqS
  have e : partsEq [.len 5, .bas .int 0, .bas .int 1, .bas .int 2, .bas .int 3, .bas .int 4, .bas .int 5, .bas .int 6, .bas .int 7] (setupM w st wi th u sp wr fu) (setupM w st wi th u sp wr fu) = some true := by
    refine Eq.trans (b := partsEq (([0, 1, 2, 3, 4, 5, 6, 7] : List Nat).map (.bas .int)) (setupM w st wi th u sp wr fu) (setupM w st wi th u sp wr fu)) rfl (parts_ints _ [0, 1, 2, 3, 4, 5, 6, 7] ?_)
    intro o ho
    simp only [List.mem_cons, List.not_mem_nil, or_false] at ho
    rcases ho with rfl | rfl | rfl | rfl | rfl | rfl | rfl | rfl <;> exact ⟨_, _, rfl⟩
  simp only [e, ob]
  refine ww_chkN rfl (by omega) (fun j _ => by rw [Nat.zero_add]; exact A0.at j) (fun j _ => by rw [Nat.zero_add]; exact A1.at j) hlt ?_
  exact ww_ret rfl

theorem told {h : AH} {l : List AV} (H : WTs Tryz.prog h 8 Tryz.f4.params.toList l) : wp (W4 (withRun 3 (callT tab rtab 60)) l h) fun v _ => v = .bool true := by
  have e : Tryz.f4.params.toList = [30] := by kernel_rfl
  rw [e] at H
  obtain ⟨a, rfl, H0⟩ := WTs1 H
  simp only [WTV, Tryz.underlying3, Tryz.underlying4, Tryz.underlying24, Tryz.underlying26, Tryz.underlying30] at H0
  obtain ⟨l, rfl, H0⟩ := H0
  unfold WT at H0
  simp only [Tryz.underlying30] at H0
  obtain ⟨g1, g2⟩ := H0
  rw [show Tryz.prog.cellsOf 30 = 8 by kernel_rfl] at g1
  match l, g1 with
  | [x0, x1, x2, x3, x4, x5, x6, x7], _ =>
    have f0 := g2 _ (List.mem_cons_self ..)
    have f1 := g2 _ (List.mem_cons_of_mem _ (List.mem_cons_self ..))
    have f2 := g2 _ (List.mem_cons_of_mem _ (List.mem_cons_of_mem _ (List.mem_cons_self ..)))
    have f3 := g2 _ (List.mem_cons_of_mem _ (List.mem_cons_of_mem _ (List.mem_cons_of_mem _ (List.mem_cons_self ..))))
    rw [show Tryz.prog.cellsOf 3 = 1 by kernel_rfl] at f1 f2 f3
    rw [show Tryz.prog.cellsOf 26 = 5 by kernel_rfl] at f0
    simp only [List.drop_succ_cons, List.drop_zero, List.take_succ_cons, List.take_zero] at f0 f1 f2 f3
    unfold WT at f0 f1 f2 f3
    simp only [Tryz.underlying3] at f1 f2 f3
    simp only [Tryz.underlying26] at f0
    obtain ⟨a5, h5, _⟩ := f1
    obtain ⟨a6, h6, _⟩ := f2
    obtain ⟨a7, h7, _⟩ := f3
    cases h5; cases h6; cases h7
    obtain ⟨_, g0⟩ := f0
    have k0 := g0 _ (List.mem_cons_self ..)
    have k1 := g0 _ (List.mem_cons_of_mem _ (List.mem_cons_self ..))
    have k2 := g0 _ (List.mem_cons_of_mem _ (List.mem_cons_of_mem _ (List.mem_cons_self ..)))
    have k3 := g0 _ (List.mem_cons_of_mem _ (List.mem_cons_of_mem _ (List.mem_cons_of_mem _ (List.mem_cons_self ..))))
    have k4 := g0 _ (List.mem_cons_of_mem _ (List.mem_cons_of_mem _ (List.mem_cons_of_mem _ (List.mem_cons_of_mem _ (List.mem_cons_self ..)))))
    rw [show Tryz.prog.cellsOf 3 = 1 by kernel_rfl] at k0 k1 k2 k3
    rw [show Tryz.prog.cellsOf 24 = 1 by kernel_rfl] at k4
    simp only [List.drop_succ_cons, List.drop_zero, List.take_succ_cons, List.take_zero] at k0 k1 k2 k3 k4
    unfold WT at k0 k1 k2 k3 k4
    simp only [Tryz.underlying3] at k0 k1 k2 k3
    simp only [Tryz.underlying24] at k4
    obtain ⟨a0, h0, _⟩ := k0
    obtain ⟨a1, h1, _⟩ := k1
    obtain ⟨a2, h2, _⟩ := k2
    obtain ⟨a3, h3, _⟩ := k3
    obtain ⟨a4, h4, _, h4'⟩ := k4
    cases h0; cases h1; cases h2; cases h3; cases h4
    exact law (by omega)
end Go.Proofs.YtdhleiohmbphgaaGreatDoor.attemptHeld
