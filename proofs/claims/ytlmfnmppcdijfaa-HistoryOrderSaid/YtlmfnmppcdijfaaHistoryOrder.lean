/- 'HistoryOrder' comes to true whatever its arguments: its own walk. -/
import Derived.Test.YtlmfnmppcdijfaaHistArgs
namespace Go.Proofs.Ytlmfnmppcdijfaa.historyOrder
open Go Go.Ae
set_option maxRecDepth 100000

def inM (N : Nat) (ys : List Nat) (i : Nat) : List AV := (List.range N).map fun x => .bool (decide (x ∈ ys.take i))
theorem inM_len (N : Nat) (ys : List Nat) (i : Nat) : (inM N ys i).length = N := by simp [inM]
theorem inM_get {N : Nat} {ys : List Nat} {i x : Nat} (hx : x < N) : (inM N ys i)[x]? = some (.bool (decide (x ∈ ys.take i))) := by
  simp only [inM, List.getElem?_map, List.getElem?_range hx, Option.map_some]
theorem inM_set {N : Nat} {ys : List Nat} {i : Nat} (hi : i < ys.length) : (inM N ys i).set ys[i] (.bool true) = inM N ys (i + 1) := by
  apply List.ext_getElem?
  intro x
  by_cases hx : x < N
  · rw [inM_get hx, List.getElem?_set, List.take_succ_eq_append_getElem hi]
    by_cases he : ys[i] = x
    · rw [if_pos he, if_pos (by rw [inM_len]; omega)]
      rw [decide_eq_true (by rw [List.mem_append]; exact .inr (by simp [he]))]
    · rw [if_neg he, inM_get hx]
      congr 2
      exact decide_eq_decide.2 ⟨fun h => List.mem_append.2 (.inl h), fun h => (List.mem_append.1 h).elim id fun h => (he (List.mem_singleton.1 h).symm).elim⟩
  · rw [List.getElem?_eq_none (by simp [inM]; omega), List.getElem?_eq_none (by simp [inM]; omega)]
theorem less_facts {a b : AttM} (h : lessB b a = false) : ¬ b.stamp < a.stamp ∧ (a.stamp = b.stamp → b.kind = 2 → 0 < b.nc → a.kind = 2 ∧ 0 < a.nc) := by
  unfold lessB at h
  by_cases h1 : b.stamp = a.stamp
  · rw [if_pos h1] at h
    refine ⟨by omega, fun _ hk hn => ?_⟩
    have hb : wrB b = true := by unfold wrB; simp [hk, hn]
    by_cases h2 : wrB b = wrB a
    · rw [hb] at h2
      have := h2.symm
      unfold wrB at this
      simpa using this
    · rw [if_neg h2, hb] at h; cases h
  · rw [if_neg h1] at h
    simp at h
    exact ⟨by omega, fun e => (h1 e.symm).elim⟩

set_option maxHeartbeats 2000000 in
theorem law {D0 : Nat → Prop} {n p : Nat} (hn : 10 ≤ n) {a0 : AV} {ds : List DrawM} {h : AH} (S0 : Sl D0 h 6 p a0 (ds.flatMap encD)) (hd : ∀ d ∈ ds, DrawOk h d) :
    wp (W4 (withRun 3 (callT tab rtab n)) [a0] h) fun v _ => v = .bool true := by
  show wp (S4 (withRun _ (callT tab rtab _)) _ _) _
  unfold S4
  try simp only [Int.ofNat_eq_natCast]
  refine ww_run ?_
  repeat (first | with_reducible refine ww_condT ?_ | with_reducible refine ww_condF ?_ | (with_reducible refine ww_wantTT ?_; try dsimp only) | (with_reducible refine ww_wantTF ?_; try dsimp only) | (with_reducible refine ww_wantFT ?_; try dsimp only) | (with_reducible refine ww_wantFF ?_; try dsimp only) | (with_reducible refine ww_wantU ?_; try dsimp only) | with_reducible refine ww_pickT ?_ | with_reducible refine ww_pickF ?_ | (with_reducible refine ww_joinS ?_; try dsimp only) | with_reducible refine ww_leave ?_ | with_reducible refine ww_notT ?_ | with_reducible refine ww_notF ?_ | with_reducible refine ww_addI (by omega) ?_ | with_reducible refine ww_subI (by omega) ?_ | with_reducible refine ww_addU (by omega) ?_ | with_reducible refine ww_subU (by omega) ?_ | with_reducible refine ww_min ?_ | with_reducible refine ww_max ?_)
  refine ww_callZ (by decide) (attempts_ok (by omega) S0 hd) ?_
  rintro l h4 ⟨al, h20, L, hnest, O4⟩
  have hok : ∀ a ∈ al, AttOk a := fun a ha => (hnest a ha).1
  refine ww_callZ (by decide) (order_ok (by omega) L.sl hok h20) ?_
  rintro o h6 ⟨ys, b, e, rfl, hb, p1, p2, A6, O6⟩
  have hyl : ys.length = al.length := by have := p1.length_eq; simpa using this
  have hmem : ∀ i (hi : i < ys.length), ys[i] < al.length := fun i hi => List.mem_range.1 (p1.mem_iff.1 (List.getElem_mem hi))
  have hnd : ys.Nodup := p1.nodup_iff.2 List.nodup_range
  have L6 : Sl (fun y => y < h4.nx) h6 14 al.length l (al.flatMap encA) := ((sl_lt L.sl).old O6).mono (fun y hy => hy.2)
  refine ww_lenS (ww_len L6 (ww_neqC (fun hne => absurd rfl hne) fun _ => ww_condF ?_))
  refine ww_len L6 (ww_make (Nat.le_refl _) (by omega) fun bi h12 hbi A12 F12 => ?_)
  rw [repl_one] at A12
  have lb := A6.lt
  have O12 : Old h6.nx h6 h12 := (Old.refl _ _).step F12 (fun _ hf => hf.elim)
  obtain ⟨ei, A0⟩ : ∃ ei, Row h12 bi (inM al.length ys 0) ei false := ⟨_, by
    have : inM al.length ys 0 = List.replicate al.length (.bool false) := by
      apply List.ext_getElem?
      intro x
      by_cases hx : x < al.length
      · rw [inM_get hx, List.getElem?_replicate, if_pos hx]; simp
      · rw [List.getElem?_eq_none (by simp [inM]; omega), List.getElem?_eq_none (by simp; omega)]
    rw [this]; exact A12⟩
  refine ww_iter (fun m s g => ∃ i : Nat, s = (I64 i, .slice bi 0 al.length al.length false, .slice b 0 al.length al.length false, l, ()) ∧ i ≤ al.length ∧ m = al.length - i ∧ Row g bi (inM al.length ys i) ei false ∧ Fr (fun y => y = bi ∨ h12.nx ≤ y) h12 g) ?_ (m := al.length) (by show al.length < 1000000000; omega)
    ⟨0, rfl, by omega, by omega, A0, Fr.refl _ _⟩
  rintro m ih s g hih ⟨i, rfl, h1, rfl, A, F⟩
  dsimp only
  have nx4 := O6.nx
  have nx12 := F12.nx
  have nxg := F.nx
  have lbi := A0.lt
  have Og : Old h6.nx h6 g := (O12.trans F).mono (by rintro y _ (hy | hy | hy) <;> omega)
  have Ab := A6.old Og lb
  have Lg := L6.fr ((Fr.refl (fun _ => False) h6).trans Og) (by rintro y hy (hf | hf); exact hf; omega)
  refine ww_lenS (ww_lssC (fun hc => ww_condT ?_) fun hc => ww_condF (ww_leave (ww_ret rfl)))
  have hi : i < al.length := by omega
  have hiy : i < ys.length := by omega
  obtain ⟨So, x1⟩ := row_get (i := i) Ab hyl hi
  have hx := hmem i hiy
  have next : ∀ g', Row g' bi (inM al.length ys (i + 1)) ei false → Fr (fun y => y = bi ∨ g.nx ≤ y) g g' → wp (ih (.int .i64 ((i : Int) + ((1 : Nat) : Int)), .slice bi 0 al.length al.length false, .slice b 0 al.length al.length false, l, ()) g' []) fun v _ => v = .bool true := fun g' A' F' =>
    hih (al.length - (i + 1)) _ _ (by omega) ⟨i + 1, rfl, by omega, rfl, A', (F.trans F').mono (by rintro y _ (hy | hy | hy) <;> omega)⟩
  refine ww_joinS ?_
  refine ww_idx1 So x1 (ww_lssC (fun hc0 => by omega) fun hc0 => ?_)
  repeat (first | with_reducible refine ww_condT ?_ | with_reducible refine ww_condF ?_ | (with_reducible refine ww_wantTT ?_; try dsimp only) | (with_reducible refine ww_wantTF ?_; try dsimp only) | (with_reducible refine ww_wantFT ?_; try dsimp only) | (with_reducible refine ww_wantFF ?_; try dsimp only) | (with_reducible refine ww_wantU ?_; try dsimp only) | with_reducible refine ww_pickT ?_ | with_reducible refine ww_pickF ?_ | (with_reducible refine ww_joinS ?_; try dsimp only) | with_reducible refine ww_leave ?_ | with_reducible refine ww_notT ?_ | with_reducible refine ww_notF ?_ | with_reducible refine ww_addI (by omega) ?_ | with_reducible refine ww_subI (by omega) ?_ | with_reducible refine ww_addU (by omega) ?_ | with_reducible refine ww_subU (by omega) ?_ | with_reducible refine ww_min ?_ | with_reducible refine ww_max ?_)
  refine ww_idx1 So x1 (ww_len Lg (ww_geqC (fun hc0 => by omega) fun hc0 => ?_))
  repeat (first | with_reducible refine ww_condT ?_ | with_reducible refine ww_condF ?_ | (with_reducible refine ww_wantTT ?_; try dsimp only) | (with_reducible refine ww_wantTF ?_; try dsimp only) | (with_reducible refine ww_wantFT ?_; try dsimp only) | (with_reducible refine ww_wantFF ?_; try dsimp only) | (with_reducible refine ww_wantU ?_; try dsimp only) | with_reducible refine ww_pickT ?_ | with_reducible refine ww_pickF ?_ | (with_reducible refine ww_joinS ?_; try dsimp only) | with_reducible refine ww_leave ?_ | with_reducible refine ww_notT ?_ | with_reducible refine ww_notF ?_ | with_reducible refine ww_addI (by omega) ?_ | with_reducible refine ww_subI (by omega) ?_ | with_reducible refine ww_addU (by omega) ?_ | with_reducible refine ww_subU (by omega) ?_ | with_reducible refine ww_min ?_ | with_reducible refine ww_max ?_)
  have Si : Sl (fun _ => True) g 1 al.length (.slice bi 0 al.length al.length false) (inM al.length ys i) := Sl.of_row0 A trivial (by rw [inM_len]; omega)
  have hnot : ¬ ys[i] ∈ ys.take i := by
    intro hm
    obtain ⟨j, hj, e⟩ := List.mem_take_iff_getElem.1 hm
    exact List.pairwise_iff_getElem.1 hnd j i (by omega) hiy (by omega) e
  refine ww_idx1 So x1 (ww_idx1 Si (inM_get hx) ?_)
  rw [decide_eq_false hnot]
  repeat (first | with_reducible refine ww_condT ?_ | with_reducible refine ww_condF ?_ | (with_reducible refine ww_wantTT ?_; try dsimp only) | (with_reducible refine ww_wantTF ?_; try dsimp only) | (with_reducible refine ww_wantFT ?_; try dsimp only) | (with_reducible refine ww_wantFF ?_; try dsimp only) | (with_reducible refine ww_wantU ?_; try dsimp only) | with_reducible refine ww_pickT ?_ | with_reducible refine ww_pickF ?_ | (with_reducible refine ww_joinS ?_; try dsimp only) | with_reducible refine ww_leave ?_ | with_reducible refine ww_notT ?_ | with_reducible refine ww_notF ?_ | with_reducible refine ww_addI (by omega) ?_ | with_reducible refine ww_subI (by omega) ?_ | with_reducible refine ww_addU (by omega) ?_ | with_reducible refine ww_subU (by omega) ?_ | with_reducible refine ww_min ?_ | with_reducible refine ww_max ?_)
  refine ww_idx1 So x1 (ww_setI A rfl rfl hx (by rw [inM_len]; omega) fun h39 A39 F39 _ => ?_)
  rw [Nat.zero_add, inM_set hiy] at A39
  refine ww_eqlC (fun h0 => ?_) fun h0 => ?_
  · repeat (first | with_reducible refine ww_condT ?_ | with_reducible refine ww_condF ?_ | (with_reducible refine ww_wantTT ?_; try dsimp only) | (with_reducible refine ww_wantTF ?_; try dsimp only) | (with_reducible refine ww_wantFT ?_; try dsimp only) | (with_reducible refine ww_wantFF ?_; try dsimp only) | (with_reducible refine ww_wantU ?_; try dsimp only) | with_reducible refine ww_pickT ?_ | with_reducible refine ww_pickF ?_ | (with_reducible refine ww_joinS ?_; try dsimp only) | with_reducible refine ww_leave ?_ | with_reducible refine ww_notT ?_ | with_reducible refine ww_notF ?_ | with_reducible refine ww_addI (by omega) ?_ | with_reducible refine ww_subI (by omega) ?_ | with_reducible refine ww_addU (by omega) ?_ | with_reducible refine ww_subU (by omega) ?_ | with_reducible refine ww_min ?_ | with_reducible refine ww_max ?_)
    exact next h39 A39 (F39.mono (fun y _ hy => .inl hy))
  · obtain ⟨j, rfl⟩ : ∃ j, i = j + 1 := ⟨i - 1, by have : i ≠ 0 := fun e => h0 (by rw [e]); omega⟩
    have hj : j < ys.length := by omega
    repeat (first | with_reducible refine ww_condT ?_ | with_reducible refine ww_condF ?_ | (with_reducible refine ww_wantTT ?_; try dsimp only) | (with_reducible refine ww_wantTF ?_; try dsimp only) | (with_reducible refine ww_wantFT ?_; try dsimp only) | (with_reducible refine ww_wantFF ?_; try dsimp only) | (with_reducible refine ww_wantU ?_; try dsimp only) | with_reducible refine ww_pickT ?_ | with_reducible refine ww_pickF ?_ | (with_reducible refine ww_joinS ?_; try dsimp only) | with_reducible refine ww_leave ?_ | with_reducible refine ww_notT ?_ | with_reducible refine ww_notF ?_ | with_reducible refine ww_addI (by omega) ?_ | with_reducible refine ww_subI (by omega) ?_ | with_reducible refine ww_addU (by omega) ?_ | with_reducible refine ww_subU (by omega) ?_ | with_reducible refine ww_min ?_ | with_reducible refine ww_max ?_)
    rw [show ((j + 1 : Nat) : Int) - ((1 : Nat) : Int) = ((j : Nat) : Int) by omega]
    have F39' : Fr (fun y => y = bi ∨ g.nx ≤ y) g h39 := F39.mono (fun y _ hy => .inl hy)
    have lbg := A.lt
    have Ab39 := Ab.fr F39 (by omega)
    have L39 := (sl_lt Lg).fr F39 (by rintro y ⟨hy, _⟩ rfl; omega)
    obtain ⟨So9, x0⟩ := row_get (i := j) Ab39 hyl (by omega)
    have hx0 := hmem j hj
    refine ww_idx1 So9 x0 (ww_idxN (l := encA al[ys[j]]) L39 hx0 (by omega) (sl_row al hx0) ?_)
    have hat1 : h39.at b (0 + (j + 1) * 1) = some (I64 ys[j + 1]) := by rw [Nat.zero_add, Nat.mul_one]; exact (Ab39.at (j + 1)).trans x1
    refine ww_idxS hi (ww_load1 hat1 ?_)
    refine ww_idx L39 hx fun bl offl hbl hbl2 H => ?_
    have hrow : ∀ q, q < 14 → h39.at bl (offl + q) = (encA al[ys[j + 1]])[q]? := fun q hq => by rw [H q hq, flat_get (sz := 14) encA encA_len _ _ _ hq, List.getElem?_eq_getElem hx]; rfl
    refine ww_loadN (l := encA al[ys[j + 1]]) rfl (by omega) hrow ?_
    refine ww_box rfl fun bA h120 hbA B1 G1 => ww_box rfl fun bB h122 hbB B2 G2 => ?_
    have lA0 := B1.lt
    have B1 := B1.fr G2 (fun hf => hf)
    have lA := B1.lt
    have lB := B2.lt
    have nG1 := G1.nx
    have nG2 := G2.nx
    refine ww_store B1 rfl (by show 0 + 14 ≤ 14; omega) (encA_one (hok _ (List.getElem_mem hx0))) fun h123 B3 G3 _ => ?_
    have B2 := B2.fr G3 (fun hf : bB = bA => by omega)
    refine ww_store B2 rfl (by show 0 + 14 ≤ 14; omega) (encA_one (hok _ (List.getElem_mem hx))) fun h124 B4 G4 _ => ?_
    have G12 : Fr (fun _ => False) h39 h122 := (G1.trans G2).mono (fun _ _ hf => hf.elim id id)
    have G123 : Fr (fun y => y = bA) h39 h123 := (G12.trans G3).mono (fun _ _ hf => hf.elim False.elim id)
    have lbb := Ab39.lt
    refine ww_chkN (l := encA al[ys[j + 1]]) rfl (by omega) (fun q hq => by rw [at_fr G12 hbl (fun hf => hf)]; exact hrow q hq) (fun q hq => by rw [at_fr G123 hbl (fun hf : bl = bA => by omega)]; exact hrow q hq) hbl ?_
    refine ww_chk1 (by rw [at_fr G12 lbb (fun hf => hf)]; exact hat1) (by rw [at_fr G123 lbb (fun hf : b = bA => by omega)]; exact hat1) lbb ?_
    obtain ⟨eA, RA⟩ : ∃ eA, Row h124 bA (encA al[ys[j]]) eA false := ⟨_, B3.fr G4 (fun hf : bA = bB => by omega)⟩
    obtain ⟨eB, RB⟩ : ∃ eB, Row h124 bB (encA al[ys[j + 1]]) eB false := ⟨_, B4⟩
    have G124 : Fr (fun y => y = bi ∨ g.nx ≤ y) g h124 := ((F39'.trans G123).trans G4).mono (by have := F39.nx; rintro y _ ((hy | hy) | hy); exact hy; omega; omega)
    have A124 : Row h124 bi (inM al.length ys (j + 1 + 1)) ei false := (A39.fr G123 (fun hf : bi = bA => by have := A39.lt; omega)).fr G4 (fun hf : bi = bB => by have := A39.lt; omega)
    try dsimp only
    refine ww_loadN (l := encA al[ys[j + 1]]) rfl (by omega) (fun q _ => by rw [Nat.zero_add]; exact RB.at q) ?_
    refine ww_loadN (l := encA al[ys[j]]) rfl (by omega) (fun q _ => by rw [Nat.zero_add]; exact RA.at q) ?_
    refine ww_callZ (by decide) (less_ok (by omega) (hok _ (List.getElem_mem hx)) (hok _ (List.getElem_mem hx0))) ?_
    rintro v h47 ⟨rfl, O47⟩
    have hL : lessB al[ys[j + 1]] al[ys[j]] = false := by
      cases hc : lessB al[ys[j + 1]] al[ys[j]]
      · rfl
      · exact ((List.pairwise_iff_getElem.1 p2 j (j + 1) hj hiy (by omega)) ⟨_, _, List.getElem?_eq_getElem hx, List.getElem?_eq_getElem hx0, hc⟩).elim
    obtain ⟨f1, f2⟩ := less_facts hL
    rw [hL]
    have RA := RA.old O47 RA.lt
    have RB := RB.old O47 RB.lt
    have go47 : wp (ih (.int .i64 (((j + 1 : Nat) : Int) + ((1 : Nat) : Int)), .slice bi 0 al.length al.length false, .slice b 0 al.length al.length false, l, ()) h47 []) fun v _ => v = .bool true :=
      next h47 (A124.old O47 A124.lt) ((G124.trans O47).mono (by have := G124.nx; rintro y _ (hy | hy); exact hy; omega))
    have cA := (hok _ (List.getElem_mem hx0)).cv
    have cB := (hok _ (List.getElem_mem hx)).cv
    repeat' (first | (first | with_reducible refine ww_condT ?_ | with_reducible refine ww_condF ?_ | (with_reducible refine ww_wantTT ?_; try dsimp only) | (with_reducible refine ww_wantTF ?_; try dsimp only) | (with_reducible refine ww_wantFT ?_; try dsimp only) | (with_reducible refine ww_wantFF ?_; try dsimp only) | (with_reducible refine ww_wantU ?_; try dsimp only) | with_reducible refine ww_pickT ?_ | with_reducible refine ww_pickF ?_ | (with_reducible refine ww_joinS ?_; try dsimp only) | with_reducible refine ww_leave ?_ | with_reducible refine ww_notT ?_ | with_reducible refine ww_notF ?_ | with_reducible refine ww_addI (by omega) ?_ | with_reducible refine ww_subI (by omega) ?_ | with_reducible refine ww_addU (by omega) ?_ | with_reducible refine ww_subU (by omega) ?_ | with_reducible refine ww_min ?_ | with_reducible refine ww_max ?_) | refine ww_fld RA rfl ?_ | refine ww_fld RB rfl ?_ | (first | with_reducible refine ww_lssC (fun hc => ?_) (fun hc => ?_) | with_reducible refine ww_leqC (fun hc => ?_) (fun hc => ?_) | with_reducible refine ww_gtrC (fun hc => ?_) (fun hc => ?_) | with_reducible refine ww_geqC (fun hc => ?_) (fun hc => ?_) | with_reducible refine ww_eqlC (fun hc => ?_) (fun hc => ?_) | with_reducible refine ww_neqC (fun hc => ?_) (fun hc => ?_) | with_reducible refine ww_condB (fun hc => ?_) (fun hc => ?_)) | refine ww_lenV cA ?_ | refine ww_lenV cB ?_)
    all_goals first | exact go47 | (exfalso; omega)

theorem told {h : AH} {l : List AV} (H : WTs Try.prog h 8 Try.f4.params.toList l) : wp (W4 (withRun 3 (callT tab rtab 60)) l h) fun v _ => v = .bool true := by
  have e : Try.f4.params.toList = [39] := by kernel_rfl
  rw [e] at H
  obtain ⟨a0, rfl, H0⟩ := WTs1 H
  simp only [WTV, Try.underlying3, Try.underlying4, Try.underlying22, Try.underlying24, Try.underlying25, Try.underlying39, Try.underlying50] at H0
  obtain ⟨p, ds, S0, hd⟩ := wt_draws H0
  exact law (by omega) S0 hd

end Go.Proofs.Ytlmfnmppcdijfaa.historyOrder
