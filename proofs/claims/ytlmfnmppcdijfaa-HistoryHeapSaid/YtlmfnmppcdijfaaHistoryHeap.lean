/- 'HistoryHeap' comes to true whatever its arguments: its own walk. -/
import Derived.Test.YtlmfnmppcdijfaaHistArgs
import Derived.Test.YtlmfnmppcdijfaaBookSameU
namespace Go.Proofs.Ytlmfnmppcdijfaa.historyHeap
open Go Go.Ae
set_option maxRecDepth 100000

/-- an attempt and its cells -/
def cellsOfA (g : AH) (N : Nat) (a : AttM) (ac : List (Int × Int)) : Prop := Sl (fun y => y < N) g 2 a.nc a.cv (ac.flatMap encC) ∧ (∀ c ∈ ac, 1 ≤ c.1 ∧ c.1 ≤ 5) ∧ ac.length ≤ 4
/-- the heap behind attempts -/
def foldA (l : List Int) (xs : List (AttM × List (Int × Int))) : List Int := xs.foldl (fun l x => if x.1.kind = 2 then x.2.foldl putM l else l) l
theorem foldA_len (xs : List (AttM × List (Int × Int))) : ∀ l : List Int, (foldA l xs).length = l.length := by
  induction xs with
  | nil => intro l; rfl
  | cons x xs ih =>
    intro l
    unfold foldA at *
    rw [List.foldl_cons, ih]
    split
    · exact foldM_len _ _
    · rfl
/-- applied to a heap that is one already -/
theorem base_again (l : List Int) (hl : 32 ≤ l.length ∧ l.length ≤ 256) (h0 : l[0]? = some 0) : baseM l = l := by
  apply List.ext_getElem?
  intro i
  have hs : sizeM l.length = l.length := by unfold sizeM; omega
  by_cases hi : i < l.length
  · rw [baseM, List.getElem?_map, List.getElem?_range (by omega), Option.map_some]
    by_cases h : i = 0
    · subst h; rw [if_pos rfl, h0]
    · rw [if_neg h, List.getElem?_eq_getElem hi]; rfl
  · rw [List.getElem?_eq_none (by rw [baseM_len]; omega), List.getElem?_eq_none (by omega)]
theorem putM_zero (l : List Int) (c : Int × Int) (h0 : l[0]? = some 0) : (putM l c)[0]? = some 0 := by
  unfold putM
  split
  · rw [List.getElem?_set, if_neg (by omega)]; exact h0
  · exact h0
theorem foldM_zero (cs : List (Int × Int)) : ∀ l : List Int, l[0]? = some 0 → (cs.foldl putM l)[0]? = some 0 := by
  induction cs with
  | nil => intro l h; exact h
  | cons c cs ih => intro l h; exact ih _ (putM_zero l c h)
theorem base_zero (zs : List Int) : (baseM zs)[0]? = some 0 := by
  have := sizeM_bounds zs.length
  rw [baseM, List.getElem?_map, List.getElem?_range (by omega)]; rfl

theorem foldA_zero (xs : List (AttM × List (Int × Int))) : ∀ l : List Int, l[0]? = some 0 → (foldA l xs)[0]? = some 0 := by
  induction xs with
  | nil => intro l h; exact h
  | cons x xs ih =>
    intro l h
    unfold foldA at *
    rw [List.foldl_cons]
    refine ih _ ?_
    split
    · exact foldM_zero _ _ h
    · exact h

/-- what the heap's walk needs of the list and the order -/
structure Hist (g : AH) (N : Nat) (l : AV) (al : List AttM) (cl : List (List (Int × Int))) : Prop where
  sl : Sl (fun y => y < N) g 14 al.length l (al.flatMap encA)
  ok : ∀ a ∈ al, AttOk a
  len : cl.length = al.length
  cells : ∀ i (h : i < al.length) (h' : i < cl.length), cellsOfA g N al[i] cl[i]
  small : al.length ≤ 20
theorem Hist.old {g g' : AH} {N : Nat} {l : AV} {al : List AttM} {cl : List (List (Int × Int))} (H : Hist g N l al cl) (F : Old N g g') : Hist g' N l al cl :=
  ⟨H.sl.fr F (fun y hy hf => by omega), H.ok, H.len, fun i h h' => ⟨(H.cells i h h').1.fr F (fun y hy hf => by omega), (H.cells i h h').2⟩, H.small⟩
def pick (al : List AttM) (cl : List (List (Int × Int))) (ys : List Nat) : List (AttM × List (Int × Int)) := ys.filterMap fun i => (al[i]?).bind fun a => (cl[i]?).map fun c => (a, c)
theorem pick_app (al : List AttM) (cl : List (List (Int × Int))) (hl : cl.length = al.length) (ys : List Nat) (i : Nat) (hi : i < al.length) : pick al cl (ys ++ [i]) = pick al cl ys ++ [(al[i], cl[i]'(by omega))] := by
  unfold pick
  rw [List.filterMap_append]
  congr 1
  simp [List.getElem?_eq_getElem hi, List.getElem?_eq_getElem (show i < cl.length by omega)]

theorem heap_ok {D : Nat → Prop} {n p N : Nat} (hn : 10 ≤ n) {w l : AV} {zs : List Int} {al : List AttM} {cl : List (List (Int × Int))} {h : AH} {kz : Int} (S0 : Sl D h 1 p w (zs.map (.int .u64))) (hs : shut w = true) (hr : roomy w) (hp : p < 1000000000)
    (H : Hist h N l al cl) (hN : N ≤ h.nx) :
    wp (callT tab rtab n (.fn 6 [] []) [w, l, .int .i64 kz] h) fun v h' => ∃ (ys : List Nat) (b : Nat) (e : TypeId), v = .slice b 0 (sizeM p) (sizeM p) false ∧ h.nx ≤ b ∧ ys = isM (ltA al) (List.range al.length) ∧
      Row h' b ((foldA (baseM zs) (pick al cl (ys.take (max 0 (min kz al.length)).toNat))).map (.int .u64)) e false ∧ Old h.nx h h' := by
  have hzl : zs.length = p := by simpa using S0.len
  have hsz := sizeM_bounds p
  have hsm := H.small
  refine ww_fn (g := W6) rfl (by omega) fun k hk => ?_
  show wp (S6 (callT tab rtab k) _ _ _ _) _
  unfold S6
  try simp only [Int.ofNat_eq_natCast]
  refine ww_call (mapply_ok (cs := []) (by omega) S0 hs hr (Sl.nils (D := fun _ => True)) hp (by omega)) ?_
  rintro v h1 ⟨b1, e1, rfl, hb1, A1, O1⟩
  have A1 : Row h1 b1 ((baseM zs).map (.int .u64)) e1 false := A1
  have H1 := H.old (O1.mono fun y _ hy => by omega)
  refine ww_call (order_ok (by omega) H1.sl H1.ok H1.small) ?_
  rintro o h3 ⟨ys, b, e, rfl, hb, p0, p1, p2, A3, O3⟩
  have O13 : Old h.nx h h3 := O1.step O3 (fun y hy => Nat.le_trans O1.nx hy)
  have H3 := H.old (O13.mono fun y _ hy => by omega)
  have hyl : ys.length = al.length := by have := p1.length_eq; simpa using this
  have hmem : ∀ i (hi : i < ys.length), ys[i] < al.length := fun i hi => List.mem_range.1 (p1.mem_iff.1 (List.getElem_mem hi))
  refine ww_len H3.sl (ww_min (ww_max ?_))
  obtain ⟨q, hq⟩ : ∃ q : Nat, max ((0 : Nat) : Int) (min kz (al.length : Int)) = (q : Int) := ⟨(max ((0 : Nat) : Int) (min kz (al.length : Int))).toNat, by omega⟩
  have hqt : (max 0 (min kz (al.length : Int))).toNat = q := by
    have : max 0 (min kz (al.length : Int)) = (q : Int) := hq
    rw [this]; simp
  rw [hq, hqt]
  have hqn : q ≤ al.length := by omega
  refine ww_cut (hi := q) (lo := 0) (natO_some hqn) rfl ?_
  have hoff : (bif Nat.beq al.length 0 then 0 else 0 + 0 * 1) = 0 := by cases Nat.beq al.length 0 <;> rfl
  rw [hoff, Nat.sub_zero, Nat.sub_zero]
  refine ww_lenS ?_
  have lb3 := A3.lt
  have lb1 := A1.lt
  have A13 := A1.old O3 lb1
  refine ww_iter (fun m s g => ∃ (i b1 : Nat) (e1 : TypeId), s = (I64 i, I64 q, .slice b 0 q al.length false, .slice b1 0 (sizeM p) (sizeM p) false, l, ()) ∧ i ≤ q ∧ m = q - i ∧ h.nx ≤ b1 ∧ Row g b1 ((foldA (baseM zs) (pick al cl (ys.take i))).map (.int .u64)) e1 false ∧ Old h3.nx h3 g) ?_ (m := q) (by show q < 1000000000; have := H.small; omega)
    ⟨0, b1, e1, rfl, by omega, by omega, hb1, A13, Old.refl _ _⟩
  clear A13 lb1 hb1
  rintro m ih s g hih ⟨i, b1, e1, rfl, h1, rfl, hb1, A, O⟩
  dsimp only
  have Og : Old h.nx h g := O13.step O (fun y hy => Nat.le_trans O13.nx hy)
  have Hg := H.old (Og.mono fun y _ hy => by omega)
  have Ab := A3.old O lb3
  refine ww_lssC (fun hc => ww_condT ?_) fun hc => ww_condF (ww_leave (ww_ret ?_))
  · have hi : i < q := by omega
    have hiy : i < ys.length := by omega
    have hx := hmem i hiy
    have So : Sl (fun _ => True) g 1 q (.slice b 0 q al.length false) (((ys.map I64).drop 0).take (q * 1)) := Sl.of_row Ab trivial (by simp; omega)
    have x1 : (((ys.map I64).drop 0).take (q * 1))[i]? = some (I64 ys[i]) := by
      rw [List.getElem?_take_of_lt (by omega), List.drop_zero, List.getElem?_map, List.getElem?_eq_getElem hiy]; rfl
    have hcl : ys[i] < cl.length := by rw [H.len]; exact hx
    obtain ⟨Sc, hc5, hc4⟩ := Hg.cells ys[i] hx hcl
    have hlenF : (foldA (baseM zs) (pick al cl (ys.take i))).length = sizeM p := by rw [foldA_len, baseM_len, hzl]
    have hrow : ∀ f, f < 14 → (al.flatMap encA)[ys[i] * 14 + f]? = (encA al[ys[i]])[f]? := fun f hf => by
      rw [flat_get (sz := 14) encA encA_len _ _ _ hf, List.getElem?_eq_getElem hx]; rfl
    have step : foldA (baseM zs) (pick al cl (ys.take (i + 1))) = (if al[ys[i]].kind = 2 then cl[ys[i]].foldl putM (foldA (baseM zs) (pick al cl (ys.take i))) else foldA (baseM zs) (pick al cl (ys.take i))) := by
      rw [List.take_succ_eq_append_getElem hiy, pick_app al cl H.len _ _ hx]
      unfold foldA
      rw [List.foldl_append]; rfl
    refine ww_joinS ?_
    refine ww_idx1 So x1 (ww_idxF Hg.sl (f := 4) (by omega) hx (hrow 4 (by omega)) (ww_eqlC (fun hk => ww_condT ?_) fun hk => ww_condF ?_))
    · refine ww_idxF Hg.sl (f := 11) (by omega) hx (hrow 11 (by omega)) ?_
      have Sw : Sl (fun _ => True) g 1 (sizeM p) (.slice b1 0 (sizeM p) (sizeM p) false) ((foldA (baseM zs) (pick al cl (ys.take i))).map (.int .u64)) := Sl.of_row0 A trivial (by simp [hlenF])
      have hncl : (al[ys[i]]).nc < 1000000000 := by
        have := Sc.len
        rw [flat_len (sz := 2) encC (fun _ => rfl)] at this
        omega
      refine ww_call (mapply_ok (by omega) Sw rfl (Nat.le_refl _) Sc (by omega) hncl) ?_
      rintro v h29 ⟨b2, e2, rfl, hb2, A2, O2⟩
      rw [show sizeM (sizeM p) = sizeM p by unfold sizeM; omega]
      try dsimp only
      repeat (first | with_reducible refine ww_condT ?_ | with_reducible refine ww_condF ?_ | (with_reducible refine ww_wantTT ?_; try dsimp only) | (with_reducible refine ww_wantTF ?_; try dsimp only) | (with_reducible refine ww_wantFT ?_; try dsimp only) | (with_reducible refine ww_wantFF ?_; try dsimp only) | (with_reducible refine ww_wantU ?_; try dsimp only) | with_reducible refine ww_pickT ?_ | with_reducible refine ww_pickF ?_ | (with_reducible refine ww_joinS ?_; try dsimp only) | with_reducible refine ww_leave ?_ | with_reducible refine ww_notT ?_ | with_reducible refine ww_notF ?_ | with_reducible refine ww_addI (by omega) ?_ | with_reducible refine ww_subI (by omega) ?_ | with_reducible refine ww_addU (by omega) ?_ | with_reducible refine ww_subU (by omega) ?_ | with_reducible refine ww_min ?_ | with_reducible refine ww_max ?_)
      have hk : al[ys[i]].kind = 2 := hk
      refine hih (q - (i + 1)) _ _ (by omega) ⟨i + 1, b2, e2, rfl, by omega, rfl, Nat.le_trans Og.nx hb2, ?_, O.step O2 (fun y hy => Nat.le_trans O.nx hy)⟩
      rw [step, if_pos hk]
      have hz : (foldA (baseM zs) (pick al cl (ys.take i)))[0]? = some 0 := foldA_zero _ _ (base_zero zs)
      have : applyM (foldA (baseM zs) (pick al cl (ys.take i))) cl[ys[i]] = cl[ys[i]].foldl putM (foldA (baseM zs) (pick al cl (ys.take i))) := by
        unfold applyM
        rw [base_again _ (by rw [hlenF]; omega) hz]
      rw [← this]; exact A2
    · have hk : ¬ al[ys[i]].kind = 2 := hk
      try dsimp only
      repeat (first | with_reducible refine ww_condT ?_ | with_reducible refine ww_condF ?_ | (with_reducible refine ww_wantTT ?_; try dsimp only) | (with_reducible refine ww_wantTF ?_; try dsimp only) | (with_reducible refine ww_wantFT ?_; try dsimp only) | (with_reducible refine ww_wantFF ?_; try dsimp only) | (with_reducible refine ww_wantU ?_; try dsimp only) | with_reducible refine ww_pickT ?_ | with_reducible refine ww_pickF ?_ | (with_reducible refine ww_joinS ?_; try dsimp only) | with_reducible refine ww_leave ?_ | with_reducible refine ww_notT ?_ | with_reducible refine ww_notF ?_ | with_reducible refine ww_addI (by omega) ?_ | with_reducible refine ww_subI (by omega) ?_ | with_reducible refine ww_addU (by omega) ?_ | with_reducible refine ww_subU (by omega) ?_ | with_reducible refine ww_min ?_ | with_reducible refine ww_max ?_)
      refine hih (q - (i + 1)) _ _ (by omega) ⟨i + 1, b1, e1, rfl, by omega, rfl, hb1, ?_, O⟩
      rw [step, if_neg hk]
      exact A
  · obtain rfl : i = q := by omega
    exact ⟨ys, b1, e1, rfl, hb1, p0, A, Og⟩

theorem choose_cells {P : AttM → List (Int × Int) → Prop} : ∀ {al : List AttM}, (∀ a ∈ al, ∃ c, P a c) → ∃ cl : List (List (Int × Int)), cl.length = al.length ∧ ∀ i (h : i < al.length) (h' : i < cl.length), P al[i] cl[i] := by
  intro al
  induction al with
  | nil => intro _; exact ⟨[], rfl, fun i h => by cases h⟩
  | cons a al ih =>
    intro H
    obtain ⟨c, hc⟩ := H a (List.mem_cons_self ..)
    obtain ⟨cl, h1, h2⟩ := ih (fun x hx => H x (List.mem_cons_of_mem _ hx))
    refine ⟨c :: cl, by simp [h1], fun i h h' => ?_⟩
    cases i with
    | zero => exact hc
    | succ i => exact h2 i (by simpa using h) (by simpa using h')

set_option maxHeartbeats 2000000 in
theorem law {D0 D1 : Nat → Prop} {n p q : Nat} (hn : 12 ≤ n) {a0 a1 : AV} {ds : List DrawM} {zs : List Int} {h : AH} (S0 : Sl D0 h 6 p a0 (ds.flatMap encD)) (hd : ∀ d ∈ ds, DrawOk h d) (S1 : Sl D1 h 1 q a1 (zs.map (.int .u64))) (hs : shut a1 = true) (hr : roomy a1) :
    wp (W5 (withRun 3 (callT tab rtab n)) [a0, a1] h) fun v _ => v = .bool true := by
  have hzl : zs.length = q := by simpa using S1.len
  have hsz := sizeM_bounds q
  show wp (S5 (withRun _ (callT tab rtab _)) _ _ _) _
  unfold S5
  try simp only [Int.ofNat_eq_natCast]
  refine ww_run ?_
  repeat (first | with_reducible refine ww_condT ?_ | with_reducible refine ww_condF ?_ | (with_reducible refine ww_wantTT ?_; try dsimp only) | (with_reducible refine ww_wantTF ?_; try dsimp only) | (with_reducible refine ww_wantFT ?_; try dsimp only) | (with_reducible refine ww_wantFF ?_; try dsimp only) | (with_reducible refine ww_wantU ?_; try dsimp only) | with_reducible refine ww_pickT ?_ | with_reducible refine ww_pickF ?_ | (with_reducible refine ww_joinS ?_; try dsimp only) | with_reducible refine ww_leave ?_ | with_reducible refine ww_notT ?_ | with_reducible refine ww_notF ?_ | with_reducible refine ww_addI (by omega) ?_ | with_reducible refine ww_subI (by omega) ?_ | with_reducible refine ww_addU (by omega) ?_ | with_reducible refine ww_subU (by omega) ?_ | with_reducible refine ww_min ?_ | with_reducible refine ww_max ?_)
  refine ww_len S1 (ww_gtrC (fun hc => ww_condT (ww_ret rfl)) fun hc => ww_condF ?_)
  refine ww_callZ (by decide) (attempts_ok (by omega) S0 hd) ?_
  rintro l h4 ⟨al, h20, L, hnest, O4⟩
  have hok : ∀ a ∈ al, AttOk a := fun a ha => (hnest a ha).1
  obtain ⟨cl, hcl, hcells⟩ := choose_cells (P := fun a c => cellsOfA h4 h4.nx a c) (al := al) (fun a ha => by
    obtain ⟨_, ac, q1, q2, q3⟩ := hnest a ha
    exact ⟨ac, (sl_lt q1).mono (fun y hy => hy.2), q2, q3⟩)
  have H4 : Hist h4 h4.nx l al cl := ⟨(sl_lt L.sl).mono (fun y hy => hy.2), hok, hcl, hcells, h20⟩
  refine ww_callZ (by decide) (order_ok (by omega) L.sl hok h20) ?_
  rintro o h6 ⟨ys, b, e, rfl, hb, p0, p1, p2, A6, O6⟩
  have hyl : ys.length = al.length := by have := p1.length_eq; simpa using this
  have hmem : ∀ i (hi : i < ys.length), ys[i] < al.length := fun i hi => List.mem_range.1 (p1.mem_iff.1 (List.getElem_mem hi))
  have lb := A6.lt
  have S16 := S1.old (O4.step O6 (fun y hy => Nat.le_trans O4.nx hy))
  refine ww_callZ (by decide) (heap_ok (kz := ((0 : Nat) : Int)) (by omega) S16 hs hr (by omega) (H4.old O6) O6.nx) ?_
  rintro v h10 ⟨ys1, b1, e1, rfl, hb1, r0, A10, O10⟩
  have O410 : Old h4.nx h4 h10 := O6.step O10 (fun y hy => Nat.le_trans O6.nx hy)
  have H10 := H4.old O410
  refine ww_len H10.sl ?_
  refine ww_callZ (by decide) (heap_ok (kz := ((al.length : Nat) : Int)) (by omega) (S1.old (O4.step O410 (fun y hy => Nat.le_trans O4.nx hy))) hs hr (by omega) H10 O410.nx) ?_
  rintro v h13 ⟨ys2, b2, e2, rfl, hb2, r1, A13, O13⟩
  have e12 : ys2 = ys := r1.trans p0.symm
  subst e12
  have O413 : Old h4.nx h4 h13 := O410.step O13 (fun y hy => Nat.le_trans O410.nx hy)
  have H13 := H4.old O413
  have lb1 := A10.lt
  have A1013 := A10.old O13 lb1
  have Ab := A6.old (O10.step O13 (fun y hy => Nat.le_trans O10.nx hy)) lb
  have hA10 : (foldA (baseM zs) (pick al cl (ys1.take (max 0 (min ((0 : Nat) : Int) (al.length : Int))).toNat))) = baseM zs := by
    rw [show (max 0 (min ((0 : Nat) : Int) (al.length : Int))).toNat = 0 by omega]; rfl
  rw [hA10] at A1013
  have hA13 : (max 0 (min ((al.length : Nat) : Int) (al.length : Int))).toNat = ys2.length := by omega
  rw [hA13, List.take_length] at A13
  have hbl : (baseM zs).length = sizeM q := by rw [baseM_len, hzl]
  refine ww_lenS (ww_len H13.sl (ww_neqC (fun hne => absurd rfl hne) fun _ => ?_))
  repeat (first | with_reducible refine ww_condT ?_ | with_reducible refine ww_condF ?_ | (with_reducible refine ww_wantTT ?_; try dsimp only) | (with_reducible refine ww_wantTF ?_; try dsimp only) | (with_reducible refine ww_wantFT ?_; try dsimp only) | (with_reducible refine ww_wantFF ?_; try dsimp only) | (with_reducible refine ww_wantU ?_; try dsimp only) | with_reducible refine ww_pickT ?_ | with_reducible refine ww_pickF ?_ | (with_reducible refine ww_joinS ?_; try dsimp only) | with_reducible refine ww_leave ?_ | with_reducible refine ww_notT ?_ | with_reducible refine ww_notF ?_ | with_reducible refine ww_addI (by omega) ?_ | with_reducible refine ww_subI (by omega) ?_ | with_reducible refine ww_addU (by omega) ?_ | with_reducible refine ww_subU (by omega) ?_ | with_reducible refine ww_min ?_ | with_reducible refine ww_max ?_)
  refine ww_lenS (ww_lenS (ww_neqC (fun hne => absurd rfl hne) fun _ => ?_))
  repeat (first | with_reducible refine ww_condT ?_ | with_reducible refine ww_condF ?_ | (with_reducible refine ww_wantTT ?_; try dsimp only) | (with_reducible refine ww_wantTF ?_; try dsimp only) | (with_reducible refine ww_wantFT ?_; try dsimp only) | (with_reducible refine ww_wantFF ?_; try dsimp only) | (with_reducible refine ww_wantU ?_; try dsimp only) | with_reducible refine ww_pickT ?_ | with_reducible refine ww_pickF ?_ | (with_reducible refine ww_joinS ?_; try dsimp only) | with_reducible refine ww_leave ?_ | with_reducible refine ww_notT ?_ | with_reducible refine ww_notF ?_ | with_reducible refine ww_addI (by omega) ?_ | with_reducible refine ww_subI (by omega) ?_ | with_reducible refine ww_addU (by omega) ?_ | with_reducible refine ww_subU (by omega) ?_ | with_reducible refine ww_min ?_ | with_reducible refine ww_max ?_)
  refine ww_lenS (ww_lssC (fun hne => by omega) fun _ => ?_)
  repeat (first | with_reducible refine ww_condT ?_ | with_reducible refine ww_condF ?_ | (with_reducible refine ww_wantTT ?_; try dsimp only) | (with_reducible refine ww_wantTF ?_; try dsimp only) | (with_reducible refine ww_wantFT ?_; try dsimp only) | (with_reducible refine ww_wantFF ?_; try dsimp only) | (with_reducible refine ww_wantU ?_; try dsimp only) | with_reducible refine ww_pickT ?_ | with_reducible refine ww_pickF ?_ | (with_reducible refine ww_joinS ?_; try dsimp only) | with_reducible refine ww_leave ?_ | with_reducible refine ww_notT ?_ | with_reducible refine ww_notF ?_ | with_reducible refine ww_addI (by omega) ?_ | with_reducible refine ww_subI (by omega) ?_ | with_reducible refine ww_addU (by omega) ?_ | with_reducible refine ww_subU (by omega) ?_ | with_reducible refine ww_min ?_ | with_reducible refine ww_max ?_)
  refine ww_app (Acc.nils (D := fun _ => False)) (Sl.of_row0 (D := fun _ => True) A1013 trivial (by simp [hbl])) (by omega) (by omega) ?_ fun want h26 W F26 => ?_
  · unfold allOne
    rw [List.all_eq_true]
    intro v hv
    obtain ⟨z, _, rfl⟩ := List.mem_map.1 hv
    rfl
  rw [Nat.zero_add, List.nil_append] at W
  obtain ⟨_, ⟨_, hz⟩ | ⟨bw, rfl, hbw, Aw⟩⟩ := W
  · omega
  have hbw : h13.nx ≤ bw := hbw.elim False.elim id
  have O26 : Old h13.nx h13 h26 := (Old.refl _ _).step F26 (fun _ hf => hf.elim)
  have nx13 := O413.nx
  refine ww_iter (fun m s g => ∃ i : Nat, s = (I64 i, .slice bw 0 (sizeM q) 0 true, .slice b2 0 (sizeM q) (sizeM q) false, .slice b 0 al.length al.length false, l, ()) ∧ i ≤ al.length ∧ m = al.length - i ∧ Row g bw ((foldA (baseM zs) (pick al cl (ys2.take i))).map (.int .u64)) 22 true ∧ Old h13.nx h13 g) ?_ (m := al.length) (by show al.length < 1000000000; omega)
    ⟨0, rfl, by omega, by omega, Aw, O26⟩
  clear Aw O26 F26
  rintro m ih s g hih ⟨i, rfl, h1, rfl, Aw, O⟩
  dsimp only
  have lb2 := A13.lt
  have lbb := Ab.lt
  have Abg := Ab.old O lbb
  have A13g := A13.old O lb2
  have O4g : Old h4.nx h4 g := O413.step O (fun y hy => by omega)
  have Hg := H4.old O4g
  have hlenF : ∀ xs, (foldA (baseM zs) xs).length = sizeM q := fun xs => by rw [foldA_len, hbl]
  refine ww_lenS (ww_lssC (fun hc => ww_condT ?_) fun hc => ww_condF ?_)
  · have hi : i < al.length := by omega
    have hiy : i < ys2.length := by omega
    have hx := hmem i hiy
    obtain ⟨So, x1⟩ := row_get (i := i) Abg hyl hi
    have hxc : ys2[i] < cl.length := by omega
    obtain ⟨Sc, hc5, hc4⟩ := Hg.cells ys2[i] hx hxc
    have step : foldA (baseM zs) (pick al cl (ys2.take (i + 1))) = (if al[ys2[i]].kind = 2 then cl[ys2[i]].foldl putM (foldA (baseM zs) (pick al cl (ys2.take i))) else foldA (baseM zs) (pick al cl (ys2.take i))) := by
      rw [List.take_succ_eq_append_getElem hiy, pick_app al cl hcl _ _ hx]
      unfold foldA
      rw [List.foldl_append]; rfl
    have hncl : cl[ys2[i]].length = al[ys2[i]].nc := by
      have := Sc.len
      rw [flat_len (sz := 2) encC (fun _ => rfl)] at this
      omega
    refine ww_idx1 So x1 (ww_lssC (fun hc0 => by omega) fun hc0 => ?_)
    repeat (first | with_reducible refine ww_condT ?_ | with_reducible refine ww_condF ?_ | (with_reducible refine ww_wantTT ?_; try dsimp only) | (with_reducible refine ww_wantTF ?_; try dsimp only) | (with_reducible refine ww_wantFT ?_; try dsimp only) | (with_reducible refine ww_wantFF ?_; try dsimp only) | (with_reducible refine ww_wantU ?_; try dsimp only) | with_reducible refine ww_pickT ?_ | with_reducible refine ww_pickF ?_ | (with_reducible refine ww_joinS ?_; try dsimp only) | with_reducible refine ww_leave ?_ | with_reducible refine ww_notT ?_ | with_reducible refine ww_notF ?_ | with_reducible refine ww_addI (by omega) ?_ | with_reducible refine ww_subI (by omega) ?_ | with_reducible refine ww_addU (by omega) ?_ | with_reducible refine ww_subU (by omega) ?_ | with_reducible refine ww_min ?_ | with_reducible refine ww_max ?_)
    refine ww_idx1 So x1 (ww_len Hg.sl (ww_geqC (fun hc0 => by omega) fun hc0 => ?_))
    repeat (first | with_reducible refine ww_condT ?_ | with_reducible refine ww_condF ?_ | (with_reducible refine ww_wantTT ?_; try dsimp only) | (with_reducible refine ww_wantTF ?_; try dsimp only) | (with_reducible refine ww_wantFT ?_; try dsimp only) | (with_reducible refine ww_wantFF ?_; try dsimp only) | (with_reducible refine ww_wantU ?_; try dsimp only) | with_reducible refine ww_pickT ?_ | with_reducible refine ww_pickF ?_ | (with_reducible refine ww_joinS ?_; try dsimp only) | with_reducible refine ww_leave ?_ | with_reducible refine ww_notT ?_ | with_reducible refine ww_notF ?_ | with_reducible refine ww_addI (by omega) ?_ | with_reducible refine ww_subI (by omega) ?_ | with_reducible refine ww_addU (by omega) ?_ | with_reducible refine ww_subU (by omega) ?_ | with_reducible refine ww_min ?_ | with_reducible refine ww_max ?_)
    refine ww_idx1 So x1 (ww_idxN (l := encA al[ys2[i]]) Hg.sl hx (by omega) (sl_row al hx) ?_)
    refine ww_box rfl fun ba h46 hba B1 G1 => ?_
    refine ww_store B1 rfl (by show 0 + 14 ≤ 14; omega) (encA_one (hok _ (List.getElem_mem hx))) fun h47 B2 G2 _ => ?_
    obtain ⟨ea, B2⟩ : ∃ ea, Row h47 ba (encA al[ys2[i]]) ea false := ⟨_, B2⟩
    have lbw := Aw.lt
    have Aw47 := (Aw.fr G1 (fun hf => hf)).fr G2 (fun hf : bw = ba => by omega)
    have O47 : Old h13.nx h13 h47 := (O.step G1 (fun _ hf => hf.elim)).step G2 (by have := O.nx; rintro y rfl; omega)
    refine ww_iter (fun m s g' => ∃ k : Nat, s = (I64 k, .ptr ba 0, I64 i, .slice bw 0 (sizeM q) 0 true, .slice b2 0 (sizeM q) (sizeM q) false, .slice b 0 al.length al.length false, l, ()) ∧ k ≤ cl[ys2[i]].length ∧ m = cl[ys2[i]].length - k ∧ (al[ys2[i]].kind ≠ 2 → k = 0) ∧
      Row g' bw (((cl[ys2[i]].take k).foldl putM (foldA (baseM zs) (pick al cl (ys2.take i)))).map (.int .u64)) 22 true ∧ Fr (fun y => y = bw) h47 g') ?_ (m := cl[ys2[i]].length) (by show cl[ys2[i]].length < 1000000000; omega)
      ⟨0, rfl, by omega, by omega, fun _ => rfl, Aw47, Fr.refl _ _⟩
    clear Aw47
    rintro m2 ih2 s g' hih2 ⟨k, rfl, hk1, rfl, hk0, Aw', F'⟩
    dsimp only
    have lba := B2.lt
    have hne : ¬ ba = bw := by omega
    have Ba := B2.fr F' hne
    have O' : Old h13.nx h13 g' := O47.step F' (by rintro y rfl; exact hbw)
    have Sc' : Sl (fun y => y < h4.nx) g' 2 al[ys2[i]].nc al[ys2[i]].cv (cl[ys2[i]].flatMap encC) := ((H4.old (O413.step O' (fun y hy => by omega))).cells ys2[i] hx hxc).1
    have hlenX : ∀ k, ((cl[ys2[i]].take k).foldl putM (foldA (baseM zs) (pick al cl (ys2.take i)))).length = sizeM q := fun k => by rw [foldM_len, hlenF]
    have next : al[ys2[i]].kind ≠ 2 ∨ k = cl[ys2[i]].length → wp (ih (.int .i64 ((i : Int) + ((1 : Nat) : Int)), .slice bw 0 (sizeM q) 0 true, .slice b2 0 (sizeM q) (sizeM q) false, .slice b 0 al.length al.length false, l, ()) g' []) fun v _ => v = .bool true := by
      intro hend
      refine hih (al.length - (i + 1)) _ _ (by omega) ⟨i + 1, rfl, by omega, rfl, ?_, O'⟩
      rw [step]
      rcases hend with hk | rfl
      · rw [if_neg hk]
        have := hk0 hk
        subst this
        exact Aw'
      · rw [List.take_length] at Aw'
        by_cases hk : al[ys2[i]].kind = 2
        · rw [if_pos hk]; exact Aw'
        · rw [if_neg hk]
          have := hk0 hk
          rw [List.eq_nil_of_length_eq_zero this] at Aw'
          exact Aw'
    refine ww_fld Ba rfl (ww_eqlC (fun hk => ?_) fun hk => ?_)
    · have hk : al[ys2[i]].kind = 2 := hk
      repeat (first | with_reducible refine ww_condT ?_ | with_reducible refine ww_condF ?_ | (with_reducible refine ww_wantTT ?_; try dsimp only) | (with_reducible refine ww_wantTF ?_; try dsimp only) | (with_reducible refine ww_wantFT ?_; try dsimp only) | (with_reducible refine ww_wantFF ?_; try dsimp only) | (with_reducible refine ww_wantU ?_; try dsimp only) | with_reducible refine ww_pickT ?_ | with_reducible refine ww_pickF ?_ | (with_reducible refine ww_joinS ?_; try dsimp only) | with_reducible refine ww_leave ?_ | with_reducible refine ww_notT ?_ | with_reducible refine ww_notF ?_ | with_reducible refine ww_addI (by omega) ?_ | with_reducible refine ww_subI (by omega) ?_ | with_reducible refine ww_addU (by omega) ?_ | with_reducible refine ww_subU (by omega) ?_ | with_reducible refine ww_min ?_ | with_reducible refine ww_max ?_)
      refine ww_fld Ba rfl (ww_len Sc' (ww_lssC (fun hkc => ?_) fun hkc => ?_))
      · repeat (first | with_reducible refine ww_condT ?_ | with_reducible refine ww_condF ?_ | (with_reducible refine ww_wantTT ?_; try dsimp only) | (with_reducible refine ww_wantTF ?_; try dsimp only) | (with_reducible refine ww_wantFT ?_; try dsimp only) | (with_reducible refine ww_wantFF ?_; try dsimp only) | (with_reducible refine ww_wantU ?_; try dsimp only) | with_reducible refine ww_pickT ?_ | with_reducible refine ww_pickF ?_ | (with_reducible refine ww_joinS ?_; try dsimp only) | with_reducible refine ww_leave ?_ | with_reducible refine ww_notT ?_ | with_reducible refine ww_notF ?_ | with_reducible refine ww_addI (by omega) ?_ | with_reducible refine ww_subI (by omega) ?_ | with_reducible refine ww_addU (by omega) ?_ | with_reducible refine ww_subU (by omega) ?_ | with_reducible refine ww_min ?_ | with_reducible refine ww_max ?_)
        have hkl : k < cl[ys2[i]].length := by omega
        have hf : ∀ f, f < 2 → (cl[ys2[i]].flatMap encC)[k * 2 + f]? = (encC cl[ys2[i]][k])[f]? := fun f hf => by
          rw [flat_get (sz := 2) encC (fun _ => rfl) _ _ _ hf, List.getElem?_eq_getElem hkl]; rfl
        have hat := hc5 _ (List.getElem_mem hkl)
        refine ww_fld Ba rfl (ww_idxF Sc' (by omega) (by omega) (hf 0 (by omega)) (ww_fld Ba rfl (ww_idxF Sc' (by omega) (by omega) (hf 1 (by omega)) ?_)))
        obtain ⟨j, hj⟩ : ∃ j : Nat, cl[ys2[i]][k].1 = (j : Int) := ⟨cl[ys2[i]][k].1.toNat, by omega⟩
        rw [hj]
        refine ww_setI Aw' rfl rfl (by omega) (by rw [List.length_map, hlenX]; omega) fun h70 A70 F70 _ => ?_
        refine ww_addI (by omega) ?_
        refine hih2 (cl[ys2[i]].length - (k + 1)) _ _ (by omega) ⟨k + 1, rfl, by omega, rfl, fun hh => absurd hk hh, ?_, (F'.trans F70).mono (fun y _ hy => hy.elim id id)⟩
        rw [List.take_succ_eq_append_getElem hkl, List.foldl_append]
        have : putM ((cl[ys2[i]].take k).foldl putM (foldA (baseM zs) (pick al cl (ys2.take i)))) cl[ys2[i]][k] = ((cl[ys2[i]].take k).foldl putM (foldA (baseM zs) (pick al cl (ys2.take i)))).set j cl[ys2[i]][k].2 :=
          (if_pos (by rw [hlenX]; omega)).trans (by rw [show cl[ys2[i]][k].1.toNat = j by omega])
        show Row h70 bw ((putM ((cl[ys2[i]].take k).foldl putM (foldA (baseM zs) (pick al cl (ys2.take i)))) cl[ys2[i]][k]).map (.int .u64)) _ true
        rw [this, List.map_set]
        simpa using A70
      · repeat (first | with_reducible refine ww_condT ?_ | with_reducible refine ww_condF ?_ | (with_reducible refine ww_wantTT ?_; try dsimp only) | (with_reducible refine ww_wantTF ?_; try dsimp only) | (with_reducible refine ww_wantFT ?_; try dsimp only) | (with_reducible refine ww_wantFF ?_; try dsimp only) | (with_reducible refine ww_wantU ?_; try dsimp only) | with_reducible refine ww_pickT ?_ | with_reducible refine ww_pickF ?_ | (with_reducible refine ww_joinS ?_; try dsimp only) | with_reducible refine ww_leave ?_ | with_reducible refine ww_notT ?_ | with_reducible refine ww_notF ?_ | with_reducible refine ww_addI (by omega) ?_ | with_reducible refine ww_subI (by omega) ?_ | with_reducible refine ww_addU (by omega) ?_ | with_reducible refine ww_subU (by omega) ?_ | with_reducible refine ww_min ?_ | with_reducible refine ww_max ?_)
        exact next (.inr (by omega))
    · have hk : ¬ al[ys2[i]].kind = 2 := hk
      repeat (first | with_reducible refine ww_condT ?_ | with_reducible refine ww_condF ?_ | (with_reducible refine ww_wantTT ?_; try dsimp only) | (with_reducible refine ww_wantTF ?_; try dsimp only) | (with_reducible refine ww_wantFT ?_; try dsimp only) | (with_reducible refine ww_wantFF ?_; try dsimp only) | (with_reducible refine ww_wantU ?_; try dsimp only) | with_reducible refine ww_pickT ?_ | with_reducible refine ww_pickF ?_ | (with_reducible refine ww_joinS ?_; try dsimp only) | with_reducible refine ww_leave ?_ | with_reducible refine ww_notT ?_ | with_reducible refine ww_notF ?_ | with_reducible refine ww_addI (by omega) ?_ | with_reducible refine ww_subI (by omega) ?_ | with_reducible refine ww_addU (by omega) ?_ | with_reducible refine ww_subU (by omega) ?_ | with_reducible refine ww_min ?_ | with_reducible refine ww_max ?_)
      exact next (.inl hk)
  · have hi : i = ys2.length := by omega
    subst hi
    rw [List.take_length] at Aw
    refine ww_callZ (by decide) (sameU_ok (by omega) (Sl.of_row0 (D := fun _ => True) A13g trivial (by simp [hlenF])) (Sl.of_row0 (D := fun _ => True) Aw trivial (by simp [hlenF])) (by omega)) ?_
    rintro v g3 ⟨rfl, rfl⟩
    exact ww_leave (ww_ret (by simp))

theorem told {h : AH} {l : List AV} (H : WTs Try.prog h 8 Try.f5.params.toList l) : wp (W5 (withRun 3 (callT tab rtab 60)) l h) fun v _ => v = .bool true := by
  have e : Try.f5.params.toList = [39, 31] := by kernel_rfl
  rw [e] at H
  obtain ⟨a0, a1, rfl, H0, H1⟩ := WTs2 H
  simp only [WTV, Try.underlying3, Try.underlying4, Try.underlying22, Try.underlying24, Try.underlying25, Try.underlying31, Try.underlying39, Try.underlying50] at H0 H1
  obtain ⟨p, ds, S0, hd⟩ := wt_draws H0
  obtain ⟨zs, S1, _⟩ := WT_ints Try.underlying31 Try.underlying22 (by kernel_rfl) H1
  obtain ⟨hs, hr⟩ := WT_shut Try.underlying31 (by rw [show Try.prog.cellsOf 22 = 1 by kernel_rfl]; omega) H1
  exact law (by omega) S0 hd S1 hs hr

end Go.Proofs.Ytlmfnmppcdijfaa.historyHeap
