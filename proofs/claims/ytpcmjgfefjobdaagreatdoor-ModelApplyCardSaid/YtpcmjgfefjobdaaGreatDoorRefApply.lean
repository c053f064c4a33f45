/- Cells applied to words: by the document's own text. -/
import Derived.Test.YtpcmjgfefjobdaaGreatDoorApply
namespace Go.Proofs.YtpcmjgfefjobdaaGreatDoor
open Go Go.Ae
set_option maxRecDepth 100000

theorem held_ok {n : Nat} (hn : 1 ≤ n) {x lo hi : Int} {h : AH} (hl : lo ≤ hi) : wp (callT tab rtab n (.fn 41 [] []) [.int .i64 x, .int .i64 lo, .int .i64 hi] h) fun v h' => v = .int .i64 (max lo (min x hi)) ∧ h' = h := by
  refine ww_fn (g := W41) rfl (by omega) fun k hk => ?_
  show wp (S41 (callT tab rtab k) _ _ _ _) _
  unfold S41
  try simp only [Int.ofNat_eq_natCast]
  repeat' (first | with_reducible refine ww_condT ?_ | with_reducible refine ww_condF ?_ | (with_reducible refine ww_wantTT ?_; try dsimp only) | (with_reducible refine ww_wantTF ?_; try dsimp only) | (with_reducible refine ww_wantFT ?_; try dsimp only) | (with_reducible refine ww_wantFF ?_; try dsimp only) | (with_reducible refine ww_wantU ?_; try dsimp only) | with_reducible refine ww_pickT ?_ | with_reducible refine ww_pickF ?_ | (with_reducible refine ww_joinS ?_; try dsimp only) | with_reducible refine ww_leave ?_ | with_reducible refine ww_notT ?_ | with_reducible refine ww_notF ?_ | with_reducible refine ww_addI (by omega) ?_ | with_reducible refine ww_subI (by omega) ?_ | with_reducible refine ww_addU (by omega) ?_ | with_reducible refine ww_subU (by omega) ?_ | with_reducible refine ww_min ?_ | with_reducible refine ww_max ?_ | with_reducible refine ww_lssC (fun hc => ?_) (fun hc => ?_) | with_reducible refine ww_leqC (fun hc => ?_) (fun hc => ?_) | with_reducible refine ww_gtrC (fun hc => ?_) (fun hc => ?_) | with_reducible refine ww_geqC (fun hc => ?_) (fun hc => ?_) | with_reducible refine ww_eqlC (fun hc => ?_) (fun hc => ?_) | with_reducible refine ww_neqC (fun hc => ?_) (fun hc => ?_) | with_reducible refine ww_condB (fun hc => ?_) (fun hc => ?_))
  all_goals refine ww_ret ⟨?_, rfl⟩
  all_goals congr 1
  all_goals omega

theorem newlevels_ok {n : Nat} (hn : 2 ≤ n) {x : Int} {h : AH} : wp (callT tab rtab n (.fn 42 [] []) [.int .i64 x] h) fun v h' => (∃ b, v = .ptr b 0) ∧ Old h.nx h h' := by
  refine ww_fn (g := W42) rfl (by omega) fun k hk => ?_
  show wp (S42 (callT tab rtab k) _ _) _
  unfold S42
  try simp only [Int.ofNat_eq_natCast]
  refine ww_call (held_ok (by omega) (by omega)) ?_
  rintro v g ⟨rfl, rfl⟩
  refine ww_make (Nat.le_refl _) (by omega) fun b h3 hb A F => ?_
  refine ww_build rfl (ww_box rfl fun b5 h6 hb5 A5 F5 => ww_ret ⟨⟨b5, rfl⟩, ?_⟩)
  exact ((Old.refl g.nx g).step F (fun _ hf => hf.elim)).step F5 (fun _ hf => hf.elim)

theorem newview_ok {n : Nat} (hn : 3 ≤ n) {x : Int} {p : Nat} {h : AH} : wp (callT tab rtab n (.fn 23 [] []) [.int .i64 (p : Int), .int .i64 x] h) fun v h' =>
    ∃ b e l, v = .ptr b 0 ∧ h.nx ≤ b ∧ Row h' b [.int .i64 (sizeM p : Nat), .nils, l, .int .i64 0] e false ∧ Old h.nx h h' := by
  refine ww_fn (g := W23) rfl (by omega) fun k hk => ?_
  show wp (S23 (callT tab rtab k) _ _ _) _
  unfold S23
  try simp only [Int.ofNat_eq_natCast]
  refine ww_call (held_ok (by omega) (by omega)) ?_
  rintro v g ⟨rfl, rfl⟩
  refine ww_call (newlevels_ok (by omega)) ?_
  rintro v g' ⟨⟨b, rfl⟩, O⟩
  refine ww_build rfl (ww_box rfl fun b5 h6 hb5 A5 F5 => ww_ret ?_)
  rw [show max ((32 : Nat) : Int) (min (p : Int) ((256 : Nat) : Int)) = ((sizeM p : Nat) : Int) by unfold sizeM; omega] at A5
  exact ⟨b5, _, .ptr b 0, rfl, Nat.le_trans O.nx hb5, A5, O.step F5 (fun _ hf => hf.elim)⟩

def kM (zs : List Int) : List (Int × Int) := (List.range (sizeM zs.length - 1)).map fun i => (((i + 1 : Nat) : Int), (baseM zs)[i + 1]?.getD 0)
theorem kM_len (zs : List Int) : (kM zs).length = sizeM zs.length - 1 := by simp [kM]
theorem base_get (zs : List Int) {i : Nat} (hi : i < sizeM zs.length) (h0 : 0 < i) : (baseM zs)[i]?.getD 0 = zs[i]?.getD 0 := by
  simp [baseM, List.getElem?_range hi, show ¬ i = 0 by omega]

theorem whole_ok {D : Nat → Prop} {n p : Nat} (hn : 4 ≤ n) {a0 : AV} {x : Int} {zs : List Int} {h : AH} (S0 : Sl D h 1 p a0 (zs.map (.int .u64))) (hp : p < 1000000000) :
    wp (callT tab rtab n (.fn 12 [] []) [a0, .int .i64 x] h) fun v h' =>
      ∃ b e l kv, v = .ptr b 0 ∧ h.nx ≤ b ∧ Row h' b [.int .i64 (sizeM p : Nat), kv, l, .int .i64 0] e false ∧ Sl (fun y => h.nx ≤ y) h' 2 (sizeM p - 1) kv ((kM zs).flatMap encC) ∧ Old h.nx h h' := by
  have hzl : zs.length = p := by simpa using S0.len
  have hN := sizeM_bounds p
  refine ww_fn (g := W12) rfl (by omega) fun k hk => ?_
  show wp (S12 (callT tab rtab k) _ _ _) _
  unfold S12
  try simp only [Int.ofNat_eq_natCast]
  refine ww_len S0 ?_
  refine ww_call (newview_ok (by omega)) ?_
  rintro v g ⟨b, e, l, rfl, hb, A, O⟩
  refine ww_iter (fun m s g => ∃ (i : Nat) (kv : AV), s = (.int .i64 (i + 1 : Nat), .ptr b 0, a0, ()) ∧ i + 1 ≤ sizeM p ∧ m = sizeM p - (i + 1) ∧ Row g b [.int .i64 (sizeM p : Nat), kv, l, .int .i64 0] e false ∧
    Acc (fun y => h.nx ≤ y ∧ y ≠ b) g 27 2 i kv (((kM zs).take i).flatMap encC) ∧ Old h.nx h g) ?_ (m := sizeM p - 1) (by show _ < 1000000000; omega) ⟨0, .nils, rfl, by omega, by omega, A, by simpa using Acc.nils, O⟩
  rintro m ih s g hih ⟨i, kv, rfl, h1, rfl, A, C, O⟩
  dsimp only
  have S0g := S0.old O
  refine ww_nil (ww_fld A rfl (ww_lssC (fun hlt => ww_condT ?_) fun hge => ww_condF (ww_leave (ww_ret ?_))))
  · have hi : i + 1 < sizeM p := by omega
    have hk : (kM zs)[i]? = some (((i + 1 : Nat) : Int), zs[i + 1]?.getD 0) := by
      unfold kM
      rw [List.getElem?_map, List.getElem?_range (by rw [hzl]; omega), Option.map_some, base_get zs (by rw [hzl]; omega) (by omega)]
    refine ww_joinD [] (fun s g' => s = (.int .u64 (zs[i + 1]?.getD 0), .int .i64 (i + 1 : Nat), .ptr b 0, a0, ()) ∧ g' = g) ?_ ?_
    · intro j hj
      refine ww_len S0g (ww_lssC (fun hl => ww_condT ?_) fun hl => ww_condF ?_)
      · refine ww_idx1 S0g (x := .int .u64 zs[i + 1]) (by rw [List.getElem?_map, List.getElem?_eq_getElem (by omega)]; rfl) (hj _ _ ⟨?_, rfl⟩)
        rw [List.getElem?_eq_getElem (by omega)]; rfl
      · refine hj _ _ ⟨?_, rfl⟩
        rw [List.getElem?_eq_none (by omega)]; rfl
    · rintro s g' ⟨rfl, rfl⟩
      dsimp only
      refine ww_nil (ww_fld A rfl (ww_build rfl (ww_buildS rfl rfl fun b2 h20 hb2 A2 F2 => ?_)))
      have C2 := C.fr F2 (fun _ _ hf => hf)
      have A3 := A.fr F2 (fun hf => hf)
      have hbg := A.lt
      refine ww_app C2 (Sl.of_row0 (D := fun _ => True) A2 trivial rfl) (by omega) (by omega) rfl fun kv' h22 C4 F4 => ?_
      have A5 := A3.fr F4 (fun hf => hf.2 rfl)
      refine ww_nil (ww_setF A5 ?_ ?_ (by simp) fun h25 A6 F6 hx6 => ?_)
      · obtain ⟨_, ⟨rfl, _⟩ | ⟨_, rfl, _⟩⟩ := C4 <;> rfl
      · obtain ⟨_, ⟨rfl, _⟩ | ⟨_, rfl, _⟩⟩ := C4 <;> rfl
      refine ww_addI (by omega) ?_
      refine hih (sizeM p - (i + 1 + 1)) _ _ (by omega) ⟨i + 1, kv', rfl, by omega, rfl, A6, ?_, ?_⟩
      · have := (C4.fr F6 (by have := F2.nx; rintro y (hy | hy) rfl <;> omega)).mono (D' := fun y => h.nx ≤ y ∧ y ≠ b) (by rintro y (hy | hy); exact hy; exact ⟨by have := O.nx; have := F2.nx; omega, by have := F2.nx; omega⟩)
        rw [List.take_add_one, hk, List.flatMap_append]
        exact this
      · exact ((O.step F2 (fun _ hf => hf.elim)).step F4 (fun y hy => hy.1)).step F6 (by rintro y rfl; exact hb)
  · refine ⟨b, e, l, kv, rfl, hb, A, ?_, O⟩
    have hi : i = sizeM p - 1 := by omega
    subst hi
    have := C.sl.mono (D' := fun y => h.nx ≤ y) (fun y hy => hy.1)
    rw [List.take_of_length_le (by rw [kM_len, hzl]; exact Nat.le_refl _)] at this
    exact this

theorem in_ok {n : Nat} (hn : 1 ≤ n) {b : Nat} {x s : Int} {l1 l2 l3 : AV} {e : TypeId} {h : AH} (A : Row h b [.int .i64 s, l1, l2, l3] e false) :
    wp (callT tab rtab n (.fn 13 [] []) [.ptr b 0, .int .i64 x] h) fun v h' => v = .bool (decide (1 ≤ x ∧ x < s)) ∧ h' = h := by
  refine ww_fn (g := W13) rfl (by omega) fun k hk => ?_
  show wp (S13 (callT tab rtab k) _ _ _) _
  unfold S13
  try simp only [Int.ofNat_eq_natCast]
  refine ww_geqC (fun h1 => ?_) fun h1 => ?_
  · repeat (first | with_reducible refine ww_condT ?_ | with_reducible refine ww_condF ?_ | (with_reducible refine ww_wantTT ?_; try dsimp only) | (with_reducible refine ww_wantTF ?_; try dsimp only) | (with_reducible refine ww_wantFT ?_; try dsimp only) | (with_reducible refine ww_wantFF ?_; try dsimp only) | (with_reducible refine ww_wantU ?_; try dsimp only) | with_reducible refine ww_pickT ?_ | with_reducible refine ww_pickF ?_ | (with_reducible refine ww_joinS ?_; try dsimp only) | with_reducible refine ww_leave ?_ | with_reducible refine ww_notT ?_ | with_reducible refine ww_notF ?_ | with_reducible refine ww_addI (by omega) ?_ | with_reducible refine ww_subI (by omega) ?_ | with_reducible refine ww_addU (by omega) ?_ | with_reducible refine ww_subU (by omega) ?_ | with_reducible refine ww_min ?_ | with_reducible refine ww_max ?_)
    refine ww_nil (ww_fld A rfl (ww_lss ?_))
    repeat (first | with_reducible refine ww_condT ?_ | with_reducible refine ww_condF ?_ | (with_reducible refine ww_wantTT ?_; try dsimp only) | (with_reducible refine ww_wantTF ?_; try dsimp only) | (with_reducible refine ww_wantFT ?_; try dsimp only) | (with_reducible refine ww_wantFF ?_; try dsimp only) | (with_reducible refine ww_wantU ?_; try dsimp only) | with_reducible refine ww_pickT ?_ | with_reducible refine ww_pickF ?_ | (with_reducible refine ww_joinS ?_; try dsimp only) | with_reducible refine ww_leave ?_ | with_reducible refine ww_notT ?_ | with_reducible refine ww_notF ?_ | with_reducible refine ww_addI (by omega) ?_ | with_reducible refine ww_subI (by omega) ?_ | with_reducible refine ww_addU (by omega) ?_ | with_reducible refine ww_subU (by omega) ?_ | with_reducible refine ww_min ?_ | with_reducible refine ww_max ?_)
    refine ww_ret ⟨?_, rfl⟩
    congr 1
    exact decide_eq_decide.2 ⟨fun h2 => ⟨h1, h2⟩, fun h2 => h2.2⟩
  · repeat (first | with_reducible refine ww_condT ?_ | with_reducible refine ww_condF ?_ | (with_reducible refine ww_wantTT ?_; try dsimp only) | (with_reducible refine ww_wantTF ?_; try dsimp only) | (with_reducible refine ww_wantFT ?_; try dsimp only) | (with_reducible refine ww_wantFF ?_; try dsimp only) | (with_reducible refine ww_wantU ?_; try dsimp only) | with_reducible refine ww_pickT ?_ | with_reducible refine ww_pickF ?_ | (with_reducible refine ww_joinS ?_; try dsimp only) | with_reducible refine ww_leave ?_ | with_reducible refine ww_notT ?_ | with_reducible refine ww_notF ?_ | with_reducible refine ww_addI (by omega) ?_ | with_reducible refine ww_subI (by omega) ?_ | with_reducible refine ww_addU (by omega) ?_ | with_reducible refine ww_subU (by omega) ?_ | with_reducible refine ww_min ?_ | with_reducible refine ww_max ?_)
    refine ww_ret ⟨?_, rfl⟩
    rw [decide_eq_false (fun h2 => h1 h2.1)]

theorem refapply_ok {D1 D2 : Nat → Prop} {n p q : Nat} (hn : 5 ≤ n) {a0 a1 : AV} {zs : List Int} {cs : List (Int × Int)} {h : AH} (S0 : Sl D1 h 1 p a0 (zs.map (.int .u64)))
    (S1 : Sl D2 h 2 q a1 (cs.flatMap encC)) (hp : p < 1000000000) (hq : q < 1000000000) :
    wp (callT tab rtab n (.fn 8 [] []) [a0, a1] h) fun v h' => ∃ b e, v = .slice b 0 (sizeM p) (sizeM p) false ∧ h.nx ≤ b ∧ Row h' b ((applyM zs cs).map (.int .u64)) e false ∧ Old h.nx h h' := by
  have hzl : zs.length = p := by simpa using S0.len
  have hcl : cs.length = q := by
    have := S1.len
    rw [flat_len (sz := 2) encC (fun _ => rfl)] at this
    omega
  have hN := sizeM_bounds p
  refine ww_fn (g := W8) rfl (by omega) fun k hk => ?_
  show wp (S8 (callT tab rtab k) _ _ _) _
  unfold S8
  try simp only [Int.ofNat_eq_natCast]
  refine ww_call (whole_ok (by omega) S0 hp) ?_
  rintro v g ⟨bv, ev, lv, kv, rfl, hbv, Av, Kv, O⟩
  refine ww_nil (ww_fld Av rfl (ww_make (Nat.le_refl _) (by omega) fun b h6 hb A F => ?_))
  rw [repl_one] at A
  have hbvg := Av.lt
  have Av6 := Av.fr F (fun hf => hf)
  have Kv6 := Kv.fr F (fun _ _ hf => hf)
  have O6 := O.step F (fun _ hf => hf.elim)
  -- all that is known, word by word
  have A0 : ∃ e, Row h6 b ((((baseM zs).take (0 + 1)) ++ List.replicate (sizeM p - (0 + 1)) 0).map (.int .u64)) e false := by
    have : (((baseM zs).take (0 + 1)) ++ List.replicate (sizeM p - (0 + 1)) 0).map (AV.int .u64) = List.replicate (sizeM p) (AV.int .u64 ((0 : Nat) : Int)) := by
      have h1 : (baseM zs).take 1 = [0] := by
        obtain ⟨k, hk⟩ : ∃ k, sizeM zs.length = k + 1 := ⟨sizeM zs.length - 1, by rw [hzl]; omega⟩
        unfold baseM
        rw [hk, List.range_succ_eq_map]
        simp
      rw [h1]
      obtain ⟨k, hk⟩ : ∃ k, sizeM p = k + 1 := ⟨sizeM p - 1, by omega⟩
      rw [hk]
      simp [List.replicate_succ]
    rw [this]; exact ⟨_, A⟩
  refine ww_iter (fun m s g' => ∃ i : Nat, s = (.int .i64 (i : Nat), .slice b 0 (sizeM p) (sizeM p) false, .ptr bv 0, a1, ()) ∧ i + 1 ≤ sizeM p ∧ m = sizeM p - (i + 1) ∧
    (∃ e, Row g' b ((((baseM zs).take (i + 1)) ++ List.replicate (sizeM p - (i + 1)) 0).map (.int .u64)) e false) ∧ Fr (fun y => y = b) h6 g') ?_ (m := sizeM p - 1) (by show _ < 1000000000; omega) ⟨0, rfl, by omega, by omega, A0, Fr.refl _ _⟩
  rintro m ih s g' hih ⟨i, rfl, h1, rfl, ⟨e, A⟩, Fg⟩
  dsimp only
  have Avg := Av6.fr Fg (by omega)
  have Kvg := Kv.old (((Old.refl g.nx g).step F (fun _ hf => hf.elim)).step Fg (by rintro y rfl; exact hb))
  have hbl : (baseM zs).length = sizeM p := by rw [baseM_len, hzl]
  refine ww_nil (ww_fld Avg rfl (ww_len Kvg (ww_lssC (fun hlt => ww_condT ?_) fun hge => ww_condF ?_)))
  · have hi : i < sizeM p - 1 := by omega
    have hk : (kM zs)[i]? = some (((i + 1 : Nat) : Int), (baseM zs)[i + 1]) := by
      unfold kM
      rw [List.getElem?_map, List.getElem?_range (by rw [hzl]; omega), Option.map_some, List.getElem?_eq_getElem (by omega)]; rfl
    have hf : ∀ f, f < 2 → ((kM zs).flatMap encC)[i * 2 + f]? = (encC (((i + 1 : Nat) : Int), (baseM zs)[i + 1]))[f]? := fun f hf => by
      rw [flat_get (sz := 2) encC (fun _ => rfl) _ _ _ hf, hk]; rfl
    refine ww_nil (ww_fld Avg rfl (ww_idxF Kvg (by omega) hi (hf 0 (by omega)) ?_))
    refine ww_nil (ww_fld Avg rfl (ww_idxF Kvg (by omega) hi (hf 1 (by omega)) ?_))
    refine ww_setI A rfl rfl (by omega) (by simp; omega) fun h29 A29 F29 _ => ?_
    refine ww_addI (by omega) (hih (sizeM p - (i + 1 + 1)) _ _ (by omega) ⟨i + 1, rfl, by omega, rfl, ⟨e, ?_⟩, (Fg.trans F29).mono (fun y _ hy => hy.elim id id)⟩)
    have : (((baseM zs).take (i + 1 + 1)) ++ List.replicate (sizeM p - (i + 1 + 1)) 0).map (AV.int .u64) = (((((baseM zs).take (i + 1)) ++ List.replicate (sizeM p - (i + 1)) 0).map (AV.int .u64)).set (0 + (i + 1)) (.int .u64 (baseM zs)[i + 1])) := by
      rw [← List.map_set]
      congr 1
      apply List.ext_getElem?
      intro j
      rw [Nat.zero_add, List.getElem?_set]
      by_cases h1 : i + 1 = j
      · subst h1
        rw [if_pos rfl, if_pos (by simp; omega), List.getElem?_append_left (by simp; omega), List.getElem?_take_of_lt (by omega), List.getElem?_eq_getElem (by omega)]
      · rw [if_neg h1]
        by_cases h2 : j < i + 1
        · rw [List.getElem?_append_left (by simp; omega), List.getElem?_append_left (by simp; omega), List.getElem?_take_of_lt (by omega), List.getElem?_take_of_lt (by omega)]
        · rw [List.getElem?_append_right (by simp; omega), List.getElem?_append_right (by simp; omega), List.getElem?_replicate, List.getElem?_replicate]
          have e1 : ((baseM zs).take (i + 1 + 1)).length = i + 1 + 1 := by simp; omega
          have e2 : ((baseM zs).take (i + 1)).length = i + 1 := by simp; omega
          rw [e1, e2]
          by_cases h3 : j < sizeM p
          · rw [if_pos (by omega), if_pos (by omega)]
          · rw [if_neg (by omega), if_neg (by omega)]
    rw [this]; exact A29
  · -- then the cells
    have hi : i + 1 = sizeM p := by omega
    rw [hi, Nat.sub_self, List.replicate_zero, List.append_nil, List.take_of_length_le (by omega)] at A
    have O' : Old h.nx h g' := O6.step Fg (by rintro y rfl; exact Nat.le_trans O.nx hb)
    refine ww_iter (fun m s g2 => ∃ i : Nat, s = (.int .i64 (i : Nat), .slice b 0 (sizeM p) (sizeM p) false, .ptr bv 0, a1, ()) ∧ i ≤ q ∧ m = q - i ∧
      Row g2 b (((cs.take i).foldl putM (baseM zs)).map (.int .u64)) e false ∧ Fr (fun y => y = b) g' g2) ?_ (m := q) (by show q < 1000000000; omega) ⟨0, rfl, by omega, by omega, A, Fr.refl _ _⟩
    rintro m ih2 s g2 hih2 ⟨i2, rfl, h2, rfl, A, F2⟩
    dsimp only
    have O2 : Old h.nx h g2 := O'.step F2 (by rintro y rfl; exact Nat.le_trans O.nx hb)
    have S1g := S1.old O2
    have Av2 := Avg.fr F2 (by omega)
    have hlen : ((cs.take i2).foldl putM (baseM zs)).length = sizeM p := by rw [foldM_len, baseM_len, hzl]
    refine ww_len S1g (ww_lssC (fun hlt => ww_condT ?_) fun hge => ww_condF (ww_leave (ww_ret ?_)))
    · have hi2 : i2 < q := by omega
      have hf : ∀ f, f < 2 → (cs.flatMap encC)[i2 * 2 + f]? = (encC cs[i2])[f]? := fun f hf => by
        rw [flat_get (sz := 2) encC (fun _ => rfl) _ _ _ hf, List.getElem?_eq_getElem (by omega)]; rfl
      refine ww_joinS ?_
      refine ww_idxF S1g (by omega) hi2 (hf 0 (by omega)) (ww_call (in_ok (by omega) Av2) ?_)
      rintro v g3 ⟨rfl, rfl⟩
      have next : ∀ g', Row g' b ((putM ((cs.take i2).foldl putM (baseM zs)) cs[i2]).map (.int .u64)) e false → Fr (fun y => y = b) g3 g' → wp (ih2 (.int .i64 ((i2 : Int) + ((1 : Nat) : Int)), .slice b 0 (sizeM p) (sizeM p) false, .ptr bv 0, a1, ()) g' []) fun v h' => ∃ b e, v = .slice b 0 (sizeM p) (sizeM p) false ∧ h.nx ≤ b ∧ Row h' b ((applyM zs cs).map (.int .u64)) e false ∧ Old h.nx h h' := fun g' A' F' =>
        hih2 (q - (i2 + 1)) _ _ (by omega) ⟨i2 + 1, rfl, by omega, rfl, by rw [List.take_succ_eq_append_getElem (by omega), List.foldl_append]; exact A', (F2.trans F').mono (fun y _ hy => hy.elim id id)⟩
      refine ww_cond (fun hin => ?_) fun hin => ?_
      · refine ww_idxF S1g (by omega) hi2 (hf 0 (by omega)) (ww_idxF S1g (by omega) hi2 (hf 1 (by omega)) ?_)
        obtain ⟨j, hj⟩ : ∃ j : Nat, cs[i2].1 = (j : Int) := ⟨cs[i2].1.toNat, by omega⟩
        rw [hj]
        refine ww_setI A rfl rfl (by omega) (by simp [hlen]; omega) fun h39 A39 F39 hx39 => ?_
        repeat (first | with_reducible refine ww_condT ?_ | with_reducible refine ww_condF ?_ | (with_reducible refine ww_wantTT ?_; try dsimp only) | (with_reducible refine ww_wantTF ?_; try dsimp only) | (with_reducible refine ww_wantFT ?_; try dsimp only) | (with_reducible refine ww_wantFF ?_; try dsimp only) | (with_reducible refine ww_wantU ?_; try dsimp only) | with_reducible refine ww_pickT ?_ | with_reducible refine ww_pickF ?_ | (with_reducible refine ww_joinS ?_; try dsimp only) | with_reducible refine ww_leave ?_ | with_reducible refine ww_notT ?_ | with_reducible refine ww_notF ?_ | with_reducible refine ww_addI (by omega) ?_ | with_reducible refine ww_subI (by omega) ?_ | with_reducible refine ww_addU (by omega) ?_ | with_reducible refine ww_subU (by omega) ?_ | with_reducible refine ww_min ?_ | with_reducible refine ww_max ?_)
        refine next h39 ?_ F39
        rw [show putM ((cs.take i2).foldl putM (baseM zs)) cs[i2] = ((cs.take i2).foldl putM (baseM zs)).set j cs[i2].2 from (if_pos (by rw [hlen]; omega)).trans (by rw [show cs[i2].1.toNat = j by omega]), List.map_set]
        simpa using A39
      · repeat (first | with_reducible refine ww_condT ?_ | with_reducible refine ww_condF ?_ | (with_reducible refine ww_wantTT ?_; try dsimp only) | (with_reducible refine ww_wantTF ?_; try dsimp only) | (with_reducible refine ww_wantFT ?_; try dsimp only) | (with_reducible refine ww_wantFF ?_; try dsimp only) | (with_reducible refine ww_wantU ?_; try dsimp only) | with_reducible refine ww_pickT ?_ | with_reducible refine ww_pickF ?_ | (with_reducible refine ww_joinS ?_; try dsimp only) | with_reducible refine ww_leave ?_ | with_reducible refine ww_notT ?_ | with_reducible refine ww_notF ?_ | with_reducible refine ww_addI (by omega) ?_ | with_reducible refine ww_subI (by omega) ?_ | with_reducible refine ww_addU (by omega) ?_ | with_reducible refine ww_subU (by omega) ?_ | with_reducible refine ww_min ?_ | with_reducible refine ww_max ?_)
        refine next _ ?_ (Fr.refl _ _)
        rw [show putM ((cs.take i2).foldl putM (baseM zs)) cs[i2] = (cs.take i2).foldl putM (baseM zs) from if_neg (by rw [hlen]; omega)]
        exact A
    · refine ⟨b, e, rfl, Nat.le_trans O.nx hb, ?_, O2⟩
      rw [List.take_of_length_le (by omega)] at A
      exact A
end Go.Proofs.YtpcmjgfefjobdaaGreatDoor
