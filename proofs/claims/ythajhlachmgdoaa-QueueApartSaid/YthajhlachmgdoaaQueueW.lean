/- Queues: the walks. -/
import Derived.Test.YthajhlachmgdoaaDraftD
import Derived.Test.YthajhlachmgdoaaQueueR
namespace Go.Proofs.Ythajhlachmgdoaa.arenaParts
open Go Go.Ae arenaPlays
set_option maxRecDepth 100000

variable {g h : AH} {L R : List SP}

theorem wd1 {a x : Int} (h : 0 ≤ x ∧ x < 18446744073709551616) : WdC [(a, x)] := .one1 h
theorem qpush1_ok {n : Nat} (hn : 13 ≤ n) {d br bx : Nat} {P0 : SP} {D : DM} {root x : Int} {sz : Nat} (H : HS g h (DrC d D :: P0 :: ObjC bx [.int .u64 x] :: ObjC br [.int .i64 root] :: R)) (G : GoodD D sz 5) (hx : 0 ≤ x ∧ x < 18446744073709551616) :
    wp (callT tab rtab n (.fn 31 [] [.ptr br 0, .ptr bx 0]) [.ptr d 0] h) fun _ h2 => ∃ (o : Option Unit) (D' : DM), EqR (runA (pushA sz root x) D) (o, D') ∧ GoodD D' sz 10 ∧ HS g h2 (DrC d D' :: P0 :: ObjC bx [.int .u64 x] :: ObjC br [.int .i64 root] :: R) := by
  refine ww_fc (g := W31) rfl (by omega) fun k hk => ?_
  show wp (S31 (callT tab rtab k) _ _ _ _) _
  unfold S31
  try simp only [Int.ofNat_eq_natCast]
  refine ww_ldH H (.there (.there (.there .here))) rfl ?_
  refine ww_call (dplace_ok (by omega) H G) ?_
  rintro _ h1 ⟨rfl, H1⟩
  have G1 := G.place (p := root)
  have E1 : EqR (runA (pushA sz root x) D) (runA (if (placeD D root).1 ≠ 0 then placeA (placeD D root).1 fun front => pushT sz x (placeD D root).1 front else allocA sz 2 fun hd => .take [(root, hd)] (pushT sz x hd 0)) (placeD D root).2) := run_place
  generalize placeD D root = q1 at *
  obtain ⟨hd, D1⟩ := q1
  obtain ⟨G1, b1, b2⟩ := G1
  dsimp only at *
  refine ww_joinD [] (fun s h' => ∃ (hd front : Int) (D2 : DM), s = (.int .i64 front, .int .i64 hd, .ptr bx 0, .ptr d 0, ()) ∧ EqR (runA (pushA sz root x) D) (runA (pushT sz x hd front) D2) ∧ GoodD D2 sz 5 ∧ (0 ≤ hd ∧ hd ≤ 2147483648) ∧
    HS g h' (DrC d D2 :: P0 :: ObjC bx [.int .u64 x] :: ObjC br [.int .i64 root] :: R)) ?_ ?_
  · intro j hj
    by_cases c0 : hd = 0
    · subst c0
      rw [if_neg (by omega)] at E1
      refine ww_neqF rfl (ww_condF ?_)
      refine ww_call (dok_ok (by omega) H1) ?_
      rintro _ h1 ⟨rfl, rfl⟩
      by_cases c1 : D1.err = 0
      · rw [decide_eq_true c1]
        with_reducible (refine ww_condT ?_)
        refine ww_call (dalloc_ok (by omega) H1 G1) ?_
        rintro _ h2 ⟨rfl, H2⟩
        have G2 := G1.alloc (n := 2)
        have E2 := E1.trans (by rw [← G1.sz]; exact run_alloc)
        generalize ha : allocD D1 2 = q2 at *
        obtain ⟨n1, D2⟩ := q2
        obtain ⟨G2, b3, b4⟩ := G2
        dsimp only at *
        refine ww_ldH H2 (.there (.there (.there .here))) rfl ?_
        refine ww_call (dpoint_ok (by omega) (by omega) H2 G2.g.ok) ?_
        intro _ h3 H3
        rw [G1.sz] at E2
        exact hj _ _ ⟨n1, 0, _, rfl, E2.trans run_take, G2.take (wd1 (by omega)), by omega, H3⟩
      · rw [decide_eq_false c1]
        with_reducible (refine ww_condF ?_)
        exact hj _ _ ⟨0, 0, D1, rfl, E1.trans (EqR.errs c1 ⟨rfl, rfl⟩), G1, by omega, H1⟩
    · rw [if_pos c0] at E1
      refine ww_neqT c0 (ww_condT ?_)
      refine ww_addI (by omega) ?_
      rw [show hd + ((0 : Nat) : Int) = hd by omega]
      refine ww_call (dplace_ok (by omega) H1 G1) ?_
      rintro _ h2 ⟨rfl, H2⟩
      exact hj _ _ ⟨hd, _, _, rfl, E1.trans run_place, G1.place.1, by omega, H2⟩
  clear E1 H1 G1 H
  rintro s h2 ⟨hd, front, D2, rfl, E2, G2, hb, H2⟩
  dsimp only
  unfold pushT at E2
  refine ww_call (dalloc_ok (by omega) H2 G2) ?_
  rintro _ h3 ⟨rfl, H3⟩
  have G3 := G2.alloc (n := 2)
  have E3 := E2.trans (by rw [← G2.sz]; exact run_alloc)
  generalize ha : allocD D2 2 = q3 at *
  obtain ⟨n1, D3⟩ := q3
  obtain ⟨G3, b3, b4⟩ := G3
  dsimp only at *
  refine ww_addI (by omega) ?_
  rw [show n1 + ((0 : Nat) : Int) = n1 by omega]
  refine ww_ldH H3 (.there (.there .here)) rfl ?_
  refine ww_call (dwrite_ok (by omega) H3 G3.g.ok) ?_
  intro _ h4 H4
  have G4 := G3.take (cs := [(n1, x)]) (wd1 hx)
  have E4 := E3.trans run_take
  refine ww_addI (by omega) ?_
  rw [show n1 + ((1 : Nat) : Int) = n1 + 1 from rfl]
  refine ww_call (dpoint_ok (x := ((0 : Nat) : Int)) (by omega) (by omega) H4 G4.g.ok) ?_
  intro _ h5 H5
  have G5 := G4.take (cs := [(n1 + 1, 0)]) (wd1 (by omega))
  have E5 := E4.trans run_take
  have H5 : HS g h5 (DrC d (takeD (takeD D3 [(n1, x)]) [(n1 + 1, 0)]) :: P0 :: ObjC bx [.int .u64 x] :: ObjC br [.int .i64 root] :: R) := H5
  generalize takeD (takeD D3 [(n1, x)]) [(n1 + 1, 0)] = D5 at *
  refine ww_joinD [] (fun s h' => ∃ (D6 : DM), s = (.int .i64 n1, .int .i64 hd, .ptr d 0, ()) ∧ EqR (runA (pushA sz root x) D) (runA (.take [(hd + 1, n1)] (.ret ())) D6) ∧ GoodD D6 sz 5 ∧
    HS g h' (DrC d D6 :: P0 :: ObjC bx [.int .u64 x] :: ObjC br [.int .i64 root] :: R)) ?_ ?_
  · intro j hj
    by_cases c0 : front = 0
    · subst c0
      rw [if_neg (by omega)] at E5
      refine ww_neqF rfl (ww_condF ?_)
      refine ww_addI (by omega) ?_
      rw [show hd + ((0 : Nat) : Int) = hd by omega]
      refine ww_call (dpoint_ok (by omega) (by omega) H5 G5.g.ok) ?_
      intro _ h6 H6
      exact hj _ _ ⟨_, rfl, E5.trans run_take, G5.take (wd1 (by omega)), H6⟩
    · rw [if_pos c0] at E5
      refine ww_neqT c0 (ww_condT ?_)
      refine ww_addI (by omega) ?_
      rw [show hd + ((1 : Nat) : Int) = hd + 1 from rfl]
      refine ww_call (dplace_ok (by omega) H5 G5) ?_
      rintro _ h6 ⟨rfl, H6⟩
      have G6 := G5.place (p := hd + 1)
      have E6 := E5.trans run_place
      generalize placeD D5 (hd + 1) = q6 at *
      obtain ⟨la, D6⟩ := q6
      obtain ⟨G6, b5, b6⟩ := G6
      dsimp only at *
      refine ww_addI (by omega) ?_
      refine ww_call (dpoint_ok (by omega) (by omega) H6 G6.g.ok) ?_
      intro _ h7 H7
      exact hj _ _ ⟨_, rfl, E6.trans run_take, G6.take (wd1 (by omega)), H7⟩
  clear E2 E3 E4 E5 H2 H3 H4 H5 G2 G3 G4 G5
  rintro s h6 ⟨D6, rfl, E6, G6, H6⟩
  dsimp only
  refine ww_addI (by omega) ?_
  refine ww_call (dpoint_ok (by omega) (by omega) H6 G6.g.ok) ?_
  intro _ h7 H7
  have G7 := G6.take (cs := [(hd + 1, n1)]) (wd1 (by omega))
  have E7 := E6.trans run_take
  refine ww_leave (ww_ret ⟨_, _, E7, ⟨G7.g, G7.sz, by have := G7.fr; omega, G7.st⟩, ?_⟩)
  exact H7

/-- a push onto an object of a view -/
theorem draft_good {M : VM} (G : GoodV M) : GoodD ⟨lvV M.sz M.K [] [] 0, 0, 0⟩ M.sz 5 := by
  refine ⟨⟨⟨G.ok.lo, G.ok.hi, newL_ok (show (96 : Nat) ≤ 96 by omega), G.ok.ins, G.ok.un, fun y hy => by rw [List.mem_singleton.1 hy]; show (0 : Nat) < 100000; omega⟩, ⟨G.wd.k, fun y hy c hc => by rw [List.mem_singleton.1 hy] at hc; cases hc⟩⟩, rfl, by show frS [([], [])] ≤ 5; simp [frS], by dsimp only; omega⟩
theorem qpush_ok {n : Nat} (hn : 15 ≤ n) {v : Nat} {M : VM} {root x : Int} (H : HS g h (ViewC v M :: R)) (G : GoodV M) (hlv : M.lv = [([], [])]) (hr : 6 ≤ root ∧ root < 14) (hx : 0 ≤ x ∧ x < 18446744073709551616) :
    wp (callT tab rtab n (.fn 9 [] []) [.ptr v 0, .int .i64 root, .int .u64 x] h) fun r h' => r = .int .i64 (doR M (pushA M.sz root x)).1 ∧ HS g h' (ViewC v (doR M (pushA M.sz root x)).2 :: R) := by
  (refine ww_fn (g := W9) rfl (by omega) fun k hk => ?_; show wp (S9 (callT tab rtab k) _ _ _ _) _; unfold S9; try simp only [Int.ofNat_eq_natCast])
  refine ww_box1 H ⟨rfl, rfl⟩ fun br h1 H1 => ?_
  refine ww_box1 H1 ⟨rfl, rfl⟩ fun bx h2 H2 => ?_
  refine ww_ldH H2 (.there .here) rfl ?_
  have GD := draft_good G
  refine ww_call (ddo_ok (act := pushA M.sz root x) (R1 := ObjC bx [.int .u64 x] :: ObjC br [.int .i64 root] :: R) (R2 := fun _ => ObjC bx [.int .u64 x] :: ObjC br [.int .i64 root] :: R) (by omega) (H2.sub (.cons (.there (.there .here)) (.cons .here (.cons .here .refl)))) G hlv hr ?_) ?_
  · intro m h3 d hm3 H3
    exact wp.mono (qpush1_ok (by omega) H3 GD hx) fun v h4 hq => hq
  · rintro _ h3 ⟨rfl, H3⟩
    exact ww_ret ⟨rfl, H3.sub (.cons .here (.drop (.drop .refl)))⟩

/-- what was taken, in its boxes -/
def BoxT (bx bt : Nat) (o : Option (Int × Bool)) : SP := match o with
  | some (x, t) => .all [ObjC bt [.bool t], ObjC bx [.int .u64 x]]
  | none => .ex fun x : Int => .ex fun t : Bool => .all [ObjC bt [.bool t], ObjC bx [.int .u64 x]]
theorem BoxT.I {bx bt : Nat} {x : Int} {t : Bool} {o : Option (Int × Bool)} (ho : o = none ∨ o = some (x, t)) (H : HS g h (ObjC bt [.bool t] :: ObjC bx [.int .u64 x] :: R)) : HS g h (BoxT bx bt o :: R) := by
  rcases ho with rfl | rfl
  · exact HS.exI x (HS.exI t (HS.allI H))
  · exact HS.allI H
theorem run_ret {α : Type} {a : α} {D : DM} : runA (.ret a) D = (if D.err = 0 then some a else none, D) := by unfold runA; rfl
theorem qtake1_ok {n : Nat} (hn : 13 ≤ n) {d br bx bt : Nat} {P0 : SP} {D : DM} {root : Int} {sz : Nat} (H : HS g h (DrC d D :: P0 :: ObjC bt [.bool false] :: ObjC bx [.int .u64 0] :: ObjC br [.int .i64 root] :: R)) (G : GoodD D sz 5) :
    wp (callT tab rtab n (.fn 37 [] [.ptr br 0, .ptr bx 0, .ptr bt 0]) [.ptr d 0] h) fun _ h2 => ∃ (o : Option (Int × Bool)) (D' : DM), EqR (runA (takeAc sz root) D) (o, D') ∧ GoodD D' sz 10 ∧ HS g h2 (DrC d D' :: P0 :: BoxT bx bt o :: ObjC br [.int .i64 root] :: R) := by
  refine ww_fc (g := W37) rfl (by omega) fun k hk => ?_
  show wp (S37 (callT tab rtab k) _ _ _ _ _) _
  unfold S37
  try simp only [Int.ofNat_eq_natCast]
  refine ww_ldH H (.there (.there (.there (.there .here)))) rfl ?_
  refine ww_call (dplace_ok (by omega) H G) ?_
  rintro _ h1 ⟨rfl, H1⟩
  have G1 := G.place (p := root)
  have E1 : EqR (runA (takeAc sz root) D) (runA (if (placeD D root).1 = 0 then .ret (0, false) else placeA (placeD D root).1 fun a => if a = 0 then .ret (0, false) else .read a fun x => .read (a + 1) fun nx => .take [((placeD D root).1, nx)] (freeAc sz a (.ret (x, true)))) (placeD D root).2) := run_place
  generalize placeD D root = q1 at *
  obtain ⟨hd, D1⟩ := q1
  obtain ⟨G1, b1, b2⟩ := G1
  dsimp only at *
  have fin0 : ∀ {D' : DM} {h' : AH}, EqR (runA (takeAc sz root) D) (runA (.ret (0, false)) D') → GoodD D' sz 5 → HS g h' (DrC d D' :: P0 :: ObjC bt [.bool false] :: ObjC bx [.int .u64 0] :: ObjC br [.int .i64 root] :: R) →
      ∃ (o : Option (Int × Bool)) (D' : DM), EqR (runA (takeAc sz root) D) (o, D') ∧ GoodD D' sz 10 ∧ HS g h' (DrC d D' :: P0 :: BoxT bx bt o :: ObjC br [.int .i64 root] :: R) := by
    intro D' h' E G H
    rw [run_ret] at E
    refine ⟨_, D', E, ⟨G.g, G.sz, by have := G.fr; omega, G.st⟩, ?_⟩
    refine (BoxT.I (bx := bx) (bt := bt) (x := 0) (t := false) ?_ (H.sub (L' := ObjC bt [.bool false] :: ObjC bx [.int .u64 0] :: DrC d D' :: P0 :: ObjC br [.int .i64 root] :: R) (.cons (.there (.there .here)) (.cons (.there (.there .here)) (.cons .here (.cons .here .refl)))))).sub (.cons (.there .here) (.cons (.there .here) (.cons .here .refl)))
    split
    · exact .inr rfl
    · exact .inl rfl
  by_cases c0 : hd = 0
  · rw [if_pos c0] at E1
    refine ww_eqlT c0 (ww_condT (ww_ret (fin0 E1 G1 H1)))
  rw [if_neg c0] at E1
  refine ww_eqlF c0 (ww_condF ?_)
  refine ww_addI (by omega) ?_
  rw [show hd + ((0 : Nat) : Int) = hd by omega]
  refine ww_call (dplace_ok (by omega) H1 G1) ?_
  rintro _ h2 ⟨rfl, H2⟩
  have G2 := G1.place (p := hd)
  have E2 := E1.trans run_place
  generalize placeD D1 hd = q2 at *
  obtain ⟨a, D2⟩ := q2
  obtain ⟨G2, b3, b4⟩ := G2
  dsimp only at *
  by_cases c1 : a = 0
  · rw [if_pos c1] at E2
    refine ww_eqlT c1 (ww_condT (ww_ret (fin0 E2 G2 H2)))
  rw [if_neg c1] at E2
  refine ww_eqlF c1 (ww_condF ?_)
  refine ww_addI (by omega) ?_
  rw [show a + ((0 : Nat) : Int) = a by omega]
  refine ww_call (dread_ok (by omega) H2 G2.g.ok) ?_
  rintro _ h3 ⟨rfl, H3⟩
  have G3 := G2.read (p := a)
  have E3 := E2.trans run_read
  generalize readD D2 a = q3 at *
  obtain ⟨x, D3⟩ := q3
  obtain ⟨G3, b5, b6⟩ := G3
  dsimp only at *
  refine ww_st1H H3 (b := bx) (.there (.there (.there .here))) ⟨rfl, rfl⟩ (by simp) fun h4 H4 => ?_
  refine ww_st1H H4 (b := bt) (.there (.there (.there .here))) ⟨rfl, rfl⟩ (by simp) fun h5 H5 => ?_
  simp only [List.set_cons_zero] at H5
  have H5 : HS g h5 (DrC d D3 :: P0 :: ObjC bt [.bool true] :: ObjC bx [.int .u64 x] :: ObjC br [.int .i64 root] :: R) := H5.sub (.cons (.there (.there .here)) (.cons (.there (.there .here)) (.cons .here (.cons .here .refl))))
  refine ww_addI (by omega) (ww_addI (by omega) ?_)
  rw [show hd + ((0 : Nat) : Int) = hd by omega, show a + ((1 : Nat) : Int) = a + 1 from rfl]
  refine ww_call (dread_ok (by omega) H5 G3.g.ok) ?_
  rintro _ h6 ⟨rfl, H6⟩
  have G4 := G3.read (p := a + 1)
  have E4 := E3.trans run_read
  generalize readD D3 (a + 1) = q4 at *
  obtain ⟨nx, D4⟩ := q4
  obtain ⟨G4, b7, b8⟩ := G4
  dsimp only at *
  refine ww_call (dwrite_ok (by omega) H6 G4.g.ok) ?_
  intro _ h7 H7
  have G5 := G4.take (cs := [(hd, nx)]) (wd1 (by omega))
  have E5 := E4.trans run_take
  refine ww_call (dfree_ok (by omega) H7 G5) ?_
  intro _ h8 H8
  have G6 := G5.free (b := a) (by omega)
  have E6 := E5.trans (by rw [← G5.sz]; exact run_free)
  rw [run_ret] at E6
  refine ww_ret ⟨_, _, E6, ⟨G6.g, G6.sz, by have := G6.fr; omega, G6.st⟩, ?_⟩
  refine (BoxT.I (bx := bx) (bt := bt) (x := x) (t := true) ?_ (H8.sub (L' := ObjC bt [.bool true] :: ObjC bx [.int .u64 x] :: DrC d _ :: P0 :: ObjC br [.int .i64 root] :: R) (.cons (.there (.there .here)) (.cons (.there (.there .here)) (.cons .here (.cons .here .refl)))))).sub (.cons (.there .here) (.cons (.there .here) (.cons .here .refl)))
  split
  · exact .inr rfl
  · exact .inl rfl
theorem qtake_ok {n : Nat} (hn : 15 ≤ n) {v : Nat} {M : VM} {root : Int} (H : HS g h (ViewC v M :: R)) (G : GoodV M) (hlv : M.lv = [([], [])]) (hr : 6 ≤ root ∧ root < 14) :
    wp (callT tab rtab n (.fn 10 [] []) [.ptr v 0, .int .i64 root] h) fun r h' => ((doR M (takeAc M.sz root)).1 = 0 → ∀ x t, (runA (takeAc M.sz root) ⟨lvV M.sz M.K [] [] 0, 0, 0⟩).1 = some (x, t) → r = .tup [.int .u64 x, .bool t, .int .i64 0]) ∧
      ((doR M (takeAc M.sz root)).1 ≠ 0 → r = .tup [.int .u64 0, .bool false, .int .i64 (doR M (takeAc M.sz root)).1]) ∧ HS g h' (ViewC v (doR M (takeAc M.sz root)).2 :: R) := by
  (refine ww_fn (g := W10) rfl (by omega) fun k hk => ?_; show wp (S10 (callT tab rtab k) _ _ _) _; unfold S10; try simp only [Int.ofNat_eq_natCast])
  refine ww_box1 H ⟨rfl, rfl⟩ fun br h1 H1 => ?_
  refine ww_box1 H1 ⟨rfl, rfl⟩ fun bx h2 H2 => ?_
  refine ww_box1 H2 ⟨rfl, rfl⟩ fun bt h3 H3 => ?_
  refine ww_st1H H3 (b := bx) (.there .here) ⟨rfl, rfl⟩ (by simp) fun h4 H4 => ?_
  refine ww_st1H H4 (b := bt) (.there .here) ⟨rfl, rfl⟩ (by simp) fun h5 H5 => ?_
  have H5 : HS g h5 (ObjC bt [.bool false] :: ObjC bx [.int .u64 0] :: ObjC br [.int .i64 root] :: ViewC v M :: R) := H5
  refine ww_ldH H5 (.there (.there .here)) rfl ?_
  have GD := draft_good G
  refine ww_call (ddo_ok (act := takeAc M.sz root) (R1 := ObjC bt [.bool false] :: ObjC bx [.int .u64 0] :: ObjC br [.int .i64 root] :: R) (R2 := fun o => BoxT bx bt o :: ObjC br [.int .i64 root] :: R) (by omega) (H5.sub (.cons (.there (.there (.there .here))) (.cons .here (.cons .here (.cons .here .refl))))) G hlv hr ?_) ?_
  · intro m h6 d hm3 H6
    exact wp.mono (qtake1_ok (by omega) H6 GD) fun v h4 hq => hq
  · rintro _ h6 ⟨rfl, H6⟩
    by_cases c0 : (doR M (takeAc M.sz root)).1 = 0
    · refine ww_neqF c0 (ww_condF ?_)
      generalize (runA (takeAc M.sz root) ⟨lvV M.sz M.K [] [] 0, 0, 0⟩).1 = o at *
      have key : ∀ {x : Int} {t : Bool}, HS g h6 (ObjC bt [.bool t] :: ObjC bx [.int .u64 x] :: ViewC v (doR M (takeAc M.sz root)).2 :: ObjC br [.int .i64 root] :: R) → (∀ x' t', o = some (x', t') → x' = x ∧ t' = t) →
          wp (pLoad1 h6 (.ptr bx 0) fun v12 => pLoad1 h6 (.ptr bt 0) fun v13 => some (.tup [v12, v13, .int .i64 ((0 : Nat) : Int)], h6)) fun r h' =>
            ((doR M (takeAc M.sz root)).1 = 0 → ∀ x t, o = some (x, t) → r = .tup [.int .u64 x, .bool t, .int .i64 0]) ∧ ((doR M (takeAc M.sz root)).1 ≠ 0 → r = .tup [.int .u64 0, .bool false, .int .i64 (doR M (takeAc M.sz root)).1]) ∧ HS g h' (ViewC v (doR M (takeAc M.sz root)).2 :: R) := by
        intro x t H ho
        refine ww_ldH H (.there .here) rfl (ww_ldH H .here rfl (ww_ret ⟨fun _ x' t' he => ?_, fun h => absurd c0 h, H.sub (.cons (.there (.there .here)) (.drop (.drop (.drop .refl))))⟩))
        obtain ⟨rfl, rfl⟩ := ho x' t' he
        rfl
      cases o with
      | none =>
        have H7 := (H6.sel (P := BoxT bx bt none) (.there .here))
        obtain ⟨x, H7⟩ := HS.exE H7
        obtain ⟨t, H7⟩ := HS.exE H7
        exact key H7.allE (fun x' t' h => by cases h)
      | some q =>
        obtain ⟨x, t⟩ := q
        have H7 := (H6.sel (P := BoxT bx bt (some (x, t))) (.there .here))
        exact key (HS.allE H7) (fun x' t' h => by cases h; exact ⟨rfl, rfl⟩)
    · refine ww_neqT c0 (ww_condT (ww_ret ⟨fun h => absurd h c0, fun _ => rfl, H6.sub (.cons .here (.drop (.drop .refl)))⟩))
end Go.Proofs.Ythajhlachmgdoaa.arenaParts
