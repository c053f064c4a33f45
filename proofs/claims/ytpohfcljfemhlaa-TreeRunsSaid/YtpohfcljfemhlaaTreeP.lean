/- Trees: Put, Get, Range, Deep: the walks. -/
import Derived.Test.YtpohfcljfemhlaaTreeR
import Derived.Test.YtpohfcljfemhlaaDraftG
namespace Go.Proofs.Ytpohfcljfemhlaa.arenaParts
open Go Go.Ae arenaPlays
set_option maxRecDepth 100000

variable {g h : AH} {L R : List SP}

theorem run_ret {α : Type} {a : α} {D : DM} : runA (.ret a) D = (if D.err = 0 then some a else none, D) := by unfold runA; rfl
theorem good_ten {D : DM} {sz : Nat} (G : GoodD D sz 5) : GoodD D sz 10 := ⟨G.g, G.sz, by have := G.fr; omega, G.st⟩
/-- a truth in its box -/
def BoxF (b : Nat) (o : Option Bool) : SP := match o with
  | some x => ObjC b [.bool x]
  | none => .ex fun x : Bool => ObjC b [.bool x]
theorem BoxF.I {b : Nat} {x : Bool} {o : Option Bool} (ho : o = none ∨ o = some x) (H : HS g h (ObjC b [.bool x] :: R)) : HS g h (BoxF b o :: R) := by
  rcases ho with rfl | rfl
  · exact HS.exI x H
  · exact H
theorem if_or {α : Type} {p : Prop} [Decidable p] {x : α} : (if p then some x else none) = none ∨ (if p then some x else none) = some x := by
  split
  · exact .inr rfl
  · exact .inl rfl

theorem tput1_ok {n : Nat} (hn : 20 ≤ n) {d br bk bx bf : Nat} {P0 : SP} {D : DM} {root key x : Int} {sz : Nat} (H : HS g h (DrC d D :: P0 :: ObjC bf [.bool false] :: ObjC bx [.int .u64 x] :: ObjC bk [.int .u64 key] :: ObjC br [.int .i64 root] :: R)) (G : GoodD D sz 5) (hs : D.stp = 0) (hx : 0 ≤ x ∧ x < 18446744073709551616) (hky : 0 ≤ key ∧ key < 18446744073709551616) :
    wp (callT tab rtab n (.fn 14 [] [.ptr br 0, .ptr bk 0, .ptr bx 0, .ptr bf 0]) [.ptr d 0] h) fun _ h2 => ∃ (o : Option Bool) (D' : DM), EqR (runA (putA sz root key x) D) (o, D') ∧ GoodD D' sz 10 ∧ HS g h2 (DrC d D' :: P0 :: BoxF bf o :: ObjC bx [.int .u64 x] :: ObjC bk [.int .u64 key] :: ObjC br [.int .i64 root] :: R) := by
  refine ww_fc (g := W14) rfl (by omega) fun k hk => ?_
  show wp (S14 (callT tab rtab k) _ _ _ _ _ _) _
  unfold S14
  try simp only [Int.ofNat_eq_natCast]
  refine ww_ldH H (.there (.there (.there (.there (.there .here))))) rfl ?_
  refine ww_build (l := [.ptr d 0, .int .i64 root, .nils]) rfl ?_
  refine ww_boxA H rfl fun t h1 H1 => ?_
  have H1 : HS g h1 (DrC d D :: TrC t d root .nils :: P0 :: ObjC bf [.bool false] :: ObjC bx [.int .u64 x] :: ObjC bk [.int .u64 key] :: ObjC br [.int .i64 root] :: R) := H1.sub (.cons (.there .here) (.cons .here .refl))
  refine ww_ldH H1 (.there (.there (.there (.there (.there .here))))) rfl ?_
  refine ww_call (seek_ok (α := Bool) (by omega) H1 G hs) ?_
  rintro _ h2 ⟨a, way, wv, D2, rfl, E2, G2, st2, ba, O, hwl, H2⟩
  have E2 : EqR (runA (putA sz root key x) D) (runA (if a ≠ 0 then .take [(a + 1, x)] (.ret false) else
    allocA sz 4 fun n => .take [(n, key)] (.take [(n + 1, x)] (.take [(n + 2, 1)] (.take [(n + 3, 0)] (linkA root way way.length n (raisedL root (.ret true) 2049 way)))))) D2) := E2 _
  have fin : ∀ {b : Bool} {o : Option Bool} {D' : DM} {h' : AH} {wv' : AV} {way' : List StpT}, EqR (runA (putA sz root key x) D) (o, D') → (o = none ∨ o = some b) → GoodD D' sz 5 → HS g h' (DrC d D' :: TrC t d root wv' :: WayC wv' way' :: P0 :: ObjC bf [.bool b] :: ObjC bx [.int .u64 x] :: ObjC bk [.int .u64 key] :: ObjC br [.int .i64 root] :: R) →
      ∃ (o : Option Bool) (D' : DM), EqR (runA (putA sz root key x) D) (o, D') ∧ GoodD D' sz 10 ∧ HS g h' (DrC d D' :: P0 :: BoxF bf o :: ObjC bx [.int .u64 x] :: ObjC bk [.int .u64 key] :: ObjC br [.int .i64 root] :: R) := by
    intro b o D' h' wv' way' E ho G H
    refine ⟨o, D', E, good_ten G, ?_⟩
    exact (BoxF.I ho (H.sub (L' := ObjC bf [.bool b] :: DrC d D' :: P0 :: ObjC bx [.int .u64 x] :: ObjC bk [.int .u64 key] :: ObjC br [.int .i64 root] :: R) (.cons (.there (.there (.there (.there .here)))) (.cons .here (.drop (.drop (.cons .here .refl))))))).sub (.cons (.there .here) (.cons (.there .here) (.cons .here .refl)))
  clear H H1
  refine ww_call (dok_ok (by omega) H2) ?_
  rintro _ h3 ⟨rfl, rfl⟩
  by_cases he : D2.err = 0
  rotate_left
  · rw [decide_eq_false he]
    with_reducible (refine ww_notF ?_; refine ww_condT ?_)
    exact ww_ret (fin (o := none) (E2.trans (EqR.err1 rfl he ⟨rfl, rfl⟩)) (.inl rfl) G2 H2)
  rw [decide_eq_true he]
  with_reducible (refine ww_notT ?_; refine ww_condF ?_)
  by_cases ha : a = 0
  rotate_left
  · rw [if_pos ha] at E2
    refine ww_neqT ha (ww_condT ?_)
    with_reducible (refine ww_addI (by omega) ?_; refine ww_ldH (by assumption) (.there (.there (.there (.there (.there .here))))) (by with_unfolding_all exact rfl) ?_)
    rw [show a + ((1 : Nat) : Int) = a + 1 from rfl]
    refine ww_call (dwrite_ok (by omega) H2 G2.g.ok) ?_
    intro _ h4 H4
    exact ww_ret (fin ((E2.trans run_take).trans (by rw [run_ret]; exact EqR.refl _)) if_or (G2.take (wd1 hx)) H4)
  rw [if_neg (by omega)] at E2
  refine ww_neqF ha (ww_condF ?_)
  refine ww_call (dalloc_ok (by omega) H2 G2) ?_
  rintro _ h3 ⟨rfl, H3⟩
  have G3 := G2.alloc (n := 4)
  have E3 := E2.trans (by rw [← G2.sz]; exact run_alloc)
  have hs3 : (allocD D2 4).2.stp = D2.stp := stp_alloc
  rw [show ((4 : Nat) : Int) = 4 from rfl] at *
  generalize allocD D2 4 = q3 at *
  obtain ⟨n1, D3⟩ := q3
  obtain ⟨G3, b3, b4⟩ := G3
  dsimp only at *
  refine ww_addI (by omega) ?_
  rw [show n1 + ((0 : Nat) : Int) = n1 by omega]
  refine ww_ldH H3 (.there (.there (.there (.there (.there (.there .here)))))) rfl ?_
  refine ww_call (dwrite_ok (by omega) H3 G3.g.ok) ?_
  intro _ h4 H4
  have G4 := G3.take (cs := [(n1, key)]) (wd1 hky)
  have E4 := E3.trans run_take
  refine ww_addI (by omega) ?_
  rw [show n1 + ((1 : Nat) : Int) = n1 + 1 from rfl]
  refine ww_ldH H4 (.there (.there (.there (.there (.there .here))))) rfl ?_
  refine ww_call (dwrite_ok (by omega) H4 G4.g.ok) ?_
  intro _ h5 H5
  have G5 := G4.take (cs := [(n1 + 1, x)]) (wd1 hx)
  have E5 := E4.trans run_take
  refine ww_addI (by omega) ?_
  rw [show n1 + ((2 : Nat) : Int) = n1 + 2 from rfl]
  refine ww_call (dwrite_ok (x := ((1 : Nat) : Int)) (by omega) H5 G5.g.ok) ?_
  intro _ h6 H6
  have G6 := G5.take (cs := [(n1 + 2, 1)]) (wd1 (by omega))
  have E6 := E5.trans run_take
  refine ww_addI (by omega) ?_
  rw [show n1 + ((3 : Nat) : Int) = n1 + 3 from rfl]
  have H6 : HS g h6 (DrC d (takeD (takeD (takeD D3 [(n1, key)]) [(n1 + 1, x)]) [(n1 + 2, 1)]) :: TrC t d root wv :: WayC wv way :: P0 :: ObjC bf [.bool false] :: ObjC bx [.int .u64 x] :: ObjC bk [.int .u64 key] :: ObjC br [.int .i64 root] :: R) := H6
  refine ww_call (dpoint_ok (x := ((0 : Nat) : Int)) (by omega) (by omega) H6 G6.g.ok) ?_
  intro _ h7 H7
  have G7 := G6.take (cs := [(n1 + 3, 0)]) (wd1 (by omega))
  have E7 := E6.trans run_take
  have H7 : HS g h7 (DrC d (takeD (takeD (takeD (takeD D3 [(n1, key)]) [(n1 + 1, x)]) [(n1 + 2, 1)]) [(n1 + 3, 0)]) :: TrC t d root wv :: WayC wv way :: P0 :: ObjC bf [.bool false] :: ObjC bx [.int .u64 x] :: ObjC bk [.int .u64 key] :: ObjC br [.int .i64 root] :: R) := H7
  have hs7 : (takeD (takeD (takeD (takeD D3 [(n1, key)]) [(n1 + 1, x)]) [(n1 + 2, 1)]) [(n1 + 3, 0)]).stp = D3.stp := stp_take.trans (stp_take.trans (stp_take.trans stp_take))
  generalize takeD (takeD (takeD (takeD D3 [(n1, key)]) [(n1 + 1, x)]) [(n1 + 2, 1)]) [(n1 + 3, 0)] = D7 at *
  with_reducible (refine ww_nil ?_; refine ww_field0 ?_; refine ww_ldH (by assumption) (.there .here) (by with_unfolding_all exact rfl) ?_; refine ww_lenH (by assumption) (.there (.there .here)) ?_)
  refine ww_call (link_ok (α := Bool) (m := way.length) (by omega) H7 G7 O (by omega) (by omega) (by omega)) ?_
  rintro _ h8 ⟨D8, E8, A8, H8⟩
  have hs8 := A8.stp
  refine ww_call (raised_ok (α := Bool) (by omega) H8 A8.good O (by omega) (by omega)) ?_
  rintro _ h9 ⟨D9, wv9, way9, E9, G9, H9⟩
  have E9 := E7.trans ((E8 _).trans (E9 (.ret true)))
  rw [run_ret] at E9
  refine ww_st1H H9 (b := bf) (.there (.there (.there (.there .here)))) ⟨rfl, rfl⟩ (by simp) fun h10 H10 => ?_
  have H10 : HS g h10 (ObjC bf [.bool true] :: DrC d D9 :: TrC t d root wv9 :: WayC wv9 way9 :: P0 :: ObjC bx [.int .u64 x] :: ObjC bk [.int .u64 key] :: ObjC br [.int .i64 root] :: R) := H10
  exact ww_ret (fin (b := true) E9 if_or G9 (H10.sub (.cons (.there .here) (.cons (.there .here) (.cons (.there .here) (.cons (.there .here) (.cons .here .refl)))))))

theorem tput_ok {n : Nat} (hn : 23 ≤ n) {v : Nat} {M : VM} {root key x : Int} (H : HS g h (ViewC v M :: R)) (G : GoodV M) (hfr : frS M.lv ≤ 40000) (hr : 6 ≤ root ∧ root < 14) (hx : 0 ≤ x ∧ x < 18446744073709551616) (hky : 0 ≤ key ∧ key < 18446744073709551616) :
    wp (callT tab rtab n (.fn 6 [] []) [.ptr v 0, .int .i64 root, .int .u64 key, .int .u64 x] h) fun r h' => ((doG M (putA M.sz root key x)).1 = 0 → ∀ b, (runA (putA M.sz root key x) ⟨ofV M, 0, 0⟩).1 = some b → r = .tup [.bool b, .int .i64 0]) ∧
      ((doG M (putA M.sz root key x)).1 ≠ 0 → r = .tup [.bool false, .int .i64 (doG M (putA M.sz root key x)).1]) ∧ (GoodV (doG M (putA M.sz root key x)).2 ∧ frS (doG M (putA M.sz root key x)).2.lv ≤ frS M.lv + 10) ∧ HS g h' (ViewC v (doG M (putA M.sz root key x)).2 :: R) := by
  (refine ww_fn (g := W6) rfl (by omega) fun k hk => ?_; show wp (S6 (callT tab rtab k) _ _ _ _ _) _; unfold S6; try simp only [Int.ofNat_eq_natCast])
  refine ww_box1 H ⟨rfl, rfl⟩ fun br h1 H1 => ?_
  refine ww_box1 H1 ⟨rfl, rfl⟩ fun bk h2 H2 => ?_
  refine ww_box1 H2 ⟨rfl, rfl⟩ fun bx h3 H3 => ?_
  refine ww_box1 H3 ⟨rfl, rfl⟩ fun bf h4 H4 => ?_
  refine ww_st1H H4 (b := bf) .here ⟨rfl, rfl⟩ (by simp) fun h5 H5 => ?_
  have H5 : HS g h5 (ObjC bf [.bool false] :: ObjC bx [.int .u64 x] :: ObjC bk [.int .u64 key] :: ObjC br [.int .i64 root] :: ViewC v M :: R) := H5
  refine ww_ldH H5 (.there (.there (.there .here))) rfl ?_
  have GD := of_draft G
  refine ww_call (ddoG_ok (act := putA M.sz root key x) (R1 := ObjC bf [.bool false] :: ObjC bx [.int .u64 x] :: ObjC bk [.int .u64 key] :: ObjC br [.int .i64 root] :: R) (R2 := fun o => BoxF bf o :: ObjC bx [.int .u64 x] :: ObjC bk [.int .u64 key] :: ObjC br [.int .i64 root] :: R) (by omega) (H5.sub (.cons (.there (.there (.there (.there .here)))) (.cons .here (.cons .here (.cons .here (.cons .here .refl)))))) G hfr hr ?_) ?_
  · intro m h6 d hm3 H6
    exact wp.mono (tput1_ok (by omega) H6 GD rfl hx hky) fun v h4 hq => hq
  rintro _ h6 ⟨rfl, GG, H6⟩
  generalize (runA (putA M.sz root key x) ⟨ofV M, 0, 0⟩).1 = o at *
  generalize doG M (putA M.sz root key x) = X at *
  obtain ⟨e, M2⟩ := X
  dsimp only at *
  have fin : ∀ {b : Bool}, HS g h6 (ObjC bf [.bool b] :: ViewC v M2 :: ObjC bx [.int .u64 x] :: ObjC bk [.int .u64 key] :: ObjC br [.int .i64 root] :: R) → (∀ b', o = some b' → b' = b) →
      wp (pLoad1 h6 (.ptr bf 0) fun v12 => joinC (α := AV × AV × AV × Unit → AH → Go.Ae.R) (fun s13 h14 => pPick s13.2.1 s13.1 (.bool false) fun v16 => some ((.tup [v16, s13.2.2.1]), h14)) fun j15 =>
        pWant v12 true (pInt .eql (.int .i64 e) (.int .i64 ((0 : Nat) : Int)) fun v17 => j15 (v17, v12, .int .i64 e, ()) h6) (j15 (.undef, v12, .int .i64 e, ()) h6)) fun r h' =>
      (e = 0 → ∀ b, o = some b → r = .tup [.bool b, .int .i64 0]) ∧ (e ≠ 0 → r = .tup [.bool false, .int .i64 e]) ∧ (GoodV M2 ∧ frS M2.lv ≤ frS M.lv + 10) ∧ HS g h' (ViewC v M2 :: R) := by
    intro b H ho
    have HR : HS g h6 (ViewC v M2 :: R) := H.sub (.cons (.there .here) (.drop (.drop (.drop (.drop .refl)))))
    refine ww_ldH H .here rfl ?_
    cases b with
    | false =>
      refine ww_joinS ?_
      refine ww_wantFT ?_
      refine ww_ret ⟨fun he b' hb => ?_, fun _ => rfl, GG, HR⟩
      rw [ho b' hb, he]
    | true =>
      refine ww_joinS ?_
      refine ww_wantTT ?_
      by_cases he : e = 0
      · refine ww_eqlT he ?_
        refine ww_ret ⟨fun he b' hb => ?_, fun h => absurd he h, GG, HR⟩
        rw [ho b' hb, he]
      · refine ww_eqlF he ?_
        exact ww_ret ⟨fun h => absurd h he, fun _ => rfl, GG, HR⟩
  cases o with
  | none =>
    have H7 := HS.exE (H6.sel (P := BoxF bf none) (.there .here))
    obtain ⟨b, H7⟩ := H7
    exact fin H7 (fun b' h => by cases h)
  | some b =>
    have H7 : HS g h6 (ObjC bf [.bool b] :: ViewC v M2 :: ObjC bx [.int .u64 x] :: ObjC bk [.int .u64 key] :: ObjC br [.int .i64 root] :: R) := (H6.sel (P := BoxF bf (some b)) (.there .here))
    exact fin H7 (fun b' h => by cases h; rfl)
end Go.Proofs.Ytpohfcljfemhlaa.arenaParts
