/- Queues: all that is there: the walks. -/
import Derived.Test.YthajhlachmgdoaaQueueW
namespace Go.Proofs.Ythajhlachmgdoaa.arenaParts
open Go Go.Ae arenaPlays
set_option maxRecDepth 100000

variable {g h : AH} {L R : List SP}

/-- what was told, in its box -/
def BoxA (bo : Nat) (o : Option (List Int)) : SP := match o with
  | some l => .ex fun ov : AV => .all [ObjC bo [ov], SliC 28 1 l.length ov (l.map (.int .u64))]
  | none => .ex fun ov : AV => ObjC bo [ov]
theorem allL_s {m : Nat} {a : Int} {acc : List Int} : allL (m + 1) a acc = if a = 0 then .ret acc else .step (.read a fun x => placeA (a + 1) fun nx => allL m nx (acc ++ [x])) := rfl
theorem qall1_ok {n : Nat} (hn : 13 ≤ n) {d br bo : Nat} {P0 : SP} {D : DM} {root : Int} {sz : Nat} (H : HS g h (DrC d D :: P0 :: ObjC bo [.nils] :: ObjC br [.int .i64 root] :: R)) (G : GoodD D sz 5) (hs : D.stp = 0) :
    wp (callT tab rtab n (.fn 40 [] [.ptr br 0, .ptr bo 0]) [.ptr d 0] h) fun _ h2 => ∃ (o : Option (List Int)) (D' : DM), EqR (runA (allA root) D) (o, D') ∧ GoodD D' sz 10 ∧ HS g h2 (DrC d D' :: P0 :: BoxA bo o :: ObjC br [.int .i64 root] :: R) := by
  refine ww_fc (g := W40) rfl (by omega) fun k hk => ?_
  show wp (S40 (callT tab rtab k) _ _ _ _) _
  unfold S40
  try simp only [Int.ofNat_eq_natCast]
  refine ww_ldH H (.there (.there (.there .here))) rfl ?_
  refine ww_call (dplace_ok (by omega) H G) ?_
  rintro _ h1 ⟨rfl, H1⟩
  have G1 := G.place (p := root)
  have E1 : EqR (runA (allA root) D) (runA (if (placeD D root).1 = 0 then .ret [] else placeA (placeD D root).1 fun a => allL 2049 a []) (placeD D root).2) := run_place
  have hs1 : (placeD D root).2.stp = 0 := by
    unfold placeD nameD readD failD
    repeat' split
    all_goals exact hs
  generalize placeD D root = q1 at *
  obtain ⟨hd, D1⟩ := q1
  obtain ⟨G1, b1, b2⟩ := G1
  dsimp only at *
  have fin : ∀ {acc : List Int} {ov : AV} {o : Option (List Int)} {D' : DM} {h' : AH}, EqR (runA (allA root) D) (o, D') → (o = none ∨ o = some acc) → GoodD D' sz 5 → HS g h' (DrC d D' :: P0 :: ObjC bo [ov] :: SliC 28 1 acc.length ov (acc.map (.int .u64)) :: ObjC br [.int .i64 root] :: R) →
      ∃ (o : Option (List Int)) (D' : DM), EqR (runA (allA root) D) (o, D') ∧ GoodD D' sz 10 ∧ HS g h' (DrC d D' :: P0 :: BoxA bo o :: ObjC br [.int .i64 root] :: R) := by
    intro acc ov o D' h' E ho G H
    refine ⟨o, D', E, ⟨G.g, G.sz, by have := G.fr; omega, G.st⟩, ?_⟩
    rcases ho with rfl | rfl
    · have H2 : HS g h' (ObjC bo [ov] :: DrC d D' :: P0 :: ObjC br [.int .i64 root] :: R) := H.sub (.cons (.there (.there .here)) (.cons .here (.cons .here (.drop .refl))))
      have H3 : HS g h' (BoxA bo none :: DrC d D' :: P0 :: ObjC br [.int .i64 root] :: R) := HS.exI ov H2
      exact H3.sub (.cons (.there .here) (.cons (.there .here) (.cons .here .refl)))
    · have H2 : HS g h' (ObjC bo [ov] :: SliC 28 1 acc.length ov (acc.map (.int .u64)) :: DrC d D' :: P0 :: ObjC br [.int .i64 root] :: R) := H.sub (.cons (.there (.there .here)) (.cons (.there (.there .here)) (.cons .here (.cons .here .refl))))
      have H3 : HS g h' (BoxA bo (some acc) :: DrC d D' :: P0 :: ObjC br [.int .i64 root] :: R) := HS.exI ov (HS.allI (A := [ObjC bo [ov], SliC 28 1 acc.length ov (acc.map (.int .u64))]) H2)
      exact H3.sub (.cons (.there .here) (.cons (.there .here) (.cons .here .refl)))
  have H1' : HS g h1 (DrC d D1 :: P0 :: ObjC bo [.nils] :: SliC 28 1 0 .nils [] :: ObjC br [.int .i64 root] :: R) := H1.nils.sub (.cons (.there .here) (.cons (.there .here) (.cons (.there .here) .refl)))
  by_cases c0 : hd = 0
  · rw [if_pos c0, run_ret] at E1
    refine ww_eqlT c0 (ww_condT (ww_ret (fin (acc := []) E1 ?_ G1 H1')))
    split
    · exact .inr rfl
    · exact .inl rfl
  rw [if_neg c0] at E1
  refine ww_eqlF c0 (ww_condF ?_)
  refine ww_addI (by omega) ?_
  rw [show hd + ((0 : Nat) : Int) = hd by omega]
  refine ww_call (dplace_ok (by omega) H1' G1) ?_
  rintro _ h2 ⟨rfl, H2⟩
  have G2 := G1.place (p := hd)
  have E2 := E1.trans run_place
  have hs2 : (placeD D1 hd).2.stp = 0 := by
    unfold placeD nameD readD failD
    repeat' split
    all_goals exact hs1
  generalize placeD D1 hd = q2 at *
  obtain ⟨a, D2⟩ := q2
  obtain ⟨G2, b3, b4⟩ := G2
  dsimp only at *
  refine ww_iter (fun m s h' => ∃ (a : Int) (acc : List Int) (ov : AV) (D2 : DM), s = (.int .i64 a, .ptr bo 0, .ptr d 0, ()) ∧ EqR (runA (allA root) D) (runA (allL m a acc) D2) ∧ GoodD D2 sz 5 ∧ (0 ≤ a ∧ a < 2147483648) ∧ D2.stp + m = 2049 ∧ (acc.length : Int) ≤ D2.stp ∧
    HS g h' (DrC d D2 :: P0 :: ObjC bo [ov] :: SliC 28 1 acc.length ov (acc.map (.int .u64)) :: ObjC br [.int .i64 root] :: R))
    ?_ (m := 2049) (by show 2049 < 1000000000; omega) ⟨a, [], .nils, D2, rfl, E2, G2, by omega, by omega, by simp; omega, H2⟩
  clear E1 E2 G1 G2 H H1 H1' H2 hs1 hs2 b1 b2 b3 b4
  rintro m ih s h3 hih ⟨a, acc, ov, D2, rfl, E, G2, hb, hst, hal, H⟩
  dsimp only
  by_cases ha : a = 0
  · have e : allL m a acc = .ret acc := by cases m <;> (unfold allL; rw [if_pos ha])
    rw [e, run_ret] at E
    refine ww_neqF ha ?_
    with_reducible (refine ww_joinS ?_; (try dsimp only); refine ww_wantFT ?_; (try dsimp only); refine ww_pickF ?_; refine ww_condF ?_; refine ww_leave ?_)
    refine ww_ret (fin (acc := acc) E ?_ G2 H)
    split
    · exact .inr rfl
    · exact .inl rfl
  refine ww_neqT ha ?_
  with_reducible (refine ww_joinS ?_; (try dsimp only); refine ww_wantTT ?_; (try dsimp only))
  refine ww_call (dstep_ok (by omega) H G2) ?_
  rintro _ h4 ⟨rfl, H4⟩
  have G3 := G2.step (by omega)
  cases m with
  | zero =>
    have e : allL 0 a acc = .fail 2 := by unfold allL; rw [if_neg ha]
    rw [e] at E
    have e3 : stepD D2 = failD { D2 with stp := D2.stp + 1 } 2 := by unfold stepD; rw [if_pos (by omega)]
    have herr : (stepD D2).err ≠ 0 := by
      rw [e3]; unfold failD
      split
      · show (2 : Int) ≠ 0; omega
      · assumption
    rw [decide_eq_false herr]
    with_reducible (refine ww_pickT ?_; refine ww_condF ?_; refine ww_leave ?_)
    refine ww_ret (fin (acc := acc) (o := none) (E.trans ?_) (.inl rfl) G3.1 H4)
    rw [e3]
    unfold failD runA
    refine ⟨rfl, ?_, ?_⟩
    · dsimp only
      split <;> rfl
    · dsimp only
      split <;> rfl
  | succ m =>
    have e : allL (m + 1) a acc = .step (.read a fun x => placeA (a + 1) fun nx => allL m nx (acc ++ [x])) := by rw [allL_s, if_neg ha]
    rw [e] at E
    have E3 := E.trans run_step
    by_cases herr : (stepD D2).err = 0
    rotate_left
    · rw [decide_eq_false herr]
      with_reducible (refine ww_pickT ?_; refine ww_condF ?_; refine ww_leave ?_)
      exact ww_ret (fin (acc := acc) (o := none) (E3.trans (EqR.err1 rfl herr ⟨rfl, rfl⟩)) (.inl rfl) G3.1 H4)
    rw [decide_eq_true herr]
    obtain ⟨G3, hs3⟩ := G3
    generalize stepD D2 = D3 at *
    with_reducible (refine ww_pickT ?_; refine ww_condT ?_; refine ww_joinS ?_; (try dsimp only); refine ww_ldH (by assumption) (.there (.there .here)) (by with_unfolding_all exact rfl) ?_; refine ww_addI (by omega) ?_)
    rw [show a + ((0 : Nat) : Int) = a by omega]
    refine ww_call (dread_ok (by omega) H4 G3.g.ok) ?_
    rintro _ h5 ⟨rfl, H5⟩
    have G4 := G3.read (p := a)
    have E4 := E3.trans run_read
    have hs4 : (readD D3 a).2.stp = D3.stp := by
      unfold readD
      split <;> rfl
    generalize readD D3 a = q4 at *
    obtain ⟨x, D4⟩ := q4
    obtain ⟨G4, b5, b6⟩ := G4
    dsimp only at *
    refine ww_buildSH (n := 1) (l := [.int .u64 x]) (sz := 1) H5 rfl rfl rfl rfl fun v6 h6 H6 => ?_
    refine ww_appH (H6.sel (.there (.there (.there (.there .here))))) (H6.sl .here) (by omega) (by omega) rfl fun v7 h7 H7 => ?_
    have o7 := H7.one .here
    refine ww_st1H H7 (b := bo) (.there (.there (.there (.there .here)))) o7 (by simp) fun h8 H8 => ?_
    simp only [List.set_cons_zero] at H8
    refine ww_chkH H4 (b := bo) (.there (.there .here)) rfl H5 (.there (.there .here)) rfl (HS.lt H4 (.there (.there .here))) ?_
    refine ww_addI (by omega) ?_
    rw [show a + ((1 : Nat) : Int) = a + 1 from rfl]
    have H9 : HS g h8 (DrC d D4 :: P0 :: ObjC bo [v7] :: SliC 28 1 (acc.length + 1) v7 (acc.map (.int .u64) ++ [.int .u64 x]) :: ObjC br [.int .i64 root] :: R) := H8.sub (.cons (.there (.there (.there .here))) (.cons (.there (.there (.there .here))) (.cons .here (.cons .here (.drop .refl)))))
    refine ww_call (dplace_ok (by omega) H9 G4) ?_
    rintro _ h9 ⟨rfl, H10⟩
    have G5 := G4.place (p := a + 1)
    have E5 := E4.trans run_place
    have hs5 : (placeD D4 (a + 1)).2.stp = D4.stp := by
      unfold placeD nameD readD failD
      repeat' split
      all_goals rfl
    refine hih m _ _ (by omega) ⟨_, acc ++ [x], v7, _, rfl, E5, G5.1, G5.2, by omega, by simp; omega, ?_⟩
    rw [List.map_append, List.length_append]
    exact H10
theorem qall_ok {n : Nat} (hn : 15 ≤ n) {v : Nat} {M : VM} {root : Int} {l : List Int} (H : HS g h (ViewC v M :: R)) (G : GoodV M) (hlv : M.lv = [([], [])]) (hr : 6 ≤ root ∧ root < 14) (h0 : (doR M (allA root)).1 = 0) (hl : (runA (allA root) ⟨lvV M.sz M.K [] [] 0, 0, 0⟩).1 = some l) :
    wp (callT tab rtab n (.fn 11 [] []) [.ptr v 0, .int .i64 root] h) fun r h' => ∃ ov, r = .tup [ov, .int .i64 0] ∧ HS g h' (SliC 28 1 l.length ov (l.map (.int .u64)) :: ViewC v (doR M (allA root)).2 :: R) := by
  (refine ww_fn (g := W11) rfl (by omega) fun k hk => ?_; show wp (S11 (callT tab rtab k) _ _ _) _; unfold S11; try simp only [Int.ofNat_eq_natCast])
  refine ww_box1 H ⟨rfl, rfl⟩ fun br h1 H1 => ?_
  refine ww_box1 H1 ⟨rfl, rfl⟩ fun bo h2 H2 => ?_
  refine ww_ldH H2 (.there .here) rfl ?_
  have GD := draft_good G
  refine ww_call (ddo_ok (act := allA root) (R1 := ObjC bo [.nils] :: ObjC br [.int .i64 root] :: R) (R2 := fun o => BoxA bo o :: ObjC br [.int .i64 root] :: R) (by omega) (H2.sub (.cons (.there (.there .here)) (.cons .here (.cons .here .refl)))) G hlv hr ?_) ?_
  · intro m h3 d hm3 H3
    exact wp.mono (qall1_ok (by omega) H3 GD rfl) fun v h4 hq => hq
  · rintro _ h3 ⟨rfl, H3⟩
    rw [h0, hl] at *
    with_reducible (refine ww_neqF (by omega) ?_; refine ww_condF ?_)
    have H4 := HS.exE (H3.sel (P := BoxA bo (some l)) (.there .here))
    obtain ⟨ov, H4⟩ := H4
    have H4 : HS g h3 (ObjC bo [ov] :: SliC 28 1 l.length ov (l.map (.int .u64)) :: ViewC v (doR M (allA root)).2 :: ObjC br [.int .i64 root] :: R) := HS.allE H4
    refine ww_ldH H4 .here rfl (ww_ret ⟨ov, rfl, H4.sub (.cons (.there .here) (.cons (.there .here) (.drop (.drop .refl))))⟩)
end Go.Proofs.Ythajhlachmgdoaa.arenaParts
