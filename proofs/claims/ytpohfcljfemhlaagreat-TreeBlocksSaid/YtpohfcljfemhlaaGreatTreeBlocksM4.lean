/- Lemmas for 'quietus/quietuslaw20.TreeBlocks': Trees: a node is cut out: the walk of cut; Trees: Del: the walks; Are two lists of pairs the same?; Steps more; Trees: the laws own functions: the walks; Plain rows of pairs: Find, Put, Del, Count, Do: the walks; Plain rows of pairs: Count, Do: the walks; Trees: a call on a heap and on plain rows: the walk of step, of live; TreeBlocks comes to true for every argument: its own walk. No condition. -/
import Derived.Test.YtpohfcljfemhlaaGreatTreeBlocksM3
import Derived.Test.YtpohfcljfemhlaaGreatTreeBlocksM1
import Derived.Test.YtpohfcljfemhlaaGreatTreeBlocksM2
namespace Go.Proofs.YtpohfcljfemhlaaGreat.arenaParts
open Go Go.Ae arenaPlays
set_option maxRecDepth 100000
variable {g h : AH} {L R : List SP} {α : Type}
theorem qVB {n : Nat} (hn : 19 ≤ n) {t d : Nat} {D : DM} {root a : Int} {wv : AV} {way : List jf} {sz : Nat} (H : HS g h (DrC d D :: TrC t d root wv :: zD wv way :: R)) (G : jG D sz 5) (O : OkW way) (hl : way.length ≤ 10000) (hs : D.stp ≤ 10000) (ha : 0 ≤ a ∧ a ≤ 2147483648) :
    wp (qw tab qI n (.fn 74 [] []) [.ptr t 0, .int .i64 a] h) fun _ h' => ∃ (D' : DM) (wv' : AV) (way' : List jf), (∀ k : Act α, EqR (qO (QS sz root a way k) D) (qO k D')) ∧ jG D' sz 6 ∧ HS g h' (DrC d D' :: TrC t d root wv' :: zD wv' way' :: R) := by
  (refine qd (g := W74) rfl (by omega) fun k hk => ?_; show wp (S74 (qw tab qI k) _ _ _) _; unfold S74; try simp only [iI, uU, Int.ofNat_eq_natCast])
  refine z7 [] (fun s h' => ∃ (a2 : Int) (way2 : List jf) (wv2 : AV) (D2 : DM), s = (.int .i64 a2, .ptr t 0, ()) ∧ (∀ k : Act α, EqR (qO (QS sz root a way k) D) (qO (Kw sz root a2 way2 k) D2)) ∧ jG D2 sz 5 ∧ D2.stp ≤ 20000 ∧ (0 ≤ a2 ∧ a2 ≤ 2147483648) ∧ OkW way2 ∧ way2.length ≤ 20000 ∧
      HS g h' (DrC d D2 :: TrC t d root wv2 :: zD wv2 way2 :: R)) ?_ ?_
  · intro j hj
    refine qJ (zz (α := α) (by omega) H G ha) ?_
    rintro _ h1 ⟨l, D1, rfl, E1, A1, b1, H1⟩
    have q1 := A1.stp
    by_cases hl0 : l = 0
    · refine ja hl0 ?_
      with_reducible (refine qk ?_; (try dsimp only); refine jk ?_; (try dsimp only); refine qb ?_; refine qV ?_)
      exact hj _ _ ⟨a, way, wv, D1, rfl, fun k => (E1 _).trans (by rw [if_pos hl0]; exact EqR.refl _), A1.good, by omega, ha, O, by omega, H1⟩
    refine js hl0 ?_
    with_reducible (refine qk ?_; (try dsimp only); refine qp ?_; (try dsimp only))
    refine qJ (zz (α := α) (by omega) H1 A1.good ha) ?_
    rintro _ h2 ⟨r, D2, rfl, E2, A2, b2, H2⟩
    have q2 := A2.stp
    have E3 : ∀ k : Act α, EqR (qO (QS sz root a way k) D) (qO (if r = 0 then Kw sz root a way k else Xh a way fun hr way2 => .read hr fun w => .take [(a, w)] (.read (hr + 1) fun x => .take [(a + 1, x)] (Kw sz root hr way2 k))) D2) := fun k => (E1 _).trans (by rw [if_neg hl0]; exact E2 _)
    by_cases hr0 : r = 0
    · refine ja hr0 ?_
      with_reducible (refine qR ?_; refine qV ?_)
      exact hj _ _ ⟨a, way, wv, D2, rfl, fun k => (E3 k).trans (by rw [if_pos hr0]; exact EqR.refl _), A2.good, by omega, ha, O, by omega, H2⟩
    refine js hr0 ?_
    with_reducible (refine qR ?_; refine qx ?_)
    refine qJ (qXU (α := α) (by omega) H2 A2.good O (by omega) (by omega) ha) ?_
    rintro _ h3 ⟨hr, way3, wv3, D3, rfl, E4, G3, q3, b3, O3, l3, H3⟩
    have E5 : ∀ k : Act α, EqR (qO (QS sz root a way k) D) (qO (.read hr fun w => .take [(a, w)] (.read (hr + 1) fun x => .take [(a + 1, x)] (Kw sz root hr way3 k))) D3) := fun k => (E3 k).trans (by rw [if_neg hr0]; exact E4 _)
    clear E1 E2 E3 E4 H H1 H2
    with_reducible (refine qk ?_; (try dsimp only); refine qE ?_; refine qZ ?_; refine qv (by assumption) e_1 (by with_unfolding_all exact rfl) ?_; refine qa (by omega) ?_; refine qE ?_; refine qZ ?_; refine qv (by assumption) e_1 (by with_unfolding_all exact rfl) ?_; refine qa (by omega) ?_)
    rw [show a + ((0 : Nat) : Int) = a by omega, show hr + ((0 : Nat) : Int) = hr by omega]
    refine qJ (xM (by omega) H3 G3.g.ok) ?_
    rintro _ h4 ⟨rfl, H4⟩
    have G4 := G3.read (p := hr)
    refine qJ (xS (by omega) H4 G4.1.g.ok) ?_
    intro _ h5 H5
    have G5 := G4.1.take (cs := [(a, (zj D3 hr).1)]) (wd1 (by omega))
    refine y8 H3 (b := t) e_1 rfl H4 e_1 rfl (HS.lt H3 e_1) ?_
    have q5 : (xQ (zj D3 hr).2 [(a, (zj D3 hr).1)]).stp = D3.stp := stp_take.trans xW
    have E6 : ∀ k : Act α, _ := fun k => (E5 k).trans (run_read.trans run_take)
    generalize xQ (zj D3 hr).2 [(a, (zj D3 hr).1)] = D5 at *
    clear H3 H4 E5
    with_reducible (refine qk ?_; (try dsimp only); refine qE ?_; refine qZ ?_; refine qv (by assumption) e_1 (by with_unfolding_all exact rfl) ?_; refine qa (by omega) ?_; refine qE ?_; refine qZ ?_; refine qv (by assumption) e_1 (by with_unfolding_all exact rfl) ?_; refine qa (by omega) ?_)
    rw [show a + ((1 : Nat) : Int) = a + 1 from rfl, show hr + ((1 : Nat) : Int) = hr + 1 from rfl]
    refine qJ (xM (by omega) H5 G5.g.ok) ?_
    rintro _ h6 ⟨rfl, H6⟩
    have G6 := G5.read (p := hr + 1)
    refine qJ (xS (by omega) H6 G6.1.g.ok) ?_
    intro _ h7 H7
    have G7 := G6.1.take (cs := [(a + 1, (zj D5 (hr + 1)).1)]) (wd1 (by omega))
    refine y8 H5 (b := t) e_1 rfl H6 e_1 rfl (HS.lt H5 e_1) ?_
    have q7 : (xQ (zj D5 (hr + 1)).2 [(a + 1, (zj D5 (hr + 1)).1)]).stp = D5.stp := stp_take.trans xW
    exact hj _ _ ⟨hr, way3, wv3, _, rfl, fun k => (E6 k).trans (run_read.trans run_take), G7, by omega, b3, O3, l3, H7⟩
  clear H G O hl hs ha
  rintro s h1 ⟨a2, way2, wv2, D2, rfl, E, G, hs, ha, O, hl, H⟩
  dsimp only
  refine qJ (zz (α := α) (by omega) H G ha) ?_
  rintro _ h2 ⟨o, D3, rfl, E3, A3, b3, H3⟩
  have q3 := A3.stp
  refine z7 [] (fun s h' => ∃ (only : Int) (D4 : DM), s = (.int .i64 only, .int .i64 a2, .ptr t 0, ()) ∧ (∀ k : Act α, EqR (qO (QS sz root a way k) D) (qO (qQR sz root a2 way2 only k) D4)) ∧ jG D4 sz 5 ∧ D4.stp ≤ 20000 ∧ (0 ≤ only ∧ only ≤ 2147483648) ∧
      HS g h' (DrC d D4 :: TrC t d root wv2 :: zD wv2 way2 :: R)) ?_ ?_
  · intro j hj
    by_cases ho : o = 0
    · refine jg ho (qx ?_)
      refine qJ (zz (α := α) (by omega) H3 A3.good ha) ?_
      rintro _ h4 ⟨o2, D4, rfl, E4, A4, b4, H4⟩
      have q4 := A4.stp
      exact hj _ _ ⟨o2, D4, rfl, fun k => (E k).trans ((E3 _).trans (by rw [if_pos ho]; exact E4 _)), A4.good, by omega, by omega, H4⟩
    · refine ql ho (qV ?_)
      exact hj _ _ ⟨o, D3, rfl, fun k => (E k).trans ((E3 _).trans (by rw [if_neg ho]; exact EqR.refl _)), A3.good, by omega, by omega, H3⟩
  clear E E3 A3 b3 H H3 G q3 hs
  rintro s h4 ⟨only, D4, rfl, E4, G4, q4, bo, H4⟩
  dsimp only
  refine qJ (gt (α := α) (by omega) H4 G4 ha) ?_
  rintro _ h5 ⟨wr, D5, rfl, E5, A5, H5⟩
  have q5 := A5.stp
  with_reducible (refine qE ?_; refine qZ ?_; refine qv (by assumption) e_1 (by with_unfolding_all exact rfl) ?_; refine jI (by assumption) e_2 ?_)
  refine qJ (Qs (α := α) (m := way2.length) (by omega) H5 A5.good O (by omega) (by omega) bo) ?_
  rintro _ h6 ⟨D6, E6, A6, H6⟩
  have q6 := A6.stp
  have E7 : ∀ k : Act α, _ := fun k => (E4 k).trans ((E5 _).trans (E6 _))
  clear E4 E5 E6 H4 H5
  refine z7 [] (fun s h' => ∃ (way3 : List jf) (wv3 : AV) (D7 : DM), s = (.int .i64 a2, .ptr t 0, ()) ∧ (∀ k : Act α, EqR (qO (QS sz root a way k) D) (qO (xg sz a2 k) D7)) ∧ jG D7 sz 5 ∧
      HS g h' (DrC d D7 :: TrC t d root wv3 :: zD wv3 way3 :: R)) ?_ ?_
  · intro j hj
    cases wr with
    | true =>
      refine qx ?_
      exact hj _ _ ⟨way2, wv2, D6, rfl, fun k => E7 k, A6.good, H6⟩
    | false =>
      refine qV ?_
      refine qJ (gt (α := α) (by omega) H6 A6.good bo) ?_
      rintro _ h7 ⟨ro, D7, rfl, E8, A7, H7⟩
      have q7 := A7.stp
      have E7' : ∀ k : Act α, EqR (qO (QS sz root a way k) D) (qO (xx only fun ro => if ro = true then jW only false (xg sz a2 k) else zX root (xg sz a2 k) 2049 way2) D6) := fun k => E7 k
      have E8' : ∀ k : Act α, EqR (qO (QS sz root a way k) D) (qO (if ro = true then jW only false (xg sz a2 k) else zX root (xg sz a2 k) 2049 way2) D7) := fun k => (E7' k).trans (E8 fun ro => if ro = true then jW only false (xg sz a2 k) else zX root (xg sz a2 k) 2049 way2)
      clear E7 E7' E8
      cases ro with
      | true =>
        have E8 : ∀ k : Act α, EqR (qO (QS sz root a way k) D) (qO (jW only false (xg sz a2 k)) D7) := fun k => E8' k
        refine qx ?_
        refine qJ (zN (α := α) (by omega) H7 A7.good bo) ?_
        rintro _ h8 ⟨D8, E9, A8, H8⟩
        exact hj _ _ ⟨way2, wv2, D8, rfl, fun k => (E8 k).trans (E9 _), A8.good, H8⟩
      | false =>
        have E8 : ∀ k : Act α, EqR (qO (QS sz root a way k) D) (qO (zX root (xg sz a2 k) 2049 way2) D7) := fun k => E8' k
        refine qV ?_
        refine qJ (Ve (α := α) (by omega) H7 A7.good O hl (by omega)) ?_
        rintro _ h8 ⟨D8, wv8, way8, E9, G8, H8⟩
        exact hj _ _ ⟨way8, wv8, D8, rfl, fun k => (E8 k).trans (E9 _), G8, H8⟩
  rintro s h7 ⟨way3, wv3, D7, rfl, E8, G7, H7⟩
  dsimp only
  with_reducible (refine qE ?_; refine qZ ?_; refine qv (by assumption) e_1 (by with_unfolding_all exact rfl) ?_)
  refine qJ (Zw (by omega) H7 G7) ?_
  intro _ h8 H8
  have G8 := G7.free (b := a2) (by omega)
  with_reducible (refine qF ?_)
  exact qz ⟨_, wv3, way3, fun k => (E8 k).trans (by rw [← G7.sz]; exact qQ8), G8, H8⟩
end Go.Proofs.YtpohfcljfemhlaaGreat.arenaParts
namespace Go.Proofs.YtpohfcljfemhlaaGreat.arenaParts
open Go Go.Ae arenaPlays
set_option maxRecDepth 100000
variable {g h : AH} {L R : List SP}
theorem qQ2 {D : DM} {sz : Nat} (G : jG D sz 6) : jG D sz 10 := ⟨G.g, G.sz, by have := G.fr; omega, G.st⟩
theorem ZA {n : Nat} (hn : 22 ≤ n) {d br bk bf : Nat} {P0 : SP} {D : DM} {root key : Int} {sz : Nat} (H : HS g h (DrC d D :: P0 :: qg bf [.bool false] :: qg bk [.int .u64 key] :: qg br [.int .i64 root] :: R)) (G : jG D sz 5) (hs : D.stp = 0) :
    wp (qw tab qI n (.fn 73 [] [.ptr br 0, .ptr bk 0, .ptr bf 0]) [.ptr d 0] h) fun _ h2 => ∃ (o : Option Bool) (D' : DM), EqR (qO (vE sz root key) D) (o, D') ∧ jG D' sz 10 ∧ HS g h2 (DrC d D' :: P0 :: BoxF bf o :: qg bk [.int .u64 key] :: qg br [.int .i64 root] :: R) := by
  refine XQ (g := W73) rfl (by omega) fun k hk => ?_
  show wp (S73 (qw tab qI k) _ _ _ _ _) _
  unfold S73
  try simp only [iI, uU, Int.ofNat_eq_natCast]
  refine qv H e_4 rfl ?_
  refine qm (l := [.ptr d 0, .int .i64 root, .nils]) rfl ?_
  refine jw H rfl fun t h1 H1 => ?_
  have H1 : HS g h1 (DrC d D :: TrC t d root .nils :: P0 :: qg bf [.bool false] :: qg bk [.int .u64 key] :: qg br [.int .i64 root] :: R) := H1.sub (.cons e_1 (.cons .here .refl))
  refine qv H1 e_4 rfl ?_
  refine qJ (Gn (α := Bool) (by omega) H1 G hs) ?_
  rintro _ h2 ⟨a, way, wv, D2, rfl, E2, G2, st2, ba, O, hwl, H2⟩
  have E2 : EqR (qO (vE sz root key) D) (qO (if a ≠ 0 then QS sz root a way (.ret true) else .ret false) D2) := E2 _
  have fin : ∀ {b : Bool} {o : Option Bool} {D' : DM} {h' : AH} {wv' : AV} {way' : List jf}, EqR (qO (vE sz root key) D) (o, D') → (o = none ∨ o = some b) → jG D' sz 10 → HS g h' (DrC d D' :: TrC t d root wv' :: zD wv' way' :: P0 :: qg bf [.bool b] :: qg bk [.int .u64 key] :: qg br [.int .i64 root] :: R) →
      ∃ (o : Option Bool) (D' : DM), EqR (qO (vE sz root key) D) (o, D') ∧ jG D' sz 10 ∧ HS g h' (DrC d D' :: P0 :: BoxF bf o :: qg bk [.int .u64 key] :: qg br [.int .i64 root] :: R) := by
    intro b o D' h' wv' way' E ho G H
    refine ⟨o, D', E, G, ?_⟩
    exact (BoxF.I ho (H.sub (L' := qg bf [.bool b] :: DrC d D' :: P0 :: qg bk [.int .u64 key] :: qg br [.int .i64 root] :: R) (.cons e_4 (.cons .here (.drop (.drop (.cons .here .refl))))))).sub (.cons e_1 (.cons e_1 (.cons .here .refl)))
  clear H H1
  by_cases ha : a = 0
  · rw [if_neg (by omega), gi] at E2
    refine ja ha ?_
    with_reducible (refine qk ?_; (try dsimp only); refine jk ?_; (try dsimp only); refine qb ?_; refine qV ?_)
    exact qz (fin E2 XT (wK G2) H2)
  rw [if_pos ha] at E2
  refine js ha ?_
  with_reducible (refine qk ?_; (try dsimp only); refine qp ?_; (try dsimp only))
  refine qJ (wn (by omega) H2) ?_
  rintro _ h3 ⟨rfl, rfl⟩
  by_cases he : D2.err = 0
  rotate_left
  · rw [decide_eq_false he]
    with_reducible (refine qR ?_; refine qV ?_)
    exact qz (fin (o := none) (E2.trans (EqR.err1 rfl he ⟨rfl, rfl⟩)) (.inl rfl) (wK G2) H2)
  rw [decide_eq_true he]
  with_reducible (refine qR ?_; refine qx ?_)
  refine qJ (qVB (α := Bool) (by omega) H2 G2 O (by omega) (by omega) (by omega)) ?_
  rintro _ h4 ⟨D4, wv4, way4, E4, G4, H4⟩
  have E5 := E2.trans (E4 _)
  rw [gi] at E5
  refine jx H4 (b := bf) e_4 ⟨rfl, rfl⟩ (by simp) fun h5 H5 => ?_
  have H5 : HS g h5 (qg bf [.bool true] :: DrC d D4 :: TrC t d root wv4 :: zD wv4 way4 :: P0 :: qg bk [.int .u64 key] :: qg br [.int .i64 root] :: R) := H5
  exact qz (fin (b := true) E5 XT (qQ2 G4) (H5.sub (.cons e_1 (.cons e_1 (.cons e_1 (.cons e_1 (.cons .here .refl)))))))
theorem qXu {n : Nat} (hn : 26 ≤ n) {v : Nat} {M : VM} {root key : Int} (H : HS g h (ViewC v M :: R)) (G : jH M) (hfr : frS M.lv ≤ 40000) (hr : 6 ≤ root ∧ root < 14) :
    wp (qw tab qI n (.fn 40 [] []) [.ptr v 0, .int .i64 root, .int .u64 key] h) fun r h' => ((doG M (vE M.sz root key)).1 = 0 → ∀ b, (qO (vE M.sz root key) ⟨ofV M, 0, 0⟩).1 = some b → r = .tup [.bool b, .int .i64 0]) ∧
      ((doG M (vE M.sz root key)).1 ≠ 0 → r = .tup [.bool false, .int .i64 (doG M (vE M.sz root key)).1]) ∧ (jH (doG M (vE M.sz root key)).2 ∧ frS (doG M (vE M.sz root key)).2.lv ≤ frS M.lv + 10) ∧ HS g h' (ViewC v (doG M (vE M.sz root key)).2 :: R) := by
  (refine qd (g := W40) rfl (by omega) fun k hk => ?_; show wp (S40 (qw tab qI k) _ _ _ _) _; unfold S40; try simp only [iI, uU, Int.ofNat_eq_natCast])
  refine jE H ⟨rfl, rfl⟩ fun br h1 H1 => ?_
  refine jE H1 ⟨rfl, rfl⟩ fun bk h2 H2 => ?_
  refine jE H2 ⟨rfl, rfl⟩ fun bf h4 H4 => ?_
  refine jx H4 (b := bf) .here ⟨rfl, rfl⟩ (by simp) fun h5 H5 => ?_
  have H5 : HS g h5 (qg bf [.bool false] :: qg bk [.int .u64 key] :: qg br [.int .i64 root] :: ViewC v M :: R) := H5
  refine qv H5 e_2 rfl ?_
  have GD := gG G
  refine qJ (wN (act := vE M.sz root key) (R1 := qg bf [.bool false] :: qg bk [.int .u64 key] :: qg br [.int .i64 root] :: R) (R2 := fun o => BoxF bf o :: qg bk [.int .u64 key] :: qg br [.int .i64 root] :: R) (by omega) (H5.sub (.cons e_3 (.cons .here (.cons .here (.cons .here .refl))))) G hfr hr ?_) ?_
  · intro m h6 d hm3 H6
    exact wp.mono (ZA (by omega) H6 GD rfl) fun v h4 hq => hq
  rintro _ h6 ⟨rfl, GG, H6⟩
  generalize (qO (vE M.sz root key) ⟨ofV M, 0, 0⟩).1 = o at *
  generalize doG M (vE M.sz root key) = X at *
  obtain ⟨e, M2⟩ := X
  dsimp only at *
  have fin : ∀ {b : Bool}, HS g h6 (qg bf [.bool b] :: ViewC v M2 :: qg bk [.int .u64 key] :: qg br [.int .i64 root] :: R) → (∀ b', o = some b' → b' = b) →
      wp (qG h6 (.ptr bf 0) fun v12 => qS (α := AV × AV × AV × Unit → AH → Go.Ae.R) (fun s13 h14 => qu s13.2.1 s13.1 (.bool false) fun v16 => some ((.tup [v16, s13.2.2.1]), h14)) fun j15 =>
        qs v12 true (qA .eql (.int .i64 e) (.int .i64 ((0 : Nat) : Int)) fun v17 => j15 (v17, v12, .int .i64 e, ()) h6) (j15 (.undef, v12, .int .i64 e, ()) h6)) fun r h' =>
      (e = 0 → ∀ b, o = some b → r = .tup [.bool b, .int .i64 0]) ∧ (e ≠ 0 → r = .tup [.bool false, .int .i64 e]) ∧ (jH M2 ∧ frS M2.lv ≤ frS M.lv + 10) ∧ HS g h' (ViewC v M2 :: R) := by
    intro b H ho
    have HR : HS g h6 (ViewC v M2 :: R) := H.sub (.cons e_1 (.drop (.drop (.drop .refl))))
    refine qv H .here rfl ?_
    cases b with
    | false =>
      refine qk ?_
      refine jk ?_
      refine qz ⟨fun he b' hb => ?_, fun _ => rfl, GG, HR⟩
      rw [ho b' hb, he]
    | true =>
      refine qk ?_
      refine qp ?_
      by_cases he : e = 0
      · refine jg he ?_
        refine qz ⟨fun he b' hb => ?_, fun h => absurd he h, GG, HR⟩
        rw [ho b' hb, he]
      · refine ql he ?_
        exact qz ⟨fun h => absurd h he, fun _ => rfl, GG, HR⟩
  cases o with
  | none =>
    have H7 := HS.exE (H6.sel (P := BoxF bf none) e_1)
    obtain ⟨b, H7⟩ := H7
    exact fin H7 (fun b' h => by cases h)
  | some b =>
    have H7 : HS g h6 (qg bf [.bool b] :: ViewC v M2 :: qg bk [.int .u64 key] :: qg br [.int .i64 root] :: R) := (H6.sel (P := BoxF bf (some b)) e_1)
    exact fin H7 (fun b' h => by cases h; rfl)
end Go.Proofs.YtpohfcljfemhlaaGreat.arenaParts
namespace Go.Proofs.YtpohfcljfemhlaaGreat
open Go Go.Ae
set_option maxRecDepth 100000
def zF (c : Int × Int) : List AV := [.int .u64 c.1, .int .u64 c.2]
theorem qZ2 (x y : Int × Int) : zA [.bas .int 0, .bas .int 1] (zF x) (zF y) = some (decide (x = y)) := by
  obtain ⟨a, b⟩ := x
  obtain ⟨a', b'⟩ := y
  show (bif ieq a a' then (bif ieq b b' then some true else some false) else some false) = _
  rw [w4, w4]
  by_cases h1 : a = a' <;> by_cases h2 : b = b' <;> simp [h1, h2]
theorem ZF {D1 D2 : Nat → Prop} {n p q : Nat} (hn : 1 ≤ n) {a b : AV} {xs ys : List (Int × Int)} {h : AH} (S1 : Sl D1 h 2 p a (xs.flatMap zF)) (S2 : Sl D2 h 2 q b (ys.flatMap zF)) (hp : p < 100000000) :
    wp (qw tab qI n (.fn 33 [] []) [a, b] h) fun v h' => v = .bool (decide (xs = ys)) ∧ h' = h := by
  have hxl : xs.length = p := by
    have := S1.len
    rw [kO (sz := 2) zF (fun _ => rfl)] at this
    omega
  have hyl : ys.length = q := by
    have := S2.len
    rw [kO (sz := 2) zF (fun _ => rfl)] at this
    omega
  (refine qd (g := W33) rfl (by omega) fun k hk => ?_; show wp (S33 (qw tab qI k) _ _ _) _; unfold S33; try simp only [iI, uU, Int.ofNat_eq_natCast])
  refine zp S1 (zp S2 (yQ (fun hne => ?_) fun heq => ?_))
  · refine qx (qz ⟨?_, rfl⟩)
    rw [decide_eq_false]
    rintro rfl
    exact hne (by omega)
  · refine qV (jO (fun m s g => ∃ i : Nat, s = (.int .i64 (i : Int), b, a, ()) ∧ i ≤ p ∧ m = p - i ∧ g = h ∧ xs.take i = ys.take i) ?_ (m := p) (by show p < 1000000000; omega) ⟨0, rfl, by omega, by omega, rfl, rfl⟩)
    rintro m ih s g hih ⟨i, rfl, h1, rfl, rfl, h2⟩
    dsimp only
    refine zp S1 (zK (fun hlt => qx ?_) fun hge => qV (qF (qz ⟨?_, rfl⟩)))
    · have hi : i < p := by omega
      refine xj (l := zF xs[i]) S1 hi (by omega) ?_ ?_
      · rw [yf (sz := 2) zF (fun _ => rfl), List.drop_eq_getElem_cons (by omega), List.flatMap_cons]; rfl
      refine xj (l := zF ys[i]) S2 (by omega) (by omega) ?_ ?_
      · rw [yf (sz := 2) zF (fun _ => rfl), List.drop_eq_getElem_cons (by omega), List.flatMap_cons]; rfl
      refine Kh (qZ2 _ _) (fun he => qV (qa (by omega) ?_)) (fun hne => qx (qF (qz ⟨?_, rfl⟩)))
      · refine hih (p - (i + 1)) _ _ (by omega) ⟨i + 1, rfl, by omega, rfl, rfl, ?_⟩
        rw [List.take_succ_eq_append_getElem (by omega), List.take_succ_eq_append_getElem (by omega), h2, he]
      · rw [decide_eq_false]
        rintro rfl
        exact hne rfl
    · rw [decide_eq_true]
      rw [List.take_of_length_le (by omega), List.take_of_length_le (by omega)] at h2
      exact h2
end Go.Proofs.YtpohfcljfemhlaaGreat
namespace Go.Proofs.YtpohfcljfemhlaaGreat
open Go Go.Ae
set_option maxRecDepth 100000
variable {g h : AH} {L R : List SP}
theorem XF {D : Nat → Prop} {sz n : Nat} {v : AV} {xs : List AV} (S : Sl D h sz n v xs) : One v := by cases S <;> exact ⟨rfl, rfl⟩
theorem gV {g' ha : AH} {b off n nx : Nat} {xs ys l : List AV} {L2 R2 : List SP} {K0 : Go.Ae.R} {Q : AV → AH → Prop} (H : HS g h L) (s : Sel L (qg b xs) R) (hx : (xs.drop off).take n = l) (H2 : HS g' ha L2) (s2 : Sel L2 (qg b ys) R2) (hx2 : (ys.drop off).take n = l) (hl : l.length = n) (h0 : 0 < n) (hlt : b < nx)
    (w : wp K0 Q) : wp (vq (.ptr b off) (some n) (.agg l) h ha nx K0) Q := by
  obtain ⟨e, A⟩ := H.obj s
  obtain ⟨e2, A2⟩ := H2.obj s2
  exact Mr hl h0 (fun i hi => by rw [A.at, ← hx, List.getElem?_take_of_lt hi, List.getElem?_drop]) (fun i hi => by rw [A2.at, ← hx2, List.getElem?_take_of_lt hi, List.getElem?_drop]) hlt w
theorem gd {u x : Bool} {r : AV} {K : AV → Go.Ae.R} {Q : AV → AH → Prop} (hr : u = true → r = .bool x) (w : wp (K (.bool (u && x))) Q) : wp (qu (.bool u) r (.bool false) K) Q := by
  cases u
  · exact w
  · rw [hr rfl]; exact w
end Go.Proofs.YtpohfcljfemhlaaGreat
namespace Go.Proofs.YtpohfcljfemhlaaGreat.arenaParts
open Go Go.Ae arenaPlays
set_option maxRecDepth 100000
variable {g h : AH} {L R : List SP}
theorem Ou {cs : List AV} {i n sz : Nat} {x : AV} {k : IntKind} {K : AV → Go.Ae.R} {Q : AV → AH → Prop} (hi : i < n) (hx : cs[i * sz]? = some x) (w : wp (K x) Q) : wp (Qd (.agg cs) (.int k (i : Int)) n sz K) Q := by
  show wp (bif Nat.ble (i + 1) n then ob (yr cs (i * sz)) K else none) Q
  rw [Nat.ble_eq_true_of_le hi, cond_true, zR, hx]
  exact w
theorem vi {b off i n sz : Nat} {k : IntKind} {K : AV → Go.Ae.R} {Q : AV → AH → Prop} (hi : i < n) (w : wp (K (.ptr b (off + i * sz))) Q) : wp (zO (.ptr b off) (.int k (i : Int)) n sz K) Q := by
  show wp (bif Nat.ble (i + 1) n then K (.ptr b (off + i * sz)) else none) Q
  rw [Nat.ble_eq_true_of_le hi, cond_true]
  exact w
abbrev w5 : Type := Int × Int × Int × Int
def xB (c : w5) : List AV := [.int .i64 c.1, .int .i64 c.2.1, .int .u64 c.2.2.1, .int .u64 c.2.2.2]
def w6 (x : Int × Int) : List AV := [.int .i64 x.1, .int .u64 x.2]
theorem it_eq (x y : Int × Int) : zA [.bas .int 0, .bas .int 1] (w6 x) (w6 y) = some (decide (x = y)) := by
  obtain ⟨a, b⟩ := x
  obtain ⟨a', b'⟩ := y
  show (bif ieq a a' then (bif ieq b b' then some true else some false) else some false) = _
  rw [w4, w4]
  by_cases h1 : a = a' <;> by_cases h2 : b = b' <;> simp [h1, h2]
theorem Ja {n : Nat} (hn : 1 ≤ n) {c : w5} (H : HS g h R) (hw : 1 ≤ c.1 ∧ c.1 ≤ 12) : wp (qw tab qI n (.fn 35 [] []) [.agg (xB c)] h) fun v h' => v = .int .i64 c.1 ∧ HS g h' R := by
  (refine qd (g := W35) rfl (by omega) fun k hk => ?_; show wp (S35 (qw tab qI k) _ _) _; unfold S35; try simp only [iI, uU, Int.ofNat_eq_natCast])
  refine jw H rfl fun b h1 H1 => ?_
  unfold xB at H1
  with_reducible (refine qZ ?_; refine qv (by assumption) .here (by with_unfolding_all exact rfl) ?_; refine zl (by omega) ?_; refine qk ?_; (try dsimp only); refine qp ?_; (try dsimp only); refine qZ ?_; refine qv (by assumption) .here (by with_unfolding_all exact rfl) ?_; refine xH (by omega) ?_; refine qR ?_; refine qx ?_; refine qZ ?_; refine qv (by assumption) .here (by with_unfolding_all exact rfl) ?_)
  exact qz ⟨rfl, H1.drop⟩
theorem JH {n : Nat} (hn : 1 ≤ n) {c : w5} (H : HS g h R) : wp (qw tab qI n (.fn 38 [] []) [.agg (xB c)] h) fun v h' => v = .int .u64 (c.2.2.1.tmod 12) ∧ HS g h' R := by
  (refine qd (g := W38) rfl (by omega) fun k hk => ?_; show wp (S38 (qw tab qI k) _ _) _; unfold S38; try simp only [iI, uU, Int.ofNat_eq_natCast])
  refine jw H rfl fun b h1 H1 => ?_
  unfold xB at H1
  with_reducible (refine qZ ?_; refine qv (by assumption) .here (by with_unfolding_all exact rfl) ?_)
  exact Kc (by omega) (qz ⟨rfl, H1.drop⟩)
theorem KM {n : Nat} (hn : 1 ≤ n) {c : w5} (H : HS g h R) : wp (qw tab qI n (.fn 39 [] []) [.agg (xB c)] h) fun v h' => v = .int .u64 (c.2.2.2.tmod 12) ∧ HS g h' R := by
  (refine qd (g := W39) rfl (by omega) fun k hk => ?_; show wp (S39 (qw tab qI k) _ _) _; unfold S39; try simp only [iI, uU, Int.ofNat_eq_natCast])
  refine jw H rfl fun b h1 H1 => ?_
  unfold xB at H1
  with_reducible (refine qZ ?_; refine qv (by assumption) .here (by with_unfolding_all exact rfl) ?_)
  exact Kc (by omega) (qz ⟨rfl, H1.drop⟩)
theorem qQ4 {sz : Nat} : ∀ {l K : List Cl}, UnC (K ++ l) → (∀ c ∈ l, 1 ≤ c.1 ∧ c.1 < (sz : Int)) → l.foldl knw (lvV sz K [] [] 0) = lvV sz (K ++ l) [] [] 0 := by
  intro l
  induction l with
  | nil => intro K _ _; rw [List.append_nil]; rfl
  | cons c l ih =>
    intro K hu hi
    have hn : jM c.1 K = none := by
      rw [kf]
      intro hm
      unfold UnC at hu
      rw [List.map_append] at hu
      exact (List.nodup_append.1 hu).2.2 _ hm c.1 (List.mem_cons_self ..) rfl
    have e : knw (lvV sz K [] [] 0) c = lvV sz (K ++ [c]) [] [] 0 := by
      unfold knw wJ
      rw [if_pos (show 1 ≤ c.1 ∧ c.1 < ((lvV sz K [] [] 0).sz : Int) from hi c (List.mem_cons_self ..)), show (lvV sz K [] [] 0).K = K from rfl, hn]
      rfl
    rw [List.foldl_cons, e, ih (by rw [List.append_assoc]; exact hu) fun d hd => hi d (List.mem_cons_of_mem _ hd), List.append_assoc]
    rfl
theorem qJs {M : VM} (O : OkV M) (h : M.lv = [([], [])]) : ofV M = lvV M.sz M.K [] [] 0 := by
  unfold ofV
  have e : jy M.lv = [] := by rw [h]; rfl
  rw [e, List.foldl_nil]
  exact qQ4 (by rw [List.nil_append]; exact O.un) O.ins
theorem Jk {α : Type} {M : VM} {act : Act α} (O : OkV M) (h : M.lv = [([], [])]) : doG M act = doR M act ∧ (qO act ⟨ofV M, 0, 0⟩).1 = vm M act := by
  unfold doG doR vm
  rw [qJs O h]
  exact ⟨rfl, rfl⟩
theorem GV {M : VM} (h : M.lv = [([], [])]) : frS M.lv ≤ 40000 := by rw [h]; simp [frS]
theorem qJE {n : Nat} (hn : 23 ≤ n) {v : Nat} {M : VM} {root key : Int} (H : HS g h (ViewC v M :: R)) (G : jH M) (hfr : frS M.lv ≤ 40000) (hr : 6 ≤ root ∧ root < 14) (h0 : (doG M (xd root key)).1 ≠ 0) :
    wp (qw tab qI n (.fn 29 [] []) [.ptr v 0, .int .i64 root, .int .u64 key] h) fun r h' => r = .tup [.int .u64 0, .bool false, .int .i64 (doG M (xd root key)).1] ∧ HS g h' (ViewC v (doG M (xd root key)).2 :: R) := by
  (refine qd (g := W29) rfl (by omega) fun k hk => ?_; show wp (S29 (qw tab qI k) _ _ _ _) _; unfold S29; try simp only [iI, uU, Int.ofNat_eq_natCast])
  refine jE H ⟨rfl, rfl⟩ fun br h1 H1 => ?_
  refine jE H1 ⟨rfl, rfl⟩ fun bk h2 H2 => ?_
  refine jE H2 ⟨rfl, rfl⟩ fun bx h3 H3 => ?_
  refine jE H3 ⟨rfl, rfl⟩ fun bt h4 H4 => ?_
  refine jx H4 (b := bx) e_1 ⟨rfl, rfl⟩ (by simp) fun h5 H5 => ?_
  refine jx H5 (b := bt) e_1 ⟨rfl, rfl⟩ (by simp) fun h6 H6 => ?_
  have H6 : HS g h6 (qg bt [.bool false] :: qg bx [.int .u64 0] :: qg bk [.int .u64 key] :: qg br [.int .i64 root] :: ViewC v M :: R) := H6
  refine qv H6 e_3 rfl ?_
  have GD := gG G
  refine qJ (wN (act := xd root key) (R1 := qg bt [.bool false] :: qg bx [.int .u64 0] :: qg bk [.int .u64 key] :: qg br [.int .i64 root] :: R) (R2 := fun o => BoxG bx bt o :: qg bk [.int .u64 key] :: qg br [.int .i64 root] :: R) (by omega) (H6.sub (.cons e_4 (.cons .here (.cons .here (.cons .here (.cons .here .refl)))))) G hfr hr ?_) ?_
  · intro m h7 d hm3 H7
    exact wp.mono (UY (by omega) H7 GD rfl) fun v h4 hq => hq
  rintro _ h7 ⟨rfl, GG, H7⟩
  refine js h0 ?_
  with_reducible (refine qx ?_)
  exact qz ⟨rfl, H7.sub (.cons .here (.drop (.drop (.drop .refl))))⟩
theorem Vn {n : Nat} (hn : 2090 ≤ n) {v : Nat} {M : VM} {root lo hi : Int} (H : HS g h (ViewC v M :: R)) (G : jH M) (hfr : frS M.lv ≤ 40000) (hr : 6 ≤ root ∧ root < 14) (h0 : (doG M (jb root lo hi)).1 ≠ 0) :
    wp (qw tab qI n (.fn 28 [] []) [.ptr v 0, .int .i64 root, .int .u64 lo, .int .u64 hi] h) fun r h' => r = .tup [.nils, .int .i64 (doG M (jb root lo hi)).1] ∧ HS g h' (ViewC v (doG M (jb root lo hi)).2 :: R) := by
  (refine qd (g := W28) rfl (by omega) fun k hk => ?_; show wp (S28 (qw tab qI k) _ _ _ _ _) _; unfold S28; try simp only [iI, uU, Int.ofNat_eq_natCast])
  refine jE H ⟨rfl, rfl⟩ fun br h1 H1 => ?_
  refine jE H1 ⟨rfl, rfl⟩ fun bl h2 H2 => ?_
  refine jE H2 ⟨rfl, rfl⟩ fun bh h3 H3 => ?_
  refine jE H3 ⟨rfl, rfl⟩ fun bo h4 H4 => ?_
  refine qv H4 e_3 rfl ?_
  have GD := gG G
  refine qJ (wN (act := jb root lo hi) (R1 := qg bo [.nils] :: qg bh [.int .u64 hi] :: qg bl [.int .u64 lo] :: qg br [.int .i64 root] :: R) (R2 := fun o => Nr bo o :: qg bh [.int .u64 hi] :: qg bl [.int .u64 lo] :: qg br [.int .i64 root] :: R) (by omega) (H4.sub (.cons e_4 (.cons .here (.cons .here (.cons .here (.cons .here .refl)))))) G hfr hr ?_) ?_
  · intro m h7 d hm3 H7
    exact wp.mono (Yj (by omega) H7 GD rfl) fun v h4 hq => hq
  rintro _ h7 ⟨rfl, GG, H7⟩
  refine js h0 ?_
  with_reducible (refine qx ?_)
  exact qz ⟨rfl, H7.sub (.cons .here (.drop (.drop (.drop (.drop .refl)))))⟩
theorem QZ {n : Nat} (hn : 2 ≤ n) {c : w5} (H : HS g h R) (hw : 9 ≤ c.1 ∧ c.1 ≤ 12) : wp (qw tab qI n (.fn 10 [] []) [.agg (xB c)] h) fun v h' => v = .int .i64 (6 + zT c.2.1 0 1) ∧ HS g h' R := by
  (refine qd (g := W10) rfl (by omega) fun k hk => ?_; show wp (S10 (qw tab qI k) _ _) _; unfold S10; try simp only [iI, uU, Int.ofNat_eq_natCast])
  refine jw H rfl fun b h1 H1 => ?_
  have H1 : HS g h1 (qg b (xB c) :: R) := H1
  refine qm rfl ?_
  refine jv H1 (b := b) (off := 0) .here rfl (by omega) rfl ?_
  refine qJ (Ja (by omega) H1 (by omega)) ?_
  rintro _ h2 ⟨rfl, H2⟩
  have hb := QB c.2.1 (show (0 : Int) ≤ 1 by omega)
  obtain ⟨w, hwe⟩ : ∃ w : Nat, c.1 = (w : Int) := ⟨c.1.toNat, by omega⟩
  rw [hwe]
  refine Ou (x := .int .i64 3) (by omega) (by
    have h4 : w = 9 ∨ w = 10 ∨ w = 11 ∨ w = 12 := by omega
    rcases h4 with rfl | rfl | rfl | rfl <;> rfl) ?_
  refine MC (by decide) ?_
  unfold xB at H2
  with_reducible (refine qZ ?_; refine qv (by assumption) .here (by with_unfolding_all exact rfl) ?_)
  refine qJ (Y4 (by omega) (by omega) (by omega) (by omega)) ?_
  rintro _ h3 ⟨rfl, rfl⟩
  rw [show zT c.2.1 ((0 : Nat) : Int) ((1 : Nat) : Int) = zT c.2.1 0 1 from rfl]
  refine qa (by omega) (qz ⟨?_, H2.drop⟩)
  congr 1
theorem qQi {n : Nat} (hn : 2 ≤ n) {c : w5} (H : HS g h R) : wp (qw tab qI n (.fn 9 [] []) [.agg (xB c)] h) fun v h' => v = .agg (xB (zT c.1 9 12, c.2)) ∧ HS g h' R := by
  (refine qd (g := W9) rfl (by omega) fun k hk => ?_; show wp (S9 (qw tab qI k) _ _) _; unfold S9; try simp only [iI, uU, Int.ofNat_eq_natCast])
  refine jw H rfl fun b h1 H1 => ?_
  refine jw H1 rfl fun b2 h2 H2 => ?_
  unfold xB at H2
  with_reducible (refine qZ ?_; refine qv (by assumption) e_1 (by with_unfolding_all exact rfl) ?_)
  refine qJ (Y4 (by omega) (by omega) (by omega) (by omega)) ?_
  rintro _ h3 ⟨rfl, rfl⟩
  rw [show zT c.1 ((9 : Nat) : Int) ((12 : Nat) : Int) = zT c.1 9 12 from rfl]
  with_reducible (refine qZ ?_)
  refine jx H2 (b := b) e_1 ⟨rfl, rfl⟩ (by simp) fun h4 H4 => ?_
  have H4 : HS g h4 (qg b (xB (zT c.1 9 12, c.2)) :: qg b2 [.int .i64 ((0 : Nat) : Int), .int .i64 ((0 : Nat) : Int), .int .u64 ((0 : Nat) : Int), .int .u64 ((0 : Nat) : Int)] :: R) := H4
  refine jv H4 (b := b) (off := 0) .here rfl (by omega) rfl ?_
  refine zW H4 (b := b2) e_1 rfl (by simp) rfl fun h5 H5 => ?_
  have H5 : HS g h5 (qg b2 (xB (zT c.1 9 12, c.2)) :: qg b (xB (zT c.1 9 12, c.2)) :: R) := H5
  refine jv H5 (b := b2) (off := 0) .here rfl (by omega) rfl ?_
  exact qz ⟨rfl, H5.drop.drop⟩
theorem qQB {n : Nat} (hn : 2100 ≤ n) {v : Nat} {M : VM} {root : Int} {c : w5} (H : HS g h (ViewC v M :: R)) (G : jH M) (hlv : M.lv = [([], [])]) (hr : 6 ≤ root ∧ root < 14) (hw : 9 ≤ c.1 ∧ c.1 ≤ 12) (hkk : 0 ≤ c.2.2.1) (hxx : 0 ≤ c.2.2.2)
    (hs : SmX M root c.1 (c.2.2.1.tmod 12) (c.2.2.2.tmod 12)) (hget : ∀ x, vm M (xd root (c.2.2.1.tmod 12)) = some (x, false) → x = 0) (hcnt : ∀ l, vm M (jb root (c.2.2.1.tmod 12) (c.2.2.2.tmod 12)) = some l → c.1 = 12 → l.length ≤ 1000) :
    wp (qw tab qI n (.fn 13 [] []) [.ptr v 0, .int .i64 root, .agg (xB c)] h) fun r h' => r = .tup [.agg (w6 (kU M root c.1 (c.2.2.1.tmod 12) (c.2.2.2.tmod 12)).1), .int .i64 (kU M root c.1 (c.2.2.1.tmod 12) (c.2.2.2.tmod 12)).2.1] ∧
      HS g h' (ViewC v (kU M root c.1 (c.2.2.1.tmod 12) (c.2.2.2.tmod 12)).2.2 :: R) := by
  (refine qd (g := W13) rfl (by omega) fun k hk => ?_; show wp (S13 (qw tab qI k) _ _ _ _) _; unfold S13; try simp only [iI, uU, Int.ofNat_eq_natCast])
  refine jw H rfl fun b h1 H1 => ?_
  have H1 : HS g h1 (qg b (xB c) :: ViewC v M :: R) := H1
  refine jw H1 rfl fun b2 h2 H2 => ?_
  refine jv H2 (b := b) (off := 0) e_1 rfl (by omega) rfl ?_
  refine qJ (Ja (c := c) (by omega) H2 (by omega)) ?_
  rintro _ h3 ⟨rfl, H3⟩
  have hkb1 := Int.tmod_nonneg 12 hkk
  have hkb2 := Int.tmod_lt_of_pos c.2.2.1 (show (0 : Int) < 12 by omega)
  have hxb1 := Int.tmod_nonneg 12 hxx
  have hxb2 := Int.tmod_lt_of_pos c.2.2.2 (show (0 : Int) < 12 by omega)
  have hf := GV hlv
  unfold kU
  have hw4 : c.1 = 9 ∨ c.1 = 10 ∨ c.1 = 11 ∨ c.1 = 12 := by omega
  rcases hw4 with hw | hw | hw | hw
  · rw [hw, if_pos rfl]
    refine qk ?_
    refine jg rfl (qx ?_)
    refine qk ?_
    refine jv H3 (b := b) (off := 0) e_1 rfl (by omega) rfl ?_
    refine qJ (JH (c := c) (by omega) H3) ?_
    rintro _ h4 ⟨rfl, H4⟩
    refine jv H4 (b := b) (off := 0) e_1 rfl (by omega) rfl ?_
    refine qJ (KM (c := c) (by omega) H4) ?_
    rintro _ h5 ⟨rfl, H5⟩
    obtain ⟨d1, d2⟩ := Jk (act := yy M.sz root (c.2.2.1.tmod 12) (c.2.2.2.tmod 12)) G.ok hlv
    refine qJ (Mf (by omega) (H5.sel e_2) G hf hr (by omega) (by omega)) ?_
    rintro r h6 ⟨r1, r2, _, H6⟩
    rw [d1, d2] at r1
    rw [d1] at r2 H6
    have hso := hs.put hw
    generalize doR M (yy M.sz root (c.2.2.1.tmod 12) (c.2.2.2.tmod 12)) = X at *
    generalize vm M (yy M.sz root (c.2.2.1.tmod 12) (c.2.2.2.tmod 12)) = o at *
    obtain ⟨e, M'⟩ := X
    dsimp only at *
    by_cases he : e = 0
    · subst he
      obtain ⟨bo, rfl⟩ := Option.isSome_iff_exists.1 (hso rfl)
      obtain rfl := r1 rfl bo rfl
      with_reducible (refine qy (by with_unfolding_all exact rfl) ?_; refine qy (by with_unfolding_all exact rfl) ?_)
      refine gV H3 (b := b) e_1 rfl H4 e_1 rfl rfl (by omega) (HS.lt H3 e_1) ?_
      cases bo
      · show wp _ fun r h' => r = .tup [.agg (w6 (2, 0)), _] ∧ _
        with_reducible (refine qV ?_; refine qm (by with_unfolding_all exact rfl) ?_)
        refine zW H6 (b := b2) e_1 rfl (by simp) rfl fun h7 H7 => ?_
        with_reducible (refine qF ?_)
        refine jv H7 (b := b2) (off := 0) .here rfl (by omega) rfl ?_
        exact qz ⟨rfl, H7.sub (.cons e_1 (.drop (.drop .refl)))⟩
      · show wp _ fun r h' => r = .tup [.agg (w6 (2, 1)), _] ∧ _
        with_reducible (refine qx ?_; refine qm (by with_unfolding_all exact rfl) ?_)
        refine zW H6 (b := b2) e_1 rfl (by simp) rfl fun h7 H7 => ?_
        with_reducible (refine qF ?_)
        refine jv H7 (b := b2) (off := 0) .here rfl (by omega) rfl ?_
        exact qz ⟨rfl, H7.sub (.cons e_1 (.drop (.drop .refl)))⟩
    · obtain rfl := r2 he
      with_reducible (refine qy (by with_unfolding_all exact rfl) ?_; refine qy (by with_unfolding_all exact rfl) ?_)
      refine gV H3 (b := b) e_1 rfl H4 e_1 rfl rfl (by omega) (HS.lt H3 e_1) ?_
      rw [show UT e o = (2, 0) from if_neg he]
      with_reducible (refine qV ?_; refine qm (by with_unfolding_all exact rfl) ?_)
      refine zW H6 (b := b2) e_1 rfl (by simp) rfl fun h7 H7 => ?_
      with_reducible (refine qF ?_)
      refine jv H7 (b := b2) (off := 0) .here rfl (by omega) rfl ?_
      exact qz ⟨rfl, H7.sub (.cons e_1 (.drop (.drop .refl)))⟩
  · rw [hw, if_neg (by omega), if_pos rfl]
    refine qk ?_
    refine ql (by omega) (qV ?_)
    refine jg rfl (qx ?_)
    refine jv H3 (b := b) (off := 0) e_1 rfl (by omega) rfl ?_
    refine qJ (JH (c := c) (by omega) H3) ?_
    rintro _ h4 ⟨rfl, H4⟩
    obtain ⟨d1, d2⟩ := Jk (act := xd root (c.2.2.1.tmod 12)) G.ok hlv
    have hso := hs.get hw
    by_cases he : (doR M (xd root (c.2.2.1.tmod 12))).1 = 0
    · obtain ⟨⟨x, bo⟩, ho⟩ := Option.isSome_iff_exists.1 (hso he)
      refine qJ (Ml (by omega) (H4.sel e_2) G hf hr (by rw [d1]; exact he) (d2.trans ho)) ?_
      rintro _ h6 ⟨rfl, _, H6⟩
      rw [d1] at H6
      rw [ho, show NS (doR M (xd root (c.2.2.1.tmod 12))).1 (some (x, bo)) = match (x, bo) with | (x, true) => (1, x) | _ => (3, 0) by unfold NS; rw [if_pos he]; cases bo <;> rfl]
      generalize doR M (xd root (c.2.2.1.tmod 12)) = X at *
      obtain ⟨e, M'⟩ := X
      dsimp only at he
      subst he
      dsimp only at *
      have H6 : HS g h6 (ViewC v M' :: qg b2 [.int .i64 ((0 : Nat) : Int), .int .u64 ((0 : Nat) : Int)] :: qg b (xB c) :: R) := H6
      cases bo
      · have hx0 := hget x ho
        subst hx0
        with_reducible (refine qy (by with_unfolding_all exact rfl) ?_; refine qy (by with_unfolding_all exact rfl) ?_; refine qy (by with_unfolding_all exact rfl) ?_; refine jr ?_; refine qx ?_; refine qm (by with_unfolding_all exact rfl) ?_)
        refine zW H6 (b := b2) e_1 rfl (by simp) rfl fun h7 H7 => ?_
        skip
        refine jv H7 (b := b2) (off := 0) .here rfl (by omega) rfl ?_
        exact qz ⟨rfl, H7.sub (.cons e_1 (.drop (.drop .refl)))⟩
      · dsimp only
        with_reducible (refine qy (by with_unfolding_all exact rfl) ?_; refine qy (by with_unfolding_all exact rfl) ?_; refine qy (by with_unfolding_all exact rfl) ?_; refine jU ?_; refine qV ?_; refine qm (by with_unfolding_all exact rfl) ?_)
        refine zW H6 (b := b2) e_1 rfl (by simp) rfl fun h7 H7 => ?_
        skip
        refine jv H7 (b := b2) (off := 0) .here rfl (by omega) rfl ?_
        exact qz ⟨rfl, H7.sub (.cons e_1 (.drop (.drop .refl)))⟩
    · refine qJ (qJE (by omega) (H4.sel e_2) G hf hr (by rw [d1]; exact he)) ?_
      rintro _ h6 ⟨rfl, H6⟩
      rw [d1] at H6 ⊢
      generalize doR M (xd root (c.2.2.1.tmod 12)) = X at *
      obtain ⟨e, M'⟩ := X
      dsimp only at *
      have H6 : HS g h6 (ViewC v M' :: qg b2 [.int .i64 ((0 : Nat) : Int), .int .u64 ((0 : Nat) : Int)] :: qg b (xB c) :: R) := H6
      generalize vm M (xd root (c.2.2.1.tmod 12)) = o at *
      rw [show NS e o = (3, 0) from if_neg he]
      with_reducible (refine qy (by with_unfolding_all exact rfl) ?_; refine qy (by with_unfolding_all exact rfl) ?_; refine qy (by with_unfolding_all exact rfl) ?_; refine jr ?_; refine qx ?_; refine qm (by with_unfolding_all exact rfl) ?_)
      refine zW H6 (b := b2) e_1 rfl (by simp) rfl fun h7 H7 => ?_
      skip
      refine jv H7 (b := b2) (off := 0) .here rfl (by omega) rfl ?_
      exact qz ⟨rfl, H7.sub (.cons e_1 (.drop (.drop .refl)))⟩
  · rw [hw, if_neg (by omega), if_neg (by omega), if_pos rfl]
    refine qk ?_
    refine ql (by omega) (qV ?_)
    refine ql (by omega) (qV ?_)
    refine jg rfl (qx ?_)
    refine jv H3 (b := b) (off := 0) e_1 rfl (by omega) rfl ?_
    refine qJ (JH (c := c) (by omega) H3) ?_
    rintro _ h4 ⟨rfl, H4⟩
    obtain ⟨d1, d2⟩ := Jk (act := vE M.sz root (c.2.2.1.tmod 12)) G.ok hlv
    refine qJ (qXu (by omega) (H4.sel e_2) G hf hr) ?_
    rintro r h6 ⟨r1, r2, _, H6⟩
    rw [d1, d2] at r1
    rw [d1] at r2 H6
    have hso := hs.del hw
    generalize doR M (vE M.sz root (c.2.2.1.tmod 12)) = X at *
    generalize vm M (vE M.sz root (c.2.2.1.tmod 12)) = o at *
    obtain ⟨e, M'⟩ := X
    dsimp only at *
    have H6 : HS g h6 (ViewC v M' :: qg b2 [.int .i64 ((0 : Nat) : Int), .int .u64 ((0 : Nat) : Int)] :: qg b (xB c) :: R) := H6
    by_cases he : e = 0
    · subst he
      obtain ⟨bo, rfl⟩ := Option.isSome_iff_exists.1 (hso rfl)
      obtain rfl := r1 rfl bo rfl
      cases bo
      · show wp _ fun r h' => r = .tup [.agg (w6 (2, 0)), _] ∧ _
        with_reducible (refine qy (by with_unfolding_all exact rfl) ?_; refine qy (by with_unfolding_all exact rfl) ?_; refine qV ?_; refine qm (by with_unfolding_all exact rfl) ?_)
        refine zW H6 (b := b2) e_1 rfl (by simp) rfl fun h7 H7 => ?_
        with_reducible (refine qF ?_)
        refine jv H7 (b := b2) (off := 0) .here rfl (by omega) rfl ?_
        exact qz ⟨rfl, H7.sub (.cons e_1 (.drop (.drop .refl)))⟩
      · show wp _ fun r h' => r = .tup [.agg (w6 (2, 1)), _] ∧ _
        with_reducible (refine qy (by with_unfolding_all exact rfl) ?_; refine qy (by with_unfolding_all exact rfl) ?_; refine qx ?_; refine qm (by with_unfolding_all exact rfl) ?_)
        refine zW H6 (b := b2) e_1 rfl (by simp) rfl fun h7 H7 => ?_
        with_reducible (refine qF ?_)
        refine jv H7 (b := b2) (off := 0) .here rfl (by omega) rfl ?_
        exact qz ⟨rfl, H7.sub (.cons e_1 (.drop (.drop .refl)))⟩
    · obtain rfl := r2 he
      rw [show UT e o = (2, 0) from if_neg he]
      with_reducible (refine qy (by with_unfolding_all exact rfl) ?_; refine qy (by with_unfolding_all exact rfl) ?_; refine qV ?_; refine qm (by with_unfolding_all exact rfl) ?_)
      refine zW H6 (b := b2) e_1 rfl (by simp) rfl fun h7 H7 => ?_
      with_reducible (refine qF ?_)
      refine jv H7 (b := b2) (off := 0) .here rfl (by omega) rfl ?_
      exact qz ⟨rfl, H7.sub (.cons e_1 (.drop (.drop .refl)))⟩
  · rw [hw, if_neg (by omega), if_neg (by omega), if_neg (by omega)]
    refine qk ?_
    refine ql (by omega) (qV ?_)
    refine ql (by omega) (qV ?_)
    refine ql (by omega) (qV ?_)
    refine qk ?_
    refine jv H3 (b := b) (off := 0) e_1 rfl (by omega) rfl ?_
    refine qJ (JH (c := c) (by omega) H3) ?_
    rintro _ h4 ⟨rfl, H4⟩
    refine jv H4 (b := b) (off := 0) e_1 rfl (by omega) rfl ?_
    refine qJ (KM (c := c) (by omega) H4) ?_
    rintro _ h5 ⟨rfl, H5⟩
    obtain ⟨d1, d2⟩ := Jk (act := jb root (c.2.2.1.tmod 12) (c.2.2.2.tmod 12)) G.ok hlv
    have hso := hs.rng hw
    by_cases he : (doR M (jb root (c.2.2.1.tmod 12) (c.2.2.2.tmod 12))).1 = 0
    · obtain ⟨l, ho⟩ := Option.isSome_iff_exists.1 (hso he)
      have hll := hcnt l ho hw
      refine qJ (Jn (by omega) (H5.sel e_2) G hf hr (by rw [d1]; exact he) (d2.trans ho)) ?_
      rintro _ h6 ⟨ov, rfl, _, H6⟩
      rw [d1] at H6
      rw [ho, show Zy (doR M (jb root (c.2.2.1.tmod 12) (c.2.2.2.tmod 12))).1 (some l) = (1, (l.length : Int)) by unfold Zy; rw [if_pos he]]
      generalize doR M (jb root (c.2.2.1.tmod 12) (c.2.2.2.tmod 12)) = X at *
      obtain ⟨e, M'⟩ := X
      dsimp only at he
      subst he
      dsimp only at *
      have H6 : HS g h6 (ViewC v M' :: qg b2 [.int .i64 ((0 : Nat) : Int), .int .u64 ((0 : Nat) : Int)] :: Qv ov l :: qg b (xB c) :: R) := H6.sub (.cons e_1 (.cons e_1 (.cons .here .refl)))
      with_reducible (refine qy (by with_unfolding_all exact rfl) ?_; refine qy (by with_unfolding_all exact rfl) ?_)
      refine gV H3 (b := b) e_1 rfl H4 e_1 rfl rfl (by omega) (HS.lt H3 e_1) ?_
      refine jI H6 e_2 ?_
      refine zd (by omega) ?_
      with_reducible (refine qm (by with_unfolding_all exact rfl) ?_)
      refine zW H6 (b := b2) e_1 rfl (by simp) rfl fun h7 H7 => ?_
      skip
      refine jv H7 (b := b2) (off := 0) .here rfl (by omega) rfl ?_
      exact qz ⟨rfl, H7.sub (.cons e_1 (.drop (.drop (.drop .refl))))⟩
    · refine qJ (Vn (by omega) (H5.sel e_2) G hf hr (by rw [d1]; exact he)) ?_
      rintro _ h6 ⟨rfl, H6⟩
      rw [d1] at H6 ⊢
      generalize doR M (jb root (c.2.2.1.tmod 12) (c.2.2.2.tmod 12)) = X at *
      obtain ⟨e, M'⟩ := X
      dsimp only at *
      have H6 : HS g h6 (ViewC v M' :: qg b2 [.int .i64 ((0 : Nat) : Int), .int .u64 ((0 : Nat) : Int)] :: qg b (xB c) :: R) := H6
      generalize vm M (jb root (c.2.2.1.tmod 12) (c.2.2.2.tmod 12)) = o at *
      rw [show Zy e o = (1, 0) from if_neg he]
      with_reducible (refine qy (by with_unfolding_all exact rfl) ?_; refine qy (by with_unfolding_all exact rfl) ?_)
      refine gV H3 (b := b) e_1 rfl H4 e_1 rfl rfl (by omega) (HS.lt H3 e_1) ?_
      refine qXp ?_
      refine zd (by omega) ?_
      with_reducible (refine qm (by with_unfolding_all exact rfl) ?_)
      refine zW H6 (b := b2) e_1 rfl (by simp) rfl fun h7 H7 => ?_
      skip
      refine jv H7 (b := b2) (off := 0) .here rfl (by omega) rfl ?_
      exact qz ⟨rfl, H7.sub (.cons e_1 (.drop (.drop .refl)))⟩
theorem Ky (l : List (Int × Int)) : zZ (l.flatMap zF) = true := by
  unfold zZ
  rw [List.all_eq_true]
  intro v hv
  obtain ⟨c, _, hc⟩ := List.mem_flatMap.1 hv
  simp [zF] at hc
  rcases hc with rfl | rfl <;> rfl
theorem qZF {n : Nat} (hn : 2100 ≤ n) {v : Nat} {M : VM} {root : Int} {l : List qo} (H : HS g h (ViewC v M :: R)) (G : jH M) (hlv : M.lv = [([], [])]) (hr : 6 ≤ root ∧ root < 14) (h0 : (doR M (jb root 0 18446744073709551615)).1 = 0) (hl : vm M (jb root 0 18446744073709551615) = some l) :
    wp (qw tab qI n (.fn 32 [] []) [.ptr v 0, .int .i64 root] h) fun r h' => ∃ pv, r = .tup [pv, .int .i64 0] ∧ HS g h' (Qv pv l :: ViewC v (doR M (jb root 0 18446744073709551615)).2 :: R) := by
  (refine qd (g := W32) rfl (by omega) fun k hk => ?_; show wp (S32 (qw tab qI k) _ _ _) _; unfold S32; try simp only [iI, uU, Int.ofNat_eq_natCast])
  obtain ⟨d1, d2⟩ := Jk (act := jb root 0 18446744073709551615) G.ok hlv
  refine qJ (Jn (lo := 0) (hi := 18446744073709551615) (by omega) H G (GV hlv) hr (by rw [d1]; exact h0) (d2.trans hl)) ?_
  rintro _ h1 ⟨ov, rfl, _, H1⟩
  rw [d1] at H1
  with_reducible (refine qy (by with_unfolding_all exact rfl) ?_; refine qy (by with_unfolding_all exact rfl) ?_)
  exact qz ⟨ov, rfl, H1⟩
theorem NK {n : Nat} (hn : 14 ≤ n) {v : Nat} {M : VM} {zs Wr F : List Int} {cs : List Cl} {wv : AV} (H : HS g h (ViewC v M :: R)) (S : Rd g R 1 zs.length wv (zs.map (.int .u64))) (G : jH M) (hz : ∀ z ∈ jz zs cs, 0 ≤ z ∧ z < 18446744073709551616)
    (hm : jy M.lv = cs) (hc : cs.length < 1000) (hf : xX M.lv = F) (hF : (F = [] ∧ Wr = jz zs cs) ∨ ∃ a c2, F = [a] ∧ kT (zv (jz zs cs) 96) a = (0, yG (jz zs cs) 96 c2 []) ∧ c2.length ≤ 2 ∧ Wr = jz (jz zs cs) c2) :
    wp (qw tab qI n (.fn 31 [] []) [wv, .ptr v 0] h) fun r h' => ∃ wv' e, r = .tup [wv', .bool true] ∧ HS g h' (qc e 1 Wr.length wv' (Wr.map (.int .u64)) :: R) := by
  (refine qd (g := W31) rfl (by omega) fun k hk => ?_; show wp (S31 (qw tab qI k) _ _ _) _; unfold S31; try simp only [iI, uU, Int.ofNat_eq_natCast])
  refine qJ (gJ (by omega) H G.ok) fun cv h1 H1 => ?_
  rw [hm] at H1
  refine qJ (Yu (zs := zs) (by omega) H1 S.more.more (H1.rd .here) (by omega)) ?_
  rintro w1 h2 ⟨e2, H2⟩
  refine qJ (JM (by omega) (H2.sel e_2) G.ok) fun fv h3 H3 => ?_
  rw [hf] at H3
  have H4 : HS g h3 (qc e2 1 (jz zs cs).length w1 ((jz zs cs).map (.int .u64)) :: qc 3 1 F.length fv (F.map (.int .i64)) :: R) := H3.sub (.cons e_2 (.cons .here (.drop (.drop .refl))))
  clear H H1 H2 H3
  generalize jz zs cs = W1 at *
  rcases hF with ⟨rfl, rfl⟩ | ⟨a, c2, rfl, hg, hc2, rfl⟩
  · refine jO (fun m s h' => m = 0 ∧ s = (.int .i64 ((0 : Nat) : Int), fv, w1, ()) ∧ h' = h3) ?_ (m := 0) (by show 0 < 1000000000; omega) ⟨rfl, rfl, rfl⟩
    rintro m ih s h4 hih ⟨rfl, rfl, rfl⟩
    dsimp only
    refine jI H4 e_1 ?_
    show wp (qA .lss _ (.int .i64 ((0 : Nat) : Int)) _) _
    with_reducible (refine zV (by omega) ?_; refine qV ?_; refine qF ?_)
    exact qz ⟨w1, e2, rfl, H4.sub (.cons .here (.drop .refl))⟩
  · refine jO (fun m s h' => (m = 1 ∧ s = (.int .i64 ((0 : Nat) : Int), fv, w1, ()) ∧ h' = h3) ∨ (m = 0 ∧ ∃ w2 e, s = (.int .i64 ((1 : Nat) : Int), fv, w2, ()) ∧
      HS g h' (qc e 1 (jz W1 c2).length w2 ((jz W1 c2).map (.int .u64)) :: qc 3 1 1 fv [.int .i64 a] :: R))) ?_ (m := 1) (by show 1 < 1000000000; omega) (.inl ⟨rfl, rfl, rfl⟩)
    rintro m ih s h4 hih (⟨rfl, rfl, rfl⟩ | ⟨rfl, w2, e, rfl, H5⟩)
    · dsimp only
      have H4 : HS g h4 (qc e2 1 W1.length w1 (W1.map (.int .u64)) :: qc 3 1 1 fv [.int .i64 a] :: R) := H4
      refine jI H4 e_1 ?_
      with_reducible (refine zn (by omega) ?_; refine qx ?_)
      refine qJ (QJ (zs := W1) (m := ((96 : Nat) : Int)) (by omega) H4 (H4.rd .here)) ?_
      rintro _ h5 ⟨u, rfl, H5⟩
      rw [show ((96 : Nat) : Int) = 96 from rfl] at H5
      have GW := wu (m := 96) hz
      refine XM ?_
      with_reducible (refine qk ?_; (try dsimp only); refine jZ ?_; (try dsimp only))
      refine zb (i := 0) (H5.sl e_2) (x := .int .i64 a) rfl ?_
      refine qJ (qQI (by omega) H5 GW.ok) ?_
      rintro _ h6 ⟨rfl, H6⟩
      have G6 := (GW.give (b := a)).1
      rw [hg] at H6 G6 ⊢
      dsimp only at H6 G6 ⊢
      with_reducible (refine ja (by omega) ?_; refine qb ?_; refine qV ?_)
      refine qJ (gJ (by omega) H6 G6.ok) fun cv h7 H7 => ?_
      rw [show jy (yG W1 96 c2 []).lv = c2 from rfl] at H7
      refine qJ (Yu (zs := W1) (by omega) H7 (H7.rd e_2) (H7.rd .here) (by omega)) ?_
      rintro w3 h8 ⟨e8, H8⟩
      with_reducible (refine qa (by omega) ?_)
      exact hih 0 _ _ (by omega) (.inr ⟨rfl, w3, e8, rfl, H8.sub (.cons .here (.cons e_3 (.drop (.drop (.drop .refl)))))⟩)
    · dsimp only
      refine jI H5 e_1 ?_
      with_reducible (refine zV (by omega) ?_; refine qV ?_; refine qF ?_)
      exact qz ⟨w2, e, rfl, H5.sub (.cons .here (.drop .refl))⟩
end Go.Proofs.YtpohfcljfemhlaaGreat.arenaParts
namespace Go.Proofs.YtpohfcljfemhlaaGreat.arenaParts
open Go Go.Ae arenaPlays
set_option maxRecDepth 100000
variable {g h : AH} {L R : List SP}
def xa (v : AV) (row : List qo) : SP := qc 78 2 row.length v (row.flatMap zF)
theorem xF {v : AV} {row : List qo} (H : HS g h L) (s : Sel L (xa v row) R) : Sl (fun _ => True) h 2 row.length v (row.flatMap zF) := HS.sl (e := 78) H s
theorem ZC {e : TypeId} {sz : Nat} {v : AV} {xs : List AV} {k : IntKind} {K : AV → Go.Ae.R} {Q : AV → AH → Prop} (H : HS g h (qc e sz 0 v xs :: R)) (hsz : 0 < sz) (w : Sl (fun _ => True) h sz 0 v xs → wp (K v) Q) : wp (zy h e sz v (some (.int k ((0 : Nat) : Int))) none K) Q := by
  have S := H.sl .here
  obtain ⟨D, ⟨hl, ⟨rfl, _, hD⟩ | ⟨b, cp, o, zs, rfl, hD, A, q1, q2, q3⟩⟩, hb, _⟩ := H.act
  · exact w S
  · cases o with
    | false =>
      rw [if_neg (by simp)] at q3
      refine KB (hi := 0) (lo := 0) rfl (xJ (Nat.zero_le _)) ?_
      have e0 : (bif Nat.beq cp 0 then 0 else 0 + 0 * sz) = 0 := by cases Nat.beq cp 0 <;> simp
      rw [e0]; exact w S
    | true =>
      rw [if_pos rfl] at q3
      subst q3
      refine XH (i0 := 0) (hi := 0) (lo := 0) A hsz (by omega) (by omega) rfl (xJ (Nat.zero_le _)) (.inr rfl) ?_
      have := w S
      simpa using this
theorem U0 {e : TypeId} {sz n lo : Nat} {v : AV} {xs : List AV} {k : IntKind} {K : AV → Go.Ae.R} {Q : AV → AH → Prop} (H : HS g h (qc e sz n v xs :: R)) (hsz : 0 < sz) (hlo : lo ≤ n) (w : ∀ v', Sl (fun _ => True) h sz (n - lo) v' (xs.drop (lo * sz)) → wp (K v') Q) : wp (zy h e sz v (some (.int k (lo : Int))) none K) Q := by
  by_cases hn : 0 < n
  · exact qQf H hsz hlo hn w
  · obtain rfl : n = 0 := by omega
    obtain rfl : lo = 0 := by omega
    refine ZC H hsz fun S => w v ?_
    rw [Nat.zero_mul, List.drop_zero]
    exact S
theorem ww {row : List qo} {i f : Nat} (hf : f < 2) {q : qo} (hq : row[i]? = some q) : (row.flatMap zF)[i * 2 + f]? = some (.int .u64 (if f = 0 then q.1 else q.2)) := by
  rw [xO (sz := 2) zF (fun _ => rfl) _ _ _ hf, hq]
  have : f = 0 ∨ f = 1 := by omega
  rcases this with rfl | rfl <;> rfl
theorem Gy {row : List qo} : (row.flatMap zF).length = row.length * 2 := kO (sz := 2) zF (fun _ => rfl) row
theorem MP {row a b : List qo} (h : row = a ++ b) : row.take a.length = a := by subst h; simp
theorem qX0 {row a b : List qo} (h : row = a ++ b) : row.drop a.length = b := by subst h; simp
theorem ZM {row a b : List qo} {q : qo} (h : row = a ++ q :: b) : row.drop (a.length + 1) = b := by
  subst h
  rw [List.drop_append, show a.length + 1 - a.length = 1 by omega, List.drop_eq_nil_of_le (by omega)]; rfl
theorem allX (l : List qo) : zZ (l.flatMap zF) = true := Ky l
theorem Yb {row : List qo} {i : Nat} : (row.flatMap zF).take (i * 2) = (row.take i).flatMap zF := by
  induction row generalizing i with
  | nil => simp
  | cons q row ih =>
    cases i with
    | zero => simp
    | succ i =>
      rw [List.flatMap_cons, List.take_succ_cons, List.flatMap_cons, ← ih, show (i + 1) * 2 = i * 2 + 1 + 1 by omega]
      rfl
theorem Yi {row : List qo} {i : Nat} : (row.flatMap zF).drop (i * 2) = (row.drop i).flatMap zF := yf (sz := 2) zF (fun _ => rfl) row i
theorem ON {a b : List qo} {k v x : Int} : ((a ++ (k, v) :: b).flatMap zF).set (a.length * 2 + 1) (.int .u64 x) = (a ++ (k, x) :: b).flatMap zF := by
  rw [List.flatMap_append, List.flatMap_append, List.set_append_right _ _ (by rw [Gy]; omega), Gy, Nat.add_sub_cancel_left]
  rfl
theorem qJm {k : Int} {row : List qo} (hs : Srt row) {i : Nat} {q : qo} (hq : row[i]? = some q) : (i < (loP k row).length ↔ q.1 < k) ∧ (i = (loP k row).length → (q.1 = k ↔ inP k row = true)) := by
  have hlo : ∀ y ∈ loP k row, y.1 < k := fun y hy => by have := (List.mem_filter.1 hy).2; simpa using this
  have hhi : ∀ y ∈ hiP k row, k < y.1 := fun y hy => by have := (List.mem_filter.1 hy).2; simpa using this
  obtain ⟨b, hb, hb2, hb3⟩ : ∃ b, row = loP k row ++ b ∧ (∀ y ∈ b, k ≤ y.1) ∧ (∀ y, b[0]? = some y → (y.1 = k ↔ inP k row = true)) := by
    rcases vr (k := k) hs with ⟨h1, h2⟩ | ⟨v, h1, h2⟩
    · refine ⟨hiP k row, h2, fun y hy => by have := hhi y hy; omega, fun y hy => ?_⟩
      have := hhi y (List.mem_of_getElem? hy)
      rw [h1]
      simp; omega
    · refine ⟨(k, v) :: hiP k row, h2, fun y hy => ?_, fun y hy => ?_⟩
      · rcases List.mem_cons.1 hy with rfl | hy
        · exact Int.le_refl _
        · have := hhi y hy; omega
      · cases hy; rw [h1]; simp
  by_cases hi : i < (loP k row).length
  · have hm : q ∈ loP k row := by
      rw [hb, List.getElem?_append_left hi] at hq
      exact List.mem_of_getElem? hq
    have := hlo q hm
    exact ⟨⟨fun _ => this, fun _ => hi⟩, fun h => by omega⟩
  · rw [hb, List.getElem?_append_right (by omega)] at hq
    have := hb2 q (List.mem_of_getElem? hq)
    refine ⟨⟨fun h => absurd h hi, fun h => by omega⟩, fun h => ?_⟩
    rw [h, Nat.sub_self] at hq
    exact hb3 q hq
theorem VP {k : Int} {row : List qo} : (loP k row).length ≤ row.length := List.length_filter_le _ _
theorem Yh {n : Nat} (hn : 1 ≤ n) {o j : Nat} {xs : List AV} {vj : AV} {row : List qo} {x : Int} (H : HS g h (qg o xs :: xa vj row :: R)) (hl : xs.length = 8) (hx : xs[j]? = some vj) (hrl : row.length < 1000) (hs : Srt row) :
    wp (qw tab qI n (.fn 68 [] []) [.ptr o 0, .int .i64 (j : Int), .int .u64 x] h) fun r h' => r = .tup [.int .i64 ((loP x row).length : Int), .bool (inP x row)] ∧ h' = h := by
  (refine qd (g := W68) rfl (by omega) fun k hk => ?_; show wp (S68 (qw tab qI k) _ _ _ _) _; unfold S68; try simp only [iI, uU, Int.ofNat_eq_natCast])
  have hj8 : j < 8 := by have := (List.getElem?_eq_some_iff.1 hx).1; omega
  have hll := VP (k := x) (row := row)
  refine jO (fun m s h' => ∃ i : Nat, s = (.int .i64 (i : Int), .int .u64 x, .int .i64 (j : Int), .ptr o 0, ()) ∧ i ≤ (loP x row).length ∧ m = (loP x row).length - i ∧ h' = h) ?_ (m := (loP x row).length) (by show _ < 1000000000; omega) ⟨0, rfl, by omega, by omega, rfl⟩
  rintro m ih s h1 hih ⟨i, rfl, hi, rfl, rfl⟩
  dsimp only
  have rd : ∀ {K : AV → Go.Ae.R} {Q : AV → AH → Prop}, wp (K vj) Q → wp (qh (.ptr o 0) fun v => qK v 0 fun v => zO v (.int .i64 (j : Int)) 8 1 fun v => qG h1 v K) Q := by
    intro K Q w
    refine qE (qZ (vi (i := j) hj8 ?_))
    rw [show 0 + j * 1 = j by omega]
    exact qv H .here hx w
  refine rd ?_
  refine zp (xF H e_1) (gl ?_)
  refine Xx (fun s g' => ∃ (q : AV) (u y : Bool), s = (q, .bool u, .int .i64 (i : Int), .int .u64 x, .int .i64 (j : Int), .ptr o 0, ()) ∧ g' = h1 ∧ (u = true → q = .bool y) ∧ ((u && y) = decide (i < (loP x row).length))) ?_ ?_
  · intro jj hj
    refine Xj (fun hlt => ?_) (fun hlt => hj _ _ ⟨_, _, false, rfl, rfl, fun h => absurd (of_decide_eq_true h) hlt, ?_⟩)
    · have hir : i < row.length := by omega
      have hq : row[i]? = some row[i] := List.getElem?_eq_getElem hir
      have hra := (qJm (k := x) hs hq).1
      refine rd ?_
      refine zh (i := i) (f := 0) (x := .int .u64 row[i].1) (xF H e_1) (by omega) hir (ww (by omega) hq) ?_
      refine gl (hj _ _ ⟨_, _, decide (i < (loP x row).length), rfl, rfl, fun _ => ?_, ?_⟩)
      · congr 1; exact decide_eq_decide.2 hra.symm
      · simp; omega
    · have hni : ¬ i < (loP x row).length := by omega
      simp [hni]
  rintro s h2 ⟨q, u, y, rfl, rfl, hq, hux⟩
  refine gd hq ?_
  rw [hux]
  dsimp only
  refine JZ (fun hic => ?_) fun hic => ?_
  · refine qa (by omega) ?_
    exact hih ((loP x row).length - (i + 1)) _ _ (by omega) ⟨i + 1, rfl, by omega, rfl, rfl⟩
  obtain rfl : i = (loP x row).length := by omega
  refine rd ?_
  refine zp (xF H e_1) (gl ?_)
  refine Xx (fun s g' => ∃ (q : AV) (u y : Bool), s = (q, .bool u, .int .i64 ((loP x row).length : Int), ()) ∧ g' = h2 ∧ (u = true → q = .bool y) ∧ ((u && y) = inP x row)) ?_ ?_
  · intro jj hj
    refine Xj (fun hlt => ?_) (fun hlt => hj _ _ ⟨_, _, false, rfl, rfl, fun h => absurd (of_decide_eq_true h) hlt, ?_⟩)
    · have hir : (loP x row).length < row.length := by omega
      have hq : row[(loP x row).length]? = some row[(loP x row).length] := List.getElem?_eq_getElem hir
      have hra := (qJm (k := x) hs hq).2 rfl
      refine rd ?_
      refine zh (i := (loP x row).length) (f := 0) (x := .int .u64 row[(loP x row).length].1) (xF H e_1) (by omega) hir (ww (by omega) hq) ?_
      refine kN (hj _ _ ⟨_, _, inP x row, rfl, rfl, fun _ => ?_, ?_⟩)
      · congr 1
        cases hb : inP x row
        · rw [hb] at hra; exact decide_eq_false (by simpa using hra)
        · rw [hb] at hra; exact decide_eq_true (by simpa using hra)
      · rw [decide_eq_true (by omega)]; rfl
    · rcases vr (k := x) hs with ⟨h1, _⟩ | ⟨v, h1, h2⟩
      · rw [h1]; simp
      · have := congrArg List.length h2
        rw [List.length_append, List.length_cons] at this
        omega
  rintro s h3 ⟨q, u, y, rfl, rfl, hq, hux⟩
  refine gd hq ?_
  rw [hux]
  exact qF (qz ⟨rfl, rfl⟩)
theorem gX {xs : List AV} {j : Nat} {v : AV} (hx : xs[j]? = some v) : xs.set j v = xs := by
  have hj := (List.getElem?_eq_some_iff.1 hx).1
  apply List.ext_getElem?
  intro i
  rw [List.getElem?_set]
  by_cases hi : j = i
  · subst hi; rw [if_pos rfl, if_pos hj]; exact hx.symm
  · rw [if_neg hi]
theorem qKH {n : Nat} (hn : 2 ≤ n) {o j : Nat} {xs : List AV} {vj : AV} {row : List qo} {x y : Int} (H : HS g h (qg o xs :: xa vj row :: R)) (hl : xs.length = 8) (hx : xs[j]? = some vj) (hrl : row.length < 1000) (hs : Srt row) :
    wp (qw tab qI n (.fn 66 [] []) [.ptr o 0, .int .i64 (j : Int), .int .u64 x, .int .u64 y] h) fun r h' => ∃ v', r = .bool (!inP x row) ∧ One v' ∧ HS g h' (qg o (xs.set j v') :: xa v' (kQ x y row) :: R) := by
  (refine qd (g := W66) rfl (by omega) fun k hk => ?_; show wp (S66 (qw tab qI k) _ _ _ _ _) _; unfold S66; try simp only [iI, uU, Int.ofNat_eq_natCast])
  have hj8 : j < 8 := by have := (List.getElem?_eq_some_iff.1 hx).1; omega
  have hll := VP (k := x) (row := row)
  have rd : ∀ {h0 : AH} {L0 R0 : List SP} {K : AV → Go.Ae.R} {Q : AV → AH → Prop}, HS g h0 L0 → Sel L0 (qg o xs) R0 → wp (K vj) Q → wp (qh (.ptr o 0) fun v => qK v 0 fun v => zO v (.int .i64 (j : Int)) 8 1 fun v => qG h0 v K) Q := by
    intro h0 L0 R0 K Q H0 s0 w
    refine qE (qZ (vi (i := j) hj8 ?_))
    rw [show 0 + j * 1 = j by omega]
    exact qv H0 s0 hx w
  refine qJ (Yh (by omega) H hl hx hrl hs) ?_
  rintro _ h1 ⟨rfl, rfl⟩
  refine qy rfl (qy rfl ?_)
  rcases vr (k := x) hs with ⟨hin, hrow⟩ | ⟨v0, hin, hrow⟩
  · rw [hin]
    refine qV ?_
    refine rd H .here ?_
    refine Xy (hi := (loP x row).length) (H.sub (L' := xa vj row :: qg o xs :: R) (.cons e_1 (.cons .here .refl))) (by omega) hll fun v1 H1 => ?_
    rw [Yb] at H1
    have et : row.take (loP x row).length = loP x row := MP hrow
    rw [et] at H1
    refine zU (HS.nils H) (HS.sl H1 .here) (by omega) (by omega) (allX _) fun v2 h2 H2 => ?_
    rw [List.nil_append, Nat.zero_add] at H2
    refine qm (l := zF (x, y)) rfl ?_
    refine jh (n := 1) (l := zF (x, y)) (sz := 2) H2 rfl rfl rfl rfl fun v3 h3 H3 => ?_
    refine zU (H3.sel e_1) (H3.sl .here) (by omega) (by omega) rfl fun v4 h4 H4 => ?_
    refine rd H4 e_2 ?_
    refine U0 (lo := (loP x row).length) (H4.sub (L' := xa vj row :: qg o xs :: R) (.cons e_3 (.cons e_2 (.drop (.drop .refl))))) (by omega) hll fun v5 S5 => ?_
    rw [Yi] at S5
    have ed : row.drop (loP x row).length = hiP x row := qX0 hrow
    rw [ed] at S5
    refine zU (H4.sel .here) S5 (by omega) (by omega) (allX _) fun v6 h6 H6 => ?_
    have o6 := H6.one .here
    refine qE (qZ (vi (i := j) hj8 ?_))
    rw [show 0 + j * 1 = j by omega]
    refine jx H6 (b := o) e_2 o6 (by omega) fun h7 H7 => ?_
    refine qz ⟨v6, rfl, o6, ?_⟩
    have e : xa v6 (kQ x y row) = qc 78 2 ((loP x row).length + 1 + (row.length - (loP x row).length)) v6 ((loP x row).flatMap zF ++ zF (x, y) ++ (hiP x row).flatMap zF) := by
      unfold xa kQ
      have hlen := congrArg List.length hrow
      rw [List.length_append] at hlen
      rw [List.flatMap_append, List.flatMap_cons, List.length_append, List.length_cons, ← List.append_assoc]
      congr 1
      omega
    rw [e]
    exact H7.sub (.cons .here (.cons .here (.drop (.drop .refl))))
  · rw [hin]
    refine qx ?_
    refine rd H .here ?_
    have hlen := congrArg List.length hrow
    rw [List.length_append, List.length_cons] at hlen
    refine qJC (i := (loP x row).length) (f := 1) (x := .int .u64 y) (H.sub (L' := xa vj row :: qg o xs :: R) (.cons e_1 (.cons .here .refl))) (by omega) (by omega) ⟨rfl, rfl⟩ fun h2 H2 => ?_
    have e : (row.flatMap zF).set ((loP x row).length * 2 + 1) (.int .u64 y) = (kQ x y row).flatMap zF := by
      have := ON (a := loP x row) (b := hiP x row) (k := x) (v := v0) (x := y)
      rw [← hrow] at this
      exact this
    rw [e] at H2
    have hpl : (kQ x y row).length = row.length := by unfold kQ; rw [List.length_append, List.length_cons]; omega
    rw [← hpl] at H2
    refine qz ⟨vj, rfl, XF (xF H e_1), ?_⟩
    rw [gX hx]
    have H2 : HS g h2 (xa vj (kQ x y row) :: qg o xs :: R) := H2
    exact H2.sub (.cons e_1 (.cons .here .refl))
theorem qXm {n : Nat} (hn : 2 ≤ n) {o j : Nat} {xs : List AV} {vj : AV} {row : List qo} {x : Int} (H : HS g h (qg o xs :: xa vj row :: R)) (hl : xs.length = 8) (hx : xs[j]? = some vj) (hrl : row.length < 1000) (hs : Srt row) :
    wp (qw tab qI n (.fn 67 [] []) [.ptr o 0, .int .i64 (j : Int), .int .u64 x] h) fun r h' => ∃ v', r = .bool (inP x row) ∧ One v' ∧ HS g h' (qg o (xs.set j v') :: xa v' (Jc x row) :: R) := by
  (refine qd (g := W67) rfl (by omega) fun k hk => ?_; show wp (S67 (qw tab qI k) _ _ _ _) _; unfold S67; try simp only [iI, uU, Int.ofNat_eq_natCast])
  have hj8 : j < 8 := by have := (List.getElem?_eq_some_iff.1 hx).1; omega
  have hll := VP (k := x) (row := row)
  have rd : ∀ {h0 : AH} {L0 R0 : List SP} {K : AV → Go.Ae.R} {Q : AV → AH → Prop}, HS g h0 L0 → Sel L0 (qg o xs) R0 → wp (K vj) Q → wp (qh (.ptr o 0) fun v => qK v 0 fun v => zO v (.int .i64 (j : Int)) 8 1 fun v => qG h0 v K) Q := by
    intro h0 L0 R0 K Q H0 s0 w
    refine qE (qZ (vi (i := j) hj8 ?_))
    rw [show 0 + j * 1 = j by omega]
    exact qv H0 s0 hx w
  refine qJ (Yh (by omega) H hl hx hrl hs) ?_
  rintro _ h1 ⟨rfl, rfl⟩
  refine qy rfl (qy rfl ?_)
  rcases vr (k := x) hs with ⟨hin, hrow⟩ | ⟨v0, hin, hrow⟩
  · rw [hin]
    refine jr (qx (qz ⟨vj, rfl, XF (xF H e_1), ?_⟩))
    rw [gX hx, O9 hs hin]
    exact H
  · rw [hin]
    have hlen := congrArg List.length hrow
    rw [List.length_append, List.length_cons] at hlen
    refine jU (qV ?_)
    refine rd H .here ?_
    refine Xy (hi := (loP x row).length) (H.sub (L' := xa vj row :: qg o xs :: R) (.cons e_1 (.cons .here .refl))) (by omega) hll fun v1 H1 => ?_
    rw [Yb] at H1
    have et : row.take (loP x row).length = loP x row := MP hrow
    rw [et] at H1
    refine zU (HS.nils H) (HS.sl H1 .here) (by omega) (by omega) (allX _) fun v2 h2 H2 => ?_
    rw [List.nil_append, Nat.zero_add] at H2
    refine rd H2 e_1 ?_
    refine qa (by omega) ?_
    refine U0 (lo := (loP x row).length + 1) (H2.sub (L' := xa vj row :: qg o xs :: R) (.cons e_2 (.cons e_1 (.drop .refl)))) (by omega) (by omega) fun v5 S5 => ?_
    rw [Yi] at S5
    have ed : row.drop ((loP x row).length + 1) = hiP x row := ZM hrow
    rw [ed] at S5
    refine zU (H2.sel .here) S5 (by omega) (by omega) (allX _) fun v6 h6 H6 => ?_
    have o6 := H6.one .here
    refine qE (qZ (vi (i := j) hj8 ?_))
    rw [show 0 + j * 1 = j by omega]
    refine jx H6 (b := o) e_1 o6 (by omega) fun h7 H7 => ?_
    refine qz ⟨v6, rfl, o6, ?_⟩
    have e : xa v6 (Jc x row) = qc 78 2 ((loP x row).length + (row.length - ((loP x row).length + 1))) v6 ((loP x row).flatMap zF ++ (hiP x row).flatMap zF) := by
      unfold xa Jc
      rw [List.flatMap_append, List.length_append]
      congr 1
      omega
    rw [e]
    exact H7.sub (.cons .here (.cons .here (.drop .refl)))
end Go.Proofs.YtpohfcljfemhlaaGreat.arenaParts
namespace Go.Proofs.YtpohfcljfemhlaaGreat.arenaParts
open Go Go.Ae arenaPlays
set_option maxRecDepth 100000
variable {g h : AH} {L R : List SP}
theorem Oc {n : Nat} (hn : 1 ≤ n) {o j : Nat} {xs : List AV} {vj : AV} {row : List qo} {lo hi : Int} (H : HS g h (qg o xs :: xa vj row :: R)) (hl : xs.length = 8) (hx : xs[j]? = some vj) (hrl : row.length < 1000) :
    wp (qw tab qI n (.fn 69 [] []) [.ptr o 0, .int .i64 (j : Int), .int .u64 lo, .int .u64 hi] h) fun r h' => r = .int .i64 ((xU lo hi row).length : Int) ∧ h' = h := by
  (refine qd (g := W69) rfl (by omega) fun k hk => ?_; show wp (S69 (qw tab qI k) _ _ _ _ _) _; unfold S69; try simp only [iI, uU, Int.ofNat_eq_natCast])
  have hj8 : j < 8 := by have := (List.getElem?_eq_some_iff.1 hx).1; omega
  refine jO (fun m s h' => ∃ i : Nat, s = (.int .i64 (i : Int), .int .i64 ((xU lo hi (row.take i)).length : Int), .int .u64 hi, .int .u64 lo, .int .i64 (j : Int), .ptr o 0, ()) ∧ i ≤ row.length ∧ m = row.length - i ∧ h' = h) ?_ (m := row.length) (by show _ < 1000000000; omega) ⟨0, rfl, by omega, by omega, rfl⟩
  rintro m ih s h1 hih ⟨i, rfl, hi2, rfl, rfl⟩
  dsimp only
  have rd : ∀ {K : AV → Go.Ae.R} {Q : AV → AH → Prop}, wp (K vj) Q → wp (qh (.ptr o 0) fun v => qK v 0 fun v => zO v (.int .i64 (j : Int)) 8 1 fun v => qG h1 v K) Q := by
    intro K Q w
    refine qE (qZ (vi (i := j) hj8 ?_))
    rw [show 0 + j * 1 = j by omega]
    exact qv H .here hx w
  have hcl : (xU lo hi (row.take i)).length ≤ i := by
    have h1 := List.length_filter_le (fun q : qo => decide (lo ≤ q.1 ∧ q.1 ≤ hi)) (row.take i)
    have h2 := List.length_take_le i row
    unfold xU
    omega
  refine rd ?_
  refine zp (xF H e_1) ?_
  by_cases hlt : i < row.length
  · have hq : row[i]? = some row[i] := List.getElem?_eq_getElem hlt
    have hnext : row.take (i + 1) = row.take i ++ [row[i]] := List.take_succ_eq_append_getElem hlt
    generalize row[i] = q at *
    have hcn : (xU lo hi (row.take (i + 1))).length = (xU lo hi (row.take i)).length + if lo ≤ q.1 ∧ q.1 ≤ hi then 1 else 0 := by
      rw [hnext]
      unfold xU
      rw [List.filter_append, List.length_append, List.filter_cons]
      by_cases hc : lo ≤ q.1 ∧ q.1 ≤ hi
      · rw [if_pos hc, if_pos (decide_eq_true hc)]; rfl
      · rw [if_neg hc, if_neg (by simpa using hc)]; rfl
    refine zn (by omega) (qx ?_)
    refine z7 [] (fun s h' => s = (.int .i64 (i : Int), .int .i64 ((xU lo hi (row.take (i + 1))).length : Int), .int .u64 hi, .int .u64 lo, .int .i64 (j : Int), .ptr o 0, ()) ∧ h' = h1) ?_ ?_
    · intro jj hj
      refine rd ?_
      refine zh (i := i) (f := 0) (x := .int .u64 q.1) (xF H e_1) (by omega) hlt (ww (by omega) hq) ?_
      refine Yg ?_
      refine Xx (fun s g' => ∃ (q1 : AV) (u y : Bool), s = (q1, .bool u, .int .i64 (i : Int), .int .i64 ((xU lo hi (row.take i)).length : Int), .int .u64 hi, .int .u64 lo, .int .i64 (j : Int), .ptr o 0, ()) ∧ g' = h1 ∧ (u = true → q1 = .bool y) ∧ ((u && y) = decide (lo ≤ q.1 ∧ q.1 ≤ hi))) ?_ ?_
      · intro j2 hj2
        refine Xj (fun hlo => ?_) (fun hlo => hj2 _ _ ⟨_, _, false, rfl, rfl, fun h => absurd (of_decide_eq_true h) hlo, ?_⟩)
        · refine rd ?_
          refine zh (i := i) (f := 0) (x := .int .u64 q.1) (xF H e_1) (by omega) hlt (ww (by omega) hq) ?_
          refine G1 (hj2 _ _ ⟨_, _, decide (q.1 ≤ hi), rfl, rfl, fun _ => rfl, ?_⟩)
          simp [hlo]
        · simp [hlo]
      rintro s h2 ⟨q1, u, y, rfl, rfl, hq1, hux⟩
      refine gd hq1 ?_
      rw [hux]
      dsimp only
      refine JZ (fun hic => ?_) fun hic => ?_
      · refine qa (by omega) ?_
        refine hj _ _ ⟨?_, rfl⟩
        rw [hcn, if_pos hic]
        rfl
      · refine hj _ _ ⟨?_, rfl⟩
        rw [hcn, if_neg hic]
        rfl
    · rintro s h3 ⟨rfl, rfl⟩
      dsimp only
      refine qa (by omega) ?_
      exact hih (row.length - (i + 1)) _ _ (by omega) ⟨i + 1, rfl, by omega, rfl, rfl⟩
  · obtain rfl : i = row.length := by omega
    refine zV (by omega) (qV (qF (qz ⟨?_, rfl⟩)))
    rw [List.take_length]
theorem qKr {n : Nat} (hn : 4 ≤ n) {o j : Nat} {xs : List AV} {vj : AV} {row : List qo} {c : w5} (H : HS g h (qg o xs :: xa vj row :: R)) (hl : xs.length = 8) (hx : xs[j]? = some vj) (hj : 6 + zT c.2.1 0 1 = (j : Int)) (hw : 9 ≤ c.1 ∧ c.1 ≤ 12) (hrl : row.length < 1000) (hs : Srt row) :
    wp (qw tab qI n (.fn 30 [] []) [.ptr o 0, .agg (xB c)] h) fun r h' => ∃ v', r = .tup [.agg (w6 (Xq c.1 (c.2.2.1.tmod 12) (c.2.2.2.tmod 12) row).1), .bool true] ∧ One v' ∧
      HS g h' (qg o (xs.set j v') :: xa v' (Xq c.1 (c.2.2.1.tmod 12) (c.2.2.2.tmod 12) row).2 :: R) := by
  (refine qd (g := W30) rfl (by omega) fun k hk => ?_; show wp (S30 (qw tab qI k) _ _ _) _; unfold S30; try simp only [iI, uU, Int.ofNat_eq_natCast])
  have hj8 : j < 8 := by have := (List.getElem?_eq_some_iff.1 hx).1; omega
  refine jw H rfl fun b h1 H1 => ?_
  refine jw H1 rfl fun b2 h2 H2 => ?_
  have H2 : HS g h2 (qg b2 [.int .i64 ((0 : Nat) : Int), .int .u64 ((0 : Nat) : Int)] :: qg b (xB c) :: qg o xs :: xa vj row :: R) := H2
  refine qk ?_
  refine jv H2 (b := b) (off := 0) e_1 rfl (by omega) rfl ?_
  refine qJ (QZ (c := c) (by omega) H2 hw) ?_
  rintro _ h3 ⟨rfl, H3⟩
  rw [hj]
  refine jv H3 (b := b) (off := 0) e_1 rfl (by omega) rfl ?_
  refine qJ (JH (c := c) (by omega) H3) ?_
  rintro _ h4 ⟨rfl, H4⟩
  refine jv H4 (b := b) (off := 0) e_1 rfl (by omega) rfl ?_
  refine qJ (KM (c := c) (by omega) H4) ?_
  rintro _ h5 ⟨rfl, H5⟩
  refine gV H3 (b := b) e_1 rfl H4 e_1 rfl rfl (by omega) (HS.lt H2 e_1) ?_
  refine gV H2 (b := b) e_1 rfl H3 e_1 rfl rfl (by omega) (HS.lt H2 e_1) ?_
  refine gV H2 (b := b) e_1 rfl H3 e_1 rfl rfl (by omega) (HS.lt H2 e_1) ?_
  clear H H1 H2 H3 H4
  refine jv H5 (b := b) (off := 0) e_1 rfl (by omega) rfl ?_
  refine qJ (Ja (c := c) (by omega) H5 (by omega)) ?_
  rintro _ h6 ⟨rfl, H⟩
  clear H5
  generalize c.2.2.1.tmod 12 = x at *
  generalize c.2.2.2.tmod 12 = y at *
  have H : HS g h6 (qg o xs :: xa vj row :: qg b2 [.int .i64 ((0 : Nat) : Int), .int .u64 ((0 : Nat) : Int)] :: qg b (xB c) :: R) := H.sub (.cons e_2 (.cons e_2 (.cons .here (.cons .here .refl))))
  have o0 := XF (xF H e_1)
  have hw4 : c.1 = 9 ∨ c.1 = 10 ∨ c.1 = 11 ∨ c.1 = 12 := by omega
  rcases hw4 with hw | hw | hw | hw
  · rw [hw]
    unfold Xq
    rw [if_pos rfl]
    with_reducible (refine qk ?_; (try dsimp only); refine ql (by omega) ?_; refine qV ?_; refine qk ?_; (try dsimp only); refine ql (by omega) ?_; refine qV ?_; refine jg (by omega) ?_; refine qx ?_)
    refine qJ (qKH (x := x) (y := y) (by omega) H hl hx hrl hs) ?_
    rintro _ h7 ⟨v', rfl, o7, H7⟩
    cases inP x row
    all_goals
      simp only [Bool.not_false, Bool.not_true]
      (first | with_reducible (refine qx ?_; refine qm (by with_unfolding_all exact rfl) ?_) | with_reducible (refine qV ?_; refine qm (by with_unfolding_all exact rfl) ?_))
      refine zW H7 (b := b2) e_2 rfl (by simp) rfl fun h8 H8 => ?_
      with_reducible (refine qF ?_)
      refine jv H8 (b := b2) (off := 0) .here rfl (by omega) rfl ?_
      exact qz ⟨v', rfl, o7, H8.sub (.cons e_1 (.cons e_1 (.drop (.drop .refl))))⟩
  · rw [hw]
    unfold Xq
    rw [if_neg (by omega), if_pos rfl]
    with_reducible (refine qk ?_; (try dsimp only); refine ql (by omega) ?_; refine qV ?_; refine qk ?_; (try dsimp only); refine ql (by omega) ?_; refine qV ?_; refine ql (by omega) ?_; refine qV ?_; refine qk ?_; (try dsimp only); refine ql (by omega) ?_; refine qV ?_; refine ql (by omega) ?_; refine qV ?_; refine ql (by omega) ?_; refine qV ?_; refine ql (by omega) ?_; refine qV ?_; refine qk ?_; (try dsimp only); refine ql (by omega) ?_; refine qV ?_; refine jg (by omega) ?_; refine qx ?_)
    refine qJ (Yh (x := x) (by omega) H hl hx hrl hs) ?_
    rintro _ h7 ⟨rfl, rfl⟩
    rcases vr (k := x) hs with ⟨hin, hrow⟩ | ⟨v0, hin, hrow⟩
    · rw [hin, Mk hin]
      with_reducible (refine qy (by with_unfolding_all exact rfl) ?_; refine qy (by with_unfolding_all exact rfl) ?_; refine jr ?_; refine qx ?_; refine qm (by with_unfolding_all exact rfl) ?_)
      refine zW H (b := b2) e_2 rfl (by simp) rfl fun h8 H8 => ?_
      with_reducible (refine qF ?_)
      refine jv H8 (b := b2) (off := 0) .here rfl (by omega) rfl ?_
      refine qz ⟨vj, rfl, o0, ?_⟩
      rw [gX hx]
      exact H8.sub (.cons e_1 (.cons e_1 (.drop (.drop .refl))))
    · have hg : Qu x row = (v0, true) := by
        have hlo : ∀ y ∈ loP x row, y.1 < x := fun y hy => by have := (List.mem_filter.1 hy).2; simpa using this
        have := UQ (x := v0) (b := hiP x row) hlo
        rw [← hrow] at this
        exact this
      have hlen := congrArg List.length hrow
      rw [List.length_append, List.length_cons] at hlen
      have hq : row[(loP x row).length]? = some (x, v0) := by
        have : ∀ {row a b : List qo} {q : qo}, row = a ++ q :: b → row[a.length]? = some q := by
          rintro row a b q rfl
          rw [List.getElem?_append_right (Nat.le_refl _), Nat.sub_self]; rfl
        exact this hrow
      rw [hin, hg]
      with_reducible (refine qy (by with_unfolding_all exact rfl) ?_; refine qy (by with_unfolding_all exact rfl) ?_; refine jU ?_; refine qV ?_; refine qE ?_; refine qZ ?_)
      refine vi (i := j) hj8 ?_
      rw [show 0 + j * 1 = j by omega]
      refine qv H .here hx ?_
      refine zh (i := (loP x row).length) (f := 1) (x := .int .u64 v0) (xF H e_1) (by omega) (by omega) (ww (by omega) hq) ?_
      with_reducible (refine qm (by with_unfolding_all exact rfl) ?_)
      refine zW H (b := b2) e_2 rfl (by simp) rfl fun h8 H8 => ?_
      with_reducible (refine qF ?_)
      refine jv H8 (b := b2) (off := 0) .here rfl (by omega) rfl ?_
      refine qz ⟨vj, rfl, o0, ?_⟩
      rw [gX hx]
      exact H8.sub (.cons e_1 (.cons e_1 (.drop (.drop .refl))))
  · rw [hw]
    unfold Xq
    rw [if_neg (by omega), if_neg (by omega), if_pos rfl]
    with_reducible (refine qk ?_; (try dsimp only); refine ql (by omega) ?_; refine qV ?_; refine qk ?_; (try dsimp only); refine ql (by omega) ?_; refine qV ?_; refine ql (by omega) ?_; refine qV ?_; refine qk ?_; (try dsimp only); refine ql (by omega) ?_; refine qV ?_; refine ql (by omega) ?_; refine qV ?_; refine jg (by omega) ?_; refine qx ?_)
    refine qJ (qXm (x := x) (by omega) H hl hx hrl hs) ?_
    rintro _ h7 ⟨v', rfl, o7, H7⟩
    cases inP x row
    all_goals
      (first | with_reducible (refine qV ?_; refine qm (by with_unfolding_all exact rfl) ?_) | with_reducible (refine qx ?_; refine qm (by with_unfolding_all exact rfl) ?_))
      refine zW H7 (b := b2) e_2 rfl (by simp) rfl fun h8 H8 => ?_
      with_reducible (refine qF ?_)
      refine jv H8 (b := b2) (off := 0) .here rfl (by omega) rfl ?_
      exact qz ⟨v', rfl, o7, H8.sub (.cons e_1 (.cons e_1 (.drop (.drop .refl))))⟩
  · rw [hw]
    unfold Xq
    rw [if_neg (by omega), if_neg (by omega), if_neg (by omega)]
    with_reducible (refine qk ?_; (try dsimp only); refine ql (by omega) ?_; refine qV ?_; refine qk ?_; (try dsimp only); refine ql (by omega) ?_; refine qV ?_; refine ql (by omega) ?_; refine qV ?_; refine qk ?_; (try dsimp only); refine ql (by omega) ?_; refine qV ?_; refine ql (by omega) ?_; refine qV ?_; refine ql (by omega) ?_; refine qV ?_; refine ql (by omega) ?_; refine qV ?_; refine qk ?_; (try dsimp only); refine ql (by omega) ?_; refine qV ?_; refine ql (by omega) ?_; refine qV ?_; refine ql (by omega) ?_; refine qV ?_; refine ql (by omega) ?_; refine qV ?_)
    refine qJ (Oc (lo := x) (hi := y) (by omega) H hl hx hrl) ?_
    rintro _ h7 ⟨rfl, rfl⟩
    have hcl : (xU x y row).length ≤ row.length := List.length_filter_le _ _
    refine zd (by omega) ?_
    with_reducible (refine qm (by with_unfolding_all exact rfl) ?_)
    refine zW H (b := b2) e_2 rfl (by simp) rfl fun h8 H8 => ?_
    with_reducible (refine qF ?_)
    refine jv H8 (b := b2) (off := 0) .here rfl (by omega) rfl ?_
    refine qz ⟨vj, rfl, o0, ?_⟩
    rw [gX hx]
    exact H8.sub (.cons e_1 (.cons e_1 (.drop (.drop .refl))))
end Go.Proofs.YtpohfcljfemhlaaGreat.arenaParts
namespace Go.Proofs.YtpohfcljfemhlaaGreat.arenaParts
open Go Go.Ae arenaPlays
set_option maxRecDepth 100000
variable {g h : AH} {L R : List SP}
theorem ZP {zs C : List Cl} {W F : List Int} {nd : Int} (hK : jH (lvV 256 zs [] [] nd)) (hu : UnC C) (hi : InC C) (hl : C.length ≤ 96) (hw : WdC C) (hf : F.length < 1000) : jH (lvV 256 zs C F nd) := by
  refine ⟨⟨hK.ok.lo, hK.ok.hi, ⟨?_, by show (96 : Nat) ≤ 96; omega, ?_, ?_, by show 1 ≤ 1; omega, by show 1 ≤ 6; omega⟩, hK.ok.ins, hK.ok.un, ?_⟩, ⟨hK.wd.k, ?_⟩⟩
  · show xG [(C, F)] ≤ 96
    simp [xG]; exact hl
  · intro x hx; rw [List.mem_singleton.1 hx]; exact hi
  · intro x hx; rw [List.mem_singleton.1 hx]; exact hu
  · intro x hx; rw [List.mem_singleton.1 hx]; show F.length < 100000; omega
  · intro x hx; rw [List.mem_singleton.1 hx]; exact hw
theorem VG {K : List Cl} {W : List Int} {p p' : Int} {t t' : Tr} {k x nd : Int} (Z : yJ W 256 [] p t p' t') (hK : NR W K) : (∀ y, vm (Mv K nd) (xd p k) = some (y, false) → y = 0) ∧ (∀ l, vm (Mv K nd) (jb p k x) = some l → l.length ≤ 1000) := by
  have hz := Z.H.size.2.2
  refine ⟨fun y hy => ?_, fun l hl => ?_⟩
  · obtain ⟨o, e, W', C', F', s', q1, q2, ⟨q3, q10⟩, q4, q5, q6, q7, q9, q8⟩ := XI (by omega) (qQh (key := k) (Q := fun o e _ _ => o = some (Qu k (inr t)) ∧ e = 0) Z ⟨rfl, rfl⟩) (Wd.nil hz) (Nat.le_refl 0) List.nodup_nil (fun c hc => by cases hc) (by omega)
    have hy : (qO (xd p k) ⟨lvV 256 K [] [] 0, 0, 0⟩).1 = some (y, false) := hy
    rcases q8 K 0 hK with ⟨_, _, _, _, h1, _⟩ | h1
    · rw [h1] at hy; cases hy
    · rw [h1, q3] at hy
      have : Qu k (inr t) = (y, false) := Option.some.inj hy
      unfold Qu at this
      split at this
      · cases this
      · cases this; rfl
  · obtain ⟨o, e, W', C', F', s', q1, q2, ⟨q3, q10⟩, q4, q5, q6, q7, q9, q8⟩ := XI (by omega) (Xt (lo := k) (hi := x) (Q := fun o e _ _ => o = some (xU k x (inr t)) ∧ e = 0) Z ⟨rfl, rfl⟩) (Wd.nil hz) (Nat.le_refl 0) List.nodup_nil (fun c hc => by cases hc) (by omega)
    have hl : (qO (jb p k x) ⟨lvV 256 K [] [] 0, 0, 0⟩).1 = some l := hl
    rcases q8 K 0 hK with ⟨_, _, _, _, h1, _⟩ | h1
    · rw [h1] at hl; cases hl
    · rw [h1, q3] at hl
      have e : xU k x (inr t) = l := Option.some.inj hl
      have h2 : (xU k x (inr t)).length ≤ (inr t).length := List.length_filter_le _ _
      have h3 := Z.A.few
      rw [k8] at h3
      rw [← e]; omega
theorem qQp {n : Nat} (hn : 2120 ≤ n) {o j : Nat} {xs : List AV} {vj wv : AV} {e : TypeId} {zs : List Int} {p p' : Int} {t t' : Tr} {c : w5} (H : HS g h (qc e 1 zs.length wv (zs.map (.int .u64)) :: qg o xs :: xa vj (inr t) :: R))
    (Z : yJ zs 256 [] p t p' t') (hl : xs.length = 8) (hx : xs[j]? = some vj) (hj : 6 + zT c.2.1 0 1 = (j : Int)) (hp : p = 6 + (j : Int)) (hw : 9 ≤ c.1 ∧ c.1 ≤ 12) (hkk : 0 ≤ c.2.2.1) (hxx : 0 ≤ c.2.2.2) :
    wp (qw tab qI n (.fn 8 [] []) [wv, .ptr o 0, .agg (xB c)] h) fun r h' => ∃ wv' e' zs' t2 v', r = .tup [wv', .bool true] ∧ yJ zs' 256 [] p t2 p' t' ∧ One v' ∧
      qW zs 5 ≤ qW zs' 5 ∧ HS g h' (qc e' 1 zs'.length wv' (zs'.map (.int .u64)) :: qg o (xs.set j v') :: xa v' (inr t2) :: R) := by
  (refine qd (g := W8) rfl (by omega) fun k hk => ?_; show wp (S8 (qw tab qI k) _ _ _ _) _; unfold S8; try simp only [iI, uU, Int.ofNat_eq_natCast])
  have hz := Z.H.size.2.2
  have hj8 : j < 8 := by have := (List.getElem?_eq_some_iff.1 hx).1; omega
  have hfew := Z.A.few
  rw [k8] at hfew
  have hrr := Z.rr
  have hbm := Z.H.bump
  have hsrt := Z.A.srt
  have hkb1 := Int.tmod_nonneg 12 hkk
  have hkb2 := Int.tmod_lt_of_pos c.2.2.1 (show (0 : Int) < 12 by omega)
  have hxb1 := Int.tmod_nonneg 12 hxx
  have hxb2 := Int.tmod_lt_of_pos c.2.2.2 (show (0 : Int) < 12 by omega)
  refine jw H rfl fun b h1 H1 => ?_
  have H1 : HS g h1 (qg b (xB c) :: qc e 1 zs.length wv (zs.map (.int .u64)) :: qg o xs :: xa vj (inr t) :: R) := H1
  refine qJ (QJ (zs := zs) (m := ((96 : Nat) : Int)) (by omega) H1 (H1.rd e_1)) ?_
  rintro _ h2 ⟨v, rfl, H2⟩
  rw [show ((96 : Nat) : Int) = 96 from rfl] at H2
  have G := wu (m := 96) Z.H.nn
  rw [Xo hz] at H2 G
  refine XM ?_
  with_reducible (refine qV ?_)
  refine jv H2 (b := b) (off := 0) e_1 rfl (by omega) rfl ?_
  refine qJ (QZ (c := c) (by omega) H2 hw) ?_
  rintro _ h3 ⟨rfl, H3⟩
  rw [hj]
  refine qa (by omega) ?_
  rw [show ((6 : Nat) : Int) + (j : Int) = p by omega]
  refine jv H3 (b := b) (off := 0) e_1 rfl (by omega) rfl ?_
  obtain ⟨k1, k2⟩ := Qa hz
  obtain ⟨it, er, C', F', CO⟩ := OB Z hw ⟨hkb1, hkb2⟩ ⟨hxb1, hxb2⟩
  obtain ⟨sd1, sd2⟩ := VG (k := c.2.2.1.tmod 12) (x := c.2.2.2.tmod 12) (nd := 0) Z k1
  refine qJ (qQB (c := c) (by omega) H3 G rfl (by omega) hw hkk hxx (CO.run _ _ k1).1 sd1 (fun l h _ => sd2 l h)) ?_
  rintro _ h4 ⟨rfl, H4⟩
  have hrun : kU (Mv (kW zs) 0) p c.1 (c.2.2.1.tmod 12) (c.2.2.2.tmod 12) = (it, er, if er = 0 then lvV 256 (kW zs) C' F' 0 else Mv (kW zs) 0) := by
    rcases (CO.run (kW zs) 0 k1).2 with ⟨q, h1, h2, _, h3, _⟩ | h
    · exact absurd h3 (k2 q h1 h2)
    · exact h
  rw [hrun] at H4 ⊢
  dsimp only at H4 ⊢
  clear H H1 H2 H3
  with_reducible (refine qy (by with_unfolding_all exact rfl) ?_; refine qy (by with_unfolding_all exact rfl) ?_)
  refine jw H4 rfl fun bx h5 H5 => ?_
  refine zW H5 (b := bx) .here rfl (by simp) rfl fun h6 H6 => ?_
  have H6 : HS g h6 (qg bx (w6 it) :: ViewC v (if er = 0 then lvV 256 (kW zs) C' F' 0 else Mv (kW zs) 0) :: qg b (xB c) :: qc e 1 zs.length wv (zs.map (.int .u64)) :: qg o xs :: xa vj (inr t) :: R) := H6
  clear H4 H5
  rcases CO.out with ⟨rfl, hfull⟩ | ⟨rfl, hb5, ht, t2, hrow, hF⟩
  · rw [if_neg (by omega)] at H6
    refine jg rfl ?_
    refine qk ?_
    refine qp ?_
    refine jI H6 e_3 ?_
    with_reducible (refine x8 (by omega) ?_; refine qR ?_; refine qk ?_; (try dsimp only); refine qp ?_; (try dsimp only))
    refine zb (i := 5) (H6.sl e_3) (yX (by omega)) ?_
    refine x6 (by omega) ?_
    refine jI H6 e_3 ?_
    with_reducible (refine zd (by omega) ?_; refine x8 (by omega) ?_; refine qR ?_; refine qx ?_)
    refine qJ (gJ (by omega) (H6.sel e_1) G.ok) fun cv h7 H7 => ?_
    rw [show jy (Mv (kW zs) 0).lv = [] from rfl] at H7
    refine jI H7 .here ?_
    rw [show ([] : List Cl).length = 0 from rfl]
    with_reducible (refine jg (by omega) ?_; refine qk ?_; (try dsimp only); refine qp ?_; (try dsimp only))
    refine qJ (JM (by omega) (H7.sel e_1) G.ok) fun fv h8 H8 => ?_
    rw [show xX (Mv (kW zs) 0).lv = [] from rfl] at H8
    refine jI H8 .here ?_
    rw [show ([] : List Int).length = 0 from rfl]
    with_reducible (refine jg (by omega) ?_; refine qR ?_; refine qk ?_; (try dsimp only); refine qp ?_; (try dsimp only))
    refine qJ (Gz (by omega) (H8.sel e_1)) ?_
    rintro _ h9 ⟨rfl, rfl⟩
    rw [show ((Mv (kW zs) 0).lv.length : Int) = ((1 : Nat) : Int) from rfl]
    with_reducible (refine jg (by omega) ?_; refine qR ?_)
    refine qz ⟨wv, e, zs, t, vj, rfl, Z, XF (xF H8 e_7), Int.le_refl _, ?_⟩
    rw [gX hx]
    exact H8.sub (.cons e_5 (.cons e_5 (.cons e_5 (.drop (.drop (.drop (.drop (.drop (.refl)))))))))
  · rw [if_pos rfl] at H6
    have GO := ZP (W := []) (F := F') G CO.un CO.ins CO.few (CO.wd rfl) (by rcases hF with ⟨rfl, _⟩ | ⟨a, rfl, _⟩ <;> simp)
    with_reducible (refine ql (by omega) ?_; refine qk ?_; (try dsimp only); refine jk ?_; (try dsimp only); refine qb ?_; refine qk ?_; (try dsimp only); refine jk ?_; (try dsimp only); refine qb ?_; refine qV ?_)
    refine jv H6 (b := b) (off := 0) e_2 rfl (by omega) rfl ?_
    refine qJ (qKr (c := c) (j := j) (by omega) (H6.sub (L' := qg o xs :: xa vj (inr t) :: qg bx (w6 it) :: ViewC v (lvV 256 (kW zs) C' F' 0) :: qg b (xB c) :: qc e 1 zs.length wv (zs.map (.int .u64)) :: R) (.cons e_4 (.cons e_4 (.cons .here (.cons .here (.cons .here (.cons .here .refl))))))) hl hx hj hw (by omega) hsrt) ?_
    rintro _ h7 ⟨v', rfl, ov, H7⟩
    rw [← hrow] at H7
    rw [← ht]
    with_reducible (refine qy (by with_unfolding_all exact rfl) ?_; refine qy (by with_unfolding_all exact rfl) ?_)
    refine jw H7 rfl fun by_ h8 H8 => ?_
    refine zW H8 (b := by_) .here rfl (by simp) rfl fun h9 H9 => ?_
    have H9 : HS g h9 (qg by_ (w6 it) :: qg o (xs.set j v') :: xa v' (inr t2) :: qg bx (w6 it) :: ViewC v (lvV 256 (kW zs) C' F' 0) :: qg b (xB c) :: qc e 1 zs.length wv (zs.map (.int .u64)) :: R) := H9
    clear H6 H7 H8
    have hW : ∃ Wr, ((F' = [] ∧ Wr = jz zs C') ∨ ∃ a c2, F' = [a] ∧ kT (zv (jz zs C') 96) a = (0, yG (jz zs C') 96 c2 []) ∧ c2.length ≤ 2 ∧ Wr = jz (jz zs C') c2) ∧ yJ Wr 256 [] p t2 p' t' ∧ qW (jz zs C') 5 ≤ qW Wr 5 := by
      rcases hF with ⟨h1, h2⟩ | ⟨a, h1, h2⟩
      · exact ⟨_, .inl ⟨h1, rfl⟩, h2, Int.le_refl _⟩
      · have hg := OA h2
        exact ⟨_, .inr ⟨a, _, h1, hg.1, by simp, rfl⟩, hg.2.1, hg.2.2⟩
    have hnA : ∀ z ∈ jz zs C', 0 ≤ z ∧ z < 18446744073709551616 := yo Z.H.nn (CO.wd rfl)
    obtain ⟨Wr, hWr, Z2, hb6⟩ := hW
    have Z2z := Z2.H.size.2.2
    obtain ⟨w1, w2⟩ := Qa Z2z
    obtain ⟨a1, a2⟩ := OZ (lo := 0) (hi := 18446744073709551615) Z2
    rw [qZh Z2.A.key (by omega)] at a2
    have hfew2 := Z2.A.few
    rw [k8] at hfew2
    have GW := wu (m := 96) Z2.H.nn
    rw [Xo Z2z] at GW
    with_reducible (refine ja (by omega) ?_; refine qk ?_; (try dsimp only); refine jZ ?_; (try dsimp only); refine qk ?_; (try dsimp only); refine qp ?_; (try dsimp only))
    refine jv H9 (b := bx) (off := 0) e_3 rfl (by omega) rfl ?_
    refine jv H9 (b := by_) (off := 0) .here rfl (by omega) rfl ?_
    refine Kh (it_eq it it) (fun _ => ?_) (fun h => absurd rfl h)
    rw [show (!true) = false from rfl]
    with_reducible (refine qk ?_; (try dsimp only); refine jZ ?_; (try dsimp only); refine qR ?_; refine qb ?_; refine qk ?_; (try dsimp only); refine jZ ?_; (try dsimp only); refine jU ?_; refine qk ?_; (try dsimp only); refine jk ?_; (try dsimp only); refine qk ?_; (try dsimp only); refine jZ ?_; (try dsimp only); refine qb ?_; refine qb ?_; refine qk ?_; (try dsimp only); refine jZ ?_; (try dsimp only))
    refine qJ (Gz (by omega) (H9.sel e_4)) ?_
    rintro _ h10 ⟨rfl, rfl⟩
    rw [show ((lvV 256 (kW zs) C' F' 0).lv.length : Int) = ((1 : Nat) : Int) from rfl]
    with_reducible (refine ja (by omega) ?_; refine qb ?_; refine qV ?_)
    refine qJ (NK (zs := zs) (Wr := Wr) (cs := C') (F := F') (by omega) (H9.sub (L' := ViewC v (lvV 256 (kW zs) C' F' 0) :: qc e 1 zs.length wv (zs.map (.int .u64)) :: qg o (xs.set j v') :: xa v' (inr t2) :: qg b (xB c) :: R) (.cons e_4 (.cons e_5 (.cons e_1 (.cons e_1 (.cons e_2 (.drop (.drop .refl)))))))) (Rd.own .here) GO hnA rfl (by have := CO.few; omega) (by show [(C', F')].reverse.flatMap (·.2) = F'; simp) hWr) ?_
    rintro _ h11 ⟨wv2, e2, rfl, H11⟩
    with_reducible (refine qy (by with_unfolding_all exact rfl) ?_; refine qy (by with_unfolding_all exact rfl) ?_)
    refine qJ (QJ (zs := Wr) (m := ((96 : Nat) : Int)) (by omega) H11 (H11.rd .here)) ?_
    rintro _ h12 ⟨u, rfl, H12⟩
    rw [show ((96 : Nat) : Int) = 96 from rfl, Xo Z2z] at H12
    with_reducible (refine jU ?_; refine qk ?_; (try dsimp only); refine jZ ?_; (try dsimp only))
    refine XM ?_
    with_reducible (refine qb ?_; refine qV ?_)
    refine qJ (qZF (l := inr t2) (by omega) H12 GW rfl (by omega) (by rw [a1]) a2) ?_
    rintro _ h13 ⟨pv, rfl, H13⟩
    rw [a1] at H13
    have H13 : HS g h13 (Qv pv (inr t2) :: ViewC u (Mv (kW Wr) 0) :: qc e2 1 Wr.length wv2 (Wr.map (.int .u64)) :: qc e 1 zs.length wv (zs.map (.int .u64)) :: qg o (xs.set j v') :: xa v' (inr t2) :: qg b (xB c) :: R) := H13
    with_reducible (refine qy (by with_unfolding_all exact rfl) ?_; refine qy (by with_unfolding_all exact rfl) ?_; refine jg (by omega) ?_; refine qk ?_; (try dsimp only); refine qp ?_; (try dsimp only))
    refine jv H13 (b := b) (off := 0) e_6 rfl (by omega) rfl ?_
    refine qJ (QZ (c := c) (by omega) H13 hw) ?_
    rintro _ h14 ⟨rfl, H14⟩
    rw [hj]
    with_reducible (refine qE ?_; refine qZ ?_)
    refine vi (i := j) hj8 ?_
    rw [show 0 + j * 1 = j by omega]
    refine qv (x := v') H14 e_4 (by rw [List.getElem?_set, if_pos rfl, if_pos (by omega)]) ?_
    refine qJ (ZF (xs := inr t2) (ys := inr t2) (by omega) (HS.sl (e := 78) H14 .here) (xF H14 e_5) (by omega)) ?_
    rintro _ h15 ⟨rfl, rfl⟩
    rw [decide_eq_true rfl]
    with_reducible (refine qR ?_; refine qk ?_; (try dsimp only); refine qp ?_; (try dsimp only))
    refine qJ (gJ (by omega) (H14.sel e_1) GW.ok) fun cv h16 H16 => ?_
    rw [show jy (Mv (kW Wr) 0).lv = [] from rfl] at H16
    refine jI H16 .here ?_
    rw [show ([] : List Cl).length = 0 from rfl]
    with_reducible (refine jg (by omega) ?_; refine qR ?_)
    exact qz ⟨wv2, e2, Wr, t2, v', rfl, Z2, ov, by omega, H16.sub (.cons e_3 (.cons e_4 (.cons e_4 (.drop (.drop (.drop (.drop (.drop .refl))))))))⟩
theorem HY.blocks {W : List Int} {T : Nat} {L fr : List Int} (H : HY W T L fr) : ∃ bts, xL W = some bts ∧ (bts.filter (·.2.2)).length ≤ L.length ∧ (Qi W).isSome ∧ bts.length ≤ 100 ∧ (∀ b ∈ bts, 15 ≤ b.1 ∧ b.1 + jd b.2.1 ≤ T ∧ (1 ≤ b.2.1 ∧ b.2.1 ≤ 4) ∧ (b.2.2 = true ↔ b.1 ∈ L)) ∧ (∀ y ∈ L, (y, 2, true) ∈ bts) ∧
    (∀ b ∈ bts, ∀ d ∈ bts, b = d ∨ b.1 + jd b.2.1 + 1 ≤ d.1 ∨ d.1 + jd d.2.1 + 1 ≤ b.1) := by
  obtain ⟨sts, bs, ls, H⟩ := H
  have P := H.P
  have hle := P.tile.le
  have hbu := P.bump
  have hhi := P.hi
  have hmem : ∀ b ∈ bs, 15 ≤ b.1 ∧ b.1 + jd b.2 ≤ T ∧ (1 ≤ b.2 ∧ b.2 ≤ 4) ∧ (qW sts b.1.toNat = 1 ↔ b.1 ∈ L) := by
    intro b hb
    have h1 := P.tile.mem b hb
    refine ⟨by omega, by omega, h1.2.1, fun hs => H.live b hb hs, fun hL => (H.own _ hL).2⟩
  refine ⟨_, P.blocks, ?_, by rw [P.lists]; rfl, by rw [List.length_map]; omega, ?_, ?_, ?_⟩
  · have hnd := P.tile.nodup
    have e : ((bs.map (kl sts)).filter (·.2.2)).length = (((bs.map (kl sts)).filter (·.2.2)).map (·.1)).length := by rw [List.length_map]
    rw [e]
    refine qZf ?_ ?_
    · have hs : (((bs.map (kl sts)).filter (·.2.2)).map (·.1)).Sublist ((bs.map (kl sts)).map (·.1)) := (List.filter_sublist ..).map _
      refine hs.nodup ?_
      rw [List.map_map]
      exact hnd
    · intro x hx
      obtain ⟨b, hb, rfl⟩ := List.mem_map.1 hx
      rw [List.mem_filter] at hb
      obtain ⟨d, hd, rfl⟩ := List.mem_map.1 hb.1
      exact (hmem d hd).2.2.2.1 (of_decide_eq_true hb.2)
  · intro b hb
    obtain ⟨d, hd, rfl⟩ := List.mem_map.1 hb
    have h1 := hmem d hd
    refine ⟨h1.1, h1.2.1, h1.2.2.1, ?_⟩
    show decide _ = true ↔ _
    rw [decide_eq_true_iff]
    exact h1.2.2.2
  · intro y hy
    have h1 := H.own y hy
    refine List.mem_map.2 ⟨_, h1.1, ?_⟩
    unfold kl
    dsimp only
    rw [h1.2]; rfl
  · intro b hb d hd
    obtain ⟨b', hb', rfl⟩ := List.mem_map.1 hb
    obtain ⟨d', hd', rfl⟩ := List.mem_map.1 hd
    rcases P.tile.far2 b' hb' d' hd' with h | h | h
    · exact .inl (by rw [h])
    · exact .inr (.inl h)
    · exact .inr (.inr h)
theorem qKD {n : Nat} (hn : 4 ≤ n) {zs : List Int} {wv : AV} {bts : List wb} (H : HS g h R) (S : Rd g R 1 zs.length wv (zs.map (.int .u64))) (hz : ∀ z ∈ zs, 0 ≤ z ∧ z < 18446744073709551616) (hb : xL zs = some bts) (hl : bts.length ≤ 100) :
    wp (qw tab qI n (.fn 25 [] []) [wv] h) fun r h' => r = .int .i64 ((bts.filter (·.2.2)).length : Int) ∧ HS g h' R := by
  (refine qd (g := W25) rfl (by omega) fun k hk => ?_; show wp (S25 (qw tab qI k) _ _) _; unfold S25; try simp only [iI, uU, Int.ofNat_eq_natCast])
  refine qJ (Xi (by omega) H S hz) ?_
  rintro _ h1 ⟨bv, rfl, H1⟩
  rw [hb] at H1 ⊢
  have H1 : HS g h1 (qc 61 3 bts.length bv (bts.flatMap XY) :: R) := H1
  simp only [Option.isSome_some, if_true]
  with_reducible (refine qy (by with_unfolding_all exact rfl) ?_; refine qy (by with_unfolding_all exact rfl) ?_)
  refine jO (fun m s h' => ∃ i : Nat, s = (.int .i64 (i : Int), .int .i64 (((bts.take i).filter (·.2.2)).length : Int), bv, ()) ∧ i ≤ bts.length ∧ m = bts.length - i ∧ h' = h1) ?_ (m := bts.length) (by show _ < 1000000000; omega) ⟨0, rfl, by omega, by omega, rfl⟩
  rintro m ih s h2 hih ⟨i, rfl, hi, rfl, rfl⟩
  dsimp only
  have hfl : ((bts.take i).filter (·.2.2)).length ≤ 100 := by
    have h1 := List.length_filter_le (fun b : wb => b.2.2) (bts.take i)
    have h2 := List.length_take_le i bts
    have h3 := List.length_take (i := i) (l := bts)
    omega
  refine jI H1 .here ?_
  by_cases hlt : i < bts.length
  · have hnext : bts.take (i + 1) = bts.take i ++ [bts[i]] := List.take_succ_eq_append_getElem hlt
    have hci : bts[i]? = some bts[i] := List.getElem?_eq_getElem hlt
    generalize bts[i] = b at *
    obtain ⟨x, y, z⟩ := b
    refine zn (by omega) (qx ?_)
    refine z7 [] (fun s h' => s = (.int .i64 (i : Int), .int .i64 (((bts.take (i + 1)).filter (·.2.2)).length : Int), bv, ()) ∧ h' = h2) ?_ ?_
    · intro j hj
      refine zh (x := .bool z) (H1.sl .here) (by omega) hlt (by rw [xO (sz := 3) XY (fun _ => rfl) _ _ _ (by omega), hci]; rfl) ?_
      rw [hnext, List.filter_append, List.length_append] at hj
      cases z
      · with_reducible (refine qV ?_)
        exact hj _ _ ⟨rfl, rfl⟩
      · with_reducible (refine qx ?_; refine qa (by omega) ?_)
        exact hj _ _ ⟨rfl, rfl⟩
    · rintro s h3 ⟨rfl, rfl⟩
      with_reducible (refine qa (by omega) ?_)
      exact hih (bts.length - (i + 1)) _ _ (by omega) ⟨i + 1, rfl, by omega, rfl, rfl⟩
  · obtain rfl : i = bts.length := by omega
    with_reducible (refine zV (by omega) ?_; refine qV ?_; refine qF ?_)
    rw [List.take_length]
    exact qz ⟨rfl, H1.drop⟩
end Go.Proofs.YtpohfcljfemhlaaGreat.arenaParts
namespace Go.Proofs.YtpohfcljfemhlaaGreat.treeBlocks
open Go Go.Ae arenaPlays arenaParts
set_option maxRecDepth 100000
variable {g h : AH} {L R : List SP}
theorem law {k : Nat} (hk : 2200 ≤ k) {a0 : AV} {rd : Int} {l : List w5} (S : Sl (fun b => b < h.nx) h 4 l.length a0 (l.flatMap xB)) (hp : ∀ c ∈ l, 0 ≤ c.2.2.1 ∧ 0 ≤ c.2.2.2) (hr : 0 ≤ rd ∧ rd ≤ 255) :
    wp (W5 (vQ 6 (qw tab qI k)) [a0, .int .u8 rd] h) fun v _ => v = .bool true := by
  show wp (S5 (vQ _ (qw tab qI _)) _ _ _) _
  unfold S5
  try simp only [iI, uU, Int.ofNat_eq_natCast]
  refine qVm ?_
  with_reducible (refine jU ?_; refine qV ?_)
  refine wy (by decide) (Gd (by omega) (HS.nil h)) ?_
  rintro wv h1 ⟨e1, H⟩
  refine qm (l := [.nils, .nils, .nils, .nils, .nils, .nils, .nils, .nils]) rfl ?_
  refine jw H rfl fun o h2 H2 => ?_
  have H2 := (H2.nils (e := 78) (sz := 2)).sub (L' := qc e1 1 (zu 256).length wv ((zu 256).map (.int .u64)) :: qg o [.nils, .nils, .nils, .nils, .nils, .nils, .nils, .nils] :: qc 78 2 0 .nils [] :: []) (.cons e_2 (.cons e_1 (.cons .here .refl)))
  refine jO (fun m s h' => ∃ (r : Nat) (zs : List Int) (wv v : AV) (e : TypeId) (t : Tr) (xs : List AV), s = (.int .i64 (r : Int), .ptr o 0, wv, .int .u8 rd, a0, ()) ∧ r ≤ 3 ∧ m = 3 - r ∧ yJ zs 256 [] 12 t 13 .nil ∧ xs.length = 8 ∧ xs[6]? = some v ∧
    HS h h' (qc e 1 zs.length wv (zs.map (.int .u64)) :: qg o xs :: xa v (inr t) :: []))
    ?_ (m := 3) (by show 3 < 1000000000; omega) ⟨0, zu 256, wv, .nils, e1, .nil, [.nils, .nils, .nils, .nils, .nils, .nils, .nils, .nils], rfl, by omega, by omega, Vf, rfl, rfl, H2⟩
  clear H H2
  rintro m ih s h3 hih ⟨r, zs, wv, v, e, t, xs, rfl, hr3, rfl, Z, hl, hx, H⟩
  dsimp only
  have q1 := Int.tmod_nonneg 3 hr.1
  have q2 := Int.tmod_lt_of_pos rd (show (0 : Int) < 3 by omega)
  refine Kc (by omega) ?_
  rw [show rd.tmod ((3 : Nat) : Int) = rd.tmod 3 from rfl]
  generalize rd.tmod 3 = rm at *
  refine xb (by omega) ?_
  by_cases hle : (r : Int) ≤ rm
  rotate_left
  · with_reducible (refine vJ (by omega) ?_; refine qV ?_; refine qF ?_)
    exact qz rfl
  with_reducible (refine xH (by omega) ?_; refine qx ?_)
  refine jO (fun m s h' => ∃ (i : Nat) (zs : List Int) (wv v : AV) (e : TypeId) (t : Tr) (xs : List AV), s = (.int .i64 (i : Int), .int .i64 (r : Int), .ptr o 0, wv, .int .u8 rd, a0, ()) ∧ i ≤ 20 ∧ m = 20 - i ∧ yJ zs 256 [] 12 t 13 .nil ∧ xs.length = 8 ∧ xs[6]? = some v ∧
    HS h h' (qc e 1 zs.length wv (zs.map (.int .u64)) :: qg o xs :: xa v (inr t) :: []))
    ?_ (m := 20) (by show 20 < 1000000000; omega) ⟨0, zs, wv, v, e, t, xs, rfl, by omega, by omega, Z, hl, hx, H⟩
  clear H Z hl hx
  rintro m ih2 s h4 hih2 ⟨i, zs, wv, v, e, t, xs, rfl, hi, rfl, Z, hl, hx, H⟩
  dsimp only
  have Sa : Sl (fun _ => True) h4 4 l.length a0 (l.flatMap xB) := (Rd.arg (L := []) S).sl H.drop.drop.drop
  refine zp Sa (gl ?_)
  refine Xx (fun s g' => ∃ (q : AV) (u x : Bool), s = (q, .bool u, .int .i64 (i : Int), .int .i64 (r : Int), .ptr o 0, wv, .int .u8 rd, a0, ()) ∧ g' = h4 ∧ (u = true → q = .bool x) ∧ ((u && x) = decide (i < l.length ∧ i < 20))) ?_ ?_
  · intro j hj
    refine Xj (fun hl => gl (hj _ _ ⟨_, _, decide (i < 20), rfl, rfl, fun _ => (by congr 1; exact decide_eq_decide.2 (by omega)), ?_⟩)) (fun hl => hj _ _ ⟨_, _, false, rfl, rfl, fun h => absurd (of_decide_eq_true h) hl, ?_⟩)
    · have hl' : i < l.length := by omega
      simp [hl']
    · have hl' : ¬ i < l.length := by omega
      simp [hl']
  rintro s h4 ⟨q, u, x, rfl, rfl, hq, hux⟩
  refine gd hq ?_
  rw [hux]
  dsimp only
  refine JZ (fun hic => ?_) fun hic => ?_
  rotate_left
  · with_reducible (refine qa (by omega) ?_)
    exact hih (3 - (r + 1)) _ _ (by omega) ⟨r + 1, zs, wv, v, e, t, xs, rfl, by omega, rfl, Z, hl, hx, H⟩
  have hci : l[i]? = some l[i] := List.getElem?_eq_getElem hic.1
  have hpc := hp l[i] (List.getElem_mem hic.1)
  refine xj (l := xB l[i]) Sa hic.1 (by omega) (wh (sz := 4) (fun _ => rfl) hci) ?_
  generalize l[i] = c at *
  refine wy (by decide) (qQi (by omega) H) ?_
  rintro _ h5 ⟨rfl, H5⟩
  have hwb := QB c.1 (show (9 : Int) ≤ 12 by omega)
  generalize hw0 : zT c.1 9 12 = what at *
  refine jw H5 rfl fun b h6 H6 => ?_
  refine zW H6 (b := b) .here rfl (by simp) rfl fun h7 H7 => ?_
  have H7 : HS h h7 (qg b [.int .i64 what, .int .i64 c.2.1, .int .u64 c.2.2.1, .int .u64 c.2.2.2] :: qc e 1 zs.length wv (zs.map (.int .u64)) :: qg o xs :: xa v (inr t) :: []) := H7
  with_reducible (refine qZ ?_)
  refine jx H7 (b := b) .here ⟨rfl, rfl⟩ (by simp) fun h8 H8 => ?_
  have H8 : HS h h8 (qg b (xB (what, 0, c.2.2.1, c.2.2.2)) :: qc e 1 zs.length wv (zs.map (.int .u64)) :: qg o xs :: xa v (inr t) :: []) := H8
  refine jv H8 (b := b) (off := 0) .here rfl (by omega) rfl ?_
  have hpl : 6 + zT 0 0 1 = ((6 : Nat) : Int) := by decide
  refine wy (by decide) (qQp (c := (what, 0, c.2.2.1, c.2.2.2)) (j := 6) (by omega) (H8.sub (L' := qc e 1 zs.length wv (zs.map (.int .u64)) :: qg o xs :: xa v (inr t) :: qg b (xB (what, 0, c.2.2.1, c.2.2.2)) :: []) (.cons e_1 (.cons e_1 (.cons e_1 (.cons .here .refl))))) Z hl hx hpl (by omega) (by omega) hpc.1 hpc.2) ?_
  rintro _ h9 ⟨wv2, e2, zs2, t2, v2, rfl, Z2, ov2, _, H9⟩
  have hfew := Z2.A.few
  rw [k8] at hfew
  have hx2 : (xs.set 6 v2)[6]? = some v2 := by rw [List.getElem?_set, if_pos rfl, if_pos (by omega)]
  have hl2 : (xs.set 6 v2).length = 8 := by rw [List.length_set]; exact hl
  generalize xs.set 6 v2 = xs2 at *
  with_reducible (refine qy (by with_unfolding_all exact rfl) ?_; refine qy (by with_unfolding_all exact rfl) ?_; refine jU ?_; refine qV ?_)
  refine jv H9 (b := b) (off := 0) e_3 rfl (by omega) rfl ?_
  refine wy (by decide) (QZ (c := (what, 0, c.2.2.1, c.2.2.2)) (by omega) H9 (by omega)) ?_
  rintro _ h10 ⟨rfl, H10⟩
  rw [show 6 + zT ((what, (0 : Int), c.2.2.1, c.2.2.2) : w5).2.1 0 1 = ((6 : Nat) : Int) from hpl]
  with_reducible (refine qE ?_; refine qZ ?_)
  refine vi (i := 6) (by omega) ?_
  refine qv H10 e_1 hx2 ?_
  refine zp (xF H10 e_2) ?_
  obtain ⟨bts, hb1, hb2, hb3, hb4, _⟩ := Z2.H.blocks
  refine wy (by decide) (OY (by omega) H10 (Rd.own .here) Z2.H.nn) ?_
  rintro _ h11 ⟨lv, rfl, H11⟩
  rw [hb3]
  simp only [if_true]
  with_reducible (refine qy (by with_unfolding_all exact rfl) ?_; refine qy (by with_unfolding_all exact rfl) ?_; refine ja (by omega) ?_; refine qk ?_; (try dsimp only); refine jZ ?_; (try dsimp only))
  refine wy (by decide) (qKD (by omega) H11.drop (Rd.own .here) Z2.H.nn hb1 hb4) ?_
  rintro _ h12 ⟨rfl, H12⟩
  have hcnt : (ads t2 ++ ads .nil).length = (inr t2).length := by
    rw [List.length_append, k8]; rfl
  skip
  refine MC (by omega) (qa (by omega) ?_)
  with_reducible (refine yT (by omega) ?_; refine qb ?_; refine qV ?_; refine qa (by omega) ?_)
  exact hih2 (20 - (i + 1)) _ _ (by omega) ⟨i + 1, zs2, wv2, v2, e2, t2, xs2, rfl, by omega, rfl, Z2, hl2, hx2, H12.sub (.cons .here (.cons .here (.cons .here (.drop .refl))))⟩
theorem told {h : AH} {l : List AV} (H : WTs Tryz.prog h 8 Tryz.f5.params.toList l) : wp (W5 (vQ 6 (qw tab qI 3000)) l h) fun v _ => v = .bool true := by
  have e : Tryz.f5.params.toList = [22, 5] := by kernel_rfl
  rw [e] at H
  obtain ⟨a0, a1, rfl, H0, H1⟩ := WTs2 H
  simp only [WTV, Tryz.underlying3, Tryz.underlying4, Tryz.underlying5, Tryz.underlying22, Tryz.underlying23, Tryz.underlying25] at H0 H1
  obtain ⟨q, xs, S, _, H2⟩ := Ol (sz := 4) Tryz.underlying22 (by kernel_rfl) (by omega) H0
  obtain ⟨ks, g1, hp, rfl⟩ := Zi (α := w5) (Pr := fun c => 0 ≤ c.2.2.1 ∧ 0 ≤ c.2.2.2) xB S.len (fun i hi => by
    have := H2 i hi
    generalize (xs.drop (i * 4)).take 4 = row at this
    unfold WT at this
    simp only [Tryz.underlying25] at this
    obtain ⟨g1, g2⟩ := this
    rw [show Tryz.prog.cellsOf 25 = 4 by kernel_rfl] at g1
    match row, g1 with
    | [x, y, z, u], _ =>
      have f1 := g2 _ (List.mem_cons_self ..)
      have f2 := g2 _ (List.mem_cons_of_mem _ (List.mem_cons_self ..))
      have f3 := g2 _ (List.mem_cons_of_mem _ (List.mem_cons_of_mem _ (List.mem_cons_self ..)))
      have f4 := g2 _ (List.mem_cons_of_mem _ (List.mem_cons_of_mem _ (List.mem_cons_of_mem _ (List.mem_cons_self ..))))
      rw [show Tryz.prog.cellsOf 3 = 1 by kernel_rfl] at f1 f2
      rw [show Tryz.prog.cellsOf 23 = 1 by kernel_rfl] at f3 f4
      unfold WT at f1 f2 f3 f4
      simp only [Tryz.underlying3, List.drop_zero, List.take_succ_cons, List.take_zero, List.drop_succ_cons] at f1 f2
      simp only [Tryz.underlying23, List.drop_succ_cons, List.drop_zero, List.take_succ_cons, List.take_zero] at f3 f4
      obtain ⟨a, ha, _⟩ := f1
      obtain ⟨b, hb, _⟩ := f2
      obtain ⟨c, hc, hc2⟩ := f3
      obtain ⟨d, hd, hd2⟩ := f4
      cases ha; cases hb; cases hc; cases hd
      exact ⟨(a, b, c, d), ⟨hc2.1, hd2.1⟩, rfl⟩)
  unfold WT at H1
  simp only [Tryz.underlying3, Tryz.underlying4, Tryz.underlying5, Tryz.underlying22, Tryz.underlying23, Tryz.underlying25] at H1
  obtain ⟨w, hw, hwb⟩ := H1
  cases hw
  exact law (by omega) (g1 ▸ S) hp hwb
end Go.Proofs.YtpohfcljfemhlaaGreat.treeBlocks
