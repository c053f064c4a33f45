/- Trees: how deep, and what stands between two keys: the walks. -/
import Derived.Test.YtpohfcljfemhlaaTreeU
namespace Go.Proofs.Ytpohfcljfemhlaa.arenaParts
open Go Go.Ae arenaPlays
set_option maxRecDepth 100000

variable {α : Type}

/-- ahead of a part's walk: what the steps allow -/
structure Stp (D : DM) (a : Int) (m : Nat) : Prop where
  e0 : D.err ≠ 0 → a = 0
  e1 : D.err = 0 → D.stp ≤ 2048
  e2 : D.stp ≤ 2049
  fu : D.err = 0 → 2049 ≤ D.stp + m
  mm : m ≤ 2049
/-- behind it -/
structure Stq (D D' : DM) : Prop where
  le : D.stp ≤ D'.stp
  e1 : D'.err = 0 → D'.stp ≤ 2048
  e2 : D'.stp ≤ 2049
  st : D.err ≠ 0 → D'.err ≠ 0
theorem Stp.q {D : DM} {a : Int} {m : Nat} (S : Stp D a m) : Stq D D := ⟨Int.le_refl _, S.e1, S.e2, fun h => h⟩
theorem Stq.aft {D0 D D' : DM} (q : Stq D0 D) (h : D'.stp = D.stp) (hs : D.err ≠ 0 → D'.err ≠ 0) : Stq D0 D' := by
  have := q.le
  refine ⟨by omega, fun he => ?_, by have := q.e2; omega, fun h0 => hs (q.st h0)⟩
  by_cases h0 : D.err = 0
  · have := q.e1 h0; omega
  · exact absurd he (hs h0)
theorem Stq.trans {D0 D D' : DM} (q : Stq D0 D) (q2 : Stq D D') : Stq D0 D' := ⟨Int.le_trans q.le q2.le, q2.e1, q2.e2, fun h => q2.st (q.st h)⟩
theorem Stp.step {D : DM} {a : Int} {m : Nat} (S : Stp D a m) (h0 : D.err = 0) : Stq D (stepD D) ∧ (stepD D).stp = D.stp + 1 := by
  have h1 := S.e1 h0
  unfold stepD failD
  rw [if_pos (show ({ D with stp := D.stp + 1 } : DM).err = 0 from h0)]
  split
  · exact ⟨⟨by dsimp only; omega, fun h => absurd h (by show (2 : Int) ≠ 0; omega), by dsimp only; omega, fun h => absurd h0 h⟩, rfl⟩
  · exact ⟨⟨by dsimp only; omega, fun _ => by dsimp only; omega, by dsimp only; omega, fun h => absurd h0 h⟩, rfl⟩
theorem Stq.p {D0 D : DM} {a : Int} {m : Nat} (q : Stq D0 D) (h0 : D.err ≠ 0 → a = 0) (hf : 2049 ≤ D0.stp + m) (hm : m ≤ 2049) : Stp D a m := ⟨h0, q.e1, q.e2, fun _ => by have := q.le; omega, hm⟩

theorem deep_ok : ∀ {m n : Nat} (hn : 15 + m ≤ n) {g h : AH} {R : List SP} {t d : Nat} {D : DM} {root a : Int} {wv : AV} {sz : Nat} (H : HS g h (DrC d D :: TrC t d root wv :: R)) (G : GoodD D sz 5) (hb : 0 ≤ a ∧ a < 2147483648) (S : Stp D a m),
    wp (callT tab rtab n (.fn 23 [] []) [.ptr t 0, .int .i64 a] h) fun r h' => ∃ (v : Int) (D' : DM), r = .int .i64 v ∧ (∀ k : Int → Act α, EqR (runA (deepA m a k) D) (runA (k v) D')) ∧ GoodD D' sz 5 ∧ Stq D D' ∧ (0 ≤ v ∧ v ≤ m) ∧ HS g h' (DrC d D' :: TrC t d root wv :: R) := by
  intro m
  induction m with
  | zero =>
    intro n hn g h R t d D root a wv sz H G hb S
    have ha : a = 0 := by
      by_cases h0 : D.err = 0
      · have := S.e1 h0; have := S.fu h0; omega
      · exact S.e0 h0
    (refine ww_fn (g := W23) rfl (by omega) fun k hk => ?_; show wp (S23 (callT tab rtab k) _ _ _) _; unfold S23; try simp only [Int.ofNat_eq_natCast])
    refine ww_eqlT ha ?_
    with_reducible (refine ww_joinS ?_; (try dsimp only); refine ww_wantTF ?_; (try dsimp only); refine ww_pickT ?_; refine ww_condT ?_)
    exact ww_ret ⟨0, D, rfl, fun k => by unfold deepA; rw [if_pos ha]; exact EqR.refl _, G, S.q, by omega, H⟩
  | succ m ih =>
    intro n hn g h R t d D root a wv sz H G hb S
    (refine ww_fn (g := W23) rfl (by omega) fun k hk => ?_; show wp (S23 (callT tab rtab k) _ _ _) _; unfold S23; try simp only [Int.ofNat_eq_natCast])
    by_cases ha : a = 0
    · refine ww_eqlT ha ?_
      with_reducible (refine ww_joinS ?_; (try dsimp only); refine ww_wantTF ?_; (try dsimp only); refine ww_pickT ?_; refine ww_condT ?_)
      exact ww_ret ⟨0, D, rfl, fun k => by unfold deepA; rw [if_pos ha]; exact EqR.refl _, G, S.q, by omega, H⟩
    have h0 : D.err = 0 := by
      by_cases h0 : D.err = 0
      · exact h0
      · exact absurd (S.e0 h0) ha
    have hf := S.fu h0
    have hmm := S.mm
    refine ww_eqlF ha ?_
    with_reducible (refine ww_joinS ?_; (try dsimp only); refine ww_wantFF ?_; (try dsimp only); refine ww_nil ?_; refine ww_field0 ?_; refine ww_ldH (by assumption) (.there .here) (by with_unfolding_all exact rfl) ?_)
    refine ww_call (dstep_ok (by omega) H G) ?_
    rintro _ h4 ⟨rfl, H4⟩
    have hgs := G.st
    have hse := S.e2
    have G3 := G.step (by omega)
    have S3 := S.step h0
    have E3 : ∀ k : Int → Act α, EqR (runA (deepA (m + 1) a k) D) (runA (childA a 0 fun l => deepA m l fun x => childA a 1 fun r => deepA m r fun y => k (1 + max x y)) (stepD D)) := by
      intro k
      rw [deepA, if_neg ha]
      exact run_step
    by_cases herr : (stepD D).err = 0
    rotate_left
    · rw [decide_eq_false herr]
      with_reducible (refine ww_notF ?_; refine ww_pickF ?_; refine ww_condT ?_)
      exact ww_ret ⟨0, _, rfl, fun k => (E3 k).trans (EqR.errs herr ⟨rfl, rfl⟩), G3.1, S3.1, by omega, H4⟩
    rw [decide_eq_true herr]
    obtain ⟨G3, hs3⟩ := G3
    obtain ⟨Q3, _⟩ := S3
    generalize stepD D = D3 at *
    with_reducible (refine ww_notT ?_; refine ww_pickF ?_; refine ww_condF ?_)
    refine ww_call (child_ok (α := α) (by omega) H4 G3 (by omega)) ?_
    rintro _ h5 ⟨l, D5, rfl, E5, A5, b5, H5⟩
    have Q5 := Q3.aft A5.stp b5.2.2
    have hs5 := A5.stp
    refine ww_call (ih (by omega) H5 A5.good b5.1 ⟨b5.2.1, Q5.e1, Q5.e2, fun _ => by omega, by omega⟩) ?_
    rintro _ h6 ⟨x, D6, rfl, E6, G6, Q6, b6, H6⟩
    have Q6' := Q5.trans Q6
    refine ww_call (child_ok (α := α) (by omega) H6 G6 (by omega)) ?_
    rintro _ h7 ⟨r, D7, rfl, E7, A7, b7, H7⟩
    have Q7 := Q6'.aft A7.stp b7.2.2
    have hs7 := A7.stp
    have hl6 := Q6.le
    refine ww_call (ih (by omega) H7 A7.good b7.1 ⟨b7.2.1, Q7.e1, Q7.e2, fun _ => by omega, by omega⟩) ?_
    rintro _ h8 ⟨y, D8, rfl, E8, G8, Q8, b8, H8⟩
    have Q8' := Q7.trans Q8
    refine ww_max (ww_addI (by omega) ?_)
    exact ww_ret ⟨_, D8, rfl, fun k => (E3 k).trans ((E5 _).trans ((E6 _).trans ((E7 _).trans (E8 _)))), G8, Q8', by omega, H8⟩

def encP (p : PairT) : List AV := [.int .u64 p.1, .int .u64 p.2]
abbrev OutC (ov : AV) (out : List PairT) : SP := SliC 38 2 out.length ov (out.flatMap encP)
def bk2 (lo hi : Int) (m : Nat) (a key : Int) (k : List PairT → Act α) (out : List PairT) : Act α := if key < hi then childA a 1 fun c => betweenA lo hi m c out k else k out
def bk1 (lo hi : Int) (m : Nat) (a key : Int) (k : List PairT → Act α) (out : List PairT) : Act α := if lo ≤ key ∧ key ≤ hi then .read (a + 1) fun x => bk2 lo hi m a key k (out ++ [(key, x)]) else bk2 lo hi m a key k out
theorem betw_s {lo hi : Int} {m : Nat} {a : Int} {out : List PairT} {k : List PairT → Act α} : betweenA lo hi (m + 1) a out k = if a = 0 then k out else .step (.read a fun key => if lo < key then childA a 0 fun c => betweenA lo hi m c out (bk1 lo hi m a key k) else bk1 lo hi m a key k out) := rfl
theorem between_ok : ∀ {m n : Nat} (hn : 15 + m ≤ n) {g h : AH} {R : List SP} {t d : Nat} {D : DM} {root a lo hi : Int} {wv ov : AV} {out : List PairT} {sz : Nat} (H : HS g h (DrC d D :: TrC t d root wv :: OutC ov out :: R)) (G : GoodD D sz 5) (hb : 0 ≤ a ∧ a < 2147483648) (S : Stp D a m) (hol : (out.length : Int) ≤ 10000 + D.stp),
    wp (callT tab rtab n (.fn 26 [] []) [.ptr t 0, .int .i64 a, .int .u64 lo, .int .u64 hi, ov] h) fun r h' => ∃ (out' : List PairT) (D' : DM), (∀ k : List PairT → Act α, EqR (runA (betweenA lo hi m a out k) D) (runA (k out') D')) ∧ GoodD D' sz 5 ∧ Stq D D' ∧ (out'.length : Int) + D.stp ≤ out.length + D'.stp ∧
      HS g h' (DrC d D' :: TrC t d root wv :: OutC r out' :: R) := by
  intro m
  induction m with
  | zero =>
    intro n hn g h R t d D root a lo hi wv ov out sz H G hb S hol
    have ha : a = 0 := by
      by_cases h0 : D.err = 0
      · have := S.e1 h0; have := S.fu h0; omega
      · exact S.e0 h0
    (refine ww_fn (g := W26) rfl (by omega) fun k hk => ?_; show wp (S26 (callT tab rtab k) _ _ _ _ _ _) _; unfold S26; try simp only [Int.ofNat_eq_natCast])
    refine ww_eqlT ha ?_
    with_reducible (refine ww_joinS ?_; (try dsimp only); refine ww_wantTF ?_; (try dsimp only); refine ww_pickT ?_; refine ww_condT ?_)
    exact ww_ret ⟨out, D, fun k => by unfold betweenA; rw [if_pos ha]; exact EqR.refl _, G, S.q, by omega, H⟩
  | succ m ih =>
    intro n hn g h R t d D root a lo hi wv ov out sz H G hb S hol
    (refine ww_fn (g := W26) rfl (by omega) fun k hk => ?_; show wp (S26 (callT tab rtab k) _ _ _ _ _ _) _; unfold S26; try simp only [Int.ofNat_eq_natCast])
    by_cases ha : a = 0
    · refine ww_eqlT ha ?_
      with_reducible (refine ww_joinS ?_; (try dsimp only); refine ww_wantTF ?_; (try dsimp only); refine ww_pickT ?_; refine ww_condT ?_)
      exact ww_ret ⟨out, D, fun k => by rw [betw_s, if_pos ha]; exact EqR.refl _, G, S.q, by omega, H⟩
    have h0 : D.err = 0 := by
      by_cases h0 : D.err = 0
      · exact h0
      · exact absurd (S.e0 h0) ha
    have hf := S.fu h0
    have hmm := S.mm
    refine ww_eqlF ha ?_
    with_reducible (refine ww_joinS ?_; (try dsimp only); refine ww_wantFF ?_; (try dsimp only); refine ww_nil ?_; refine ww_field0 ?_; refine ww_ldH (by assumption) (.there .here) (by with_unfolding_all exact rfl) ?_)
    refine ww_call (dstep_ok (by omega) H G) ?_
    rintro _ h4 ⟨rfl, H4⟩
    have hgs := G.st
    have hse := S.e2
    have G3 := G.step (by omega)
    have S3 := S.step h0
    have E3 : ∀ k : List PairT → Act α, EqR (runA (betweenA lo hi (m + 1) a out k) D) (runA (.read a fun key => if lo < key then childA a 0 fun c => betweenA lo hi m c out (bk1 lo hi m a key k) else bk1 lo hi m a key k out) (stepD D)) := by
      intro k
      rw [betw_s, if_neg ha]
      exact run_step
    by_cases herr : (stepD D).err = 0
    rotate_left
    · rw [decide_eq_false herr]
      with_reducible (refine ww_notF ?_; refine ww_pickF ?_; refine ww_condT ?_)
      exact ww_ret ⟨out, _, fun k => (E3 k).trans (EqR.errs herr ⟨rfl, rfl⟩), G3.1, S3.1, by omega, H4⟩
    rw [decide_eq_true herr]
    obtain ⟨G3, hs3⟩ := G3
    obtain ⟨Q3, _⟩ := S3
    generalize stepD D = D3 at *
    with_reducible (refine ww_notT ?_; refine ww_pickF ?_; refine ww_condF ?_; refine ww_nil ?_; refine ww_field0 ?_; refine ww_ldH (by assumption) (.there .here) (by with_unfolding_all exact rfl) ?_; refine ww_addI (by omega) ?_)
    rw [show a + ((0 : Nat) : Int) = a by omega]
    refine ww_call (dread_ok (by omega) H4 G3.g.ok) ?_
    rintro _ h5 ⟨rfl, H5⟩
    have G4 := G3.read (p := a)
    have E4 : ∀ k : List PairT → Act α, _ := fun k => (E3 k).trans run_read
    have hs4 : (readD D3 a).2.stp = D3.stp := stp_read
    have Q4 := Q3.aft (D' := (readD D3 a).2) stp_read read_st
    generalize readD D3 a = q4 at *
    obtain ⟨key, D4⟩ := q4
    obtain ⟨G4, b3, b4⟩ := G4
    dsimp only at *
    clear E3 H H4 G3 Q3
    refine ww_joinD [] (fun s h' => ∃ (out2 : List PairT) (ov2 : AV) (D2 : DM), s = (.int .u64 key, ov2, .int .u64 hi, .int .u64 lo, .int .i64 a, .ptr t 0, ()) ∧ (∀ k : List PairT → Act α, EqR (runA (betweenA lo hi (m + 1) a out k) D) (runA (bk1 lo hi m a key k out2) D2)) ∧ GoodD D2 sz 5 ∧ Stq D D2 ∧ D.stp + 1 ≤ D2.stp ∧ (out2.length : Int) + D.stp + 1 ≤ out.length + D2.stp ∧
      HS g h' (DrC d D2 :: TrC t d root wv :: OutC ov2 out2 :: R)) ?_ ?_
    · intro j hj
      by_cases hlk : lo < key
      · refine ww_lssT hlk (ww_condT ?_)
        refine ww_call (child_ok (α := α) (by omega) H5 G4 (by omega)) ?_
        rintro _ h6 ⟨c, D6, rfl, E6, A6, b6, H6⟩
        have Q6 := Q4.aft A6.stp b6.2.2
        have hs6 := A6.stp
        have hq6 := Q6.e2
        refine ww_call (ih (by omega) H6 A6.good b6.1 ⟨b6.2.1, Q6.e1, Q6.e2, fun _ => by omega, by omega⟩ (by omega)) ?_
        rintro ov7 h7 ⟨out7, D7, E7, G7, Q7, l7, H7⟩
        have hl7 := Q7.le
        exact hj _ _ ⟨out7, ov7, D7, rfl, fun k => (E4 k).trans (by rw [if_pos hlk]; exact (E6 _).trans (E7 _)), G7, Q6.trans Q7, by omega, by omega, H7⟩
      · refine ww_lssF hlk (ww_condF ?_)
        exact hj _ _ ⟨out, ov, D4, rfl, fun k => (E4 k).trans (by rw [if_neg hlk]; exact EqR.refl _), G4, Q4, by omega, by omega, H5⟩
    clear E4 H5 G4 Q4 hs4
    rintro s h6 ⟨out2, ov2, D2, rfl, E6, G6, Q6, l6, l6b, H6⟩
    dsimp only
    have hq6 := Q6.e2
    refine ww_joinD [] (fun s h' => ∃ (out2 : List PairT) (ov2 : AV) (D2 : DM), s = (.int .u64 key, ov2, .int .u64 hi, .int .u64 lo, .int .i64 a, .ptr t 0, ()) ∧ (∀ k : List PairT → Act α, EqR (runA (betweenA lo hi (m + 1) a out k) D) (runA (bk2 lo hi m a key k out2) D2)) ∧ GoodD D2 sz 5 ∧ Stq D D2 ∧ D.stp + 1 ≤ D2.stp ∧ (out2.length : Int) + D.stp ≤ out.length + D2.stp ∧
      HS g h' (DrC d D2 :: TrC t d root wv :: OutC ov2 out2 :: R)) ?_ ?_
    · intro j hj
      by_cases hin : lo ≤ key ∧ key ≤ hi
      · refine ww_leqT hin.1 ?_
        with_reducible (refine ww_joinS ?_; (try dsimp only); refine ww_wantTT ?_; (try dsimp only); refine ww_leqT (by omega) ?_; refine ww_pickT ?_; refine ww_condT ?_; refine ww_nil ?_; refine ww_field0 ?_; refine ww_ldH (by assumption) (.there .here) (by with_unfolding_all exact rfl) ?_; refine ww_addI (by omega) ?_)
        rw [show a + ((1 : Nat) : Int) = a + 1 from rfl]
        refine ww_call (dread_ok (by omega) H6 G6.g.ok) ?_
        rintro _ h7 ⟨rfl, H7⟩
        have G7 := G6.read (p := a + 1)
        have E7 : ∀ k : List PairT → Act α, _ := fun k => (E6 k).trans (by unfold bk1; rw [if_pos hin]; exact run_read)
        have Q7 := Q6.aft (D' := (readD D2 (a + 1)).2) stp_read read_st
        have hs7 : (readD D2 (a + 1)).2.stp = D2.stp := stp_read
        generalize readD D2 (a + 1) = q7 at *
        obtain ⟨x, D7⟩ := q7
        obtain ⟨G7, b5, b6⟩ := G7
        dsimp only at *
        with_reducible (refine ww_build (by with_unfolding_all exact rfl) ?_)
        refine ww_buildSH (n := 1) (l := [.int .u64 key, .int .u64 x]) (sz := 2) H7 rfl rfl rfl rfl fun v8 h8 H8 => ?_
        refine ww_appH (H8.sel (.there (.there (.there .here)))) (H8.sl .here) (by omega) (by omega) rfl fun v9 h9 H9 => ?_
        refine hj _ _ ⟨out2 ++ [(key, x)], v9, D7, rfl, E7, G7, Q7, by omega, by simp; omega, ?_⟩
        unfold OutC
        rw [List.flatMap_append, List.length_append]
        exact H9.sub (.cons (.there (.there .here)) (.cons (.there (.there .here)) (.cons .here (.drop .refl))))
      · have E7 : ∀ k : List PairT → Act α, EqR (runA (betweenA lo hi (m + 1) a out k) D) (runA (bk2 lo hi m a key k out2) D2) := fun k => (E6 k).trans (by unfold bk1; rw [if_neg hin]; exact EqR.refl _)
        by_cases hlo : lo ≤ key
        · refine ww_leqT hlo ?_
          with_reducible (refine ww_joinS ?_; (try dsimp only); refine ww_wantTT ?_; (try dsimp only); refine ww_leqF (by omega) ?_; refine ww_pickT ?_; refine ww_condF ?_)
          exact hj _ _ ⟨out2, ov2, D2, rfl, E7, G6, Q6, by omega, by omega, H6⟩
        · refine ww_leqF hlo ?_
          with_reducible (refine ww_joinS ?_; (try dsimp only); refine ww_wantFT ?_; (try dsimp only); refine ww_pickF ?_; refine ww_condF ?_)
          exact hj _ _ ⟨out2, ov2, D2, rfl, E7, G6, Q6, by omega, by omega, H6⟩
    clear E6 H6 G6 Q6 l6 l6b hq6
    rintro s h7 ⟨out3, ov3, D3, rfl, E7, G7, Q7, l7, l7b, H7⟩
    dsimp only
    have hq7 := Q7.e2
    by_cases hkh : key < hi
    · refine ww_lssT hkh ?_
      with_reducible (refine ww_condT ?_)
      refine ww_call (child_ok (α := α) (by omega) H7 G7 (by omega)) ?_
      rintro _ h8 ⟨c, D8, rfl, E8, A8, b8, H8⟩
      have Q8 := Q7.aft A8.stp b8.2.2
      have hs8 := A8.stp
      have hq8 := Q8.e2
      refine ww_call (ih (by omega) H8 A8.good b8.1 ⟨b8.2.1, Q8.e1, Q8.e2, fun _ => by omega, by omega⟩ (by omega)) ?_
      rintro ov9 h9 ⟨out9, D9, E9, G9, Q9, l9, H9⟩
      with_reducible (refine ww_leave ?_)
      exact ww_ret ⟨out9, D9, fun k => (E7 k).trans (by unfold bk2; rw [if_pos hkh]; exact (E8 _).trans (E9 _)), G9, Q8.trans Q9, by omega, H9⟩
    · refine ww_lssF hkh ?_
      with_reducible (refine ww_condF ?_; refine ww_leave ?_)
      exact ww_ret ⟨out3, D3, fun k => (E7 k).trans (by unfold bk2; rw [if_neg hkh]; exact EqR.refl _), G7, Q7, by omega, H7⟩
end Go.Proofs.Ytpohfcljfemhlaa.arenaParts
