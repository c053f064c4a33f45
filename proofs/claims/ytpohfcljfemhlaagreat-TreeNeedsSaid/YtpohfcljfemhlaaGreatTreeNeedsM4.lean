/- Lemmas for 'quietus/quietuslaw20.TreeNeeds': Trees: the laws own functions: the walks; Plain rows of pairs: Find, Put, Del, Count, Do: the walks; Plain rows of pairs: Count, Do: the walks; Trees: a call on a heap and on plain rows: the walk of step, of live; Trees: two objects; views of which some words are known; TreeNeeds comes to true for every argument: its own walk. No condition. -/
import Derived.Test.YtpohfcljfemhlaaGreatTreeNeedsM3
import Derived.Test.YtpohfcljfemhlaaGreatTreeNeedsM2
import Derived.Test.YtpohfcljfemhlaaGreatTreeNeedsM1
namespace Go.Proofs.YtpohfcljfemhlaaGreat.arenaParts
open Go Go.Ae arenaPlays
set_option maxRecDepth 100000
variable {g h : AH} {L R : List SP}
theorem qJD {cs : List AV} {i n sz : Nat} {x : AV} {k : IntKind} {K : AV → Go.Ae.R} {Q : AV → AH → Prop} (hi : i < n) (hx : cs[i * sz]? = some x) (w : wp (K x) Q) : wp (QF (.agg cs) (.int k (i : Int)) n sz K) Q := by
  show wp (bif Nat.ble (i + 1) n then ob (yc cs (i * sz)) K else none) Q
  rw [Nat.ble_eq_true_of_le hi, cond_true, zP, hx]
  exact w
theorem gU {b off i n sz : Nat} {k : IntKind} {K : AV → Go.Ae.R} {Q : AV → AH → Prop} (hi : i < n) (w : wp (K (.ptr b (off + i * sz))) Q) : wp (zT (.ptr b off) (.int k (i : Int)) n sz K) Q := by
  show wp (bif Nat.ble (i + 1) n then K (.ptr b (off + i * sz)) else none) Q
  rw [Nat.ble_eq_true_of_le hi, cond_true]
  exact w
abbrev gT : Type := Int × Int × Int × Int
def zd (c : gT) : List AV := [.int .i64 c.1, .int .i64 c.2.1, .int .u64 c.2.2.1, .int .u64 c.2.2.2]
def vv (x : Int × Int) : List AV := [.int .i64 x.1, .int .u64 x.2]
theorem qKa (x y : Int × Int) : zz [.bas .int 0, .bas .int 1] (vv x) (vv y) = some (decide (x = y)) := by
  obtain ⟨a, b⟩ := x
  obtain ⟨a', b'⟩ := y
  show (bif ieq a a' then (bif ieq b b' then some true else some false) else some false) = _
  rw [vR, vR]
  by_cases h1 : a = a' <;> by_cases h2 : b = b' <;> simp [h1, h2]
theorem Ji {n : Nat} (hn : 1 ≤ n) {c : gT} (H : HS g h R) (hw : 1 ≤ c.1 ∧ c.1 ≤ 12) : wp (qw tab qI n (.fn 35 [] []) [.agg (zd c)] h) fun v h' => v = .int .i64 c.1 ∧ HS g h' R := by
  (refine qc (g := W35) rfl (by omega) fun k hk => ?_; show wp (S35 (qw tab qI k) _ _) _; unfold S35; try simp only [iI, uU, Int.ofNat_eq_natCast])
  refine jx H rfl fun b h1 H1 => ?_
  unfold zd at H1
  with_reducible (refine qZ ?_; refine qv (by assumption) .here (by with_unfolding_all exact rfl) ?_; refine zl (by omega) ?_; refine qk ?_; (try dsimp only); refine qh ?_; (try dsimp only); refine qZ ?_; refine qv (by assumption) .here (by with_unfolding_all exact rfl) ?_; refine yQ (by omega) ?_; refine qR ?_; refine qx ?_; refine qZ ?_; refine qv (by assumption) .here (by with_unfolding_all exact rfl) ?_)
  exact qz ⟨rfl, H1.drop⟩
theorem Qm {n : Nat} (hn : 1 ≤ n) {c : gT} (H : HS g h R) : wp (qw tab qI n (.fn 38 [] []) [.agg (zd c)] h) fun v h' => v = .int .u64 (c.2.2.1.tmod 12) ∧ HS g h' R := by
  (refine qc (g := W38) rfl (by omega) fun k hk => ?_; show wp (S38 (qw tab qI k) _ _) _; unfold S38; try simp only [iI, uU, Int.ofNat_eq_natCast])
  refine jx H rfl fun b h1 H1 => ?_
  unfold zd at H1
  with_reducible (refine qZ ?_; refine qv (by assumption) .here (by with_unfolding_all exact rfl) ?_)
  exact MX (by omega) (qz ⟨rfl, H1.drop⟩)
theorem KP {n : Nat} (hn : 1 ≤ n) {c : gT} (H : HS g h R) : wp (qw tab qI n (.fn 39 [] []) [.agg (zd c)] h) fun v h' => v = .int .u64 (c.2.2.2.tmod 12) ∧ HS g h' R := by
  (refine qc (g := W39) rfl (by omega) fun k hk => ?_; show wp (S39 (qw tab qI k) _ _) _; unfold S39; try simp only [iI, uU, Int.ofNat_eq_natCast])
  refine jx H rfl fun b h1 H1 => ?_
  unfold zd at H1
  with_reducible (refine qZ ?_; refine qv (by assumption) .here (by with_unfolding_all exact rfl) ?_)
  exact MX (by omega) (qz ⟨rfl, H1.drop⟩)
theorem ZV {sz : Nat} : ∀ {l K : List Cl}, UnC (K ++ l) → (∀ c ∈ l, 1 ≤ c.1 ∧ c.1 < (sz : Int)) → l.foldl knw (lvV sz K [] [] 0) = lvV sz (K ++ l) [] [] 0 := by
  intro l
  induction l with
  | nil => intro K _ _; rw [List.append_nil]; rfl
  | cons c l ih =>
    intro K hu hi
    have hn : jF c.1 K = none := by
      rw [kL]
      intro hm
      unfold UnC at hu
      rw [List.map_append] at hu
      exact (List.nodup_append.1 hu).2.2 _ hm c.1 (List.mem_cons_self ..) rfl
    have e : knw (lvV sz K [] [] 0) c = lvV sz (K ++ [c]) [] [] 0 := by
      unfold knw gg
      rw [if_pos (show 1 ≤ c.1 ∧ c.1 < ((lvV sz K [] [] 0).sz : Int) from hi c (List.mem_cons_self ..)), show (lvV sz K [] [] 0).K = K from rfl, hn]
      rfl
    rw [List.foldl_cons, e, ih (by rw [List.append_assoc]; exact hu) fun d hd => hi d (List.mem_cons_of_mem _ hd), List.append_assoc]
    rfl
theorem Zk {M : VM} (O : OkV M) (h : M.lv = [([], [])]) : ofV M = lvV M.sz M.K [] [] 0 := by
  unfold ofV
  have e : jY M.lv = [] := by rw [h]; rfl
  rw [e, List.foldl_nil]
  exact ZV (by rw [List.nil_append]; exact O.un) O.ins
theorem JF {α : Type} {M : VM} {act : Act α} (O : OkV M) (h : M.lv = [([], [])]) : doG M act = doR M act ∧ (qO act ⟨ofV M, 0, 0⟩).1 = vD M act := by
  unfold doG doR vD
  rw [Zk O h]
  exact ⟨rfl, rfl⟩
theorem GM {M : VM} (h : M.lv = [([], [])]) : frS M.lv ≤ 40000 := by rw [h]; simp [frS]
theorem Zd {n : Nat} (hn : 23 ≤ n) {v : Nat} {M : VM} {root key : Int} (H : HS g h (ViewC v M :: R)) (G : jC M) (hfr : frS M.lv ≤ 40000) (hr : 6 ≤ root ∧ root < 14) (h0 : (doG M (xT root key)).1 ≠ 0) :
    wp (qw tab qI n (.fn 29 [] []) [.ptr v 0, .int .i64 root, .int .u64 key] h) fun r h' => r = .tup [.int .u64 0, .bool false, .int .i64 (doG M (xT root key)).1] ∧ HS g h' (ViewC v (doG M (xT root key)).2 :: R) := by
  (refine qc (g := W29) rfl (by omega) fun k hk => ?_; show wp (S29 (qw tab qI k) _ _ _ _) _; unfold S29; try simp only [iI, uU, Int.ofNat_eq_natCast])
  refine jP H ⟨rfl, rfl⟩ fun br h1 H1 => ?_
  refine jP H1 ⟨rfl, rfl⟩ fun bk h2 H2 => ?_
  refine jP H2 ⟨rfl, rfl⟩ fun bx h3 H3 => ?_
  refine jP H3 ⟨rfl, rfl⟩ fun bt h4 H4 => ?_
  refine jB H4 (b := bx) e_1 ⟨rfl, rfl⟩ (by simp) fun h5 H5 => ?_
  refine jB H5 (b := bt) e_1 ⟨rfl, rfl⟩ (by simp) fun h6 H6 => ?_
  have H6 : HS g h6 (qg bt [.bool false] :: qg bx [.int .u64 0] :: qg bk [.int .u64 key] :: qg br [.int .i64 root] :: ViewC v M :: R) := H6
  refine qv H6 e_3 rfl ?_
  have GD := gD G
  refine qJ (we (act := xT root key) (R1 := qg bt [.bool false] :: qg bx [.int .u64 0] :: qg bk [.int .u64 key] :: qg br [.int .i64 root] :: R) (R2 := fun o => BoxG bx bt o :: qg bk [.int .u64 key] :: qg br [.int .i64 root] :: R) (by omega) (H6.sub (.cons e_4 (.cons .here (.cons .here (.cons .here (.cons .here .refl)))))) G hfr hr ?_) ?_
  · intro m h7 d hm3 H7
    exact wp.mono (UD (by omega) H7 GD rfl) fun v h4 hq => hq
  rintro _ h7 ⟨rfl, GG, H7⟩
  refine jo h0 ?_
  with_reducible (refine qx ?_)
  exact qz ⟨rfl, H7.sub (.cons .here (.drop (.drop (.drop .refl))))⟩
theorem VV {n : Nat} (hn : 2090 ≤ n) {v : Nat} {M : VM} {root lo hi : Int} (H : HS g h (ViewC v M :: R)) (G : jC M) (hfr : frS M.lv ≤ 40000) (hr : 6 ≤ root ∧ root < 14) (h0 : (doG M (jT root lo hi)).1 ≠ 0) :
    wp (qw tab qI n (.fn 28 [] []) [.ptr v 0, .int .i64 root, .int .u64 lo, .int .u64 hi] h) fun r h' => r = .tup [.nils, .int .i64 (doG M (jT root lo hi)).1] ∧ HS g h' (ViewC v (doG M (jT root lo hi)).2 :: R) := by
  (refine qc (g := W28) rfl (by omega) fun k hk => ?_; show wp (S28 (qw tab qI k) _ _ _ _ _) _; unfold S28; try simp only [iI, uU, Int.ofNat_eq_natCast])
  refine jP H ⟨rfl, rfl⟩ fun br h1 H1 => ?_
  refine jP H1 ⟨rfl, rfl⟩ fun bl h2 H2 => ?_
  refine jP H2 ⟨rfl, rfl⟩ fun bh h3 H3 => ?_
  refine jP H3 ⟨rfl, rfl⟩ fun bo h4 H4 => ?_
  refine qv H4 e_3 rfl ?_
  have GD := gD G
  refine qJ (we (act := jT root lo hi) (R1 := qg bo [.nils] :: qg bh [.int .u64 hi] :: qg bl [.int .u64 lo] :: qg br [.int .i64 root] :: R) (R2 := fun o => Nw bo o :: qg bh [.int .u64 hi] :: qg bl [.int .u64 lo] :: qg br [.int .i64 root] :: R) (by omega) (H4.sub (.cons e_4 (.cons .here (.cons .here (.cons .here (.cons .here .refl)))))) G hfr hr ?_) ?_
  · intro m h7 d hm3 H7
    exact wp.mono (Xh (by omega) H7 GD rfl) fun v h4 hq => hq
  rintro _ h7 ⟨rfl, GG, H7⟩
  refine jo h0 ?_
  with_reducible (refine qx ?_)
  exact qz ⟨rfl, H7.sub (.cons .here (.drop (.drop (.drop (.drop .refl)))))⟩
theorem QW {n : Nat} (hn : 2 ≤ n) {c : gT} (H : HS g h R) (hw : 9 ≤ c.1 ∧ c.1 ≤ 12) : wp (qw tab qI n (.fn 10 [] []) [.agg (zd c)] h) fun v h' => v = .int .i64 (6 + j0 c.2.1 0 1) ∧ HS g h' R := by
  (refine qc (g := W10) rfl (by omega) fun k hk => ?_; show wp (S10 (qw tab qI k) _ _) _; unfold S10; try simp only [iI, uU, Int.ofNat_eq_natCast])
  refine jx H rfl fun b h1 H1 => ?_
  have H1 : HS g h1 (qg b (zd c) :: R) := H1
  refine ql rfl ?_
  refine jW H1 (b := b) (off := 0) .here rfl (by omega) rfl ?_
  refine qJ (Ji (by omega) H1 (by omega)) ?_
  rintro _ h2 ⟨rfl, H2⟩
  have hb := xu c.2.1 (show (0 : Int) ≤ 1 by omega)
  obtain ⟨w, hwe⟩ : ∃ w : Nat, c.1 = (w : Int) := ⟨c.1.toNat, by omega⟩
  rw [hwe]
  refine qJD (x := .int .i64 3) (by omega) (by
    have h4 : w = 9 ∨ w = 10 ∨ w = 11 ∨ w = 12 := by omega
    rcases h4 with rfl | rfl | rfl | rfl <;> rfl) ?_
  refine qKB (by decide) ?_
  unfold zd at H2
  with_reducible (refine qZ ?_; refine qv (by assumption) .here (by with_unfolding_all exact rfl) ?_)
  refine qJ (GI (by omega) (by omega) (by omega) (by omega)) ?_
  rintro _ h3 ⟨rfl, rfl⟩
  rw [show j0 c.2.1 ((0 : Nat) : Int) ((1 : Nat) : Int) = j0 c.2.1 0 1 from rfl]
  refine qU (by omega) (qz ⟨?_, H2.drop⟩)
  congr 1
theorem Ug {n : Nat} (hn : 2 ≤ n) {c : gT} (H : HS g h R) : wp (qw tab qI n (.fn 9 [] []) [.agg (zd c)] h) fun v h' => v = .agg (zd (j0 c.1 9 12, c.2)) ∧ HS g h' R := by
  (refine qc (g := W9) rfl (by omega) fun k hk => ?_; show wp (S9 (qw tab qI k) _ _) _; unfold S9; try simp only [iI, uU, Int.ofNat_eq_natCast])
  refine jx H rfl fun b h1 H1 => ?_
  refine jx H1 rfl fun b2 h2 H2 => ?_
  unfold zd at H2
  with_reducible (refine qZ ?_; refine qv (by assumption) e_1 (by with_unfolding_all exact rfl) ?_)
  refine qJ (GI (by omega) (by omega) (by omega) (by omega)) ?_
  rintro _ h3 ⟨rfl, rfl⟩
  rw [show j0 c.1 ((9 : Nat) : Int) ((12 : Nat) : Int) = j0 c.1 9 12 from rfl]
  with_reducible (refine qZ ?_)
  refine jB H2 (b := b) e_1 ⟨rfl, rfl⟩ (by simp) fun h4 H4 => ?_
  have H4 : HS g h4 (qg b (zd (j0 c.1 9 12, c.2)) :: qg b2 [.int .i64 ((0 : Nat) : Int), .int .i64 ((0 : Nat) : Int), .int .u64 ((0 : Nat) : Int), .int .u64 ((0 : Nat) : Int)] :: R) := H4
  refine jW H4 (b := b) (off := 0) .here rfl (by omega) rfl ?_
  refine js H4 (b := b2) e_1 rfl (by simp) rfl fun h5 H5 => ?_
  have H5 : HS g h5 (qg b2 (zd (j0 c.1 9 12, c.2)) :: qg b (zd (j0 c.1 9 12, c.2)) :: R) := H5
  refine jW H5 (b := b2) (off := 0) .here rfl (by omega) rfl ?_
  exact qz ⟨rfl, H5.drop.drop⟩
theorem YR {n : Nat} (hn : 2100 ≤ n) {v : Nat} {M : VM} {root : Int} {c : gT} (H : HS g h (ViewC v M :: R)) (G : jC M) (hlv : M.lv = [([], [])]) (hr : 6 ≤ root ∧ root < 14) (hw : 9 ≤ c.1 ∧ c.1 ≤ 12) (hkk : 0 ≤ c.2.2.1) (hxx : 0 ≤ c.2.2.2)
    (hs : SmX M root c.1 (c.2.2.1.tmod 12) (c.2.2.2.tmod 12)) (hget : ∀ x, vD M (xT root (c.2.2.1.tmod 12)) = some (x, false) → x = 0) (hcnt : ∀ l, vD M (jT root (c.2.2.1.tmod 12) (c.2.2.2.tmod 12)) = some l → c.1 = 12 → l.length ≤ 1000) :
    wp (qw tab qI n (.fn 13 [] []) [.ptr v 0, .int .i64 root, .agg (zd c)] h) fun r h' => r = .tup [.agg (vv (gu M root c.1 (c.2.2.1.tmod 12) (c.2.2.2.tmod 12)).1), .int .i64 (gu M root c.1 (c.2.2.1.tmod 12) (c.2.2.2.tmod 12)).2.1] ∧
      HS g h' (ViewC v (gu M root c.1 (c.2.2.1.tmod 12) (c.2.2.2.tmod 12)).2.2 :: R) := by
  (refine qc (g := W13) rfl (by omega) fun k hk => ?_; show wp (S13 (qw tab qI k) _ _ _ _) _; unfold S13; try simp only [iI, uU, Int.ofNat_eq_natCast])
  refine jx H rfl fun b h1 H1 => ?_
  have H1 : HS g h1 (qg b (zd c) :: ViewC v M :: R) := H1
  refine jx H1 rfl fun b2 h2 H2 => ?_
  refine jW H2 (b := b) (off := 0) e_1 rfl (by omega) rfl ?_
  refine qJ (Ji (c := c) (by omega) H2 (by omega)) ?_
  rintro _ h3 ⟨rfl, H3⟩
  have hkb1 := Int.tmod_nonneg 12 hkk
  have hkb2 := Int.tmod_lt_of_pos c.2.2.1 (show (0 : Int) < 12 by omega)
  have hxb1 := Int.tmod_nonneg 12 hxx
  have hxb2 := Int.tmod_lt_of_pos c.2.2.2 (show (0 : Int) < 12 by omega)
  have hf := GM hlv
  unfold gu
  have hw4 : c.1 = 9 ∨ c.1 = 10 ∨ c.1 = 11 ∨ c.1 = 12 := by omega
  rcases hw4 with hw | hw | hw | hw
  · rw [hw, if_pos rfl]
    refine qk ?_
    refine jk rfl (qx ?_)
    refine qk ?_
    refine jW H3 (b := b) (off := 0) e_1 rfl (by omega) rfl ?_
    refine qJ (Qm (c := c) (by omega) H3) ?_
    rintro _ h4 ⟨rfl, H4⟩
    refine jW H4 (b := b) (off := 0) e_1 rfl (by omega) rfl ?_
    refine qJ (KP (c := c) (by omega) H4) ?_
    rintro _ h5 ⟨rfl, H5⟩
    obtain ⟨d1, d2⟩ := JF (act := yg M.sz root (c.2.2.1.tmod 12) (c.2.2.2.tmod 12)) G.ok hlv
    refine qJ (MR (by omega) (H5.sel e_2) G hf hr (by omega) (by omega)) ?_
    rintro r h6 ⟨r1, r2, _, H6⟩
    rw [d1, d2] at r1
    rw [d1] at r2 H6
    have hso := hs.put hw
    generalize doR M (yg M.sz root (c.2.2.1.tmod 12) (c.2.2.2.tmod 12)) = X at *
    generalize vD M (yg M.sz root (c.2.2.1.tmod 12) (c.2.2.2.tmod 12)) = o at *
    obtain ⟨e, M'⟩ := X
    dsimp only at *
    by_cases he : e = 0
    · subst he
      obtain ⟨bo, rfl⟩ := Option.isSome_iff_exists.1 (hso rfl)
      obtain rfl := r1 rfl bo rfl
      with_reducible (refine qy (by with_unfolding_all exact rfl) ?_; refine qy (by with_unfolding_all exact rfl) ?_)
      refine gj H3 (b := b) e_1 rfl H4 e_1 rfl rfl (by omega) (HS.lt H3 e_1) ?_
      cases bo
      · show wp _ fun r h' => r = .tup [.agg (vv (2, 0)), _] ∧ _
        with_reducible (refine qK ?_; refine ql (by with_unfolding_all exact rfl) ?_)
        refine js H6 (b := b2) e_1 rfl (by simp) rfl fun h7 H7 => ?_
        with_reducible (refine qE ?_)
        refine jW H7 (b := b2) (off := 0) .here rfl (by omega) rfl ?_
        exact qz ⟨rfl, H7.sub (.cons e_1 (.drop (.drop .refl)))⟩
      · show wp _ fun r h' => r = .tup [.agg (vv (2, 1)), _] ∧ _
        with_reducible (refine qx ?_; refine ql (by with_unfolding_all exact rfl) ?_)
        refine js H6 (b := b2) e_1 rfl (by simp) rfl fun h7 H7 => ?_
        with_reducible (refine qE ?_)
        refine jW H7 (b := b2) (off := 0) .here rfl (by omega) rfl ?_
        exact qz ⟨rfl, H7.sub (.cons e_1 (.drop (.drop .refl)))⟩
    · obtain rfl := r2 he
      with_reducible (refine qy (by with_unfolding_all exact rfl) ?_; refine qy (by with_unfolding_all exact rfl) ?_)
      refine gj H3 (b := b) e_1 rfl H4 e_1 rfl rfl (by omega) (HS.lt H3 e_1) ?_
      rw [show Kp e o = (2, 0) from if_neg he]
      with_reducible (refine qK ?_; refine ql (by with_unfolding_all exact rfl) ?_)
      refine js H6 (b := b2) e_1 rfl (by simp) rfl fun h7 H7 => ?_
      with_reducible (refine qE ?_)
      refine jW H7 (b := b2) (off := 0) .here rfl (by omega) rfl ?_
      exact qz ⟨rfl, H7.sub (.cons e_1 (.drop (.drop .refl)))⟩
  · rw [hw, if_neg (by omega), if_pos rfl]
    refine qk ?_
    refine qp (by omega) (qK ?_)
    refine jk rfl (qx ?_)
    refine jW H3 (b := b) (off := 0) e_1 rfl (by omega) rfl ?_
    refine qJ (Qm (c := c) (by omega) H3) ?_
    rintro _ h4 ⟨rfl, H4⟩
    obtain ⟨d1, d2⟩ := JF (act := xT root (c.2.2.1.tmod 12)) G.ok hlv
    have hso := hs.get hw
    by_cases he : (doR M (xT root (c.2.2.1.tmod 12))).1 = 0
    · obtain ⟨⟨x, bo⟩, ho⟩ := Option.isSome_iff_exists.1 (hso he)
      refine qJ (MB (by omega) (H4.sel e_2) G hf hr (by rw [d1]; exact he) (d2.trans ho)) ?_
      rintro _ h6 ⟨rfl, _, H6⟩
      rw [d1] at H6
      rw [ho, show OL (doR M (xT root (c.2.2.1.tmod 12))).1 (some (x, bo)) = match (x, bo) with | (x, true) => (1, x) | _ => (3, 0) by unfold OL; rw [if_pos he]; cases bo <;> rfl]
      generalize doR M (xT root (c.2.2.1.tmod 12)) = X at *
      obtain ⟨e, M'⟩ := X
      dsimp only at he
      subst he
      dsimp only at *
      have H6 : HS g h6 (ViewC v M' :: qg b2 [.int .i64 ((0 : Nat) : Int), .int .u64 ((0 : Nat) : Int)] :: qg b (zd c) :: R) := H6
      cases bo
      · have hx0 := hget x ho
        subst hx0
        with_reducible (refine qy (by with_unfolding_all exact rfl) ?_; refine qy (by with_unfolding_all exact rfl) ?_; refine qy (by with_unfolding_all exact rfl) ?_; refine jl ?_; refine qx ?_; refine ql (by with_unfolding_all exact rfl) ?_)
        refine js H6 (b := b2) e_1 rfl (by simp) rfl fun h7 H7 => ?_
        skip
        refine jW H7 (b := b2) (off := 0) .here rfl (by omega) rfl ?_
        exact qz ⟨rfl, H7.sub (.cons e_1 (.drop (.drop .refl)))⟩
      · dsimp only
        with_reducible (refine qy (by with_unfolding_all exact rfl) ?_; refine qy (by with_unfolding_all exact rfl) ?_; refine qy (by with_unfolding_all exact rfl) ?_; refine jb ?_; refine qK ?_; refine ql (by with_unfolding_all exact rfl) ?_)
        refine js H6 (b := b2) e_1 rfl (by simp) rfl fun h7 H7 => ?_
        skip
        refine jW H7 (b := b2) (off := 0) .here rfl (by omega) rfl ?_
        exact qz ⟨rfl, H7.sub (.cons e_1 (.drop (.drop .refl)))⟩
    · refine qJ (Zd (by omega) (H4.sel e_2) G hf hr (by rw [d1]; exact he)) ?_
      rintro _ h6 ⟨rfl, H6⟩
      rw [d1] at H6 ⊢
      generalize doR M (xT root (c.2.2.1.tmod 12)) = X at *
      obtain ⟨e, M'⟩ := X
      dsimp only at *
      have H6 : HS g h6 (ViewC v M' :: qg b2 [.int .i64 ((0 : Nat) : Int), .int .u64 ((0 : Nat) : Int)] :: qg b (zd c) :: R) := H6
      generalize vD M (xT root (c.2.2.1.tmod 12)) = o at *
      rw [show OL e o = (3, 0) from if_neg he]
      with_reducible (refine qy (by with_unfolding_all exact rfl) ?_; refine qy (by with_unfolding_all exact rfl) ?_; refine qy (by with_unfolding_all exact rfl) ?_; refine jl ?_; refine qx ?_; refine ql (by with_unfolding_all exact rfl) ?_)
      refine js H6 (b := b2) e_1 rfl (by simp) rfl fun h7 H7 => ?_
      skip
      refine jW H7 (b := b2) (off := 0) .here rfl (by omega) rfl ?_
      exact qz ⟨rfl, H7.sub (.cons e_1 (.drop (.drop .refl)))⟩
  · rw [hw, if_neg (by omega), if_neg (by omega), if_pos rfl]
    refine qk ?_
    refine qp (by omega) (qK ?_)
    refine qp (by omega) (qK ?_)
    refine jk rfl (qx ?_)
    refine jW H3 (b := b) (off := 0) e_1 rfl (by omega) rfl ?_
    refine qJ (Qm (c := c) (by omega) H3) ?_
    rintro _ h4 ⟨rfl, H4⟩
    obtain ⟨d1, d2⟩ := JF (act := vw M.sz root (c.2.2.1.tmod 12)) G.ok hlv
    refine qJ (qJt (by omega) (H4.sel e_2) G hf hr) ?_
    rintro r h6 ⟨r1, r2, _, H6⟩
    rw [d1, d2] at r1
    rw [d1] at r2 H6
    have hso := hs.del hw
    generalize doR M (vw M.sz root (c.2.2.1.tmod 12)) = X at *
    generalize vD M (vw M.sz root (c.2.2.1.tmod 12)) = o at *
    obtain ⟨e, M'⟩ := X
    dsimp only at *
    have H6 : HS g h6 (ViewC v M' :: qg b2 [.int .i64 ((0 : Nat) : Int), .int .u64 ((0 : Nat) : Int)] :: qg b (zd c) :: R) := H6
    by_cases he : e = 0
    · subst he
      obtain ⟨bo, rfl⟩ := Option.isSome_iff_exists.1 (hso rfl)
      obtain rfl := r1 rfl bo rfl
      cases bo
      · show wp _ fun r h' => r = .tup [.agg (vv (2, 0)), _] ∧ _
        with_reducible (refine qy (by with_unfolding_all exact rfl) ?_; refine qy (by with_unfolding_all exact rfl) ?_; refine qK ?_; refine ql (by with_unfolding_all exact rfl) ?_)
        refine js H6 (b := b2) e_1 rfl (by simp) rfl fun h7 H7 => ?_
        with_reducible (refine qE ?_)
        refine jW H7 (b := b2) (off := 0) .here rfl (by omega) rfl ?_
        exact qz ⟨rfl, H7.sub (.cons e_1 (.drop (.drop .refl)))⟩
      · show wp _ fun r h' => r = .tup [.agg (vv (2, 1)), _] ∧ _
        with_reducible (refine qy (by with_unfolding_all exact rfl) ?_; refine qy (by with_unfolding_all exact rfl) ?_; refine qx ?_; refine ql (by with_unfolding_all exact rfl) ?_)
        refine js H6 (b := b2) e_1 rfl (by simp) rfl fun h7 H7 => ?_
        with_reducible (refine qE ?_)
        refine jW H7 (b := b2) (off := 0) .here rfl (by omega) rfl ?_
        exact qz ⟨rfl, H7.sub (.cons e_1 (.drop (.drop .refl)))⟩
    · obtain rfl := r2 he
      rw [show Kp e o = (2, 0) from if_neg he]
      with_reducible (refine qy (by with_unfolding_all exact rfl) ?_; refine qy (by with_unfolding_all exact rfl) ?_; refine qK ?_; refine ql (by with_unfolding_all exact rfl) ?_)
      refine js H6 (b := b2) e_1 rfl (by simp) rfl fun h7 H7 => ?_
      with_reducible (refine qE ?_)
      refine jW H7 (b := b2) (off := 0) .here rfl (by omega) rfl ?_
      exact qz ⟨rfl, H7.sub (.cons e_1 (.drop (.drop .refl)))⟩
  · rw [hw, if_neg (by omega), if_neg (by omega), if_neg (by omega)]
    refine qk ?_
    refine qp (by omega) (qK ?_)
    refine qp (by omega) (qK ?_)
    refine qp (by omega) (qK ?_)
    refine qk ?_
    refine jW H3 (b := b) (off := 0) e_1 rfl (by omega) rfl ?_
    refine qJ (Qm (c := c) (by omega) H3) ?_
    rintro _ h4 ⟨rfl, H4⟩
    refine jW H4 (b := b) (off := 0) e_1 rfl (by omega) rfl ?_
    refine qJ (KP (c := c) (by omega) H4) ?_
    rintro _ h5 ⟨rfl, H5⟩
    obtain ⟨d1, d2⟩ := JF (act := jT root (c.2.2.1.tmod 12) (c.2.2.2.tmod 12)) G.ok hlv
    have hso := hs.rng hw
    by_cases he : (doR M (jT root (c.2.2.1.tmod 12) (c.2.2.2.tmod 12))).1 = 0
    · obtain ⟨l, ho⟩ := Option.isSome_iff_exists.1 (hso he)
      have hll := hcnt l ho hw
      refine qJ (Jn (by omega) (H5.sel e_2) G hf hr (by rw [d1]; exact he) (d2.trans ho)) ?_
      rintro _ h6 ⟨ov, rfl, _, H6⟩
      rw [d1] at H6
      rw [ho, show Ol (doR M (jT root (c.2.2.1.tmod 12) (c.2.2.2.tmod 12))).1 (some l) = (1, (l.length : Int)) by unfold Ol; rw [if_pos he]]
      generalize doR M (jT root (c.2.2.1.tmod 12) (c.2.2.2.tmod 12)) = X at *
      obtain ⟨e, M'⟩ := X
      dsimp only at he
      subst he
      dsimp only at *
      have H6 : HS g h6 (ViewC v M' :: qg b2 [.int .i64 ((0 : Nat) : Int), .int .u64 ((0 : Nat) : Int)] :: Qx ov l :: qg b (zd c) :: R) := H6.sub (.cons e_1 (.cons e_1 (.cons .here .refl)))
      with_reducible (refine qy (by with_unfolding_all exact rfl) ?_; refine qy (by with_unfolding_all exact rfl) ?_)
      refine gj H3 (b := b) e_1 rfl H4 e_1 rfl rfl (by omega) (HS.lt H3 e_1) ?_
      refine jg H6 e_2 ?_
      refine xJ (by omega) ?_
      with_reducible (refine ql (by with_unfolding_all exact rfl) ?_)
      refine js H6 (b := b2) e_1 rfl (by simp) rfl fun h7 H7 => ?_
      skip
      refine jW H7 (b := b2) (off := 0) .here rfl (by omega) rfl ?_
      exact qz ⟨rfl, H7.sub (.cons e_1 (.drop (.drop (.drop .refl))))⟩
    · refine qJ (VV (by omega) (H5.sel e_2) G hf hr (by rw [d1]; exact he)) ?_
      rintro _ h6 ⟨rfl, H6⟩
      rw [d1] at H6 ⊢
      generalize doR M (jT root (c.2.2.1.tmod 12) (c.2.2.2.tmod 12)) = X at *
      obtain ⟨e, M'⟩ := X
      dsimp only at *
      have H6 : HS g h6 (ViewC v M' :: qg b2 [.int .i64 ((0 : Nat) : Int), .int .u64 ((0 : Nat) : Int)] :: qg b (zd c) :: R) := H6
      generalize vD M (jT root (c.2.2.1.tmod 12) (c.2.2.2.tmod 12)) = o at *
      rw [show Ol e o = (1, 0) from if_neg he]
      with_reducible (refine qy (by with_unfolding_all exact rfl) ?_; refine qy (by with_unfolding_all exact rfl) ?_)
      refine gj H3 (b := b) e_1 rfl H4 e_1 rfl rfl (by omega) (HS.lt H3 e_1) ?_
      refine qXL ?_
      refine xJ (by omega) ?_
      with_reducible (refine ql (by with_unfolding_all exact rfl) ?_)
      refine js H6 (b := b2) e_1 rfl (by simp) rfl fun h7 H7 => ?_
      skip
      refine jW H7 (b := b2) (off := 0) .here rfl (by omega) rfl ?_
      exact qz ⟨rfl, H7.sub (.cons e_1 (.drop (.drop .refl)))⟩
theorem Ke (l : List (Int × Int)) : zK (l.flatMap zD) = true := by
  unfold zK
  rw [List.all_eq_true]
  intro v hv
  obtain ⟨c, _, hc⟩ := List.mem_flatMap.1 hv
  simp [zD] at hc
  rcases hc with rfl | rfl <;> rfl
theorem qZ4 {n : Nat} (hn : 2100 ≤ n) {v : Nat} {M : VM} {root : Int} {l : List qm} (H : HS g h (ViewC v M :: R)) (G : jC M) (hlv : M.lv = [([], [])]) (hr : 6 ≤ root ∧ root < 14) (h0 : (doR M (jT root 0 18446744073709551615)).1 = 0) (hl : vD M (jT root 0 18446744073709551615) = some l) :
    wp (qw tab qI n (.fn 32 [] []) [.ptr v 0, .int .i64 root] h) fun r h' => ∃ pv, r = .tup [pv, .int .i64 0] ∧ HS g h' (Qx pv l :: ViewC v (doR M (jT root 0 18446744073709551615)).2 :: R) := by
  (refine qc (g := W32) rfl (by omega) fun k hk => ?_; show wp (S32 (qw tab qI k) _ _ _) _; unfold S32; try simp only [iI, uU, Int.ofNat_eq_natCast])
  obtain ⟨d1, d2⟩ := JF (act := jT root 0 18446744073709551615) G.ok hlv
  refine qJ (Jn (lo := 0) (hi := 18446744073709551615) (by omega) H G (GM hlv) hr (by rw [d1]; exact h0) (d2.trans hl)) ?_
  rintro _ h1 ⟨ov, rfl, _, H1⟩
  rw [d1] at H1
  with_reducible (refine qy (by with_unfolding_all exact rfl) ?_; refine qy (by with_unfolding_all exact rfl) ?_)
  exact qz ⟨ov, rfl, H1⟩
theorem NG {n : Nat} (hn : 14 ≤ n) {v : Nat} {M : VM} {zs Wr F : List Int} {cs : List Cl} {wv : AV} (H : HS g h (ViewC v M :: R)) (S : Rd g R 1 zs.length wv (zs.map (.int .u64))) (G : jC M) (hz : ∀ z ∈ jK zs cs, 0 ≤ z ∧ z < 18446744073709551616)
    (hm : jY M.lv = cs) (hc : cs.length < 1000) (hf : zE M.lv = F) (hF : (F = [] ∧ Wr = jK zs cs) ∨ ∃ a c2, F = [a] ∧ kS (zk (jK zs cs) 96) a = (0, yK (jK zs cs) 96 c2 []) ∧ c2.length ≤ 2 ∧ Wr = jK (jK zs cs) c2) :
    wp (qw tab qI n (.fn 31 [] []) [wv, .ptr v 0] h) fun r h' => ∃ wv' e, r = .tup [wv', .bool true] ∧ HS g h' (qS e 1 Wr.length wv' (Wr.map (.int .u64)) :: R) := by
  (refine qc (g := W31) rfl (by omega) fun k hk => ?_; show wp (S31 (qw tab qI k) _ _ _) _; unfold S31; try simp only [iI, uU, Int.ofNat_eq_natCast])
  refine qJ (xf (by omega) H G.ok) fun cv h1 H1 => ?_
  rw [hm] at H1
  refine qJ (Gk (zs := zs) (by omega) H1 S.more.more (H1.rd .here) (by omega)) ?_
  rintro w1 h2 ⟨e2, H2⟩
  refine qJ (vp (by omega) (H2.sel e_2) G.ok) fun fv h3 H3 => ?_
  rw [hf] at H3
  have H4 : HS g h3 (qS e2 1 (jK zs cs).length w1 ((jK zs cs).map (.int .u64)) :: qS 3 1 F.length fv (F.map (.int .i64)) :: R) := H3.sub (.cons e_2 (.cons .here (.drop (.drop .refl))))
  clear H H1 H2 H3
  generalize jK zs cs = W1 at *
  rcases hF with ⟨rfl, rfl⟩ | ⟨a, c2, rfl, hg, hc2, rfl⟩
  · refine jh (fun m s h' => m = 0 ∧ s = (.int .i64 ((0 : Nat) : Int), fv, w1, ()) ∧ h' = h3) ?_ (m := 0) (by show 0 < 1000000000; omega) ⟨rfl, rfl, rfl⟩
    rintro m ih s h4 hih ⟨rfl, rfl, rfl⟩
    dsimp only
    refine jg H4 e_1 ?_
    show wp (qB .lss _ (.int .i64 ((0 : Nat) : Int)) _) _
    with_reducible (refine zB (by omega) ?_; refine qK ?_; refine qE ?_)
    exact qz ⟨w1, e2, rfl, H4.sub (.cons .here (.drop .refl))⟩
  · refine jh (fun m s h' => (m = 1 ∧ s = (.int .i64 ((0 : Nat) : Int), fv, w1, ()) ∧ h' = h3) ∨ (m = 0 ∧ ∃ w2 e, s = (.int .i64 ((1 : Nat) : Int), fv, w2, ()) ∧
      HS g h' (qS e 1 (jK W1 c2).length w2 ((jK W1 c2).map (.int .u64)) :: qS 3 1 1 fv [.int .i64 a] :: R))) ?_ (m := 1) (by show 1 < 1000000000; omega) (.inl ⟨rfl, rfl, rfl⟩)
    rintro m ih s h4 hih (⟨rfl, rfl, rfl⟩ | ⟨rfl, w2, e, rfl, H5⟩)
    · dsimp only
      have H4 : HS g h4 (qS e2 1 W1.length w1 (W1.map (.int .u64)) :: qS 3 1 1 fv [.int .i64 a] :: R) := H4
      refine jg H4 e_1 ?_
      with_reducible (refine xg (by omega) ?_; refine qx ?_)
      refine qJ (ww (zs := W1) (m := ((96 : Nat) : Int)) (by omega) H4 (H4.rd .here)) ?_
      rintro _ h5 ⟨u, rfl, H5⟩
      rw [show ((96 : Nat) : Int) = 96 from rfl] at H5
      have GW := gZ (m := 96) hz
      refine QZ ?_
      with_reducible (refine qk ?_; (try dsimp only); refine jJ ?_; (try dsimp only))
      refine xe (i := 0) (H5.sl e_2) (x := .int .i64 a) rfl ?_
      refine qJ (Z8 (by omega) H5 GW.ok) ?_
      rintro _ h6 ⟨rfl, H6⟩
      have G6 := (GW.give (b := a)).1
      rw [hg] at H6 G6 ⊢
      dsimp only at H6 G6 ⊢
      with_reducible (refine jE (by omega) ?_; refine qb ?_; refine qK ?_)
      refine qJ (xf (by omega) H6 G6.ok) fun cv h7 H7 => ?_
      rw [show jY (yK W1 96 c2 []).lv = c2 from rfl] at H7
      refine qJ (Gk (zs := W1) (by omega) H7 (H7.rd e_2) (H7.rd .here) (by omega)) ?_
      rintro w3 h8 ⟨e8, H8⟩
      with_reducible (refine qU (by omega) ?_)
      exact hih 0 _ _ (by omega) (.inr ⟨rfl, w3, e8, rfl, H8.sub (.cons .here (.cons e_3 (.drop (.drop (.drop .refl)))))⟩)
    · dsimp only
      refine jg H5 e_1 ?_
      with_reducible (refine zB (by omega) ?_; refine qK ?_; refine qE ?_)
      exact qz ⟨w2, e, rfl, H5.sub (.cons .here (.drop .refl))⟩
end Go.Proofs.YtpohfcljfemhlaaGreat.arenaParts
namespace Go.Proofs.YtpohfcljfemhlaaGreat.arenaParts
open Go Go.Ae arenaPlays
set_option maxRecDepth 100000
variable {g h : AH} {L R : List SP}
def xY (v : AV) (row : List qm) : SP := qS 78 2 row.length v (row.flatMap zD)
theorem xb {v : AV} {row : List qm} (H : HS g h L) (s : Sel L (xY v row) R) : Sl (fun _ => True) h 2 row.length v (row.flatMap zD) := HS.sl (e := 78) H s
theorem O6 {e : TypeId} {sz : Nat} {v : AV} {xs : List AV} {k : IntKind} {K : AV → Go.Ae.R} {Q : AV → AH → Prop} (H : HS g h (qS e sz 0 v xs :: R)) (hsz : 0 < sz) (w : Sl (fun _ => True) h sz 0 v xs → wp (K v) Q) : wp (zv h e sz v (some (.int k ((0 : Nat) : Int))) none K) Q := by
  have S := H.sl .here
  obtain ⟨D, ⟨hl, ⟨rfl, _, hD⟩ | ⟨b, cp, o, zs, rfl, hD, A, q1, q2, q3⟩⟩, hb, _⟩ := H.act
  · exact w S
  · cases o with
    | false =>
      rw [if_neg (by simp)] at q3
      refine KZ (hi := 0) (lo := 0) rfl (z8 (Nat.zero_le _)) ?_
      have e0 : (bif Nat.beq cp 0 then 0 else 0 + 0 * sz) = 0 := by cases Nat.beq cp 0 <;> simp
      rw [e0]; exact w S
    | true =>
      rw [if_pos rfl] at q3
      subst q3
      refine Xz (i0 := 0) (hi := 0) (lo := 0) A hsz (by omega) (by omega) rfl (z8 (Nat.zero_le _)) (.inr rfl) ?_
      have := w S
      simpa using this
theorem K3 {e : TypeId} {sz n lo : Nat} {v : AV} {xs : List AV} {k : IntKind} {K : AV → Go.Ae.R} {Q : AV → AH → Prop} (H : HS g h (qS e sz n v xs :: R)) (hsz : 0 < sz) (hlo : lo ≤ n) (w : ∀ v', Sl (fun _ => True) h sz (n - lo) v' (xs.drop (lo * sz)) → wp (K v') Q) : wp (zv h e sz v (some (.int k (lo : Int))) none K) Q := by
  by_cases hn : 0 < n
  · exact qJa H hsz hlo hn w
  · obtain rfl : n = 0 := by omega
    obtain rfl : lo = 0 := by omega
    refine O6 H hsz fun S => w v ?_
    rw [Nat.zero_mul, List.drop_zero]
    exact S
theorem wz {row : List qm} {i f : Nat} (hf : f < 2) {q : qm} (hq : row[i]? = some q) : (row.flatMap zD)[i * 2 + f]? = some (.int .u64 (if f = 0 then q.1 else q.2)) := by
  rw [yT (sz := 2) zD (fun _ => rfl) _ _ _ hf, hq]
  have : f = 0 ∨ f = 1 := by omega
  rcases this with rfl | rfl <;> rfl
theorem Y6 {row : List qm} : (row.flatMap zD).length = row.length * 2 := gw (sz := 2) zD (fun _ => rfl) row
theorem Mq {row a b : List qm} (h : row = a ++ b) : row.take a.length = a := by subst h; simp
theorem qKC {row a b : List qm} (h : row = a ++ b) : row.drop a.length = b := by subst h; simp
theorem Z0 {row a b : List qm} {q : qm} (h : row = a ++ q :: b) : row.drop (a.length + 1) = b := by
  subst h
  rw [List.drop_append, show a.length + 1 - a.length = 1 by omega, List.drop_eq_nil_of_le (by omega)]; rfl
theorem allX (l : List qm) : zK (l.flatMap zD) = true := Ke l
theorem YY {row : List qm} {i : Nat} : (row.flatMap zD).take (i * 2) = (row.take i).flatMap zD := by
  induction row generalizing i with
  | nil => simp
  | cons q row ih =>
    cases i with
    | zero => simp
    | succ i =>
      rw [List.flatMap_cons, List.take_succ_cons, List.flatMap_cons, ← ih, show (i + 1) * 2 = i * 2 + 1 + 1 by omega]
      rfl
theorem Ya {row : List qm} {i : Nat} : (row.flatMap zD).drop (i * 2) = (row.drop i).flatMap zD := xU (sz := 2) zD (fun _ => rfl) row i
theorem NM {a b : List qm} {k v x : Int} : ((a ++ (k, v) :: b).flatMap zD).set (a.length * 2 + 1) (.int .u64 x) = (a ++ (k, x) :: b).flatMap zD := by
  rw [List.flatMap_append, List.flatMap_append, List.set_append_right _ _ (by rw [Y6]; omega), Y6, Nat.add_sub_cancel_left]
  rfl
theorem Ze {k : Int} {row : List qm} (hs : Srt row) {i : Nat} {q : qm} (hq : row[i]? = some q) : (i < (loP k row).length ↔ q.1 < k) ∧ (i = (loP k row).length → (q.1 = k ↔ inP k row = true)) := by
  have hlo : ∀ y ∈ loP k row, y.1 < k := fun y hy => by have := (List.mem_filter.1 hy).2; simpa using this
  have hhi : ∀ y ∈ hiP k row, k < y.1 := fun y hy => by have := (List.mem_filter.1 hy).2; simpa using this
  obtain ⟨b, hb, hb2, hb3⟩ : ∃ b, row = loP k row ++ b ∧ (∀ y ∈ b, k ≤ y.1) ∧ (∀ y, b[0]? = some y → (y.1 = k ↔ inP k row = true)) := by
    rcases vu (k := k) hs with ⟨h1, h2⟩ | ⟨v, h1, h2⟩
    · refine ⟨hiP k row, h2, fun y hy => by have := hhi y hy; omega, fun y hy => ?_⟩
      have := hhi y (List.mem_of_getElem? hy)
      rw [h1]
      simp; omega
    · refine ⟨(k, v) :: hiP k row, h2, fun y hy => ?_, fun y hy => ?_⟩
      · rcases List.mem_cons.1 hy with rfl | hy
        · exact Int.le_refl _
        · have := hhi y hy; omega
      · cases hy; rw [h1]; simp
  by_cases hi : i < (loP k row).length
  · have hm : q ∈ loP k row := by
      rw [hb, List.getElem?_append_left hi] at hq
      exact List.mem_of_getElem? hq
    have := hlo q hm
    exact ⟨⟨fun _ => this, fun _ => hi⟩, fun h => by omega⟩
  · rw [hb, List.getElem?_append_right (by omega)] at hq
    have := hb2 q (List.mem_of_getElem? hq)
    refine ⟨⟨fun h => absurd h hi, fun h => by omega⟩, fun h => ?_⟩
    rw [h, Nat.sub_self] at hq
    exact hb3 q hq
theorem Vb {k : Int} {row : List qm} : (loP k row).length ≤ row.length := List.length_filter_le _ _
theorem YG {n : Nat} (hn : 1 ≤ n) {o j : Nat} {xs : List AV} {vj : AV} {row : List qm} {x : Int} (H : HS g h (qg o xs :: xY vj row :: R)) (hl : xs.length = 8) (hx : xs[j]? = some vj) (hrl : row.length < 1000) (hs : Srt row) :
    wp (qw tab qI n (.fn 68 [] []) [.ptr o 0, .int .i64 (j : Int), .int .u64 x] h) fun r h' => r = .tup [.int .i64 ((loP x row).length : Int), .bool (inP x row)] ∧ h' = h := by
  (refine qc (g := W68) rfl (by omega) fun k hk => ?_; show wp (S68 (qw tab qI k) _ _ _ _) _; unfold S68; try simp only [iI, uU, Int.ofNat_eq_natCast])
  have hj8 : j < 8 := by have := (List.getElem?_eq_some_iff.1 hx).1; omega
  have hll := Vb (k := x) (row := row)
  refine jh (fun m s h' => ∃ i : Nat, s = (.int .i64 (i : Int), .int .u64 x, .int .i64 (j : Int), .ptr o 0, ()) ∧ i ≤ (loP x row).length ∧ m = (loP x row).length - i ∧ h' = h) ?_ (m := (loP x row).length) (by show _ < 1000000000; omega) ⟨0, rfl, by omega, by omega, rfl⟩
  rintro m ih s h1 hih ⟨i, rfl, hi, rfl, rfl⟩
  dsimp only
  have rd : ∀ {K : AV → Go.Ae.R} {Q : AV → AH → Prop}, wp (K vj) Q → wp (qe (.ptr o 0) fun v => qV v 0 fun v => zT v (.int .i64 (j : Int)) 8 1 fun v => qW h1 v K) Q := by
    intro K Q w
    refine qC (qZ (gU (i := j) hj8 ?_))
    rw [show 0 + j * 1 = j by omega]
    exact qv H .here hx w
  refine rd ?_
  refine zO (xb H e_1) (wJ ?_)
  refine Xg (fun s g' => ∃ (q : AV) (u y : Bool), s = (q, .bool u, .int .i64 (i : Int), .int .u64 x, .int .i64 (j : Int), .ptr o 0, ()) ∧ g' = h1 ∧ (u = true → q = .bool y) ∧ ((u && y) = decide (i < (loP x row).length))) ?_ ?_
  · intro jj hj
    refine XC (fun hlt => ?_) (fun hlt => hj _ _ ⟨_, _, false, rfl, rfl, fun h => absurd (of_decide_eq_true h) hlt, ?_⟩)
    · have hir : i < row.length := by omega
      have hq : row[i]? = some row[i] := List.getElem?_eq_getElem hir
      have hra := (Ze (k := x) hs hq).1
      refine rd ?_
      refine xF (i := i) (f := 0) (x := .int .u64 row[i].1) (xb H e_1) (by omega) hir (wz (by omega) hq) ?_
      refine wJ (hj _ _ ⟨_, _, decide (i < (loP x row).length), rfl, rfl, fun _ => ?_, ?_⟩)
      · congr 1; exact decide_eq_decide.2 hra.symm
      · simp; omega
    · have hni : ¬ i < (loP x row).length := by omega
      simp [hni]
  rintro s h2 ⟨q, u, y, rfl, rfl, hq, hux⟩
  refine gp hq ?_
  rw [hux]
  dsimp only
  refine XH (fun hic => ?_) fun hic => ?_
  · refine qU (by omega) ?_
    exact hih ((loP x row).length - (i + 1)) _ _ (by omega) ⟨i + 1, rfl, by omega, rfl, rfl⟩
  obtain rfl : i = (loP x row).length := by omega
  refine rd ?_
  refine zO (xb H e_1) (wJ ?_)
  refine Xg (fun s g' => ∃ (q : AV) (u y : Bool), s = (q, .bool u, .int .i64 ((loP x row).length : Int), ()) ∧ g' = h2 ∧ (u = true → q = .bool y) ∧ ((u && y) = inP x row)) ?_ ?_
  · intro jj hj
    refine XC (fun hlt => ?_) (fun hlt => hj _ _ ⟨_, _, false, rfl, rfl, fun h => absurd (of_decide_eq_true h) hlt, ?_⟩)
    · have hir : (loP x row).length < row.length := by omega
      have hq : row[(loP x row).length]? = some row[(loP x row).length] := List.getElem?_eq_getElem hir
      have hra := (Ze (k := x) hs hq).2 rfl
      refine rd ?_
      refine xF (i := (loP x row).length) (f := 0) (x := .int .u64 row[(loP x row).length].1) (xb H e_1) (by omega) hir (wz (by omega) hq) ?_
      refine kw (hj _ _ ⟨_, _, inP x row, rfl, rfl, fun _ => ?_, ?_⟩)
      · congr 1
        cases hb : inP x row
        · rw [hb] at hra; exact decide_eq_false (by simpa using hra)
        · rw [hb] at hra; exact decide_eq_true (by simpa using hra)
      · rw [decide_eq_true (by omega)]; rfl
    · rcases vu (k := x) hs with ⟨h1, _⟩ | ⟨v, h1, h2⟩
      · rw [h1]; simp
      · have := congrArg List.length h2
        rw [List.length_append, List.length_cons] at this
        omega
  rintro s h3 ⟨q, u, y, rfl, rfl, hq, hux⟩
  refine gp hq ?_
  rw [hux]
  exact qE (qz ⟨rfl, rfl⟩)
theorem vr {xs : List AV} {j : Nat} {v : AV} (hx : xs[j]? = some v) : xs.set j v = xs := by
  have hj := (List.getElem?_eq_some_iff.1 hx).1
  apply List.ext_getElem?
  intro i
  rw [List.getElem?_set]
  by_cases hi : j = i
  · subst hi; rw [if_pos rfl, if_pos hj]; exact hx.symm
  · rw [if_neg hi]
theorem qXO {n : Nat} (hn : 2 ≤ n) {o j : Nat} {xs : List AV} {vj : AV} {row : List qm} {x y : Int} (H : HS g h (qg o xs :: xY vj row :: R)) (hl : xs.length = 8) (hx : xs[j]? = some vj) (hrl : row.length < 1000) (hs : Srt row) :
    wp (qw tab qI n (.fn 66 [] []) [.ptr o 0, .int .i64 (j : Int), .int .u64 x, .int .u64 y] h) fun r h' => ∃ v', r = .bool (!inP x row) ∧ One v' ∧ HS g h' (qg o (xs.set j v') :: xY v' (kZ x y row) :: R) := by
  (refine qc (g := W66) rfl (by omega) fun k hk => ?_; show wp (S66 (qw tab qI k) _ _ _ _ _) _; unfold S66; try simp only [iI, uU, Int.ofNat_eq_natCast])
  have hj8 : j < 8 := by have := (List.getElem?_eq_some_iff.1 hx).1; omega
  have hll := Vb (k := x) (row := row)
  have rd : ∀ {h0 : AH} {L0 R0 : List SP} {K : AV → Go.Ae.R} {Q : AV → AH → Prop}, HS g h0 L0 → Sel L0 (qg o xs) R0 → wp (K vj) Q → wp (qe (.ptr o 0) fun v => qV v 0 fun v => zT v (.int .i64 (j : Int)) 8 1 fun v => qW h0 v K) Q := by
    intro h0 L0 R0 K Q H0 s0 w
    refine qC (qZ (gU (i := j) hj8 ?_))
    rw [show 0 + j * 1 = j by omega]
    exact qv H0 s0 hx w
  refine qJ (YG (by omega) H hl hx hrl hs) ?_
  rintro _ h1 ⟨rfl, rfl⟩
  refine qy rfl (qy rfl ?_)
  rcases vu (k := x) hs with ⟨hin, hrow⟩ | ⟨v0, hin, hrow⟩
  · rw [hin]
    refine qK ?_
    refine rd H .here ?_
    refine XV (hi := (loP x row).length) (H.sub (L' := xY vj row :: qg o xs :: R) (.cons e_1 (.cons .here .refl))) (by omega) hll fun v1 H1 => ?_
    rw [YY] at H1
    have et : row.take (loP x row).length = loP x row := Mq hrow
    rw [et] at H1
    refine z4 (HS.nils H) (HS.sl H1 .here) (by omega) (by omega) (allX _) fun v2 h2 H2 => ?_
    rw [List.nil_append, Nat.zero_add] at H2
    refine ql (l := zD (x, y)) rfl ?_
    refine jp (n := 1) (l := zD (x, y)) (sz := 2) H2 rfl rfl rfl rfl fun v3 h3 H3 => ?_
    refine z4 (H3.sel e_1) (H3.sl .here) (by omega) (by omega) rfl fun v4 h4 H4 => ?_
    refine rd H4 e_2 ?_
    refine K3 (lo := (loP x row).length) (H4.sub (L' := xY vj row :: qg o xs :: R) (.cons e_3 (.cons e_2 (.drop (.drop .refl))))) (by omega) hll fun v5 S5 => ?_
    rw [Ya] at S5
    have ed : row.drop (loP x row).length = hiP x row := qKC hrow
    rw [ed] at S5
    refine z4 (H4.sel .here) S5 (by omega) (by omega) (allX _) fun v6 h6 H6 => ?_
    have o6 := H6.one .here
    refine qC (qZ (gU (i := j) hj8 ?_))
    rw [show 0 + j * 1 = j by omega]
    refine jB H6 (b := o) e_2 o6 (by omega) fun h7 H7 => ?_
    refine qz ⟨v6, rfl, o6, ?_⟩
    have e : xY v6 (kZ x y row) = qS 78 2 ((loP x row).length + 1 + (row.length - (loP x row).length)) v6 ((loP x row).flatMap zD ++ zD (x, y) ++ (hiP x row).flatMap zD) := by
      unfold xY kZ
      have hlen := congrArg List.length hrow
      rw [List.length_append] at hlen
      rw [List.flatMap_append, List.flatMap_cons, List.length_append, List.length_cons, ← List.append_assoc]
      congr 1
      omega
    rw [e]
    exact H7.sub (.cons .here (.cons .here (.drop (.drop .refl))))
  · rw [hin]
    refine qx ?_
    refine rd H .here ?_
    have hlen := congrArg List.length hrow
    rw [List.length_append, List.length_cons] at hlen
    refine Zf (i := (loP x row).length) (f := 1) (x := .int .u64 y) (H.sub (L' := xY vj row :: qg o xs :: R) (.cons e_1 (.cons .here .refl))) (by omega) (by omega) ⟨rfl, rfl⟩ fun h2 H2 => ?_
    have e : (row.flatMap zD).set ((loP x row).length * 2 + 1) (.int .u64 y) = (kZ x y row).flatMap zD := by
      have := NM (a := loP x row) (b := hiP x row) (k := x) (v := v0) (x := y)
      rw [← hrow] at this
      exact this
    rw [e] at H2
    have hpl : (kZ x y row).length = row.length := by unfold kZ; rw [List.length_append, List.length_cons]; omega
    rw [← hpl] at H2
    refine qz ⟨vj, rfl, Xw (xb H e_1), ?_⟩
    rw [vr hx]
    have H2 : HS g h2 (xY vj (kZ x y row) :: qg o xs :: R) := H2
    exact H2.sub (.cons e_1 (.cons .here .refl))
theorem qXP {n : Nat} (hn : 2 ≤ n) {o j : Nat} {xs : List AV} {vj : AV} {row : List qm} {x : Int} (H : HS g h (qg o xs :: xY vj row :: R)) (hl : xs.length = 8) (hx : xs[j]? = some vj) (hrl : row.length < 1000) (hs : Srt row) :
    wp (qw tab qI n (.fn 67 [] []) [.ptr o 0, .int .i64 (j : Int), .int .u64 x] h) fun r h' => ∃ v', r = .bool (inP x row) ∧ One v' ∧ HS g h' (qg o (xs.set j v') :: xY v' (Jh x row) :: R) := by
  (refine qc (g := W67) rfl (by omega) fun k hk => ?_; show wp (S67 (qw tab qI k) _ _ _ _) _; unfold S67; try simp only [iI, uU, Int.ofNat_eq_natCast])
  have hj8 : j < 8 := by have := (List.getElem?_eq_some_iff.1 hx).1; omega
  have hll := Vb (k := x) (row := row)
  have rd : ∀ {h0 : AH} {L0 R0 : List SP} {K : AV → Go.Ae.R} {Q : AV → AH → Prop}, HS g h0 L0 → Sel L0 (qg o xs) R0 → wp (K vj) Q → wp (qe (.ptr o 0) fun v => qV v 0 fun v => zT v (.int .i64 (j : Int)) 8 1 fun v => qW h0 v K) Q := by
    intro h0 L0 R0 K Q H0 s0 w
    refine qC (qZ (gU (i := j) hj8 ?_))
    rw [show 0 + j * 1 = j by omega]
    exact qv H0 s0 hx w
  refine qJ (YG (by omega) H hl hx hrl hs) ?_
  rintro _ h1 ⟨rfl, rfl⟩
  refine qy rfl (qy rfl ?_)
  rcases vu (k := x) hs with ⟨hin, hrow⟩ | ⟨v0, hin, hrow⟩
  · rw [hin]
    refine jl (qx (qz ⟨vj, rfl, Xw (xb H e_1), ?_⟩))
    rw [vr hx, qJF hs hin]
    exact H
  · rw [hin]
    have hlen := congrArg List.length hrow
    rw [List.length_append, List.length_cons] at hlen
    refine jb (qK ?_)
    refine rd H .here ?_
    refine XV (hi := (loP x row).length) (H.sub (L' := xY vj row :: qg o xs :: R) (.cons e_1 (.cons .here .refl))) (by omega) hll fun v1 H1 => ?_
    rw [YY] at H1
    have et : row.take (loP x row).length = loP x row := Mq hrow
    rw [et] at H1
    refine z4 (HS.nils H) (HS.sl H1 .here) (by omega) (by omega) (allX _) fun v2 h2 H2 => ?_
    rw [List.nil_append, Nat.zero_add] at H2
    refine rd H2 e_1 ?_
    refine qU (by omega) ?_
    refine K3 (lo := (loP x row).length + 1) (H2.sub (L' := xY vj row :: qg o xs :: R) (.cons e_2 (.cons e_1 (.drop .refl)))) (by omega) (by omega) fun v5 S5 => ?_
    rw [Ya] at S5
    have ed : row.drop ((loP x row).length + 1) = hiP x row := Z0 hrow
    rw [ed] at S5
    refine z4 (H2.sel .here) S5 (by omega) (by omega) (allX _) fun v6 h6 H6 => ?_
    have o6 := H6.one .here
    refine qC (qZ (gU (i := j) hj8 ?_))
    rw [show 0 + j * 1 = j by omega]
    refine jB H6 (b := o) e_1 o6 (by omega) fun h7 H7 => ?_
    refine qz ⟨v6, rfl, o6, ?_⟩
    have e : xY v6 (Jh x row) = qS 78 2 ((loP x row).length + (row.length - ((loP x row).length + 1))) v6 ((loP x row).flatMap zD ++ (hiP x row).flatMap zD) := by
      unfold xY Jh
      rw [List.flatMap_append, List.length_append]
      congr 1
      omega
    rw [e]
    exact H7.sub (.cons .here (.cons .here (.drop .refl)))
end Go.Proofs.YtpohfcljfemhlaaGreat.arenaParts
namespace Go.Proofs.YtpohfcljfemhlaaGreat.arenaParts
open Go Go.Ae arenaPlays
set_option maxRecDepth 100000
variable {g h : AH} {L R : List SP}
theorem OO {n : Nat} (hn : 1 ≤ n) {o j : Nat} {xs : List AV} {vj : AV} {row : List qm} {lo hi : Int} (H : HS g h (qg o xs :: xY vj row :: R)) (hl : xs.length = 8) (hx : xs[j]? = some vj) (hrl : row.length < 1000) :
    wp (qw tab qI n (.fn 69 [] []) [.ptr o 0, .int .i64 (j : Int), .int .u64 lo, .int .u64 hi] h) fun r h' => r = .int .i64 ((xd lo hi row).length : Int) ∧ h' = h := by
  (refine qc (g := W69) rfl (by omega) fun k hk => ?_; show wp (S69 (qw tab qI k) _ _ _ _ _) _; unfold S69; try simp only [iI, uU, Int.ofNat_eq_natCast])
  have hj8 : j < 8 := by have := (List.getElem?_eq_some_iff.1 hx).1; omega
  refine jh (fun m s h' => ∃ i : Nat, s = (.int .i64 (i : Int), .int .i64 ((xd lo hi (row.take i)).length : Int), .int .u64 hi, .int .u64 lo, .int .i64 (j : Int), .ptr o 0, ()) ∧ i ≤ row.length ∧ m = row.length - i ∧ h' = h) ?_ (m := row.length) (by show _ < 1000000000; omega) ⟨0, rfl, by omega, by omega, rfl⟩
  rintro m ih s h1 hih ⟨i, rfl, hi2, rfl, rfl⟩
  dsimp only
  have rd : ∀ {K : AV → Go.Ae.R} {Q : AV → AH → Prop}, wp (K vj) Q → wp (qe (.ptr o 0) fun v => qV v 0 fun v => zT v (.int .i64 (j : Int)) 8 1 fun v => qW h1 v K) Q := by
    intro K Q w
    refine qC (qZ (gU (i := j) hj8 ?_))
    rw [show 0 + j * 1 = j by omega]
    exact qv H .here hx w
  have hcl : (xd lo hi (row.take i)).length ≤ i := by
    have h1 := List.length_filter_le (fun q : qm => decide (lo ≤ q.1 ∧ q.1 ≤ hi)) (row.take i)
    have h2 := List.length_take_le i row
    unfold xd
    omega
  refine rd ?_
  refine zO (xb H e_1) ?_
  by_cases hlt : i < row.length
  · have hq : row[i]? = some row[i] := List.getElem?_eq_getElem hlt
    have hnext : row.take (i + 1) = row.take i ++ [row[i]] := List.take_succ_eq_append_getElem hlt
    generalize row[i] = q at *
    have hcn : (xd lo hi (row.take (i + 1))).length = (xd lo hi (row.take i)).length + if lo ≤ q.1 ∧ q.1 ≤ hi then 1 else 0 := by
      rw [hnext]
      unfold xd
      rw [List.filter_append, List.length_append, List.filter_cons]
      by_cases hc : lo ≤ q.1 ∧ q.1 ≤ hi
      · rw [if_pos hc, if_pos (decide_eq_true hc)]; rfl
      · rw [if_neg hc, if_neg (by simpa using hc)]; rfl
    refine xg (by omega) (qx ?_)
    refine z9 [] (fun s h' => s = (.int .i64 (i : Int), .int .i64 ((xd lo hi (row.take (i + 1))).length : Int), .int .u64 hi, .int .u64 lo, .int .i64 (j : Int), .ptr o 0, ()) ∧ h' = h1) ?_ ?_
    · intro jj hj
      refine rd ?_
      refine xF (i := i) (f := 0) (x := .int .u64 q.1) (xb H e_1) (by omega) hlt (wz (by omega) hq) ?_
      refine KL ?_
      refine Xg (fun s g' => ∃ (q1 : AV) (u y : Bool), s = (q1, .bool u, .int .i64 (i : Int), .int .i64 ((xd lo hi (row.take i)).length : Int), .int .u64 hi, .int .u64 lo, .int .i64 (j : Int), .ptr o 0, ()) ∧ g' = h1 ∧ (u = true → q1 = .bool y) ∧ ((u && y) = decide (lo ≤ q.1 ∧ q.1 ≤ hi))) ?_ ?_
      · intro j2 hj2
        refine XC (fun hlo => ?_) (fun hlo => hj2 _ _ ⟨_, _, false, rfl, rfl, fun h => absurd (of_decide_eq_true h) hlo, ?_⟩)
        · refine rd ?_
          refine xF (i := i) (f := 0) (x := .int .u64 q.1) (xb H e_1) (by omega) hlt (wz (by omega) hq) ?_
          refine Kh (hj2 _ _ ⟨_, _, decide (q.1 ≤ hi), rfl, rfl, fun _ => rfl, ?_⟩)
          simp [hlo]
        · simp [hlo]
      rintro s h2 ⟨q1, u, y, rfl, rfl, hq1, hux⟩
      refine gp hq1 ?_
      rw [hux]
      dsimp only
      refine XH (fun hic => ?_) fun hic => ?_
      · refine qU (by omega) ?_
        refine hj _ _ ⟨?_, rfl⟩
        rw [hcn, if_pos hic]
        rfl
      · refine hj _ _ ⟨?_, rfl⟩
        rw [hcn, if_neg hic]
        rfl
    · rintro s h3 ⟨rfl, rfl⟩
      dsimp only
      refine qU (by omega) ?_
      exact hih (row.length - (i + 1)) _ _ (by omega) ⟨i + 1, rfl, by omega, rfl, rfl⟩
  · obtain rfl : i = row.length := by omega
    refine zB (by omega) (qK (qE (qz ⟨?_, rfl⟩)))
    rw [List.take_length]
theorem qVA {n : Nat} (hn : 4 ≤ n) {o j : Nat} {xs : List AV} {vj : AV} {row : List qm} {c : gT} (H : HS g h (qg o xs :: xY vj row :: R)) (hl : xs.length = 8) (hx : xs[j]? = some vj) (hj : 6 + j0 c.2.1 0 1 = (j : Int)) (hw : 9 ≤ c.1 ∧ c.1 ≤ 12) (hrl : row.length < 1000) (hs : Srt row) :
    wp (qw tab qI n (.fn 30 [] []) [.ptr o 0, .agg (zd c)] h) fun r h' => ∃ v', r = .tup [.agg (vv (XZ c.1 (c.2.2.1.tmod 12) (c.2.2.2.tmod 12) row).1), .bool true] ∧ One v' ∧
      HS g h' (qg o (xs.set j v') :: xY v' (XZ c.1 (c.2.2.1.tmod 12) (c.2.2.2.tmod 12) row).2 :: R) := by
  (refine qc (g := W30) rfl (by omega) fun k hk => ?_; show wp (S30 (qw tab qI k) _ _ _) _; unfold S30; try simp only [iI, uU, Int.ofNat_eq_natCast])
  have hj8 : j < 8 := by have := (List.getElem?_eq_some_iff.1 hx).1; omega
  refine jx H rfl fun b h1 H1 => ?_
  refine jx H1 rfl fun b2 h2 H2 => ?_
  have H2 : HS g h2 (qg b2 [.int .i64 ((0 : Nat) : Int), .int .u64 ((0 : Nat) : Int)] :: qg b (zd c) :: qg o xs :: xY vj row :: R) := H2
  refine qk ?_
  refine jW H2 (b := b) (off := 0) e_1 rfl (by omega) rfl ?_
  refine qJ (QW (c := c) (by omega) H2 hw) ?_
  rintro _ h3 ⟨rfl, H3⟩
  rw [hj]
  refine jW H3 (b := b) (off := 0) e_1 rfl (by omega) rfl ?_
  refine qJ (Qm (c := c) (by omega) H3) ?_
  rintro _ h4 ⟨rfl, H4⟩
  refine jW H4 (b := b) (off := 0) e_1 rfl (by omega) rfl ?_
  refine qJ (KP (c := c) (by omega) H4) ?_
  rintro _ h5 ⟨rfl, H5⟩
  refine gj H3 (b := b) e_1 rfl H4 e_1 rfl rfl (by omega) (HS.lt H2 e_1) ?_
  refine gj H2 (b := b) e_1 rfl H3 e_1 rfl rfl (by omega) (HS.lt H2 e_1) ?_
  refine gj H2 (b := b) e_1 rfl H3 e_1 rfl rfl (by omega) (HS.lt H2 e_1) ?_
  clear H H1 H2 H3 H4
  refine jW H5 (b := b) (off := 0) e_1 rfl (by omega) rfl ?_
  refine qJ (Ji (c := c) (by omega) H5 (by omega)) ?_
  rintro _ h6 ⟨rfl, H⟩
  clear H5
  generalize c.2.2.1.tmod 12 = x at *
  generalize c.2.2.2.tmod 12 = y at *
  have H : HS g h6 (qg o xs :: xY vj row :: qg b2 [.int .i64 ((0 : Nat) : Int), .int .u64 ((0 : Nat) : Int)] :: qg b (zd c) :: R) := H.sub (.cons e_2 (.cons e_2 (.cons .here (.cons .here .refl))))
  have o0 := Xw (xb H e_1)
  have hw4 : c.1 = 9 ∨ c.1 = 10 ∨ c.1 = 11 ∨ c.1 = 12 := by omega
  rcases hw4 with hw | hw | hw | hw
  · rw [hw]
    unfold XZ
    rw [if_pos rfl]
    with_reducible (refine qk ?_; (try dsimp only); refine qp (by omega) ?_; refine qK ?_; refine qk ?_; (try dsimp only); refine qp (by omega) ?_; refine qK ?_; refine jk (by omega) ?_; refine qx ?_)
    refine qJ (qXO (x := x) (y := y) (by omega) H hl hx hrl hs) ?_
    rintro _ h7 ⟨v', rfl, o7, H7⟩
    cases inP x row
    all_goals
      simp only [Bool.not_false, Bool.not_true]
      (first | with_reducible (refine qx ?_; refine ql (by with_unfolding_all exact rfl) ?_) | with_reducible (refine qK ?_; refine ql (by with_unfolding_all exact rfl) ?_))
      refine js H7 (b := b2) e_2 rfl (by simp) rfl fun h8 H8 => ?_
      with_reducible (refine qE ?_)
      refine jW H8 (b := b2) (off := 0) .here rfl (by omega) rfl ?_
      exact qz ⟨v', rfl, o7, H8.sub (.cons e_1 (.cons e_1 (.drop (.drop .refl))))⟩
  · rw [hw]
    unfold XZ
    rw [if_neg (by omega), if_pos rfl]
    with_reducible (refine qk ?_; (try dsimp only); refine qp (by omega) ?_; refine qK ?_; refine qk ?_; (try dsimp only); refine qp (by omega) ?_; refine qK ?_; refine qp (by omega) ?_; refine qK ?_; refine qk ?_; (try dsimp only); refine qp (by omega) ?_; refine qK ?_; refine qp (by omega) ?_; refine qK ?_; refine qp (by omega) ?_; refine qK ?_; refine qp (by omega) ?_; refine qK ?_; refine qk ?_; (try dsimp only); refine qp (by omega) ?_; refine qK ?_; refine jk (by omega) ?_; refine qx ?_)
    refine qJ (YG (x := x) (by omega) H hl hx hrl hs) ?_
    rintro _ h7 ⟨rfl, rfl⟩
    rcases vu (k := x) hs with ⟨hin, hrow⟩ | ⟨v0, hin, hrow⟩
    · rw [hin, Mf hin]
      with_reducible (refine qy (by with_unfolding_all exact rfl) ?_; refine qy (by with_unfolding_all exact rfl) ?_; refine jl ?_; refine qx ?_; refine ql (by with_unfolding_all exact rfl) ?_)
      refine js H (b := b2) e_2 rfl (by simp) rfl fun h8 H8 => ?_
      with_reducible (refine qE ?_)
      refine jW H8 (b := b2) (off := 0) .here rfl (by omega) rfl ?_
      refine qz ⟨vj, rfl, o0, ?_⟩
      rw [vr hx]
      exact H8.sub (.cons e_1 (.cons e_1 (.drop (.drop .refl))))
    · have hg : Qo x row = (v0, true) := by
        have hlo : ∀ y ∈ loP x row, y.1 < x := fun y hy => by have := (List.mem_filter.1 hy).2; simpa using this
        have := Ku (x := v0) (b := hiP x row) hlo
        rw [← hrow] at this
        exact this
      have hlen := congrArg List.length hrow
      rw [List.length_append, List.length_cons] at hlen
      have hq : row[(loP x row).length]? = some (x, v0) := by
        have : ∀ {row a b : List qm} {q : qm}, row = a ++ q :: b → row[a.length]? = some q := by
          rintro row a b q rfl
          rw [List.getElem?_append_right (Nat.le_refl _), Nat.sub_self]; rfl
        exact this hrow
      rw [hin, hg]
      with_reducible (refine qy (by with_unfolding_all exact rfl) ?_; refine qy (by with_unfolding_all exact rfl) ?_; refine jb ?_; refine qK ?_; refine qC ?_; refine qZ ?_)
      refine gU (i := j) hj8 ?_
      rw [show 0 + j * 1 = j by omega]
      refine qv H .here hx ?_
      refine xF (i := (loP x row).length) (f := 1) (x := .int .u64 v0) (xb H e_1) (by omega) (by omega) (wz (by omega) hq) ?_
      with_reducible (refine ql (by with_unfolding_all exact rfl) ?_)
      refine js H (b := b2) e_2 rfl (by simp) rfl fun h8 H8 => ?_
      with_reducible (refine qE ?_)
      refine jW H8 (b := b2) (off := 0) .here rfl (by omega) rfl ?_
      refine qz ⟨vj, rfl, o0, ?_⟩
      rw [vr hx]
      exact H8.sub (.cons e_1 (.cons e_1 (.drop (.drop .refl))))
  · rw [hw]
    unfold XZ
    rw [if_neg (by omega), if_neg (by omega), if_pos rfl]
    with_reducible (refine qk ?_; (try dsimp only); refine qp (by omega) ?_; refine qK ?_; refine qk ?_; (try dsimp only); refine qp (by omega) ?_; refine qK ?_; refine qp (by omega) ?_; refine qK ?_; refine qk ?_; (try dsimp only); refine qp (by omega) ?_; refine qK ?_; refine qp (by omega) ?_; refine qK ?_; refine jk (by omega) ?_; refine qx ?_)
    refine qJ (qXP (x := x) (by omega) H hl hx hrl hs) ?_
    rintro _ h7 ⟨v', rfl, o7, H7⟩
    cases inP x row
    all_goals
      (first | with_reducible (refine qK ?_; refine ql (by with_unfolding_all exact rfl) ?_) | with_reducible (refine qx ?_; refine ql (by with_unfolding_all exact rfl) ?_))
      refine js H7 (b := b2) e_2 rfl (by simp) rfl fun h8 H8 => ?_
      with_reducible (refine qE ?_)
      refine jW H8 (b := b2) (off := 0) .here rfl (by omega) rfl ?_
      exact qz ⟨v', rfl, o7, H8.sub (.cons e_1 (.cons e_1 (.drop (.drop .refl))))⟩
  · rw [hw]
    unfold XZ
    rw [if_neg (by omega), if_neg (by omega), if_neg (by omega)]
    with_reducible (refine qk ?_; (try dsimp only); refine qp (by omega) ?_; refine qK ?_; refine qk ?_; (try dsimp only); refine qp (by omega) ?_; refine qK ?_; refine qp (by omega) ?_; refine qK ?_; refine qk ?_; (try dsimp only); refine qp (by omega) ?_; refine qK ?_; refine qp (by omega) ?_; refine qK ?_; refine qp (by omega) ?_; refine qK ?_; refine qp (by omega) ?_; refine qK ?_; refine qk ?_; (try dsimp only); refine qp (by omega) ?_; refine qK ?_; refine qp (by omega) ?_; refine qK ?_; refine qp (by omega) ?_; refine qK ?_; refine qp (by omega) ?_; refine qK ?_)
    refine qJ (OO (lo := x) (hi := y) (by omega) H hl hx hrl) ?_
    rintro _ h7 ⟨rfl, rfl⟩
    have hcl : (xd x y row).length ≤ row.length := List.length_filter_le _ _
    refine xJ (by omega) ?_
    with_reducible (refine ql (by with_unfolding_all exact rfl) ?_)
    refine js H (b := b2) e_2 rfl (by simp) rfl fun h8 H8 => ?_
    with_reducible (refine qE ?_)
    refine jW H8 (b := b2) (off := 0) .here rfl (by omega) rfl ?_
    refine qz ⟨vj, rfl, o0, ?_⟩
    rw [vr hx]
    exact H8.sub (.cons e_1 (.cons e_1 (.drop (.drop .refl))))
end Go.Proofs.YtpohfcljfemhlaaGreat.arenaParts
namespace Go.Proofs.YtpohfcljfemhlaaGreat.arenaParts
open Go Go.Ae arenaPlays
set_option maxRecDepth 100000
variable {g h : AH} {L R : List SP}
theorem YT {zs C : List Cl} {W F : List Int} {nd : Int} (hK : jC (lvV 256 zs [] [] nd)) (hu : UnC C) (hi : InC C) (hl : C.length ≤ 96) (hw : WdC C) (hf : F.length < 1000) : jC (lvV 256 zs C F nd) := by
  refine ⟨⟨hK.ok.lo, hK.ok.hi, ⟨?_, by show (96 : Nat) ≤ 96; omega, ?_, ?_, by show 1 ≤ 1; omega, by show 1 ≤ 6; omega⟩, hK.ok.ins, hK.ok.un, ?_⟩, ⟨hK.wd.k, ?_⟩⟩
  · show xK [(C, F)] ≤ 96
    simp [xK]; exact hl
  · intro x hx; rw [List.mem_singleton.1 hx]; exact hi
  · intro x hx; rw [List.mem_singleton.1 hx]; exact hu
  · intro x hx; rw [List.mem_singleton.1 hx]; show F.length < 100000; omega
  · intro x hx; rw [List.mem_singleton.1 hx]; exact hw
theorem gV {K : List Cl} {W : List Int} {p p' : Int} {t t' : Tr} {k x nd : Int} (Z : xI W 256 [] p t p' t') (hK : V6 W K) : (∀ y, vD (Mv K nd) (xT p k) = some (y, false) → y = 0) ∧ (∀ l, vD (Mv K nd) (jT p k x) = some l → l.length ≤ 1000) := by
  have hz := Z.H.size.2.2
  refine ⟨fun y hy => ?_, fun l hl => ?_⟩
  · obtain ⟨o, e, W', C', F', s', q1, q2, ⟨q3, q10⟩, q4, q5, q6, q7, q9, q8⟩ := Xx (by omega) (ZQ (key := k) (Q := fun o e _ _ => o = some (Qo k (inr t)) ∧ e = 0) Z ⟨rfl, rfl⟩) (Wd.nil hz) (Nat.le_refl 0) List.nodup_nil (fun c hc => by cases hc) (by omega)
    have hy : (qO (xT p k) ⟨lvV 256 K [] [] 0, 0, 0⟩).1 = some (y, false) := hy
    rcases q8 K 0 hK with ⟨_, _, _, _, h1, _⟩ | h1
    · rw [h1] at hy; cases hy
    · rw [h1, q3] at hy
      have : Qo k (inr t) = (y, false) := Option.some.inj hy
      unfold Qo at this
      split at this
      · cases this
      · cases this; rfl
  · obtain ⟨o, e, W', C', F', s', q1, q2, ⟨q3, q10⟩, q4, q5, q6, q7, q9, q8⟩ := Xx (by omega) (Xl (lo := k) (hi := x) (Q := fun o e _ _ => o = some (xd k x (inr t)) ∧ e = 0) Z ⟨rfl, rfl⟩) (Wd.nil hz) (Nat.le_refl 0) List.nodup_nil (fun c hc => by cases hc) (by omega)
    have hl : (qO (jT p k x) ⟨lvV 256 K [] [] 0, 0, 0⟩).1 = some l := hl
    rcases q8 K 0 hK with ⟨_, _, _, _, h1, _⟩ | h1
    · rw [h1] at hl; cases hl
    · rw [h1, q3] at hl
      have e : xd k x (inr t) = l := Option.some.inj hl
      have h2 : (xd k x (inr t)).length ≤ (inr t).length := List.length_filter_le _ _
      have h3 := Z.A.few
      rw [XF] at h3
      rw [← e]; omega
theorem UF {n : Nat} (hn : 2120 ≤ n) {o j : Nat} {xs : List AV} {vj wv : AV} {e : TypeId} {zs : List Int} {p p' : Int} {t t' : Tr} {c : gT} (H : HS g h (qS e 1 zs.length wv (zs.map (.int .u64)) :: qg o xs :: xY vj (inr t) :: R))
    (Z : xI zs 256 [] p t p' t') (hl : xs.length = 8) (hx : xs[j]? = some vj) (hj : 6 + j0 c.2.1 0 1 = (j : Int)) (hp : p = 6 + (j : Int)) (hw : 9 ≤ c.1 ∧ c.1 ≤ 12) (hkk : 0 ≤ c.2.2.1) (hxx : 0 ≤ c.2.2.2) :
    wp (qw tab qI n (.fn 8 [] []) [wv, .ptr o 0, .agg (zd c)] h) fun r h' => ∃ wv' e' zs' t2 v', r = .tup [wv', .bool true] ∧ xI zs' 256 [] p t2 p' t' ∧ One v' ∧
      qG zs 5 ≤ qG zs' 5 ∧ HS g h' (qS e' 1 zs'.length wv' (zs'.map (.int .u64)) :: qg o (xs.set j v') :: xY v' (inr t2) :: R) := by
  (refine qc (g := W8) rfl (by omega) fun k hk => ?_; show wp (S8 (qw tab qI k) _ _ _ _) _; unfold S8; try simp only [iI, uU, Int.ofNat_eq_natCast])
  have hz := Z.H.size.2.2
  have hj8 : j < 8 := by have := (List.getElem?_eq_some_iff.1 hx).1; omega
  have hfew := Z.A.few
  rw [XF] at hfew
  have hrr := Z.rr
  have hbm := Z.H.bump
  have hsrt := Z.A.srt
  have hkb1 := Int.tmod_nonneg 12 hkk
  have hkb2 := Int.tmod_lt_of_pos c.2.2.1 (show (0 : Int) < 12 by omega)
  have hxb1 := Int.tmod_nonneg 12 hxx
  have hxb2 := Int.tmod_lt_of_pos c.2.2.2 (show (0 : Int) < 12 by omega)
  refine jx H rfl fun b h1 H1 => ?_
  have H1 : HS g h1 (qg b (zd c) :: qS e 1 zs.length wv (zs.map (.int .u64)) :: qg o xs :: xY vj (inr t) :: R) := H1
  refine qJ (ww (zs := zs) (m := ((96 : Nat) : Int)) (by omega) H1 (H1.rd e_1)) ?_
  rintro _ h2 ⟨v, rfl, H2⟩
  rw [show ((96 : Nat) : Int) = 96 from rfl] at H2
  have G := gZ (m := 96) Z.H.nn
  rw [kG hz] at H2 G
  refine QZ ?_
  with_reducible (refine qK ?_)
  refine jW H2 (b := b) (off := 0) e_1 rfl (by omega) rfl ?_
  refine qJ (QW (c := c) (by omega) H2 hw) ?_
  rintro _ h3 ⟨rfl, H3⟩
  rw [hj]
  refine qU (by omega) ?_
  rw [show ((6 : Nat) : Int) + (j : Int) = p by omega]
  refine jW H3 (b := b) (off := 0) e_1 rfl (by omega) rfl ?_
  obtain ⟨k1, k2⟩ := wn hz
  obtain ⟨it, er, C', F', CO⟩ := Gd Z hw ⟨hkb1, hkb2⟩ ⟨hxb1, hxb2⟩
  obtain ⟨sd1, sd2⟩ := gV (k := c.2.2.1.tmod 12) (x := c.2.2.2.tmod 12) (nd := 0) Z k1
  refine qJ (YR (c := c) (by omega) H3 G rfl (by omega) hw hkk hxx (CO.run _ _ k1).1 sd1 (fun l h _ => sd2 l h)) ?_
  rintro _ h4 ⟨rfl, H4⟩
  have hrun : gu (Mv (kW zs) 0) p c.1 (c.2.2.1.tmod 12) (c.2.2.2.tmod 12) = (it, er, if er = 0 then lvV 256 (kW zs) C' F' 0 else Mv (kW zs) 0) := by
    rcases (CO.run (kW zs) 0 k1).2 with ⟨q, h1, h2, _, h3, _⟩ | h
    · exact absurd h3 (k2 q h1 h2)
    · exact h
  rw [hrun] at H4 ⊢
  dsimp only at H4 ⊢
  clear H H1 H2 H3
  with_reducible (refine qy (by with_unfolding_all exact rfl) ?_; refine qy (by with_unfolding_all exact rfl) ?_)
  refine jx H4 rfl fun bx h5 H5 => ?_
  refine js H5 (b := bx) .here rfl (by simp) rfl fun h6 H6 => ?_
  have H6 : HS g h6 (qg bx (vv it) :: ViewC v (if er = 0 then lvV 256 (kW zs) C' F' 0 else Mv (kW zs) 0) :: qg b (zd c) :: qS e 1 zs.length wv (zs.map (.int .u64)) :: qg o xs :: xY vj (inr t) :: R) := H6
  clear H4 H5
  rcases CO.out with ⟨rfl, hfull⟩ | ⟨rfl, hb5, ht, t2, hrow, hF⟩
  · rw [if_neg (by omega)] at H6
    refine jk rfl ?_
    refine qk ?_
    refine qh ?_
    refine jg H6 e_3 ?_
    with_reducible (refine vO (by omega) ?_; refine qR ?_; refine qk ?_; (try dsimp only); refine qh ?_; (try dsimp only))
    refine xe (i := 5) (H6.sl e_3) (YD (by omega)) ?_
    refine x9 (by omega) ?_
    refine jg H6 e_3 ?_
    with_reducible (refine xJ (by omega) ?_; refine vO (by omega) ?_; refine qR ?_; refine qx ?_)
    refine qJ (xf (by omega) (H6.sel e_1) G.ok) fun cv h7 H7 => ?_
    rw [show jY (Mv (kW zs) 0).lv = [] from rfl] at H7
    refine jg H7 .here ?_
    rw [show ([] : List Cl).length = 0 from rfl]
    with_reducible (refine jk (by omega) ?_; refine qk ?_; (try dsimp only); refine qh ?_; (try dsimp only))
    refine qJ (vp (by omega) (H7.sel e_1) G.ok) fun fv h8 H8 => ?_
    rw [show zE (Mv (kW zs) 0).lv = [] from rfl] at H8
    refine jg H8 .here ?_
    rw [show ([] : List Int).length = 0 from rfl]
    with_reducible (refine jk (by omega) ?_; refine qR ?_; refine qk ?_; (try dsimp only); refine qh ?_; (try dsimp only))
    refine qJ (QY (by omega) (H8.sel e_1)) ?_
    rintro _ h9 ⟨rfl, rfl⟩
    rw [show ((Mv (kW zs) 0).lv.length : Int) = ((1 : Nat) : Int) from rfl]
    with_reducible (refine jk (by omega) ?_; refine qR ?_)
    refine qz ⟨wv, e, zs, t, vj, rfl, Z, Xw (xb H8 e_7), Int.le_refl _, ?_⟩
    rw [vr hx]
    exact H8.sub (.cons e_5 (.cons e_5 (.cons e_5 (.drop (.drop (.drop (.drop (.drop (.refl)))))))))
  · rw [if_pos rfl] at H6
    have GO := YT (W := []) (F := F') G CO.un CO.ins CO.few (CO.wd rfl) (by rcases hF with ⟨rfl, _⟩ | ⟨a, rfl, _⟩ <;> simp)
    with_reducible (refine qp (by omega) ?_; refine qk ?_; (try dsimp only); refine jy ?_; (try dsimp only); refine qb ?_; refine qk ?_; (try dsimp only); refine jy ?_; (try dsimp only); refine qb ?_; refine qK ?_)
    refine jW H6 (b := b) (off := 0) e_2 rfl (by omega) rfl ?_
    refine qJ (qVA (c := c) (j := j) (by omega) (H6.sub (L' := qg o xs :: xY vj (inr t) :: qg bx (vv it) :: ViewC v (lvV 256 (kW zs) C' F' 0) :: qg b (zd c) :: qS e 1 zs.length wv (zs.map (.int .u64)) :: R) (.cons e_4 (.cons e_4 (.cons .here (.cons .here (.cons .here (.cons .here .refl))))))) hl hx hj hw (by omega) hsrt) ?_
    rintro _ h7 ⟨v', rfl, ov, H7⟩
    rw [← hrow] at H7
    rw [← ht]
    with_reducible (refine qy (by with_unfolding_all exact rfl) ?_; refine qy (by with_unfolding_all exact rfl) ?_)
    refine jx H7 rfl fun by_ h8 H8 => ?_
    refine js H8 (b := by_) .here rfl (by simp) rfl fun h9 H9 => ?_
    have H9 : HS g h9 (qg by_ (vv it) :: qg o (xs.set j v') :: xY v' (inr t2) :: qg bx (vv it) :: ViewC v (lvV 256 (kW zs) C' F' 0) :: qg b (zd c) :: qS e 1 zs.length wv (zs.map (.int .u64)) :: R) := H9
    clear H6 H7 H8
    have hW : ∃ Wr, ((F' = [] ∧ Wr = jK zs C') ∨ ∃ a c2, F' = [a] ∧ kS (zk (jK zs C') 96) a = (0, yK (jK zs C') 96 c2 []) ∧ c2.length ≤ 2 ∧ Wr = jK (jK zs C') c2) ∧ xI Wr 256 [] p t2 p' t' ∧ qG (jK zs C') 5 ≤ qG Wr 5 := by
      rcases hF with ⟨h1, h2⟩ | ⟨a, h1, h2⟩
      · exact ⟨_, .inl ⟨h1, rfl⟩, h2, Int.le_refl _⟩
      · have hg := ON h2
        exact ⟨_, .inr ⟨a, _, h1, hg.1, by simp, rfl⟩, hg.2.1, hg.2.2⟩
    have hnA : ∀ z ∈ jK zs C', 0 ≤ z ∧ z < 18446744073709551616 := yl Z.H.nn (CO.wd rfl)
    obtain ⟨Wr, hWr, Z2, hb6⟩ := hW
    have Z2z := Z2.H.size.2.2
    obtain ⟨w1, w2⟩ := wn Z2z
    obtain ⟨a1, a2⟩ := OS (lo := 0) (hi := 18446744073709551615) Z2
    rw [qKF Z2.A.key (by omega)] at a2
    have hfew2 := Z2.A.few
    rw [XF] at hfew2
    have GW := gZ (m := 96) Z2.H.nn
    rw [kG Z2z] at GW
    with_reducible (refine jE (by omega) ?_; refine qk ?_; (try dsimp only); refine jJ ?_; (try dsimp only); refine qk ?_; (try dsimp only); refine qh ?_; (try dsimp only))
    refine jW H9 (b := bx) (off := 0) e_3 rfl (by omega) rfl ?_
    refine jW H9 (b := by_) (off := 0) .here rfl (by omega) rfl ?_
    refine JW (qKa it it) (fun _ => ?_) (fun h => absurd rfl h)
    rw [show (!true) = false from rfl]
    with_reducible (refine qk ?_; (try dsimp only); refine jJ ?_; (try dsimp only); refine qR ?_; refine qb ?_; refine qk ?_; (try dsimp only); refine jJ ?_; (try dsimp only); refine jb ?_; refine qk ?_; (try dsimp only); refine jy ?_; (try dsimp only); refine qk ?_; (try dsimp only); refine jJ ?_; (try dsimp only); refine qb ?_; refine qb ?_; refine qk ?_; (try dsimp only); refine jJ ?_; (try dsimp only))
    refine qJ (QY (by omega) (H9.sel e_4)) ?_
    rintro _ h10 ⟨rfl, rfl⟩
    rw [show ((lvV 256 (kW zs) C' F' 0).lv.length : Int) = ((1 : Nat) : Int) from rfl]
    with_reducible (refine jE (by omega) ?_; refine qb ?_; refine qK ?_)
    refine qJ (NG (zs := zs) (Wr := Wr) (cs := C') (F := F') (by omega) (H9.sub (L' := ViewC v (lvV 256 (kW zs) C' F' 0) :: qS e 1 zs.length wv (zs.map (.int .u64)) :: qg o (xs.set j v') :: xY v' (inr t2) :: qg b (zd c) :: R) (.cons e_4 (.cons e_5 (.cons e_1 (.cons e_1 (.cons e_2 (.drop (.drop .refl)))))))) (Rd.own .here) GO hnA rfl (by have := CO.few; omega) (by show [(C', F')].reverse.flatMap (·.2) = F'; simp) hWr) ?_
    rintro _ h11 ⟨wv2, e2, rfl, H11⟩
    with_reducible (refine qy (by with_unfolding_all exact rfl) ?_; refine qy (by with_unfolding_all exact rfl) ?_)
    refine qJ (ww (zs := Wr) (m := ((96 : Nat) : Int)) (by omega) H11 (H11.rd .here)) ?_
    rintro _ h12 ⟨u, rfl, H12⟩
    rw [show ((96 : Nat) : Int) = 96 from rfl, kG Z2z] at H12
    with_reducible (refine jb ?_; refine qk ?_; (try dsimp only); refine jJ ?_; (try dsimp only))
    refine QZ ?_
    with_reducible (refine qb ?_; refine qK ?_)
    refine qJ (qZ4 (l := inr t2) (by omega) H12 GW rfl (by omega) (by rw [a1]) a2) ?_
    rintro _ h13 ⟨pv, rfl, H13⟩
    rw [a1] at H13
    have H13 : HS g h13 (Qx pv (inr t2) :: ViewC u (Mv (kW Wr) 0) :: qS e2 1 Wr.length wv2 (Wr.map (.int .u64)) :: qS e 1 zs.length wv (zs.map (.int .u64)) :: qg o (xs.set j v') :: xY v' (inr t2) :: qg b (zd c) :: R) := H13
    with_reducible (refine qy (by with_unfolding_all exact rfl) ?_; refine qy (by with_unfolding_all exact rfl) ?_; refine jk (by omega) ?_; refine qk ?_; (try dsimp only); refine qh ?_; (try dsimp only))
    refine jW H13 (b := b) (off := 0) e_6 rfl (by omega) rfl ?_
    refine qJ (QW (c := c) (by omega) H13 hw) ?_
    rintro _ h14 ⟨rfl, H14⟩
    rw [hj]
    with_reducible (refine qC ?_; refine qZ ?_)
    refine gU (i := j) hj8 ?_
    rw [show 0 + j * 1 = j by omega]
    refine qv (x := v') H14 e_4 (by rw [List.getElem?_set, if_pos rfl, if_pos (by omega)]) ?_
    refine qJ (qQ5 (xs := inr t2) (ys := inr t2) (by omega) (HS.sl (e := 78) H14 .here) (xb H14 e_5) (by omega)) ?_
    rintro _ h15 ⟨rfl, rfl⟩
    rw [decide_eq_true rfl]
    with_reducible (refine qR ?_; refine qk ?_; (try dsimp only); refine qh ?_; (try dsimp only))
    refine qJ (xf (by omega) (H14.sel e_1) GW.ok) fun cv h16 H16 => ?_
    rw [show jY (Mv (kW Wr) 0).lv = [] from rfl] at H16
    refine jg H16 .here ?_
    rw [show ([] : List Cl).length = 0 from rfl]
    with_reducible (refine jk (by omega) ?_; refine qR ?_)
    exact qz ⟨wv2, e2, Wr, t2, v', rfl, Z2, ov, by omega, H16.sub (.cons e_3 (.cons e_4 (.cons e_4 (.drop (.drop (.drop (.drop (.drop .refl))))))))⟩
theorem HY.blocks {W : List Int} {T : Nat} {L fr : List Int} (H : HY W T L fr) : ∃ bts, XB W = some bts ∧ (bts.filter (·.2.2)).length ≤ L.length ∧ (Vf W).isSome ∧ bts.length ≤ 100 ∧ (∀ b ∈ bts, 15 ≤ b.1 ∧ b.1 + jf b.2.1 ≤ T ∧ (1 ≤ b.2.1 ∧ b.2.1 ≤ 4) ∧ (b.2.2 = true ↔ b.1 ∈ L)) ∧ (∀ y ∈ L, (y, 2, true) ∈ bts) ∧
    (∀ b ∈ bts, ∀ d ∈ bts, b = d ∨ b.1 + jf b.2.1 + 1 ≤ d.1 ∨ d.1 + jf d.2.1 + 1 ≤ b.1) := by
  obtain ⟨sts, bs, ls, H⟩ := H
  have P := H.P
  have hle := P.tile.le
  have hbu := P.bump
  have hhi := P.hi
  have hmem : ∀ b ∈ bs, 15 ≤ b.1 ∧ b.1 + jf b.2 ≤ T ∧ (1 ≤ b.2 ∧ b.2 ≤ 4) ∧ (qG sts b.1.toNat = 1 ↔ b.1 ∈ L) := by
    intro b hb
    have h1 := P.tile.mem b hb
    refine ⟨by omega, by omega, h1.2.1, fun hs => H.live b hb hs, fun hL => (H.own _ hL).2⟩
  refine ⟨_, P.blocks, ?_, by rw [P.lists]; rfl, by rw [List.length_map]; omega, ?_, ?_, ?_⟩
  · have hnd := P.tile.nodup
    have e : ((bs.map (kM sts)).filter (·.2.2)).length = (((bs.map (kM sts)).filter (·.2.2)).map (·.1)).length := by rw [List.length_map]
    rw [e]
    refine qZs ?_ ?_
    · have hs : (((bs.map (kM sts)).filter (·.2.2)).map (·.1)).Sublist ((bs.map (kM sts)).map (·.1)) := (List.filter_sublist ..).map _
      refine hs.nodup ?_
      rw [List.map_map]
      exact hnd
    · intro x hx
      obtain ⟨b, hb, rfl⟩ := List.mem_map.1 hx
      rw [List.mem_filter] at hb
      obtain ⟨d, hd, rfl⟩ := List.mem_map.1 hb.1
      exact (hmem d hd).2.2.2.1 (of_decide_eq_true hb.2)
  · intro b hb
    obtain ⟨d, hd, rfl⟩ := List.mem_map.1 hb
    have h1 := hmem d hd
    refine ⟨h1.1, h1.2.1, h1.2.2.1, ?_⟩
    show decide _ = true ↔ _
    rw [decide_eq_true_iff]
    exact h1.2.2.2
  · intro y hy
    have h1 := H.own y hy
    refine List.mem_map.2 ⟨_, h1.1, ?_⟩
    unfold kM
    dsimp only
    rw [h1.2]; rfl
  · intro b hb d hd
    obtain ⟨b', hb', rfl⟩ := List.mem_map.1 hb
    obtain ⟨d', hd', rfl⟩ := List.mem_map.1 hd
    rcases P.tile.far2 b' hb' d' hd' with h | h | h
    · exact .inl (by rw [h])
    · exact .inr (.inl h)
    · exact .inr (.inr h)
end Go.Proofs.YtpohfcljfemhlaaGreat.arenaParts
namespace Go.Proofs.YtpohfcljfemhlaaGreat.arenaParts
open Go Go.Ae arenaPlays
set_option maxRecDepth 100000
variable {g h : AH} {L R : List SP}
theorem OA {n : Nat} (hn : 2120 ≤ n) {o : Nat} {xs : List AV} {v4 v5 wv : AV} {e : TypeId} {zs : List Int} {t0 t1 : Tr} {c : gT}
    (H : HS g h (qS e 1 zs.length wv (zs.map (.int .u64)) :: qg o xs :: xY v4 (inr t0) :: xY v5 (inr t1) :: R)) (Z : xI zs 256 [] 12 t0 13 t1) (hl : xs.length = 8) (hx4 : xs[6]? = some v4) (hx5 : xs[7]? = some v5) (hw : 9 ≤ c.1 ∧ c.1 ≤ 12) (hkk : 0 ≤ c.2.2.1 ∧ 0 ≤ c.2.2.2) :
    wp (qw tab qI n (.fn 8 [] []) [wv, .ptr o 0, .agg (zd c)] h) fun r h' => ∃ wv' e' zs' t0' t1' xs' v4' v5', r = .tup [wv', .bool true] ∧ xI zs' 256 [] 12 t0' 13 t1' ∧ xs'.length = 8 ∧ xs'[6]? = some v4' ∧ xs'[7]? = some v5' ∧
      (j0 c.2.1 0 1 = 0 → t1' = t1) ∧ (j0 c.2.1 0 1 = 1 → t0' = t0) ∧ qG zs 5 ≤ qG zs' 5 ∧
      HS g h' (qS e' 1 zs'.length wv' (zs'.map (.int .u64)) :: qg o xs' :: xY v4' (inr t0') :: xY v5' (inr t1') :: R) := by
  have hb := xu c.2.1 (show (0 : Int) ≤ 1 by omega)
  by_cases h0 : j0 c.2.1 0 1 = 0
  · refine wp.mono (UF (j := 6) hn H Z hl hx4 (by rw [h0]; rfl) (by omega) hw hkk.1 hkk.2) ?_
    rintro r h1 ⟨wv', e', zs', t2, v', rfl, Z2, ov, b5, H1⟩
    exact ⟨wv', e', zs', t2, t1, _, v', v5, rfl, Z2, by rw [List.length_set]; exact hl, by rw [List.getElem?_set, if_pos rfl, if_pos (by omega)], by rw [List.getElem?_set, if_neg (by omega)]; exact hx5, fun _ => rfl, fun h => by omega, b5, H1⟩
  · have h1 : j0 c.2.1 0 1 = 1 := by omega
    refine wp.mono (UF (j := 7) hn (H.sub (L' := qS e 1 zs.length wv (zs.map (.int .u64)) :: qg o xs :: xY v5 (inr t1) :: xY v4 (inr t0) :: R) (.cons .here (.cons .here (.cons e_1 (.cons .here .refl))))) Z.swap hl hx5 (by rw [h1]; rfl) (by omega) hw hkk.1 hkk.2) ?_
    rintro r h2 ⟨wv', e', zs', t2, v', rfl, Z2, ov, b5, H1⟩
    exact ⟨wv', e', zs', t0, t2, _, v4, v', rfl, Z2.swap, by rw [List.length_set]; exact hl, by rw [List.getElem?_set, if_neg (by omega)]; exact hx4, by rw [List.getElem?_set, if_pos rfl, if_pos (by omega)], fun h => by omega, fun _ => rfl, b5,
      H1.sub (.cons .here (.cons .here (.cons e_1 (.cons .here .refl))))⟩
structure KnK (zs : List Int) (K : List Cl) : Prop where
  sub : V6 zs K
  un : UnC K
  ins : ∀ c ∈ K, 1 ≤ c.1 ∧ c.1 < 256
  wd : WdC K
theorem KnK.nil {zs : List Int} : KnK zs [] := ⟨fun p x h => (by cases h), List.nodup_nil, fun c h => (by cases h), fun c h => (by cases h)⟩
theorem KnK.good {zs : List Int} {K : List Cl} (k : KnK zs K) (nd : Int) : jC (Mv K nd) :=
  ⟨⟨by show 32 ≤ 256; omega, by show 256 ≤ 256; omega, G1 (show (96 : Nat) ≤ 96 by omega), k.ins, k.un, fun y hy => by rw [List.mem_singleton.1 hy]; show (0 : Nat) < 100000; omega⟩, ⟨k.wd, fun y hy c hc => by rw [List.mem_singleton.1 hy] at hc; cases hc⟩⟩
theorem KnK.len {zs : List Int} {K : List Cl} (k : KnK zs K) : K.length ≤ 255 := by
  have h1 : (K.map (·.1 - 1)).Nodup := by
    have e : K.map (·.1 - 1) = (K.map (·.1)).map (· - 1) := by rw [List.map_map]; rfl
    rw [e]
    have key : ∀ l : List Int, l.Nodup → (l.map (· - 1)).Nodup := by
      intro l
      induction l with
      | nil => intro _; exact List.nodup_nil
      | cons a l ih =>
        intro hn
        rw [List.nodup_cons] at hn
        rw [List.map_cons, List.nodup_cons]
        refine ⟨fun hm => ?_, ih hn.2⟩
        obtain ⟨x, hx, he⟩ := List.mem_map.1 hm
        have : x = a := by omega
        subst this
        exact hn.1 hx
    exact key _ k.un
  have := Yw 255 _ h1 fun x hx => by
    obtain ⟨c, hc, rfl⟩ := List.mem_map.1 hx
    have := k.ins c hc
    omega
  rwa [List.length_map] at this
theorem KnK.add {zs : List Int} {K : List Cl} {q : Int} (k : KnK zs K) (hz : ∀ z ∈ zs, 0 ≤ z ∧ z < 18446744073709551616) (h1 : 1 ≤ q) (h2 : q < 256) (hn : jF q K = none) : KnK zs (K ++ [(q, qG zs q.toNat)]) := by
  have hp : K ++ [(q, qG zs q.toNat)] = zo q (qG zs q.toNat) K := (wM hn).symm
  refine ⟨fun p x h => ?_, ?_, fun c hc => ?_, fun c hc => ?_⟩
  · rw [hp, Jv] at h
    split at h
    · rename_i e; subst e; exact (Option.some.inj h).symm
    · exact k.sub p x h
  · rw [hp]; exact k.un.put
  · rcases List.mem_append.1 hc with hc | hc
    · exact k.ins c hc
    · rw [List.mem_singleton] at hc; subst hc; exact ⟨h1, h2⟩
  · rcases List.mem_append.1 hc with hc | hc
    · exact k.wd c hc
    · rw [List.mem_singleton] at hc; subst hc; exact wS hz _
theorem qJ8 {zs : List Int} {K : List Cl} {q nd : Int} (h1 : 1 ≤ q) (h2 : q < 256) (hn : jF q K = none) : gg (Mv K nd) q (qG zs q.toNat) = (0, Mv (K ++ [(q, qG zs q.toNat)]) nd) := by
  unfold gg
  rw [if_pos (show 1 ≤ q ∧ q < ((Mv K nd).sz : Int) from ⟨h1, h2⟩), show (Mv K nd).K = K from rfl, hn]; rfl
theorem qK4 : V4 ((256 : Nat) : Int) ((96 : Nat) : Int) = Mv [] 0 := rfl
end Go.Proofs.YtpohfcljfemhlaaGreat.arenaParts
namespace Go.Proofs.YtpohfcljfemhlaaGreat.treeNeeds
open Go Go.Ae arenaPlays arenaParts
set_option maxRecDepth 100000
variable {g h : AH} {L R : List SP}
theorem law {k : Nat} (hk : 2200 ≤ k) {a0 : AV} {cc : gT} {l : List gT} (S : Sl (fun b => b < h.nx) h 4 l.length a0 (l.flatMap zd)) (hp : ∀ c ∈ l, 0 ≤ c.2.2.1 ∧ 0 ≤ c.2.2.2) (hcc : 0 ≤ cc.2.2.1 ∧ 0 ≤ cc.2.2.2) :
    wp (W3 (y9 6 (qw tab qI k)) [a0, .agg (zd cc)] h) fun v _ => v = .bool true := by
  show wp (S3 (y9 _ (qw tab qI _)) _ _ _) _
  unfold S3
  try simp only [iI, uU, Int.ofNat_eq_natCast]
  refine jx (HS.nil h) rfl fun b h0 H0 => ?_
  have H0 : HS h h0 (qg b (zd cc) :: []) := H0
  refine qVD ?_
  with_reducible (refine jb ?_; refine qK ?_)
  refine j4 (by decide) (Y8 (by omega) H0) ?_
  rintro wv h1 ⟨e1, H⟩
  refine ql (l := [.nils, .nils, .nils, .nils, .nils, .nils, .nils, .nils]) rfl ?_
  refine jx H rfl fun o h2 H2 => ?_
  have H2 := ((H2.nils (e := 78) (sz := 2)).nils (e := 78) (sz := 2)).sub (L' := qS e1 1 (zr 256).length wv ((zr 256).map (.int .u64)) :: qg o [.nils, .nils, .nils, .nils, .nils, .nils, .nils, .nils] ::
    qS 78 2 0 .nils [] :: qS 78 2 0 .nils [] :: qg b (zd cc) :: []) (.cons e_3 (.cons e_2 (.cons .here (.cons .here .refl))))
  refine jh (fun m s h' => ∃ (i : Nat) (zs : List Int) (wv v4 v5 : AV) (e : TypeId) (t0 t1 : Tr) (xs : List AV), s = (.int .i64 (i : Int), .ptr o 0, wv, .ptr b 0, a0, ()) ∧ i ≤ 20 ∧ m = 20 - i ∧ xI zs 256 [] 12 t0 13 t1 ∧ xs.length = 8 ∧ xs[6]? = some v4 ∧ xs[7]? = some v5 ∧
    HS h h' (qS e 1 zs.length wv (zs.map (.int .u64)) :: qg o xs :: xY v4 (inr t0) :: xY v5 (inr t1) :: qg b (zd cc) :: []))
    ?_ (m := 20) (by show 20 < 1000000000; omega) ⟨0, zr 256, wv, .nils, .nils, e1, .nil, .nil, [.nils, .nils, .nils, .nils, .nils, .nils, .nils, .nils], rfl, by omega, by omega, VJ, rfl, rfl, rfl, H2⟩
  clear H H2 H0
  rintro m ih s h3 hih ⟨i, zs, wv, v4, v5, e, t0, t1, xs, rfl, hi, rfl, Z, hl, hx4, hx5, H⟩
  dsimp only
  have Sa : Sl (fun _ => True) h3 4 l.length a0 (l.flatMap zd) := (Rd.arg (L := []) S).sl H.drop.drop.drop.drop.drop
  refine zO Sa (wJ ?_)
  refine Xg (fun s g' => ∃ (q : AV) (u x : Bool), s = (q, .bool u, .int .i64 (i : Int), .ptr o 0, wv, .ptr b 0, a0, ()) ∧ g' = h3 ∧ (u = true → q = .bool x) ∧ ((u && x) = decide (i < l.length ∧ i < 20))) ?_ ?_
  · intro j hj
    refine XC (fun hl => wJ (hj _ _ ⟨_, _, decide (i < 20), rfl, rfl, fun _ => (by congr 1; exact decide_eq_decide.2 (by omega)), ?_⟩)) (fun hl => hj _ _ ⟨_, _, false, rfl, rfl, fun h => absurd (of_decide_eq_true h) hl, ?_⟩)
    · have hl' : i < l.length := by omega
      simp [hl']
    · have hl' : ¬ i < l.length := by omega
      simp [hl']
  rintro s h3 ⟨q, u, x, rfl, rfl, hq, hux⟩
  refine gp hq ?_
  rw [hux]
  dsimp only
  refine XH (fun hic => ?_) fun hic => ?_
  · have hci : l[i]? = some l[i] := List.getElem?_eq_getElem hic.1
    have hpc := hp l[i] (List.getElem_mem hic.1)
    refine z7 (l := zd l[i]) Sa hic.1 (by omega) (k0 (sz := 4) (fun _ => rfl) hci) ?_
    generalize l[i] = c at *
    refine j4 (by decide) (Ug (by omega) H) ?_
    rintro _ h5 ⟨rfl, H5⟩
    have hwb := xu c.1 (show (9 : Int) ≤ 12 by omega)
    refine j4 (by decide) (OA (c := (j0 c.1 9 12, c.2)) (by omega) H5 Z hl hx4 hx5 (by dsimp only; omega) hpc) ?_
    rintro _ h9 ⟨wv2, e2, zs2, t0', t1', xs', v4', v5', rfl, Z2, hl2, q4, q5, _, _, _, H9⟩
    with_reducible (refine qy (by with_unfolding_all exact rfl) ?_; refine qy (by with_unfolding_all exact rfl) ?_; refine jb ?_; refine qK ?_; refine qU (by omega) ?_)
    exact hih (20 - (i + 1)) _ _ (by omega) ⟨i + 1, zs2, wv2, v4', v5', e2, t0', t1', xs', rfl, by omega, rfl, Z2, hl2, q4, q5, H9⟩
  clear hih hux hq hic Sa hi
  have hz := Z.H.size.2.2
  refine jW H (b := b) (off := 0) e_4 rfl (by omega) rfl ?_
  refine j4 (by decide) (Ug (c := cc) (by omega) H) ?_
  rintro _ h5 ⟨rfl, H5⟩
  have hwb := xu cc.1 (show (9 : Int) ≤ 12 by omega)
  have hrb := xu cc.2.1 (show (0 : Int) ≤ 1 by omega)
  refine js H5 (b := b) e_4 rfl (by simp [zd]) rfl fun h6 H6 => ?_
  obtain ⟨c, hc⟩ : ∃ c : gT, c = (j0 cc.1 9 12, cc.2) := ⟨_, rfl⟩
  have H6 : HS h h6 (qg b (zd (j0 cc.1 9 12, cc.2)) :: qS e 1 zs.length wv (zs.map (.int .u64)) :: qg o xs :: xY v4 (inr t0) :: xY v5 (inr t1) :: []) := H6
  rw [← hc] at H6
  have hw : 9 ≤ c.1 ∧ c.1 ≤ 12 := by rw [hc]; dsimp only; omega
  have hkk : 0 ≤ c.2.2.1 ∧ 0 ≤ c.2.2.2 := by rw [hc]; exact hcc
  have hrb : 0 ≤ j0 c.2.1 0 1 ∧ j0 c.2.1 0 1 ≤ 1 := by rw [hc]; exact hrb
  clear H H5 hc
  have hkb1 := Int.tmod_nonneg 12 hkk.1
  have hkb2 := Int.tmod_lt_of_pos c.2.2.1 (show (0 : Int) < 12 by omega)
  have hxb1 := Int.tmod_nonneg 12 hkk.2
  have hxb2 := Int.tmod_lt_of_pos c.2.2.2 (show (0 : Int) < 12 by omega)
  refine jW H6 (b := b) (off := 0) .here rfl (by omega) rfl ?_
  refine j4 (by decide) (QW (c := c) (by omega) H6 hw) ?_
  rintro _ h7 ⟨rfl, H7⟩
  refine qU (by omega) ?_
  obtain ⟨p, hpe⟩ : ∃ p, ((6 : Nat) : Int) + (6 + j0 c.2.1 0 1) = p := ⟨_, rfl⟩
  rw [hpe]
  obtain ⟨tt, p', tt', ZP⟩ : ∃ tt p' tt', xI zs 256 [] p tt p' tt' := by
    by_cases h0 : j0 c.2.1 0 1 = 0
    · obtain rfl : p = 12 := by omega
      exact ⟨_, _, _, Z⟩
    · obtain rfl : p = 13 := by omega
      exact ⟨_, _, _, Z.swap⟩
  obtain ⟨it, er, C', F', CO⟩ := Gd ZP hw ⟨hkb1, hkb2⟩ ⟨hxb1, hxb2⟩
  refine jg H7 e_1 ?_
  rw [hz]
  refine j4 (by decide) (KG (by omega) H7) ?_
  rintro _ h8 ⟨v, rfl, H8⟩
  rw [qK4] at H8
  refine j4 (by decide) (ww (zs := zs) (m := ((96 : Nat) : Int)) (by omega) H8 (H8.rd e_2)) ?_
  rintro _ h9 ⟨u, rfl, H9⟩
  rw [show ((96 : Nat) : Int) = 96 from rfl, kG hz] at H9
  have G := gZ (m := 96) Z.H.nn
  rw [kG hz] at G
  obtain ⟨k1, k2⟩ := wn hz
  have hrun : gu (Mv (kW zs) 0) p c.1 (c.2.2.1.tmod 12) (c.2.2.2.tmod 12) = (it, er, if er = 0 then lvV 256 (kW zs) C' F' 0 else Mv (kW zs) 0) := by
    rcases (CO.run (kW zs) 0 k1).2 with ⟨q, h1, h2, _, h3, _⟩ | h
    · exact absurd h3 (k2 q h1 h2)
    · exact h
  refine QZ ?_
  with_reducible (refine qk ?_; (try dsimp only); refine jJ ?_; (try dsimp only))
  refine QZ ?_
  with_reducible (refine qb ?_; refine qK ?_)
  refine jW H9 (b := b) (off := 0) e_2 rfl (by omega) rfl ?_
  refine j4 (by decide) (YR (c := c) (by omega) H9 G rfl (by omega) hw hkk.1 hkk.2 (CO.run _ _ k1).1 (gV (x := 0) ZP k1).1 (fun l h _ => (gV (k := c.2.2.1.tmod 12) ZP k1).2 l h)) ?_
  rintro _ h10 ⟨rfl, H10⟩
  rw [hrun] at H10 ⊢
  dsimp only at H10 ⊢
  with_reducible (refine qy (by with_unfolding_all exact rfl) ?_; refine qy (by with_unfolding_all exact rfl) ?_)
  refine jx H10 rfl fun by_ h11 H11 => ?_
  refine js H11 (b := by_) .here rfl (by simp) rfl fun h12 H12 => ?_
  have GU : jC (if er = 0 then lvV 256 (kW zs) C' F' 0 else Mv (kW zs) 0) := by
    split
    · rename_i he
      refine YT (W := []) (F := F') G CO.un CO.ins CO.few (CO.wd he) ?_
      rcases CO.out with ⟨h, _⟩ | ⟨_, _, _, _, _, hF⟩
      · omega
      · rcases hF with ⟨rfl, _⟩ | ⟨a, rfl, _⟩ <;> simp
    · exact G
  generalize hU : (if er = 0 then lvV 256 (kW zs) C' F' 0 else Mv (kW zs) 0) = U at *
  have H12 : HS h h12 (ViewC v (Mv [] 0) :: ViewC u U :: qg by_ (vv it) :: qg b (zd c) :: qS e 1 zs.length wv (zs.map (.int .u64)) :: []) := H12.sub (.cons e_2 (.cons e_1 (.cons .here (.cons .here (.cons .here (.drop (.drop (.drop .refl))))))))
  clear H6 H7 H8 H9 H10 H11
  refine jh (fun m s h' => ∃ (i : Nat) (K : List Cl) (nd : Int), s = (.int .i64 (i : Int), .int .i64 er, .ptr by_ 0, .ptr u 0, .ptr v 0, .int .i64 p, wv, .ptr b 0, ()) ∧ i ≤ 256 ∧ m = 256 - i ∧ K.length = i ∧ KnK zs K ∧
    HS h h' (ViewC v (Mv K nd) :: ViewC u U :: qg by_ (vv it) :: qg b (zd c) :: qS e 1 zs.length wv (zs.map (.int .u64)) :: []))
    ?_ (m := 256) (by show 256 < 1000000000; omega) ⟨0, [], 0, rfl, by omega, by omega, rfl, KnK.nil, H12⟩
  clear H12
  rintro m ih2 s h13 hih2 ⟨i, K, nd, rfl, hi, rfl, hKl, KK, H⟩
  dsimp only
  have hK255 := KK.len
  have GK := KK.good nd
  refine xg (by omega) (qx ?_)
  refine jW H (b := b) (off := 0) e_3 rfl (by omega) rfl ?_
  refine j4 (by decide) (YR (c := c) (by omega) H GK rfl (by omega) hw hkk.1 hkk.2 (CO.run _ _ KK.sub).1 (gV (x := 0) ZP KK.sub).1 (fun l h _ => (gV (k := c.2.2.1.tmod 12) ZP KK.sub).2 l h)) ?_
  rintro _ h14 ⟨rfl, H14⟩
  have hne := CO.ne
  rcases (CO.run K nd KK.sub).2 with ⟨q, g1, g2, _, g3, it', g4⟩ | g4
  · have g4 : gu (Mv K nd) p c.1 (c.2.2.1.tmod 12) (c.2.2.2.tmod 12) = (it', 11, Mv K q) := g4
    rw [g4] at H14 ⊢
    dsimp only at H14 ⊢
    with_reducible (refine qy (by with_unfolding_all exact rfl) ?_; refine qy (by with_unfolding_all exact rfl) ?_)
    refine jx H14 rfl fun bx h15 H15 => ?_
    refine js H15 (b := bx) .here rfl (by simp) rfl fun h16 H16 => ?_
    with_reducible (refine jE (by omega) ?_; refine qK ?_)
    have H16 : HS h h16 (ViewC v (Mv K q) :: ViewC u U :: qg by_ (vv it) :: qg b (zd c) :: qS e 1 zs.length wv (zs.map (.int .u64)) :: []) := H16.drop
    have GQ := KK.good q
    refine j4 (by decide) (Uu (by omega) H16) ?_
    rintro _ h17 ⟨rfl, rfl⟩
    rw [show (Mv K q).need = q from rfl]
    obtain ⟨p2, rfl⟩ : ∃ p2 : Nat, q = (p2 : Int) := ⟨q.toNat, by omega⟩
    with_reducible (refine zB (by omega) ?_; refine qk ?_; (try dsimp only); refine jJ ?_; (try dsimp only); refine jg (by assumption) e_4 ?_; refine zh (by omega) ?_; refine qb ?_; refine qk ?_; (try dsimp only); refine jJ ?_; (try dsimp only))
    refine j4 (by decide) (xf (by omega) H16 GQ.ok) fun cv h18 H18 => ?_
    rw [show jY (Mv K (p2 : Int)).lv = [] from rfl] at H18
    refine jg H18 .here ?_
    rw [show ([] : List Cl).length = 0 from rfl]
    with_reducible (refine jE (by omega) ?_; refine qb ?_; refine qk ?_; (try dsimp only); refine jJ ?_; (try dsimp only))
    refine j4 (by decide) (vp (by omega) H18.drop GQ.ok) fun fv h19 H19 => ?_
    rw [show zE (Mv K (p2 : Int)).lv = [] from rfl] at H19
    refine jg H19 .here ?_
    rw [show ([] : List Int).length = 0 from rfl]
    with_reducible (refine jE (by omega) ?_; refine qb ?_; refine qk ?_; (try dsimp only); refine jJ ?_; (try dsimp only))
    refine j4 (by decide) (QY (by omega) H19.drop) ?_
    rintro _ h20 ⟨rfl, rfl⟩
    rw [show ((Mv K (p2 : Int)).lv.length : Int) = ((1 : Nat) : Int) from rfl]
    with_reducible (refine jE (by omega) ?_; refine qb ?_; refine qk ?_; (try dsimp only); refine jJ ?_; (try dsimp only))
    refine xe (H19.drop.sl e_4) (YD (by omega)) ?_
    refine j4 (by decide) (Qs (by omega) H19.drop GQ.ok) ?_
    rintro _ h21 ⟨rfl, H21⟩
    have hkn := qJ8 (zs := zs) (nd := (p2 : Int)) g1 g2 g3
    rw [show ((p2 : Int)).toNat = p2 by omega] at hkn
    rw [hkn] at H21 ⊢
    have KK2 := KK.add Z.H.nn g1 g2 g3
    rw [show ((p2 : Int)).toNat = p2 by omega] at KK2
    with_reducible (refine jE (by omega) ?_; refine qb ?_; refine qk ?_; (try dsimp only); refine jJ ?_; (try dsimp only))
    refine j4 (by decide) (Gv (by omega) H21 (KK2.good _).ok) fun kv h22 H22 => ?_
    refine jg H22 .here ?_
    rw [show (Mv (K ++ [((p2 : Int), qG zs p2)]) (p2 : Int)).K.length = i + 1 by show (K ++ [((p2 : Int), qG zs p2)]).length = _; simp [hKl]]
    with_reducible (refine qU (by omega) ?_; refine jE (by omega) ?_; refine qb ?_; refine qK ?_; refine qU (by omega) ?_)
    exact hih2 (256 - (i + 1)) _ _ (by omega) ⟨i + 1, K ++ [((p2 : Int), qG zs p2)], (p2 : Int), rfl, by omega, rfl, by simp [hKl], KK2, H22.drop⟩
  · have g4 : gu (Mv K nd) p c.1 (c.2.2.1.tmod 12) (c.2.2.2.tmod 12) = (it, er, if er = 0 then lvV 256 K C' F' nd else Mv K nd) := g4
    rw [g4] at H14 ⊢
    dsimp only at H14 ⊢
    have GV : jC (if er = 0 then lvV 256 K C' F' nd else Mv K nd) := by
      split
      · rename_i he
        refine YT (W := []) (F := F') GK CO.un CO.ins CO.few (CO.wd he) ?_
        rcases CO.out with ⟨h, _⟩ | ⟨_, _, _, _, _, hF⟩
        · omega
        · rcases hF with ⟨rfl, _⟩ | ⟨a, rfl, _⟩ <;> simp
      · exact GK
    have hVU : jY (if er = 0 then lvV 256 K C' F' nd else Mv K nd).lv = jY U.lv ∧ zE (if er = 0 then lvV 256 K C' F' nd else Mv K nd).lv = zE U.lv ∧ (if er = 0 then lvV 256 K C' F' nd else Mv K nd).lv.length = 1 := by
      rw [← hU]
      split <;> exact ⟨rfl, rfl, rfl⟩
    generalize (if er = 0 then lvV 256 K C' F' nd else Mv K nd) = V at *
    obtain ⟨hv1, hv2, hv3⟩ := hVU
    have hml : (jY U.lv).length < 100000000 := by
      have h1 := Jd (lv := U.lv) (out := [])
      have h2 := GU.ok.lvs.held
      have h3 := GU.ok.lvs.le
      show ((U.lv.foldl (fun out x => zy x.1 out) []).length) < _
      simp only [List.length_nil] at h1
      omega
    have hfl : (zE U.lv).length < 1000000 := by
      rw [← hU]
      split
      · show ([(C', F')].reverse.flatMap (·.2)).length < _
        rcases CO.out with ⟨h, _⟩ | ⟨_, _, _, _, _, hF⟩
        · omega
        · rcases hF with ⟨rfl, _⟩ | ⟨a, rfl, _⟩ <;> simp
      · show (0 : Nat) < _; omega
    with_reducible (refine qy (by with_unfolding_all exact rfl) ?_; refine qy (by with_unfolding_all exact rfl) ?_)
    refine jx H14 rfl fun bx h15 H15 => ?_
    refine js H15 (b := bx) .here rfl (by simp) rfl fun h16 H16 => ?_
    have H16 : HS h h16 (qg bx (vv it) :: ViewC v V :: ViewC u U :: qg by_ (vv it) :: qg b (zd c) :: qS e 1 zs.length wv (zs.map (.int .u64)) :: []) := H16
    refine jo hne (qx ?_)
    refine jW H16 (b := bx) (off := 0) .here rfl (by omega) rfl ?_
    refine jW H16 (b := by_) (off := 0) e_3 rfl (by omega) rfl ?_
    refine JW (qKa it it) (fun _ => ?_) (fun h => absurd rfl h)
    rw [show (!false) = true from rfl]
    refine qk ?_
    refine qh ?_
    refine jk rfl ?_
    with_reducible (refine qR ?_; refine qk ?_; (try dsimp only); refine qh ?_; (try dsimp only))
    refine j4 (by decide) (xf (by omega) (H16.sel e_1) GV.ok) fun c1 h17 H17 => ?_
    refine j4 (by decide) (xf (by omega) (H17.sel e_3) GU.ok) fun c2 h18 H18 => ?_
    rw [hv1] at H17 H18
    refine j4 (by decide) (qQF (xs := jY U.lv) (ys := jY U.lv) (by omega) (H18.sl e_2) (H18.sl .here) hml) ?_
    rintro _ h18 ⟨rfl, rfl⟩
    rw [decide_eq_true rfl]
    with_reducible (refine qR ?_; refine qk ?_; (try dsimp only); refine qh ?_; (try dsimp only))
    refine j4 (by decide) (vp (by omega) (H18.sel e_3) GV.ok) fun f1 h19 H19 => ?_
    refine j4 (by decide) (vp (by omega) (H19.sel e_3) GU.ok) fun f2 h20 H20 => ?_
    rw [hv2] at H19 H20
    refine j4 (by decide) (qQp (xs := zE U.lv) (ys := zE U.lv) (by omega) (H20.sl e_2) (H20.sl .here) (by omega)) ?_
    rintro _ h20 ⟨rfl, rfl⟩
    rw [decide_eq_true rfl]
    with_reducible (refine qR ?_; refine qk ?_; (try dsimp only); refine qh ?_; (try dsimp only))
    refine j4 (by decide) (QY (by omega) (H20.sel e_3)) ?_
    rintro _ h21 ⟨rfl, rfl⟩
    rw [hv3]
    with_reducible (refine jk (by omega) ?_; refine qR ?_; refine qE ?_)
    exact qz rfl
theorem told {h : AH} {l : List AV} (H : WTs Tryz.prog h 8 Tryz.f3.params.toList l) : wp (W3 (y9 6 (qw tab qI 3000)) l h) fun v _ => v = .bool true := by
  have e : Tryz.f3.params.toList = [22, 25] := by kernel_rfl
  rw [e] at H
  obtain ⟨a0, a1, rfl, H0, H1⟩ := WTs2 H
  simp only [WTV, Tryz.underlying3, Tryz.underlying4, Tryz.underlying22, Tryz.underlying23, Tryz.underlying25] at H0 H1
  obtain ⟨q, xs, S, _, H2⟩ := Oi (sz := 4) Tryz.underlying22 (by kernel_rfl) (by omega) H0
  obtain ⟨ks, g1, hp, rfl⟩ := ZS (α := gT) (Pr := fun c => 0 ≤ c.2.2.1 ∧ 0 ≤ c.2.2.2) zd S.len (fun i hi => by
    have := H2 i hi
    generalize (xs.drop (i * 4)).take 4 = row at this
    unfold WT at this
    simp only [Tryz.underlying25] at this
    obtain ⟨g1, g2⟩ := this
    rw [show Tryz.prog.cellsOf 25 = 4 by kernel_rfl] at g1
    match row, g1 with
    | [x, y, z, u], _ =>
      have f1 := g2 _ (List.mem_cons_self ..)
      have f2 := g2 _ (List.mem_cons_of_mem _ (List.mem_cons_self ..))
      have f3 := g2 _ (List.mem_cons_of_mem _ (List.mem_cons_of_mem _ (List.mem_cons_self ..)))
      have f4 := g2 _ (List.mem_cons_of_mem _ (List.mem_cons_of_mem _ (List.mem_cons_of_mem _ (List.mem_cons_self ..))))
      rw [show Tryz.prog.cellsOf 3 = 1 by kernel_rfl] at f1 f2
      rw [show Tryz.prog.cellsOf 23 = 1 by kernel_rfl] at f3 f4
      unfold WT at f1 f2 f3 f4
      simp only [Tryz.underlying3, List.drop_zero, List.take_succ_cons, List.take_zero, List.drop_succ_cons] at f1 f2
      simp only [Tryz.underlying23, List.drop_succ_cons, List.drop_zero, List.take_succ_cons, List.take_zero] at f3 f4
      obtain ⟨a, ha, _⟩ := f1
      obtain ⟨b, hb, _⟩ := f2
      obtain ⟨c, hc, hc2⟩ := f3
      obtain ⟨d, hd, hd2⟩ := f4
      cases ha; cases hb; cases hc; cases hd
      exact ⟨(a, b, c, d), ⟨hc2.1, hd2.1⟩, rfl⟩)
  obtain ⟨cl, rfl, H1⟩ := H1
  unfold WT at H1
  simp only [Tryz.underlying25] at H1
  obtain ⟨g3, g4⟩ := H1
  rw [show Tryz.prog.cellsOf 25 = 4 by kernel_rfl] at g3
  match cl, g3 with
  | [x, y, z, u], _ =>
    have f1 := g4 _ (List.mem_cons_self ..)
    have f2 := g4 _ (List.mem_cons_of_mem _ (List.mem_cons_self ..))
    have f3 := g4 _ (List.mem_cons_of_mem _ (List.mem_cons_of_mem _ (List.mem_cons_self ..)))
    have f4 := g4 _ (List.mem_cons_of_mem _ (List.mem_cons_of_mem _ (List.mem_cons_of_mem _ (List.mem_cons_self ..))))
    rw [show Tryz.prog.cellsOf 3 = 1 by kernel_rfl] at f1 f2
    rw [show Tryz.prog.cellsOf 23 = 1 by kernel_rfl] at f3 f4
    unfold WT at f1 f2 f3 f4
    simp only [Tryz.underlying3, List.drop_zero, List.take_succ_cons, List.take_zero, List.drop_succ_cons] at f1 f2
    simp only [Tryz.underlying23, List.drop_succ_cons, List.drop_zero, List.take_succ_cons, List.take_zero] at f3 f4
    obtain ⟨a, ha, _⟩ := f1
    obtain ⟨b, hb, _⟩ := f2
    obtain ⟨c, hc, hc2⟩ := f3
    obtain ⟨d, hd, hd2⟩ := f4
    cases ha; cases hb; cases hc; cases hd
    exact law (cc := (a, b, c, d)) (by omega) (g1 ▸ S) hp ⟨hc2.1, hd2.1⟩
end Go.Proofs.YtpohfcljfemhlaaGreat.treeNeeds
