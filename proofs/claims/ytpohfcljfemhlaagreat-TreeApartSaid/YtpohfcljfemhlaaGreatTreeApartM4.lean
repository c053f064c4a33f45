/- Lemmas for 'quietus/quietuslaw20.TreeApart': Trees: the laws own functions: the walks; Plain rows of pairs: Find, Put, Del, Count, Do: the walks; Plain rows of pairs: Count, Do: the walks; Trees: a call on a heap and on plain rows: the walk of step, of live; Trees: two objects; views of which some words are known; Trees: where the blocks are; TreeApart comes to true for every argument: its own walk. No condition. -/
import Derived.Test.YtpohfcljfemhlaaGreatTreeApartM3
import Derived.Test.YtpohfcljfemhlaaGreatTreeApartM2
import Derived.Test.YtpohfcljfemhlaaGreatTreeApartM1
namespace Go.Proofs.YtpohfcljfemhlaaGreat.arenaParts
open Go Go.Ae arenaPlays
set_option maxRecDepth 100000
variable {g h : AH} {L R : List SP}
theorem qQA {cs : List AV} {i n sz : Nat} {x : AV} {k : IntKind} {K : AV → Go.Ae.R} {Q : AV → AH → Prop} (hi : i < n) (hx : cs[i * sz]? = some x) (w : wp (K x) Q) : wp (QU (.agg cs) (.int k (i : Int)) n sz K) Q := by
  show wp (bif Nat.ble (i + 1) n then ob (ye cs (i * sz)) K else none) Q
  rw [Nat.ble_eq_true_of_le hi, cond_true, zc, hx]
  exact w
theorem g9 {b off i n sz : Nat} {k : IntKind} {K : AV → Go.Ae.R} {Q : AV → AH → Prop} (hi : i < n) (w : wp (K (.ptr b (off + i * sz))) Q) : wp (ze (.ptr b off) (.int k (i : Int)) n sz K) Q := by
  show wp (bif Nat.ble (i + 1) n then K (.ptr b (off + i * sz)) else none) Q
  rw [Nat.ble_eq_true_of_le hi, cond_true]
  exact w
abbrev vH : Type := Int × Int × Int × Int
def zW (c : vH) : List AV := [.int .i64 c.1, .int .i64 c.2.1, .int .u64 c.2.2.1, .int .u64 c.2.2.2]
def kZ (x : Int × Int) : List AV := [.int .i64 x.1, .int .u64 x.2]
theorem it_eq (x y : Int × Int) : zB [.bas .int 0, .bas .int 1] (kZ x) (kZ y) = some (decide (x = y)) := by
  obtain ⟨a, b⟩ := x
  obtain ⟨a', b'⟩ := y
  show (bif ieq a a' then (bif ieq b b' then some true else some false) else some false) = _
  rw [w6, w6]
  by_cases h1 : a = a' <;> by_cases h2 : b = b' <;> simp [h1, h2]
theorem Js {n : Nat} (hn : 1 ≤ n) {c : vH} (H : HS g h R) (hw : 1 ≤ c.1 ∧ c.1 ≤ 12) : wp (qy tab qI n (.fn 35 [] []) [.agg (zW c)] h) fun v h' => v = .int .i64 c.1 ∧ HS g h' R := by
  (refine qc (g := W35) rfl (by omega) fun k hk => ?_; show wp (S35 (qy tab qI k) _ _) _; unfold S35; try simp only [iI, uU, Int.ofNat_eq_natCast])
  refine jk H rfl fun b h1 H1 => ?_
  unfold zW at H1
  with_reducible (refine qZ ?_; refine qv (by assumption) .here (by with_unfolding_all exact rfl) ?_; refine zn (by omega) ?_; refine qk ?_; (try dsimp only); refine qr ?_; (try dsimp only); refine qZ ?_; refine qv (by assumption) .here (by with_unfolding_all exact rfl) ?_; refine x8 (by omega) ?_; refine qS ?_; refine qq ?_; refine qZ ?_; refine qv (by assumption) .here (by with_unfolding_all exact rfl) ?_)
  exact qz ⟨rfl, H1.drop⟩
theorem JQ {n : Nat} (hn : 1 ≤ n) {c : vH} (H : HS g h R) : wp (qy tab qI n (.fn 38 [] []) [.agg (zW c)] h) fun v h' => v = .int .u64 (c.2.2.1.tmod 12) ∧ HS g h' R := by
  (refine qc (g := W38) rfl (by omega) fun k hk => ?_; show wp (S38 (qy tab qI k) _ _) _; unfold S38; try simp only [iI, uU, Int.ofNat_eq_natCast])
  refine jk H rfl fun b h1 H1 => ?_
  unfold zW at H1
  with_reducible (refine qZ ?_; refine qv (by assumption) .here (by with_unfolding_all exact rfl) ?_)
  exact Vd (by omega) (qz ⟨rfl, H1.drop⟩)
theorem KE {n : Nat} (hn : 1 ≤ n) {c : vH} (H : HS g h R) : wp (qy tab qI n (.fn 39 [] []) [.agg (zW c)] h) fun v h' => v = .int .u64 (c.2.2.2.tmod 12) ∧ HS g h' R := by
  (refine qc (g := W39) rfl (by omega) fun k hk => ?_; show wp (S39 (qy tab qI k) _ _) _; unfold S39; try simp only [iI, uU, Int.ofNat_eq_natCast])
  refine jk H rfl fun b h1 H1 => ?_
  unfold zW at H1
  with_reducible (refine qZ ?_; refine qv (by assumption) .here (by with_unfolding_all exact rfl) ?_)
  exact Vd (by omega) (qz ⟨rfl, H1.drop⟩)
theorem ZZ {sz : Nat} : ∀ {l K : List Cl}, UnC (K ++ l) → (∀ c ∈ l, 1 ≤ c.1 ∧ c.1 < (sz : Int)) → l.foldl knw (lvV sz K [] [] 0) = lvV sz (K ++ l) [] [] 0 := by
  intro l
  induction l with
  | nil => intro K _ _; rw [List.append_nil]; rfl
  | cons c l ih =>
    intro K hu hi
    have hn : jF c.1 K = none := by
      rw [kR]
      intro hm
      unfold UnC at hu
      rw [List.map_append] at hu
      exact (List.nodup_append.1 hu).2.2 _ hm c.1 (List.mem_cons_self ..) rfl
    have e : knw (lvV sz K [] [] 0) c = lvV sz (K ++ [c]) [] [] 0 := by
      unfold knw gD
      rw [if_pos (show 1 ≤ c.1 ∧ c.1 < ((lvV sz K [] [] 0).sz : Int) from hi c (List.mem_cons_self ..)), show (lvV sz K [] [] 0).K = K from rfl, hn]
      rfl
    rw [List.foldl_cons, e, ih (by rw [List.append_assoc]; exact hu) fun d hd => hi d (List.mem_cons_of_mem _ hd), List.append_assoc]
    rfl
theorem ZX {M : VM} (O : OkV M) (h : M.lv = [([], [])]) : ofV M = lvV M.sz M.K [] [] 0 := by
  unfold ofV
  have e : jq M.lv = [] := by rw [h]; rfl
  rw [e, List.foldl_nil]
  exact ZZ (by rw [List.nil_append]; exact O.un) O.ins
theorem Qr {α : Type} {M : VM} {act : Act α} (O : OkV M) (h : M.lv = [([], [])]) : doG M act = doR M act ∧ (qO act ⟨ofV M, 0, 0⟩).1 = vu M act := by
  unfold doG doR vu
  rw [ZX O h]
  exact ⟨rfl, rfl⟩
theorem Y8 {M : VM} (h : M.lv = [([], [])]) : frS M.lv ≤ 40000 := by rw [h]; simp [frS]
theorem qQ5 {n : Nat} (hn : 23 ≤ n) {v : Nat} {M : VM} {root key : Int} (H : HS g h (ViewC v M :: R)) (G : jD M) (hfr : frS M.lv ≤ 40000) (hr : 6 ≤ root ∧ root < 14) (h0 : (doG M (xd root key)).1 ≠ 0) :
    wp (qy tab qI n (.fn 29 [] []) [.ptr v 0, .int .i64 root, .int .u64 key] h) fun r h' => r = .tup [.int .u64 0, .bool false, .int .i64 (doG M (xd root key)).1] ∧ HS g h' (ViewC v (doG M (xd root key)).2 :: R) := by
  (refine qc (g := W29) rfl (by omega) fun k hk => ?_; show wp (S29 (qy tab qI k) _ _ _ _) _; unfold S29; try simp only [iI, uU, Int.ofNat_eq_natCast])
  refine jT H ⟨rfl, rfl⟩ fun br h1 H1 => ?_
  refine jT H1 ⟨rfl, rfl⟩ fun bk h2 H2 => ?_
  refine jT H2 ⟨rfl, rfl⟩ fun bx h3 H3 => ?_
  refine jT H3 ⟨rfl, rfl⟩ fun bt h4 H4 => ?_
  refine jw H4 (b := bx) e_1 ⟨rfl, rfl⟩ (by simp) fun h5 H5 => ?_
  refine jw H5 (b := bt) e_1 ⟨rfl, rfl⟩ (by simp) fun h6 H6 => ?_
  have H6 : HS g h6 (qg bt [.bool false] :: qg bx [.int .u64 0] :: qg bk [.int .u64 key] :: qg br [.int .i64 root] :: ViewC v M :: R) := H6
  refine qv H6 e_3 rfl ?_
  have GD := gW G
  refine qJ (w7 (act := xd root key) (R1 := qg bt [.bool false] :: qg bx [.int .u64 0] :: qg bk [.int .u64 key] :: qg br [.int .i64 root] :: R) (R2 := fun o => BoxG bx bt o :: qg bk [.int .u64 key] :: qg br [.int .i64 root] :: R) (by omega) (H6.sub (.cons e_4 (.cons .here (.cons .here (.cons .here (.cons .here .refl)))))) G hfr hr ?_) ?_
  · intro m h7 d hm3 H7
    exact wp.mono (U0 (by omega) H7 GD rfl) fun v h4 hq => hq
  rintro _ h7 ⟨rfl, GG, H7⟩
  refine jt h0 ?_
  with_reducible (refine qq ?_)
  exact qz ⟨rfl, H7.sub (.cons .here (.drop (.drop (.drop .refl))))⟩
theorem MQ {n : Nat} (hn : 2090 ≤ n) {v : Nat} {M : VM} {root lo hi : Int} (H : HS g h (ViewC v M :: R)) (G : jD M) (hfr : frS M.lv ≤ 40000) (hr : 6 ≤ root ∧ root < 14) (h0 : (doG M (ja root lo hi)).1 ≠ 0) :
    wp (qy tab qI n (.fn 28 [] []) [.ptr v 0, .int .i64 root, .int .u64 lo, .int .u64 hi] h) fun r h' => r = .tup [.nils, .int .i64 (doG M (ja root lo hi)).1] ∧ HS g h' (ViewC v (doG M (ja root lo hi)).2 :: R) := by
  (refine qc (g := W28) rfl (by omega) fun k hk => ?_; show wp (S28 (qy tab qI k) _ _ _ _ _) _; unfold S28; try simp only [iI, uU, Int.ofNat_eq_natCast])
  refine jT H ⟨rfl, rfl⟩ fun br h1 H1 => ?_
  refine jT H1 ⟨rfl, rfl⟩ fun bl h2 H2 => ?_
  refine jT H2 ⟨rfl, rfl⟩ fun bh h3 H3 => ?_
  refine jT H3 ⟨rfl, rfl⟩ fun bo h4 H4 => ?_
  refine qv H4 e_3 rfl ?_
  have GD := gW G
  refine qJ (w7 (act := ja root lo hi) (R1 := qg bo [.nils] :: qg bh [.int .u64 hi] :: qg bl [.int .u64 lo] :: qg br [.int .i64 root] :: R) (R2 := fun o => OD bo o :: qg bh [.int .u64 hi] :: qg bl [.int .u64 lo] :: qg br [.int .i64 root] :: R) (by omega) (H4.sub (.cons e_4 (.cons .here (.cons .here (.cons .here (.cons .here .refl)))))) G hfr hr ?_) ?_
  · intro m h7 d hm3 H7
    exact wp.mono (YM (by omega) H7 GD rfl) fun v h4 hq => hq
  rintro _ h7 ⟨rfl, GG, H7⟩
  refine jt h0 ?_
  with_reducible (refine qq ?_)
  exact qz ⟨rfl, H7.sub (.cons .here (.drop (.drop (.drop (.drop .refl)))))⟩
theorem QZ {n : Nat} (hn : 2 ≤ n) {c : vH} (H : HS g h R) (hw : 9 ≤ c.1 ∧ c.1 ≤ 12) : wp (qy tab qI n (.fn 10 [] []) [.agg (zW c)] h) fun v h' => v = .int .i64 (6 + jm c.2.1 0 1) ∧ HS g h' R := by
  (refine qc (g := W10) rfl (by omega) fun k hk => ?_; show wp (S10 (qy tab qI k) _ _) _; unfold S10; try simp only [iI, uU, Int.ofNat_eq_natCast])
  refine jk H rfl fun b h1 H1 => ?_
  have H1 : HS g h1 (qg b (zW c) :: R) := H1
  refine qh rfl ?_
  refine jx H1 (b := b) (off := 0) .here rfl (by omega) rfl ?_
  refine qJ (Js (by omega) H1 (by omega)) ?_
  rintro _ h2 ⟨rfl, H2⟩
  have hb := xn c.2.1 (show (0 : Int) ≤ 1 by omega)
  obtain ⟨w, hwe⟩ : ∃ w : Nat, c.1 = (w : Int) := ⟨c.1.toNat, by omega⟩
  rw [hwe]
  refine qQA (x := .int .i64 3) (by omega) (by
    have h4 : w = 9 ∨ w = 10 ∨ w = 11 ∨ w = 12 := by omega
    rcases h4 with rfl | rfl | rfl | rfl <;> rfl) ?_
  refine qXn (by decide) ?_
  unfold zW at H2
  with_reducible (refine qZ ?_; refine qv (by assumption) .here (by with_unfolding_all exact rfl) ?_)
  refine qJ (GZ (by omega) (by omega) (by omega) (by omega)) ?_
  rintro _ h3 ⟨rfl, rfl⟩
  rw [show jm c.2.1 ((0 : Nat) : Int) ((1 : Nat) : Int) = jm c.2.1 0 1 from rfl]
  refine qU (by omega) (qz ⟨?_, H2.drop⟩)
  congr 1
theorem YD {n : Nat} (hn : 2 ≤ n) {c : vH} (H : HS g h R) : wp (qy tab qI n (.fn 9 [] []) [.agg (zW c)] h) fun v h' => v = .agg (zW (jm c.1 9 12, c.2)) ∧ HS g h' R := by
  (refine qc (g := W9) rfl (by omega) fun k hk => ?_; show wp (S9 (qy tab qI k) _ _) _; unfold S9; try simp only [iI, uU, Int.ofNat_eq_natCast])
  refine jk H rfl fun b h1 H1 => ?_
  refine jk H1 rfl fun b2 h2 H2 => ?_
  unfold zW at H2
  with_reducible (refine qZ ?_; refine qv (by assumption) e_1 (by with_unfolding_all exact rfl) ?_)
  refine qJ (GZ (by omega) (by omega) (by omega) (by omega)) ?_
  rintro _ h3 ⟨rfl, rfl⟩
  rw [show jm c.1 ((9 : Nat) : Int) ((12 : Nat) : Int) = jm c.1 9 12 from rfl]
  with_reducible (refine qZ ?_)
  refine jw H2 (b := b) e_1 ⟨rfl, rfl⟩ (by simp) fun h4 H4 => ?_
  have H4 : HS g h4 (qg b (zW (jm c.1 9 12, c.2)) :: qg b2 [.int .i64 ((0 : Nat) : Int), .int .i64 ((0 : Nat) : Int), .int .u64 ((0 : Nat) : Int), .int .u64 ((0 : Nat) : Int)] :: R) := H4
  refine jx H4 (b := b) (off := 0) .here rfl (by omega) rfl ?_
  refine js H4 (b := b2) e_1 rfl (by simp) rfl fun h5 H5 => ?_
  have H5 : HS g h5 (qg b2 (zW (jm c.1 9 12, c.2)) :: qg b (zW (jm c.1 9 12, c.2)) :: R) := H5
  refine jx H5 (b := b2) (off := 0) .here rfl (by omega) rfl ?_
  exact qz ⟨rfl, H5.drop.drop⟩
theorem UD {n : Nat} (hn : 2100 ≤ n) {v : Nat} {M : VM} {root : Int} {c : vH} (H : HS g h (ViewC v M :: R)) (G : jD M) (hlv : M.lv = [([], [])]) (hr : 6 ≤ root ∧ root < 14) (hw : 9 ≤ c.1 ∧ c.1 ≤ 12) (hkk : 0 ≤ c.2.2.1) (hxx : 0 ≤ c.2.2.2)
    (hs : SmX M root c.1 (c.2.2.1.tmod 12) (c.2.2.2.tmod 12)) (hget : ∀ x, vu M (xd root (c.2.2.1.tmod 12)) = some (x, false) → x = 0) (hcnt : ∀ l, vu M (ja root (c.2.2.1.tmod 12) (c.2.2.2.tmod 12)) = some l → c.1 = 12 → l.length ≤ 1000) :
    wp (qy tab qI n (.fn 13 [] []) [.ptr v 0, .int .i64 root, .agg (zW c)] h) fun r h' => r = .tup [.agg (kZ (ww M root c.1 (c.2.2.1.tmod 12) (c.2.2.2.tmod 12)).1), .int .i64 (ww M root c.1 (c.2.2.1.tmod 12) (c.2.2.2.tmod 12)).2.1] ∧
      HS g h' (ViewC v (ww M root c.1 (c.2.2.1.tmod 12) (c.2.2.2.tmod 12)).2.2 :: R) := by
  (refine qc (g := W13) rfl (by omega) fun k hk => ?_; show wp (S13 (qy tab qI k) _ _ _ _) _; unfold S13; try simp only [iI, uU, Int.ofNat_eq_natCast])
  refine jk H rfl fun b h1 H1 => ?_
  have H1 : HS g h1 (qg b (zW c) :: ViewC v M :: R) := H1
  refine jk H1 rfl fun b2 h2 H2 => ?_
  refine jx H2 (b := b) (off := 0) e_1 rfl (by omega) rfl ?_
  refine qJ (Js (c := c) (by omega) H2 (by omega)) ?_
  rintro _ h3 ⟨rfl, H3⟩
  have hkb1 := Int.tmod_nonneg 12 hkk
  have hkb2 := Int.tmod_lt_of_pos c.2.2.1 (show (0 : Int) < 12 by omega)
  have hxb1 := Int.tmod_nonneg 12 hxx
  have hxb2 := Int.tmod_lt_of_pos c.2.2.2 (show (0 : Int) < 12 by omega)
  have hf := Y8 hlv
  unfold ww
  have hw4 : c.1 = 9 ∨ c.1 = 10 ∨ c.1 = 11 ∨ c.1 = 12 := by omega
  rcases hw4 with hw | hw | hw | hw
  · rw [hw, if_pos rfl]
    refine qk ?_
    refine jA rfl (qq ?_)
    refine qk ?_
    refine jx H3 (b := b) (off := 0) e_1 rfl (by omega) rfl ?_
    refine qJ (JQ (c := c) (by omega) H3) ?_
    rintro _ h4 ⟨rfl, H4⟩
    refine jx H4 (b := b) (off := 0) e_1 rfl (by omega) rfl ?_
    refine qJ (KE (c := c) (by omega) H4) ?_
    rintro _ h5 ⟨rfl, H5⟩
    obtain ⟨d1, d2⟩ := Qr (act := yB M.sz root (c.2.2.1.tmod 12) (c.2.2.2.tmod 12)) G.ok hlv
    refine qJ (MH (by omega) (H5.sel e_2) G hf hr (by omega) (by omega)) ?_
    rintro r h6 ⟨r1, r2, _, H6⟩
    rw [d1, d2] at r1
    rw [d1] at r2 H6
    have hso := hs.put hw
    generalize doR M (yB M.sz root (c.2.2.1.tmod 12) (c.2.2.2.tmod 12)) = X at *
    generalize vu M (yB M.sz root (c.2.2.1.tmod 12) (c.2.2.2.tmod 12)) = o at *
    obtain ⟨e, M'⟩ := X
    dsimp only at *
    by_cases he : e = 0
    · subst he
      obtain ⟨bo, rfl⟩ := Option.isSome_iff_exists.1 (hso rfl)
      obtain rfl := r1 rfl bo rfl
      with_reducible (refine qw (by with_unfolding_all exact rfl) ?_; refine qw (by with_unfolding_all exact rfl) ?_)
      refine gC H3 (b := b) e_1 rfl H4 e_1 rfl rfl (by omega) (HS.lt H3 e_1) ?_
      cases bo
      · show wp _ fun r h' => r = .tup [.agg (kZ (2, 0)), _] ∧ _
        with_reducible (refine qK ?_; refine qh (by with_unfolding_all exact rfl) ?_)
        refine js H6 (b := b2) e_1 rfl (by simp) rfl fun h7 H7 => ?_
        with_reducible (refine qF ?_)
        refine jx H7 (b := b2) (off := 0) .here rfl (by omega) rfl ?_
        exact qz ⟨rfl, H7.sub (.cons e_1 (.drop (.drop .refl)))⟩
      · show wp _ fun r h' => r = .tup [.agg (kZ (2, 1)), _] ∧ _
        with_reducible (refine qq ?_; refine qh (by with_unfolding_all exact rfl) ?_)
        refine js H6 (b := b2) e_1 rfl (by simp) rfl fun h7 H7 => ?_
        with_reducible (refine qF ?_)
        refine jx H7 (b := b2) (off := 0) .here rfl (by omega) rfl ?_
        exact qz ⟨rfl, H7.sub (.cons e_1 (.drop (.drop .refl)))⟩
    · obtain rfl := r2 he
      with_reducible (refine qw (by with_unfolding_all exact rfl) ?_; refine qw (by with_unfolding_all exact rfl) ?_)
      refine gC H3 (b := b) e_1 rfl H4 e_1 rfl rfl (by omega) (HS.lt H3 e_1) ?_
      rw [show K7 e o = (2, 0) from if_neg he]
      with_reducible (refine qK ?_; refine qh (by with_unfolding_all exact rfl) ?_)
      refine js H6 (b := b2) e_1 rfl (by simp) rfl fun h7 H7 => ?_
      with_reducible (refine qF ?_)
      refine jx H7 (b := b2) (off := 0) .here rfl (by omega) rfl ?_
      exact qz ⟨rfl, H7.sub (.cons e_1 (.drop (.drop .refl)))⟩
  · rw [hw, if_neg (by omega), if_pos rfl]
    refine qk ?_
    refine ql (by omega) (qK ?_)
    refine jA rfl (qq ?_)
    refine jx H3 (b := b) (off := 0) e_1 rfl (by omega) rfl ?_
    refine qJ (JQ (c := c) (by omega) H3) ?_
    rintro _ h4 ⟨rfl, H4⟩
    obtain ⟨d1, d2⟩ := Qr (act := xd root (c.2.2.1.tmod 12)) G.ok hlv
    have hso := hs.get hw
    by_cases he : (doR M (xd root (c.2.2.1.tmod 12))).1 = 0
    · obtain ⟨⟨x, bo⟩, ho⟩ := Option.isSome_iff_exists.1 (hso he)
      refine qJ (Ma (by omega) (H4.sel e_2) G hf hr (by rw [d1]; exact he) (d2.trans ho)) ?_
      rintro _ h6 ⟨rfl, _, H6⟩
      rw [d1] at H6
      rw [ho, show Oo (doR M (xd root (c.2.2.1.tmod 12))).1 (some (x, bo)) = match (x, bo) with | (x, true) => (1, x) | _ => (3, 0) by unfold Oo; rw [if_pos he]; cases bo <;> rfl]
      generalize doR M (xd root (c.2.2.1.tmod 12)) = X at *
      obtain ⟨e, M'⟩ := X
      dsimp only at he
      subst he
      dsimp only at *
      have H6 : HS g h6 (ViewC v M' :: qg b2 [.int .i64 ((0 : Nat) : Int), .int .u64 ((0 : Nat) : Int)] :: qg b (zW c) :: R) := H6
      cases bo
      · have hx0 := hget x ho
        subst hx0
        with_reducible (refine qw (by with_unfolding_all exact rfl) ?_; refine qw (by with_unfolding_all exact rfl) ?_; refine qw (by with_unfolding_all exact rfl) ?_; refine ju ?_; refine qq ?_; refine qh (by with_unfolding_all exact rfl) ?_)
        refine js H6 (b := b2) e_1 rfl (by simp) rfl fun h7 H7 => ?_
        skip
        refine jx H7 (b := b2) (off := 0) .here rfl (by omega) rfl ?_
        exact qz ⟨rfl, H7.sub (.cons e_1 (.drop (.drop .refl)))⟩
      · dsimp only
        with_reducible (refine qw (by with_unfolding_all exact rfl) ?_; refine qw (by with_unfolding_all exact rfl) ?_; refine qw (by with_unfolding_all exact rfl) ?_; refine jc ?_; refine qK ?_; refine qh (by with_unfolding_all exact rfl) ?_)
        refine js H6 (b := b2) e_1 rfl (by simp) rfl fun h7 H7 => ?_
        skip
        refine jx H7 (b := b2) (off := 0) .here rfl (by omega) rfl ?_
        exact qz ⟨rfl, H7.sub (.cons e_1 (.drop (.drop .refl)))⟩
    · refine qJ (qQ5 (by omega) (H4.sel e_2) G hf hr (by rw [d1]; exact he)) ?_
      rintro _ h6 ⟨rfl, H6⟩
      rw [d1] at H6 ⊢
      generalize doR M (xd root (c.2.2.1.tmod 12)) = X at *
      obtain ⟨e, M'⟩ := X
      dsimp only at *
      have H6 : HS g h6 (ViewC v M' :: qg b2 [.int .i64 ((0 : Nat) : Int), .int .u64 ((0 : Nat) : Int)] :: qg b (zW c) :: R) := H6
      generalize vu M (xd root (c.2.2.1.tmod 12)) = o at *
      rw [show Oo e o = (3, 0) from if_neg he]
      with_reducible (refine qw (by with_unfolding_all exact rfl) ?_; refine qw (by with_unfolding_all exact rfl) ?_; refine qw (by with_unfolding_all exact rfl) ?_; refine ju ?_; refine qq ?_; refine qh (by with_unfolding_all exact rfl) ?_)
      refine js H6 (b := b2) e_1 rfl (by simp) rfl fun h7 H7 => ?_
      skip
      refine jx H7 (b := b2) (off := 0) .here rfl (by omega) rfl ?_
      exact qz ⟨rfl, H7.sub (.cons e_1 (.drop (.drop .refl)))⟩
  · rw [hw, if_neg (by omega), if_neg (by omega), if_pos rfl]
    refine qk ?_
    refine ql (by omega) (qK ?_)
    refine ql (by omega) (qK ?_)
    refine jA rfl (qq ?_)
    refine jx H3 (b := b) (off := 0) e_1 rfl (by omega) rfl ?_
    refine qJ (JQ (c := c) (by omega) H3) ?_
    rintro _ h4 ⟨rfl, H4⟩
    obtain ⟨d1, d2⟩ := Qr (act := vF M.sz root (c.2.2.1.tmod 12)) G.ok hlv
    refine qJ (qZu (by omega) (H4.sel e_2) G hf hr) ?_
    rintro r h6 ⟨r1, r2, _, H6⟩
    rw [d1, d2] at r1
    rw [d1] at r2 H6
    have hso := hs.del hw
    generalize doR M (vF M.sz root (c.2.2.1.tmod 12)) = X at *
    generalize vu M (vF M.sz root (c.2.2.1.tmod 12)) = o at *
    obtain ⟨e, M'⟩ := X
    dsimp only at *
    have H6 : HS g h6 (ViewC v M' :: qg b2 [.int .i64 ((0 : Nat) : Int), .int .u64 ((0 : Nat) : Int)] :: qg b (zW c) :: R) := H6
    by_cases he : e = 0
    · subst he
      obtain ⟨bo, rfl⟩ := Option.isSome_iff_exists.1 (hso rfl)
      obtain rfl := r1 rfl bo rfl
      cases bo
      · show wp _ fun r h' => r = .tup [.agg (kZ (2, 0)), _] ∧ _
        with_reducible (refine qw (by with_unfolding_all exact rfl) ?_; refine qw (by with_unfolding_all exact rfl) ?_; refine qK ?_; refine qh (by with_unfolding_all exact rfl) ?_)
        refine js H6 (b := b2) e_1 rfl (by simp) rfl fun h7 H7 => ?_
        with_reducible (refine qF ?_)
        refine jx H7 (b := b2) (off := 0) .here rfl (by omega) rfl ?_
        exact qz ⟨rfl, H7.sub (.cons e_1 (.drop (.drop .refl)))⟩
      · show wp _ fun r h' => r = .tup [.agg (kZ (2, 1)), _] ∧ _
        with_reducible (refine qw (by with_unfolding_all exact rfl) ?_; refine qw (by with_unfolding_all exact rfl) ?_; refine qq ?_; refine qh (by with_unfolding_all exact rfl) ?_)
        refine js H6 (b := b2) e_1 rfl (by simp) rfl fun h7 H7 => ?_
        with_reducible (refine qF ?_)
        refine jx H7 (b := b2) (off := 0) .here rfl (by omega) rfl ?_
        exact qz ⟨rfl, H7.sub (.cons e_1 (.drop (.drop .refl)))⟩
    · obtain rfl := r2 he
      rw [show K7 e o = (2, 0) from if_neg he]
      with_reducible (refine qw (by with_unfolding_all exact rfl) ?_; refine qw (by with_unfolding_all exact rfl) ?_; refine qK ?_; refine qh (by with_unfolding_all exact rfl) ?_)
      refine js H6 (b := b2) e_1 rfl (by simp) rfl fun h7 H7 => ?_
      with_reducible (refine qF ?_)
      refine jx H7 (b := b2) (off := 0) .here rfl (by omega) rfl ?_
      exact qz ⟨rfl, H7.sub (.cons e_1 (.drop (.drop .refl)))⟩
  · rw [hw, if_neg (by omega), if_neg (by omega), if_neg (by omega)]
    refine qk ?_
    refine ql (by omega) (qK ?_)
    refine ql (by omega) (qK ?_)
    refine ql (by omega) (qK ?_)
    refine qk ?_
    refine jx H3 (b := b) (off := 0) e_1 rfl (by omega) rfl ?_
    refine qJ (JQ (c := c) (by omega) H3) ?_
    rintro _ h4 ⟨rfl, H4⟩
    refine jx H4 (b := b) (off := 0) e_1 rfl (by omega) rfl ?_
    refine qJ (KE (c := c) (by omega) H4) ?_
    rintro _ h5 ⟨rfl, H5⟩
    obtain ⟨d1, d2⟩ := Qr (act := ja root (c.2.2.1.tmod 12) (c.2.2.2.tmod 12)) G.ok hlv
    have hso := hs.rng hw
    by_cases he : (doR M (ja root (c.2.2.1.tmod 12) (c.2.2.2.tmod 12))).1 = 0
    · obtain ⟨l, ho⟩ := Option.isSome_iff_exists.1 (hso he)
      have hll := hcnt l ho hw
      refine qJ (Ja (by omega) (H5.sel e_2) G hf hr (by rw [d1]; exact he) (d2.trans ho)) ?_
      rintro _ h6 ⟨ov, rfl, _, H6⟩
      rw [d1] at H6
      rw [ho, show qJP (doR M (ja root (c.2.2.1.tmod 12) (c.2.2.2.tmod 12))).1 (some l) = (1, (l.length : Int)) by unfold qJP; rw [if_pos he]]
      generalize doR M (ja root (c.2.2.1.tmod 12) (c.2.2.2.tmod 12)) = X at *
      obtain ⟨e, M'⟩ := X
      dsimp only at he
      subst he
      dsimp only at *
      have H6 : HS g h6 (ViewC v M' :: qg b2 [.int .i64 ((0 : Nat) : Int), .int .u64 ((0 : Nat) : Int)] :: Qx ov l :: qg b (zW c) :: R) := H6.sub (.cons e_1 (.cons e_1 (.cons .here .refl)))
      with_reducible (refine qw (by with_unfolding_all exact rfl) ?_; refine qw (by with_unfolding_all exact rfl) ?_)
      refine gC H3 (b := b) e_1 rfl H4 e_1 rfl rfl (by omega) (HS.lt H3 e_1) ?_
      refine jv H6 e_2 ?_
      refine z7 (by omega) ?_
      with_reducible (refine qh (by with_unfolding_all exact rfl) ?_)
      refine js H6 (b := b2) e_1 rfl (by simp) rfl fun h7 H7 => ?_
      skip
      refine jx H7 (b := b2) (off := 0) .here rfl (by omega) rfl ?_
      exact qz ⟨rfl, H7.sub (.cons e_1 (.drop (.drop (.drop .refl))))⟩
    · refine qJ (MQ (by omega) (H5.sel e_2) G hf hr (by rw [d1]; exact he)) ?_
      rintro _ h6 ⟨rfl, H6⟩
      rw [d1] at H6 ⊢
      generalize doR M (ja root (c.2.2.1.tmod 12) (c.2.2.2.tmod 12)) = X at *
      obtain ⟨e, M'⟩ := X
      dsimp only at *
      have H6 : HS g h6 (ViewC v M' :: qg b2 [.int .i64 ((0 : Nat) : Int), .int .u64 ((0 : Nat) : Int)] :: qg b (zW c) :: R) := H6
      generalize vu M (ja root (c.2.2.1.tmod 12) (c.2.2.2.tmod 12)) = o at *
      rw [show qJP e o = (1, 0) from if_neg he]
      with_reducible (refine qw (by with_unfolding_all exact rfl) ?_; refine qw (by with_unfolding_all exact rfl) ?_)
      refine gC H3 (b := b) e_1 rfl H4 e_1 rfl rfl (by omega) (HS.lt H3 e_1) ?_
      refine qJ2 ?_
      refine z7 (by omega) ?_
      with_reducible (refine qh (by with_unfolding_all exact rfl) ?_)
      refine js H6 (b := b2) e_1 rfl (by simp) rfl fun h7 H7 => ?_
      skip
      refine jx H7 (b := b2) (off := 0) .here rfl (by omega) rfl ?_
      exact qz ⟨rfl, H7.sub (.cons e_1 (.drop (.drop .refl)))⟩
theorem KJ (l : List (Int × Int)) : zV (l.flatMap zL) = true := by
  unfold zV
  rw [List.all_eq_true]
  intro v hv
  obtain ⟨c, _, hc⟩ := List.mem_flatMap.1 hv
  simp [zL] at hc
  rcases hc with rfl | rfl <;> rfl
theorem qXs {n : Nat} (hn : 2100 ≤ n) {v : Nat} {M : VM} {root : Int} {l : List qm} (H : HS g h (ViewC v M :: R)) (G : jD M) (hlv : M.lv = [([], [])]) (hr : 6 ≤ root ∧ root < 14) (h0 : (doR M (ja root 0 18446744073709551615)).1 = 0) (hl : vu M (ja root 0 18446744073709551615) = some l) :
    wp (qy tab qI n (.fn 32 [] []) [.ptr v 0, .int .i64 root] h) fun r h' => ∃ pv, r = .tup [pv, .int .i64 0] ∧ HS g h' (Qx pv l :: ViewC v (doR M (ja root 0 18446744073709551615)).2 :: R) := by
  (refine qc (g := W32) rfl (by omega) fun k hk => ?_; show wp (S32 (qy tab qI k) _ _ _) _; unfold S32; try simp only [iI, uU, Int.ofNat_eq_natCast])
  obtain ⟨d1, d2⟩ := Qr (act := ja root 0 18446744073709551615) G.ok hlv
  refine qJ (Ja (lo := 0) (hi := 18446744073709551615) (by omega) H G (Y8 hlv) hr (by rw [d1]; exact h0) (d2.trans hl)) ?_
  rintro _ h1 ⟨ov, rfl, _, H1⟩
  rw [d1] at H1
  with_reducible (refine qw (by with_unfolding_all exact rfl) ?_; refine qw (by with_unfolding_all exact rfl) ?_)
  exact qz ⟨ov, rfl, H1⟩
theorem ON {n : Nat} (hn : 14 ≤ n) {v : Nat} {M : VM} {zs Wr F : List Int} {cs : List Cl} {wv : AV} (H : HS g h (ViewC v M :: R)) (S : Rd g R 1 zs.length wv (zs.map (.int .u64))) (G : jD M) (hz : ∀ z ∈ jV zs cs, 0 ≤ z ∧ z < 18446744073709551616)
    (hm : jq M.lv = cs) (hc : cs.length < 1000) (hf : xG M.lv = F) (hF : (F = [] ∧ Wr = jV zs cs) ∨ ∃ a c2, F = [a] ∧ kU (zy (jV zs cs) 96) a = (0, yK (jV zs cs) 96 c2 []) ∧ c2.length ≤ 2 ∧ Wr = jV (jV zs cs) c2) :
    wp (qy tab qI n (.fn 31 [] []) [wv, .ptr v 0] h) fun r h' => ∃ wv' e, r = .tup [wv', .bool true] ∧ HS g h' (qR e 1 Wr.length wv' (Wr.map (.int .u64)) :: R) := by
  (refine qc (g := W31) rfl (by omega) fun k hk => ?_; show wp (S31 (qy tab qI k) _ _ _) _; unfold S31; try simp only [iI, uU, Int.ofNat_eq_natCast])
  refine qJ (yY (by omega) H G.ok) fun cv h1 H1 => ?_
  rw [hm] at H1
  refine qJ (Gx (zs := zs) (by omega) H1 S.more.more (H1.rd .here) (by omega)) ?_
  rintro w1 h2 ⟨e2, H2⟩
  refine qJ (Ju (by omega) (H2.sel e_2) G.ok) fun fv h3 H3 => ?_
  rw [hf] at H3
  have H4 : HS g h3 (qR e2 1 (jV zs cs).length w1 ((jV zs cs).map (.int .u64)) :: qR 3 1 F.length fv (F.map (.int .i64)) :: R) := H3.sub (.cons e_2 (.cons .here (.drop (.drop .refl))))
  clear H H1 H2 H3
  generalize jV zs cs = W1 at *
  rcases hF with ⟨rfl, rfl⟩ | ⟨a, c2, rfl, hg, hc2, rfl⟩
  · refine jR (fun m s h' => m = 0 ∧ s = (.int .i64 ((0 : Nat) : Int), fv, w1, ()) ∧ h' = h3) ?_ (m := 0) (by show 0 < 1000000000; omega) ⟨rfl, rfl, rfl⟩
    rintro m ih s h4 hih ⟨rfl, rfl, rfl⟩
    dsimp only
    refine jv H4 e_1 ?_
    show wp (qA .lss _ (.int .i64 ((0 : Nat) : Int)) _) _
    with_reducible (refine jh (by omega) ?_; refine qK ?_; refine qF ?_)
    exact qz ⟨w1, e2, rfl, H4.sub (.cons .here (.drop .refl))⟩
  · refine jR (fun m s h' => (m = 1 ∧ s = (.int .i64 ((0 : Nat) : Int), fv, w1, ()) ∧ h' = h3) ∨ (m = 0 ∧ ∃ w2 e, s = (.int .i64 ((1 : Nat) : Int), fv, w2, ()) ∧
      HS g h' (qR e 1 (jV W1 c2).length w2 ((jV W1 c2).map (.int .u64)) :: qR 3 1 1 fv [.int .i64 a] :: R))) ?_ (m := 1) (by show 1 < 1000000000; omega) (.inl ⟨rfl, rfl, rfl⟩)
    rintro m ih s h4 hih (⟨rfl, rfl, rfl⟩ | ⟨rfl, w2, e, rfl, H5⟩)
    · dsimp only
      have H4 : HS g h4 (qR e2 1 W1.length w1 (W1.map (.int .u64)) :: qR 3 1 1 fv [.int .i64 a] :: R) := H4
      refine jv H4 e_1 ?_
      with_reducible (refine zA (by omega) ?_; refine qq ?_)
      refine qJ (k7 (zs := W1) (m := ((96 : Nat) : Int)) (by omega) H4 (H4.rd .here)) ?_
      rintro _ h5 ⟨u, rfl, H5⟩
      rw [show ((96 : Nat) : Int) = 96 from rfl] at H5
      have GW := wh (m := 96) hz
      refine Qp ?_
      with_reducible (refine qk ?_; (try dsimp only); refine qo ?_; (try dsimp only))
      refine zo (i := 0) (H5.sl e_2) (x := .int .i64 a) rfl ?_
      refine qJ (Zc (by omega) H5 GW.ok) ?_
      rintro _ h6 ⟨rfl, H6⟩
      have G6 := (GW.give (b := a)).1
      rw [hg] at H6 G6 ⊢
      dsimp only at H6 G6 ⊢
      with_reducible (refine jP (by omega) ?_; refine qT ?_; refine qK ?_)
      refine qJ (yY (by omega) H6 G6.ok) fun cv h7 H7 => ?_
      rw [show jq (yK W1 96 c2 []).lv = c2 from rfl] at H7
      refine qJ (Gx (zs := W1) (by omega) H7 (H7.rd e_2) (H7.rd .here) (by omega)) ?_
      rintro w3 h8 ⟨e8, H8⟩
      with_reducible (refine qU (by omega) ?_)
      exact hih 0 _ _ (by omega) (.inr ⟨rfl, w3, e8, rfl, H8.sub (.cons .here (.cons e_3 (.drop (.drop (.drop .refl)))))⟩)
    · dsimp only
      refine jv H5 e_1 ?_
      with_reducible (refine jh (by omega) ?_; refine qK ?_; refine qF ?_)
      exact qz ⟨w2, e, rfl, H5.sub (.cons .here (.drop .refl))⟩
end Go.Proofs.YtpohfcljfemhlaaGreat.arenaParts
namespace Go.Proofs.YtpohfcljfemhlaaGreat.arenaParts
open Go Go.Ae arenaPlays
set_option maxRecDepth 100000
variable {g h : AH} {L R : List SP}
def zT (v : AV) (row : List qm) : SP := qR 78 2 row.length v (row.flatMap zL)
theorem xU {v : AV} {row : List qm} (H : HS g h L) (s : Sel L (zT v row) R) : Sl (fun _ => True) h 2 row.length v (row.flatMap zL) := HS.sl (e := 78) H s
theorem ZH {e : TypeId} {sz : Nat} {v : AV} {xs : List AV} {k : IntKind} {K : AV → Go.Ae.R} {Q : AV → AH → Prop} (H : HS g h (qR e sz 0 v xs :: R)) (hsz : 0 < sz) (w : Sl (fun _ => True) h sz 0 v xs → wp (K v) Q) : wp (zg h e sz v (some (.int k ((0 : Nat) : Int))) none K) Q := by
  have S := H.sl .here
  obtain ⟨D, ⟨hl, ⟨rfl, _, hD⟩ | ⟨b, cp, o, zs, rfl, hD, A, q1, q2, q3⟩⟩, hb, _⟩ := H.act
  · exact w S
  · cases o with
    | false =>
      rw [if_neg (by simp)] at q3
      refine Kk (hi := 0) (lo := 0) rfl (xq (Nat.zero_le _)) ?_
      have e0 : (bif Nat.beq cp 0 then 0 else 0 + 0 * sz) = 0 := by cases Nat.beq cp 0 <;> simp
      rw [e0]; exact w S
    | true =>
      rw [if_pos rfl] at q3
      subst q3
      refine XA (i0 := 0) (hi := 0) (lo := 0) A hsz (by omega) (by omega) rfl (xq (Nat.zero_le _)) (.inr rfl) ?_
      have := w S
      simpa using this
theorem VV {e : TypeId} {sz n lo : Nat} {v : AV} {xs : List AV} {k : IntKind} {K : AV → Go.Ae.R} {Q : AV → AH → Prop} (H : HS g h (qR e sz n v xs :: R)) (hsz : 0 < sz) (hlo : lo ≤ n) (w : ∀ v', Sl (fun _ => True) h sz (n - lo) v' (xs.drop (lo * sz)) → wp (K v') Q) : wp (zg h e sz v (some (.int k (lo : Int))) none K) Q := by
  by_cases hn : 0 < n
  · exact qJC H hsz hlo hn w
  · obtain rfl : n = 0 := by omega
    obtain rfl : lo = 0 := by omega
    refine ZH H hsz fun S => w v ?_
    rw [Nat.zero_mul, List.drop_zero]
    exact S
theorem wN {row : List qm} {i f : Nat} (hf : f < 2) {q : qm} (hq : row[i]? = some q) : (row.flatMap zL)[i * 2 + f]? = some (.int .u64 (if f = 0 then q.1 else q.2)) := by
  rw [xE (sz := 2) zL (fun _ => rfl) _ _ _ hf, hq]
  have : f = 0 ∨ f = 1 := by omega
  rcases this with rfl | rfl <;> rfl
theorem GF {row : List qm} : (row.flatMap zL).length = row.length * 2 := kz (sz := 2) zL (fun _ => rfl) row
theorem M4 {row a b : List qm} (h : row = a ++ b) : row.take a.length = a := by subst h; simp
theorem qKN {row a b : List qm} (h : row = a ++ b) : row.drop a.length = b := by subst h; simp
theorem ZE {row a b : List qm} {q : qm} (h : row = a ++ q :: b) : row.drop (a.length + 1) = b := by
  subst h
  rw [List.drop_append, show a.length + 1 - a.length = 1 by omega, List.drop_eq_nil_of_le (by omega)]; rfl
theorem allX (l : List qm) : zV (l.flatMap zL) = true := KJ l
theorem Ya {row : List qm} {i : Nat} : (row.flatMap zL).take (i * 2) = (row.take i).flatMap zL := by
  induction row generalizing i with
  | nil => simp
  | cons q row ih =>
    cases i with
    | zero => simp
    | succ i =>
      rw [List.flatMap_cons, List.take_succ_cons, List.flatMap_cons, ← ih, show (i + 1) * 2 = i * 2 + 1 + 1 by omega]
      rfl
theorem XP {row : List qm} {i : Nat} : (row.flatMap zL).drop (i * 2) = (row.drop i).flatMap zL := ym (sz := 2) zL (fun _ => rfl) row i
theorem NC {a b : List qm} {k v x : Int} : ((a ++ (k, v) :: b).flatMap zL).set (a.length * 2 + 1) (.int .u64 x) = (a ++ (k, x) :: b).flatMap zL := by
  rw [List.flatMap_append, List.flatMap_append, List.set_append_right _ _ (by rw [GF]; omega), GF, Nat.add_sub_cancel_left]
  rfl
theorem Zk {k : Int} {row : List qm} (hs : Srt row) {i : Nat} {q : qm} (hq : row[i]? = some q) : (i < (loP k row).length ↔ q.1 < k) ∧ (i = (loP k row).length → (q.1 = k ↔ inP k row = true)) := by
  have hlo : ∀ y ∈ loP k row, y.1 < k := fun y hy => by have := (List.mem_filter.1 hy).2; simpa using this
  have hhi : ∀ y ∈ hiP k row, k < y.1 := fun y hy => by have := (List.mem_filter.1 hy).2; simpa using this
  obtain ⟨b, hb, hb2, hb3⟩ : ∃ b, row = loP k row ++ b ∧ (∀ y ∈ b, k ≤ y.1) ∧ (∀ y, b[0]? = some y → (y.1 = k ↔ inP k row = true)) := by
    rcases gK (k := k) hs with ⟨h1, h2⟩ | ⟨v, h1, h2⟩
    · refine ⟨hiP k row, h2, fun y hy => by have := hhi y hy; omega, fun y hy => ?_⟩
      have := hhi y (List.mem_of_getElem? hy)
      rw [h1]
      simp; omega
    · refine ⟨(k, v) :: hiP k row, h2, fun y hy => ?_, fun y hy => ?_⟩
      · rcases List.mem_cons.1 hy with rfl | hy
        · exact Int.le_refl _
        · have := hhi y hy; omega
      · cases hy; rw [h1]; simp
  by_cases hi : i < (loP k row).length
  · have hm : q ∈ loP k row := by
      rw [hb, List.getElem?_append_left hi] at hq
      exact List.mem_of_getElem? hq
    have := hlo q hm
    exact ⟨⟨fun _ => this, fun _ => hi⟩, fun h => by omega⟩
  · rw [hb, List.getElem?_append_right (by omega)] at hq
    have := hb2 q (List.mem_of_getElem? hq)
    refine ⟨⟨fun h => absurd h hi, fun h => by omega⟩, fun h => ?_⟩
    rw [h, Nat.sub_self] at hq
    exact hb3 q hq
theorem VT {k : Int} {row : List qm} : (loP k row).length ≤ row.length := List.length_filter_le _ _
theorem Yz {n : Nat} (hn : 1 ≤ n) {o j : Nat} {xs : List AV} {vj : AV} {row : List qm} {x : Int} (H : HS g h (qg o xs :: zT vj row :: R)) (hl : xs.length = 8) (hx : xs[j]? = some vj) (hrl : row.length < 1000) (hs : Srt row) :
    wp (qy tab qI n (.fn 68 [] []) [.ptr o 0, .int .i64 (j : Int), .int .u64 x] h) fun r h' => r = .tup [.int .i64 ((loP x row).length : Int), .bool (inP x row)] ∧ h' = h := by
  (refine qc (g := W68) rfl (by omega) fun k hk => ?_; show wp (S68 (qy tab qI k) _ _ _ _) _; unfold S68; try simp only [iI, uU, Int.ofNat_eq_natCast])
  have hj8 : j < 8 := by have := (List.getElem?_eq_some_iff.1 hx).1; omega
  have hll := VT (k := x) (row := row)
  refine jR (fun m s h' => ∃ i : Nat, s = (.int .i64 (i : Int), .int .u64 x, .int .i64 (j : Int), .ptr o 0, ()) ∧ i ≤ (loP x row).length ∧ m = (loP x row).length - i ∧ h' = h) ?_ (m := (loP x row).length) (by show _ < 1000000000; omega) ⟨0, rfl, by omega, by omega, rfl⟩
  rintro m ih s h1 hih ⟨i, rfl, hi, rfl, rfl⟩
  dsimp only
  have rd : ∀ {K : AV → Go.Ae.R} {Q : AV → AH → Prop}, wp (K vj) Q → wp (qe (.ptr o 0) fun v => qV v 0 fun v => ze v (.int .i64 (j : Int)) 8 1 fun v => qW h1 v K) Q := by
    intro K Q w
    refine qC (qZ (g9 (i := j) hj8 ?_))
    rw [show 0 + j * 1 = j by omega]
    exact qv H .here hx w
  refine rd ?_
  refine zi (xU H e_1) (vD ?_)
  refine Jg (fun s g' => ∃ (q : AV) (u y : Bool), s = (q, .bool u, .int .i64 (i : Int), .int .u64 x, .int .i64 (j : Int), .ptr o 0, ()) ∧ g' = h1 ∧ (u = true → q = .bool y) ∧ ((u && y) = decide (i < (loP x row).length))) ?_ ?_
  · intro jj hj
    refine Qn (fun hlt => ?_) (fun hlt => hj _ _ ⟨_, _, false, rfl, rfl, fun h => absurd (of_decide_eq_true h) hlt, ?_⟩)
    · have hir : i < row.length := by omega
      have hq : row[i]? = some row[i] := List.getElem?_eq_getElem hir
      have hra := (Zk (k := x) hs hq).1
      refine rd ?_
      refine zx (i := i) (f := 0) (x := .int .u64 row[i].1) (xU H e_1) (by omega) hir (wN (by omega) hq) ?_
      refine vD (hj _ _ ⟨_, _, decide (i < (loP x row).length), rfl, rfl, fun _ => ?_, ?_⟩)
      · congr 1; exact decide_eq_decide.2 hra.symm
      · simp; omega
    · have hni : ¬ i < (loP x row).length := by omega
      simp [hni]
  rintro s h2 ⟨q, u, y, rfl, rfl, hq, hux⟩
  refine vy hq ?_
  rw [hux]
  dsimp only
  refine JM (fun hic => ?_) fun hic => ?_
  · refine qU (by omega) ?_
    exact hih ((loP x row).length - (i + 1)) _ _ (by omega) ⟨i + 1, rfl, by omega, rfl, rfl⟩
  obtain rfl : i = (loP x row).length := by omega
  refine rd ?_
  refine zi (xU H e_1) (vD ?_)
  refine Jg (fun s g' => ∃ (q : AV) (u y : Bool), s = (q, .bool u, .int .i64 ((loP x row).length : Int), ()) ∧ g' = h2 ∧ (u = true → q = .bool y) ∧ ((u && y) = inP x row)) ?_ ?_
  · intro jj hj
    refine Qn (fun hlt => ?_) (fun hlt => hj _ _ ⟨_, _, false, rfl, rfl, fun h => absurd (of_decide_eq_true h) hlt, ?_⟩)
    · have hir : (loP x row).length < row.length := by omega
      have hq : row[(loP x row).length]? = some row[(loP x row).length] := List.getElem?_eq_getElem hir
      have hra := (Zk (k := x) hs hq).2 rfl
      refine rd ?_
      refine zx (i := (loP x row).length) (f := 0) (x := .int .u64 row[(loP x row).length].1) (xU H e_1) (by omega) hir (wN (by omega) hq) ?_
      refine kP (hj _ _ ⟨_, _, inP x row, rfl, rfl, fun _ => ?_, ?_⟩)
      · congr 1
        cases hb : inP x row
        · rw [hb] at hra; exact decide_eq_false (by simpa using hra)
        · rw [hb] at hra; exact decide_eq_true (by simpa using hra)
      · rw [decide_eq_true (by omega)]; rfl
    · rcases gK (k := x) hs with ⟨h1, _⟩ | ⟨v, h1, h2⟩
      · rw [h1]; simp
      · have := congrArg List.length h2
        rw [List.length_append, List.length_cons] at this
        omega
  rintro s h3 ⟨q, u, y, rfl, rfl, hq, hux⟩
  refine vy hq ?_
  rw [hux]
  exact qF (qz ⟨rfl, rfl⟩)
theorem gJ {xs : List AV} {j : Nat} {v : AV} (hx : xs[j]? = some v) : xs.set j v = xs := by
  have hj := (List.getElem?_eq_some_iff.1 hx).1
  apply List.ext_getElem?
  intro i
  rw [List.getElem?_set]
  by_cases hi : j = i
  · subst hi; rw [if_pos rfl, if_pos hj]; exact hx.symm
  · rw [if_neg hi]
theorem qZe {n : Nat} (hn : 2 ≤ n) {o j : Nat} {xs : List AV} {vj : AV} {row : List qm} {x y : Int} (H : HS g h (qg o xs :: zT vj row :: R)) (hl : xs.length = 8) (hx : xs[j]? = some vj) (hrl : row.length < 1000) (hs : Srt row) :
    wp (qy tab qI n (.fn 66 [] []) [.ptr o 0, .int .i64 (j : Int), .int .u64 x, .int .u64 y] h) fun r h' => ∃ v', r = .bool (!inP x row) ∧ One v' ∧ HS g h' (qg o (xs.set j v') :: zT v' (kK x y row) :: R) := by
  (refine qc (g := W66) rfl (by omega) fun k hk => ?_; show wp (S66 (qy tab qI k) _ _ _ _ _) _; unfold S66; try simp only [iI, uU, Int.ofNat_eq_natCast])
  have hj8 : j < 8 := by have := (List.getElem?_eq_some_iff.1 hx).1; omega
  have hll := VT (k := x) (row := row)
  have rd : ∀ {h0 : AH} {L0 R0 : List SP} {K : AV → Go.Ae.R} {Q : AV → AH → Prop}, HS g h0 L0 → Sel L0 (qg o xs) R0 → wp (K vj) Q → wp (qe (.ptr o 0) fun v => qV v 0 fun v => ze v (.int .i64 (j : Int)) 8 1 fun v => qW h0 v K) Q := by
    intro h0 L0 R0 K Q H0 s0 w
    refine qC (qZ (g9 (i := j) hj8 ?_))
    rw [show 0 + j * 1 = j by omega]
    exact qv H0 s0 hx w
  refine qJ (Yz (by omega) H hl hx hrl hs) ?_
  rintro _ h1 ⟨rfl, rfl⟩
  refine qw rfl (qw rfl ?_)
  rcases gK (k := x) hs with ⟨hin, hrow⟩ | ⟨v0, hin, hrow⟩
  · rw [hin]
    refine qK ?_
    refine rd H .here ?_
    refine XL (hi := (loP x row).length) (H.sub (L' := zT vj row :: qg o xs :: R) (.cons e_1 (.cons .here .refl))) (by omega) hll fun v1 H1 => ?_
    rw [Ya] at H1
    have et : row.take (loP x row).length = loP x row := M4 hrow
    rw [et] at H1
    refine zl (HS.nils H) (HS.sl H1 .here) (by omega) (by omega) (allX _) fun v2 h2 H2 => ?_
    rw [List.nil_append, Nat.zero_add] at H2
    refine qh (l := zL (x, y)) rfl ?_
    refine jo (n := 1) (l := zL (x, y)) (sz := 2) H2 rfl rfl rfl rfl fun v3 h3 H3 => ?_
    refine zl (H3.sel e_1) (H3.sl .here) (by omega) (by omega) rfl fun v4 h4 H4 => ?_
    refine rd H4 e_2 ?_
    refine VV (lo := (loP x row).length) (H4.sub (L' := zT vj row :: qg o xs :: R) (.cons e_3 (.cons e_2 (.drop (.drop .refl))))) (by omega) hll fun v5 S5 => ?_
    rw [XP] at S5
    have ed : row.drop (loP x row).length = hiP x row := qKN hrow
    rw [ed] at S5
    refine zl (H4.sel .here) S5 (by omega) (by omega) (allX _) fun v6 h6 H6 => ?_
    have o6 := H6.one .here
    refine qC (qZ (g9 (i := j) hj8 ?_))
    rw [show 0 + j * 1 = j by omega]
    refine jw H6 (b := o) e_2 o6 (by omega) fun h7 H7 => ?_
    refine qz ⟨v6, rfl, o6, ?_⟩
    have e : zT v6 (kK x y row) = qR 78 2 ((loP x row).length + 1 + (row.length - (loP x row).length)) v6 ((loP x row).flatMap zL ++ zL (x, y) ++ (hiP x row).flatMap zL) := by
      unfold zT kK
      have hlen := congrArg List.length hrow
      rw [List.length_append] at hlen
      rw [List.flatMap_append, List.flatMap_cons, List.length_append, List.length_cons, ← List.append_assoc]
      congr 1
      omega
    rw [e]
    exact H7.sub (.cons .here (.cons .here (.drop (.drop .refl))))
  · rw [hin]
    refine qq ?_
    refine rd H .here ?_
    have hlen := congrArg List.length hrow
    rw [List.length_append, List.length_cons] at hlen
    refine qQ4 (i := (loP x row).length) (f := 1) (x := .int .u64 y) (H.sub (L' := zT vj row :: qg o xs :: R) (.cons e_1 (.cons .here .refl))) (by omega) (by omega) ⟨rfl, rfl⟩ fun h2 H2 => ?_
    have e : (row.flatMap zL).set ((loP x row).length * 2 + 1) (.int .u64 y) = (kK x y row).flatMap zL := by
      have := NC (a := loP x row) (b := hiP x row) (k := x) (v := v0) (x := y)
      rw [← hrow] at this
      exact this
    rw [e] at H2
    have hpl : (kK x y row).length = row.length := by unfold kK; rw [List.length_append, List.length_cons]; omega
    rw [← hpl] at H2
    refine qz ⟨vj, rfl, XB (xU H e_1), ?_⟩
    rw [gJ hx]
    have H2 : HS g h2 (zT vj (kK x y row) :: qg o xs :: R) := H2
    exact H2.sub (.cons e_1 (.cons .here .refl))
theorem qXH {n : Nat} (hn : 2 ≤ n) {o j : Nat} {xs : List AV} {vj : AV} {row : List qm} {x : Int} (H : HS g h (qg o xs :: zT vj row :: R)) (hl : xs.length = 8) (hx : xs[j]? = some vj) (hrl : row.length < 1000) (hs : Srt row) :
    wp (qy tab qI n (.fn 67 [] []) [.ptr o 0, .int .i64 (j : Int), .int .u64 x] h) fun r h' => ∃ v', r = .bool (inP x row) ∧ One v' ∧ HS g h' (qg o (xs.set j v') :: zT v' (Je x row) :: R) := by
  (refine qc (g := W67) rfl (by omega) fun k hk => ?_; show wp (S67 (qy tab qI k) _ _ _ _) _; unfold S67; try simp only [iI, uU, Int.ofNat_eq_natCast])
  have hj8 : j < 8 := by have := (List.getElem?_eq_some_iff.1 hx).1; omega
  have hll := VT (k := x) (row := row)
  have rd : ∀ {h0 : AH} {L0 R0 : List SP} {K : AV → Go.Ae.R} {Q : AV → AH → Prop}, HS g h0 L0 → Sel L0 (qg o xs) R0 → wp (K vj) Q → wp (qe (.ptr o 0) fun v => qV v 0 fun v => ze v (.int .i64 (j : Int)) 8 1 fun v => qW h0 v K) Q := by
    intro h0 L0 R0 K Q H0 s0 w
    refine qC (qZ (g9 (i := j) hj8 ?_))
    rw [show 0 + j * 1 = j by omega]
    exact qv H0 s0 hx w
  refine qJ (Yz (by omega) H hl hx hrl hs) ?_
  rintro _ h1 ⟨rfl, rfl⟩
  refine qw rfl (qw rfl ?_)
  rcases gK (k := x) hs with ⟨hin, hrow⟩ | ⟨v0, hin, hrow⟩
  · rw [hin]
    refine ju (qq (qz ⟨vj, rfl, XB (xU H e_1), ?_⟩))
    rw [gJ hx, ZR hs hin]
    exact H
  · rw [hin]
    have hlen := congrArg List.length hrow
    rw [List.length_append, List.length_cons] at hlen
    refine jc (qK ?_)
    refine rd H .here ?_
    refine XL (hi := (loP x row).length) (H.sub (L' := zT vj row :: qg o xs :: R) (.cons e_1 (.cons .here .refl))) (by omega) hll fun v1 H1 => ?_
    rw [Ya] at H1
    have et : row.take (loP x row).length = loP x row := M4 hrow
    rw [et] at H1
    refine zl (HS.nils H) (HS.sl H1 .here) (by omega) (by omega) (allX _) fun v2 h2 H2 => ?_
    rw [List.nil_append, Nat.zero_add] at H2
    refine rd H2 e_1 ?_
    refine qU (by omega) ?_
    refine VV (lo := (loP x row).length + 1) (H2.sub (L' := zT vj row :: qg o xs :: R) (.cons e_2 (.cons e_1 (.drop .refl)))) (by omega) (by omega) fun v5 S5 => ?_
    rw [XP] at S5
    have ed : row.drop ((loP x row).length + 1) = hiP x row := ZE hrow
    rw [ed] at S5
    refine zl (H2.sel .here) S5 (by omega) (by omega) (allX _) fun v6 h6 H6 => ?_
    have o6 := H6.one .here
    refine qC (qZ (g9 (i := j) hj8 ?_))
    rw [show 0 + j * 1 = j by omega]
    refine jw H6 (b := o) e_1 o6 (by omega) fun h7 H7 => ?_
    refine qz ⟨v6, rfl, o6, ?_⟩
    have e : zT v6 (Je x row) = qR 78 2 ((loP x row).length + (row.length - ((loP x row).length + 1))) v6 ((loP x row).flatMap zL ++ (hiP x row).flatMap zL) := by
      unfold zT Je
      rw [List.flatMap_append, List.length_append]
      congr 1
      omega
    rw [e]
    exact H7.sub (.cons .here (.cons .here (.drop .refl)))
end Go.Proofs.YtpohfcljfemhlaaGreat.arenaParts
namespace Go.Proofs.YtpohfcljfemhlaaGreat.arenaParts
open Go Go.Ae arenaPlays
set_option maxRecDepth 100000
variable {g h : AH} {L R : List SP}
theorem NB {n : Nat} (hn : 1 ≤ n) {o j : Nat} {xs : List AV} {vj : AV} {row : List qm} {lo hi : Int} (H : HS g h (qg o xs :: zT vj row :: R)) (hl : xs.length = 8) (hx : xs[j]? = some vj) (hrl : row.length < 1000) :
    wp (qy tab qI n (.fn 69 [] []) [.ptr o 0, .int .i64 (j : Int), .int .u64 lo, .int .u64 hi] h) fun r h' => r = .int .i64 ((xe lo hi row).length : Int) ∧ h' = h := by
  (refine qc (g := W69) rfl (by omega) fun k hk => ?_; show wp (S69 (qy tab qI k) _ _ _ _ _) _; unfold S69; try simp only [iI, uU, Int.ofNat_eq_natCast])
  have hj8 : j < 8 := by have := (List.getElem?_eq_some_iff.1 hx).1; omega
  refine jR (fun m s h' => ∃ i : Nat, s = (.int .i64 (i : Int), .int .i64 ((xe lo hi (row.take i)).length : Int), .int .u64 hi, .int .u64 lo, .int .i64 (j : Int), .ptr o 0, ()) ∧ i ≤ row.length ∧ m = row.length - i ∧ h' = h) ?_ (m := row.length) (by show _ < 1000000000; omega) ⟨0, rfl, by omega, by omega, rfl⟩
  rintro m ih s h1 hih ⟨i, rfl, hi2, rfl, rfl⟩
  dsimp only
  have rd : ∀ {K : AV → Go.Ae.R} {Q : AV → AH → Prop}, wp (K vj) Q → wp (qe (.ptr o 0) fun v => qV v 0 fun v => ze v (.int .i64 (j : Int)) 8 1 fun v => qW h1 v K) Q := by
    intro K Q w
    refine qC (qZ (g9 (i := j) hj8 ?_))
    rw [show 0 + j * 1 = j by omega]
    exact qv H .here hx w
  have hcl : (xe lo hi (row.take i)).length ≤ i := by
    have h1 := List.length_filter_le (fun q : qm => decide (lo ≤ q.1 ∧ q.1 ≤ hi)) (row.take i)
    have h2 := List.length_take_le i row
    unfold xe
    omega
  refine rd ?_
  refine zi (xU H e_1) ?_
  by_cases hlt : i < row.length
  · have hq : row[i]? = some row[i] := List.getElem?_eq_getElem hlt
    have hnext : row.take (i + 1) = row.take i ++ [row[i]] := List.take_succ_eq_append_getElem hlt
    generalize row[i] = q at *
    have hcn : (xe lo hi (row.take (i + 1))).length = (xe lo hi (row.take i)).length + if lo ≤ q.1 ∧ q.1 ≤ hi then 1 else 0 := by
      rw [hnext]
      unfold xe
      rw [List.filter_append, List.length_append, List.filter_cons]
      by_cases hc : lo ≤ q.1 ∧ q.1 ≤ hi
      · rw [if_pos hc, if_pos (decide_eq_true hc)]; rfl
      · rw [if_neg hc, if_neg (by simpa using hc)]; rfl
    refine zA (by omega) (qq ?_)
    refine z9 [] (fun s h' => s = (.int .i64 (i : Int), .int .i64 ((xe lo hi (row.take (i + 1))).length : Int), .int .u64 hi, .int .u64 lo, .int .i64 (j : Int), .ptr o 0, ()) ∧ h' = h1) ?_ ?_
    · intro jj hj
      refine rd ?_
      refine zx (i := i) (f := 0) (x := .int .u64 q.1) (xU H e_1) (by omega) hlt (wN (by omega) hq) ?_
      refine KF ?_
      refine Jg (fun s g' => ∃ (q1 : AV) (u y : Bool), s = (q1, .bool u, .int .i64 (i : Int), .int .i64 ((xe lo hi (row.take i)).length : Int), .int .u64 hi, .int .u64 lo, .int .i64 (j : Int), .ptr o 0, ()) ∧ g' = h1 ∧ (u = true → q1 = .bool y) ∧ ((u && y) = decide (lo ≤ q.1 ∧ q.1 ≤ hi))) ?_ ?_
      · intro j2 hj2
        refine Qn (fun hlo => ?_) (fun hlo => hj2 _ _ ⟨_, _, false, rfl, rfl, fun h => absurd (of_decide_eq_true h) hlo, ?_⟩)
        · refine rd ?_
          refine zx (i := i) (f := 0) (x := .int .u64 q.1) (xU H e_1) (by omega) hlt (wN (by omega) hq) ?_
          refine Ki (hj2 _ _ ⟨_, _, decide (q.1 ≤ hi), rfl, rfl, fun _ => rfl, ?_⟩)
          simp [hlo]
        · simp [hlo]
      rintro s h2 ⟨q1, u, y, rfl, rfl, hq1, hux⟩
      refine vy hq1 ?_
      rw [hux]
      dsimp only
      refine JM (fun hic => ?_) fun hic => ?_
      · refine qU (by omega) ?_
        refine hj _ _ ⟨?_, rfl⟩
        rw [hcn, if_pos hic]
        rfl
      · refine hj _ _ ⟨?_, rfl⟩
        rw [hcn, if_neg hic]
        rfl
    · rintro s h3 ⟨rfl, rfl⟩
      dsimp only
      refine qU (by omega) ?_
      exact hih (row.length - (i + 1)) _ _ (by omega) ⟨i + 1, rfl, by omega, rfl, rfl⟩
  · obtain rfl : i = row.length := by omega
    refine jh (by omega) (qK (qF (qz ⟨?_, rfl⟩)))
    rw [List.take_length]
theorem qVc {n : Nat} (hn : 4 ≤ n) {o j : Nat} {xs : List AV} {vj : AV} {row : List qm} {c : vH} (H : HS g h (qg o xs :: zT vj row :: R)) (hl : xs.length = 8) (hx : xs[j]? = some vj) (hj : 6 + jm c.2.1 0 1 = (j : Int)) (hw : 9 ≤ c.1 ∧ c.1 ≤ 12) (hrl : row.length < 1000) (hs : Srt row) :
    wp (qy tab qI n (.fn 30 [] []) [.ptr o 0, .agg (zW c)] h) fun r h' => ∃ v', r = .tup [.agg (kZ (XW c.1 (c.2.2.1.tmod 12) (c.2.2.2.tmod 12) row).1), .bool true] ∧ One v' ∧
      HS g h' (qg o (xs.set j v') :: zT v' (XW c.1 (c.2.2.1.tmod 12) (c.2.2.2.tmod 12) row).2 :: R) := by
  (refine qc (g := W30) rfl (by omega) fun k hk => ?_; show wp (S30 (qy tab qI k) _ _ _) _; unfold S30; try simp only [iI, uU, Int.ofNat_eq_natCast])
  have hj8 : j < 8 := by have := (List.getElem?_eq_some_iff.1 hx).1; omega
  refine jk H rfl fun b h1 H1 => ?_
  refine jk H1 rfl fun b2 h2 H2 => ?_
  have H2 : HS g h2 (qg b2 [.int .i64 ((0 : Nat) : Int), .int .u64 ((0 : Nat) : Int)] :: qg b (zW c) :: qg o xs :: zT vj row :: R) := H2
  refine qk ?_
  refine jx H2 (b := b) (off := 0) e_1 rfl (by omega) rfl ?_
  refine qJ (QZ (c := c) (by omega) H2 hw) ?_
  rintro _ h3 ⟨rfl, H3⟩
  rw [hj]
  refine jx H3 (b := b) (off := 0) e_1 rfl (by omega) rfl ?_
  refine qJ (JQ (c := c) (by omega) H3) ?_
  rintro _ h4 ⟨rfl, H4⟩
  refine jx H4 (b := b) (off := 0) e_1 rfl (by omega) rfl ?_
  refine qJ (KE (c := c) (by omega) H4) ?_
  rintro _ h5 ⟨rfl, H5⟩
  refine gC H3 (b := b) e_1 rfl H4 e_1 rfl rfl (by omega) (HS.lt H2 e_1) ?_
  refine gC H2 (b := b) e_1 rfl H3 e_1 rfl rfl (by omega) (HS.lt H2 e_1) ?_
  refine gC H2 (b := b) e_1 rfl H3 e_1 rfl rfl (by omega) (HS.lt H2 e_1) ?_
  clear H H1 H2 H3 H4
  refine jx H5 (b := b) (off := 0) e_1 rfl (by omega) rfl ?_
  refine qJ (Js (c := c) (by omega) H5 (by omega)) ?_
  rintro _ h6 ⟨rfl, H⟩
  clear H5
  generalize c.2.2.1.tmod 12 = x at *
  generalize c.2.2.2.tmod 12 = y at *
  have H : HS g h6 (qg o xs :: zT vj row :: qg b2 [.int .i64 ((0 : Nat) : Int), .int .u64 ((0 : Nat) : Int)] :: qg b (zW c) :: R) := H.sub (.cons e_2 (.cons e_2 (.cons .here (.cons .here .refl))))
  have o0 := XB (xU H e_1)
  have hw4 : c.1 = 9 ∨ c.1 = 10 ∨ c.1 = 11 ∨ c.1 = 12 := by omega
  rcases hw4 with hw | hw | hw | hw
  · rw [hw]
    unfold XW
    rw [if_pos rfl]
    with_reducible (refine qk ?_; (try dsimp only); refine ql (by omega) ?_; refine qK ?_; refine qk ?_; (try dsimp only); refine ql (by omega) ?_; refine qK ?_; refine jA (by omega) ?_; refine qq ?_)
    refine qJ (qZe (x := x) (y := y) (by omega) H hl hx hrl hs) ?_
    rintro _ h7 ⟨v', rfl, o7, H7⟩
    cases inP x row
    all_goals
      simp only [Bool.not_false, Bool.not_true]
      (first | with_reducible (refine qq ?_; refine qh (by with_unfolding_all exact rfl) ?_) | with_reducible (refine qK ?_; refine qh (by with_unfolding_all exact rfl) ?_))
      refine js H7 (b := b2) e_2 rfl (by simp) rfl fun h8 H8 => ?_
      with_reducible (refine qF ?_)
      refine jx H8 (b := b2) (off := 0) .here rfl (by omega) rfl ?_
      exact qz ⟨v', rfl, o7, H8.sub (.cons e_1 (.cons e_1 (.drop (.drop .refl))))⟩
  · rw [hw]
    unfold XW
    rw [if_neg (by omega), if_pos rfl]
    with_reducible (refine qk ?_; (try dsimp only); refine ql (by omega) ?_; refine qK ?_; refine qk ?_; (try dsimp only); refine ql (by omega) ?_; refine qK ?_; refine ql (by omega) ?_; refine qK ?_; refine qk ?_; (try dsimp only); refine ql (by omega) ?_; refine qK ?_; refine ql (by omega) ?_; refine qK ?_; refine ql (by omega) ?_; refine qK ?_; refine ql (by omega) ?_; refine qK ?_; refine qk ?_; (try dsimp only); refine ql (by omega) ?_; refine qK ?_; refine jA (by omega) ?_; refine qq ?_)
    refine qJ (Yz (x := x) (by omega) H hl hx hrl hs) ?_
    rintro _ h7 ⟨rfl, rfl⟩
    rcases gK (k := x) hs with ⟨hin, hrow⟩ | ⟨v0, hin, hrow⟩
    · rw [hin, Mh hin]
      with_reducible (refine qw (by with_unfolding_all exact rfl) ?_; refine qw (by with_unfolding_all exact rfl) ?_; refine ju ?_; refine qq ?_; refine qh (by with_unfolding_all exact rfl) ?_)
      refine js H (b := b2) e_2 rfl (by simp) rfl fun h8 H8 => ?_
      with_reducible (refine qF ?_)
      refine jx H8 (b := b2) (off := 0) .here rfl (by omega) rfl ?_
      refine qz ⟨vj, rfl, o0, ?_⟩
      rw [gJ hx]
      exact H8.sub (.cons e_1 (.cons e_1 (.drop (.drop .refl))))
    · have hg : Jz x row = (v0, true) := by
        have hlo : ∀ y ∈ loP x row, y.1 < x := fun y hy => by have := (List.mem_filter.1 hy).2; simpa using this
        have := Uc (x := v0) (b := hiP x row) hlo
        rw [← hrow] at this
        exact this
      have hlen := congrArg List.length hrow
      rw [List.length_append, List.length_cons] at hlen
      have hq : row[(loP x row).length]? = some (x, v0) := by
        have : ∀ {row a b : List qm} {q : qm}, row = a ++ q :: b → row[a.length]? = some q := by
          rintro row a b q rfl
          rw [List.getElem?_append_right (Nat.le_refl _), Nat.sub_self]; rfl
        exact this hrow
      rw [hin, hg]
      with_reducible (refine qw (by with_unfolding_all exact rfl) ?_; refine qw (by with_unfolding_all exact rfl) ?_; refine jc ?_; refine qK ?_; refine qC ?_; refine qZ ?_)
      refine g9 (i := j) hj8 ?_
      rw [show 0 + j * 1 = j by omega]
      refine qv H .here hx ?_
      refine zx (i := (loP x row).length) (f := 1) (x := .int .u64 v0) (xU H e_1) (by omega) (by omega) (wN (by omega) hq) ?_
      with_reducible (refine qh (by with_unfolding_all exact rfl) ?_)
      refine js H (b := b2) e_2 rfl (by simp) rfl fun h8 H8 => ?_
      with_reducible (refine qF ?_)
      refine jx H8 (b := b2) (off := 0) .here rfl (by omega) rfl ?_
      refine qz ⟨vj, rfl, o0, ?_⟩
      rw [gJ hx]
      exact H8.sub (.cons e_1 (.cons e_1 (.drop (.drop .refl))))
  · rw [hw]
    unfold XW
    rw [if_neg (by omega), if_neg (by omega), if_pos rfl]
    with_reducible (refine qk ?_; (try dsimp only); refine ql (by omega) ?_; refine qK ?_; refine qk ?_; (try dsimp only); refine ql (by omega) ?_; refine qK ?_; refine ql (by omega) ?_; refine qK ?_; refine qk ?_; (try dsimp only); refine ql (by omega) ?_; refine qK ?_; refine ql (by omega) ?_; refine qK ?_; refine jA (by omega) ?_; refine qq ?_)
    refine qJ (qXH (x := x) (by omega) H hl hx hrl hs) ?_
    rintro _ h7 ⟨v', rfl, o7, H7⟩
    cases inP x row
    all_goals
      (first | with_reducible (refine qK ?_; refine qh (by with_unfolding_all exact rfl) ?_) | with_reducible (refine qq ?_; refine qh (by with_unfolding_all exact rfl) ?_))
      refine js H7 (b := b2) e_2 rfl (by simp) rfl fun h8 H8 => ?_
      with_reducible (refine qF ?_)
      refine jx H8 (b := b2) (off := 0) .here rfl (by omega) rfl ?_
      exact qz ⟨v', rfl, o7, H8.sub (.cons e_1 (.cons e_1 (.drop (.drop .refl))))⟩
  · rw [hw]
    unfold XW
    rw [if_neg (by omega), if_neg (by omega), if_neg (by omega)]
    with_reducible (refine qk ?_; (try dsimp only); refine ql (by omega) ?_; refine qK ?_; refine qk ?_; (try dsimp only); refine ql (by omega) ?_; refine qK ?_; refine ql (by omega) ?_; refine qK ?_; refine qk ?_; (try dsimp only); refine ql (by omega) ?_; refine qK ?_; refine ql (by omega) ?_; refine qK ?_; refine ql (by omega) ?_; refine qK ?_; refine ql (by omega) ?_; refine qK ?_; refine qk ?_; (try dsimp only); refine ql (by omega) ?_; refine qK ?_; refine ql (by omega) ?_; refine qK ?_; refine ql (by omega) ?_; refine qK ?_; refine ql (by omega) ?_; refine qK ?_)
    refine qJ (NB (lo := x) (hi := y) (by omega) H hl hx hrl) ?_
    rintro _ h7 ⟨rfl, rfl⟩
    have hcl : (xe x y row).length ≤ row.length := List.length_filter_le _ _
    refine z7 (by omega) ?_
    with_reducible (refine qh (by with_unfolding_all exact rfl) ?_)
    refine js H (b := b2) e_2 rfl (by simp) rfl fun h8 H8 => ?_
    with_reducible (refine qF ?_)
    refine jx H8 (b := b2) (off := 0) .here rfl (by omega) rfl ?_
    refine qz ⟨vj, rfl, o0, ?_⟩
    rw [gJ hx]
    exact H8.sub (.cons e_1 (.cons e_1 (.drop (.drop .refl))))
end Go.Proofs.YtpohfcljfemhlaaGreat.arenaParts
namespace Go.Proofs.YtpohfcljfemhlaaGreat.arenaParts
open Go Go.Ae arenaPlays
set_option maxRecDepth 100000
variable {g h : AH} {L R : List SP}
theorem UV {zs C : List Cl} {W F : List Int} {nd : Int} (hK : jD (lvV 256 zs [] [] nd)) (hu : UnC C) (hi : InC C) (hl : C.length ≤ 96) (hw : WdC C) (hf : F.length < 1000) : jD (lvV 256 zs C F nd) := by
  refine ⟨⟨hK.ok.lo, hK.ok.hi, ⟨?_, by show (96 : Nat) ≤ 96; omega, ?_, ?_, by show 1 ≤ 1; omega, by show 1 ≤ 6; omega⟩, hK.ok.ins, hK.ok.un, ?_⟩, ⟨hK.wd.k, ?_⟩⟩
  · show xW [(C, F)] ≤ 96
    simp [xW]; exact hl
  · intro x hx; rw [List.mem_singleton.1 hx]; exact hi
  · intro x hx; rw [List.mem_singleton.1 hx]; exact hu
  · intro x hx; rw [List.mem_singleton.1 hx]; show F.length < 100000; omega
  · intro x hx; rw [List.mem_singleton.1 hx]; exact hw
theorem QE {K : List Cl} {W : List Int} {p p' : Int} {t t' : Tr} {k x nd : Int} (Z : xN W 256 [] p t p' t') (hK : Vg W K) : (∀ y, vu (Mv K nd) (xd p k) = some (y, false) → y = 0) ∧ (∀ l, vu (Mv K nd) (ja p k x) = some l → l.length ≤ 1000) := by
  have hz := Z.H.size.2.2
  refine ⟨fun y hy => ?_, fun l hl => ?_⟩
  · obtain ⟨o, e, W', C', F', s', q1, q2, ⟨q3, q10⟩, q4, q5, q6, q7, q9, q8⟩ := Xj (by omega) (qJN (key := k) (Q := fun o e _ _ => o = some (Jz k (inr t)) ∧ e = 0) Z ⟨rfl, rfl⟩) (Wd.nil hz) (Nat.le_refl 0) List.nodup_nil (fun c hc => by cases hc) (by omega)
    have hy : (qO (xd p k) ⟨lvV 256 K [] [] 0, 0, 0⟩).1 = some (y, false) := hy
    rcases q8 K 0 hK with ⟨_, _, _, _, h1, _⟩ | h1
    · rw [h1] at hy; cases hy
    · rw [h1, q3] at hy
      have : Jz k (inr t) = (y, false) := Option.some.inj hy
      unfold Jz at this
      split at this
      · cases this
      · cases this; rfl
  · obtain ⟨o, e, W', C', F', s', q1, q2, ⟨q3, q10⟩, q4, q5, q6, q7, q9, q8⟩ := Xj (by omega) (YB (lo := k) (hi := x) (Q := fun o e _ _ => o = some (xe k x (inr t)) ∧ e = 0) Z ⟨rfl, rfl⟩) (Wd.nil hz) (Nat.le_refl 0) List.nodup_nil (fun c hc => by cases hc) (by omega)
    have hl : (qO (ja p k x) ⟨lvV 256 K [] [] 0, 0, 0⟩).1 = some l := hl
    rcases q8 K 0 hK with ⟨_, _, _, _, h1, _⟩ | h1
    · rw [h1] at hl; cases hl
    · rw [h1, q3] at hl
      have e : xe k x (inr t) = l := Option.some.inj hl
      have h2 : (xe k x (inr t)).length ≤ (inr t).length := List.length_filter_le _ _
      have h3 := Z.A.few
      rw [Xg] at h3
      rw [← e]; omega
theorem VJ {n : Nat} (hn : 2120 ≤ n) {o j : Nat} {xs : List AV} {vj wv : AV} {e : TypeId} {zs : List Int} {p p' : Int} {t t' : Tr} {c : vH} (H : HS g h (qR e 1 zs.length wv (zs.map (.int .u64)) :: qg o xs :: zT vj (inr t) :: R))
    (Z : xN zs 256 [] p t p' t') (hl : xs.length = 8) (hx : xs[j]? = some vj) (hj : 6 + jm c.2.1 0 1 = (j : Int)) (hp : p = 6 + (j : Int)) (hw : 9 ≤ c.1 ∧ c.1 ≤ 12) (hkk : 0 ≤ c.2.2.1) (hxx : 0 ≤ c.2.2.2) :
    wp (qy tab qI n (.fn 8 [] []) [wv, .ptr o 0, .agg (zW c)] h) fun r h' => ∃ wv' e' zs' t2 v', r = .tup [wv', .bool true] ∧ xN zs' 256 [] p t2 p' t' ∧ One v' ∧
      qG zs 5 ≤ qG zs' 5 ∧ HS g h' (qR e' 1 zs'.length wv' (zs'.map (.int .u64)) :: qg o (xs.set j v') :: zT v' (inr t2) :: R) := by
  (refine qc (g := W8) rfl (by omega) fun k hk => ?_; show wp (S8 (qy tab qI k) _ _ _ _) _; unfold S8; try simp only [iI, uU, Int.ofNat_eq_natCast])
  have hz := Z.H.size.2.2
  have hj8 : j < 8 := by have := (List.getElem?_eq_some_iff.1 hx).1; omega
  have hfew := Z.A.few
  rw [Xg] at hfew
  have hrr := Z.rr
  have hbm := Z.H.bump
  have hsrt := Z.A.srt
  have hkb1 := Int.tmod_nonneg 12 hkk
  have hkb2 := Int.tmod_lt_of_pos c.2.2.1 (show (0 : Int) < 12 by omega)
  have hxb1 := Int.tmod_nonneg 12 hxx
  have hxb2 := Int.tmod_lt_of_pos c.2.2.2 (show (0 : Int) < 12 by omega)
  refine jk H rfl fun b h1 H1 => ?_
  have H1 : HS g h1 (qg b (zW c) :: qR e 1 zs.length wv (zs.map (.int .u64)) :: qg o xs :: zT vj (inr t) :: R) := H1
  refine qJ (k7 (zs := zs) (m := ((96 : Nat) : Int)) (by omega) H1 (H1.rd e_1)) ?_
  rintro _ h2 ⟨v, rfl, H2⟩
  rw [show ((96 : Nat) : Int) = 96 from rfl] at H2
  have G := wh (m := 96) Z.H.nn
  rw [Yv hz] at H2 G
  refine Qp ?_
  with_reducible (refine qK ?_)
  refine jx H2 (b := b) (off := 0) e_1 rfl (by omega) rfl ?_
  refine qJ (QZ (c := c) (by omega) H2 hw) ?_
  rintro _ h3 ⟨rfl, H3⟩
  rw [hj]
  refine qU (by omega) ?_
  rw [show ((6 : Nat) : Int) + (j : Int) = p by omega]
  refine jx H3 (b := b) (off := 0) e_1 rfl (by omega) rfl ?_
  obtain ⟨k1, k2⟩ := QP hz
  obtain ⟨it, er, C', F', CO⟩ := Gj Z hw ⟨hkb1, hkb2⟩ ⟨hxb1, hxb2⟩
  obtain ⟨sd1, sd2⟩ := QE (k := c.2.2.1.tmod 12) (x := c.2.2.2.tmod 12) (nd := 0) Z k1
  refine qJ (UD (c := c) (by omega) H3 G rfl (by omega) hw hkk hxx (CO.run _ _ k1).1 sd1 (fun l h _ => sd2 l h)) ?_
  rintro _ h4 ⟨rfl, H4⟩
  have hrun : ww (Mv (kW zs) 0) p c.1 (c.2.2.1.tmod 12) (c.2.2.2.tmod 12) = (it, er, if er = 0 then lvV 256 (kW zs) C' F' 0 else Mv (kW zs) 0) := by
    rcases (CO.run (kW zs) 0 k1).2 with ⟨q, h1, h2, _, h3, _⟩ | h
    · exact absurd h3 (k2 q h1 h2)
    · exact h
  rw [hrun] at H4 ⊢
  dsimp only at H4 ⊢
  clear H H1 H2 H3
  with_reducible (refine qw (by with_unfolding_all exact rfl) ?_; refine qw (by with_unfolding_all exact rfl) ?_)
  refine jk H4 rfl fun bx h5 H5 => ?_
  refine js H5 (b := bx) .here rfl (by simp) rfl fun h6 H6 => ?_
  have H6 : HS g h6 (qg bx (kZ it) :: ViewC v (if er = 0 then lvV 256 (kW zs) C' F' 0 else Mv (kW zs) 0) :: qg b (zW c) :: qR e 1 zs.length wv (zs.map (.int .u64)) :: qg o xs :: zT vj (inr t) :: R) := H6
  clear H4 H5
  rcases CO.out with ⟨rfl, hfull⟩ | ⟨rfl, hb5, ht, t2, hrow, hF⟩
  · rw [if_neg (by omega)] at H6
    refine jA rfl ?_
    refine qk ?_
    refine qr ?_
    refine jv H6 e_3 ?_
    with_reducible (refine x6 (by omega) ?_; refine qS ?_; refine qk ?_; (try dsimp only); refine qr ?_; (try dsimp only))
    refine zo (i := 5) (H6.sl e_3) (y7 (by omega)) ?_
    refine x9 (by omega) ?_
    refine jv H6 e_3 ?_
    with_reducible (refine z7 (by omega) ?_; refine x6 (by omega) ?_; refine qS ?_; refine qq ?_)
    refine qJ (yY (by omega) (H6.sel e_1) G.ok) fun cv h7 H7 => ?_
    rw [show jq (Mv (kW zs) 0).lv = [] from rfl] at H7
    refine jv H7 .here ?_
    rw [show ([] : List Cl).length = 0 from rfl]
    with_reducible (refine jA (by omega) ?_; refine qk ?_; (try dsimp only); refine qr ?_; (try dsimp only))
    refine qJ (Ju (by omega) (H7.sel e_1) G.ok) fun fv h8 H8 => ?_
    rw [show xG (Mv (kW zs) 0).lv = [] from rfl] at H8
    refine jv H8 .here ?_
    rw [show ([] : List Int).length = 0 from rfl]
    with_reducible (refine jA (by omega) ?_; refine qS ?_; refine qk ?_; (try dsimp only); refine qr ?_; (try dsimp only))
    refine qJ (Gb (by omega) (H8.sel e_1)) ?_
    rintro _ h9 ⟨rfl, rfl⟩
    rw [show ((Mv (kW zs) 0).lv.length : Int) = ((1 : Nat) : Int) from rfl]
    with_reducible (refine jA (by omega) ?_; refine qS ?_)
    refine qz ⟨wv, e, zs, t, vj, rfl, Z, XB (xU H8 e_7), Int.le_refl _, ?_⟩
    rw [gJ hx]
    exact H8.sub (.cons e_5 (.cons e_5 (.cons e_5 (.drop (.drop (.drop (.drop (.drop (.refl)))))))))
  · rw [if_pos rfl] at H6
    have GO := UV (W := []) (F := F') G CO.un CO.ins CO.few (CO.wd rfl) (by rcases hF with ⟨rfl, _⟩ | ⟨a, rfl, _⟩ <;> simp)
    with_reducible (refine ql (by omega) ?_; refine qk ?_; (try dsimp only); refine jg ?_; (try dsimp only); refine qT ?_; refine qk ?_; (try dsimp only); refine jg ?_; (try dsimp only); refine qT ?_; refine qK ?_)
    refine jx H6 (b := b) (off := 0) e_2 rfl (by omega) rfl ?_
    refine qJ (qVc (c := c) (j := j) (by omega) (H6.sub (L' := qg o xs :: zT vj (inr t) :: qg bx (kZ it) :: ViewC v (lvV 256 (kW zs) C' F' 0) :: qg b (zW c) :: qR e 1 zs.length wv (zs.map (.int .u64)) :: R) (.cons e_4 (.cons e_4 (.cons .here (.cons .here (.cons .here (.cons .here .refl))))))) hl hx hj hw (by omega) hsrt) ?_
    rintro _ h7 ⟨v', rfl, ov, H7⟩
    rw [← hrow] at H7
    rw [← ht]
    with_reducible (refine qw (by with_unfolding_all exact rfl) ?_; refine qw (by with_unfolding_all exact rfl) ?_)
    refine jk H7 rfl fun by_ h8 H8 => ?_
    refine js H8 (b := by_) .here rfl (by simp) rfl fun h9 H9 => ?_
    have H9 : HS g h9 (qg by_ (kZ it) :: qg o (xs.set j v') :: zT v' (inr t2) :: qg bx (kZ it) :: ViewC v (lvV 256 (kW zs) C' F' 0) :: qg b (zW c) :: qR e 1 zs.length wv (zs.map (.int .u64)) :: R) := H9
    clear H6 H7 H8
    have hW : ∃ Wr, ((F' = [] ∧ Wr = jV zs C') ∨ ∃ a c2, F' = [a] ∧ kU (zy (jV zs C') 96) a = (0, yK (jV zs C') 96 c2 []) ∧ c2.length ≤ 2 ∧ Wr = jV (jV zs C') c2) ∧ xN Wr 256 [] p t2 p' t' ∧ qG (jV zs C') 5 ≤ qG Wr 5 := by
      rcases hF with ⟨h1, h2⟩ | ⟨a, h1, h2⟩
      · exact ⟨_, .inl ⟨h1, rfl⟩, h2, Int.le_refl _⟩
      · have hg := NI h2
        exact ⟨_, .inr ⟨a, _, h1, hg.1, by simp, rfl⟩, hg.2.1, hg.2.2⟩
    have hnA : ∀ z ∈ jV zs C', 0 ≤ z ∧ z < 18446744073709551616 := yc Z.H.nn (CO.wd rfl)
    obtain ⟨Wr, hWr, Z2, hb6⟩ := hW
    have Z2z := Z2.H.size.2.2
    obtain ⟨w1, w2⟩ := QP Z2z
    obtain ⟨a1, a2⟩ := N1 (lo := 0) (hi := 18446744073709551615) Z2
    rw [qKB Z2.A.key (by omega)] at a2
    have hfew2 := Z2.A.few
    rw [Xg] at hfew2
    have GW := wh (m := 96) Z2.H.nn
    rw [Yv Z2z] at GW
    with_reducible (refine jP (by omega) ?_; refine qk ?_; (try dsimp only); refine qo ?_; (try dsimp only); refine qk ?_; (try dsimp only); refine qr ?_; (try dsimp only))
    refine jx H9 (b := bx) (off := 0) e_3 rfl (by omega) rfl ?_
    refine jx H9 (b := by_) (off := 0) .here rfl (by omega) rfl ?_
    refine KA (it_eq it it) (fun _ => ?_) (fun h => absurd rfl h)
    rw [show (!true) = false from rfl]
    with_reducible (refine qk ?_; (try dsimp only); refine qo ?_; (try dsimp only); refine qS ?_; refine qT ?_; refine qk ?_; (try dsimp only); refine qo ?_; (try dsimp only); refine jc ?_; refine qk ?_; (try dsimp only); refine jg ?_; (try dsimp only); refine qk ?_; (try dsimp only); refine qo ?_; (try dsimp only); refine qT ?_; refine qT ?_; refine qk ?_; (try dsimp only); refine qo ?_; (try dsimp only))
    refine qJ (Gb (by omega) (H9.sel e_4)) ?_
    rintro _ h10 ⟨rfl, rfl⟩
    rw [show ((lvV 256 (kW zs) C' F' 0).lv.length : Int) = ((1 : Nat) : Int) from rfl]
    with_reducible (refine jP (by omega) ?_; refine qT ?_; refine qK ?_)
    refine qJ (ON (zs := zs) (Wr := Wr) (cs := C') (F := F') (by omega) (H9.sub (L' := ViewC v (lvV 256 (kW zs) C' F' 0) :: qR e 1 zs.length wv (zs.map (.int .u64)) :: qg o (xs.set j v') :: zT v' (inr t2) :: qg b (zW c) :: R) (.cons e_4 (.cons e_5 (.cons e_1 (.cons e_1 (.cons e_2 (.drop (.drop .refl)))))))) (Rd.own .here) GO hnA rfl (by have := CO.few; omega) (by show [(C', F')].reverse.flatMap (·.2) = F'; simp) hWr) ?_
    rintro _ h11 ⟨wv2, e2, rfl, H11⟩
    with_reducible (refine qw (by with_unfolding_all exact rfl) ?_; refine qw (by with_unfolding_all exact rfl) ?_)
    refine qJ (k7 (zs := Wr) (m := ((96 : Nat) : Int)) (by omega) H11 (H11.rd .here)) ?_
    rintro _ h12 ⟨u, rfl, H12⟩
    rw [show ((96 : Nat) : Int) = 96 from rfl, Yv Z2z] at H12
    with_reducible (refine jc ?_; refine qk ?_; (try dsimp only); refine qo ?_; (try dsimp only))
    refine Qp ?_
    with_reducible (refine qT ?_; refine qK ?_)
    refine qJ (qXs (l := inr t2) (by omega) H12 GW rfl (by omega) (by rw [a1]) a2) ?_
    rintro _ h13 ⟨pv, rfl, H13⟩
    rw [a1] at H13
    have H13 : HS g h13 (Qx pv (inr t2) :: ViewC u (Mv (kW Wr) 0) :: qR e2 1 Wr.length wv2 (Wr.map (.int .u64)) :: qR e 1 zs.length wv (zs.map (.int .u64)) :: qg o (xs.set j v') :: zT v' (inr t2) :: qg b (zW c) :: R) := H13
    with_reducible (refine qw (by with_unfolding_all exact rfl) ?_; refine qw (by with_unfolding_all exact rfl) ?_; refine jA (by omega) ?_; refine qk ?_; (try dsimp only); refine qr ?_; (try dsimp only))
    refine jx H13 (b := b) (off := 0) e_6 rfl (by omega) rfl ?_
    refine qJ (QZ (c := c) (by omega) H13 hw) ?_
    rintro _ h14 ⟨rfl, H14⟩
    rw [hj]
    with_reducible (refine qC ?_; refine qZ ?_)
    refine g9 (i := j) hj8 ?_
    rw [show 0 + j * 1 = j by omega]
    refine qv (x := v') H14 e_4 (by rw [List.getElem?_set, if_pos rfl, if_pos (by omega)]) ?_
    refine qJ (ZQ (xs := inr t2) (ys := inr t2) (by omega) (HS.sl (e := 78) H14 .here) (xU H14 e_5) (by omega)) ?_
    rintro _ h15 ⟨rfl, rfl⟩
    rw [decide_eq_true rfl]
    with_reducible (refine qS ?_; refine qk ?_; (try dsimp only); refine qr ?_; (try dsimp only))
    refine qJ (yY (by omega) (H14.sel e_1) GW.ok) fun cv h16 H16 => ?_
    rw [show jq (Mv (kW Wr) 0).lv = [] from rfl] at H16
    refine jv H16 .here ?_
    rw [show ([] : List Cl).length = 0 from rfl]
    with_reducible (refine jA (by omega) ?_; refine qS ?_)
    exact qz ⟨wv2, e2, Wr, t2, v', rfl, Z2, ov, by omega, H16.sub (.cons e_3 (.cons e_4 (.cons e_4 (.drop (.drop (.drop (.drop (.drop .refl))))))))⟩
theorem HY.blocks {W : List Int} {T : Nat} {L fr : List Int} (H : HY W T L fr) : ∃ bts, vm W = some bts ∧ (bts.filter (·.2.2)).length ≤ L.length ∧ (VC W).isSome ∧ bts.length ≤ 100 ∧ (∀ b ∈ bts, 15 ≤ b.1 ∧ b.1 + jI b.2.1 ≤ T ∧ (1 ≤ b.2.1 ∧ b.2.1 ≤ 4) ∧ (b.2.2 = true ↔ b.1 ∈ L)) ∧ (∀ y ∈ L, (y, 2, true) ∈ bts) ∧
    (∀ b ∈ bts, ∀ d ∈ bts, b = d ∨ b.1 + jI b.2.1 + 1 ≤ d.1 ∨ d.1 + jI d.2.1 + 1 ≤ b.1) := by
  obtain ⟨sts, bs, ls, H⟩ := H
  have P := H.P
  have hle := P.tile.le
  have hbu := P.bump
  have hhi := P.hi
  have hmem : ∀ b ∈ bs, 15 ≤ b.1 ∧ b.1 + jI b.2 ≤ T ∧ (1 ≤ b.2 ∧ b.2 ≤ 4) ∧ (qG sts b.1.toNat = 1 ↔ b.1 ∈ L) := by
    intro b hb
    have h1 := P.tile.mem b hb
    refine ⟨by omega, by omega, h1.2.1, fun hs => H.live b hb hs, fun hL => (H.own _ hL).2⟩
  refine ⟨_, P.blocks, ?_, by rw [P.lists]; rfl, by rw [List.length_map]; omega, ?_, ?_, ?_⟩
  · have hnd := P.tile.nodup
    have e : ((bs.map (kj sts)).filter (·.2.2)).length = (((bs.map (kj sts)).filter (·.2.2)).map (·.1)).length := by rw [List.length_map]
    rw [e]
    refine qXr ?_ ?_
    · have hs : (((bs.map (kj sts)).filter (·.2.2)).map (·.1)).Sublist ((bs.map (kj sts)).map (·.1)) := (List.filter_sublist ..).map _
      refine hs.nodup ?_
      rw [List.map_map]
      exact hnd
    · intro x hx
      obtain ⟨b, hb, rfl⟩ := List.mem_map.1 hx
      rw [List.mem_filter] at hb
      obtain ⟨d, hd, rfl⟩ := List.mem_map.1 hb.1
      exact (hmem d hd).2.2.2.1 (of_decide_eq_true hb.2)
  · intro b hb
    obtain ⟨d, hd, rfl⟩ := List.mem_map.1 hb
    have h1 := hmem d hd
    refine ⟨h1.1, h1.2.1, h1.2.2.1, ?_⟩
    show decide _ = true ↔ _
    rw [decide_eq_true_iff]
    exact h1.2.2.2
  · intro y hy
    have h1 := H.own y hy
    refine List.mem_map.2 ⟨_, h1.1, ?_⟩
    unfold kj
    dsimp only
    rw [h1.2]; rfl
  · intro b hb d hd
    obtain ⟨b', hb', rfl⟩ := List.mem_map.1 hb
    obtain ⟨d', hd', rfl⟩ := List.mem_map.1 hd
    rcases P.tile.far2 b' hb' d' hd' with h | h | h
    · exact .inl (by rw [h])
    · exact .inr (.inl h)
    · exact .inr (.inr h)
end Go.Proofs.YtpohfcljfemhlaaGreat.arenaParts
namespace Go.Proofs.YtpohfcljfemhlaaGreat.arenaParts
open Go Go.Ae arenaPlays
set_option maxRecDepth 100000
variable {g h : AH} {L R : List SP}
theorem OO {n : Nat} (hn : 2120 ≤ n) {o : Nat} {xs : List AV} {v4 v5 wv : AV} {e : TypeId} {zs : List Int} {t0 t1 : Tr} {c : vH}
    (H : HS g h (qR e 1 zs.length wv (zs.map (.int .u64)) :: qg o xs :: zT v4 (inr t0) :: zT v5 (inr t1) :: R)) (Z : xN zs 256 [] 12 t0 13 t1) (hl : xs.length = 8) (hx4 : xs[6]? = some v4) (hx5 : xs[7]? = some v5) (hw : 9 ≤ c.1 ∧ c.1 ≤ 12) (hkk : 0 ≤ c.2.2.1 ∧ 0 ≤ c.2.2.2) :
    wp (qy tab qI n (.fn 8 [] []) [wv, .ptr o 0, .agg (zW c)] h) fun r h' => ∃ wv' e' zs' t0' t1' xs' v4' v5', r = .tup [wv', .bool true] ∧ xN zs' 256 [] 12 t0' 13 t1' ∧ xs'.length = 8 ∧ xs'[6]? = some v4' ∧ xs'[7]? = some v5' ∧
      (jm c.2.1 0 1 = 0 → t1' = t1) ∧ (jm c.2.1 0 1 = 1 → t0' = t0) ∧ qG zs 5 ≤ qG zs' 5 ∧
      HS g h' (qR e' 1 zs'.length wv' (zs'.map (.int .u64)) :: qg o xs' :: zT v4' (inr t0') :: zT v5' (inr t1') :: R) := by
  have hb := xn c.2.1 (show (0 : Int) ≤ 1 by omega)
  by_cases h0 : jm c.2.1 0 1 = 0
  · refine wp.mono (VJ (j := 6) hn H Z hl hx4 (by rw [h0]; rfl) (by omega) hw hkk.1 hkk.2) ?_
    rintro r h1 ⟨wv', e', zs', t2, v', rfl, Z2, ov, b5, H1⟩
    exact ⟨wv', e', zs', t2, t1, _, v', v5, rfl, Z2, by rw [List.length_set]; exact hl, by rw [List.getElem?_set, if_pos rfl, if_pos (by omega)], by rw [List.getElem?_set, if_neg (by omega)]; exact hx5, fun _ => rfl, fun h => by omega, b5, H1⟩
  · have h1 : jm c.2.1 0 1 = 1 := by omega
    refine wp.mono (VJ (j := 7) hn (H.sub (L' := qR e 1 zs.length wv (zs.map (.int .u64)) :: qg o xs :: zT v5 (inr t1) :: zT v4 (inr t0) :: R) (.cons .here (.cons .here (.cons e_1 (.cons .here .refl))))) Z.swap hl hx5 (by rw [h1]; rfl) (by omega) hw hkk.1 hkk.2) ?_
    rintro r h2 ⟨wv', e', zs', t2, v', rfl, Z2, ov, b5, H1⟩
    exact ⟨wv', e', zs', t0, t2, _, v4, v', rfl, Z2.swap, by rw [List.length_set]; exact hl, by rw [List.getElem?_set, if_neg (by omega)]; exact hx4, by rw [List.getElem?_set, if_pos rfl, if_pos (by omega)], fun h => by omega, fun _ => rfl, b5,
      H1.sub (.cons .here (.cons .here (.cons e_1 (.cons .here .refl))))⟩
structure KnK (zs : List Int) (K : List Cl) : Prop where
  sub : Vg zs K
  un : UnC K
  ins : ∀ c ∈ K, 1 ≤ c.1 ∧ c.1 < 256
  wd : WdC K
theorem KnK.nil {zs : List Int} : KnK zs [] := ⟨fun p x h => (by cases h), List.nodup_nil, fun c h => (by cases h), fun c h => (by cases h)⟩
theorem KnK.good {zs : List Int} {K : List Cl} (k : KnK zs K) (nd : Int) : jD (Mv K nd) :=
  ⟨⟨by show 32 ≤ 256; omega, by show 256 ≤ 256; omega, KZ (show (96 : Nat) ≤ 96 by omega), k.ins, k.un, fun y hy => by rw [List.mem_singleton.1 hy]; show (0 : Nat) < 100000; omega⟩, ⟨k.wd, fun y hy c hc => by rw [List.mem_singleton.1 hy] at hc; cases hc⟩⟩
theorem KnK.len {zs : List Int} {K : List Cl} (k : KnK zs K) : K.length ≤ 255 := by
  have h1 : (K.map (·.1 - 1)).Nodup := by
    have e : K.map (·.1 - 1) = (K.map (·.1)).map (· - 1) := by rw [List.map_map]; rfl
    rw [e]
    have key : ∀ l : List Int, l.Nodup → (l.map (· - 1)).Nodup := by
      intro l
      induction l with
      | nil => intro _; exact List.nodup_nil
      | cons a l ih =>
        intro hn
        rw [List.nodup_cons] at hn
        rw [List.map_cons, List.nodup_cons]
        refine ⟨fun hm => ?_, ih hn.2⟩
        obtain ⟨x, hx, he⟩ := List.mem_map.1 hm
        have : x = a := by omega
        subst this
        exact hn.1 hx
    exact key _ k.un
  have := YN 255 _ h1 fun x hx => by
    obtain ⟨c, hc, rfl⟩ := List.mem_map.1 hx
    have := k.ins c hc
    omega
  rwa [List.length_map] at this
theorem KnK.add {zs : List Int} {K : List Cl} {q : Int} (k : KnK zs K) (hz : ∀ z ∈ zs, 0 ≤ z ∧ z < 18446744073709551616) (h1 : 1 ≤ q) (h2 : q < 256) (hn : jF q K = none) : KnK zs (K ++ [(q, qG zs q.toNat)]) := by
  have hp : K ++ [(q, qG zs q.toNat)] = z5 q (qG zs q.toNat) K := (wz hn).symm
  refine ⟨fun p x h => ?_, ?_, fun c hc => ?_, fun c hc => ?_⟩
  · rw [hp, JH] at h
    split at h
    · rename_i e; subst e; exact (Option.some.inj h).symm
    · exact k.sub p x h
  · rw [hp]; exact k.un.put
  · rcases List.mem_append.1 hc with hc | hc
    · exact k.ins c hc
    · rw [List.mem_singleton] at hc; subst hc; exact ⟨h1, h2⟩
  · rcases List.mem_append.1 hc with hc | hc
    · exact k.wd c hc
    · rw [List.mem_singleton] at hc; subst hc; exact gM hz _
theorem qX3 {zs : List Int} {K : List Cl} {q nd : Int} (h1 : 1 ≤ q) (h2 : q < 256) (hn : jF q K = none) : gD (Mv K nd) q (qG zs q.toNat) = (0, Mv (K ++ [(q, qG zs q.toNat)]) nd) := by
  unfold gD
  rw [if_pos (show 1 ≤ q ∧ q < ((Mv K nd).sz : Int) from ⟨h1, h2⟩), show (Mv K nd).K = K from rfl, hn]; rfl
theorem qKm : Vt ((256 : Nat) : Int) ((96 : Nat) : Int) = Mv [] 0 := rfl
end Go.Proofs.YtpohfcljfemhlaaGreat.arenaParts
namespace Go.Proofs.YtpohfcljfemhlaaGreat.arenaParts
open Go Go.Ae arenaPlays
set_option maxRecDepth 100000
theorem Tile.grid {e : Int} : ∀ {bs : List Bk} {a : Int}, Tile e a bs → (∀ b ∈ bs, b.2 = 2) → (∀ b ∈ bs, ∃ i : Nat, b.1 = a + 1 + 5 * (i : Int)) ∧ ∀ i : Nat, a + 1 + 5 * (i : Int) + 4 ≤ e → (a + 1 + 5 * (i : Int), 2) ∈ bs := by
  intro bs
  induction bs with
  | nil =>
    intro a h _
    have h : a = e := h
    exact ⟨fun b hb => (by cases hb), fun i hi => by omega⟩
  | cons b bs ih =>
    intro a h h1
    obtain ⟨t1, t2, t3⟩ := h
    have hb := h1 b (List.mem_cons_self ..)
    rw [hb, show jI 2 = 4 from rfl] at t3
    obtain ⟨g1, g2⟩ := ih t3 fun x hx => h1 x (List.mem_cons_of_mem _ hx)
    refine ⟨fun x hx => ?_, fun i hi => ?_⟩
    · rcases List.mem_cons.1 hx with rfl | hx
      · exact ⟨0, by omega⟩
      · obtain ⟨i, hi⟩ := g1 x hx
        exact ⟨i + 1, by omega⟩
    · cases i with
      | zero =>
        obtain ⟨b1, b2⟩ := b
        dsimp only at t1 hb
        subst hb
        have : b1 = a + 1 + 5 * ((0 : Nat) : Int) := by omega
        rw [← this]
        exact List.mem_cons_self ..
      | succ i =>
        have := g2 i (by omega)
        rw [show a + 1 + 4 + 1 + 5 * (i : Int) = a + 1 + 5 * ((i + 1 : Nat) : Int) by omega] at this
        exact List.mem_cons_of_mem _ this
theorem HY.grid {W : List Int} {T : Nat} {L fr : List Int} {bts : List QH} (H : HY W T L fr) (hb : vm W = some bts) : (∀ b ∈ bts, b.2.1 = 2) ∧ (∀ y ∈ L, ∃ i : Nat, y = 15 + 5 * (i : Int) ∧ y + 4 ≤ qG W 5) ∧ ∀ i : Nat, 15 + 5 * (i : Int) + 4 ≤ qG W 5 → ∃ l, (15 + 5 * (i : Int), 2, l) ∈ bts := by
  obtain ⟨sts, bs, ls, H⟩ := H
  have P := H.P
  rw [P.blocks] at hb
  obtain rfl := Option.some.inj hb
  obtain ⟨g1, g2⟩ := P.tile.grid H.one
  refine ⟨fun b hb => ?_, fun y hy => ?_, fun i hi => ?_⟩
  · obtain ⟨d, hd, rfl⟩ := List.mem_map.1 hb
    exact H.one d hd
  · have h1 := H.own y hy
    obtain ⟨i, hi⟩ := g1 _ h1.1
    have h2 := P.tile.mem _ h1.1
    dsimp only at hi h2
    rw [show jI 2 = 4 from rfl] at h2
    exact ⟨i, by omega, by omega⟩
  · have := g2 i (by omega)
    rw [show (14 : Int) + 1 + 5 * (i : Int) = 15 + 5 * (i : Int) by omega] at this
    exact ⟨_, List.mem_map.2 ⟨(15 + 5 * (i : Int), 2), this, rfl⟩⟩
def Oth (ot : List Bool) (L : List Int) : Prop := ot.length = 257 ∧ ∀ x : Nat, ot[x]? = some true → ∃ y ∈ L, y ≤ (x : Int) ∧ (x : Int) ≤ y + 3
theorem Kt {ot : List Bool} {i x : Nat} {b : Bool} (h : (ot.set i b)[x]? = some true) : (x = i ∧ b = true) ∨ (x ≠ i ∧ ot[x]? = some true) := by
  rw [List.getElem?_set] at h
  by_cases e : i = x
  · rw [if_pos e] at h
    split at h
    · exact .inl ⟨e.symm, Option.some.inj h⟩
    · cases h
  · rw [if_neg e] at h
    exact .inr ⟨fun h => e h.symm, h⟩
end Go.Proofs.YtpohfcljfemhlaaGreat.arenaParts
namespace Go.Proofs.YtpohfcljfemhlaaGreat.treeApart
open Go Go.Ae arenaPlays arenaParts
set_option maxRecDepth 100000
variable {g h : AH} {L R : List SP}
def Mk (ot0 ot : List Bool) (bts : List QH) (k : Nat) : Prop := ot.length = 257 ∧ ∀ x : Nat, ot[x]? = some true → (∃ b ∈ bts.take k, b.2.2 = true ∧ (b.1 ≤ (x : Int) ∧ (x : Int) ≤ b.1 + 3)) ∨ (ot0[x]? = some true ∧ ∀ b ∈ bts.take k, (x : Int) < b.1 ∨ b.1 + 3 < (x : Int))
theorem law {k : Nat} (hk : 2200 ≤ k) {a0 a1 : AV} {cc : vH} {la lb : List vH} (S0 : Sl (fun b => b < h.nx) h 4 la.length a0 (la.flatMap zW)) (hp0 : ∀ c ∈ la, 0 ≤ c.2.2.1 ∧ 0 ≤ c.2.2.2) (hl0 : la.length ≤ maxLen) (S1 : Sl (fun b => b < h.nx) h 4 lb.length a1 (lb.flatMap zW)) (hp1 : ∀ c ∈ lb, 0 ≤ c.2.2.1 ∧ 0 ≤ c.2.2.2) (hl1 : lb.length ≤ maxLen) (hcc : 0 ≤ cc.2.2.1 ∧ 0 ≤ cc.2.2.2) :
    wp (W4 (vK 6 (qy tab qI k)) [a0, a1, .agg (zW cc)] h) fun v _ => v = .bool true := by
  show wp (S4 (vK _ (qy tab qI _)) _ _ _ _) _
  unfold S4
  try simp only [iI, uU, Int.ofNat_eq_natCast]
  have hml : maxLen ≤ 9223372036854775807 := by decide
  obtain ⟨Sw, hSw⟩ : ∃ Sw, zR .i64 ((la.length : Int) + (lb.length : Int)) = Sw := ⟨_, rfl⟩
  have hSw2 : Sw = (la.length : Int) + (lb.length : Int) ∨ Sw < 0 := by rw [← hSw, gP, kC]; omega
  refine jk (HS.nil h) rfl fun b h0 H0 => ?_
  have H0 : HS h h0 (qg b (zW cc) :: []) := H0
  refine qVO ?_
  with_reducible (refine jc ?_; refine qK ?_)
  refine xQ (by decide) (GM (by omega) H0) ?_
  rintro wv h1 ⟨e1, H⟩
  refine qh (l := [.nils, .nils, .nils, .nils, .nils, .nils, .nils, .nils]) rfl ?_
  refine jk H rfl fun o h2 H2 => ?_
  refine YV (n := 257) H2 (by omega) fun tv h2b H2b => ?_
  have H2 := ((H2b.nils (e := 78) (sz := 2)).nils (e := 78) (sz := 2)).sub (L' := qR e1 1 (z6 256).length wv ((z6 256).map (.int .u64)) :: qg o [.nils, .nils, .nils, .nils, .nils, .nils, .nils, .nils] ::
    qR 78 2 0 .nils [] :: qR 78 2 0 .nils [] :: qR 4 1 257 tv (List.replicate 257 (.bool false)) :: qg b (zW cc) :: []) (.cons e_4 (.cons e_3 (.cons .here (.cons .here (.cons .here .refl)))))
  clear H2b H H0
  refine jR (fun m s h' => ∃ (i : Nat) (zs : List Int) (wv v4 v5 : AV) (e : TypeId) (t0 t1 : Tr) (xs : List AV) (ot : List Bool), s = (.int .i64 (i : Int), tv, .ptr o 0, wv, .ptr b 0, a1, a0, ()) ∧ i ≤ 24 ∧ m = 24 - i ∧ xN zs 256 [] 12 t0 13 t1 ∧ xs.length = 8 ∧ xs[6]? = some v4 ∧ xs[7]? = some v5 ∧
    (i ≤ la.length → t1 = .nil) ∧ Oth ot (ads t0) ∧
    HS h h' (qR e 1 zs.length wv (zs.map (.int .u64)) :: qg o xs :: zT v4 (inr t0) :: zT v5 (inr t1) :: qR 4 1 257 tv (ot.map .bool) :: qg b (zW cc) :: []))
    ?_ (m := 24) (by show 24 < 1000000000; omega) ⟨0, z6 256, wv, .nils, .nils, e1, .nil, .nil, [.nils, .nils, .nils, .nils, .nils, .nils, .nils, .nils], List.replicate 257 false, rfl, by omega, by omega, VE, rfl, rfl, rfl, fun _ => rfl, ⟨by simp, fun x hx => by
      rw [List.getElem?_replicate] at hx
      split at hx <;> cases hx⟩, by rw [List.map_replicate]; exact H2⟩
  clear H2
  rintro m ih s h3 hih ⟨i, zs, wv, v4, v5, e, t0, t1, xs, ot, rfl, hi, rfl, Z, hl, hx4, hx5, hB, hO, H⟩
  dsimp only
  have Sa : Sl (fun _ => True) h3 4 la.length a0 (la.flatMap zW) := (Rd.arg S0).sl H
  have Sb : Sl (fun _ => True) h3 4 lb.length a1 (lb.flatMap zW) := (Rd.arg S1).sl H
  refine zi Sa (zi Sb (Vu ?_))
  rw [hSw]
  refine vD ?_
  refine Jg (fun s g' => ∃ (q : AV) (u x : Bool), s = (q, .bool u, .int .i64 (i : Int), tv, .ptr o 0, wv, .ptr b 0, a1, a0, ()) ∧ g' = h3 ∧ (u = true → q = .bool x) ∧ ((u && x) = decide ((i : Int) < Sw ∧ i < 24))) ?_ ?_
  · intro j hj
    refine Qn (fun hl => vD (hj _ _ ⟨_, _, decide (i < 24), rfl, rfl, fun _ => (by congr 1; exact decide_eq_decide.2 (by omega)), ?_⟩)) (fun hl => hj _ _ ⟨_, _, false, rfl, rfl, fun h => absurd (of_decide_eq_true h) hl, ?_⟩)
    · have hl' : (i : Int) < Sw := hl
      simp [hl']
    · have hl' : ¬ (i : Int) < Sw := hl
      simp [hl']
  rintro s h3 ⟨q, u, x, rfl, rfl, hq, hux⟩
  refine vy hq ?_
  rw [hux]
  dsimp only
  refine JM (fun hic => ?_) fun hic => ?_
  · clear hux hq
    have hic : i < la.length + lb.length ∧ i < 24 := by omega
    refine qh (l := zW (0, 0, 0, 0)) rfl ?_
    refine jk H rfl fun q h4 H4 => ?_
    refine js H4 (b := q) .here rfl (by simp) rfl fun h5 H5 => ?_
    have H5 : HS h h5 (qg q (zW (0, 0, 0, 0)) :: qR e 1 zs.length wv (zs.map (.int .u64)) :: qg o xs :: zT v4 (inr t0) :: zT v5 (inr t1) :: qR 4 1 257 tv (ot.map .bool) :: qg b (zW cc) :: []) := H5
    clear H H4
    refine z9 [] (fun s h' => ∃ c : vH, s = (.ptr q 0, .int .i64 (i : Int), tv, .ptr o 0, wv, .ptr b 0, a1, a0, ()) ∧ (9 ≤ c.1 ∧ c.1 ≤ 12) ∧ (0 ≤ c.2.2.1 ∧ 0 ≤ c.2.2.2) ∧ (i < la.length → jm c.2.1 0 1 = 0) ∧ (la.length ≤ i → jm c.2.1 0 1 = 1) ∧
      HS h h' (qg q (zW c) :: qR e 1 zs.length wv (zs.map (.int .u64)) :: qg o xs :: zT v4 (inr t0) :: zT v5 (inr t1) :: qR 4 1 257 tv (ot.map .bool) :: qg b (zW cc) :: [])) ?_ ?_
    · intro j hj
      have Sa : Sl (fun _ => True) h5 4 la.length a0 (la.flatMap zW) := (Rd.arg S0).sl H5
      have Sb : Sl (fun _ => True) h5 4 lb.length a1 (lb.flatMap zW) := (Rd.arg S1).sl H5
      refine zi Sa ?_
      by_cases hia : i < la.length
      · have hci : la[i]? = some la[i] := List.getElem?_eq_getElem hia
        have hpc := hp0 la[i] (List.getElem_mem hia)
        refine zA (by omega) (qq ?_)
        refine xx (l := zW la[i]) Sa hia (by omega) (wu (sz := 4) (fun _ => rfl) hci) ?_
        generalize la[i] = c at *
        refine xQ (by decide) (YD (by omega) H5) ?_
        rintro _ h6 ⟨rfl, H6⟩
        have hwb := xn c.1 (show (9 : Int) ≤ 12 by omega)
        refine js H6 (b := q) .here rfl (by simp [zW]) rfl fun h7 H7 => ?_
        with_reducible (refine qZ ?_)
        refine jw H7 (b := q) .here ⟨rfl, rfl⟩ (show (1 : Nat) < 4 by omega) fun h8 H8 => ?_
        exact hj _ _ ⟨(jm c.1 9 12, 0, c.2.2), rfl, by dsimp only; omega, hpc, fun _ => (show jm 0 0 1 = 0 by decide), fun h => by omega, H8⟩
      · refine jh (by omega) (qK ?_)
        refine zi Sa (jC (by omega) ?_)
        rw [show (i : Int) - (la.length : Int) = ((i - la.length : Nat) : Int) by omega]
        have hib : i - la.length < lb.length := by omega
        have hci : lb[i - la.length]? = some lb[i - la.length] := List.getElem?_eq_getElem hib
        have hpc := hp1 lb[i - la.length] (List.getElem_mem hib)
        refine xx (l := zW lb[i - la.length]) Sb hib (by omega) (wu (sz := 4) (fun _ => rfl) hci) ?_
        generalize lb[i - la.length] = c at *
        refine xQ (by decide) (YD (by omega) H5) ?_
        rintro _ h6 ⟨rfl, H6⟩
        have hwb := xn c.1 (show (9 : Int) ≤ 12 by omega)
        refine js H6 (b := q) .here rfl (by simp [zW]) rfl fun h7 H7 => ?_
        with_reducible (refine qZ ?_)
        refine jw H7 (b := q) .here ⟨rfl, rfl⟩ (show (1 : Nat) < 4 by omega) fun h8 H8 => ?_
        exact hj _ _ ⟨(jm c.1 9 12, 1, c.2.2), rfl, by dsimp only; omega, hpc, fun h => absurd h hia, fun _ => (show jm 1 0 1 = 1 by decide), H8⟩
    clear H5
    rintro s h6 ⟨c, rfl, hw, hkk, hwa, hwb, H6⟩
    dsimp only
    refine jx H6 (b := q) (off := 0) .here rfl (by omega) rfl ?_
    refine xQ (by decide) (OO (c := c) (by omega) (H6.sub (L' := qR e 1 zs.length wv (zs.map (.int .u64)) :: qg o xs :: zT v4 (inr t0) :: zT v5 (inr t1) :: qR 4 1 257 tv (ot.map .bool) :: qg b (zW cc) :: []) (.drop .refl)) Z hl hx4 hx5 hw hkk) ?_
    rintro _ h7 ⟨wv2, e2, zs2, t0', t1', xs2, v4', v5', rfl, Z2, hl2, q4, q5, f0, f1, hb5, H7⟩
    obtain ⟨bts, hb1, _, _, hb4, hbm, hbl, _⟩ := Z2.H.blocks
    obtain ⟨gr1, _, gr3⟩ := Z2.H.grid hb1
    obtain ⟨bts0, hb01, _⟩ := Z.H.blocks
    obtain ⟨_, gr2, _⟩ := Z.H.grid hb01
    with_reducible (refine qw (by with_unfolding_all exact rfl) ?_; refine qw (by with_unfolding_all exact rfl) ?_; refine jc ?_; refine qK ?_)
    refine xQ (by decide) (V2 (by omega) H7 (Rd.own .here) Z2.H.nn) ?_
    rintro _ h8 ⟨bv, rfl, H8⟩
    rw [hb1] at H8 ⊢
    have H8 : HS h h8 (qR 61 3 bts.length bv (bts.flatMap Vm) :: qR e2 1 zs2.length wv2 (zs2.map (.int .u64)) :: qg o xs2 :: zT v4' (inr t0') :: zT v5' (inr t1') :: qR 4 1 257 tv (ot.map .bool) :: qg b (zW cc) :: []) := H8
    simp only [Option.isSome_some, if_true]
    with_reducible (refine qw (by with_unfolding_all exact rfl) ?_; refine qw (by with_unfolding_all exact rfl) ?_; refine jP (by omega) ?_; refine qK ?_)
    clear H6 H7
    refine jR (fun m s h' => ∃ (k : Nat) (ot' : List Bool), s = (.int .i64 (k : Int), bv, .int .i64 (i : Int), tv, .ptr o 0, wv2, .ptr b 0, a1, a0, ()) ∧ k ≤ bts.length ∧ m = bts.length - k ∧ Mk ot ot' bts k ∧ (la.length ≤ i → ot' = ot) ∧
      HS h h' (qR 61 3 bts.length bv (bts.flatMap Vm) :: qR e2 1 zs2.length wv2 (zs2.map (.int .u64)) :: qg o xs2 :: zT v4' (inr t0') :: zT v5' (inr t1') :: qR 4 1 257 tv (ot'.map .bool) :: qg b (zW cc) :: []))
      ?_ (m := bts.length) (by show _ < 1000000000; omega) ⟨0, ot, rfl, by omega, by omega, ⟨hO.1, fun x hx => .inr ⟨hx, fun b hb => by rw [List.take_zero] at hb; cases hb⟩⟩, fun _ => rfl, H8⟩
    clear H8
    rintro m ih2 s h9 hih2 ⟨kk, ot', rfl, hk1, rfl, hMk, hsame, H⟩
    dsimp only
    have Sa : Sl (fun _ => True) h9 4 la.length a0 (la.flatMap zW) := (Rd.arg S0).sl H
    refine zi Sa (vD ?_)
    refine Jg (fun s g' => ∃ (q : AV) (u x : Bool), s = (q, .bool u, .int .i64 (kk : Int), bv, .int .i64 (i : Int), tv, .ptr o 0, wv2, .ptr b 0, a1, a0, ()) ∧ g' = h9 ∧ (u = true → q = .bool x) ∧ ((u && x) = decide (i < la.length ∧ kk < bts.length))) ?_ ?_
    · intro j hj
      refine Qn (fun hl => jv H .here (vD (hj _ _ ⟨_, _, decide (kk < bts.length), rfl, rfl, fun _ => (by congr 1; exact decide_eq_decide.2 (by omega)), ?_⟩))) (fun hl => hj _ _ ⟨_, _, false, rfl, rfl, fun h => absurd (of_decide_eq_true h) hl, ?_⟩)
      · have hl' : i < la.length := by omega
        simp [hl']
      · have hl' : ¬ i < la.length := by omega
        simp [hl']
    rintro s h9 ⟨q2, u2, x2, rfl, rfl, hq2, hux2⟩
    refine vy hq2 ?_
    rw [hux2]
    dsimp only
    refine JM (fun hkc => ?_) fun hkc => ?_
    · clear hux2 hq2
      have hck : bts[kk]? = some bts[kk] := List.getElem?_eq_getElem hkc.2
      have hbk := hbm bts[kk] (List.getElem_mem hkc.2)
      have hcl := gr1 bts[kk] (List.getElem_mem hkc.2)
      have hnext : bts.take (kk + 1) = bts.take kk ++ [bts[kk]] := List.take_succ_eq_append_getElem hkc.2
      generalize bts[kk] = bb at *
      obtain ⟨y, cl, lv⟩ := bb
      dsimp only at hbk hcl
      subst hcl
      rw [show jI 2 = 4 from rfl] at hbk
      obtain ⟨y, rfl⟩ : ∃ y2 : Nat, y = (y2 : Int) := ⟨y.toNat, by omega⟩
      have hcell : ∀ f, f < 3 → (bts.flatMap Vm)[kk * 3 + f]? = [AV.int .i64 (y : Int), AV.int .i64 2, AV.bool lv][f]? := by
        intro f hf; rw [xE (sz := 3) Vm (fun _ => rfl) _ _ _ hf, hck]; rfl
      refine zx (x := .int .i64 (y : Int)) (H.sl .here) (by omega) hkc.2 (hcell 0 (by omega)) ?_
      have hotl := hMk.1
      refine jR (fun m s h' => ∃ (j : Nat) (o2 : List Bool), s = (.int .i64 ((y + j : Nat) : Int), .int .i64 (kk : Int), bv, .int .i64 (i : Int), tv, .ptr o 0, wv2, .ptr b 0, a1, a0, ()) ∧ j ≤ 4 ∧ m = 4 - j ∧ (o2.length = 257 ∧ ∀ x : Nat, o2[x]? = some true → (y ≤ x ∧ x < y + j ∧ lv = true) ∨ ((x < y ∨ y + j ≤ x) ∧ ot'[x]? = some true)) ∧
        HS h h' (qR 61 3 bts.length bv (bts.flatMap Vm) :: qR e2 1 zs2.length wv2 (zs2.map (.int .u64)) :: qg o xs2 :: zT v4' (inr t0') :: zT v5' (inr t1') :: qR 4 1 257 tv (o2.map .bool) :: qg b (zW cc) :: []))
        ?_ (m := 4) (by show 4 < 1000000000; omega) ⟨0, ot', rfl, by omega, by omega, ⟨hotl, fun x hx => .inr ⟨by omega, hx⟩⟩, H⟩
      clear H
      rintro m ih3 s h10 hih3 ⟨j, o2, rfl, hj2, rfl, ho2, H⟩
      dsimp only
      refine qk ?_
      refine Kv (H.sl .here) hkc.2 fun b2 off hb2 _ A => ?_
      have A0 : h10.at b2 (off + 0) = some (.int .i64 (y : Int)) := (A 0 (by omega)).trans (hcell 0 (by omega))
      refine QG (wS A0 ?_)
      refine zx (x := .int .i64 2) (H.sl .here) (by omega) hkc.2 (hcell 1 (by omega)) ?_
      refine xQ (by decide) (wT (by omega)) ?_
      rintro _ h11 ⟨rfl, rfl⟩
      rw [show jI 2 = 4 from rfl]
      refine qU (by omega) ?_
      by_cases hj : j < 4
      · refine zA (by omega) (qr ?_)
        refine jv H e_5 ?_
        refine zA (by omega) ?_
        refine qS (KO A0 A0 hb2 ?_)
        dsimp only
        refine qq ?_
        refine zx (x := .bool lv) (H.sl .here) (by omega) hkc.2 (hcell 2 (by omega)) ?_
        refine YK (H.sel e_5) (by omega) ⟨rfl, rfl⟩ fun h12 H12 => ?_
        refine qU (by omega) ?_
        refine hih3 (4 - (j + 1)) _ _ (by omega) ⟨j + 1, o2.set (y + j) lv, ?_, by omega, rfl, ?_, ?_⟩
        · congr 2
        · refine ⟨by rw [List.length_set]; exact ho2.1, fun x hx => ?_⟩
          rcases Kt hx with ⟨rfl, hlv⟩ | ⟨hx1, hx⟩
          · exact .inl ⟨by omega, by omega, hlv⟩
          · rcases ho2.2 x hx with ⟨g1, g2, g3⟩ | ⟨g1, g2⟩
            · exact .inl ⟨g1, by omega, g3⟩
            · exact .inr ⟨by omega, g2⟩
        · rw [List.map_set]
          exact H12.sub (.cons e_1 (.cons e_1 (.cons e_1 (.cons e_1 (.cons e_1 (.cons .here .refl))))))
      · obtain rfl : j = 4 := by omega
        refine jh (by omega) (jg ?_)
        refine qT (KO A0 A0 hb2 ?_)
        dsimp only
        refine qK ?_
        refine qU (by omega) ?_
        refine hih2 (bts.length - (kk + 1)) _ _ (by omega) ⟨kk + 1, o2, rfl, by omega, rfl, ⟨ho2.1, fun x hx => ?_⟩, fun h => by omega, H⟩
        rw [hnext]
        rcases ho2.2 x hx with ⟨g1, g2, g3⟩ | ⟨g1, hx⟩
        · exact .inl ⟨_, List.mem_append.2 (.inr (List.mem_singleton.2 rfl)), g3, by dsimp only; omega⟩
        rcases hMk.2 x hx with ⟨d, hd, h1, h2⟩ | ⟨h1, h2⟩
        · exact .inl ⟨d, List.mem_append.2 (.inl hd), h1, h2⟩
        · refine .inr ⟨h1, fun d hd => ?_⟩
          rcases List.mem_append.1 hd with hd | hd
          · exact h2 d hd
          · rw [List.mem_singleton] at hd
            subst hd
            dsimp only
            omega
    · refine qU (by omega) ?_
      refine hih (24 - (i + 1)) _ _ (by omega) ⟨i + 1, zs2, wv2, v4', v5', e2, t0', t1', xs2, ot', rfl, by omega, rfl, Z2, hl2, q4, q5, fun h => ?_, ?_, H.drop⟩
      · exact (f0 (hwa (by omega))).trans (hB (by omega))
      · by_cases hia : i < la.length
        · have hkf : kk = bts.length := by omega
          have hL2 : ads t0' ++ ads t1' = ads t0' := by rw [f0 (hwa hia), hB (by omega)]; show _ ++ [] = _; simp
          refine ⟨hMk.1, fun x hx => ?_⟩
          rcases hMk.2 x hx with ⟨d, hd, h1, h2⟩ | ⟨h1, h2⟩
          · rw [hkf, List.take_length] at hd
            have := (hbm d hd).2.2.2.1 h1
            rw [hL2] at this
            exact ⟨d.1, this, h2⟩
          · obtain ⟨y, hy, h3⟩ := hO.2 x h1
            obtain ⟨n3, h4, h5⟩ := gr2 y (List.mem_append.2 (.inl hy))
            obtain ⟨l3, h6⟩ := gr3 n3 (by omega)
            have := h2 _ (by rw [hkf, List.take_length]; exact h6)
            dsimp only at this
            omega
        · rw [hsame (by omega), f1 (hwb (by omega))]
          exact hO
  clear hih hux hq hic Sa Sb hi hB
  have hz := Z.H.size.2.2
  refine jx H (b := b) (off := 0) e_5 rfl (by omega) rfl ?_
  refine xQ (by decide) (YD (c := cc) (by omega) H) ?_
  rintro _ h5 ⟨rfl, H5⟩
  have hwb := xn cc.1 (show (9 : Int) ≤ 12 by omega)
  refine js H5 (b := b) e_5 rfl (by simp [zW]) rfl fun h6 H6 => ?_
  with_reducible (refine qZ ?_)
  refine jw H6 (b := b) .here ⟨rfl, rfl⟩ (show (1 : Nat) < 4 by omega) fun h7 H7 => ?_
  obtain ⟨c, hc⟩ : ∃ c : vH, c = (jm cc.1 9 12, 1, cc.2.2) := ⟨_, rfl⟩
  have H7 : HS h h7 (qg b (zW (jm cc.1 9 12, 1, cc.2.2)) :: qR e 1 zs.length wv (zs.map (.int .u64)) :: qg o xs :: zT v4 (inr t0) :: zT v5 (inr t1) :: qR 4 1 257 tv (ot.map .bool) :: []) := H7
  rw [← hc] at H7
  have hw : 9 ≤ c.1 ∧ c.1 ≤ 12 := by rw [hc]; dsimp only; omega
  have hkk : 0 ≤ c.2.2.1 ∧ 0 ≤ c.2.2.2 := by rw [hc]; exact hcc
  have hr1 : jm c.2.1 0 1 = 1 := by rw [hc]; exact (show jm 1 0 1 = 1 by decide)
  clear H H5 H6 hc
  have hkb1 := Int.tmod_nonneg 12 hkk.1
  have hkb2 := Int.tmod_lt_of_pos c.2.2.1 (show (0 : Int) < 12 by omega)
  have hxb1 := Int.tmod_nonneg 12 hkk.2
  have hxb2 := Int.tmod_lt_of_pos c.2.2.2 (show (0 : Int) < 12 by omega)
  refine jx H7 (b := b) (off := 0) .here rfl (by omega) rfl ?_
  refine xQ (by decide) (QZ (c := c) (by omega) H7 hw) ?_
  rintro _ h8 ⟨rfl, H8⟩
  rw [hr1]
  refine qU (by omega) (jC (by omega) ?_)
  rw [show ((6 : Nat) : Int) + (6 + 1) - ((1 : Nat) : Int) = ((12 : Nat) : Int) from rfl, show ((6 : Nat) : Int) + (6 + 1) = 13 from rfl]
  refine YK (i := 12) (H8.sel e_5) (by omega) ⟨rfl, rfl⟩ fun h9 H9 => ?_
  rw [← List.map_set] at H9
  have hOl := hO.1
  have hSq : ∀ q : Int, 1 ≤ q → q < 256 → SqT 12 (ads t0) q → ((ot.set 12 true).map AV.bool)[q.toNat]? = some (.bool false) := by
    intro q h1 h2 h3
    have hlt : q.toNat < (ot.set 12 true).length := by rw [List.length_set, hOl]; omega
    rw [List.getElem?_map, List.getElem?_eq_getElem hlt]
    cases hv : (ot.set 12 true)[q.toNat]
    · rfl
    · have hv2 : (ot.set 12 true)[q.toNat]? = some true := by rw [List.getElem?_eq_getElem hlt, hv]
      rcases Kt hv2 with ⟨h4, _⟩ | ⟨_, h4⟩
      · exact absurd (by omega) h3.1
      · obtain ⟨y, hy, h5⟩ := hO.2 _ h4
        have := h3.2 y hy
        omega
  have hOl2 : (ot.set 12 true).length = 257 := by rw [List.length_set]; exact hOl
  generalize ot.set 12 true = o3 at *
  obtain ⟨it, er, C', F', CO⟩ := Gj Z.swap hw ⟨hkb1, hkb2⟩ ⟨hxb1, hxb2⟩
  have hne := CO.ne
  refine jv H9 e_2 ?_
  rw [hz]
  refine xQ (by decide) (Kz (by omega) H9) ?_
  rintro _ h10 ⟨v, rfl, H10⟩
  rw [qKm] at H10
  refine Qp ?_
  with_reducible (refine qK ?_; refine qk ?_; (try dsimp only))
  have H10 : HS h h10 (ViewC v (Mv [] 0) :: qR 4 1 257 tv (o3.map .bool) :: qg b (zW c) :: qR e 1 zs.length wv (zs.map (.int .u64)) :: []) := H10.sub (.cons .here (.cons .here (.cons .here (.cons .here (.drop (.drop (.drop .refl)))))))
  clear H7 H8 H9
  refine jR (fun m s h' => ∃ (i : Nat) (K : List Cl) (nd : Int), s = (.int .i64 (i : Int), .ptr v 0, .int .i64 13, tv, wv, .ptr b 0, ()) ∧ i ≤ 256 ∧ m = 256 - i ∧ KnK zs K ∧
    HS h h' (ViewC v (Mv K nd) :: qR 4 1 257 tv (o3.map .bool) :: qg b (zW c) :: qR e 1 zs.length wv (zs.map (.int .u64)) :: []))
    ?_ (m := 256) (by show 256 < 1000000000; omega) ⟨0, [], 0, rfl, by omega, by omega, KnK.nil, H10⟩
  clear H10
  rintro m ih2 s h13 hih2 ⟨i, K, nd, rfl, hi, rfl, KK, H⟩
  dsimp only
  have GK := KK.good nd
  by_cases hi256 : i < 256
  rotate_left
  · refine jh (by omega) (qK ?_)
    obtain ⟨V, hV⟩ : ∃ V, V = Mv K nd := ⟨_, rfl⟩
    have GV : jD V := hV ▸ GK
    have hml2 : (jq V.lv).length < 100000 := by rw [hV]; show (0 : Nat) < _; omega
    have hS : ∀ d ∈ jq V.lv, 1 ≤ d.1 ∧ d.1 < 256 ∧ SqT 12 (ads t0) d.1 := by rw [hV]; intro d hd; cases hd
    rw [← hV] at H
    clear hV hih2
    refine xQ (by decide) (yY (by omega) H GV.ok) fun cv h12 H12 => ?_
    generalize jq V.lv = C at *
    refine jR (fun m s h' => ∃ i : Nat, s = (.int .i64 (i : Int), cv, tv, ()) ∧ i ≤ C.length ∧ m = C.length - i ∧ h' = h12) ?_ (m := C.length) (by show _ < 1000000000; omega) ⟨0, rfl, by omega, by omega, rfl⟩
    rintro m ih4 s h13 hih4 ⟨i, rfl, hi, rfl, rfl⟩
    dsimp only
    refine jv H12 .here ?_
    by_cases hlt : i < C.length
    · have hci : C[i]? = some C[i] := List.getElem?_eq_getElem hlt
      have hd := hS C[i] (List.getElem_mem hlt)
      generalize C[i] = d at *
      obtain ⟨dp, dx⟩ := d
      dsimp only at hd
      obtain ⟨dp, rfl⟩ : ∃ j : Nat, dp = (j : Int) := ⟨dp.toNat, by omega⟩
      have hcell : (C.flatMap jf)[i * 2 + 0]? = some (.int .i64 (dp : Int)) := by rw [xE (sz := 2) jf (fun _ => rfl) _ _ _ (by omega), hci]; rfl
      have hsq := hSq _ hd.1 hd.2.1 hd.2.2
      rw [show ((dp : Int)).toNat = dp by omega] at hsq
      with_reducible (refine zA (by omega) ?_; refine qq ?_)
      refine zx (H12.sl .here) (by omega) hlt hcell ?_
      with_reducible (refine jh (by omega) ?_; refine qk ?_; (try dsimp only); refine qo ?_; (try dsimp only))
      refine zx (H12.sl .here) (by omega) hlt hcell ?_
      refine jv H12 e_2 ?_
      with_reducible (refine zO (by omega) ?_; refine qT ?_; refine qk ?_; (try dsimp only); refine qo ?_; (try dsimp only))
      refine zx (H12.sl .here) (by omega) hlt hcell ?_
      refine zo (H12.sl e_2) hsq ?_
      with_reducible (refine qT ?_; refine qK ?_; refine qU (by omega) ?_)
      exact hih4 (C.length - (i + 1)) _ _ (by omega) ⟨i + 1, rfl, by omega, rfl, rfl⟩
    · with_reducible (refine jh (by omega) ?_; refine qK ?_; refine qF ?_)
      exact qz rfl
  refine zA (by omega) (qq ?_)
  refine jx H (b := b) (off := 0) e_2 rfl (by omega) rfl ?_
  refine xQ (by decide) (UD (c := c) (by omega) H GK rfl (by omega) hw hkk.1 hkk.2 (CO.run _ _ KK.sub).1 (QE (x := 0) Z.swap KK.sub).1 (fun l h _ => (QE (k := c.2.2.1.tmod 12) Z.swap KK.sub).2 l h)) ?_
  rintro _ h14 ⟨rfl, H14⟩
  rcases (CO.run K nd KK.sub).2 with ⟨q, g1, g2, gS, g3, it', g4⟩ | g4
  · have g4 : ww (Mv K nd) 13 c.1 (c.2.2.1.tmod 12) (c.2.2.2.tmod 12) = (it', 11, Mv K q) := g4
    rw [g4] at H14 ⊢
    dsimp only at H14 ⊢
    with_reducible (refine qw (by with_unfolding_all exact rfl) ?_; refine qw (by with_unfolding_all exact rfl) ?_)
    refine jk H14 rfl fun bx h15 H15 => ?_
    refine js H15 (b := bx) .here rfl (by simp) rfl fun h16 H16 => ?_
    with_reducible (refine jP (by omega) ?_; refine qK ?_)
    have H16 : HS h h16 (ViewC v (Mv K q) :: qR 4 1 257 tv (o3.map .bool) :: qg b (zW c) :: qR e 1 zs.length wv (zs.map (.int .u64)) :: []) := H16.drop
    have GQ := KK.good q
    refine xQ (by decide) (Ut (by omega) H16) ?_
    rintro _ h17 ⟨rfl, rfl⟩
    rw [show (Mv K q).need = q from rfl]
    have hsq := hSq _ g1 g2 gS
    obtain ⟨p2, rfl⟩ : ∃ p2 : Nat, q = (p2 : Int) := ⟨q.toNat, by omega⟩
    rw [show ((p2 : Int)).toNat = p2 by omega] at hsq
    with_reducible (refine jh (by omega) ?_; refine qk ?_; (try dsimp only); refine qo ?_; (try dsimp only); refine jv (by assumption) e_3 ?_; refine zO (by omega) ?_; refine qT ?_; refine qk ?_; (try dsimp only); refine qo ?_; (try dsimp only))
    refine zo (H16.sl e_1) hsq ?_
    with_reducible (refine qT ?_; refine qk ?_; (try dsimp only); refine qo ?_; (try dsimp only))
    refine zo (H16.sl e_3) (y7 (by omega)) ?_
    refine xQ (by decide) (JE (by omega) H16 GQ.ok) ?_
    rintro _ h21 ⟨rfl, H21⟩
    have hkn := qX3 (zs := zs) (nd := (p2 : Int)) g1 g2 g3
    rw [show ((p2 : Int)).toNat = p2 by omega] at hkn
    rw [hkn] at H21 ⊢
    have KK2 := KK.add Z.H.nn g1 g2 g3
    rw [show ((p2 : Int)).toNat = p2 by omega] at KK2
    with_reducible (refine jP (by omega) ?_; refine qT ?_; refine qK ?_; refine qU (by omega) ?_)
    exact hih2 (256 - (i + 1)) _ _ (by omega) ⟨i + 1, K ++ [((p2 : Int), qG zs p2)], (p2 : Int), rfl, by omega, rfl, KK2, H21⟩
  · have g4 : ww (Mv K nd) 13 c.1 (c.2.2.1.tmod 12) (c.2.2.2.tmod 12) = (it, er, if er = 0 then lvV 256 K C' F' nd else Mv K nd) := g4
    rw [g4] at H14 ⊢
    dsimp only at H14 ⊢
    have GV : jD (if er = 0 then lvV 256 K C' F' nd else Mv K nd) := by
      split
      · rename_i he
        refine UV (W := []) (F := F') GK CO.un CO.ins CO.few (CO.wd he) ?_
        rcases CO.out with ⟨h, _⟩ | ⟨_, _, _, _, _, hF⟩
        · omega
        · rcases hF with ⟨rfl, _⟩ | ⟨a, rfl, _⟩ <;> simp
      · exact GK
    have hVS : (jq (if er = 0 then lvV 256 K C' F' nd else Mv K nd).lv).length < 100000 ∧ ∀ d ∈ jq (if er = 0 then lvV 256 K C' F' nd else Mv K nd).lv, 1 ≤ d.1 ∧ d.1 < 256 ∧ SqT 12 (ads t0) d.1 := by
      split
      · rename_i he
        refine ⟨?_, fun d hd => ?_⟩
        · show C'.length < _
          have := CO.few
          omega
        · have hd : d ∈ C' := hd
          have h1 := CO.ins d hd
          exact ⟨h1.1, h1.2, CO.S he d hd⟩
      · exact ⟨by show (0 : Nat) < _; omega, fun d hd => (by cases hd)⟩
    generalize (if er = 0 then lvV 256 K C' F' nd else Mv K nd) = V at *
    with_reducible (refine qw (by with_unfolding_all exact rfl) ?_; refine qw (by with_unfolding_all exact rfl) ?_)
    refine jk H14 rfl fun bx h15 H15 => ?_
    refine js H15 (b := bx) .here rfl (by simp) rfl fun h16 H16 => ?_
    refine jt hne (qq ?_)
    have H := H16.drop
    obtain ⟨hml2, hS⟩ := hVS
    clear hih2
    refine xQ (by decide) (yY (by omega) H GV.ok) fun cv h12 H12 => ?_
    generalize jq V.lv = C at *
    refine jR (fun m s h' => ∃ i : Nat, s = (.int .i64 (i : Int), cv, tv, ()) ∧ i ≤ C.length ∧ m = C.length - i ∧ h' = h12) ?_ (m := C.length) (by show _ < 1000000000; omega) ⟨0, rfl, by omega, by omega, rfl⟩
    rintro m ih4 s h13 hih4 ⟨i, rfl, hi, rfl, rfl⟩
    dsimp only
    refine jv H12 .here ?_
    by_cases hlt : i < C.length
    · have hci : C[i]? = some C[i] := List.getElem?_eq_getElem hlt
      have hd := hS C[i] (List.getElem_mem hlt)
      generalize C[i] = d at *
      obtain ⟨dp, dx⟩ := d
      dsimp only at hd
      obtain ⟨dp, rfl⟩ : ∃ j : Nat, dp = (j : Int) := ⟨dp.toNat, by omega⟩
      have hcell : (C.flatMap jf)[i * 2 + 0]? = some (.int .i64 (dp : Int)) := by rw [xE (sz := 2) jf (fun _ => rfl) _ _ _ (by omega), hci]; rfl
      have hsq := hSq _ hd.1 hd.2.1 hd.2.2
      rw [show ((dp : Int)).toNat = dp by omega] at hsq
      with_reducible (refine zA (by omega) ?_; refine qq ?_)
      refine zx (H12.sl .here) (by omega) hlt hcell ?_
      with_reducible (refine jh (by omega) ?_; refine qk ?_; (try dsimp only); refine qo ?_; (try dsimp only))
      refine zx (H12.sl .here) (by omega) hlt hcell ?_
      refine jv H12 e_2 ?_
      with_reducible (refine zO (by omega) ?_; refine qT ?_; refine qk ?_; (try dsimp only); refine qo ?_; (try dsimp only))
      refine zx (H12.sl .here) (by omega) hlt hcell ?_
      refine zo (H12.sl e_2) hsq ?_
      with_reducible (refine qT ?_; refine qK ?_; refine qU (by omega) ?_)
      exact hih4 (C.length - (i + 1)) _ _ (by omega) ⟨i + 1, rfl, by omega, rfl, rfl⟩
    · with_reducible (refine jh (by omega) ?_; refine qK ?_; refine qF ?_)
      exact qz rfl
theorem told {h : AH} {l : List AV} (H : WTs Tryz.prog h 8 Tryz.f4.params.toList l) : wp (W4 (vK 6 (qy tab qI 3000)) l h) fun v _ => v = .bool true := by
  have e : Tryz.f4.params.toList = [22, 22, 25] := by kernel_rfl
  rw [e] at H
  obtain ⟨a0, a1, a2, rfl, H0, H1, H2⟩ := WTs3 H
  simp only [WTV, Tryz.underlying3, Tryz.underlying4, Tryz.underlying22, Tryz.underlying23, Tryz.underlying25] at H0 H1 H2
  obtain ⟨q0, xs0, S0, L0, G0⟩ := Um (sz := 4) Tryz.underlying22 (by kernel_rfl) (by omega) H0
  obtain ⟨ks0, g10, hp0, rfl⟩ := UZ (α := vH) (Pr := fun c => 0 ≤ c.2.2.1 ∧ 0 ≤ c.2.2.2) zW S0.len (fun i hi => by
    have := G0 i hi
    generalize (xs0.drop (i * 4)).take 4 = row at this
    unfold WT at this
    simp only [Tryz.underlying25] at this
    obtain ⟨g1, g2⟩ := this
    rw [show Tryz.prog.cellsOf 25 = 4 by kernel_rfl] at g1
    match row, g1 with
    | [x, y, z, u], _ =>
      have f1 := g2 _ (List.mem_cons_self ..)
      have f2 := g2 _ (List.mem_cons_of_mem _ (List.mem_cons_self ..))
      have f3 := g2 _ (List.mem_cons_of_mem _ (List.mem_cons_of_mem _ (List.mem_cons_self ..)))
      have f4 := g2 _ (List.mem_cons_of_mem _ (List.mem_cons_of_mem _ (List.mem_cons_of_mem _ (List.mem_cons_self ..))))
      rw [show Tryz.prog.cellsOf 3 = 1 by kernel_rfl] at f1 f2
      rw [show Tryz.prog.cellsOf 23 = 1 by kernel_rfl] at f3 f4
      unfold WT at f1 f2 f3 f4
      simp only [Tryz.underlying3, List.drop_zero, List.take_succ_cons, List.take_zero, List.drop_succ_cons] at f1 f2
      simp only [Tryz.underlying23, List.drop_succ_cons, List.drop_zero, List.take_succ_cons, List.take_zero] at f3 f4
      obtain ⟨a, ha, _⟩ := f1
      obtain ⟨b, hb, _⟩ := f2
      obtain ⟨c, hc, hc2⟩ := f3
      obtain ⟨d, hd, hd2⟩ := f4
      cases ha; cases hb; cases hc; cases hd
      exact ⟨(a, b, c, d), ⟨hc2.1, hd2.1⟩, rfl⟩)
  obtain ⟨q1, xs1, S1, L1, G1⟩ := Um (sz := 4) Tryz.underlying22 (by kernel_rfl) (by omega) H1
  obtain ⟨ks1, g11, hp1, rfl⟩ := UZ (α := vH) (Pr := fun c => 0 ≤ c.2.2.1 ∧ 0 ≤ c.2.2.2) zW S1.len (fun i hi => by
    have := G1 i hi
    generalize (xs1.drop (i * 4)).take 4 = row at this
    unfold WT at this
    simp only [Tryz.underlying25] at this
    obtain ⟨g1, g2⟩ := this
    rw [show Tryz.prog.cellsOf 25 = 4 by kernel_rfl] at g1
    match row, g1 with
    | [x, y, z, u], _ =>
      have f1 := g2 _ (List.mem_cons_self ..)
      have f2 := g2 _ (List.mem_cons_of_mem _ (List.mem_cons_self ..))
      have f3 := g2 _ (List.mem_cons_of_mem _ (List.mem_cons_of_mem _ (List.mem_cons_self ..)))
      have f4 := g2 _ (List.mem_cons_of_mem _ (List.mem_cons_of_mem _ (List.mem_cons_of_mem _ (List.mem_cons_self ..))))
      rw [show Tryz.prog.cellsOf 3 = 1 by kernel_rfl] at f1 f2
      rw [show Tryz.prog.cellsOf 23 = 1 by kernel_rfl] at f3 f4
      unfold WT at f1 f2 f3 f4
      simp only [Tryz.underlying3, List.drop_zero, List.take_succ_cons, List.take_zero, List.drop_succ_cons] at f1 f2
      simp only [Tryz.underlying23, List.drop_succ_cons, List.drop_zero, List.take_succ_cons, List.take_zero] at f3 f4
      obtain ⟨a, ha, _⟩ := f1
      obtain ⟨b, hb, _⟩ := f2
      obtain ⟨c, hc, hc2⟩ := f3
      obtain ⟨d, hd, hd2⟩ := f4
      cases ha; cases hb; cases hc; cases hd
      exact ⟨(a, b, c, d), ⟨hc2.1, hd2.1⟩, rfl⟩)
  obtain ⟨cl, rfl, H2⟩ := H2
  unfold WT at H2
  simp only [Tryz.underlying25] at H2
  obtain ⟨g3, g4⟩ := H2
  rw [show Tryz.prog.cellsOf 25 = 4 by kernel_rfl] at g3
  match cl, g3 with
  | [x, y, z, u], _ =>
    have f1 := g4 _ (List.mem_cons_self ..)
    have f2 := g4 _ (List.mem_cons_of_mem _ (List.mem_cons_self ..))
    have f3 := g4 _ (List.mem_cons_of_mem _ (List.mem_cons_of_mem _ (List.mem_cons_self ..)))
    have f4 := g4 _ (List.mem_cons_of_mem _ (List.mem_cons_of_mem _ (List.mem_cons_of_mem _ (List.mem_cons_self ..))))
    rw [show Tryz.prog.cellsOf 3 = 1 by kernel_rfl] at f1 f2
    rw [show Tryz.prog.cellsOf 23 = 1 by kernel_rfl] at f3 f4
    unfold WT at f1 f2 f3 f4
    simp only [Tryz.underlying3, List.drop_zero, List.take_succ_cons, List.take_zero, List.drop_succ_cons] at f1 f2
    simp only [Tryz.underlying23, List.drop_succ_cons, List.drop_zero, List.take_succ_cons, List.take_zero] at f3 f4
    obtain ⟨a, ha, _⟩ := f1
    obtain ⟨b, hb, _⟩ := f2
    obtain ⟨c, hc, hc2⟩ := f3
    obtain ⟨d, hd, hd2⟩ := f4
    cases ha; cases hb; cases hc; cases hd
    exact law (cc := (a, b, c, d)) (by omega) (g10 ▸ S0) hp0 (g10 ▸ L0) (g11 ▸ S1) hp1 (g11 ▸ L1) ⟨hc2.1, hd2.1⟩
end Go.Proofs.YtpohfcljfemhlaaGreat.treeApart
