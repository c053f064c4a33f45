/- Lemmas for 'quietus/quietuslaw22.ModelTells': The documents own run of a program: one instruction; The documents own run of a program: from its beginning to its end; Programs that are drawn: they may run. ... No condition. -/
import Derived.Test.YtdlfmpmpmkffjaaGreatDoorModelTellsM3
import Derived.Test.YtdlfmpmpmkffjaaGreatDoorModelTellsM2
import Derived.Test.YtdlfmpmpmkffjaaGreatDoorModelTellsM1
namespace Go.Proofs.YtdlfmpmpmkffjaaGreatDoor
open Go Go.Ae
set_option maxRecDepth 100000
variable {g h : AH} {L R : List SP}
theorem Jl {n : Nat} (hn : 1 ≤ n) {b off : Int} (hb : 0 ≤ b ∧ b < 18446744073709551616) (ho : 0 ≤ off ∧ off ≤ 100) :
  wp (callT tab qA n (.fn 142 [] []) [.int .u64 b, .int .i64 off] h) fun r h' => r = .int .i64 (if (jm b off).2 = 0 then (jm b off).1 else -1) ∧ h' = h := by
 (refine qP (g := (tD2 S142)) rfl (by omega) fun k hk => ?_; show wp (S142 (callT tab qA k) _ _ _).1 _; unfold S142; try simp only [ Int.ofNat_eq_natCast])
 by_cases h1 : 2147483648 ≤ b
 ·rw [show jm b off = (0, 2) by unfold jm; rw [if_pos (.inl h1)]]
  with_reducible (refine jV (by omega) ?_; refine qX ?_; (try dsimp only); refine qS ?_; (try dsimp only); refine qC ?_; refine qX ?_; (try dsimp only); refine qS ?_; (try dsimp only); refine qC ?_; refine qV ?_)
  exact qW ⟨rfl, rfl⟩
 by_cases h2 : 2147483648 ≤ b + off
 ·rw [show jm b off = (0, 2) by unfold jm; rw [if_pos (.inr (.inl h2))]]
  with_reducible (refine jQ (by omega) ?_; refine qX ?_; (try dsimp only); refine qB ?_; (try dsimp only); refine jI (by omega) ?_; refine qD (by omega) ?_; refine jV (by omega) ?_; refine qv ?_; refine qX ?_; (try dsimp only); refine qS ?_; (try dsimp only); refine qC ?_; refine qV ?_)
  exact qW ⟨rfl, rfl⟩
 by_cases h3 : b + off < 6
 ·rw [show jm b off = (0, 2) by unfold jm; rw [if_pos (.inr (.inr h3))]]
  with_reducible (refine jQ (by omega) ?_; refine qX ?_; (try dsimp only); refine qB ?_; (try dsimp only); refine jI (by omega) ?_; refine qD (by omega) ?_; refine jQ (by omega) ?_; refine qv ?_; refine qX ?_; (try dsimp only); refine qB ?_; (try dsimp only); refine jI (by omega) ?_; refine qD (by omega) ?_; refine jC (by omega) ?_; refine qv ?_; refine qV ?_)
  exact qW ⟨rfl, rfl⟩
 ·rw [show jm b off = (b + off, 0) by unfold jm; rw [if_neg (by omega)]]
  with_reducible (refine jQ (by omega) ?_; refine qX ?_; (try dsimp only); refine qB ?_; (try dsimp only); refine jI (by omega) ?_; refine qD (by omega) ?_; refine jQ (by omega) ?_; refine qv ?_; refine qX ?_; (try dsimp only); refine qB ?_; (try dsimp only); refine jI (by omega) ?_; refine qD (by omega) ?_; refine jv (by omega) ?_; refine qv ?_; refine qQ ?_; refine jI (by omega) ?_; refine qD (by omega) ?_)
  exact qW ⟨rfl, rfl⟩
def Mf (op a b : Int) : Int := if op = 3 then j4 .u64 (a + b) else if op = 4 then j4 .u64 (a - b) else if op = 5 then j4 .u64 (a * b) else if op = 6 then vY (a < b) else vY (a = b)
theorem Vb {n : Nat} (hn : 1 ≤ n) {op a b : Int} (ho : 3 ≤ op ∧ op ≤ 7) : wp (callT tab qA n (.fn 94 [] []) [.int .i64 op, .int .u64 a, .int .u64 b] h) fun r h' => r = .int .u64 (Mf op a b) ∧ h' = h := by
 (refine qP (g := (tD3 S94)) rfl (by omega) fun k hk => ?_; show wp (S94 (callT tab qA k) _ _ _ _).1 _; unfold S94; try simp only [ Int.ofNat_eq_natCast])
 unfold Mf
 by_cases c3 : op = 3
 ·rw [if_pos c3]
  with_reducible (refine qX ?_; (try dsimp only); refine qy (by omega) ?_; refine qV ?_)
  exact Kq (qW ⟨rfl, rfl⟩)
 rw [if_neg c3]
 by_cases c4 : op = 4
 ·rw [if_pos c4]
  with_reducible (refine qX ?_; (try dsimp only); refine qK (by omega) ?_; refine qQ ?_; refine qy (by omega) ?_; refine qV ?_)
  exact G5 (qW ⟨rfl, rfl⟩)
 rw [if_neg c4]
 by_cases c5 : op = 5
 ·rw [if_pos c5]
  with_reducible (refine qX ?_; (try dsimp only); refine qK (by omega) ?_; refine qQ ?_; refine qK (by omega) ?_; refine qQ ?_; refine qy (by omega) ?_; refine qV ?_)
  exact Vn (qW ⟨rfl, rfl⟩)
 rw [if_neg c5]
 by_cases c6 : op = 6
 ·rw [if_pos c6]
  by_cases h : a < b
  ·with_reducible (refine qX ?_; (try dsimp only); refine qK (by omega) ?_; refine qQ ?_; refine qK (by omega) ?_; refine qQ ?_; refine qK (by omega) ?_; refine qQ ?_; refine qy (by omega) ?_; refine qV ?_; refine jC (by omega) ?_; refine qV ?_)
   exact qW ⟨by unfold vY; rw [if_pos h]; rfl, rfl⟩
  ·with_reducible (refine qX ?_; (try dsimp only); refine qK (by omega) ?_; refine qQ ?_; refine qK (by omega) ?_; refine qQ ?_; refine qK (by omega) ?_; refine qQ ?_; refine qy (by omega) ?_; refine qV ?_; refine jv (by omega) ?_; refine qQ ?_; refine qj ?_)
   exact qW ⟨by unfold vY; rw [if_neg h]; rfl, rfl⟩
 ·rw [if_neg c6]
  by_cases h : a = b
  ·with_reducible (refine qX ?_; (try dsimp only); refine qK (by omega) ?_; refine qQ ?_; refine qK (by omega) ?_; refine qQ ?_; refine qK (by omega) ?_; refine qQ ?_; refine qK (by omega) ?_; refine qQ ?_; refine qy (by omega) ?_; refine qV ?_; refine qy (by omega) ?_; refine qV ?_)
   exact qW ⟨by unfold vY; rw [if_pos h]; rfl, rfl⟩
  ·with_reducible (refine qX ?_; (try dsimp only); refine qK (by omega) ?_; refine qQ ?_; refine qK (by omega) ?_; refine qQ ?_; refine qK (by omega) ?_; refine qQ ?_; refine qK (by omega) ?_; refine qQ ?_; refine qy (by omega) ?_; refine qV ?_; refine qK (by omega) ?_; refine qQ ?_; refine qj ?_)
   exact qW ⟨by unfold vY; rw [if_neg h]; rfl, rfl⟩
theorem qXh {M : VM} {p z : Int} (hp : 1 ≤ p ∧ p < M.sz) : jU M [(p, z)] = ((xH M.most M.lv p z).1, { M with lv := (xH M.most M.lv p z).2 }) := by
 unfold jU
 rw [if_pos (by intro c hc; rw [List.mem_singleton] at hc; subst hc; exact hp), xl]
 split
 ·rename_i h0; rw [h0]; rfl
 ·rename_i h0
  have hx := KR h0
  rw [hx]
theorem Zl {M : VM} {p z : Int} (hp : ¬ (1 ≤ p ∧ p < M.sz)) : jU M [(p, z)] = (2, M) := by
 unfold jU
 rw [if_neg (fun hh => hp (hh (p, z) (List.mem_singleton_self _)))]
theorem Y9 {s : IM} {V : VM} {x : qM} (h : (jt s V x).1 ≠ 0) : (jt s V x).2.1 = s := by
 unfold jt at h ⊢
 repeat' split
 all_goals first | rfl | skip
 all_goals (exfalso; simp_all)
section
variable {y o : Nat} {sv : AV} {mt : List Int} {s : IM} {kind err left : Int}
theorem qZ3 {n : Nat} (hn : 8 ≤ n) {V : VM} {x : qM} (G : jT V) (ro : gi s.regs) (hop : x.1 = 8 ∨ x.1 = 9 ∨ x.1 = 10 ∨ x.1 = 11) (ha : 0 ≤ x.2.1 ∧ x.2.1 ≤ 7) (hb : 0 ≤ x.2.2.1 ∧ x.2.2.1 ≤ 7) (hc : 0 ≤ x.2.2.2.1 ∧ x.2.2.2.1 ≤ 100)
  (H : HS g h (RefC y o sv mt s kind err left :: RvC o V :: R)) :
  wp (callT tab qA n (.fn 95 [] []) [.ptr y 0, .agg (qe x)] h) fun r h' => r = .int .i64 (jt s V x).1 ∧ HS g h' (RefC y o sv mt (jt s V x).2.1 kind err left :: RvC o (jt s V x).2.2 :: R) := by
 (refine qP (g := (tD2 S95)) rfl (by omega) fun k hk => ?_; show wp (S95 (callT tab qA k) _ _ _).1 _; unfold S95; try simp only [ Int.ofNat_eq_natCast])
 refine qU H rfl fun b h1 H1 => ?_
 have H1 : HS g h1 (qw b (qe x) :: RefC y o sv mt s kind err left :: RvC o V :: R) := H1
 have HB := H1.sub (L' := RefC y o sv mt s kind err left :: RvC o V :: qw b (qe x) :: R) (.cons e_1 (.cons e_1 (.cons .here .refl)))
 clear H
 obtain ⟨lv, ov, mv, qs, e, H2⟩ := RefC.E HB
 obtain ⟨a, hax⟩ : ∃ a : Nat, x.2.1 = a := ⟨x.2.1.toNat, by omega⟩
 obtain ⟨bb, hbx⟩ : ∃ a : Nat, x.2.2.1 = a := ⟨x.2.2.1.toNat, by omega⟩
 have ha8 : a < 8 := by omega
 have hb8 : bb < 8 := by omega
 have hra := ro.at (a : Int)
 have hrb := ro.at (bb : Int)
 have ldA : (qe x)[1]? = some (.int .i64 (a : Int)) := by rw [← hax]; rfl
 have ldB : (qe x)[2]? = some (.int .i64 (bb : Int)) := by rw [← hbx]; rfl
 unfold jt
 rw [hax, hbx]
 refine qJ (qG H1 (b := b) .here rfl ?_)
 have res : ∀ {h' : AH} {V' : VM} {a0 : Nat} {z : Int}, a0 < 8 → HS g h' (RefC y o sv mt s kind err left :: RvC o V' :: qw b (qe x) :: R) → ∀ {K0 : AH → Go.Ae.R} {Q}, (∀ h'', HS g h'' (RefC y o sv mt (setR s (a0 : Int) z) kind err left :: RvC o V' :: R) → wp (K0 h'') Q) →
   wp (zd (.ptr y 0) fun v => qa v 2 fun v => yl v (.int .i64 (a0 : Int)) 8 1 fun v => jX h' v (.int .u64 z) 1 K0) Q := by
  intro h' V' a0 z h8 H' K0 Q w
  obtain ⟨lv, ov, mv, qs, e, H3⟩ := RefC.E H'
  refine qq (qJ (xV h8 ?_))
  refine qc H3 (b := y) .here ⟨rfl, rfl⟩ (by show 2 + a0 * 1 < 17; omega) fun h4 H4 => w h4 ?_
  exact (MB e ro.len h8 rfl H4).sub (.cons .here (.cons .here (.drop .refl)))
 by_cases c8 : x.1 = 8
 ·rw [if_pos c8]
  refine qy c8 (qV ?_)
  refine qJ (qG H1 (b := b) .here ldB ?_)
  refine qq (qJ (xV hb8 (qG H2 (b := y) .here (yz hb8) ?_)))
  refine qJ (qG H1 (b := b) .here rfl ?_)
  refine qY (Jl (by omega) hrb hc) ?_
  rintro _ _ ⟨rfl, rfl⟩
  by_cases h0 : (jm (qE s.regs (bb : Int)) x.2.2.2.1).2 = 0
  ·rw [if_pos h0, if_pos h0]
   have hpl : 6 ≤ (jm (qE s.regs (bb : Int)) x.2.2.2.1).1 := by
    unfold jm at h0 ⊢
    split
    ·rename_i hh; rw [if_pos hh] at h0; cases h0
    ·dsimp only; omega
   generalize (jm (qE s.regs (bb : Int)) x.2.2.2.1).1 = p at *
   refine jv (by omega) (qQ ?_)
   refine qq (qJ (qG H2 (b := y) .here rfl ?_))
   refine qY (gG (by omega) (HB.sel (P := RvC o V) e_1) G.ok) ?_
   rintro _ h3 ⟨rfl, H3⟩
   refine qx rfl (qx rfl (qX ?_))
   try dsimp only
   by_cases h4 : (qT V p).1.2 = 0
   ·rw [if_pos h4]
    refine qy h4 (qV ?_)
    refine qJ (qG H3 (b := b) e_2 ldA ?_)
    refine res ha8 (H3.sub (.cons e_1 (.cons .here (.cons .here .refl)))) fun h5 H5 => ?_
    exact qj (qW ⟨by rw [h4], H5⟩)
   ·rw [if_neg h4]
    refine qK h4 (qQ ?_)
    exact qj (qW ⟨rfl, H3.sub (.cons e_1 (.cons .here (.drop .refl)))⟩)
  ·rw [if_neg h0, if_neg h0]
   refine jC (by omega) (qV ?_)
   exact qW ⟨rfl, HB.sub (.cons .here (.cons .here (.drop .refl)))⟩
 rw [if_neg c8]
 refine qK c8 (qQ ?_)
 by_cases c9 : x.1 = 9
 ·rw [if_pos c9]
  refine qy c9 (qV ?_)
  refine qJ (qG H1 (b := b) .here ldA ?_)
  refine qq (qJ (xV ha8 (qG H2 (b := y) .here (yz ha8) ?_)))
  refine qJ (qG H1 (b := b) .here rfl ?_)
  refine qY (Jl (by omega) hra hc) ?_
  rintro _ _ ⟨rfl, rfl⟩
  by_cases h0 : (jm (qE s.regs (a : Int)) x.2.2.2.1).2 = 0
  ·rw [if_pos h0, if_pos h0]
   have hpl : 6 ≤ (jm (qE s.regs (a : Int)) x.2.2.2.1).1 := by
    unfold jm at h0 ⊢
    split
    ·rename_i hh; rw [if_pos hh] at h0; cases h0
    ·dsimp only; omega
   generalize (jm (qE s.regs (a : Int)) x.2.2.2.1).1 = p at *
   refine jv (by omega) (qX ?_)
   try dsimp only
   refine qB ?_
   try dsimp only
   refine qq (qJ (qG H2 (b := y) .here rfl ?_))
   refine qY (J5 (by omega) (HB.sel (P := RvC o V) e_1)) ?_
   rintro _ _ ⟨rfl, rfl⟩
   by_cases hin : 1 ≤ p ∧ p < V.sz
   ·rw [decide_eq_true hin, qXh hin]
    refine qo (qv (qQ ?_))
    obtain ⟨kv, q, H3⟩ := RvC.E (H2.sel (P := RvC o V) e_4)
    refine qq (qJ (qG H2 (b := y) .here rfl ?_))
    refine qq (qJ (qG H3 (b := o) .here rfl ?_))
    refine qJ (qG H1 (b := b) .here ldB ?_)
    refine qq (qJ (xV hb8 (qG H2 (b := y) .here (yz hb8) ?_)))
    refine qY (KF (by omega) (H3.sel (P := RgC q V.most V.lv) e_2) G.ok.lvs) ?_
    rintro _ h4 ⟨rfl, H4⟩
    have H5 : HS g h4 (RefC y o sv mt s kind err left :: RgC q V.most (xH V.most V.lv p (qE s.regs (bb : Int))).2 :: qw o [.int .i64 (V.sz : Int), kv, .ptr q 0, .int .i64 V.need] :: qz 67 2 V.K.length kv (V.K.flatMap jJ) :: qw b (qe x) :: R) :=
     RefC.I e (H4.sub (.cons e_3 (.cons e_3 (.cons e_3 (.cons e_3 (.cons .here (.cons .here (.cons .here (.cons .here .refl)))))))))
    refine qW ⟨rfl, ?_⟩
    have H6 := RvC.I (o := o) (M := { V with lv := (xH V.most V.lv p (qE s.regs (bb : Int))).2 }) (kv := kv) (q := q) (R := RefC y o sv mt s kind err left :: R) (H5.sub (.cons e_2 (.cons e_2 (.cons e_1 (.cons .here (.drop .refl))))))
    exact H6.sub (.cons e_1 (.cons .here .refl))
   ·rw [decide_eq_false hin, Zl hin]
    refine jq (qv (qV ?_))
    exact qW ⟨rfl, HB.sub (.cons .here (.cons .here (.drop .refl)))⟩
  ·rw [if_neg h0, if_neg h0]
   refine jC (by omega) (qX ?_)
   try dsimp only
   refine qS ?_
   try dsimp only
   refine qC (qV ?_)
   exact qW ⟨rfl, HB.sub (.cons .here (.cons .here (.drop .refl)))⟩
 rw [if_neg c9]
 refine qK c9 (qQ ?_)
 by_cases c10 : x.1 = 10
 ·rw [if_pos c10]
  refine qy c10 (qV ?_)
  refine qJ (qG H1 (b := b) .here ldB ?_)
  refine qq (qJ (xV hb8 (qG H2 (b := y) .here (yz hb8) ?_)))
  by_cases h0 : 2147483648 ≤ qE s.regs (bb : Int)
  ·rw [if_pos h0]
   refine jV (by omega) (qV ?_)
   exact qW ⟨rfl, HB.sub (.cons .here (.cons .here (.drop .refl)))⟩
  ·rw [if_neg h0]
   refine jQ (by omega) (qQ ?_)
   refine qq (qJ (qG H2 (b := y) .here rfl ?_))
   refine qJ (qG H1 (b := b) .here ldB ?_)
   refine qq (qJ (xV hb8 (qG H2 (b := y) .here (yz hb8) ?_)))
   refine jI (by omega) ?_
   refine qY (OJ (by omega) (HB.sel (P := RvC o V) e_1) G.ok G.wd) ?_
   rintro _ h3 ⟨rfl, H3⟩
   refine qx rfl (qx rfl (qX ?_))
   try dsimp only
   by_cases h4 : (zM V (qE s.regs (bb : Int))).1.2 = 0
   ·rw [if_pos h4]
    have hbb := KQ (x := qE s.regs (bb : Int)) G.wd h4
    refine qy h4 (qV ?_)
    refine qJ (qG H3 (b := b) e_2 ldA ?_)
    refine zW (by omega) ?_
    refine res ha8 (H3.sub (.cons e_1 (.cons .here (.cons .here .refl)))) fun h5 H5 => ?_
    exact qj (qW ⟨by rw [h4], H5⟩)
   ·rw [if_neg h4]
    refine qK h4 (qQ ?_)
    exact qj (qW ⟨rfl, H3.sub (.cons e_1 (.cons .here (.drop .refl)))⟩)
 ·rw [if_neg c10]
  refine qK c10 (qQ ?_)
  refine qJ (qG H1 (b := b) .here ldA ?_)
  refine qq (qJ (xV ha8 (qG H2 (b := y) .here (yz ha8) ?_)))
  by_cases h0 : 2147483648 ≤ qE s.regs (a : Int)
  ·rw [if_pos h0]
   refine jV (by omega) (qV ?_)
   exact qW ⟨rfl, HB.sub (.cons .here (.cons .here (.drop .refl)))⟩
  ·rw [if_neg h0]
   refine jQ (by omega) (qQ ?_)
   refine qq (qJ (qG H2 (b := y) .here rfl ?_))
   refine qJ (qG H1 (b := b) .here ldA ?_)
   refine qq (qJ (xV ha8 (qG H2 (b := y) .here (yz ha8) ?_)))
   refine jI (by omega) ?_
   refine qY (qQB (by omega) (HB.sel (P := RvC o V) e_1) G.ok G.wd) ?_
   rintro _ h3 ⟨rfl, H3⟩
   exact qW ⟨rfl, H3.sub (.cons e_1 (.cons .here (.drop .refl)))⟩
end
end Go.Proofs.YtdlfmpmpmkffjaaGreatDoor
namespace Go.Proofs.YtdlfmpmpmkffjaaGreatDoor
open Go Go.Ae
set_option maxRecDepth 100000
variable {g h : AH} {L R : List SP}
section
variable {y o : Nat} {sv : AV} {mt : List Int} {s : IM} {kind err left : Int}
theorem qZM {mt : List Int} {s : IM} {V : VM} {x : qM} (h : 3 ≤ x.1 ∧ x.1 ≤ 7) : doM mt s V x = ⟨0, s.pc + 1, false, setR s x.2.1 (Mf x.1 (qE s.regs x.2.2.1) (qE s.regs x.2.2.2.1)), V⟩ := by
 unfold doM Mf
 rw [if_neg (by omega), if_neg (by omega)]
 by_cases c3 : x.1 = 3
 ·rw [if_pos c3, if_pos c3]
 rw [if_neg c3, if_neg c3]
 by_cases c4 : x.1 = 4
 ·rw [if_pos c4, if_pos c4]
 rw [if_neg c4, if_neg c4]
 by_cases c5 : x.1 = 5
 ·rw [if_pos c5, if_pos c5]
 rw [if_neg c5, if_neg c5]
 by_cases c6 : x.1 = 6
 ·rw [if_pos c6, if_pos c6]
 rw [if_neg c6, if_neg c6, if_pos (by omega)]
set_option maxHeartbeats 4000000 in
theorem ZO {n : Nat} (hn : 9 ≤ n) {V : VM} {x : qM} {l : List qM} (P : DoP l mt s V x) (hlv : V.lv.length = s.opn.length + 1) (h5 : s.opn.length ≤ 5) (hb : x.1 = 14 ∨ x.1 = 17 → s.opn.length < 5) (hf : frS V.lv < 1000000)
  (H : HS g h (RefC y o sv mt s 0 err left :: RvC o V :: R)) :
  wp (callT tab qA n (.fn 63 [] []) [.ptr y 0, .agg (qe x)] h) fun r h' => r = .int .i64 (doM mt s V x).e ∧
   HS g h' (RefC y o sv mt (if (doM mt s V x).e = 0 then { (doM mt s V x).s with pc := (doM mt s V x).nx } else s) (if (doM mt s V x).blk = true then 3 else 0) err left :: RvC o (doM mt s V x).v :: R) := by
 (refine qP (g := (tD2 S63)) rfl (by omega) fun k hk => ?_; show wp (S63 (callT tab qA k) _ _ _).1 _; unfold S63; try simp only [ Int.ofNat_eq_natCast])
 have G := P.good
 have ro := P.regs
 have hpc := P.pc
 have hout := P.out
 refine qU H rfl fun b h1 H1 => ?_
 have H1 : HS g h1 (qw b (qe x) :: RefC y o sv mt s 0 err left :: RvC o V :: R) := H1
 have HB := H1.sub (L' := RefC y o sv mt s 0 err left :: RvC o V :: qw b (qe x) :: R) (.cons e_1 (.cons e_1 (.cons .here .refl)))
 clear H
 obtain ⟨lv, ov, mv, qs, e, H2⟩ := RefC.E HB
 obtain ⟨a, hax⟩ : ∃ a : Nat, x.2.1 = a := ⟨x.2.1.toNat, by have := P.a; omega⟩
 obtain ⟨bb, hbx⟩ : ∃ a : Nat, x.2.2.1 = a := ⟨x.2.2.1.toNat, by have := P.b; omega⟩
 have ha8 : a < 8 := by have := P.a; omega
 have hb8 : bb < 8 := by have := P.b; omega
 have ldA : (qe x)[1]? = some (.int .i64 (a : Int)) := by rw [← hax]; rfl
 have ldB : (qe x)[2]? = some (.int .i64 (bb : Int)) := by rw [← hbx]; rfl
 refine qq (qJ (qG H2 (b := y) .here rfl (qD (by omega) ?_)))
 refine qJ (qG H1 (b := b) .here rfl ?_)
 have res : ∀ {h' : AH} {a0 : Nat} {z : Int}, a0 < 8 → HS g h' (RefC y o sv mt s 0 err left :: RvC o V :: qw b (qe x) :: R) → ∀ {K0 : AH → Go.Ae.R} {Q}, (∀ h'', HS g h'' (RefC y o sv mt (setR s (a0 : Int) z) 0 err left :: RvC o V :: qw b (qe x) :: R) → wp (K0 h'') Q) →
   wp (zd (.ptr y 0) fun v => qa v 2 fun v => yl v (.int .i64 (a0 : Int)) 8 1 fun v => jX h' v (.int .u64 z) 1 K0) Q := by
  intro h' a0 z h8 H' K0 Q w
  obtain ⟨lv, ov, mv, qs, e, H3⟩ := RefC.E H'
  refine qq (qJ (xV h8 ?_))
  refine qc H3 (b := y) .here ⟨rfl, rfl⟩ (by show 2 + a0 * 1 < 17; omega) fun h4 H4 => w h4 ?_
  exact MB e ro.len h8 rfl H4
 have fin : ∀ {e nx : Int} {s' : IM} {V' : VM} {h0 : AH} {D : SM}, HS g h0 (RefC y o sv mt s' 0 err left :: RvC o V' :: qw b (qe x) :: R) → (e ≠ 0 → s' = s) → D = ⟨e, nx, false, s', V'⟩ →
   wp (jZ .eql (.int .i64 e) (.int .i64 ((0 : Nat) : Int)) fun v17 => jO v17 (zd (.ptr y 0) fun v18 => qa v18 10 fun v19 => jX h0 v19 (.int .i64 nx) 1 fun h20 => jB [] h20 fun h16 => some (.int .i64 e, h16)) (jB [] h0 fun h16 => some (.int .i64 e, h16)))
    fun r h' => r = .int .i64 D.e ∧ HS g h' (RefC y o sv mt (if D.e = 0 then { D.s with pc := D.nx } else s) (if D.blk = true then 3 else 0) err left :: RvC o D.v :: R) := by
  rintro e nx s' V' h0 D H0 he rfl
  by_cases h : e = 0
  ·refine qy h (qV ?_)
   refine MO H0 fun h3 H3 => qj (qW ⟨rfl, ?_⟩)
   dsimp only
   rw [if_pos h]
   exact H3.sub (.cons .here (.cons .here (.drop .refl)))
  ·refine qK h (qQ (qj (qW ⟨rfl, ?_⟩)))
   dsimp only
   rw [if_neg h, ← he h]
   exact H0.sub (.cons .here (.cons .here (.drop .refl)))
 have hop := P.op
 have hc : x.1 = 1 ∨ x.1 = 2 ∨ (x.1 = 3 ∨ x.1 = 4 ∨ x.1 = 5 ∨ x.1 = 6 ∨ x.1 = 7) ∨ (x.1 = 8 ∨ x.1 = 9 ∨ x.1 = 10 ∨ x.1 = 11) ∨ x.1 = 12 ∨ x.1 = 13 ∨ x.1 = 21 ∨ x.1 = 22 ∨ (14 ≤ x.1 ∧ x.1 ≤ 20) := by omega
 have reck : (3 ≤ x.1 ∧ x.1 ≤ 7) → wp (qa (.ptr b 0) 1 fun v50 => qm h1 v50 fun v51 => qa (.ptr b 0) 0 fun v52 => qm h1 v52 fun v53 => qa (.ptr b 0) 2 fun v54 => qm h1 v54 fun v55 => zd (.ptr y 0) fun v56 => qa v56 2 fun v57 => yl v57 v55 8 1 fun v58 => qm h1 v58 fun v59 =>
   qa (.ptr b 0) 3 fun v60 => qm h1 v60 fun v61 => zd (.ptr y 0) fun v62 => qa v62 2 fun v63 => yl v63 v61 8 1 fun v64 => qm h1 v64 fun v65 => jf (callT tab qA k) (.fn 94 [] []) [v53, v59, v65] h1 fun v66 h67 => zd (.ptr y 0) fun v68 => qa v68 2 fun v69 => yl v69 v51 8 1 fun v70 =>
   jX h67 v70 v66 1 fun h71 => wT v50 none v51 h1 h67 h1.nx <| jZ .eql (.int .i64 ((0 : Nat) : Int)) (.int .i64 ((0 : Nat) : Int)) fun v17 => jO v17 (zd (.ptr y 0) fun v18 => qa v18 10 fun v19 => jX h71 v19 (.int .i64 (s.pc + ((1 : Nat) : Int))) 1 fun h20 => jB [] h20 fun h16 => some (.int .i64 ((0 : Nat) : Int), h16))
    (jB [] h71 fun h16 => some (.int .i64 ((0 : Nat) : Int), h16))) fun r h' => r = .int .i64 (doM mt s V x).e ∧
   HS g h' (RefC y o sv mt (if (doM mt s V x).e = 0 then { (doM mt s V x).s with pc := (doM mt s V x).nx } else s) (if (doM mt s V x).blk = true then 3 else 0) err left :: RvC o (doM mt s V x).v :: R) := by
  intro c
  obtain ⟨cc, hcx⟩ : ∃ a : Nat, x.2.2.2.1 = a := ⟨x.2.2.2.1.toNat, by have := P.c; omega⟩
  have hc8 : cc < 8 := by have := P.c7 c; omega
  have ldC : (qe x)[3]? = some (.int .i64 (cc : Int)) := by rw [← hcx]; rfl
  refine qJ (qG H1 (b := b) .here ldA ?_)
  refine qJ (qG H1 (b := b) .here rfl ?_)
  refine qJ (qG H1 (b := b) .here ldB ?_)
  refine qq (qJ (xV hb8 (qG H2 (b := y) .here (yz hb8) ?_)))
  refine qJ (qG H1 (b := b) .here ldC ?_)
  refine qq (qJ (xV hc8 (qG H2 (b := y) .here (yz hc8) ?_)))
  refine qY (Vb (by omega) c) ?_
  rintro _ _ ⟨rfl, rfl⟩
  refine res ha8 HB fun h3 H3 => ?_
  refine jc H1 (b := b) .here ldA H1 .here ldA (HS.lt H1 .here) ?_
  refine fin H3 (fun h => absurd rfl h) ?_
  rw [qZM c, hax, hbx, hcx]; rfl
 have mem : (x.1 = 8 ∨ x.1 = 9 ∨ x.1 = 10 ∨ x.1 = 11) → wp (ji h1 (.ptr b 0) 5 fun v76 => jf (callT tab qA k) (.fn 95 [] []) [.ptr y 0, v76] h1 fun v77 h78 => jZ .eql v77 (.int .i64 ((0 : Nat) : Int)) fun v17 =>
   jO v17 (zd (.ptr y 0) fun v18 => qa v18 10 fun v19 => jX h78 v19 (.int .i64 (s.pc + ((1 : Nat) : Int))) 1 fun h20 => jB [] h20 fun h16 => some (v77, h16)) (jB [] h78 fun h16 => some (v77, h16))) fun r h' => r = .int .i64 (doM mt s V x).e ∧
   HS g h' (RefC y o sv mt (if (doM mt s V x).e = 0 then { (doM mt s V x).s with pc := (doM mt s V x).nx } else s) (if (doM mt s V x).blk = true then 3 else 0) err left :: RvC o (doM mt s V x).v :: R) := by
  intro c
  refine qh H1 (b := b) (off := 0) .here rfl (by omega) (l := qe x) rfl ?_
  refine qY (qZ3 (by omega) G ro c P.a P.b P.c HB) ?_
  rintro _ h3 ⟨rfl, H3⟩
  refine fin H3 Y9 ?_
  unfold doM
  rw [if_neg (by omega), if_neg (by omega), if_neg (by omega), if_neg (by omega), if_neg (by omega), if_neg (by omega), if_neg (by omega), if_neg (by omega), if_neg (by omega), if_neg (by omega), if_neg (by omega), if_pos c]; rfl
 rcases hc with c | c | (c | c | c | c | c) | (c | c | c | c) | c | c | c | c | c
 all_goals repeat (first | with_reducible refine qK (by omega) ?_ | with_reducible refine qy (by omega) ?_ | (with_reducible refine qX ?_; try dsimp only) | with_reducible refine qV ?_ | with_reducible refine qQ ?_)
 ·refine qJ (qG H1 (b := b) .here ldA ?_)
  refine qJ (qG H1 (b := b) .here rfl ?_)
  refine res ha8 HB fun h3 H3 => ?_
  refine fin H3 (fun h => absurd rfl h) ?_
  unfold doM
  rw [if_pos c, hax]; rfl
 ·refine qJ (qG H1 (b := b) .here ldA ?_)
  refine qJ (qG H1 (b := b) .here ldB ?_)
  refine qq (qJ (xV hb8 (qG H2 (b := y) .here (yz hb8) ?_)))
  refine res ha8 HB fun h3 H3 => ?_
  refine fin H3 (fun h => absurd rfl h) ?_
  unfold doM
  rw [if_neg (by omega), if_pos c, hax, hbx]; rfl
 ·exact reck (by omega)
 ·exact reck (by omega)
 ·exact reck (by omega)
 ·exact reck (by omega)
 ·exact reck (by omega)
 ·exact mem (by omega)
 ·exact mem (by omega)
 ·exact mem (by omega)
 ·exact mem (by omega)
 ·refine qJ (qG H1 (b := b) .here rfl ?_)
  refine fin HB (fun h => absurd rfl h) ?_
  unfold doM
  rw [if_neg (by omega), if_neg (by omega), if_neg (by omega), if_neg (by omega), if_neg (by omega), if_neg (by omega), if_neg (by omega), if_pos c]; rfl
 ·refine qJ (qG H1 (b := b) .here ldA ?_)
  refine qq (qJ (xV ha8 (qG H2 (b := y) .here (yz ha8) ?_)))
  have ed : doM mt s V x = ⟨0, if qE s.regs (a : Int) = 0 then x.2.2.2.1 else s.pc + 1, false, s, V⟩ := by
   unfold doM
   rw [if_neg (by omega), if_neg (by omega), if_neg (by omega), if_neg (by omega), if_neg (by omega), if_neg (by omega), if_neg (by omega), if_neg (by omega), if_pos c, hax]
  by_cases hz : qE s.regs (a : Int) = 0
  ·refine qy hz (qV ?_)
   refine qJ (qG H1 (b := b) .here rfl ?_)
   refine fin HB (fun h => absurd rfl h) ?_
   rw [ed, if_pos hz]; rfl
  ·refine qK hz (qQ ?_)
   refine fin HB (fun h => absurd rfl h) ?_
   rw [ed, if_neg hz]; rfl
 ·refine qq (qJ (qG H2 (b := y) .here rfl ?_))
  refine qd H2 e_1 ?_
  by_cases h16 : 16 ≤ s.out.length
  ·refine jV (by omega) (qV (qj ?_))
   have ed : doM mt s V x = ⟨5, s.pc + 1, false, s, V⟩ := by
    unfold doM
    rw [if_neg (by omega), if_neg (by omega), if_neg (by omega), if_neg (by omega), if_neg (by omega), if_neg (by omega), if_neg (by omega), if_neg (by omega), if_neg (by omega), if_pos c, if_pos h16]
   rw [ed]
   exact qW ⟨rfl, HB.sub (.cons .here (.cons .here (.drop .refl)))⟩
  ·refine jQ (by omega) (qQ ?_)
   refine qq (qJ (qG H2 (b := y) .here rfl ?_))
   refine qJ (qG H1 (b := b) .here ldA ?_)
   refine qq (qJ (xV ha8 (qG H2 (b := y) .here (yz ha8) ?_)))
   refine qF (l := jJ (1, qE s.regs (a : Int))) rfl ?_
   refine qf (n := 1) (l := jJ (1, qE s.regs (a : Int))) (sz := 2) H2 rfl rfl rfl rfl fun v3 h3 H3 => ?_
   refine je (H3.sel (P := vD lv s.out) e_2) (H3.sl .here) (by omega) (by omega) rfl fun v4 h4 H4 => ?_
   have o4 := H4.one .here
   refine qq (qJ ?_)
   refine qc H4 (b := y) e_2 o4 (by show 12 < 17; omega) fun h5 H5 => ?_
   have H5 : HS g h5 (qw y (xp sv v4 ov mv o 0 err left s.pc s.regs) :: qz 161 2 (s.out.length + 1) v4 (s.out.flatMap jJ ++ jJ (1, qE s.regs (a : Int))) :: qz 161 2 1 v3 (jJ (1, qE s.regs (a : Int))) :: yb ov qs :: yo mv mt :: RvC o V :: qw b (qe x) :: R) := H5
   have H6 : HS g h5 (RefC y o sv mt { s with out := s.out ++ [(1, qE s.regs (a : Int))] } 0 err left :: RvC o V :: qw b (qe x) :: R) := RefC.I (s := { s with out := s.out ++ [(1, qE s.regs (a : Int))] }) (lv := v4) (ov := ov) (mv := mv) e (by
    show HS g h5 (qw y (xp sv v4 ov mv o 0 err left s.pc s.regs) :: qz 161 2 (s.out ++ [(1, qE s.regs (a : Int))]).length v4 ((s.out ++ [(1, qE s.regs (a : Int))]).flatMap jJ) :: yb ov qs :: yo mv mt :: RvC o V :: qw b (qe x) :: R)
    rw [List.length_append, List.flatMap_append, List.flatMap_cons, List.flatMap_nil, List.append_nil]
    exact H5.sub (.cons .here (.cons .here (.drop .refl))))
   refine fin H6 (fun h => absurd rfl h) ?_
   unfold doM
   rw [if_neg (by omega), if_neg (by omega), if_neg (by omega), if_neg (by omega), if_neg (by omega), if_neg (by omega), if_neg (by omega), if_neg (by omega), if_neg (by omega), if_pos c, if_neg h16, hax]; rfl
 ·refine qj ?_
  have ed : doM mt s V x = ⟨13, s.pc + 1, false, s, V⟩ := by
   unfold doM
   rw [if_neg (by omega), if_neg (by omega), if_neg (by omega), if_neg (by omega), if_neg (by omega), if_neg (by omega), if_neg (by omega), if_neg (by omega), if_neg (by omega), if_neg (by omega), if_pos c]
  rw [ed]
  exact qW ⟨rfl, HB.sub (.cons .here (.cons .here (.drop .refl)))⟩
 ·have ed : doM mt s V x = yW mt s V x.1 := by
   unfold doM
   rw [if_neg (by omega), if_neg (by omega), if_neg (by omega), if_neg (by omega), if_neg (by omega), if_neg (by omega), if_neg (by omega), if_neg (by omega), if_neg (by omega), if_neg (by omega), if_neg (by omega), if_neg (by omega)]
  rw [ed]
  refine qh H1 (b := b) (off := 0) .here rfl (by omega) (l := qe x) rfl ?_
  refine qY (qQ9 (by omega) P hlv h5 hb hf c HB) ?_
  rintro _ h3 ⟨rfl, e3, H3⟩
  refine qj (qW ⟨by rw [e3], ?_⟩)
  rw [if_pos e3]
  exact H3.sub (.cons .here (.cons .here (.drop .refl)))
end
theorem qZl {mt : List Int} {s : IM} : ∀ {r : List PtM} {V : VM}, V.lv.length = r.length + 1 → r.length ≤ 5 → (zh mt r s V).e = 0 := by
 intro r
 induction r with
 | nil => intro V _ _; rfl
 | cons p r ih =>
  intro V h1 h2
  have hd := gZ (V := V) (by rw [h1]; simp)
  simp at h2
  have hl : (zK V).2.lv.length = r.length + 1 := by rw [hd.2, List.length_tail, h1]; simp
  unfold zh
  rw [if_pos hd.1]
  split
  ·have ho : (zp (zK V).2).1 = 0 := by
    unfold zp yY
    rw [hl, if_neg (by omega)]
   unfold jn
   rw [if_pos ho]
  ·exact ih hl (by omega)
theorem qVB {mt : List Int} {s : IM} {V : VM} {x : qM} {l : List qM} (P : DoP l mt s V x) (hlv : V.lv.length = s.opn.length + 1) (h5 : s.opn.length ≤ 5) (hb : x.1 = 14 ∨ x.1 = 17 → s.opn.length < 5) : (yW mt s V x.1).e = 0 := by
 have hne : (x.1 = 15 ∨ x.1 = 19 ∨ x.1 = 18 ∨ x.1 = 16) → 2 ≤ V.lv.length := by
  intro c
  have := P.ne c
  have : s.opn.length ≠ 0 := fun h => this (List.eq_nil_of_length_eq_zero h)
  omega
 unfold yW
 by_cases c1 : x.1 = 14 ∨ x.1 = 17
 ·rw [if_pos c1]
  have hb := hb c1
  have ho : (zp V).1 = 0 := by
   unfold zp yY
   rw [hlv, if_neg (by omega)]
  unfold jn
  rw [if_pos ho]
 rw [if_neg c1]
 by_cases c2 : x.1 = 15 ∨ x.1 = 19
 ·rw [if_pos c2]; exact (yt (hne (by omega))).1
 rw [if_neg c2]
 by_cases c3 : x.1 = 18
 ·rw [if_pos c3]; exact (yt (hne (by omega))).1
 rw [if_neg c3]
 by_cases c4 : x.1 = 16
 ·rw [if_pos c4]; exact (gZ (hne (by omega))).1
 rw [if_neg c4]
 exact qZl hlv h5
theorem qVL {mt : List Int} {s : IM} {V : VM} {x : qM} (ht : (yW mt s V x.1).e = 0) (h : (doM mt s V x).e ≠ 0) : (doM mt s V x).s = s := by
 unfold doM at h ⊢
 by_cases c1 : x.1 = 1
 ·rw [if_pos c1] at h; exact absurd rfl h
 rw [if_neg c1] at h ⊢
 by_cases c2 : x.1 = 2
 ·rw [if_pos c2] at h; exact absurd rfl h
 rw [if_neg c2] at h ⊢
 by_cases c3 : x.1 = 3
 ·rw [if_pos c3] at h; exact absurd rfl h
 rw [if_neg c3] at h ⊢
 by_cases c4 : x.1 = 4
 ·rw [if_pos c4] at h; exact absurd rfl h
 rw [if_neg c4] at h ⊢
 by_cases c5 : x.1 = 5
 ·rw [if_pos c5] at h; exact absurd rfl h
 rw [if_neg c5] at h ⊢
 by_cases c6 : x.1 = 6
 ·rw [if_pos c6] at h; exact absurd rfl h
 rw [if_neg c6] at h ⊢
 by_cases c7 : x.1 = 7
 ·rw [if_pos c7] at h; exact absurd rfl h
 rw [if_neg c7] at h ⊢
 by_cases c12 : x.1 = 12
 ·rw [if_pos c12]
 rw [if_neg c12] at h ⊢
 by_cases c13 : x.1 = 13
 ·rw [if_pos c13]
 rw [if_neg c13] at h ⊢
 by_cases c21 : x.1 = 21
 ·rw [if_pos c21] at h ⊢
  by_cases h16 : 16 ≤ s.out.length
  ·rw [if_pos h16]
  ·rw [if_neg h16] at h; exact absurd rfl h
 rw [if_neg c21] at h ⊢
 by_cases c22 : x.1 = 22
 ·rw [if_pos c22]
 rw [if_neg c22] at h ⊢
 by_cases ct : x.1 = 8 ∨ x.1 = 9 ∨ x.1 = 10 ∨ x.1 = 11
 ·rw [if_pos ct] at h ⊢
  exact Y9 h
 ·rw [if_neg ct] at h
  exact absurd ht h
section
variable {y o : Nat} {sv : AV} {s : IM} {kind : Int}
theorem UD {K0 : AH → Go.Ae.R} {Q : AV → AH → Prop} {mt : List Int} {k1 k2 err left : Int} (H : HS g h (RefC y o sv mt s k1 err left :: R)) (w : ∀ h', HS g h' (RefC y o sv mt s k2 err left :: R) → wp (K0 h') Q) :
  wp (zd (.ptr y 0) fun v => qa v 13 fun v => jX h v (.int .i64 k2) 1 K0) Q := by
 obtain ⟨lv, ov, mv, qs, e, H⟩ := RefC.E H
 refine qq (qJ ?_)
 refine qc H (b := y) .here ⟨rfl, rfl⟩ (by show 13 < 17; omega) fun h1 H1 => ?_
 exact w _ (RefC.I (lv := lv) (ov := ov) (mv := mv) e H1)
theorem rerr {K0 : AH → Go.Ae.R} {Q : AV → AH → Prop} {mt : List Int} {e1 e2 left : Int} (H : HS g h (RefC y o sv mt s kind e1 left :: R)) (w : ∀ h', HS g h' (RefC y o sv mt s kind e2 left :: R) → wp (K0 h') Q) :
  wp (zd (.ptr y 0) fun v => qa v 14 fun v => jX h v (.int .i64 e2) 1 K0) Q := by
 obtain ⟨lv, ov, mv, qs, e, H⟩ := RefC.E H
 refine qq (qJ ?_)
 refine qc H (b := y) .here ⟨rfl, rfl⟩ (by show 14 < 17; omega) fun h1 H1 => ?_
 exact w _ (RefC.I (lv := lv) (ov := ov) (mv := mv) e H1)
theorem qJn {n : Nat} (hn : 10 ≤ n) {l : List qM} (F : Fit l) (Q : Quiet l) {left : Nat} {V : VM} (G : GI l s V) (hf : frS V.lv + left < 9000) (hl : left ≤ 1000) (S : Rd g R 5 l.length sv (l.flatMap qe)) (hkd : kind = 0 ∨ kind = 1)
  (H : HS g h (RefC y o sv (qi l) s kind 0 left :: RvC o V :: R)) :
  wp (callT tab qA n (.fn 26 [] []) [.ptr y 0] h) fun r h' => r = .int .i64 (xy l (qi l) left s V).kind ∧
   HS g h' (RefC y o sv (qi l) (xy l (qi l) left s V).s (xy l (qi l) left s V).kind (xy l (qi l) left s V).err ((xy l (qi l) left s V).left : Int) :: RvC o (xy l (qi l) left s V).v :: R) := by
 (refine qP (g := (tD1 S26)) rfl (by omega) fun k hk => ?_; show wp (S26 (callT tab qA k) _ _).1 _; unfold S26; try simp only [ Int.ofNat_eq_natCast])
 generalize hRM : xy l (qi l) left s V = RM
 refine zB [] (fun st h' => st = (.ptr y 0, ()) ∧ HS g h' (RefC y o sv (qi l) RM.s RM.kind RM.err (RM.left : Int) :: RvC o RM.v :: R)) ?_ ?_
 rotate_left
 ·rintro st h1 ⟨rfl, H1⟩
  dsimp only
  obtain ⟨lv, ov, mv, qs, e, H2⟩ := RefC.E H1
  refine qq (qJ (qG H2 (b := y) .here rfl ?_))
  exact qj (qW ⟨rfl, H1⟩)
 intro j hj
 refine jz (fun m st h' => st = (.ptr y 0, ()) ∧ ((∃ (s' : IM) (V' : VM) (left' : Nat) (kind' : Int), m = left' + 1 ∧ left' ≤ 1000 ∧ GI l s' V' ∧ frS V'.lv + left' < 9000 ∧ xy l (qi l) left' s' V' = RM ∧ (kind' = 0 ∨ kind' = 1) ∧ HS g h' (RefC y o sv (qi l) s' kind' 0 left' :: RvC o V' :: R)) ∨
   (m = 0 ∧ RM.kind ≠ 0 ∧ RM.kind ≠ 1 ∧ HS g h' (RefC y o sv (qi l) RM.s RM.kind RM.err (RM.left : Int) :: RvC o RM.v :: R))))
  ?_ (m := left + 1) (by show _ < 1000000000; omega) ⟨rfl, .inl ⟨s, V, left, kind, rfl, hl, G, hf, hRM, hkd, H⟩⟩
 clear H G hf hRM hl hkd
 rintro m ih st h2 hih ⟨rfl, ⟨s, V, left, kind, rfl, hl, G, hf, hRM, hkd, H⟩ | ⟨rfl, hk0, hk1, H⟩⟩
 rotate_left
 ·dsimp only
  obtain ⟨lv, ov, mv, qs, e, H1⟩ := RefC.E H
  refine qq (qJ (qG H1 (b := y) .here rfl ?_))
  refine qK hk0 (qX ?_)
  try dsimp only
  refine qB ?_
  try dsimp only
  refine qq (qJ (qG H1 (b := y) .here rfl ?_))
  refine qK hk1 (qv (qQ ?_))
  exact hj _ _ ⟨rfl, H⟩
 dsimp only
 have hlen := F.le
 obtain ⟨lv, ov, mv, qs, e, H1⟩ := RefC.E H
 refine qq (qJ (qG H1 (b := y) .here rfl ?_))
 refine ge ?_
 refine Qp (fun st h' => ∃ (u : Bool) (r : AV), st = (r, .bool u, .ptr y 0, ()) ∧ h' = h2 ∧ (u = false → r = .bool true)) ?_ ?_
 ·intro j2 hj2
  rcases hkd with rfl | rfl
  ·rw [decide_eq_true (show (0 : Int) = ((0 : Nat) : Int) from rfl)]
   refine qS ?_
   exact hj2 _ _ ⟨true, _, rfl, rfl, fun h => by cases h⟩
  ·rw [decide_eq_false (show ¬ (1 : Int) = ((0 : Nat) : Int) by decide)]
   refine qB ?_
   refine qq (qJ (qG H1 (b := y) .here rfl ?_))
   refine qy rfl ?_
   exact hj2 _ _ ⟨false, _, rfl, rfl, fun _ => rfl⟩
 rintro st h2 ⟨u, r, rfl, rfl, hu⟩
 dsimp only
 have hp : ∀ {K : AV → Go.Ae.R} {Q}, wp (K (.bool true)) Q → wp (x9 (.bool u) (.bool true) r K) Q := by
  intro K Q w
  cases u
  ·rw [hu rfl]; exact w
  ·exact w
 refine hp (qV ?_)
 clear H1 e
 refine UD H fun h3 H3 => ?_
 clear H
 obtain ⟨i, hi, hil⟩ := G.pc
 obtain ⟨lv, ov, mv, qs, e, H1⟩ := RefC.E H3
 refine qq (qJ (qG H1 (b := y) .here rfl ?_))
 refine qq (qJ (qJ (qG H1 (b := y) .here rfl ?_)))
 refine jb (S.sl H1.drop.drop.drop.drop.drop) ?_
 by_cases h0 : s.pc = l.length
 ·refine jV (by omega) (qV ?_)
  rw [Ud h0] at hRM
  subst hRM
  refine UD H3 fun h4 H4 => hj _ _ ⟨rfl, H4⟩
 refine jQ (by omega) (qQ ?_)
 refine qq (qJ (qG H1 (b := y) .here rfl ?_))
 cases left with
 | zero =>
  refine qy rfl (qV ?_)
  rw [Yy, if_neg h0] at hRM
  subst hRM
  exact UD H3 fun h4 H4 => rerr H4 fun h5 H5 => hj _ _ ⟨rfl, H5⟩
 | succ left =>
  refine qK (by omega) (qQ ?_)
  rw [X7, if_neg h0] at hRM
  have hlt : i < l.length := by omega
  have St := Gr F G hi hlt (by omega) (Q.at hlt).2 (Q.at hlt).1
  have P := OT F G hi hlt (Q.at hlt).1
  have hol := QP G
  rw [hi, Int.toNat_natCast] at hol
  have h5 := wO F i (by omega)
  have hb : (qL l i).1 = 14 ∨ (qL l i).1 = 17 → s.opn.length < 5 := fun c => by
   have := (zG (F.ok i hlt)).2.2 (by unfold zZ; exact decide_eq_true c)
   omega
  have herr := qVL (qVB P G.lv (by omega) hb)
  refine qq (qJ (qJ (qG H1 (b := y) .here rfl ?_)))
  refine qq (qJ (qG H1 (b := y) .here rfl ?_))
  rw [hi]
  refine zJ (l := qe l[i]) (S.sl H1.drop.drop.drop.drop.drop) hlt (by omega) (vr hlt) ?_
  clear H1 e
  rw [← zH hlt]
  refine qY (ZO (by omega) P G.lv (by omega) hb (by omega) H3) ?_
  rintro _ h5 ⟨rfl, H5⟩
  rw [hi] at hRM
  generalize doM (qi l) s V (qL l i) = D at *
  by_cases h1 : D.e = 0
  ·rw [if_pos h1] at hRM H5
   refine qK (by omega) (qQ ?_)
   refine jj h1 (qQ ?_)
   obtain ⟨lv, ov, mv, qs, e, H6⟩ := RefC.E H5
   refine qq (qJ (qG H6 (b := y) .here rfl (qb (by omega) ?_)))
   rw [show ((left + 1 : Nat) : Int) - ((1 : Nat) : Int) = (left : Int) by omega]
   refine qq (qJ ?_)
   refine qc H6 (b := y) .here ⟨rfl, rfl⟩ (by show 11 < 17; omega) fun h7 H7 => ?_
   have H8 : HS g h7 (RefC y o sv (qi l) { D.s with pc := D.nx } (if D.blk = true then 3 else 0) 0 left :: RvC o D.v :: R) := RefC.I (s := { D.s with pc := D.nx }) (lv := lv) (ov := ov) (mv := mv) e H7
   cases h2 : D.blk with
   | true =>
    rw [h2, if_pos rfl] at hRM H8
    subst hRM
    exact hih 0 _ _ (by omega) ⟨rfl, .inr ⟨rfl, by show (3 : Int) ≠ 0; decide, by show (3 : Int) ≠ 1; decide, H8⟩⟩
   | false =>
    rw [h2, if_neg (by simp)] at hRM H8
    have := St.fr
    exact hih (left + 1) _ _ (by omega) ⟨rfl, .inl ⟨_, D.v, left, 0, rfl, by omega, St.next h1 h2, by omega, hRM, .inl rfl, H8⟩⟩
  ·rw [if_neg h1] at hRM H5
   have hb : D.blk = false := by
    cases hb : D.blk with
    | false => rfl
    | true => exact absurd (St.bl hb) h1
   rw [hb, if_neg (by simp)] at H5
   rw [herr h1] at hRM
   by_cases h11 : D.e = 11
   ·rw [if_pos h11] at hRM
    subst hRM
    refine qy h11 (qV ?_)
    exact UD H5 fun h7 H7 => hj _ _ ⟨rfl, H7⟩
   ·rw [if_neg h11] at hRM
    subst hRM
    refine qK h11 (qQ ?_)
    refine jk h1 (qV ?_)
    exact UD H5 fun h7 H7 => rerr H7 fun h8 H8 => hj _ _ ⟨rfl, H8⟩
end
theorem qJ9 {n : Nat} (hn : 4 ≤ n) {l : List qM} {sv : AV} {o : Nat} {fuel : Int} (F : Fit l) (Q : Quiet l) (H : HS g h R) (S : Rd g R 5 l.length sv (l.flatMap qe)) :
  wp (callT tab qA n (.fn 25 [] []) [.agg [sv], .ptr o 0, .int .i64 fuel] h) fun r h' => ∃ y, r = .ptr y 0 ∧ HS g h' (RefC y o sv (qi l) Jp 0 0 (zC fuel : Nat) :: R) := by
 (refine qP (g := (tD3 S25)) rfl (by omega) fun k hk => ?_; show wp (S25 (callT tab qA k) _ _ _ _).1 _; unfold S25; try simp only [ Int.ofNat_eq_natCast])
 have o1 := yn (S.sl H)
 refine qU H (xK o1) fun b h1 H1 => ?_
 refine qh H1 (b := b) (off := 0) .here rfl (by omega) (l := [sv]) rfl ?_
 refine zg (zx ?_)
 rw [show min (max fuel ((0 : Nat) : Int)) ((400 : Nat) : Int) = ((zC fuel : Nat) : Int) by unfold zC; omega]
 refine qF (l := xp sv .nils .nils .nils o 0 0 (zC fuel : Nat) 0 [0, 0, 0, 0, 0, 0, 0, 0]) rfl ?_
 refine qU H1 (by unfold xp; simp only [q9, List.all_cons, o1.2]; rfl) fun y h2 H2 => ?_
 refine qh H2 (b := b) (off := 0) e_1 rfl (by omega) (l := [sv]) rfl ?_
 refine qY (Mu (by omega) F Q H2 S.more.more) ?_
 rintro _ h3 ⟨rv, mv, rfl, H3⟩
 have om := H3.one .here
 refine qx rfl (qx rfl (qx rfl (qx rfl ?_)))
 refine qq (qJ ?_)
 refine qc H3 (b := y) e_1 om (by show 16 < 17; omega) fun h4 H4 => ?_
 refine qX ?_
 try dsimp only
 refine jj rfl (qQ (qj (qW ⟨y, rfl, ?_⟩)))
 have H5 := (H4.nils (e := 208) (sz := 11)).nils (e := 161) (sz := 2)
 have hm := GM l
 have H6 : HS g h4 (qz 161 2 0 .nils [] :: qz 208 11 0 .nils [] :: qw y (xp sv .nils .nils mv o 0 0 (zC fuel : Nat) 0 [0, 0, 0, 0, 0, 0, 0, 0]) :: yo mv (qi l) :: qw b [sv] :: R) := by
  unfold yo
  rw [hm]
  exact H5
 exact RefC.I (s := Jp) (lv := .nils) (ov := .nils) (mv := mv) (qs := []) ⟨rfl, fun q hq => by cases hq⟩ (H6.sub (.cons e_2 (.cons .here (.cons .here (.cons .here (.drop .refl))))))
end Go.Proofs.YtdlfmpmpmkffjaaGreatDoor
namespace Go.Proofs.YtdlfmpmpmkffjaaGreatDoor
open Go Go.Ae
theorem Qn {l t : List qM} {j : Nat} (h : j < l.length) : qL (l ++ t) (j : Int) = qL l (j : Int) := by
 unfold qL
 rw [Int.toNat_natCast, List.getElem?_append_left h]
theorem kc {l t : List qM} {k : Nat} {x : qM} (h : t[k]? = some x) : qL (l ++ t) ((l.length + k : Nat) : Int) = x := by
 unfold qL
 rw [Int.toNat_natCast, List.getElem?_append_right (by omega), show l.length + k - l.length = k by omega, h]; rfl
theorem gQ {l t : List qM} : ∀ i, i ≤ l.length → qg (l ++ t) i = qg l i := by
 intro i
 induction i with
 | zero => intro _; rfl
 | succ i ih =>
  intro h
  rw [jw, jw, ih (by omega), Qn (by omega)]
theorem qZ0 {l t : List qM} {st : List Int} (h : StOk l.length st) : opM (l ++ t) st = opM l st := by
 unfold opM
 by_cases h0 : st = []
 ·rw [if_pos h0, if_pos h0]
 ·rw [if_neg h0, if_neg h0]
  have hb := h.inmost h0
  obtain ⟨p, hp⟩ : ∃ p : Nat, qp st = p := ⟨(qp st).toNat, by omega⟩
  rw [hp, Qn (by omega)]
theorem Ys {l t : List qM} {st : List Int} {x : qM} (h : StOk l.length st) : zV (l ++ t) st x = zV l st x := by
 unfold zV
 rw [qZ0 h]
theorem StOk.mono {i j : Nat} {st : List Int} (h : StOk i st) (hij : i ≤ j) : StOk j st := fun y hy => by have := h y hy; omega
def qQO (l : List qM) (calm : Bool) (j : Nat) (x : qM) : Prop := (x.1 = 12 ∨ x.1 = 13) → ∃ c : Nat, x.2.2.2.1 = c ∧ c ≤ l.length ∧ qg l c = qg l j ∧ (calm = true → j < c)
structure JV (calm : Bool) (x : qM) : Prop where
  may : xr x = true
  no : x.1 ≠ 23
  n : 0 ≤ x.2.2.2.2 ∧ x.2.2.2.2 < 18446744073709551616
  cal : calm = true → x.1 ≠ 20 ∧ x.1 ≠ 22 ∧ x.1 ≠ 12
structure Bld (calm : Bool) (l : List qM) (st : List Int) : Prop where
  ok : ∀ x ∈ l, JV calm x
  wr : ∀ j, j < l.length → zV l (qg l j) (qL l j) = 0
  top : qg l l.length = st
  jp : ∀ j, j < l.length → qQO l calm j (qL l j)
  five : st.length ≤ 5
def jD (l : List qM) (st : List Int) : List Int := st.map fun p => (qL l p).1
theorem kP {l t : List qM} {st : List Int} (h : StOk l.length st) : jD (l ++ t) st = jD l st := by
 unfold jD
 refine List.map_congr_left fun p hp => ?_
 have := h p hp
 obtain ⟨q, rfl⟩ : ∃ q : Nat, p = q := ⟨p.toNat, by omega⟩
 rw [Qn (by omega)]
theorem Bld.stok {calm : Bool} {l : List qM} {st : List Int} (B : Bld calm l st) : StOk l.length st := by rw [← B.top]; exact (QQ l.length).1
theorem Bld.nil (calm : Bool) : Bld calm [] [] := ⟨fun x hx => (by cases hx), fun j hj => (by simp at hj), rfl, fun j hj => (by simp at hj), (by simp)⟩
theorem Bld.ext {calm : Bool} {l t : List qM} {st : List Int} (B : Bld calm l st) (h1 : ∀ x ∈ t, JV calm x) (h2 : ∀ k, k < t.length → zV (l ++ t) (qg (l ++ t) (l.length + k)) (qL (l ++ t) ((l.length + k : Nat) : Int)) = 0)
  (h3 : ∀ k, k < t.length → qQO (l ++ t) calm (l.length + k) (qL (l ++ t) ((l.length + k : Nat) : Int))) (h5 : (qg (l ++ t) (l ++ t).length).length ≤ 5) : Bld calm (l ++ t) (qg (l ++ t) (l ++ t).length) := by
 refine ⟨?_, ?_, rfl, ?_, h5⟩
 ·intro x hx
  rcases List.mem_append.1 hx with hx | hx
  ·exact B.ok x hx
  ·exact h1 x hx
 ·intro j hj
  by_cases hjl : j < l.length
  ·rw [gQ j (by omega), Qn hjl, Ys ((QQ j).1.mono (by omega))]
   exact B.wr j hjl
  ·have := h2 (j - l.length) (by simp at hj; omega)
   rwa [show l.length + (j - l.length) = j by omega] at this
 ·intro j hj
  by_cases hjl : j < l.length
  ·intro ho
   rw [Qn hjl] at ho ⊢
   obtain ⟨c, c1, c2, c3, c4⟩ := B.jp j hjl ho
   exact ⟨c, c1, by simp; omega, by rw [gQ c c2, gQ j (by omega)]; exact c3, c4⟩
  ·have := h3 (j - l.length) (by simp at hj; omega)
   rwa [show l.length + (j - l.length) = j by omega] at this
theorem N0 {l : List qM} {x : qM} : qg (l ++ [x]) (l.length + 1) = qt (qg l l.length) l.length x.1 := by
 have e := kc (l := l) (t := [x]) (k := 0) (x := x) rfl
 rw [Nat.add_zero] at e
 rw [jw, gQ _ (Nat.le_refl _), e]
theorem Bld.app {calm : Bool} {l : List qM} {st : List Int} (B : Bld calm l st) {x : qM} (h1 : JV calm x) (h2 : zV l st x = 0) (h3 : x.1 ≠ 12 ∧ x.1 ≠ 13) (h5 : (qt st l.length x.1).length ≤ 5) : Bld calm (l ++ [x]) (qt st l.length x.1) := by
 have e := kc (l := l) (t := [x]) (k := 0) (x := x) rfl
 rw [Nat.add_zero] at e
 have hs : qg (l ++ [x]) (l ++ [x]).length = qt st l.length x.1 := by
  rw [List.length_append, List.length_singleton, N0, B.top]
 rw [← hs] at h5 ⊢
 refine B.ext (by intro y hy; rw [List.mem_singleton] at hy; subst hy; exact h1) ?_ ?_ h5
 ·intro k hk
  obtain rfl : k = 0 := by simpa using hk
  rw [Nat.add_zero, e, gQ _ (Nat.le_refl _), B.top, Ys B.stok]
  exact h2
 ·intro k hk
  obtain rfl : k = 0 := by simpa using hk
  rw [Nat.add_zero, e]
  intro ho
  omega
def Flat (op : Int) : Prop := op ≠ 14 ∧ op ≠ 15 ∧ op ≠ 16 ∧ op ≠ 17 ∧ op ≠ 18 ∧ op ≠ 19
theorem Flat.behind {op : Int} (h : Flat op) (st : List Int) (i : Int) : qt st i op = st := by
 obtain ⟨h1, h2, h3, h4, h5, h6⟩ := h
 unfold qt
 rw [if_neg (by unfold zZ; simp; omega), if_neg (by unfold jE; rw [if_neg h2, if_neg h5, if_neg h6]; omega)]
theorem Flat.wrong {x : qM} (h : Flat x.1) (hm : xr x = true) (l : List qM) (st : List Int) : zV l st x = 0 := by
 obtain ⟨h1, h2, h3, h4, h5, h6⟩ := h
 unfold zV
 rw [if_neg (by rw [hm]; simp), if_neg (fun hh => by have := hh.1; unfold jE at this; rw [if_neg h2, if_neg h5, if_neg h6] at this; omega), if_neg (fun hh => h3 hh.1),
  if_neg (fun hh => by have := hh.1; unfold zZ at this; simp at this; omega)]
theorem Bld.flat {calm : Bool} {l : List qM} {st : List Int} (B : Bld calm l st) {x : qM} (h1 : JV calm x) (hf : Flat x.1) (h3 : x.1 ≠ 12 ∧ x.1 ≠ 13) : Bld calm (l ++ [x]) st := by
 have := B.app h1 (hf.wrong h1.may l st) h3 (by rw [hf.behind]; exact B.five)
 rwa [hf.behind] at this
theorem Bld.two {calm : Bool} {l : List qM} {st : List Int} (B : Bld calm l st) {x y : qM} (hx : JV calm x) (hy : JV calm y) (fx : Flat x.1) (fy : Flat y.1)
  (jx : (x.1 = 12 ∨ x.1 = 13) → x.2.2.2.1 = ((l.length + 2 : Nat) : Int)) (jy : (y.1 = 12 ∨ y.1 = 13) → y.2.2.2.1 = (l.length : Int) ∧ calm = false) : Bld calm (l ++ [x, y]) st := by
 have e0 := kc (l := l) (t := [x, y]) (k := 0) (x := x) rfl
 have e1 := kc (l := l) (t := [x, y]) (k := 1) (x := y) rfl
 rw [Nat.add_zero] at e0
 have s0 : qg (l ++ [x, y]) l.length = st := by rw [gQ _ (Nat.le_refl _), B.top]
 have s1 : qg (l ++ [x, y]) (l.length + 1) = st := by rw [jw, s0, e0, fx.behind]
 have s2 : qg (l ++ [x, y]) (l.length + 2) = st := by rw [show l.length + 2 = l.length + 1 + 1 from rfl, jw, s1, e1, fy.behind]
 have hs : qg (l ++ [x, y]) (l ++ [x, y]).length = st := by rw [List.length_append]; exact s2
 have := B.ext (t := [x, y]) (by intro z hz; simp at hz; rcases hz with rfl | rfl; exact hx; exact hy) (fun k hk => by
  have hk : k = 0 ∨ k = 1 := by simp at hk; omega
  rcases hk with rfl | rfl
  ·rw [Nat.add_zero, e0]; exact fx.wrong hx.may _ _
  ·rw [e1]; exact fy.wrong hy.may _ _) (fun k hk => by
  have hk : k = 0 ∨ k = 1 := by simp at hk; omega
  rcases hk with rfl | rfl
  ·rw [Nat.add_zero, e0]
   intro ho
   exact ⟨l.length + 2, jx ho, by simp, by rw [s2, s0], fun _ => by omega⟩
  ·rw [e1]
   intro ho
   obtain ⟨a, b⟩ := jy ho
   exact ⟨l.length, a, by simp, by rw [s0, s1], fun h => by rw [b] at h; cases h⟩) (by rw [hs]; exact B.five)
 rwa [hs] at this
abbrev one (op : Int) : qM := (op, 0, 0, 0, 0)
theorem Vx (calm : Bool) {op : Int} (h : op = 14 ∨ op = 15 ∨ op = 16 ∨ op = 17 ∨ op = 18 ∨ op = 19) : JV calm (one op) := by
 refine ⟨?_, by dsimp only; omega, by dsimp only; omega, fun _ => by dsimp only; omega⟩
 rcases h with rfl | rfl | rfl | rfl | rfl | rfl <;> decide
theorem Bld.begin {calm : Bool} {l : List qM} {st : List Int} (B : Bld calm l st) {op : Int} (h : op = 14 ∨ op = 17) (h5 : st.length < 5) : Bld calm (l ++ [one op]) (st ++ [(l.length : Int)]) ∧ jD (l ++ [one op]) (st ++ [(l.length : Int)]) = jD l st ++ [op] := by
 have hb : qt st l.length op = st ++ [(l.length : Int)] := by
  unfold qt
  rw [if_pos (.inl (by unfold zZ; exact decide_eq_true h)), if_neg (by rcases h with rfl | rfl <;> decide)]
 have hw : zV l st (one op) = 0 := by
  unfold zV
  rw [if_neg (by rcases h with rfl | rfl <;> decide), if_neg (fun hh => by have := hh.1; rcases h with rfl | rfl <;> exact absurd this (by decide)), if_neg (fun hh => by have := hh.1; dsimp only at this; omega), if_neg (by omega)]
 have := B.app (x := one op) (Vx calm (by omega)) hw (by dsimp only; omega) (by rw [hb]; simp; omega)
 rw [hb] at this
 refine ⟨this, ?_⟩
 unfold jD
 rw [List.map_append]
 congr 1
 ·exact kP B.stok
 ·have e := kc (l := l) (t := [one op]) (k := 0) (x := one op) rfl
  rw [Nat.add_zero] at e
  rw [List.map_singleton, e]
theorem Bld.undo {calm : Bool} {l : List qM} {st : List Int} (B : Bld calm l st) (h : opM l st = 14) : Bld calm (l ++ [one 16]) st := by
 have hb : qt st l.length 16 = st := by
  unfold qt
  rw [if_neg (by decide), if_neg (by decide)]
 have hw : zV l st (one 16) = 0 := by
  unfold zV
  rw [if_neg (by decide), if_neg (fun hh => absurd hh.1 (by decide)), if_neg (fun hh => hh.2 h), if_neg (fun hh => absurd hh.1 (by decide))]
 have := B.app (x := one 16) (Vx calm (by omega)) hw (by decide) (by rw [hb]; exact B.five)
 rwa [hb] at this
def yJ (o : Int) : Int := if o = 14 then 15 else if o = 17 then 18 else 19
def wK (l : List qM) (st : List Int) : List qM := l ++ [one (yJ (opM l st))]
def k6 (l : List qM) (st : List Int) : List Int := if opM l st = 17 then st.dropLast ++ [(l.length : Int)] else st.dropLast
theorem Bld.shut {calm : Bool} {l : List qM} {st : List Int} (B : Bld calm l st) (hn : st ≠ []) (ho : opM l st = 14 ∨ opM l st = 17 ∨ opM l st = 18) : Bld calm (wK l st) (k6 l st) ∧
  jD (wK l st) (k6 l st) = (jD l st).dropLast ++ (if opM l st = 17 then [18] else []) := by
 have hs : jE (yJ (opM l st)) = opM l st := by rcases ho with h | h | h <;> rw [h] <;> decide
 have hso : yJ (opM l st) = 15 ∨ yJ (opM l st) = 18 ∨ yJ (opM l st) = 19 := by
  unfold yJ
  repeat' split
  all_goals omega
 have he : 0 < jE (yJ (opM l st)) := by rw [hs]; omega
 have hlen := List.length_pos_iff.2 hn
 have hb : qt st l.length (yJ (opM l st)) = k6 l st := by
  unfold qt k6
  rw [if_pos he]
  by_cases h17 : opM l st = 17
  ·rw [if_pos h17, if_pos (.inr (by rw [h17]; decide))]
  ·rw [if_neg h17, if_neg]
   rcases ho with h | h | h
   ·rw [h]; decide
   ·exact absurd h h17
   ·rw [h]; decide
 have hw : zV l st (one (yJ (opM l st))) = 0 := by
  unfold zV
  rw [if_neg (by rcases hso with h | h | h <;> rw [h] <;> decide), if_neg (fun hh => hh.2 hs.symm), if_neg (fun hh => by have := hh.1; dsimp only at this; omega), if_neg (fun hh => by
   have := hh.1
   rcases hso with h | h | h <;> rw [h] at this <;> exact absurd this (by decide))]
 have h5 := B.five
 have := B.app (x := one (yJ (opM l st))) (Vx calm (by omega)) hw (by dsimp only; omega) (by rw [hb]; unfold k6; split <;> simp <;> omega)
 rw [hb] at this
 refine ⟨this, ?_⟩
 unfold wK k6 jD
 have hd : (st.dropLast.map fun p => (qL (l ++ [one (yJ (opM l st))]) p).1) = (jD l st).dropLast := by
  have := kP (t := [one (yJ (opM l st))]) B.stok.dropLast
  unfold jD at this ⊢
  rw [this, List.map_dropLast]
 split
 ·rename_i h17
  have e := kc (l := l) (t := [one (yJ (opM l st))]) (k := 0) (x := one (yJ (opM l st))) rfl
  rw [Nat.add_zero] at e
  rw [List.map_append, hd, List.map_singleton, e, h17]; rfl
 ·rw [hd, List.append_nil]; rfl
theorem UX {l : List qM} {st : List Int} (hn : st ≠ []) : opM l st = (jD l st).getLast?.getD 0 := by
 unfold opM jD qp
 rw [if_neg hn, List.getLast?_map, List.getLast?_eq_some_getLast hn]; rfl
theorem Bld.fit {calm : Bool} {l : List qM} (B : Bld calm l []) (h0 : 0 < l.length) (h40 : l.length ≤ 40) : xS l = (0, 0) := by
 have key : ∀ d i, i + d = l.length → goM l (l.drop i) i (qg l i) = .inr [] := by
  intro d
  induction d with
  | zero =>
   intro i hi
   obtain rfl : i = l.length := by omega
   rw [List.drop_length, B.top]; rfl
  | succ d ih =>
   intro i hi
   have hlt : i < l.length := by omega
   rw [Qe hlt]
   have hw := B.wr i hlt
   rw [zH hlt] at hw
   rw [if_pos hw]
   have := ih (i + 1) (by omega)
   rw [jw, zH hlt] at this
   exact this
 have hg := key l.length 0 (by omega)
 have hreg : ∀ j, j < l.length → (zL l 0 [])[j]? = some (qp (qg l j)) := fun j hj => by
  have := GY (l := l) l.length 0 (by omega) j (by omega)
  rw [Nat.zero_add] at this
  exact this
 have hnum : ∀ j : Nat, j < l.length → qE (zL l 0 []) (j : Int) = qp (qg l j) := fun j hj => by
  unfold qE; rw [Int.toNat_natCast, hreg j hj]; rfl
 have hj : ∀ d i, i + d = l.length → kq l (zL l 0 []) (l.drop i) i = (0, 0) := by
  intro d
  induction d with
  | zero =>
   intro i hi
   obtain rfl : i = l.length := by omega
   rw [List.drop_length]; rfl
  | succ d ih =>
   intro i hi
   have hlt : i < l.length := by omega
   rw [QM hlt, if_neg, ih (i + 1) (by omega)]
   rintro ⟨ho, hc⟩
   have hB := B.jp i hlt
   rw [zH hlt] at hB
   obtain ⟨c, c1, c2, c3, _⟩ := hB ho
   rw [c1] at hc
   rcases hc with hc | ⟨hc, hc2⟩ | ⟨hc, hc2⟩
   ·omega
   ·have : c = l.length := by omega
    subst this
    rw [B.top] at c3
    rw [hnum i hlt, ← c3] at hc2
    exact hc2 rfl
   ·rw [hnum c (by omega), hnum i hlt, c3] at hc2
    exact hc2 rfl
 unfold xS
 rw [if_neg (by omega)]
 have hg2 : goM l l 0 [] = .inr [] := hg
 rw [hg2]
 dsimp only
 rw [if_pos rfl]
 exact hj l.length 0 (by omega)
end Go.Proofs.YtdlfmpmpmkffjaaGreatDoor
namespace Go.Proofs.YtdlfmpmpmkffjaaGreatDoor
open Go Go.Ae
set_option maxRecDepth 100000
variable {g h : AH} {L R : List SP}
def OkN (zs : List Int) : Prop := ∀ z ∈ zs, 0 ≤ z ∧ z < 18446744073709551616
theorem OkN.set {zs : List Int} {i : Nat} {x : Int} (h : OkN zs) (hx : 0 ≤ x ∧ x < 18446744073709551616) : OkN (zs.set i x) := by
 intro z hz
 rcases List.mem_or_eq_of_mem_set hz with h1 | rfl
 ·exact h z h1
 ·exact hx
theorem Jh {u x : Bool} {r : AV} {K : AV → Go.Ae.R} {Q : AV → AH → Prop} (hr : u = true → r = .bool x) (w : wp (K (.bool (u && x))) Q) : wp (x9 (.bool u) r (.bool false) K) Q := by
 cases u
 ·exact w
 ·rw [hr rfl]; exact w
theorem OO {k : IntKind} {a b : Int} {K : AV → Go.Ae.R} {Q : AV → AH → Prop} (w : ∀ z : Int, wp (K (.int k z)) Q) : wp (jZ .and (.int k a) (.int k b) K) Q := by
 rw [vS]; simp only [gB]; exact w _
def tw (c : Int) : Int := j4 .i64 (1 * 2 ^ (min c.toNat (IntKind.bits .i64)))
theorem tw_b {c : Int} (h : 1 ≤ c ∧ c ≤ 3) : 2 ≤ tw c ∧ tw c ≤ 8 := by
 obtain rfl | rfl | rfl : c = 1 ∨ c = 2 ∨ c = 3 := by omega
 all_goals decide
theorem Zm {x lo hi : Int} (h : lo ≤ hi) : lo ≤ jd x lo hi ∧ jd x lo hi ≤ hi := by
 unfold jd
 have := kV x (show 0 < hi - lo + 1 by omega)
 split <;> omega
def OkZ (zs : List Int) : Prop := OkN zs ∧ zs[0]? = some 0
theorem OkZ.set {zs : List Int} {i : Nat} {x : Int} (h : OkZ zs) (hx : 0 ≤ x ∧ x < 18446744073709551616) (hi : 0 < i) : OkZ (zs.set i x) := ⟨h.1.set hx, by rw [List.getElem?_set_ne (by omega)]; exact h.2⟩
theorem U2 {n : Nat} (hn : 2 ≤ n) {x : Int} {rv bv : AV} {rs bs : List Int} (H : HS g h R) (SR : Rd g R 1 rs.length rv (rs.map (.int .u64))) (hr : ∀ z ∈ rs, 0 ≤ z ∧ z < 18446744073709551616) (S : Rd g R 1 bs.length bv (bs.map (.int .u8))) (hb : ∀ z ∈ bs, 0 ≤ z ∧ z ≤ 255) :
  wp (callT tab qA n (.fn 22 [] []) [.int .i64 x, rv, bv] h) fun r h' => ∃ zs, OkN zs ∧ zs[0]? = some 0 ∧ 32 ≤ zs.length ∧ zs.length ≤ 80 ∧ shut r = true ∧ Jc r ∧ HS g h' (qz 26 1 zs.length r (zs.map (.int .u64)) :: R) := by
 (refine qP (g := (tD3 S22)) rfl (by omega) fun k hk => ?_; show wp (S22 (callT tab qA k) _ _ _ _).1 _; unfold S22; try simp only [ Int.ofNat_eq_natCast])
 refine qY (yF (by omega) (by omega) (by omega) (by omega)) ?_
 rintro _ _ ⟨rfl, rfl⟩
 have hwb := Zm (x := x) (lo := ((32 : Nat) : Int)) (hi := ((80 : Nat) : Int)) (by omega)
 obtain ⟨n, hn⟩ : ∃ n : Nat, jd x ((32 : Nat) : Int) ((80 : Nat) : Int) = (n : Int) := ⟨_, (Int.toNat_of_nonneg (by omega)).symm⟩
 rw [hn] at hwb ⊢
 refine XV (Nat.le_refl _) (by omega) fun b h3 hb3 A F => ?_
 have H3 : HS g h3 (qz 26 1 n (.slice b 0 n n false) ((List.replicate n (0 : Int)).map (.int .u64)) :: R) := by
  refine H.add (D' := fun a => a = b) F.none ⟨by simp, .inr ⟨b, n, false, _, rfl, fun a => Iff.rfl, A, by rw [yK]; simp, ?_, ?_⟩⟩ ?_
  ·rw [List.take_of_length_le (by rw [yK]; simp), Jq, List.map_replicate]; rfl
  ·rw [if_neg (by simp)]; exact ⟨by rw [yK]; rfl, Nat.le_refl _⟩
  ·rintro a rfl; exact ⟨hb3, A.lt⟩
 have z0 : OkZ (List.replicate n (0 : Int)) := ⟨by intro z hz; rw [List.eq_of_mem_replicate hz]; omega, by rw [List.getElem?_replicate, if_pos (by omega)]⟩
 have hsh : shut (.slice b 0 n n false) = true := rfl
 have hro : Jc (.slice b 0 n n false) := Nat.le_refl n
 generalize AV.slice b 0 n n false = wv at *
 clear H F A
 refine xR (i := 5) H3 (by omega) ⟨rfl, rfl⟩ fun h4 H => ?_
 rw [← List.map_set] at H
 have z1 := z0.set (i := 5) (x := ((14 : Nat) : Int)) (by omega) (by omega)
 have l1 : ((List.replicate n (0 : Int)).set 5 ((14 : Nat) : Int)).length = n := by simp
 generalize (List.replicate n (0 : Int)).set 5 ((14 : Nat) : Int) = zs at *
 clear z0 H3
 refine jz (fun m s h' => ∃ (i : Nat) (zs : List Int), s = (.int .i64 (i : Int), wv, bv, rv, ()) ∧ i ≤ 8 ∧ m = 8 - i ∧ OkZ zs ∧ zs.length = n ∧ HS g h' (qz 26 1 n wv (zs.map (.int .u64)) :: R))
  ?_ (m := 8) (by show 8 < 1000000000; omega) ⟨0, zs, rfl, by omega, by omega, z1, l1, H⟩
 clear H z1 l1 zs
 rintro m ih s h4 hih ⟨i, zs, rfl, hi8, rfl, z1, l1, H⟩
 dsimp only
 refine jb (SR.sl H.drop) (gn ?_)
 refine Qp (fun s g' => ∃ (r : AV) (u x : Bool), s = (r, .bool u, .int .i64 (i : Int), wv, bv, rv, ()) ∧ g' = h4 ∧ (u = true → r = .bool x) ∧ ((u && x) = decide (i < rs.length ∧ i < 8))) ?_ ?_
 ·intro j hj
  refine MN (fun hl => gn (hj _ _ ⟨_, _, decide (i < 8), rfl, rfl, fun _ => (by congr 1; exact decide_eq_decide.2 (by omega)), ?_⟩)) (fun hl => hj _ _ ⟨_, _, false, rfl, rfl, fun h => absurd (of_decide_eq_true h) hl, ?_⟩)
  ·have hl' : i < rs.length := by omega
   simp [hl']
  ·have hl' : ¬ i < rs.length := by omega
   simp [hl']
 rintro s h4 ⟨r, u, x2, rfl, rfl, hr2, hux⟩
 refine Jh hr2 ?_
 rw [hux]
 dsimp only
 clear hr2 hux
 refine GS (fun hi => ?_) fun hi => ?_
 ·have hci : (rs.map (AV.int .u64))[i]? = some (.int .u64 rs[i]) := by rw [List.getElem?_map, List.getElem?_eq_getElem hi.1]; rfl
  have hbi := hr rs[i] (List.getElem_mem hi.1)
  have hb1 := Int.tmod_nonneg ((90 : Nat) : Int) hbi.1
  have hb2 := Int.tmod_lt_of_pos rs[i] (show 0 < ((90 : Nat) : Int) by omega)
  refine qD (by omega) (jF (SR.sl H.drop) hci (gd (by omega) ?_))
  rw [show ((6 : Nat) : Int) + (i : Int) = ((6 + i : Nat) : Int) by omega]
  refine xR H (by omega) ⟨rfl, rfl⟩ fun h6 H6 => ?_
  rw [← List.map_set] at H6
  exact qD (by omega) (hih (8 - (i + 1)) _ _ (by omega) ⟨i + 1, _, rfl, by omega, rfl, z1.set (by omega) (by omega), by simp [l1], H6⟩)
 ·refine zB [] (fun s h' => s = (wv, ()) ∧ ∃ zs, OkZ zs ∧ zs.length = n ∧ HS g h' (qz 26 1 n wv (zs.map (.int .u64)) :: R)) ?_ ?_
  ·intro j hj
   refine jz (fun m s h' => ∃ (i : Nat) (at' : Int) (zs : List Int), s = (.int .i64 (i : Int), .int .i64 at', wv, bv, ()) ∧ i ≤ 8 ∧ m = 8 - i ∧ 14 ≤ at' ∧ at' ≤ n ∧ OkZ zs ∧ zs.length = n ∧ HS g h' (qz 26 1 n wv (zs.map (.int .u64)) :: R))
    ?_ (m := 8) (by show 8 < 1000000000; omega) ⟨0, ((14 : Nat) : Int), zs, rfl, by omega, by omega, by omega, by omega, z1, l1, H⟩
   clear H z1 l1 hih zs ih
   rintro m ih s h5 hih ⟨i, a, zs, rfl, hi8, rfl, ha, ha2, hz, hl, H⟩
   dsimp only
   refine jb (S.sl H.drop) (gn ?_)
   refine Qp (fun s g' => ∃ (r : AV) (u x : Bool), s = (r, .bool u, .int .i64 (i : Int), .int .i64 a, wv, bv, ()) ∧ g' = h5 ∧ (u = true → r = .bool x) ∧ ((u && x) = decide (i < bs.length ∧ i < 8))) ?_ ?_
   ·intro j hj
    refine MN (fun hl => gn (hj _ _ ⟨_, _, decide (i < 8), rfl, rfl, fun _ => (by congr 1; exact decide_eq_decide.2 (by omega)), ?_⟩)) (fun hl => hj _ _ ⟨_, _, false, rfl, rfl, fun h => absurd (of_decide_eq_true h) hl, ?_⟩)
    ·have hl' : i < bs.length := by omega
     simp [hl']
    ·have hl' : ¬ i < bs.length := by omega
     simp [hl']
   rintro s h5 ⟨r, u, x, rfl, rfl, hr, hux⟩
   refine Jh hr ?_
   rw [hux]
   dsimp only
   refine GS (fun hi => ?_) fun hi => hj _ _ ⟨rfl, zs, hz, hl, H⟩
   have hci : (bs.map (AV.int .u8))[i]? = some (.int .u8 bs[i]) := by rw [List.getElem?_map, List.getElem?_eq_getElem hi.1]; rfl
   have hbi := hb bs[i] (List.getElem_mem hi.1)
   have hb1 := Int.tmod_nonneg ((3 : Nat) : Int) hbi.1
   have hb2 := Int.tmod_lt_of_pos bs[i] (show 0 < ((3 : Nat) : Int) by omega)
   refine jF (S.sl H.drop) hci (gd (by omega) (jI (by omega) (qD (by omega) ?_)))
   obtain ⟨c, hc⟩ : ∃ c, c = Int.tmod bs[i] ((3 : Nat) : Int) + ((1 : Nat) : Int) := ⟨_, rfl⟩
   rw [← hc]
   have hcb : 1 ≤ c ∧ c ≤ 3 := by omega
   have htw := tw_b hcb
   refine qD (by omega) (zW (by omega) (Ge (by omega) ?_))
   show wp (jZ .add _ (.int .i64 (tw c)) _) _
   refine qD (by omega) (qd H .here (zi (fun hg => qV (hj _ _ ⟨rfl, zs, hz, hl, H⟩)) fun hg => qQ ?_))
   obtain ⟨p, rfl⟩ : ∃ p : Nat, a = (p : Int) := ⟨a.toNat, by omega⟩
   refine zW (by omega) ?_
   refine xR H (by omega) ⟨rfl, rfl⟩ fun h6 H => ?_
   rw [← List.map_set] at H
   have hz2 := hz.set (i := p) (x := c) (by omega) (by omega)
   have hl2 : (zs.set p c).length = n := by simp [hl]
   generalize zs.set p c = zs2 at *
   clear hz hl
   refine zB [] (fun s h' => s = (.int .i64 c, .int .i64 (i : Int), .int .i64 (p : Int), wv, bv, ()) ∧ ∃ zs, OkZ zs ∧ zs.length = n ∧ HS g h' (qz 26 1 n wv (zs.map (.int .u64)) :: R)) ?_ ?_
   ·intro j hj
    refine jF (S.sl H.drop) hci (OO fun z => ?_)
    refine zi (fun _ => qV ?_) fun _ => qQ ?_
    ·refine qD (by omega) (zW (by omega) ?_)
     refine xR H (by omega) ⟨rfl, rfl⟩ fun h7 H7 => ?_
     rw [← List.map_set] at H7
     exact hj _ _ ⟨rfl, _, hz2.set (by omega) (by omega), by simp [hl2], H7⟩
    ·refine jF (S.sl H.drop) hci (OO fun z => ?_)
     refine zi (fun _ => qV ?_) fun _ => qQ (hj _ _ ⟨rfl, zs2, hz2, hl2, H⟩)
     refine qD (by omega) (qD (by omega) (qb (by omega) ?_))
     obtain ⟨d, hd⟩ : ∃ d : Nat, ((1 : Nat) : Int) + c - ((1 : Nat) : Int) = (d : Int) := ⟨c.toNat, by omega⟩
     rw [hd]
     have hdn : d < zs2.length := by omega
     refine jF (x := .int .u64 zs2[d]) (H.sl .here) (by rw [List.getElem?_map, List.getElem?_eq_getElem hdn]; rfl) ?_
     rw [show (p : Int) + ((1 : Nat) : Int) = ((p + 1 : Nat) : Int) by omega]
     refine xR H (by omega) ⟨rfl, rfl⟩ fun h7 H7 => ?_
     rw [← List.map_set] at H7
     refine qD (by omega) (qb (by omega) (qD (by omega) (zW (by omega) ?_)))
     rw [hd]
     refine xR H7 (by omega) ⟨rfl, rfl⟩ fun h8 H8 => ?_
     rw [← List.map_set] at H8
     exact hj _ _ ⟨rfl, _, (hz2.set (hz2.1 zs2[d] (List.getElem_mem hdn)) (by omega)).set (by omega) (by omega), by simp [hl2], H8⟩
   rintro s h7 ⟨rfl, zs3, hz3, hl3, H⟩
   dsimp only
   refine qD (by omega) (zW (by omega) (Ge (by omega) ?_))
   show wp (jZ .add _ (.int .i64 (tw c)) _) _
   refine qD (by omega) (zW (by omega) ?_)
   refine xR (i := 5) H (by omega) ⟨rfl, rfl⟩ fun h8 H8 => ?_
   rw [← List.map_set] at H8
   refine qD (by omega) (hih (8 - (i + 1)) _ _ (by omega) ⟨i + 1, _, _, rfl, by omega, rfl, by omega, by omega, hz3.set (by omega) (by omega), by simp [hl3], H8⟩)
  rintro s h5 ⟨rfl, zs, hz, hl, H⟩
  dsimp only
  refine qj (qW ⟨zs, hz.1, hz.2, by omega, by omega, hsh, hro, ?_⟩)
  rw [hl]
  exact H
theorem MJ {n : Nat} (hn : 2 ≤ n) {x : Int} {rv bv : AV} {rs bs : List Int} (H : HS g h R) (SR : Rd g R 1 rs.length rv (rs.map (.int .u64))) (hr : ∀ z ∈ rs, 0 ≤ z ∧ z < 18446744073709551616) (S : Rd g R 1 bs.length bv (bs.map (.int .u8))) (hb : ∀ z ∈ bs, 0 ≤ z ∧ z ≤ 255) :
  wp (callT tab qA n (.fn 22 [] []) [.int .i64 x, rv, bv] h) fun r h' => ∃ zs, OkN zs ∧ 32 ≤ zs.length ∧ zs.length ≤ 80 ∧ shut r = true ∧ Jc r ∧ HS g h' (qz 26 1 zs.length r (zs.map (.int .u64)) :: R) := by
 obtain ⟨r, h', e, zs, a, _, b⟩ := U2 hn (x := x) H SR hr S hb
 exact ⟨r, h', e, zs, a, b⟩
end Go.Proofs.YtdlfmpmpmkffjaaGreatDoor
namespace Go.Proofs.YtdlfmpmpmkffjaaGreatDoor
open Go Go.Ae
set_option maxRecDepth 100000
variable {g h : AH} {L R : List SP}
def xn (lv : AV) (l : List qM) : SP := qz 28 5 l.length lv (l.flatMap qe)
def Qy (ov : AV) (o : List Int) : SP := qz 3 1 o.length ov (o.map (.int .i64))
theorem ka {n : Nat} (hn : 2 ≤ n) {x : Int} : wp (callT tab qA n (.fn 58 [] []) [.int .i64 x] h) fun v h' => v = .int .i64 (jd x 0 6) ∧ h' = h := by
 (refine qP (g := (tD1 S58)) rfl (by omega) fun k hk => ?_; show wp (S58 (callT tab qA k) _ _).1 _; unfold S58; try simp only [ Int.ofNat_eq_natCast])
 refine qY (yF (by omega) (by omega) (by omega) (by omega)) ?_
 rintro _ _ ⟨rfl, rfl⟩
 exact qW ⟨rfl, rfl⟩
theorem vo {l : List qM} {lv : AV} {t : List qM} {tv : AV} {K2 : AV → AH → Go.Ae.R} {Q : AV → AH → Prop} {D' : Nat → Prop} (H : HS g h (xn lv l :: R)) (S : Sl D' h 5 t.length tv (t.flatMap qe)) (hl : l.length + t.length ≤ 100000)
  (w : ∀ v' h', HS g h' (xn v' (l ++ t) :: R) → wp (K2 v' h') Q) : wp (zQ h 28 5 lv tv K2) Q := by
 refine je H S (by omega) (by omega) (Jd t) fun v' h' H' => w v' h' ?_
 unfold xn
 rw [List.length_append, List.flatMap_append]
 exact H'
theorem Zi {a n : Int} (h : 0 ≤ a ∧ a ≤ 7) : xr (1, a, 0, 0, n) = true := by simp [xr, q8, xU]; omega
theorem may_2 {a b : Int} (h : 0 ≤ a ∧ a ≤ 7) (h2 : 0 ≤ b ∧ b ≤ 7) : xr (2, a, b, 0, 0) = true := by simp [xr, q8, xU]; omega
theorem may_3 {o a b c : Int} (ho : 3 ≤ o ∧ o ≤ 7) (h : 0 ≤ a ∧ a ≤ 7) (h2 : 0 ≤ b ∧ b ≤ 7) (h3 : 0 ≤ c ∧ c ≤ 7) : xr (o, a, b, c, 0) = true := by
 rcases (show o = 3 ∨ o = 4 ∨ o = 5 ∨ o = 6 ∨ o = 7 by omega) with rfl | rfl | rfl | rfl | rfl <;> (simp [xr, q8, xU]; omega)
theorem Qo {o a b c : Int} (ho : o = 8 ∨ o = 9) (h : 0 ≤ a ∧ a ≤ 7) (h2 : 0 ≤ b ∧ b ≤ 7) (h3 : 0 ≤ c ∧ c ≤ 15) : xr (o, a, b, c, 0) = true := by
 rcases ho with rfl | rfl <;> (simp [xr, q8, xU]; omega)
theorem On {a b : Int} (h : 0 ≤ a ∧ a ≤ 7) (h2 : 0 ≤ b ∧ b ≤ 7) : xr (10, a, b, 0, 0) = true := by simp [xr, q8, xU]; omega
theorem qQ6 {o a : Int} (ho : o = 11 ∨ o = 21) (h : 0 ≤ a ∧ a ≤ 7) : xr (o, a, 0, 0, 0) = true := by
 rcases ho with rfl | rfl <;> (simp [xr, q8, xU]; omega)
theorem qQP {a c : Int} (h : 0 ≤ a ∧ a ≤ 7) (h3 : 0 ≤ c ∧ c ≤ 40) : xr (13, a, 0, c, 0) = true := by simp [xr, q8, xU]; omega
structure YW (x : qM) : Prop where
  flat : Flat x.1
  nj : x.1 ≠ 12 ∧ x.1 ≠ 13
  ok : ∀ calm, JV calm x
theorem YW.of {x : qM} (h1 : xr x = true) (h2 : (1 ≤ x.1 ∧ x.1 ≤ 11) ∨ x.1 = 21) (h3 : 0 ≤ x.2.2.2.2 ∧ x.2.2.2.2 < 18446744073709551616) : YW x :=
 ⟨⟨by omega, by omega, by omega, by omega, by omega, by omega⟩, by omega, fun _ => ⟨h1, by omega, h3, fun _ => by omega⟩⟩
set_option maxHeartbeats 4000000 in
theorem QI {n : Nat} (hn : 3 ≤ n) {kx : qM} (hN : 0 ≤ kx.2.2.2.2 ∧ kx.2.2.2.2 < 18446744073709551616) (H : HS g h R) :
  wp (callT tab qA n (.fn 59 [] []) [.agg (qe kx)] h) fun r h' => ∃ x, r = .agg (qe x) ∧ YW x ∧ HS g h' R := by
 (refine qP (g := (tD1 S59)) rfl (by omega) fun k hk => ?_; show wp (S59 (callT tab qA k) _ _).1 _; unfold S59; try simp only [ Int.ofNat_eq_natCast])
 refine qU H rfl fun b0 h1 H1 => ?_
 refine qU H1 rfl fun b2 h2 H2 => ?_
 have H2 : HS g h2 (qw b2 [.int .i64 ((0 : Nat) : Int), .int .i64 ((0 : Nat) : Int), .int .i64 ((0 : Nat) : Int), .int .i64 ((0 : Nat) : Int), .int .u64 ((0 : Nat) : Int)] :: qw b0 (qe kx) :: R) := H2
 clear H H1
 refine qX ?_
 try dsimp only
 refine qJ (qG H2 (b := b0) e_1 rfl ?_)
 refine qY (ka (by omega)) ?_
 rintro _ _ ⟨rfl, rfl⟩
 refine qJ (qG H2 (b := b0) e_1 rfl ?_)
 refine qY (ka (by omega)) ?_
 rintro _ _ ⟨rfl, rfl⟩
 refine qJ (qG H2 (b := b0) e_1 rfl ?_)
 refine qY (ka (by omega)) ?_
 rintro _ _ ⟨rfl, rfl⟩
 refine jc H2 (b := b0) e_1 rfl H2 e_1 rfl (HS.lt H2 e_1) ?_
 refine jc H2 (b := b0) e_1 rfl H2 e_1 rfl (HS.lt H2 e_1) ?_
 refine jc H2 (b := b0) e_1 rfl H2 e_1 rfl (HS.lt H2 e_1) ?_
 refine qJ (qG H2 (b := b0) e_1 rfl ?_)
 refine qY (yF (by omega) (by omega) (by omega) (by omega)) ?_
 rintro _ _ ⟨rfl, rfl⟩
 refine qJ (qG H2 (b := b0) e_1 rfl ?_)
 refine qY (yF (by omega) (by omega) (by omega) (by omega)) ?_
 rintro _ _ ⟨rfl, rfl⟩
 have ha := jo kx.2.1 (show (0 : Int) ≤ 6 by omega)
 have hb := jo kx.2.2.1 (show (0 : Int) ≤ 6 by omega)
 have hc := jo kx.2.2.2.1 (show (0 : Int) ≤ 6 by omega)
 have hat := jo kx.2.2.2.1 (show (((6 : Nat) : Int)) ≤ ((15 : Nat) : Int) by omega)
 have hw := jo kx.1 (show (((0 : Nat) : Int)) ≤ ((19 : Nat) : Int) by omega)
 generalize jd kx.2.1 0 6 = a at *
 generalize jd kx.2.2.1 0 6 = b at *
 generalize jd kx.2.2.2.1 0 6 = c at *
 generalize jd kx.2.2.2.1 ((6 : Nat) : Int) ((15 : Nat) : Int) = at_ at *
 generalize jd kx.1 ((0 : Nat) : Int) ((19 : Nat) : Int) = w at *
 have fin : ∀ (x : qM) (h0 : AH), YW x → HS g h0 (qw b2 [.int .i64 ((0 : Nat) : Int), .int .i64 ((0 : Nat) : Int), .int .i64 ((0 : Nat) : Int), .int .i64 ((0 : Nat) : Int), .int .u64 ((0 : Nat) : Int)] :: qw b0 (qe kx) :: R) →
   wp (jX h0 (.ptr b2 0) (.agg (qe x)) 5 fun h22 => jB [] h22 fun h23 => ji h23 (.ptr b2 0) 5 fun v24 => some (v24, h23)) fun r h' => ∃ x, r = .agg (qe x) ∧ YW x ∧ HS g h' R := by
  intro x h0 hx H0
  refine jG H0 (b := b2) .here rfl (by show 0 + 5 ≤ 5; omega) rfl fun h6 H6 => ?_
  have H6 : HS g h6 (qw b2 (qe x) :: qw b0 (qe kx) :: R) := H6
  refine qj (qh H6 (b := b2) (off := 0) .here rfl (by omega) (l := qe x) rfl ?_)
  exact qW ⟨x, rfl, hx, H6.drop.drop⟩
 have z0 : (0 : Int) ≤ 0 ∧ (0 : Int) < 18446744073709551616 := by omega
 have hd : w = 0 ∨ w = 1 ∨ w = 2 ∨ w = 3 ∨ w = 4 ∨ w = 5 ∨ w = 6 ∨ w = 7 ∨ w = 8 ∨ w = 9 ∨ w = 10 ∨ w = 11 ∨ w = 12 ∨ w = 13 ∨ w = 14 ∨ w = 15 ∨ w = 16 ∨ 17 ≤ w := by omega
 rcases hd with h0 | h0 | h0 | h0 | h0 | h0 | h0 | h0 | h0 | h0 | h0 | h0 | h0 | h0 | h0 | h0 | h0 | h0
 all_goals (first | with_reducible (refine qX ?_; (try dsimp only); refine qK (by omega) ?_; refine qQ ?_; refine qK (by omega) ?_; refine qQ ?_; refine qK (by omega) ?_; refine qQ ?_; refine qK (by omega) ?_; refine qQ ?_; refine qK (by omega) ?_; refine qQ ?_; refine qX ?_; (try dsimp only); refine qK (by omega) ?_; refine qQ ?_; refine qK (by omega) ?_; refine qQ ?_; refine qK (by omega) ?_; refine qQ ?_; refine qX ?_; (try dsimp only); refine qK (by omega) ?_; refine qQ ?_; refine qK (by omega) ?_; refine qQ ?_; refine qK (by omega) ?_; refine qQ ?_; refine qK (by omega) ?_; refine qQ ?_; refine qK (by omega) ?_; refine qQ ?_; refine qX ?_; (try dsimp only); refine qK (by omega) ?_; refine qQ ?_; refine qK (by omega) ?_; refine qQ ?_; refine qK (by omega) ?_; refine qQ ?_; refine qy (by omega) ?_; refine qV ?_; refine qF rfl ?_) | with_reducible (refine qX ?_; (try dsimp only); refine qK (by omega) ?_; refine qQ ?_; refine qK (by omega) ?_; refine qQ ?_; refine qK (by omega) ?_; refine qQ ?_; refine qK (by omega) ?_; refine qQ ?_; refine qK (by omega) ?_; refine qQ ?_; refine qX ?_; (try dsimp only); refine qK (by omega) ?_; refine qQ ?_; refine qK (by omega) ?_; refine qQ ?_; refine qK (by omega) ?_; refine qQ ?_; refine qX ?_; (try dsimp only); refine qK (by omega) ?_; refine qQ ?_; refine qK (by omega) ?_; refine qQ ?_; refine qK (by omega) ?_; refine qQ ?_; refine qK (by omega) ?_; refine qQ ?_; refine qK (by omega) ?_; refine qQ ?_; refine qX ?_; (try dsimp only); refine qK (by omega) ?_; refine qQ ?_; refine qK (by omega) ?_; refine qQ ?_; refine qK (by omega) ?_; refine qQ ?_; refine qK (by omega) ?_; refine qQ ?_; refine qF rfl ?_) | with_reducible (refine qX ?_; (try dsimp only); refine qK (by omega) ?_; refine qQ ?_; refine qK (by omega) ?_; refine qQ ?_; refine qK (by omega) ?_; refine qQ ?_; refine qK (by omega) ?_; refine qQ ?_; refine qK (by omega) ?_; refine qQ ?_; refine qX ?_; (try dsimp only); refine qK (by omega) ?_; refine qQ ?_; refine qK (by omega) ?_; refine qQ ?_; refine qK (by omega) ?_; refine qQ ?_; refine qX ?_; (try dsimp only); refine qK (by omega) ?_; refine qQ ?_; refine qK (by omega) ?_; refine qQ ?_; refine qK (by omega) ?_; refine qQ ?_; refine qK (by omega) ?_; refine qQ ?_; refine qK (by omega) ?_; refine qQ ?_; refine qX ?_; (try dsimp only); refine qK (by omega) ?_; refine qQ ?_; refine qK (by omega) ?_; refine qQ ?_; refine qy (by omega) ?_; refine qV ?_; refine qF rfl ?_) | with_reducible (refine qX ?_; (try dsimp only); refine qK (by omega) ?_; refine qQ ?_; refine qK (by omega) ?_; refine qQ ?_; refine qK (by omega) ?_; refine qQ ?_; refine qK (by omega) ?_; refine qQ ?_; refine qK (by omega) ?_; refine qQ ?_; refine qX ?_; (try dsimp only); refine qK (by omega) ?_; refine qQ ?_; refine qK (by omega) ?_; refine qQ ?_; refine qK (by omega) ?_; refine qQ ?_; refine qX ?_; (try dsimp only); refine qK (by omega) ?_; refine qQ ?_; refine qK (by omega) ?_; refine qQ ?_; refine qK (by omega) ?_; refine qQ ?_; refine qK (by omega) ?_; refine qQ ?_; refine qK (by omega) ?_; refine qQ ?_; refine qX ?_; (try dsimp only); refine qK (by omega) ?_; refine qQ ?_; refine qy (by omega) ?_; refine qV ?_; refine qF rfl ?_) | with_reducible (refine qX ?_; (try dsimp only); refine qK (by omega) ?_; refine qQ ?_; refine qK (by omega) ?_; refine qQ ?_; refine qK (by omega) ?_; refine qQ ?_; refine qK (by omega) ?_; refine qQ ?_; refine qK (by omega) ?_; refine qQ ?_; refine qX ?_; (try dsimp only); refine qK (by omega) ?_; refine qQ ?_; refine qK (by omega) ?_; refine qQ ?_; refine qK (by omega) ?_; refine qQ ?_; refine qX ?_; (try dsimp only); refine qK (by omega) ?_; refine qQ ?_; refine qK (by omega) ?_; refine qQ ?_; refine qK (by omega) ?_; refine qQ ?_; refine qK (by omega) ?_; refine qQ ?_; refine qK (by omega) ?_; refine qQ ?_; refine qX ?_; (try dsimp only); refine qy (by omega) ?_; refine qV ?_; refine qV ?_; refine qF rfl ?_) | with_reducible (refine qX ?_; (try dsimp only); refine qK (by omega) ?_; refine qQ ?_; refine qK (by omega) ?_; refine qQ ?_; refine qK (by omega) ?_; refine qQ ?_; refine qK (by omega) ?_; refine qQ ?_; refine qK (by omega) ?_; refine qQ ?_; refine qX ?_; (try dsimp only); refine qK (by omega) ?_; refine qQ ?_; refine qK (by omega) ?_; refine qQ ?_; refine qK (by omega) ?_; refine qQ ?_; refine qX ?_; (try dsimp only); refine qK (by omega) ?_; refine qQ ?_; refine qK (by omega) ?_; refine qQ ?_; refine qK (by omega) ?_; refine qQ ?_; refine qK (by omega) ?_; refine qQ ?_; refine qy (by omega) ?_; refine qV ?_; refine qJ ?_; refine qG (by assumption) e_1 rfl ?_) | with_reducible (refine qX ?_; (try dsimp only); refine qK (by omega) ?_; refine qQ ?_; refine qK (by omega) ?_; refine qQ ?_; refine qK (by omega) ?_; refine qQ ?_; refine qK (by omega) ?_; refine qQ ?_; refine qK (by omega) ?_; refine qQ ?_; refine qX ?_; (try dsimp only); refine qK (by omega) ?_; refine qQ ?_; refine qK (by omega) ?_; refine qQ ?_; refine qK (by omega) ?_; refine qQ ?_; refine qX ?_; (try dsimp only); refine qK (by omega) ?_; refine qQ ?_; refine qK (by omega) ?_; refine qQ ?_; refine qK (by omega) ?_; refine qQ ?_; refine qy (by omega) ?_; refine qV ?_; refine qJ ?_; refine qG (by assumption) e_1 rfl ?_) | with_reducible (refine qX ?_; (try dsimp only); refine qK (by omega) ?_; refine qQ ?_; refine qK (by omega) ?_; refine qQ ?_; refine qK (by omega) ?_; refine qQ ?_; refine qK (by omega) ?_; refine qQ ?_; refine qK (by omega) ?_; refine qQ ?_; refine qX ?_; (try dsimp only); refine qK (by omega) ?_; refine qQ ?_; refine qK (by omega) ?_; refine qQ ?_; refine qK (by omega) ?_; refine qQ ?_; refine qX ?_; (try dsimp only); refine qK (by omega) ?_; refine qQ ?_; refine qK (by omega) ?_; refine qQ ?_; refine qy (by omega) ?_; refine qV ?_; refine qF rfl ?_) | with_reducible (refine qX ?_; (try dsimp only); refine qK (by omega) ?_; refine qQ ?_; refine qK (by omega) ?_; refine qQ ?_; refine qK (by omega) ?_; refine qQ ?_; refine qK (by omega) ?_; refine qQ ?_; refine qK (by omega) ?_; refine qQ ?_; refine qX ?_; (try dsimp only); refine qK (by omega) ?_; refine qQ ?_; refine qK (by omega) ?_; refine qQ ?_; refine qK (by omega) ?_; refine qQ ?_; refine qX ?_; (try dsimp only); refine qK (by omega) ?_; refine qQ ?_; refine qy (by omega) ?_; refine qV ?_; refine qV ?_; refine qF rfl ?_) | with_reducible (refine qX ?_; (try dsimp only); refine qK (by omega) ?_; refine qQ ?_; refine qK (by omega) ?_; refine qQ ?_; refine qK (by omega) ?_; refine qQ ?_; refine qK (by omega) ?_; refine qQ ?_; refine qK (by omega) ?_; refine qQ ?_; refine qX ?_; (try dsimp only); refine qK (by omega) ?_; refine qQ ?_; refine qK (by omega) ?_; refine qQ ?_; refine qK (by omega) ?_; refine qQ ?_; refine qX ?_; (try dsimp only); refine qy (by omega) ?_; refine qV ?_; refine qV ?_; refine qF rfl ?_) | with_reducible (refine qX ?_; (try dsimp only); refine qK (by omega) ?_; refine qQ ?_; refine qK (by omega) ?_; refine qQ ?_; refine qK (by omega) ?_; refine qQ ?_; refine qK (by omega) ?_; refine qQ ?_; refine qK (by omega) ?_; refine qQ ?_; refine qX ?_; (try dsimp only); refine qK (by omega) ?_; refine qQ ?_; refine qK (by omega) ?_; refine qQ ?_; refine qy (by omega) ?_; refine qV ?_; refine qF rfl ?_) | with_reducible (refine qX ?_; (try dsimp only); refine qK (by omega) ?_; refine qQ ?_; refine qK (by omega) ?_; refine qQ ?_; refine qK (by omega) ?_; refine qQ ?_; refine qK (by omega) ?_; refine qQ ?_; refine qK (by omega) ?_; refine qQ ?_; refine qX ?_; (try dsimp only); refine qK (by omega) ?_; refine qQ ?_; refine qy (by omega) ?_; refine qV ?_; refine qV ?_; refine qF rfl ?_) | with_reducible (refine qX ?_; (try dsimp only); refine qK (by omega) ?_; refine qQ ?_; refine qK (by omega) ?_; refine qQ ?_; refine qK (by omega) ?_; refine qQ ?_; refine qK (by omega) ?_; refine qQ ?_; refine qK (by omega) ?_; refine qQ ?_; refine qX ?_; (try dsimp only); refine qy (by omega) ?_; refine qV ?_; refine qV ?_; refine qF rfl ?_) | with_reducible (refine qX ?_; (try dsimp only); refine qK (by omega) ?_; refine qQ ?_; refine qK (by omega) ?_; refine qQ ?_; refine qK (by omega) ?_; refine qQ ?_; refine qK (by omega) ?_; refine qQ ?_; refine qy (by omega) ?_; refine qV ?_; refine qJ ?_; refine qG (by assumption) e_1 rfl ?_) | with_reducible (refine qX ?_; (try dsimp only); refine qK (by omega) ?_; refine qQ ?_; refine qy (by omega) ?_; refine qV ?_; refine qJ ?_; refine qG (by assumption) e_1 rfl ?_; refine qF rfl ?_) | with_reducible (refine qX ?_; (try dsimp only); refine qK (by omega) ?_; refine qQ ?_; refine qK (by omega) ?_; refine qQ ?_; refine qy (by omega) ?_; refine qV ?_; refine qJ ?_; refine qG (by assumption) e_1 rfl ?_) | with_reducible (refine qX ?_; (try dsimp only); refine qK (by omega) ?_; refine qQ ?_; refine qK (by omega) ?_; refine qQ ?_; refine qK (by omega) ?_; refine qQ ?_; refine qy (by omega) ?_; refine qV ?_; refine qF rfl ?_) | with_reducible (refine qX ?_; (try dsimp only); refine qy (by omega) ?_; refine qV ?_; refine qV ?_; refine qJ ?_; refine qG (by assumption) e_1 rfl ?_; refine qF rfl ?_))
 ·exact fin (1, a, 0, 0, kx.2.2.2.2) _ (.of (Zi (by omega)) (by dsimp only; omega) hN) H2
 ·exact fin (1, a, 0, 0, kx.2.2.2.2) _ (.of (Zi (by omega)) (by dsimp only; omega) hN) H2
 ·refine gd (by decide) ?_
  obtain ⟨m, hm⟩ : ∃ m : Nat, kx.2.2.2.2 = m := ⟨kx.2.2.2.2.toNat, by omega⟩
  have ht : kx.2.2.2.2.tmod ((20 : Nat) : Int) = ((m % 20 : Nat) : Int) := by rw [hm]; rfl
  rw [ht]
  with_reducible (refine qF rfl ?_)
  exact fin (1, a, 0, 0, ((m % 20 : Nat) : Int)) _ (.of (Zi (by omega)) (by dsimp only; omega) (by dsimp only; omega)) H2
 ·exact fin (2, a, b, 0, 0) _ (.of (may_2 (by omega) (by omega)) (by dsimp only; omega) z0) H2
 ·refine gd (by decide) ?_
  obtain ⟨m, hm⟩ : ∃ m : Nat, kx.2.2.2.2 = m := ⟨kx.2.2.2.2.toNat, by omega⟩
  have ht : kx.2.2.2.2.tmod ((64 : Nat) : Int) = ((m % 64 : Nat) : Int) := by rw [hm]; rfl
  rw [ht]
  refine jI (by omega) ?_
  refine qY (yF (by omega) (by omega) (by omega) (by omega)) ?_
  rintro _ _ ⟨rfl, rfl⟩
  have ho := jo ((m % 64 : Nat) : Int) (show (((0 : Nat) : Int)) ≤ ((4 : Nat) : Int) by omega)
  generalize jd ((m % 64 : Nat) : Int) ((0 : Nat) : Int) ((4 : Nat) : Int) = o at *
  with_reducible (refine qD (by omega) ?_; refine qF rfl ?_)
  exact fin (((3 : Nat) : Int) + o, a, b, c, 0) _ (.of (may_3 (by omega) (by omega) (by omega) (by omega)) (by dsimp only; omega) z0) H2
 ·exact fin (8, a, 7, at_, 0) _ (.of (Qo (.inl rfl) (by omega) (by omega) (by omega)) (by dsimp only; omega) z0) H2
 ·exact fin (8, a, 7, at_, 0) _ (.of (Qo (.inl rfl) (by omega) (by omega) (by omega)) (by dsimp only; omega) z0) H2
 ·exact fin (8, a, 7, at_, 0) _ (.of (Qo (.inl rfl) (by omega) (by omega) (by omega)) (by dsimp only; omega) z0) H2
 ·exact fin (9, 7, b, at_, 0) _ (.of (Qo (.inr rfl) (by omega) (by omega) (by omega)) (by dsimp only; omega) z0) H2
 ·exact fin (9, 7, b, at_, 0) _ (.of (Qo (.inr rfl) (by omega) (by omega) (by omega)) (by dsimp only; omega) z0) H2
 ·exact fin (9, 7, b, at_, 0) _ (.of (Qo (.inr rfl) (by omega) (by omega) (by omega)) (by dsimp only; omega) z0) H2
 ·refine qY (yF (by omega) (by omega) (by omega) (by omega)) ?_
  rintro _ _ ⟨rfl, rfl⟩
  have ho := jo kx.2.2.2.1 (show (((0 : Nat) : Int)) ≤ ((3 : Nat) : Int) by omega)
  generalize jd kx.2.2.2.1 ((0 : Nat) : Int) ((3 : Nat) : Int) = o at *
  with_reducible (refine qF rfl ?_)
  exact fin (8, a, b, o, 0) _ (.of (Qo (.inl rfl) (by omega) (by omega) (by omega)) (by dsimp only; omega) z0) H2
 ·refine qY (yF (by omega) (by omega) (by omega) (by omega)) ?_
  rintro _ _ ⟨rfl, rfl⟩
  have ho := jo kx.2.2.2.1 (show (((0 : Nat) : Int)) ≤ ((3 : Nat) : Int) by omega)
  generalize jd kx.2.2.2.1 ((0 : Nat) : Int) ((3 : Nat) : Int) = o at *
  with_reducible (refine qF rfl ?_)
  exact fin (9, a, b, o, 0) _ (.of (Qo (.inr rfl) (by omega) (by omega) (by omega)) (by dsimp only; omega) z0) H2
 ·exact fin (10, a, b, 0, 0) _ (.of (On (by omega) (by omega)) (by dsimp only; omega) z0) H2
 ·exact fin (10, a, b, 0, 0) _ (.of (On (by omega) (by omega)) (by dsimp only; omega) z0) H2
 ·exact fin (11, a, 0, 0, 0) _ (.of (qQ6 (.inl rfl) (by omega)) (by dsimp only; omega) z0) H2
 ·exact fin (8, a, 7, at_, 0) _ (.of (Qo (.inl rfl) (by omega) (by omega) (by omega)) (by dsimp only; omega) z0) H2
 ·exact fin (21, a, 0, 0, 0) _ (.of (qQ6 (.inr rfl) (by omega)) (by dsimp only; omega) z0) H2
end Go.Proofs.YtdlfmpmpmkffjaaGreatDoor
namespace Go.Proofs.YtdlfmpmpmkffjaaGreatDoor
open Go Go.Ae
set_option maxRecDepth 100000
variable {g h : AH} {L R : List SP}
theorem V5 (l : List Int) : q9 (l.map (AV.int .i64)) = true := by
 unfold q9
 rw [List.all_eq_true]
 intro y hy
 obtain ⟨z, _, rfl⟩ := List.mem_map.1 hy
 rfl
theorem y5 (l : List qM) (st : List Int) : (jD l st).length = st.length := by simp [jD]
theorem VE {l : List qM} {st : List Int} (hn : st ≠ []) : (jD l st)[st.length - 1]? = some (opM l st) := by
 have hl := List.length_pos_iff.2 hn
 rw [UX hn, List.getLast?_eq_getElem?, y5, List.getElem?_eq_getElem (by rw [y5]; omega)]; rfl
theorem Xq {l : List qM} {st : List Int} : (wK l st).length = l.length + 1 := by simp [wK]
theorem UP {n : Nat} (hn : 1 ≤ n) {calm : Bool} {l : List qM} {st : List Int} {lv ov : AV} (B : Bld calm l st) (hne : st ≠ []) (ho : opM l st = 14 ∨ opM l st = 17 ∨ opM l st = 18) (hl : l.length ≤ 1000)
  (H : HS g h (xn lv l :: Qy ov (jD l st) :: R)) :
  wp (callT tab qA n (.fn 57 [] []) [lv, ov] h) fun r h' => ∃ lv' ov', r = .tup [lv', ov'] ∧ HS g h' (xn lv' (wK l st) :: Qy ov' (jD (wK l st) (k6 l st)) :: R) := by
 (refine qP (g := (tD2 S57)) rfl (by omega) fun k hk => ?_; show wp (S57 (callT tab qA k) _ _ _).1 _; unfold S57; try simp only [ Int.ofNat_eq_natCast])
 have hp := List.length_pos_iff.2 hne
 have h5 := B.five
 have hol := y5 l st
 have hat := VE (l := l) hne
 obtain ⟨B2, hops⟩ := B.shut hne ho
 rw [hops]
 have H0 : HS g h (qz 28 5 l.length lv (l.flatMap qe) :: qz 3 1 (jD l st).length ov ((jD l st).map (.int .i64)) :: R) := H
 refine qd H0 e_1 ?_
 rw [hol]
 refine qb (by omega) ?_
 rw [show (st.length : Int) - ((1 : Nat) : Int) = ((st.length - 1 : Nat) : Int) by omega]
 refine jF (H0.sl e_1) (x := .int .i64 (opM l st)) (by rw [List.getElem?_map, hat]; rfl) ?_
 have hdl : (jD l st).dropLast = (jD l st).take (st.length - 1) := by rw [List.dropLast_eq_take, hol]
 have tail : ∀ (op : Int), (opM l st = 14 ∧ op = 15 ∨ opM l st = 18 ∧ op = 19) →
   wp (zN (α := AV × AV × Unit → AH → Go.Ae.R) (fun s5 h6 => some ((.tup [s5.2.1, s5.1]), h6)) fun j7 => jS [(.int .i64 ((0 : Nat) : Int)), (.int .i64 ((0 : Nat) : Int)), (.int .i64 ((0 : Nat) : Int)), (.int .i64 ((0 : Nat) : Int)), (.int .u64 ((0 : Nat) : Int))] [(0, 1, (.int .i64 op))] fun v8 =>
    j0 h 28 [(.int .i64 ((0 : Nat) : Int)), (.int .i64 ((0 : Nat) : Int)), (.int .i64 ((0 : Nat) : Int)), (.int .i64 ((0 : Nat) : Int)), (.int .u64 ((0 : Nat) : Int))] 1 [(0, 5, v8)] fun v9 h10 =>
    zQ h10 28 5 lv v9 fun v11 h12 => zS h12 3 1 ov none (some (.int .i64 ((st.length - 1 : Nat) : Int))) fun v13 =>
    wT ov (some (3 * 65536 + 1)) v13 h10 h12 h.nx <| j7 (v13, v11, ()) h12)
   fun r h' => ∃ lv' ov', r = .tup [lv', ov'] ∧ HS g h' (xn lv' (wK l st) :: Qy ov' ((jD l st).dropLast ++ (if opM l st = 17 then [18] else [])) :: R) := by
  intro op hop
  refine qX ?_
  try dsimp only
  refine qF (l := qe (one op)) rfl ?_
  refine qf (n := 1) (l := qe (one op)) (sz := 5) H0 rfl rfl rfl rfl fun v9 h10 H10 => ?_
  have S : Sl (fun _ => True) h10 5 [one op].length v9 ([one op].flatMap qe) := H10.sl .here
  refine vo (H10.sel (P := xn lv l) e_1) S (by simp; omega) fun v11 h12 H12 => ?_
  refine yx (hi := st.length - 1) (H12.sel (P := qz 3 1 (jD l st).length ov ((jD l st).map (.int .i64))) e_2) (by omega) (by omega) fun v13 H13 => ?_
  refine Uo H10 (s := e_2) H12 e_2 H0 e_1 (by omega) (by omega) rfl ?_
  rw [Nat.mul_one, ← List.map_take, ← hdl] at H13
  have h17 : ¬ opM l st = 17 := by omega
  rw [if_neg h17, List.append_nil]
  refine qW ⟨v11, v13, rfl, ?_⟩
  have e : wK l st = l ++ [one op] := by
   unfold wK yJ
   rcases hop with ⟨h1, h2⟩ | ⟨h1, h2⟩
   ·rw [h1, h2]; rfl
   ·rw [h1, h2]; rfl
  rw [e]
  unfold Qy
  rw [show (jD l st).dropLast.length = st.length - 1 by rw [List.length_dropLast, hol]]
  exact H13.sub (.cons e_1 (.cons .here (.drop .refl)))
 by_cases c14 : opM l st = 14
 ·refine qy c14 (qV ?_)
  exact tail 15 (.inl ⟨c14, rfl⟩)
 refine qK c14 (qQ ?_)
 by_cases c17 : opM l st = 17
 ·refine qy c17 (qV ?_)
  refine yx (hi := st.length - 1) (H0.sel (P := qz 3 1 (jD l st).length ov ((jD l st).map (.int .i64))) e_1) (by omega) (by omega) fun v15 H2 => ?_
  rw [Nat.mul_one, ← List.map_take, ← hdl] at H2
  have hdn : (jD l st).dropLast.length = st.length - 1 := by rw [List.length_dropLast, hol]
  have S : Sl (fun _ => True) h 1 (st.length - 1) v15 ((jD l st).dropLast.map (.int .i64)) := H2.sl .here
  refine je (H2.nils (e := 3) (sz := 1)) S (by omega) (by omega) (V5 _) fun v16 h3 H3 => ?_
  rw [List.nil_append, Nat.zero_add] at H3
  refine qf (n := 1) (l := [.int .i64 ((18 : Nat) : Int)]) (sz := 1) H3 rfl rfl rfl rfl fun v18 h4 H4 => ?_
  refine je (H4.sel e_1) (H4.sl .here) (by omega) (by omega) rfl fun v20 h5 H5 => ?_
  refine qF (l := qe (one 18)) rfl ?_
  refine qf (n := 1) (l := qe (one 18)) (sz := 5) H5 rfl rfl rfl rfl fun v23 h6 H6 => ?_
  have S6 : Sl (fun _ => True) h6 5 [one 18].length v23 ([one 18].flatMap qe) := H6.sl .here
  refine vo (H6.sel (P := xn lv l) e_4) S6 (by simp; omega) fun v25 h7 H7 => ?_
  rw [if_pos c17]
  refine qW ⟨v25, v20, rfl, ?_⟩
  have e : wK l st = l ++ [one 18] := by unfold wK yJ; rw [c17]; rfl
  rw [e]
  unfold Qy
  rw [List.length_append, hdn, List.map_append]
  exact H7.sub (.cons .here (.cons e_1 (.drop (.drop (.drop .refl)))))
 ·refine qK c17 (qQ ?_)
  exact tail 19 (.inr ⟨by omega, rfl⟩)
def wL (o : List Int) : Nat := (o.map fun x => if x = 17 then 2 else 1).sum
theorem US (a b : List Int) : wL (a ++ b) = wL a + wL b := by simp [wL]
theorem qXe (o : List Int) : wL o ≤ 2 * o.length := by
 induction o with
 | nil => simp [wL]
 | cons x o ih => simp only [wL, List.map_cons, List.sum_cons, List.length_cons] at *; split <;> omega
theorem NO {l : List qM} {st : List Int} (hne : st ≠ []) : wL ((jD l st).dropLast ++ (if opM l st = 17 then [18] else [])) + 1 = wL (jD l st) := by
 have h1 : jD l st ≠ [] := by intro h; have := congrArg List.length h; rw [y5] at this; exact hne (List.eq_nil_of_length_eq_zero this)
 have h2 := List.dropLast_concat_getLast h1
 have h3 : (jD l st).getLast h1 = opM l st := by rw [UX hne, List.getLast?_eq_some_getLast h1]; rfl
 rw [h3] at h2
 have h4 : wL (jD l st) = wL (jD l st).dropLast + (if opM l st = 17 then 2 else 1) := by
  conv => lhs; rw [← h2]
  rw [US]; simp [wL]
 rw [US, h4]
 split
 ·simp [wL]
 ·simp [wL]
def OpsK (l : List qM) (st : List Int) : Prop := ∀ o ∈ jD l st, o = 14 ∨ o = 17 ∨ o = 18
theorem OpsK.at {l : List qM} {st : List Int} (h : OpsK l st) (hne : st ≠ []) : opM l st = 14 ∨ opM l st = 17 ∨ opM l st = 18 := h _ (List.mem_of_getElem? (VE hne))
set_option maxHeartbeats 8000000 in
theorem ZE {n : Nat} (hn : 5 ≤ n) {calm : Bool} {ks : List qM} {kv : AV} {most : Int} (hN : ∀ x ∈ ks, 0 ≤ x.2.2.2.2 ∧ x.2.2.2.2 < 18446744073709551616) (hm : 1 ≤ most ∧ most ≤ 40) (H : HS g h R) (S : Rd g R 5 ks.length kv (ks.flatMap qe)) :
  wp (callT tab qA n (.fn 23 [] []) [kv, .int .i64 most, .bool calm] h) fun r h' => ∃ lv l, r = .agg [lv] ∧ Bld calm l [] ∧ 0 < l.length ∧ (l.length : Int) ≤ most ∧ HS g h' (xn lv l :: R) := by
 (refine qP (g := (tD3 S23)) rfl (by omega) fun k hk => ?_; show wp (S23 (callT tab qA k) _ _ _ _).1 _; unfold S23; try simp only [ Int.ofNat_eq_natCast])
 refine qU H rfl fun b0 h1 H1 => ?_
 clear H
 have H1 := (H1.nils (e := 3) (sz := 1)).nils (e := 28) (sz := 5)
 refine zB [] (fun s h' => ∃ (l : List qM) (st : List Int) (lv ov : AV), s = (ov, lv, .ptr b0 0, ()) ∧ Bld calm l st ∧ OpsK l st ∧ (l.length : Int) + 2 * st.length ≤ most ∧ HS g h' (xn lv l :: Qy ov (jD l st) :: qw b0 [.nils] :: R)) ?_ ?_
 rotate_left
 ·rintro s h2 ⟨l, st, lv, ov, rfl, B, OK, hle, H2⟩
  dsimp only
  have hW : (l.length : Int) + wL (jD l st) ≤ most := by
   have := qXe (jD l st)
   rw [y5] at this; omega
  refine jz (fun m s h' => ∃ (l : List qM) (st : List Int) (lv ov : AV), s = (ov, lv, .ptr b0 0, ()) ∧ m = wL (jD l st) ∧ Bld calm l st ∧ OpsK l st ∧ (l.length : Int) + wL (jD l st) ≤ most ∧ HS g h' (xn lv l :: Qy ov (jD l st) :: qw b0 [.nils] :: R))
   ?_ (m := wL (jD l st)) (by show _ < 1000000000; omega) ⟨l, st, lv, ov, rfl, rfl, B, OK, hW, H2⟩
  clear H2 hW hle OK B st lv ov l
  rintro m ih s h3 hih ⟨l, st, lv, ov, rfl, rfl, B, OK, hW, H⟩
  dsimp only
  have hol := y5 l st
  refine qd (n := (jD l st).length) (H : HS g h3 (xn lv l :: qz 3 1 (jD l st).length ov ((jD l st).map (.int .i64)) :: qw b0 [.nils] :: R)) e_1 ?_
  rw [hol]
  by_cases h0 : st = []
  ·subst h0
   refine ja (by simp) (qQ ?_)
   refine zB [] (fun s h' => ∃ (l : List qM) (lv : AV), s = (lv, .ptr b0 0, ()) ∧ Bld calm l [] ∧ 0 < l.length ∧ (l.length : Int) ≤ most ∧ HS g h' (xn lv l :: qw b0 [.nils] :: R)) ?_ ?_
   ·intro j hj
    refine qd (n := l.length) (H : HS g h3 (qz 28 5 l.length lv (l.flatMap qe) :: Qy ov (jD l []) :: qw b0 [.nils] :: R)) .here ?_
    by_cases hl0 : l.length = 0
    ·refine qy (by omega) (qV ?_)
     obtain rfl := List.eq_nil_of_length_eq_zero hl0
     refine qF (l := qe (1, 0, 0, 0, 1)) rfl ?_
     refine qf (n := 1) (l := qe (1, 0, 0, 0, 1)) (sz := 5) H rfl rfl rfl rfl fun v27 h4 H4 => ?_
     have S1 : Sl (fun _ => True) h4 5 [((1, 0, 0, 0, 1) : qM)].length v27 ([((1, 0, 0, 0, 1) : qM)].flatMap qe) := H4.sl .here
     refine vo (H4.sel (P := xn lv []) e_1) S1 (by simp) fun v29 h5 H5 => ?_
     refine hj _ _ ⟨_, v29, rfl, B.flat (x := (1, 0, 0, 0, 1)) ⟨by decide, by decide, by decide, fun _ => by decide⟩ (by unfold Flat; decide) (by decide), by simp, by simp; omega, H5.sub (.cons .here (.drop (.drop (.cons .here .refl))))⟩
    ·refine qK (by omega) (qQ ?_)
     exact hj _ _ ⟨l, lv, rfl, B, by omega, by omega, H.sub (.cons .here (.drop (.cons .here .refl)))⟩
   ·rintro s h5 ⟨l, lv, rfl, B, hl0, hlm, H5⟩
    dsimp only
    have ol := H5.one (e := 28) (sz := 5) (n := l.length) .here
    refine qF (l := [lv]) (by simp only [yd, ol.1]; rfl) ?_
    refine jG H5 (b := b0) e_1 rfl (by simp) (by show q9 [lv] = true; simp [q9, ol.2]) fun h6 H6 => ?_
    have H6 : HS g h6 (qw b0 [lv] :: xn lv l :: R) := H6
    refine qj ?_
    refine qh H6 (b := b0) (off := 0) .here rfl (by omega) (l := [lv]) rfl ?_
    exact qW ⟨lv, l, rfl, B, hl0, hlm, H6.drop⟩
  ·have hp := List.length_pos_iff.2 h0
   refine jl (by omega) (qV ?_)
   refine qY (UP (by omega) B h0 (OK.at h0) (by omega) H) ?_
   rintro _ h4 ⟨lv', ov', rfl, H4⟩
   obtain ⟨B2, hops⟩ := B.shut h0 (OK.at h0)
   have hw := NO (l := l) h0
   rw [← hops] at hw
   refine qx rfl (qx rfl ?_)
   refine hih (wL (jD (wK l st) (k6 l st))) _ _ (by omega) ⟨_, _, lv', ov', rfl, rfl, B2, ?_, by rw [Xq]; omega, H4⟩
   intro o ho
   rw [hops] at ho
   rcases List.mem_append.1 ho with ho | ho
   ·exact OK o ((List.dropLast_sublist _).subset ho)
   ·split at ho
    ·rw [List.mem_singleton] at ho; omega
    ·cases ho
 intro j5 hj5
 refine jz (fun m s h' => ∃ (i : Nat) (l : List qM) (st : List Int) (lv ov : AV), s = (.int .i64 (i : Int), ov, lv, .ptr b0 0, .bool calm, .int .i64 most, kv, ()) ∧ m = 41 - l.length ∧ i ≤ l.length ∧ Bld calm l st ∧ OpsK l st ∧ (l.length : Int) + 2 * st.length ≤ most ∧ HS g h' (xn lv l :: Qy ov (jD l st) :: qw b0 [.nils] :: R))
  ?_ (m := 41) (by show _ < 1000000000; omega) ⟨0, [], [], .nils, .nils, rfl, rfl, by simp, Bld.nil calm, (fun o ho => by cases ho), by simp; omega, H1⟩
 clear H1
 rintro m ih s h2 hih ⟨i, l, st, lv, ov, rfl, rfl, hil, B, OK, hle, H⟩
 dsimp only
 refine jb (S.sl H.drop.drop.drop) ?_
 refine jA (fun hlt => qV ?_) fun hge => qQ (hj5 _ _ ⟨l, st, lv, ov, rfl, B, OK, hle, H⟩)
 have hlt : i < ks.length := by omega
 refine zJ (l := qe ks[i]) (S.sl H.drop.drop.drop) hlt (by omega) (J8 (sz := 5) (fun _ => rfl) (List.getElem?_eq_getElem hlt)) ?_
 have hNi := hN ks[i] (List.getElem_mem hlt)
 generalize ks[i] = kx at *
 refine qU H rfl fun b3 h3 H3 => jG H3 .here rfl (by show 0 + 5 ≤ 5; omega) rfl fun h5 H5 => ?_
 have H5 : HS g h5 (qw b3 (qe kx) :: xn lv l :: Qy ov (jD l st) :: qw b0 [.nils] :: R) := H5
 have H6 : HS g h5 (qw b3 (qe kx) :: qz 28 5 l.length lv (l.flatMap qe) :: qz 3 1 (jD l st).length ov ((jD l st).map (.int .i64)) :: qw b0 [.nils] :: R) := H5
 clear H H3
 have hol := y5 l st
 refine qd H6 e_2 ?_
 rw [hol]
 refine qd H6 e_1 ?_
 refine Kv (by omega) (qD (by omega) (qD (by omega) ?_))
 refine zi (fun hg => qV (hj5 _ _ ⟨l, st, lv, ov, rfl, B, OK, hle, H5.drop⟩)) fun hg => qQ ?_
 refine qJ (qG H5 (b := b3) .here rfl ?_)
 refine qY (yF (by omega) (by omega) (by omega) (by omega)) ?_
 rintro _ h5 ⟨rfl, rfl⟩
 have hwb := jo kx.1 (show (((0 : Nat) : Int)) ≤ ((40 : Nat) : Int) by omega)
 generalize jd kx.1 ((0 : Nat) : Int) ((40 : Nat) : Int) = w at *
 refine zB [] (fun s h' => ∃ (l' : List qM) (st' : List Int) (lv' ov' : AV), s = (.int .i64 (i : Int), ov', lv', .ptr b0 0, .bool calm, .int .i64 most, kv, ()) ∧ Bld calm l' st' ∧ OpsK l' st' ∧ (l'.length : Int) + 2 * st'.length ≤ most ∧ l.length < l'.length ∧ HS g h' (xn lv' l' :: Qy ov' (jD l' st') :: qw b0 [.nils] :: R)) ?_ ?_
 rotate_left
 ·rintro s h7 ⟨l', st', lv', ov', rfl, B', OK', hle', hlt', H7⟩
  dsimp only
  refine qD (by omega) ?_
  exact hih (41 - l'.length) _ _ (by omega) ⟨i + 1, l', st', lv', ov', rfl, rfl, by omega, B', OK', hle', H7⟩
 intro j hj
 have hfive := B.five
 have hll : l.length ≤ 100 := by omega
 have same : ∀ {t : List qM}, OpsK (l ++ t) st := fun {t} o ho => OK o (by rw [kP B.stok] at ho; exact ho)
 have hsame : ∀ {t : List qM}, jD (l ++ t) st = jD l st := kP B.stok
 have dflt : wp (ji h5 (.ptr b3 0) 5 fun v218 => jf (callT tab qA k) (.fn 59 [] []) [v218] h5 fun v219 h220 => j0 h220 28 [(.int .i64 ((0 : Nat) : Int)), (.int .i64 ((0 : Nat) : Int)), (.int .i64 ((0 : Nat) : Int)), (.int .i64 ((0 : Nat) : Int)), (.int .u64 ((0 : Nat) : Int))] 1 [(0, 5, v219)] fun v221 h222 =>
   zQ h222 28 5 lv v221 fun v223 h224 => j (.int .i64 (i : Int), ov, v223, .ptr b0 0, .bool calm, .int .i64 most, kv, ()) h224 []) (fun r h' => ∃ lv l, r = .agg [lv] ∧ Bld calm l [] ∧ 0 < l.length ∧ (l.length : Int) ≤ most ∧ HS g h' (xn lv l :: R)) := by
  refine qh H5 (b := b3) (off := 0) .here rfl (by omega) (l := qe kx) rfl ?_
  refine qY (QI (by omega) hNi H5) ?_
  rintro _ h7 ⟨x, rfl, hx, H7⟩
  refine qf (n := 1) (l := qe x) (sz := 5) H7 rfl rfl rfl rfl fun v8 h8 H8 => ?_
  have S1 : Sl (fun _ => True) h8 5 [x].length v8 ([x].flatMap qe) := by simpa using H8.sl .here
  refine vo (H8.sel (P := xn lv l) e_2) S1 (by simp; omega) fun v9 h9 H9 => ?_
  refine hj _ _ ⟨l ++ [x], st, v9, ov, rfl, B.flat (hx.ok calm) hx.flat hx.nj, same, by simp; omega, by simp, ?_⟩
  rw [hsame]
  exact H9.sub (.cons .here (.drop (.drop (.cons .here (.cons .here .refl)))))
 have beg : ∀ op : Int, op = 14 ∨ op = 17 → st.length < 5 → wp (j0 h5 28 [(.int .i64 ((0 : Nat) : Int)), (.int .i64 ((0 : Nat) : Int)), (.int .i64 ((0 : Nat) : Int)), (.int .i64 ((0 : Nat) : Int)), (.int .u64 ((0 : Nat) : Int))] 1 [(0, 5, .agg (qe (one op)))] fun v63 h64 => zQ h64 28 5 lv v63 fun v65 h66 =>
   j0 h66 3 [(.int .i64 ((0 : Nat) : Int))] 1 [(0, 1, (.int .i64 op))] fun v67 h68 => zQ h68 3 1 ov v67 fun v69 h70 => j (.int .i64 (i : Int), v69, v65, .ptr b0 0, .bool calm, .int .i64 most, kv, ()) h70 []) (fun r h' => ∃ lv l, r = .agg [lv] ∧ Bld calm l [] ∧ 0 < l.length ∧ (l.length : Int) ≤ most ∧ HS g h' (xn lv l :: R)) := by
  intro op hop hs5
  refine qf (n := 1) (l := qe (one op)) (sz := 5) H5 rfl rfl rfl rfl fun v8 h8 H8 => ?_
  have S1 : Sl (fun _ => True) h8 5 [one op].length v8 ([one op].flatMap qe) := by simpa using H8.sl .here
  refine vo (H8.sel (P := xn lv l) e_2) S1 (by simp; omega) fun v9 h9 H9 => ?_
  refine qf (n := 1) (l := [.int .i64 op]) (sz := 1) H9 rfl rfl rfl rfl fun v10 h10 H10 => ?_
  refine je (H10.sel (P := qz 3 1 (jD l st).length ov ((jD l st).map (.int .i64))) e_4) (H10.sl .here) (by omega) (by omega) rfl fun v11 h11 H11 => ?_
  obtain ⟨B2, ho2⟩ := B.begin hop hs5
  refine hj _ _ ⟨l ++ [one op], st ++ [(l.length : Int)], v9, v11, rfl, B2, ?_, by simp; omega, by simp, ?_⟩
  ·intro o ho
   rw [ho2] at ho
   rcases List.mem_append.1 ho with ho | ho
   ·exact OK o ho
   ·rw [List.mem_singleton] at ho; omega
  ·rw [ho2]
   unfold Qy
   rw [List.length_append, List.map_append]
   exact H11.sub (.cons e_2 (.cons .here (.drop (.drop (.drop (.cons .here .refl))))))
 have shu : 0 < st.length → wp (jf (callT tab qA k) (.fn 57 [] []) [lv, ov] h5 fun v98 h99 => zr v98 0 fun v100 => zr v98 1 fun v101 => j (.int .i64 (i : Int), v101, v100, .ptr b0 0, .bool calm, .int .i64 most, kv, ()) h99 []) (fun r h' => ∃ lv l, r = .agg [lv] ∧ Bld calm l [] ∧ 0 < l.length ∧ (l.length : Int) ≤ most ∧ HS g h' (xn lv l :: R)) := by
  intro hp
  have hne := List.length_pos_iff.1 hp
  refine qY (UP (by omega) B hne (OK.at hne) (by omega) (H5.sub (L' := xn lv l :: Qy ov (jD l st) :: qw b3 (qe kx) :: qw b0 [.nils] :: R) (.cons e_1 (.cons e_1 (.cons .here (.cons .here .refl)))))) ?_
  rintro _ h7 ⟨lv', ov', rfl, H7⟩
  obtain ⟨B2, hops⟩ := B.shut hne (OK.at hne)
  have hsl : (k6 l st).length ≤ st.length := by unfold k6; split <;> simp <;> omega
  refine qx rfl (qx rfl ?_)
  refine hj _ _ ⟨_, _, lv', ov', rfl, B2, ?_, by rw [Xq]; omega, by rw [Xq]; omega, H7.sub (.cons .here (.cons .here (.drop (.cons .here .refl))))⟩
  intro o ho
  rw [hops] at ho
  rcases List.mem_append.1 ho with ho | ho
  ·exact OK o ((List.dropLast_sublist _).subset ho)
  ·split at ho
   ·rw [List.mem_singleton] at ho; omega
   ·cases ho
 have und : opM l st = 14 → wp (j0 h5 28 [(.int .i64 ((0 : Nat) : Int)), (.int .i64 ((0 : Nat) : Int)), (.int .i64 ((0 : Nat) : Int)), (.int .i64 ((0 : Nat) : Int)), (.int .u64 ((0 : Nat) : Int))] 1 [(0, 5, .agg (qe (one 16)))] fun v8 h8 => zQ h8 28 5 lv v8 fun v9 h9 => j (.int .i64 (i : Int), ov, v9, .ptr b0 0, .bool calm, .int .i64 most, kv, ()) h9 []) (fun r h' => ∃ lv l, r = .agg [lv] ∧ Bld calm l [] ∧ 0 < l.length ∧ (l.length : Int) ≤ most ∧ HS g h' (xn lv l :: R)) := by
  intro h14
  refine qf (n := 1) (l := qe (one 16)) (sz := 5) H5 rfl rfl rfl rfl fun v8 h8 H8 => ?_
  have S1 : Sl (fun _ => True) h8 5 [one 16].length v8 ([one 16].flatMap qe) := by simpa using H8.sl .here
  refine vo (H8.sel (P := xn lv l) e_2) S1 (by simp; omega) fun v9 h9 H9 => ?_
  refine hj _ _ ⟨l ++ [one 16], st, v9, ov, rfl, B.undo h14, same, by simp; omega, by simp, ?_⟩
  rw [hsame]
  exact H9.sub (.cons .here (.drop (.drop (.cons .here (.cons .here .refl)))))
 have pair : ∀ (x y : qM) (h7 : AH), HS g h7 (qw b3 (qe kx) :: xn lv l :: Qy ov (jD l st) :: qw b0 [.nils] :: R) → Bld calm (l ++ [x, y]) st → (l.length : Int) + 2 * st.length + 5 ≤ most → wp (j0 h7 28 [(.int .i64 ((0 : Nat) : Int)), (.int .i64 ((0 : Nat) : Int)), (.int .i64 ((0 : Nat) : Int)), (.int .i64 ((0 : Nat) : Int)), (.int .u64 ((0 : Nat) : Int))] 2 [(0, 5, .agg (qe x)), (5, 5, .agg (qe y))] fun v8 h8 =>
   zQ h8 28 5 lv v8 fun v9 h9 => j (.int .i64 (i : Int), ov, v9, .ptr b0 0, .bool calm, .int .i64 most, kv, ()) h9 []) (fun r h' => ∃ lv l, r = .agg [lv] ∧ Bld calm l [] ∧ 0 < l.length ∧ (l.length : Int) ≤ most ∧ HS g h' (xn lv l :: R)) := by
  intro x y h7 H7 B7 hm7
  refine qf (n := 2) (l := qe x ++ qe y) (sz := 5) H7 rfl rfl rfl rfl fun v8 h8 H8 => ?_
  have S1 : Sl (fun _ => True) h8 5 [x, y].length v8 ([x, y].flatMap qe) := by simpa using H8.sl .here
  refine vo (H8.sel (P := xn lv l) e_2) S1 (by simp; omega) fun v9 h9 H9 => ?_
  refine hj _ _ ⟨l ++ [x, y], st, v9, ov, rfl, B7, same, by simp; omega, by simp, ?_⟩
  rw [hsame]
  exact H9.sub (.cons .here (.drop (.drop (.cons .here (.cons .here .refl)))))
 have zer : ∀ r : Int, 0 ≤ r ∧ r ≤ 6 → JV calm (13, r, 0, ((l.length : Int) + ((2 : Nat) : Int)), 0) := fun r hr => ⟨qQP (by omega) (by omega), by show (13 : Int) ≠ 23; decide, by show (0 : Int) ≤ 0 ∧ (0 : Int) < 18446744073709551616; decide, fun _ => by show (13 : Int) ≠ 20 ∧ (13 : Int) ≠ 22 ∧ (13 : Int) ≠ 12; decide⟩
 have two : ∀ op : Int, op = 20 ∨ op = 22 → calm = false → wp (jf (callT tab qA k) (.fn 58 [] []) [.int .i64 kx.2.1] h5 fun v131 h132 => xA lv fun v133 => jZ .add v133 (.int .i64 ((2 : Nat) : Int)) fun v134 =>
   jS [(.int .i64 ((0 : Nat) : Int)), (.int .i64 ((0 : Nat) : Int)), (.int .i64 ((0 : Nat) : Int)), (.int .i64 ((0 : Nat) : Int)), (.int .u64 ((0 : Nat) : Int))] [(0, 1, (.int .i64 ((13 : Nat) : Int))), (1, 1, v131), (3, 1, v134)] fun v135 => jS [(.int .i64 ((0 : Nat) : Int)), (.int .i64 ((0 : Nat) : Int)), (.int .i64 ((0 : Nat) : Int)), (.int .i64 ((0 : Nat) : Int)), (.int .u64 ((0 : Nat) : Int))] [(0, 1, (.int .i64 op))] fun v136 =>
   j0 h132 28 [(.int .i64 ((0 : Nat) : Int)), (.int .i64 ((0 : Nat) : Int)), (.int .i64 ((0 : Nat) : Int)), (.int .i64 ((0 : Nat) : Int)), (.int .u64 ((0 : Nat) : Int))] 2 [(0, 5, v135), (5, 5, v136)] fun v8 h8 => zQ h8 28 5 lv v8 fun v9 h9 => j (.int .i64 (i : Int), ov, v9, .ptr b0 0, .bool calm, .int .i64 most, kv, ()) h9 []) (fun r h' => ∃ lv l, r = .agg [lv] ∧ Bld calm l [] ∧ 0 < l.length ∧ (l.length : Int) ≤ most ∧ HS g h' (xn lv l :: R)) := by
  intro op hop hcal
  refine qY (ka (by omega)) ?_
  rintro _ h5 ⟨rfl, rfl⟩
  have hr := jo kx.2.1 (show (0 : Int) ≤ 6 by omega)
  refine qd (n := l.length) H6 e_1 (qD (by omega) ?_)
  refine qF (l := qe (13, jd kx.2.1 0 6, 0, ((l.length : Int) + ((2 : Nat) : Int)), 0)) rfl ?_
  refine qF (l := qe (one op)) rfl ?_
  refine pair _ _ _ H5 (B.two (zer _ hr) ⟨by rcases hop with rfl | rfl <;> decide, by dsimp only; omega, by show (0 : Int) ≤ 0 ∧ (0 : Int) < 18446744073709551616; decide, fun hh => by rw [hcal] at hh; cases hh⟩ (by show Flat 13; unfold Flat; decide) (by unfold Flat; dsimp only; omega) (fun _ => rfl) (fun hh => by dsimp only at hh; omega)) (by omega)
 have ovr : wp (zN (α := AV × AV × AV × AV × AV × AV × AV × Unit → AH → Go.Ae.R) (fun s180 h181 => j (s180.1, s180.2.1, s180.2.2.1, s180.2.2.2.1, s180.2.2.2.2.1, s180.2.2.2.2.2.1, s180.2.2.2.2.2.2.1, ()) h181 []) fun j182 =>
   jf (callT tab qA k) (.fn 58 [] []) [.int .i64 kx.2.2.1] h5 fun v185 h186 => xA lv fun v187 => jZ .add v187 (.int .i64 ((2 : Nat) : Int)) fun v188 =>
   jS [(.int .i64 ((0 : Nat) : Int)), (.int .i64 ((0 : Nat) : Int)), (.int .i64 ((0 : Nat) : Int)), (.int .i64 ((0 : Nat) : Int)), (.int .u64 ((0 : Nat) : Int))] [(0, 1, (.int .i64 ((13 : Nat) : Int))), (1, 1, v185), (3, 1, v188)] fun v189 => ji h186 (.ptr b3 0) 5 fun v190 => jf (callT tab qA k) (.fn 59 [] []) [v190] h186 fun v191 h192 =>
   j0 h192 28 [(.int .i64 ((0 : Nat) : Int)), (.int .i64 ((0 : Nat) : Int)), (.int .i64 ((0 : Nat) : Int)), (.int .i64 ((0 : Nat) : Int)), (.int .u64 ((0 : Nat) : Int))] 2 [(0, 5, v189), (5, 5, v191)] fun v193 h194 => zQ h194 28 5 lv v193 fun v195 h196 =>
   wT (.ptr b3 0) (some 5) v190 h5 h186 h5.nx <| j182 (.int .i64 (i : Int), ov, v195, .ptr b0 0, .bool calm, .int .i64 most, kv, ()) h196) (fun r h' => ∃ lv l, r = .agg [lv] ∧ Bld calm l [] ∧ 0 < l.length ∧ (l.length : Int) ≤ most ∧ HS g h' (xn lv l :: R)) := by
  refine qX ?_
  try dsimp only
  refine qY (ka (by omega)) ?_
  rintro _ h5 ⟨rfl, rfl⟩
  have hr := jo kx.2.2.1 (show (0 : Int) ≤ 6 by omega)
  refine qd (n := l.length) H6 e_1 (qD (by omega) ?_)
  refine qF (l := qe (13, jd kx.2.2.1 0 6, 0, ((l.length : Int) + ((2 : Nat) : Int)), 0)) rfl ?_
  refine qh H5 (b := b3) (off := 0) .here rfl (by omega) (l := qe kx) rfl ?_
  refine qY (QI (by omega) hNi H5) ?_
  rintro _ h7 ⟨x, rfl, hx, H7⟩
  refine qf (n := 2) (l := qe (13, jd kx.2.2.1 0 6, 0, ((l.length : Int) + ((2 : Nat) : Int)), 0) ++ qe x) (sz := 5) H7 rfl rfl rfl rfl fun v8 h8 H8 => ?_
  have S1 : Sl (fun _ => True) h8 5 [((13, jd kx.2.2.1 0 6, 0, ((l.length : Int) + ((2 : Nat) : Int)), 0) : qM), x].length v8 ([((13, jd kx.2.2.1 0 6, 0, ((l.length : Int) + ((2 : Nat) : Int)), 0) : qM), x].flatMap qe) := by simpa using H8.sl .here
  refine vo (H8.sel (P := xn lv l) e_2) S1 (by simp; omega) fun v9 h9 H9 => ?_
  refine zt H5 (b := b3) .here rfl H5 .here rfl rfl (by omega) (HS.lt H5 .here) ?_
  refine hj _ _ ⟨_, st, v9, ov, rfl, B.two (zer _ hr) (hx.ok calm) (by show Flat 13; unfold Flat; decide) hx.flat (fun _ => rfl) (fun hh => by have := hx.nj; omega), same, by simp; omega, by simp, ?_⟩
  rw [hsame]
  exact H9.sub (.cons .here (.drop (.drop (.cons .here (.cons .here .refl)))))
 have bak : calm = false → wp (zN (α := AV × AV × AV × AV × AV × AV × AV × Unit → AH → Go.Ae.R) (fun s180 h181 => j (s180.1, s180.2.1, s180.2.2.1, s180.2.2.2.1, s180.2.2.2.2.1, s180.2.2.2.2.2.1, s180.2.2.2.2.2.2.1, ()) h181 []) fun j182 =>
   ji h5 (.ptr b3 0) 5 fun v205 => jf (callT tab qA k) (.fn 59 [] []) [v205] h5 fun v206 h207 => qa (.ptr b3 0) 2 fun v208 => qm h207 v208 fun v209 =>
   jf (callT tab qA k) (.fn 58 [] []) [v209] h207 fun v210 h211 => xA lv fun v212 =>
   jS [(.int .i64 ((0 : Nat) : Int)), (.int .i64 ((0 : Nat) : Int)), (.int .i64 ((0 : Nat) : Int)), (.int .i64 ((0 : Nat) : Int)), (.int .u64 ((0 : Nat) : Int))] [(0, 1, (.int .i64 ((13 : Nat) : Int))), (1, 1, v210), (3, 1, v212)] fun v213 =>
   j0 h211 28 [(.int .i64 ((0 : Nat) : Int)), (.int .i64 ((0 : Nat) : Int)), (.int .i64 ((0 : Nat) : Int)), (.int .i64 ((0 : Nat) : Int)), (.int .u64 ((0 : Nat) : Int))] 2 [(0, 5, v206), (5, 5, v213)] fun v214 h215 => zQ h215 28 5 lv v214 fun v216 h217 =>
   wT v208 none v209 h5 h207 h5.nx <| j182 (.int .i64 (i : Int), ov, v216, .ptr b0 0, .bool calm, .int .i64 most, kv, ()) h217) (fun r h' => ∃ lv l, r = .agg [lv] ∧ Bld calm l [] ∧ 0 < l.length ∧ (l.length : Int) ≤ most ∧ HS g h' (xn lv l :: R)) := by
  intro hcal
  refine qX ?_
  try dsimp only
  refine qh H5 (b := b3) (off := 0) .here rfl (by omega) (l := qe kx) rfl ?_
  refine qY (QI (by omega) hNi H5) ?_
  rintro _ h7 ⟨x, rfl, hx, H7⟩
  refine qJ (qG H7 (b := b3) .here rfl ?_)
  refine qY (ka (by omega)) ?_
  rintro _ h7 ⟨rfl, rfl⟩
  have hr := jo kx.2.2.1 (show (0 : Int) ≤ 6 by omega)
  have H7' : HS g h7 (qw b3 (qe kx) :: qz 28 5 l.length lv (l.flatMap qe) :: Qy ov (jD l st) :: qw b0 [.nils] :: R) := H7
  refine qd (n := l.length) H7' e_1 ?_
  refine qF (l := qe (13, jd kx.2.2.1 0 6, 0, (l.length : Int), 0)) rfl ?_
  refine qf (n := 2) (l := qe x ++ qe (13, jd kx.2.2.1 0 6, 0, (l.length : Int), 0)) (sz := 5) H7 rfl rfl rfl rfl fun v8 h8 H8 => ?_
  have S1 : Sl (fun _ => True) h8 5 [x, ((13, jd kx.2.2.1 0 6, 0, (l.length : Int), 0) : qM)].length v8 ([x, ((13, jd kx.2.2.1 0 6, 0, (l.length : Int), 0) : qM)].flatMap qe) := by simpa using H8.sl .here
  refine vo (H8.sel (P := xn lv l) e_2) S1 (by simp; omega) fun v9 h9 H9 => ?_
  refine jc H5 (b := b3) .here rfl H7 .here rfl (HS.lt H5 .here) ?_
  refine hj _ _ ⟨l ++ [x, (13, jd kx.2.2.1 0 6, 0, (l.length : Int), 0)], st, v9, ov, rfl, B.two (hx.ok calm) ⟨qQP (by omega) (by omega), by show (13 : Int) ≠ 23; decide, by show (0 : Int) ≤ 0 ∧ (0 : Int) < 18446744073709551616; decide, fun _ => by show (13 : Int) ≠ 20 ∧ (13 : Int) ≠ 22 ∧ (13 : Int) ≠ 12; decide⟩ hx.flat (by show Flat 13; unfold Flat; decide) (fun hh => by have := hx.nj; omega) (fun _ => ⟨rfl, hcal⟩), same, by simp; omega, by simp, ?_⟩
  rw [hsame]
  exact H9.sub (.cons .here (.drop (.drop (.cons .here (.cons .here .refl)))))
 have hd : (w = 20 ∧ st.length < 5) ∨ (w = 20 ∧ ¬ st.length < 5) ∨ (w = 21 ∧ st.length < 5) ∨ (w = 21 ∧ ¬ st.length < 5) ∨ (w = 22 ∧ st.length < 5) ∨ (w = 22 ∧ ¬ st.length < 5) ∨ (w = 23 ∧ 0 < st.length) ∨ (w = 23 ∧ ¬ 0 < st.length) ∨ (w = 24 ∧ 0 < st.length) ∨ (w = 24 ∧ ¬ 0 < st.length) ∨ (w = 25 ∧ 0 < st.length) ∨ (w = 25 ∧ ¬ 0 < st.length) ∨ (w = 26 ∧ calm = true) ∨ (w = 26 ∧ calm = false ∧ 0 < st.length) ∨ (w = 26 ∧ calm = false ∧ ¬ 0 < st.length) ∨ (w = 27 ∧ calm = true) ∨ (w = 27 ∧ calm = false ∧ 0 < st.length) ∨ (w = 27 ∧ calm = false ∧ ¬ 0 < st.length) ∨ (w = 28 ∧ calm = true) ∨ (w = 28 ∧ calm = false) ∨ (w = 29 ∧ calm = true) ∨ (w = 29 ∧ calm = false) ∨ (w = 30) ∨ (w = 31) ∨ (w = 32 ∧ calm = true) ∨ (w = 32 ∧ calm = false) ∨ (w < 20 ∨ 32 < w) := by
  cases calm <;> simp only [reduceCtorEq, and_true, true_and, and_false, false_and, or_false, false_or] <;> omega
 rcases hd with ⟨hw1, hs1⟩ | ⟨hw1, hs1⟩ | ⟨hw1, hs1⟩ | ⟨hw1, hs1⟩ | ⟨hw1, hs1⟩ | ⟨hw1, hs1⟩ | ⟨hw1, hs1⟩ | ⟨hw1, hs1⟩ | ⟨hw1, hs1⟩ | ⟨hw1, hs1⟩ | ⟨hw1, hs1⟩ | ⟨hw1, hs1⟩ | ⟨hw1, rfl⟩ | ⟨hw1, rfl, hs1⟩ | ⟨hw1, rfl, hs1⟩ | ⟨hw1, rfl⟩ | ⟨hw1, rfl, hs1⟩ | ⟨hw1, rfl, hs1⟩ | ⟨hw1, rfl⟩ | ⟨hw1, rfl⟩ | ⟨hw1, rfl⟩ | ⟨hw1, rfl⟩ | hw1 | hw1 | ⟨hw1, rfl⟩ | ⟨hw1, rfl⟩ | hw1
 all_goals repeat (first | with_reducible refine qK (by omega) ?_ | with_reducible refine qy (by omega) ?_ | (with_reducible refine qX ?_; try dsimp only) | (with_reducible refine qR ?_; try dsimp only) | (with_reducible refine qS ?_; try dsimp only) | (with_reducible refine qO ?_; try dsimp only) | (with_reducible refine qB ?_; try dsimp only) | with_reducible refine qC ?_ | with_reducible refine qv ?_ | with_reducible refine qV ?_ | with_reducible refine qQ ?_ | with_reducible refine jC (by omega) ?_ | with_reducible refine jv (by omega) ?_ | with_reducible refine jl (by omega) ?_ | with_reducible refine ja (by omega) ?_ | with_reducible refine qo ?_ | with_reducible refine jq ?_ | with_reducible refine qb (by omega) ?_ | with_reducible refine qJ ?_ | (with_reducible refine jW ?_; try dsimp only) | with_reducible refine qG H6 .here rfl ?_ | with_reducible refine qF rfl ?_)
 ·exact beg 14 (.inl rfl) (by omega)
 ·exact dflt
 ·exact beg 17 (.inr rfl) (by omega)
 ·exact dflt
 ·exact beg 17 (.inr rfl) (by omega)
 ·exact dflt
 ·exact shu (by omega)
 ·exact dflt
 ·exact shu (by omega)
 ·exact dflt
 ·rw [show (st.length : Int) - ((1 : Nat) : Int) = ((st.length - 1 : Nat) : Int) by omega]
  refine jF (H6.sl e_2) (x := .int .i64 (opM l st)) (by rw [List.getElem?_map, VE (List.length_pos_iff.1 hs1)]; rfl) ?_
  by_cases h14 : opM l st = 14
  ·refine qy h14 ?_
   with_reducible (refine qC ?_; refine qV ?_; refine qF rfl ?_)
   exact und h14
  ·refine qK h14 ?_
   with_reducible (refine qC ?_; refine qQ ?_; refine qK (by omega) ?_; refine qX ?_; (try dsimp only); refine qB ?_; (try dsimp only); refine qK (by omega) ?_; refine qv ?_; refine qX ?_; (try dsimp only); refine qO ?_; (try dsimp only); refine qv ?_; refine qX ?_; (try dsimp only); refine qO ?_; (try dsimp only); refine qv ?_; refine qQ ?_; refine qK (by omega) ?_; refine qX ?_; (try dsimp only); refine qO ?_; (try dsimp only); refine qv ?_; refine qQ ?_; refine qK (by omega) ?_; refine qX ?_; (try dsimp only); refine qO ?_; (try dsimp only); refine qv ?_; refine qQ ?_; refine qK (by omega) ?_; refine qX ?_; (try dsimp only); refine qB ?_; (try dsimp only); refine qK (by omega) ?_; refine qv ?_; refine qQ ?_; refine qK (by omega) ?_; refine qX ?_; (try dsimp only); refine qO ?_; (try dsimp only); refine qv ?_; refine qQ ?_)
   exact dflt
 ·exact dflt
 ·exact dflt
 ·exact two 20 (.inl rfl) rfl
 ·exact dflt
 ·exact dflt
 ·exact two 20 (.inl rfl) rfl
 ·exact dflt
 ·exact dflt
 ·exact two 20 (.inl rfl) rfl
 ·exact dflt
 ·exact two 22 (.inr rfl) rfl
 ·exact ovr
 ·exact ovr
 ·exact dflt
 ·exact bak rfl
 ·exact dflt
end Go.Proofs.YtdlfmpmpmkffjaaGreatDoor
namespace Go.Proofs.YtdlfmpmpmkffjaaGreatDoor
open Go Go.Ae
set_option maxRecDepth 100000
variable {g h : AH} {L R : List SP}
theorem Uj {zs : List Int} {m : Int} (hz : ∀ z ∈ zs, 0 ≤ z ∧ z < 18446744073709551616) : jT (zz zs m) := by
 refine ⟨NG zs m, ?_, ?_⟩
 ·intro c hc
  obtain ⟨i, _, rfl⟩ := List.mem_map.1 hc
  show 0 ≤ zU zs (i + 1) ∧ zU zs (i + 1) < 18446744073709551616
  unfold zU
  cases hzi : zs[i + 1]? with
  | none => simp
  | some z => exact hz z (List.mem_of_getElem? hzi)
 ·intro x hx
  simp [zz] at hx
  subst hx
  intro c hc; cases hc
theorem qZR {s : List UInt8} {K : AV → Go.Ae.R} {Q : AV → AH → Prop} (w : wp (K (.bool true)) Q) : wp (kp .eql (.str s) (.str s) K) Q := by
 show wp (K (.bool (seq? s s))) Q
 rw [Uc]
 exact w
theorem KY {l : List qM} {zs : List Int} {m : Int} (hz : OkN zs) : GI l Jp (zz zs m) := qZ8 rfl (Uj hz)
theorem Jy (zs : List Int) (m : Int) : frS (zz zs m).lv = 0 := by simp [zz, frS]
section
variable {x y v u : Nat} {l l' : List qM} {b b' : Int} {mt mt' : List Int} {s s' : IM} {e e' f f' n1 n2 nx nx' : Int} {V W : VM}
end
end Go.Proofs.YtdlfmpmpmkffjaaGreatDoor
namespace Go.Proofs.YtdlfmpmpmkffjaaGreatDoor
open Go Go.Ae
set_option maxRecDepth 100000
variable {g h : AH} {L R : List SP}
section
variable {x v y o : Nat} {sv : AV} {l : List qM} {mt mt' : List Int} {s : IM} {err fin left nx kind : Int}
end
end Go.Proofs.YtdlfmpmpmkffjaaGreatDoor
namespace Go.Proofs.YtdlfmpmpmkffjaaGreatDoor.arenaPlays
open Go Go.Ae
set_option maxRecDepth 100000
variable {g h : AH} {L R : List SP}
end Go.Proofs.YtdlfmpmpmkffjaaGreatDoor.arenaPlays
namespace Go.Proofs.YtdlfmpmpmkffjaaGreatDoor
open Go Go.Ae
set_option maxRecDepth 100000
variable {g h : AH} {L R : List SP}
def wX (zs : List Int) : List Int := (List.range (szZ zs.length)).map fun i => if i = 0 then 0 else zU zs i
def wV (l : List Int) (c : Cl) : List Int := if 1 ≤ c.1 ∧ c.1 < l.length then l.set c.1.toNat c.2 else l
def zw (zs : List Int) (cs : List Cl) : List Int := cs.foldl wV (wX zs)
theorem qQn (l : List Int) (c : Cl) : (wV l c).length = l.length := by unfold wV; split <;> simp
theorem Md {l : List Int} {c : Cl} (h : 1 ≤ c.1 ∧ c.1 < l.length) : wV l c = l.set c.1.toNat c.2 := if_pos h
theorem O3 {l : List Int} {c : Cl} (h : ¬ (1 ≤ c.1 ∧ c.1 < l.length)) : wV l c = l := if_neg h
theorem JA : ∀ (cs : List Cl) (l : List Int), (cs.foldl wV l).length = l.length := by
 intro cs
 induction cs with
 | nil => intro l; rfl
 | cons c cs ih => intro l; rw [List.foldl_cons, ih, qQn]
theorem GX (zs : List Int) : (wX zs).length = szZ zs.length := by simp [wX]
theorem XM (zs : List Int) (cs : List Cl) : (zw zs cs).length = szZ zs.length := by unfold zw; rw [JA, GX]
theorem qXI (zs : List Int) : ∀ i, i ≤ szZ zs.length - 1 → ((kW zs).take i).foldl wV (List.replicate (szZ zs.length) 0) = (List.range (szZ zs.length)).map fun j => if j = 0 ∨ i < j then 0 else zU zs j := by
 intro i
 induction i with
 | zero =>
  intro _
  rw [List.take_zero, List.foldl_nil]
  apply List.ext_getElem?
  intro j
  by_cases hj : j < szZ zs.length
  ·rw [List.getElem?_replicate, if_pos hj, List.getElem?_map, List.getElem?_range hj, Option.map_some, if_pos (by omega)]
  ·rw [List.getElem?_eq_none (by simp; omega), List.getElem?_eq_none (by simp; omega)]
 | succ i ih =>
  intro hi
  have hk := JO zs (show i + 1 < szZ zs.length by omega)
  rw [List.take_add_one, hk, Option.toList_some, List.foldl_append, ih (by omega)]
  show wV _ _ = _
  unfold wV
  rw [if_pos ⟨by show 1 ≤ ((i + 1 : Nat) : Int); omega, by show ((i + 1 : Nat) : Int) < _; simp; omega⟩]
  apply List.ext_getElem?
  intro j
  rw [List.getElem?_set]
  by_cases hj : j < szZ zs.length
  ·by_cases h1 : ((i + 1 : Nat) : Int).toNat = j
   ·rw [if_pos h1, if_pos (by simp; omega), List.getElem?_map, List.getElem?_range hj, Option.map_some, if_neg (by omega)]
    rw [show j = i + 1 by omega]
   ·rw [if_neg h1, List.getElem?_map, List.getElem?_map, List.getElem?_range hj, Option.map_some, Option.map_some]
    by_cases h2 : j = 0 ∨ i < j
    ·rw [if_pos h2, if_pos (by omega)]
    ·rw [if_neg h2, if_neg (by omega)]
  ·rw [if_neg (by omega), List.getElem?_eq_none (by simp; omega), List.getElem?_eq_none (by simp; omega)]
theorem Gk {n : Nat} (hn : 5 ≤ n) {zs : List Int} {cs : List Cl} {a0 c : AV} (H : HS g h R) (S : Rd g R 1 zs.length a0 (zs.map (.int .u64))) (S1 : Rd g R 2 cs.length c (cs.flatMap jJ)) (hc : cs.length < 100000) :
  wp (callT tab qA n (.fn 80 [] []) [a0, c] h) fun r h' => ∃ e, HS g h' (qz e 1 (zw zs cs).length r ((zw zs cs).map (.int .u64)) :: R) := by
 (refine qP (g := (tD2 S80)) rfl (by omega) fun k hk => ?_; show wp (S80 (callT tab qA k) _ _ _).1 _; unfold S80; try simp only [ Int.ofNat_eq_natCast])
 have hb := Yh (zs.length : Int)
 refine qY (Yx (by omega) H S) ?_
 rintro _ h1 ⟨o, rfl, H⟩
 obtain ⟨kv, q, H⟩ := RvC.E H
 have H : HS g h1 (qw o [.int .i64 ((szZ zs.length : Nat) : Int), kv, .ptr q 0, .int .i64 0] :: qz 67 2 (kW zs).length kv ((kW zs).flatMap jJ) :: RgC q (zz zs ((0 : Nat) : Int)).most (zz zs ((0 : Nat) : Int)).lv :: R) := H
 with_reducible (refine qq ?_; refine qJ ?_; refine qG (by assumption) .here rfl ?_)
 refine wi H (by omega) fun ov h2 H2 => ?_
 obtain ⟨e, H2⟩ : ∃ e, HS g h2 (qz e 1 (szZ zs.length) ov (List.replicate (szZ zs.length) (.int .u64 ((0 : Nat) : Int))) :: qw o [.int .i64 ((szZ zs.length : Nat) : Int), kv, .ptr q 0, .int .i64 0] :: qz 67 2 (kW zs).length kv ((kW zs).flatMap jJ) :: RgC q (zz zs ((0 : Nat) : Int)).most (zz zs ((0 : Nat) : Int)).lv :: R) := ⟨_, H2⟩
 have hkl := JB zs
 refine jz (fun m s h' => ∃ i : Nat, s = (.int .i64 (i : Int), ov, .ptr o 0, c, ()) ∧ i ≤ szZ zs.length - 1 ∧ m = szZ zs.length - 1 - i ∧ HS g h' (qz e 1 (szZ zs.length) ov ((((kW zs).take i).foldl wV (List.replicate (szZ zs.length) 0)).map (.int .u64)) ::
  qw o [.int .i64 ((szZ zs.length : Nat) : Int), kv, .ptr q 0, .int .i64 0] :: qz 67 2 (kW zs).length kv ((kW zs).flatMap jJ) :: RgC q (zz zs ((0 : Nat) : Int)).most (zz zs ((0 : Nat) : Int)).lv :: R))
  ?_ (m := szZ zs.length - 1) (by show _ < 1000000000; omega) ⟨0, rfl, by omega, by omega, by rw [List.take_zero, List.foldl_nil, List.map_replicate]; exact H2⟩
 clear H H2
 rintro m ih s h3 hih ⟨i, rfl, h1, rfl, H⟩
 dsimp only
 with_reducible (refine qq ?_; refine qJ ?_; refine qG (by assumption) e_1 rfl ?_; refine qd (by assumption) e_2 ?_)
 have hfl : (((kW zs).take i).foldl wV (List.replicate (szZ zs.length) 0)).length = szZ zs.length := by rw [JA, List.length_replicate]
 refine jA (fun hlt => qV ?_) fun hge => qQ ?_
 ·have hi : i < szZ zs.length - 1 := by omega
  have hk := JO zs (show i + 1 < szZ zs.length by omega)
  with_reducible (refine qq ?_; refine qJ ?_; refine qG (by assumption) e_1 rfl ?_)
  refine js (x := .int .i64 ((i + 1 : Nat) : Int)) (H.sl e_2) (by omega) (by omega) (by rw [zD (sz := 2) jJ (fun _ => rfl) _ _ _ (by omega), hk]; rfl) ?_
  with_reducible (refine qq ?_; refine qJ ?_; refine qG (by assumption) e_1 rfl ?_)
  refine js (x := .int .u64 (zU zs (i + 1))) (H.sl e_2) (by omega) (by omega) (by rw [zD (sz := 2) jJ (fun _ => rfl) _ _ _ (by omega), hk]; rfl) ?_
  refine xR H (by omega) ⟨rfl, rfl⟩ fun h4 H4 => ?_
  refine qD (by omega) (hih (szZ zs.length - 1 - (i + 1)) _ _ (by omega) ⟨i + 1, rfl, by omega, rfl, ?_⟩)
  rw [List.take_add_one, hk, Option.toList_some, List.foldl_append]
  show HS g h4 (qz e 1 (szZ zs.length) ov ((wV _ _).map _) :: _)
  rw [Md ⟨by show 1 ≤ ((i + 1 : Nat) : Int); omega, by show ((i + 1 : Nat) : Int) < _; rw [hfl]; omega⟩, List.map_set]
  exact H4
 ·obtain rfl : i = szZ zs.length - 1 := by omega
  have hbase : ((kW zs).take (szZ zs.length - 1)).foldl wV (List.replicate (szZ zs.length) 0) = wX zs := by
   rw [qXI zs _ (Nat.le_refl _)]
   unfold wX
   apply List.map_congr_left
   intro j hj
   rw [List.mem_range] at hj
   by_cases h0 : j = 0
   ·rw [if_pos (.inl h0), if_pos h0]
   ·rw [if_neg (by omega), if_neg h0]
  rw [hbase] at H
  refine jz (fun m s h' => ∃ i : Nat, s = (.int .i64 (i : Int), ov, .ptr o 0, c, ()) ∧ i ≤ cs.length ∧ m = cs.length - i ∧ HS g h' (qz e 1 (szZ zs.length) ov (((cs.take i).foldl wV (wX zs)).map (.int .u64)) ::
   qw o [.int .i64 ((szZ zs.length : Nat) : Int), kv, .ptr q 0, .int .i64 0] :: qz 67 2 (kW zs).length kv ((kW zs).flatMap jJ) :: RgC q (zz zs ((0 : Nat) : Int)).most (zz zs ((0 : Nat) : Int)).lv :: R))
   ?_ (m := cs.length) (by show _ < 1000000000; omega) ⟨0, rfl, by omega, by omega, H⟩
  clear H hih hfl
  rintro m ih s h3 hih ⟨i, rfl, h1, rfl, H⟩
  dsimp only
  have Sc := S1.sl H.drop.drop.drop.drop
  have hfl : ((cs.take i).foldl wV (wX zs)).length = szZ zs.length := by rw [JA, GX]
  refine jb Sc ?_
  refine jA (fun hlt => qV ?_) fun hge => qQ (qj (qW ?_))
  ·have hi : i < cs.length := by omega
   have hci : cs[i]? = some cs[i] := List.getElem?_eq_getElem hi
   have hcf : ∀ f, f < 2 → (cs.flatMap jJ)[i * 2 + f]? = [AV.int .i64 cs[i].1, AV.int .u64 cs[i].2][f]? := by
    intro f hf
    rw [zD (sz := 2) jJ (fun _ => rfl) _ _ _ hf, hci]; rfl
   have hnext : (cs.take (i + 1)).foldl wV (wX zs) = wV ((cs.take i).foldl wV (wX zs)) cs[i] := by
    rw [List.take_succ_eq_append_getElem hi, List.foldl_append]; rfl
   refine qX ?_
   refine js (x := .int .i64 cs[i].1) Sc (by omega) hi (hcf 0 (by omega)) ?_
   have HV : HS g h3 (RvC o (zz zs ((0 : Nat) : Int)) :: qz e 1 (szZ zs.length) ov (((cs.take i).foldl wV (wX zs)).map (.int .u64)) :: R) := RvC.I (kv := kv) (q := q) (H.sub (.cons e_1 (.cons e_1 (.cons e_1 (.cons .here .refl)))))
   refine qY (J5 (by omega) HV) ?_
   rintro _ h3 ⟨rfl, rfl⟩
   by_cases hin : 1 ≤ cs[i].1 ∧ cs[i].1 < ((szZ zs.length : Nat) : Int)
   ·rw [decide_eq_true (show 1 ≤ cs[i].1 ∧ cs[i].1 < ((zz zs ((0 : Nat) : Int)).sz : Int) from hin)]
    refine qV ?_
    refine js (x := .int .i64 cs[i].1) Sc (by omega) hi (hcf 0 (by omega)) ?_
    refine js (x := .int .u64 cs[i].2) Sc (by omega) hi (hcf 1 (by omega)) ?_
    obtain ⟨p, hp⟩ : ∃ p : Nat, cs[i].1 = (p : Int) := ⟨cs[i].1.toNat, by omega⟩
    rw [hp]
    refine xR H (by omega) ⟨rfl, rfl⟩ fun h4 H4 => ?_
    refine qD (by omega) (hih (cs.length - (i + 1)) _ _ (by omega) ⟨i + 1, rfl, by omega, rfl, ?_⟩)
    rw [hnext]
    rw [Md (by rw [hfl]; exact hin), List.map_set, hp]
    exact H4
   ·rw [decide_eq_false (show ¬ (1 ≤ cs[i].1 ∧ cs[i].1 < ((zz zs ((0 : Nat) : Int)).sz : Int)) from hin)]
    refine qQ (qD (by omega) (hih (cs.length - (i + 1)) _ _ (by omega) ⟨i + 1, rfl, by omega, rfl, ?_⟩))
    rw [hnext]
    rw [O3 (by rw [hfl]; exact hin)]
    exact H
  ·obtain rfl : i = cs.length := by omega
   rw [List.take_length] at H
   have ha : cs.foldl wV (wX zs) = zw zs cs := rfl
   rw [ha] at H
   rw [XM]
   exact ⟨e, H.sub (.cons .here (.drop (.drop (.drop .refl))))⟩
def Oy (zs : List Int) (m : Int) (C : List Cl) (F : List Int) : VM := { zz zs m with lv := [(C, F)] }
structure FullS (zs : List Int) (T c i : Nat) : Prop where
  len : zs.length = T
  lo : 32 ≤ T
  hi : T ≤ 256
  cls : 1 ≤ c ∧ c ≤ 4
  nn : ∀ z ∈ zs, 0 ≤ z ∧ z < 18446744073709551616
  head : zU zs c = 0
  bump : zU zs 5 = 14 + (i : Int) * (xY c + 1)
  hdr : ∀ j, j < i → ∀ p : Nat, (p : Int) = 14 + (j : Int) * (xY c + 1) → zU zs p = (c : Int) + 8
end Go.Proofs.YtdlfmpmpmkffjaaGreatDoor
namespace Go.Proofs.YtdlfmpmpmkffjaaGreatDoor.arenaFull
open Go Go.Ae arenaPlays
set_option maxRecDepth 100000
variable {g h : AH} {L R : List SP}
end Go.Proofs.YtdlfmpmpmkffjaaGreatDoor.arenaFull
namespace Go.Proofs.YtdlfmpmpmkffjaaGreatDoor
open Go Go.Ae
set_option maxRecDepth 100000
def xB (n : Nat) : Nat := max 32 (min n 256)
def yU (zs : List Int) : List Int := (List.range (xB zs.length)).map fun i => if i = 0 then 0 else zs[i]?.getD 0
def ky (l : List Int) (c : Int × Int) : List Int := if 1 ≤ c.1 ∧ c.1 < l.length then l.set c.1.toNat c.2 else l
def JE (zs : List Int) (cs : List (Int × Int)) : List Int := cs.foldl ky (yU zs)
theorem Zh (l : List Int) (c : Int × Int) : (ky l c).length = l.length := by unfold ky; split <;> simp
theorem Ya (cs : List (Int × Int)) : ∀ l : List Int, (cs.foldl ky l).length = l.length := by
 induction cs with
 | nil => intro l; rfl
 | cons c cs ih => intro l; rw [List.foldl_cons, ih, Zh]
theorem Y3 (zs : List Int) : (yU zs).length = xB zs.length := by simp [yU]
theorem Qb (n : Nat) : 32 ≤ xB n ∧ xB n ≤ 256 := by unfold xB; omega
theorem qXE (zs : List Int) : vX (List.replicate (xB zs.length) (AV.int .u64 0)) 1 (((zs.map (AV.int .u64)).drop (min 1 zs.length)).take (min (zs.length - min 1 zs.length) (xB zs.length - 1) * 1)) = (yU zs).map (AV.int .u64) := by
 have hb := Qb zs.length
 have hl : (((zs.map (AV.int .u64)).drop (min 1 zs.length)).take (min (zs.length - min 1 zs.length) (xB zs.length - 1) * 1)).length = min (zs.length - min 1 zs.length) (xB zs.length - 1) := by simp
 apply List.ext_getElem?
 intro i
 rw [Km (by rw [hl, List.length_replicate]; omega), hl]
 by_cases hi : i < xB zs.length
 ·have hr : ((yU zs).map (AV.int .u64))[i]? = some (AV.int .u64 (if i = 0 then 0 else zs[i]?.getD 0)) := by
   simp [yU, List.getElem?_range hi]
  rw [hr]
  split
  ·rename_i h1
   rw [if_neg (by omega), List.getElem?_take_of_lt (by omega), List.getElem?_drop, show min 1 zs.length + (i - 1) = i by omega, List.getElem?_map, List.getElem?_eq_getElem (by omega)]
   rfl
  ·rename_i h1
   rw [List.getElem?_replicate, if_pos hi]
   congr 2
   by_cases h0 : i = 0
   ·rw [if_pos h0]
   ·rw [if_neg h0, List.getElem?_eq_none (by omega)]; rfl
 ·rw [if_neg (by omega), List.getElem?_eq_none (by simp; omega), List.getElem?_eq_none (by simp [yU]; omega)]
theorem OH {D1 D2 : Nat → Prop} {n p q : Nat} (hn : 1 ≤ n) {a0 a1 : AV} {zs : List Int} {cs : List (Int × Int)} {h : AH} (S0 : Sl D1 h 1 p a0 (zs.map (.int .u64))) (hs : shut a0 = true) (hr : Jc a0)
  (S1 : Sl D2 h 2 q a1 (cs.flatMap jJ)) (hp : p < 1000000000) (hq : q < 1000000000) :
  wp (callT tab qA n (.fn 43 [] []) [a0, a1] h) fun v h' => ∃ b e, v = .slice b 0 (xB p) (xB p) false ∧ h.nx ≤ b ∧ Row h' b ((JE zs cs).map (.int .u64)) e false ∧ Old h.nx h h' := by
 have hzl : zs.length = p := by simpa using S0.len
 have hcl : cs.length = q := by
  have := S1.len
  rw [xm (sz := 2) jJ (fun _ => rfl)] at this
  omega
 have hN := Qb p
 (refine qP (g := (tD2 S43)) rfl (by omega) fun k hk => ?_; show wp (S43 (callT tab qA k) _ _ _).1 _; unfold S43; try simp only [ Int.ofNat_eq_natCast])
 refine jb S0 (zx (zg ?_))
 rw [show max ((32 : Nat) : Int) (min (p : Int) ((256 : Nat) : Int)) = ((xB p : Nat) : Int) by unfold xB; omega]
 refine XV (Nat.le_refl _) (by omega) fun b h4 hb A F4 => ?_
 rw [Jq] at A
 refine Jv (hi := xB p) (lo := 1) rfl (zF (by omega)) ?_
 rw [show Nat.beq (xB p) 1 = false from zT (by omega), cond_false]
 have S0' := S0.fr F4 (fun _ _ hf => hf)
 have S1' := S1.fr F4 (fun _ _ hf => hf)
 refine jb S0' (zx ?_)
 rw [show min ((1 : Nat) : Int) (p : Int) = ((min 1 p : Nat) : Int) by omega]
 refine qX1 S0' hs hr (by omega) fun v8 S8 _ _ => ?_
 refine qXa S8 A (by simp; omega) (by omega) ?_ fun h10 A10 F10 hx10 => ?_
 ·unfold q9
  rw [List.all_eq_true]
  intro v hv
  have := List.mem_of_mem_take hv
  have := List.mem_of_mem_drop this
  obtain ⟨z, _, rfl⟩ := List.mem_map.1 this
  rfl
 have e10 := qXE zs
 rw [hzl] at e10
 rw [show ((0 : Nat) + 1 * 1) = 1 from rfl, Nat.mul_one] at A10
 rw [Nat.mul_one] at e10
 obtain ⟨e, A10⟩ : ∃ e, Row h10 b ((yU zs).map (.int .u64)) e false := ⟨_, by rw [← e10]; simpa using A10⟩
 have O10 : Old h.nx h h10 := ((Old.refl h.nx h).step F4 (fun _ hf => hf.elim)).step F10 (by rintro x rfl; exact hb)
 have O4 : Old h.nx h h4 := (Old.refl h.nx h).step F4 (fun _ hf => hf.elim)
 refine jb (S1.old O10) ?_
 refine jz (fun m s g => ∃ i : Nat, s = (.int .i64 (i : Int), .int .i64 (q : Int), a1, .slice b 0 (xB p) (xB p) false, ()) ∧ i ≤ q ∧ m = q - i ∧ Row g b (((cs.take i).foldl ky (yU zs)).map (.int .u64)) e false ∧ Old h.nx h g) ?_ (m := q)
  (by show q < 1000000000; omega) ⟨0, rfl, by omega, by omega, A10, O10⟩
 rintro m ih s g hih ⟨i, rfl, h1, rfl, A, O⟩
 dsimp only
 have S1g := S1.old O
 refine jA (fun hlt => qV ?_) fun hge => qQ (qj (qW ?_))
 ·have hi : i < q := by omega
  refine qX ?_
  refine zJ (l := jJ cs[i]) S1g hi (by omega) ?_ ?_
  ·rw [y9 (sz := 2) jJ (fun _ => rfl), List.drop_eq_getElem_cons (by omega), List.flatMap_cons]; rfl
  refine ZV rfl fun b2 h25 hb2 A2 F2 => ?_
  refine JK A2 rfl (by show 0 + 2 ≤ 2; omega) rfl fun h26 A3 F3 hx3 => ?_
  obtain ⟨e3, A3⟩ : ∃ e3, Row h26 b2 [.int .i64 cs[i].1, .int .u64 cs[i].2] e3 false := ⟨_, A3⟩
  have O26 : Old h.nx h h26 := (O.step F2 (fun _ hf => hf.elim)).step F3 (by rintro x rfl; exact Nat.le_trans O.nx hb2)
  have hbg := A.lt
  have A26 := (A.fr F2 (fun hf => hf)).fr F3 (fun hf : b = b2 => by omega)
  have hlen : ((cs.take i).foldl ky (yU zs)).length = xB p := by rw [Ya, Y3, hzl]
  have next : ∀ g', Row g' b ((ky ((cs.take i).foldl ky (yU zs)) cs[i]).map (.int .u64)) e false → Old h.nx h g' → wp (ih (.int .i64 ((i : Int) + ((1 : Nat) : Int)), .int .i64 (q : Int), a1, .slice b 0 (xB p) (xB p) false, ()) g' []) fun v h' => ∃ b e, v = .slice b 0 (xB p) (xB p) false ∧ h.nx ≤ b ∧ Row h' b ((JE zs cs).map (.int .u64)) e false ∧ Old h.nx h h' := fun g' A' O' =>
   hih (q - (i + 1)) _ _ (by omega) ⟨i + 1, rfl, by omega, rfl, by rw [List.take_succ_eq_append_getElem (by omega), List.foldl_append]; exact A', O'⟩
  refine KW A3 rfl (xW (fun hc1 => ?_) fun hc1 => ?_)
  ·repeat (first | with_reducible refine qV ?_ | with_reducible refine qQ ?_ | (with_reducible refine qR ?_; try dsimp only) | (with_reducible refine qS ?_; try dsimp only) | (with_reducible refine qO ?_; try dsimp only) | (with_reducible refine qB ?_; try dsimp only) | (with_reducible refine jW ?_; try dsimp only) | with_reducible refine qC ?_ | with_reducible refine qv ?_ | (with_reducible refine qX ?_; try dsimp only) | with_reducible refine qj ?_ | with_reducible refine qo ?_ | with_reducible refine jq ?_ | with_reducible refine qD (by omega) ?_ | with_reducible refine qb (by omega) ?_ | with_reducible refine zk (by omega) ?_ | with_reducible refine zy (by omega) ?_ | with_reducible refine zx ?_ | with_reducible refine zg ?_)
   refine KW A3 rfl (qJu (jA (fun hc2 => ?_) fun hc2 => ?_))
   ·repeat (first | with_reducible refine qV ?_ | with_reducible refine qQ ?_ | (with_reducible refine qR ?_; try dsimp only) | (with_reducible refine qS ?_; try dsimp only) | (with_reducible refine qO ?_; try dsimp only) | (with_reducible refine qB ?_; try dsimp only) | (with_reducible refine jW ?_; try dsimp only) | with_reducible refine qC ?_ | with_reducible refine qv ?_ | (with_reducible refine qX ?_; try dsimp only) | with_reducible refine qj ?_ | with_reducible refine qo ?_ | with_reducible refine jq ?_ | with_reducible refine qD (by omega) ?_ | with_reducible refine qb (by omega) ?_ | with_reducible refine zk (by omega) ?_ | with_reducible refine zy (by omega) ?_ | with_reducible refine zx ?_ | with_reducible refine zg ?_)
    refine KW A3 rfl (KW A3 rfl ?_)
    obtain ⟨j, hj⟩ : ∃ j : Nat, cs[i].1 = (j : Int) := ⟨cs[i].1.toNat, by omega⟩
    rw [hj]
    refine qZi A26 rfl rfl (by omega) (by simp [hlen]; omega) fun h39 A39 F39 hx39 => ?_
    repeat (first | with_reducible refine qV ?_ | with_reducible refine qQ ?_ | (with_reducible refine qR ?_; try dsimp only) | (with_reducible refine qS ?_; try dsimp only) | (with_reducible refine qO ?_; try dsimp only) | (with_reducible refine qB ?_; try dsimp only) | (with_reducible refine jW ?_; try dsimp only) | with_reducible refine qC ?_ | with_reducible refine qv ?_ | (with_reducible refine qX ?_; try dsimp only) | with_reducible refine qj ?_ | with_reducible refine qo ?_ | with_reducible refine jq ?_ | with_reducible refine qD (by omega) ?_ | with_reducible refine qb (by omega) ?_ | with_reducible refine zk (by omega) ?_ | with_reducible refine zy (by omega) ?_ | with_reducible refine zx ?_ | with_reducible refine zg ?_)
    refine next h39 ?_ (O26.step F39 (by rintro x rfl; exact hb))
    rw [show ky ((cs.take i).foldl ky (yU zs)) cs[i] = ((cs.take i).foldl ky (yU zs)).set j cs[i].2 from (if_pos (by rw [hlen]; omega)).trans (by rw [show cs[i].1.toNat = j by omega]), List.map_set]
    simpa using A39
   ·repeat (first | with_reducible refine qV ?_ | with_reducible refine qQ ?_ | (with_reducible refine qR ?_; try dsimp only) | (with_reducible refine qS ?_; try dsimp only) | (with_reducible refine qO ?_; try dsimp only) | (with_reducible refine qB ?_; try dsimp only) | (with_reducible refine jW ?_; try dsimp only) | with_reducible refine qC ?_ | with_reducible refine qv ?_ | (with_reducible refine qX ?_; try dsimp only) | with_reducible refine qj ?_ | with_reducible refine qo ?_ | with_reducible refine jq ?_ | with_reducible refine qD (by omega) ?_ | with_reducible refine qb (by omega) ?_ | with_reducible refine zk (by omega) ?_ | with_reducible refine zy (by omega) ?_ | with_reducible refine zx ?_ | with_reducible refine zg ?_)
    refine next h26 ?_ O26
    rw [show ky ((cs.take i).foldl ky (yU zs)) cs[i] = (cs.take i).foldl ky (yU zs) from if_neg (by rw [hlen]; omega)]
    exact A26
  ·repeat (first | with_reducible refine qV ?_ | with_reducible refine qQ ?_ | (with_reducible refine qR ?_; try dsimp only) | (with_reducible refine qS ?_; try dsimp only) | (with_reducible refine qO ?_; try dsimp only) | (with_reducible refine qB ?_; try dsimp only) | (with_reducible refine jW ?_; try dsimp only) | with_reducible refine qC ?_ | with_reducible refine qv ?_ | (with_reducible refine qX ?_; try dsimp only) | with_reducible refine qj ?_ | with_reducible refine qo ?_ | with_reducible refine jq ?_ | with_reducible refine qD (by omega) ?_ | with_reducible refine qb (by omega) ?_ | with_reducible refine zk (by omega) ?_ | with_reducible refine zy (by omega) ?_ | with_reducible refine zx ?_ | with_reducible refine zg ?_)
   refine next h26 ?_ O26
   rw [show ky ((cs.take i).foldl ky (yU zs)) cs[i] = (cs.take i).foldl ky (yU zs) from if_neg (by rw [hlen]; omega)]
   exact A26
 ·refine ⟨b, e, rfl, hb, ?_, O⟩
  rw [List.take_of_length_le (by omega)] at A
  exact A
theorem M5 (zs : List Int) (cs : List Cl) : JE zs cs = zw zs cs := by
 have e1 : ∀ n : Nat, szZ (n : Int) = xB n := by intro n; unfold szZ xB; omega
 have e2 : yU zs = wX zs := by
  unfold yU wX
  rw [e1]
  rfl
 unfold JE zw
 rw [e2]
 rfl
theorem V6 {g h : AH} {R : List SP} {n : Nat} (hn : 1 ≤ n) {zs : List Int} {cs : List Cl} {a0 c : AV} (H : HS g h R) (S : Rd g R 1 zs.length a0 (zs.map (.int .u64))) (hs : shut a0 = true) (hr : Jc a0) (S1 : Rd g R 2 cs.length c (cs.flatMap jJ)) (hz : zs.length < 100000) (hc : cs.length < 100000) :
  wp (callT tab qA n (.fn 43 [] []) [a0, c] h) fun r h' => ∃ e, HS g h' (qz e 1 (zw zs cs).length r ((zw zs cs).map (.int .u64)) :: R) := by
 obtain ⟨v, h', er, b, e, rfl, hb, A, O⟩ := OH hn (S.sl H) hs hr (S1.sl H) (by omega) (by omega)
 have hl : (JE zs cs).length = xB zs.length := by unfold JE; rw [Ya, Y3]
 refine ⟨_, h', er, e, ?_⟩
 rw [← M5]
 refine H.add (D' := fun a => a = b) O ⟨by simp, .inr ⟨b, xB zs.length, false, _, by rw [hl], fun a => Iff.rfl, A, by simp, by rw [List.take_of_length_le (by simp)], ?_⟩⟩ ?_
 ·rw [if_neg (by simp)]; exact ⟨by simp [hl], by omega⟩
 ·rintro a rfl; exact ⟨hb, A.lt⟩
end Go.Proofs.YtdlfmpmpmkffjaaGreatDoor
namespace Go.Proofs.YtdlfmpmpmkffjaaGreatDoor
open Go Go.Ae arenaPlays
set_option maxRecDepth 100000
variable {g h : AH} {L R : List SP}
def Shp (v : AV) : Prop := v = .nils ∨ ∃ b o n cp x, v = .slice b o n cp x
theorem shp {e : TypeId} {sz n : Nat} {v : AV} {xs : List AV} (H : HS g h L) (s : Sel L (qz e sz n v xs) R) : Shp v := by
 obtain ⟨D, h1, ⟨rfl, rfl, _⟩ | ⟨b, cp, o, ys, rfl, _⟩⟩ := H.p s
 ·exact .inl rfl
 ·exact .inr ⟨_, _, _, _, _, rfl⟩
abbrev zero6 : List AV := [.int .i64 ((0 : Nat) : Int), .int .i64 ((0 : Nat) : Int), .str [], .nils, .nils, .nils]
theorem Zo {er k : Int} {wv : AV} (h : Shp wv) : yd zero6 [(0, 1, .int .i64 k), (1, 1, .int .i64 er), (5, 1, wv)] = some [.int .i64 k, .int .i64 er, .str [], .nils, .nils, wv] := by
 rcases h with rfl | ⟨b, o, n, cp, x, rfl⟩ <;> rfl
theorem all6 {er k : Int} {cv wv : AV} (h1 : Shp cv) (h2 : Shp wv) : q9 [.int .i64 k, .int .i64 er, .str [], cv, .nils, wv] = true := by
 rcases h1 with rfl | ⟨b, o, n, cp, x, rfl⟩ <;> rcases h2 with rfl | ⟨b, o, n, cp, x, rfl⟩ <;> rfl
end Go.Proofs.YtdlfmpmpmkffjaaGreatDoor
namespace Go.Proofs.YtdlfmpmpmkffjaaGreatDoor
open Go Go.Ae
set_option maxRecDepth 100000
variable {g h : AH} {L R : List SP}
abbrev kK (l : List qM) (n : Nat) (zs : List Int) (m : Int) : RM := xy l (qi l) n Jp (zz zs m)
def xv (r : RM) : List Cl := if r.kind = 2 then jY r.v.lv else []
def vh (r : RM) : List Int := if r.kind = 2 then zE r.v.lv else []
def Y0 (r : RM) : List UInt8 := if r.kind = 2 then Qv r.s.out else []
def KG (r : RM) (cv fv wv : AV) : List AV := [.int .i64 r.kind, .int .i64 r.err, .str (Y0 r), cv, fv, wv]
theorem ML {er k : Int} {tx : List UInt8} {cv fv wv : AV} (h1 : Shp cv) (h2 : Shp fv) (h3 : Shp wv) : q9 [.int .i64 k, .int .i64 er, .str tx, cv, fv, wv] = true := by
 rcases h1 with rfl | ⟨b, o, n, cp, x, rfl⟩ <;> rcases h2 with rfl | ⟨b, o, n, cp, x, rfl⟩ <;> rcases h3 with rfl | ⟨b, o, n, cp, x, rfl⟩ <;> rfl
theorem gR {v : AV} (h : Shp v) : One v := by
 rcases h with rfl | ⟨b, o, n, cp, x, rfl⟩ <;> exact ⟨rfl, rfl⟩
theorem qXm {n : Nat} (hn : 18 ≤ n) {l : List qM} {pv wv : AV} {zs : List Int} {fuel m : Int} (H : HS g h R) (S : Rd g R 5 l.length pv (l.flatMap qe)) (Sw : Rd g R 1 zs.length wv (zs.map (.int .u64))) (hs : shut wv = true) (hr : Jc wv) (hz : OkN zs) (hzl : zs.length < 100000) (hc : (xS l).2 = 0) (Q : Quiet l) :
  wp (callT tab qA n (.fn 41 [] []) [wv, .agg [pv], .int .i64 fuel, .int .i64 m] h) fun r h' => ∃ cv fv av e1 e2 e3, r = .agg (KG (kK l (zC fuel) zs m) cv fv av) ∧
   HS g h' (qz e1 2 (xv (kK l (zC fuel) zs m)).length cv ((xv (kK l (zC fuel) zs m)).flatMap jJ) :: qz e2 1 (vh (kK l (zC fuel) zs m)).length fv ((vh (kK l (zC fuel) zs m)).map (.int .i64)) ::
    qz e3 1 (zw zs (xv (kK l (zC fuel) zs m))).length av ((zw zs (xv (kK l (zC fuel) zs m))).map (.int .u64)) :: R) := by
 (refine qP (g := (tD4 S41)) rfl (by omega) fun k hk => ?_; show wp (S41 (callT tab qA k) _ _ _ _ _).1 _; unfold S41; try simp only [ Int.ofNat_eq_natCast])
 have F := G9 hc
 have hle := F.le
 refine qU H (xK (yn (S.sl H))) fun b0 h1 H1 => ?_
 refine qU H1 rfl fun b1 h2 H2 => ?_
 refine qY (NL (zs := zs) (by omega) H2 Sw.more.more) ?_
 rintro _ h3 ⟨v, rfl, H3⟩
 refine qh H3 (b := b0) (off := 0) e_2 rfl (by omega) (l := [pv]) rfl ?_
 refine qY (qX8 (by omega) H3 S.more.more.more (by omega)) ?_
 rintro _ h4 ⟨x, rfl, H4⟩
 have hm : Xi l = qi l := by unfold Xi; rw [if_pos hc]
 rw [hm, hc] at H4
 have hfz : zC fuel ≤ 400 := by unfold zC; omega
 have G0 := KY (l := l) (m := m) hz
 have f0 := Jy zs m
 refine qY (qZA (V := zz zs m) (by omega) F Q G0 (by omega) (by omega) H4) ?_
 rintro _ h5 ⟨rfl, nx, H5⟩
 obtain ⟨RB, rfr, _, _, rk⟩ := VS F Q (zC fuel) G0 (by omega)
 unfold kK
 generalize xy l (qi l) (zC fuel) Jp (zz zs m) = RM at *
 refine qY (qJh (by omega) H5) ?_
 rintro _ h5 ⟨rfl, rfl⟩
 refine qF (l := [.int .i64 RM.kind, .int .i64 RM.err, .str [], .nils, .nils, .nils]) rfl ?_
 refine qU H5 rfl fun b2 h6 H6 => ?_
 refine jG H6 (b := b2) .here rfl (by show 0 + 6 ≤ 6; omega) rfl fun h7 H7 => ?_
 have H7 : HS g h7 (qw b2 [.int .i64 RM.kind, .int .i64 RM.err, .str [], .nils, .nils, .nils] :: IntC x v l 0 (qi l) RM.s RM.err (if RM.kind = 1 then 0 else RM.kind) (RM.left : Int) nx :: ViewC v RM.v :: qw b1 [.int .i64 ((0 : Nat) : Int), .int .i64 ((0 : Nat) : Int), .str [], .nils, .nils, .nils] :: qw b0 [pv] :: R) := H7
 clear H1 H2 H3 H4 H5 H6
 refine zB [] (fun s h' => s = (.ptr b2 0, .ptr b1 0, wv, ()) ∧ ∃ cv fv e1 e2, HS g h' (qw b2 [.int .i64 RM.kind, .int .i64 RM.err, .str (Y0 RM), cv, fv, .nils] :: qz e1 2 (xv RM).length cv ((xv RM).flatMap jJ) :: qz e2 1 (vh RM).length fv ((vh RM).map (.int .i64)) ::
   qw b1 [.int .i64 ((0 : Nat) : Int), .int .i64 ((0 : Nat) : Int), .str [], .nils, .nils, .nils] :: R)) ?_ ?_
 rotate_left
 ·rintro s h8 ⟨rfl, cv, fv, e1, e2, H8⟩
  dsimp only
  have hcs : (xv RM).length < 100000 := by
   unfold xv
   split
   ·have h1 := wM RM.v.lv []
    have h2 := RB.good.ok.lvs.held
    have h3 := RB.good.ok.lvs.le
    simp at h1; unfold jY; omega
   ·simp
  have w1 := shp H8 e_1
  have w2 := shp H8 e_2
  with_reducible (refine qJ ?_; refine qG (by assumption) .here rfl ?_)
  refine qY (V6 (zs := zs) (cs := xv RM) (by omega) H8 (Sw.more.more.more.more) hs hr (H8.rd e_1) hzl hcs) ?_
  rintro av h9 ⟨e3, H9⟩
  have w3 := shp H9 .here
  refine qJ ?_
  refine qc H9 (b := b2) e_1 (gR w3) (by show 5 < 6; omega) fun h10 H10 => ?_
  have H10 : HS g h10 (qw b2 (KG RM cv fv av) :: qz e3 1 (zw zs (xv RM)).length av ((zw zs (xv RM)).map (.int .u64)) :: qz e1 2 (xv RM).length cv ((xv RM).flatMap jJ) :: qz e2 1 (vh RM).length fv ((vh RM).map (.int .i64)) ::
   qw b1 [.int .i64 ((0 : Nat) : Int), .int .i64 ((0 : Nat) : Int), .str [], .nils, .nils, .nils] :: R) := H10
  refine qh H10 (b := b2) (off := 0) .here rfl (by omega) (l := KG RM cv fv av) rfl ?_
  refine jG H10 (b := b1) e_4 rfl (by show 0 + 6 ≤ 6; omega) (ML w1 w2 w3) fun h11 H11 => ?_
  have H11 : HS g h11 (qw b1 (KG RM cv fv av) :: qw b2 (KG RM cv fv av) :: qz e3 1 (zw zs (xv RM)).length av ((zw zs (xv RM)).map (.int .u64)) :: qz e1 2 (xv RM).length cv ((xv RM).flatMap jJ) :: qz e2 1 (vh RM).length fv ((vh RM).map (.int .i64)) :: R) := H11
  refine qj ?_
  refine qh H11 (b := b1) (off := 0) .here rfl (by omega) (l := KG RM cv fv av) rfl ?_
  exact qW ⟨cv, fv, av, e1, e2, e3, rfl, H11.sub (.cons e_3 (.cons e_3 (.cons e_2 (.drop (.drop .refl)))))⟩
 intro j hj
 with_reducible (refine qJ ?_; refine qG (by assumption) .here rfl ?_)
 by_cases k2 : RM.kind = 2
 ·refine qy k2 ?_
  refine qV ?_
  refine qY (Nn (by omega) (H7.sel (P := IntC x v l 0 (qi l) RM.s RM.err (if RM.kind = 1 then 0 else RM.kind) (RM.left : Int) nx) e_1) RB.gb.out) ?_
  rintro _ h8 ⟨p, rfl, H8⟩
  refine qY (qZL (by omega) H8 (by have := RB.gb.out; omega) RB.gb.its) ?_
  rintro _ h9 ⟨rfl, H9⟩
  refine qY (N9 (by omega) (H9.sel (P := ViewC v RM.v) e_3) RB.good.ok) fun cv h10 H10 => ?_
  refine qY (OV (by omega) (H10.sel (P := ViewC v RM.v) e_1) RB.good.ok) fun fv h11 H11 => ?_
  clear H8 H9 H10
  have w1 := shp H11 .here
  have w2 := shp H11 e_2
  refine qJ ?_
  refine qc H11 (b := b2) e_5 (x := .str (Qv RM.s.out)) ⟨rfl, rfl⟩ (by show 2 < 6; omega) fun h12 H12 => ?_
  refine qJ ?_
  refine qc H12 (b := b2) .here (gR w2) (by show 3 < 6; omega) fun h13 H13 => ?_
  refine qJ ?_
  refine qc H13 (b := b2) .here (gR w1) (by show 4 < 6; omega) fun h14 H14 => ?_
  skip
  have t1 : Y0 RM = Qv RM.s.out := if_pos k2
  have t2 : xv RM = jY RM.v.lv := if_pos k2
  have t3 : vh RM = zE RM.v.lv := if_pos k2
  refine hj _ _ ⟨rfl, cv, fv, 67, 3, ?_⟩
  rw [t1, t2, t3]
  have H15 : HS g h14 (qw b2 [.int .i64 RM.kind, .int .i64 RM.err, .str (Qv RM.s.out), cv, fv, .nils] :: _) := H14
  exact H15.sub (.cons .here (.cons e_2 (.cons .here (.cons e_3 (.drop (.drop (.drop (.drop .refl))))))))
 ·refine qK k2 ?_
  refine qQ ?_
  have t1 : Y0 RM = [] := if_neg k2
  have t2 : xv RM = [] := if_neg k2
  have t3 : vh RM = [] := if_neg k2
  refine hj _ _ ⟨rfl, .nils, .nils, 67, 3, ?_⟩
  rw [t1, t2, t3]
  have H8 := (H7.nils (e := 3) (sz := 1)).nils (e := 67) (sz := 2)
  exact H8.sub (.cons e_2 (.cons .here (.cons .here (.drop (.drop (.cons .here (.drop .refl)))))))
end Go.Proofs.YtdlfmpmpmkffjaaGreatDoor
namespace Go.Proofs.YtdlfmpmpmkffjaaGreatDoor
open Go Go.Ae
set_option maxRecDepth 100000
variable {g h : AH} {L R : List SP}
theorem Vp {n : Nat} (hn : 12 ≤ n) {l : List qM} {pv wv : AV} {zs : List Int} {fuel m : Int} (H : HS g h R) (S : Rd g R 5 l.length pv (l.flatMap qe)) (Sw : Rd g R 1 zs.length wv (zs.map (.int .u64))) (hz : OkN zs) (hc : (xS l).2 = 0) (Q : Quiet l) :
  wp (callT tab qA n (.fn 45 [] []) [wv, .agg [pv], .int .i64 fuel, .int .i64 m] h) fun r h' => ∃ cv fv av e1 e2 e3, r = .agg (KG (kK l (zC fuel) zs m) cv fv av) ∧
   HS g h' (qz e1 2 (xv (kK l (zC fuel) zs m)).length cv ((xv (kK l (zC fuel) zs m)).flatMap jJ) :: qz e2 1 (vh (kK l (zC fuel) zs m)).length fv ((vh (kK l (zC fuel) zs m)).map (.int .i64)) ::
    qz e3 1 (zw zs (xv (kK l (zC fuel) zs m))).length av ((zw zs (xv (kK l (zC fuel) zs m))).map (.int .u64)) :: R) := by
 (refine qP (g := (tD4 S45)) rfl (by omega) fun k hk => ?_; show wp (S45 (callT tab qA k) _ _ _ _ _).1 _; unfold S45; try simp only [ Int.ofNat_eq_natCast])
 have F := G9 hc
 have o1 := yn (S.sl H)
 refine qU H (xK o1) fun b0 h1 H1 => ?_
 refine qU H1 rfl fun b1 h2 H2 => ?_
 refine qX ?_
 try dsimp only
 refine qh H2 (b := b0) (off := 0) e_1 rfl (by omega) (l := [pv]) rfl ?_
 refine qY (Yx (zs := zs) (m := m) (by omega) H2 Sw.more.more) ?_
 rintro _ h3 ⟨o, rfl, H3⟩
 refine qY (qJ9 (o := o) (fuel := fuel) (by omega) F Q H3 S.more.more.more) ?_
 rintro _ h4 ⟨y, rfl, H4⟩
 refine zt H2 (b := b0) e_1 rfl H3 e_2 rfl rfl (by omega) (HS.lt H2 e_1) ?_
 have hfz : zC fuel ≤ 400 := by unfold zC; omega
 have G0 := KY (l := l) (m := m) hz
 have f0 := Jy zs m
 try dsimp only
 refine qY (qJn (n := k) (V := zz zs m) (by omega) F Q G0 (by omega) (by omega) (S.more.more) (.inl rfl) H4) ?_
 rintro _ h5 ⟨rfl, H5⟩
 obtain ⟨RB, rfr, _, _, rk⟩ := VS F Q (zC fuel) G0 (by omega)
 have rnum := qZT (l := l) (mt := qi l) (zC fuel) (s := Jp) (V := zz zs m) (fun z hz => by cases hz)
 unfold kK
 generalize xy l (qi l) (zC fuel) Jp (zz zs m) = RM at *
 clear H1 H2 H3 H4
 obtain ⟨lv, ov, mv, qs, e, H6⟩ := RefC.E H5
 have H6 : HS g h5 (qw y (xp pv lv ov mv o RM.kind RM.err (RM.left : Int) RM.s.pc RM.s.regs) :: vD lv RM.s.out :: yb ov qs :: yo mv (qi l) :: RvC o RM.v :: qw b1 [.int .i64 ((0 : Nat) : Int), .int .i64 ((0 : Nat) : Int), .str [], .nils, .nils, .nils] :: qw b0 [pv] :: R) := H6
 clear H5
 refine qq (qJ (qG H6 (b := y) .here rfl ?_))
 refine qY (Gk (cs := []) (by omega) H6 (Sw.more.more.more.more.more.more.more) (fun _ _ => .nils) (by simp)) ?_
 rintro wv1 h7 ⟨e1, H7⟩
 have w1 := shp H7 .here
 refine qF (Zo w1) ?_
 refine qU H7 rfl fun b2 h8 H8 => ?_
 refine jG H8 (b := b2) .here rfl (by show 0 + 6 ≤ 6; omega) (all6 (.inl rfl) w1) fun h9 H9 => ?_
 have H9 : HS g h9 (qw b2 [.int .i64 RM.kind, .int .i64 RM.err, .str [], .nils, .nils, wv1] :: qz e1 1 (zw zs []).length wv1 ((zw zs []).map (.int .u64)) :: qw y (xp pv lv ov mv o RM.kind RM.err (RM.left : Int) RM.s.pc RM.s.regs) :: vD lv RM.s.out :: yb ov qs :: yo mv (qi l) :: RvC o RM.v ::
  qw b1 [.int .i64 ((0 : Nat) : Int), .int .i64 ((0 : Nat) : Int), .str [], .nils, .nils, .nils] :: qw b0 [pv] :: R) := H9
 refine jc H6 (b := y) .here rfl H7 e_1 rfl (HS.lt H6 .here) (qX ?_)
 try dsimp only
 clear H6 H7 H8
 by_cases k2 : RM.kind = 2
 ·refine jj k2 (qQ ?_)
  have t1 : Y0 RM = Qv RM.s.out := if_pos k2
  have t2 : xv RM = jY RM.v.lv := if_pos k2
  have t3 : vh RM = zE RM.v.lv := if_pos k2
  unfold KG
  rw [t1, t2, t3]
  have hml := wM RM.v.lv []
  have hhe := RB.good.ok.lvs.held
  have hll := RB.good.ok.lvs.le
  have hml' : (jY RM.v.lv).length < 100000 := by simp at hml; unfold jY; omega
  obtain ⟨kv, q, H10⟩ := RvC.E (H9.sel (P := RvC o RM.v) e_6)
  refine qq (qJ (qG H9 (b := y) e_2 rfl ?_))
  refine qq (qJ (qG H10 (b := o) .here rfl ?_))
  refine qY (Vv (by omega) (H10.sel (P := RgC q RM.v.most RM.v.lv) e_2) RB.good.ok.lvs (by omega)) ?_
  rintro _ h11 ⟨cv, fv, rfl, H11⟩
  have w2 := shp H11 .here
  have w3 := shp H11 e_1
  refine qU H11 rfl fun b3 h12 H12 => ?_
  refine jG H12 (b := b3) .here rfl (by show 0 + 2 ≤ 2; omega) (by show q9 [cv, fv] = true; simp [q9, (gR w2).2, (gR w3).2]) fun h13 H13 => ?_
  have H13 : HS g h13 (qw b3 [cv, fv] :: qz 67 2 (jY RM.v.lv).length cv ((jY RM.v.lv).flatMap jJ) :: qz 3 1 (zE RM.v.lv).length fv ((zE RM.v.lv).map (.int .i64)) :: RgC q RM.v.most RM.v.lv :: qw o [.int .i64 (RM.v.sz : Int), kv, .ptr q 0, .int .i64 RM.v.need] ::
   qz 67 2 RM.v.K.length kv (RM.v.K.flatMap jJ) :: qw b2 [.int .i64 RM.kind, .int .i64 RM.err, .str [], .nils, .nils, wv1] :: qz e1 1 (zw zs []).length wv1 ((zw zs []).map (.int .u64)) :: qw y (xp pv lv ov mv o RM.kind RM.err (RM.left : Int) RM.s.pc RM.s.regs) :: vD lv RM.s.out ::
   yb ov qs :: yo mv (qi l) :: qw b1 [.int .i64 ((0 : Nat) : Int), .int .i64 ((0 : Nat) : Int), .str [], .nils, .nils, .nils] :: qw b0 [pv] :: R) := H13
  clear H9 H10 H11 H12
  refine qX ?_
  try dsimp only
  refine qq (qJ (qG H13 (b := y) e_8 rfl ?_))
  refine qY (Od (by omega) H13 (H13.rd e_9) (by have := RB.gb.out; omega) (fun z hz => ⟨rnum z hz, RB.gb.its z hz⟩)) ?_
  rintro _ h14 ⟨rfl, H14⟩
  refine qJ (qG H14 (b := b3) .here rfl ?_)
  refine qJ (qG H14 (b := b3) .here rfl ?_)
  refine qJ (qG H14 (b := b3) .here rfl ?_)
  refine qY (Gk (cs := jY RM.v.lv) (by omega) H14 (Sw.more.more.more.more.more.more.more.more.more.more.more.more.more.more) (H14.rd e_1) hml') ?_
  rintro av h15 ⟨e2, H15⟩
  have w4 := shp H15 .here
  refine qJ ?_
  refine qc H15 (b := b2) e_7 (x := .str (Qv RM.s.out)) ⟨rfl, rfl⟩ (by show 2 < 6; omega) fun h16 H16 => ?_
  refine qJ ?_
  refine qc H16 (b := b2) .here (gR w2) (by show 3 < 6; omega) fun h17 H17 => ?_
  refine qJ ?_
  refine qc H17 (b := b2) .here (gR w3) (by show 4 < 6; omega) fun h18 H18 => ?_
  refine qJ ?_
  refine qc H18 (b := b2) .here (gR w4) (by show 5 < 6; omega) fun h19 H19 => ?_
  have lt3 := HS.lt H13 .here
  refine jc H13 (b := b3) .here rfl H14 .here rfl lt3 ?_
  refine jc H16 (b := b3) e_2 rfl H17 e_2 rfl lt3 ?_
  refine jc H15 (b := b3) e_1 rfl H16 e_2 rfl lt3 ?_
  refine jc H14 (b := b3) .here rfl H15 e_1 rfl lt3 ?_
  refine jc H13 (b := b3) .here rfl H14 .here rfl lt3 ?_
  refine jc H15 (b := b3) e_1 rfl H16 e_2 rfl lt3 ?_
  refine jc H14 (b := b3) .here rfl H15 e_1 rfl lt3 ?_
  refine jc H13 (b := b3) .here rfl H14 .here rfl lt3 ?_
  have H19 := H19.sub (L' := qw b2 [.int .i64 RM.kind, .int .i64 RM.err, .str (Qv RM.s.out), cv, fv, av] :: qw b1 [.int .i64 ((0 : Nat) : Int), .int .i64 ((0 : Nat) : Int), .str [], .nils, .nils, .nils] :: qz 67 2 (jY RM.v.lv).length cv ((jY RM.v.lv).flatMap jJ) :: qz 3 1 (zE RM.v.lv).length fv ((zE RM.v.lv).map (.int .i64)) ::
   qz e2 1 (zw zs (jY RM.v.lv)).length av ((zw zs (jY RM.v.lv)).map (.int .u64)) :: R) (.cons .here (.cons e_12 (.cons e_2 (.cons e_2 (.cons .here (.drop (.drop (.drop (.drop (.drop (.drop (.drop (.drop (.drop (.drop .refl)))))))))))))))
  clear H13 H14 H15 H16 H17 H18
  refine qh H19 (b := b2) (off := 0) .here rfl (by omega) (l := [.int .i64 RM.kind, .int .i64 RM.err, .str (Qv RM.s.out), cv, fv, av]) rfl ?_
  refine jG H19 (b := b1) e_1 rfl (by show 0 + 6 ≤ 6; omega) (ML w2 w3 w4) fun h20 H20 => ?_
  have H20 : HS g h20 (qw b1 [.int .i64 RM.kind, .int .i64 RM.err, .str (Qv RM.s.out), cv, fv, av] :: qw b2 [.int .i64 RM.kind, .int .i64 RM.err, .str (Qv RM.s.out), cv, fv, av] :: qz 67 2 (jY RM.v.lv).length cv ((jY RM.v.lv).flatMap jJ) :: qz 3 1 (zE RM.v.lv).length fv ((zE RM.v.lv).map (.int .i64)) ::
   qz e2 1 (zw zs (jY RM.v.lv)).length av ((zw zs (jY RM.v.lv)).map (.int .u64)) :: R) := H20
  refine qh H20 (b := b1) (off := 0) .here rfl (by omega) (l := [.int .i64 RM.kind, .int .i64 RM.err, .str (Qv RM.s.out), cv, fv, av]) rfl ?_
  exact qW ⟨cv, fv, av, _, _, e2, rfl, H20.drop.drop⟩
 ·refine jk k2 (qV ?_)
  have t1 : Y0 RM = [] := if_neg k2
  have t2 : xv RM = [] := if_neg k2
  have t3 : vh RM = [] := if_neg k2
  unfold KG
  rw [t1, t2, t3]
  refine qh H9 (b := b2) (off := 0) .here rfl (by omega) (l := [.int .i64 RM.kind, .int .i64 RM.err, .str [], .nils, .nils, wv1]) rfl ?_
  refine jG H9 (b := b1) e_7 rfl (by show 0 + 6 ≤ 6; omega) (all6 (.inl rfl) w1) fun h10 H10 => ?_
  have H10 := H10.sub (L' := qw b1 [.int .i64 RM.kind, .int .i64 RM.err, .str [], .nils, .nils, wv1] :: qz e1 1 (zw zs []).length wv1 ((zw zs []).map (.int .u64)) :: R) (.cons .here (.cons e_1 (.drop (.drop (.drop (.drop (.drop (.drop (.drop .refl)))))))))
  refine qh H10 (b := b1) (off := 0) .here rfl (by omega) (l := [.int .i64 RM.kind, .int .i64 RM.err, .str [], .nils, .nils, wv1]) rfl ?_
  exact qW ⟨.nils, .nils, wv1, 67, 3, e1, rfl, (H10.drop.nils (e := 3) (sz := 1)).nils (e := 67) (sz := 2)⟩
end Go.Proofs.YtdlfmpmpmkffjaaGreatDoor
namespace Go.Proofs.YtdlfmpmpmkffjaaGreatDoor
open Go Go.Ae
set_option maxRecDepth 100000
theorem qJ2 {h : AH} {d : Nat} {v : AV} (H : WT Tryz.prog h (d + 3) 43 [v]) : ∃ ks : List qM, Sl (fun b => b < h.nx) h 5 ks.length v (ks.flatMap qe) ∧ ∀ x ∈ ks, 0 ≤ x.2.2.2.2 ∧ x.2.2.2.2 < 18446744073709551616 := by
 obtain ⟨q, xs, S, _, H2⟩ := Ku (sz := 5) Tryz.underlying43 (by kernel_rfl) (by omega) H
 obtain ⟨ks, g1, g3, rfl⟩ := Ka (α := qM) (Pr := fun x => 0 ≤ x.2.2.2.2 ∧ x.2.2.2.2 < 18446744073709551616) qe S.len (fun i hi => by
  have := H2 i hi
  generalize (xs.drop (i * 5)).take 5 = row at this
  unfold WT at this
  simp only [Tryz.underlying115] at this
  obtain ⟨g1, g2⟩ := this
  rw [show Tryz.prog.cellsOf 115 = 5 by kernel_rfl] at g1
  match row, g1 with
  | [x, y, z, u, t], _ =>
   have f1 := g2 _ (List.mem_cons_self ..)
   have f2 := g2 _ (List.mem_cons_of_mem _ (List.mem_cons_self ..))
   have f3 := g2 _ (List.mem_cons_of_mem _ (List.mem_cons_of_mem _ (List.mem_cons_self ..)))
   have f4 := g2 _ (List.mem_cons_of_mem _ (List.mem_cons_of_mem _ (List.mem_cons_of_mem _ (List.mem_cons_self ..))))
   have f5 := g2 _ (List.mem_cons_of_mem _ (List.mem_cons_of_mem _ (List.mem_cons_of_mem _ (List.mem_cons_of_mem _ (List.mem_cons_self ..)))))
   rw [show Tryz.prog.cellsOf 3 = 1 by kernel_rfl] at f1 f2 f3 f4
   rw [show Tryz.prog.cellsOf 26 = 1 by kernel_rfl] at f5
   unfold WT at f1 f2 f3 f4 f5
   simp only [Tryz.underlying3, List.drop_zero, List.take_succ_cons, List.take_zero, List.drop_succ_cons] at f1 f2 f3 f4
   simp only [Tryz.underlying26, List.drop_succ_cons, List.drop_zero, List.take_succ_cons, List.take_zero] at f5
   obtain ⟨a, ha, _⟩ := f1
   obtain ⟨b, hb, _⟩ := f2
   obtain ⟨c, hc, _⟩ := f3
   obtain ⟨d, hd, _⟩ := f4
   obtain ⟨e, he, c5⟩ := f5
   cases ha; cases hb; cases hc; cases hd; cases he
   exact ⟨(a, b, c, d, e), ⟨c5.1, Int.lt_of_le_of_lt c5.2 (by decide)⟩, rfl⟩)
 exact ⟨ks, g1 ▸ S, g3⟩
end Go.Proofs.YtdlfmpmpmkffjaaGreatDoor
namespace Go.Proofs.YtdlfmpmpmkffjaaGreatDoor.modelTells
open Go Go.Ae
set_option maxRecDepth 100000
variable {g h : AH} {L R : List SP}
theorem drawn {calm : Bool} {l : List qM} (B : Bld calm l []) (h0 : 0 < l.length) (h40 : (l.length : Int) ≤ 40) : (xS l).2 = 0 ∧ Quiet l := by
 refine ⟨by rw [B.fit h0 (by omega)], fun x hx => ⟨(B.ok x hx).no, (B.ok x hx).n⟩⟩
theorem qQH {n : Nat} (hn : 2 ≤ n) {k er : Int} {tx : List UInt8} {cs : List Cl} {fs ws : List Int} {cv fv wv cv' fv' wv' : AV} {e1 e2 e3 e4 e5 e6 : TypeId} (hc : cs.length < 100000) (hf : fs.length < 100000) (hw : ws.length < 100000)
  (H : HS g h (qz e1 2 cs.length cv (cs.flatMap jJ) :: qz e2 1 fs.length fv (fs.map (.int .i64)) :: qz e3 1 ws.length wv (ws.map (.int .u64)) :: qz e4 2 cs.length cv' (cs.flatMap jJ) :: qz e5 1 fs.length fv' (fs.map (.int .i64)) :: qz e6 1 ws.length wv' (ws.map (.int .u64)) :: R)) :
  wp (callT tab qA n (.fn 44 [] []) [.agg [.int .i64 k, .int .i64 er, .str tx, cv', fv', wv'], .agg [.int .i64 k, .int .i64 er, .str tx, cv, fv, wv]] h) fun r h' => r = .bool true := by
 (refine qP (g := (tD2 S44)) rfl (by omega) fun k hk => ?_; show wp (S44 (callT tab qA k) _ _ _).1 _; unfold S44; try simp only [ Int.ofNat_eq_natCast])
 have w1 := shp H .here
 have w2 := shp H e_1
 have w3 := shp H e_2
 have w4 := shp H e_3
 have w5 := shp H e_4
 have w6 := shp H e_5
 refine qU H (ML w4 w5 w6) fun b1 h1 H1 => qU H1 (ML w1 w2 w3) fun b2 h2 H2 => ?_
 clear H H1
 with_reducible (refine qJ ?_; refine qG (by assumption) e_1 rfl ?_; refine qJ ?_; refine qG (by assumption) .here rfl ?_; refine qy (by omega) ?_; refine qX ?_; (try dsimp only); refine qR ?_; (try dsimp only); refine qJ ?_; refine qG (by assumption) e_1 rfl ?_; refine qJ ?_; refine qG (by assumption) .here rfl ?_; refine qy (by omega) ?_; refine qC ?_; refine qX ?_; (try dsimp only); refine qR ?_; (try dsimp only); refine qJ ?_; refine qG (by assumption) e_1 rfl ?_; refine qJ ?_; refine qG (by assumption) .here rfl ?_)
 refine qZR ?_
 with_reducible (refine qC ?_; refine qX ?_; (try dsimp only); refine qR ?_; (try dsimp only); refine qJ ?_; refine qG (by assumption) e_1 rfl ?_; refine qJ ?_; refine qG (by assumption) .here rfl ?_)
 refine qY (qQf (by omega) (H2.sl e_5) (H2.sl e_2) (by omega)) ?_
 rintro _ h3 ⟨rfl, rfl⟩
 rw [decide_eq_true rfl]
 with_reducible (refine qC ?_; refine qX ?_; (try dsimp only); refine qR ?_; (try dsimp only); refine qJ ?_; refine qG (by assumption) e_1 rfl ?_; refine qJ ?_; refine qG (by assumption) .here rfl ?_)
 refine qY (O1 (by omega) (H2.sl e_6) (H2.sl e_3) (by omega)) ?_
 rintro _ h3 ⟨rfl, rfl⟩
 rw [decide_eq_true rfl]
 with_reducible (refine qC ?_; refine qX ?_; (try dsimp only); refine qR ?_; (try dsimp only); refine qJ ?_; refine qG (by assumption) e_1 rfl ?_; refine qJ ?_; refine qG (by assumption) .here rfl ?_)
 refine qY (Zz (by omega) (H2.sl e_7) (H2.sl e_4) (by omega)) ?_
 rintro _ h3 ⟨rfl, rfl⟩
 rw [decide_eq_true rfl]
 refine qC ?_
 exact qW rfl
theorem law {k : Nat} (hk : 24 ≤ k) {x fuel most : Int} {a0 a2 a3 : AV} {ks : List qM} {rs bs : List Int} (S0 : Sl (fun b => b < h.nx) h 5 ks.length a0 (ks.flatMap qe)) (hN : ∀ x ∈ ks, 0 ≤ x.2.2.2.2 ∧ x.2.2.2.2 < 18446744073709551616)
  (S1 : Sl (fun b => b < h.nx) h 1 rs.length a2 (rs.map (.int .u64))) (hr : ∀ z ∈ rs, 0 ≤ z ∧ z < 18446744073709551616)
  (S2 : Sl (fun b => b < h.nx) h 1 bs.length a3 (bs.map (.int .u8))) (hb : ∀ z ∈ bs, 0 ≤ z ∧ z ≤ 255) (hm : 0 ≤ most ∧ most ≤ 255) :
  wp ((tD6 S9) (vj 8 (callT tab qA k)) [a0, .int .i64 x, a2, a3, .int .i64 fuel, .int .u8 most] h) fun v _ => v = .bool true := by
 show wp (S9 (vj _ (callT tab qA _)) _ _ _ _ _ _ _).1 _
 unfold S9
 try simp only [ Int.ofNat_eq_natCast]
 refine qVH ?_
 refine qo ?_; refine qQ ?_
 refine kB (by decide) (MJ (by omega) (HS.nil h) (Rd.arg S1) hr (Rd.arg S2) hb) ?_
 rintro wv h1 ⟨zs, hz, hz1, hz2, hsh, hro, H1⟩
 refine kB (by decide) (ZE (calm := false) (most := ((40 : Nat) : Int)) (by omega) hN (by omega) H1 (Rd.arg S0)) ?_
 rintro _ h2 ⟨pv, l, rfl, B, hl0, hl40, H2⟩
 obtain ⟨hc, Qu⟩ := drawn B hl0 hl40
 have F := G9 hc
 have hle := F.le
 refine qU H2 rfl fun b0 h3 H3 => ?_
 have op := H3.one (e := 28) (sz := 5) (n := l.length) e_1
 refine jG H3 (b := b0) .here rfl (by simp) (by show q9 [pv] = true; simp [q9, op.2]) fun h4 H4 => ?_
 have H4 : HS h h4 (qw b0 [pv] :: xn pv l :: qz 26 1 zs.length wv (zs.map (.int .u64)) :: []) := H4
 clear H1 H2 H3
 refine qX ?_
 try dsimp only
 refine qh H4 (b := b0) (off := 0) .here rfl (by omega) (l := [pv]) rfl (jI (by omega) ?_)
 refine kB (by decide) (qXm (zs := zs) (fuel := fuel) (m := most) (by omega) H4 (H4.rd (e := 28) (sz := 5) (n := l.length) e_1) (H4.rd e_2) hsh hro hz (by omega) hc Qu) ?_
 rintro _ h5 ⟨cv, fv, av, e1, e2, e3, rfl, H5⟩
 refine qh H5 (b := b0) (off := 0) e_3 rfl (by omega) (l := [pv]) rfl (jI (by omega) ?_)
 refine kB (by decide) (Vp (zs := zs) (fuel := fuel) (m := most) (by omega) H5 (H5.rd (e := 28) (sz := 5) (n := l.length) e_4) (H5.rd e_5) hz hc Qu) ?_
 rintro _ h6 ⟨cv2, fv2, av2, e4, e5, e6, rfl, H6⟩
 have G0 := KY (l := l) (m := most) hz
 have f0 := Jy zs most
 have hfz : zC fuel ≤ 400 := by unfold zC; omega
 obtain ⟨RB, rfr, _, _, rk⟩ := VS F Qu (zC fuel) G0 (by omega)
 unfold kK at H5 H6 ⊢
 generalize xy l (qi l) (zC fuel) Jp (zz zs most) = RM at *
 have hcs : (xv RM).length < 100000 := by
  unfold xv
  split
  ·have h1 := wM RM.v.lv []
   have h2 := RB.good.ok.lvs.held
   have h3 := RB.good.ok.lvs.le
   simp at h1; unfold jY; omega
  ·simp
 have hfs : (vh RM).length < 100000 := by
  unfold vh
  split
  ·rw [XE]; omega
  ·simp
 have hws : (zw zs (xv RM)).length < 100000 := by
  have := Yh (zs.length : Int)
  rw [XM]; omega
 refine kB (by decide) (qQH (by omega) hcs hfs hws H6) ?_
 rintro _ h7 rfl
 refine zt H4 (b := b0) .here rfl H5 e_3 rfl rfl (by omega) (HS.lt H4 .here) ?_
 exact qW rfl
theorem told {h : AH} {l : List AV} (H : WTs Tryz.prog h 8 Tryz.f9.params.toList l) : wp ((tD6 S9) (vj 8 (callT tab qA 60)) l h) fun v _ => v = .bool true := by
 have e : Tryz.f9.params.toList = [43, 3, 38, 44, 3, 5] := by kernel_rfl
 rw [e] at H
 obtain ⟨a0, a1, a2, a3, a4, a5, rfl, H0, H1, H2, H3, H4, H5⟩ := WTs6 H
 simp only [WTV, Tryz.underlying3, Tryz.underlying4, Tryz.underlying5, Tryz.underlying26, Tryz.underlying38, Tryz.underlying43, Tryz.underlying44, Tryz.underlying115] at H0 H1 H2 H3 H4 H5
 obtain ⟨ks, S0, hN⟩ := qJ2 H0
 obtain ⟨rs, S1, b1⟩ := MI Tryz.underlying38 Tryz.underlying26 (by kernel_rfl) H2
 obtain ⟨bs, S2, b2⟩ := MI Tryz.underlying44 Tryz.underlying5 (by kernel_rfl) H3
 unfold WT at H1 H4 H5
 simp only [Tryz.underlying3, Tryz.underlying3, Tryz.underlying5] at H1 H4 H5
 obtain ⟨x, hx, _⟩ := H1
 obtain ⟨y, hy, _⟩ := H4
 obtain ⟨m, hm, c3⟩ := H5
 cases hx; cases hy; cases hm
 exact law (by omega) S0 hN S1 (fun z hz => ⟨(b1 z hz).1, Int.lt_of_le_of_lt (b1 z hz).2 (by decide)⟩) S2 b2 c3
end Go.Proofs.YtdlfmpmpmkffjaaGreatDoor.modelTells
