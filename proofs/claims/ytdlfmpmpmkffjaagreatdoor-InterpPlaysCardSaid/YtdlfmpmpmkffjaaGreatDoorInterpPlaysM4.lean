/- Lemmas for 'quietus/quietuslaw21.InterpPlays': The documents own run of a program: parts that open, close, choose; The documents own run of a program: one instruction; The documents own run of a program: ... No condition. -/
import Derived.Test.YtdlfmpmpmkffjaaGreatDoorInterpPlaysM3
import Derived.Test.YtdlfmpmpmkffjaaGreatDoorInterpPlaysM2
import Derived.Test.YtdlfmpmpmkffjaaGreatDoorInterpPlaysM1
namespace Go.Proofs.YtdlfmpmpmkffjaaGreatDoor
open Go Go.Ae
set_option maxRecDepth 100000
variable {g h : AH} {L R : List SP}
section
variable {y o : Nat} {sv : AV} {mt : List Int} {s : IM} {kind err left : Int}
theorem AtsQ.cons {qs : List (PtM × Int)} {p : PtM} {r : List PtM} (h : AtsQ qs (p :: r)) : ∃ z qs', qs = (p, z) :: qs' ∧ AtsQ qs' r ∧ (p.op = 17 → z = p.pc) := by
 obtain ⟨h1, h2⟩ := h
 cases qs with
 | nil => cases h1
 | cons q qs =>
  obtain ⟨q1, q2⟩ := q
  rw [List.map_cons, List.cons.injEq] at h1
  obtain ⟨rfl, h1⟩ := h1
  exact ⟨q2, qs, rfl, ⟨h1, fun q hq => h2 q (List.mem_cons_of_mem _ hq)⟩, h2 _ (List.mem_cons_self ..)⟩
theorem AtsQ.push {qs : List (PtM × Int)} {p : PtM} {z : Int} {r : List PtM} (h : AtsQ qs r) (hz : p.op = 17 → z = p.pc) : AtsQ ((p, z) :: qs) (p :: r) := by
 refine ⟨by rw [List.map_cons, h.1], fun q hq => ?_⟩
 rcases List.mem_cons.1 hq with rfl | hq
 ·exact hz
 ·exact h.2 q hq
theorem AtsQ.len {qs : List (PtM × Int)} {r : List PtM} (h : AtsQ qs r) : qs.length = r.length := by rw [← h.1, List.length_map]
theorem V5 {q : PtM × Int} {qs : List (PtM × Int)} : (((q :: qs).reverse.flatMap yc).drop (qs.length * 11)).take 11 = yc q := by
 rw [kj, List.drop_append_of_le_length (by rw [QO]; exact Nat.le_refl _), List.drop_of_length_le (by rw [QO]; exact Nat.le_refl _)]; rfl
theorem GT {q : PtM × Int} {qs : List (PtM × Int)} : ((q :: qs).reverse.flatMap yc).take (qs.length * 11) = qs.reverse.flatMap yc := by
 rw [kj, List.take_append_of_le_length (by rw [QO]; exact Nat.le_refl _), List.take_of_length_le (by rw [QO]; exact Nat.le_refl _)]
theorem MG {n : Nat} (hn : 2 ≤ n) {V : VM} (G : jS V) (hlv : V.lv.length = s.opn.length + 1) (h5 : s.opn.length ≤ 5) (told : ToldD s.out.length s.opn) (hm : ∀ p ∈ s.opn, p.op = 17 → MtAt mt p.pc) (hpc : 0 ≤ s.pc ∧ s.pc ≤ 100)
  (H : HS g h (RefC y o sv mt s 0 err left :: RvC o V :: R)) :
  wp (callT tab qy n (.fn 149 [] []) [.ptr y 0] h) fun _ h' => (zR mt s.opn s V).e = 0 ∧
   HS g h' (RefC y o sv mt { (zR mt s.opn s V).s with pc := (zR mt s.opn s V).nx } (if (zR mt s.opn s V).blk = true then 3 else 0) err left :: RvC o (zR mt s.opn s V).v :: R) := by
 (refine qM (g := (tD1 S149)) rfl (by omega) fun k hk => ?_; show wp (S149 (callT tab qy k) _ _).1 _; unfold S149; try simp only [ Int.ofNat_eq_natCast])
 generalize hD : zR mt s.opn s V = D
 refine jz (fun m st h' => ∃ (r : List PtM) (V' : VM), st = (.ptr y 0, ()) ∧ m = r.length ∧ r.length ≤ 5 ∧ HS g h' (RefC y o sv mt { s with opn := r } 0 err left :: RvC o V' :: R) ∧ jS V' ∧ V'.lv.length = r.length + 1 ∧ ToldD s.out.length r ∧ (∀ p ∈ r, p.op = 17 → MtAt mt p.pc) ∧ zR mt r s V' = D)
  ?_ (m := s.opn.length) (by show _ < 1000000000; omega) ⟨s.opn, V, rfl, rfl, h5, H, G, hlv, told, hm, hD⟩
 clear H G hlv told hm hD h5
 rintro m ih st h2 hih ⟨r, V, rfl, rfl, h5, H, G, hlv, told, hm, hD⟩
 dsimp only
 obtain ⟨lv, ov, mv, qs, e, H1⟩ := RefC.E H
 clear H
 have H1 : HS g h2 (qB y (xl sv lv ov mv o 0 err left s.pc s.regs) :: vW lv s.out :: yN ov qs :: yd mv mt :: RvC o V :: R) := H1
 have e : AtsQ qs r := e
 have el := e.len
 refine qY (qJ (qG H1 (b := y) .here rfl ?_))
 refine qa H1 e_2 ?_
 cases r with
 | nil =>
  refine ja (by rw [el]; simp) (qQ ?_)
  refine qY (qJ ?_)
  refine qi H1 (b := y) .here ⟨rfl, rfl⟩ (by show 13 < 17; omega) fun h3 H3 => ?_
  subst hD
  exact qj (qW ⟨rfl, RefC.I (s := { s with opn := [] }) (kind := 3) (lv := lv) (ov := ov) (mv := mv) e H3⟩)
 | cons p r =>
  obtain ⟨z, qs, rfl, e, hz⟩ := e.cons
  have el := e.len
  have hd0 := vp (V := V) (by rw [hlv]; simp)
  simp at h5
  refine ji (by rw [List.length_cons]; omega) (qV ?_)
  refine qY (qJ (qG H1 (b := y) .here rfl ?_))
  refine qa H1 e_2 ?_
  rw [show (((p, z) :: qs).length : Int) = ((qs.length + 1 : Nat) : Int) from rfl]
  refine qc (by omega) ?_
  rw [show ((qs.length + 1 : Nat) : Int) - ((1 : Nat) : Int) = (qs.length : Int) by omega]
  refine qY (qJ (qG H1 (b := y) .here rfl ?_))
  refine zG (l := yc (p, z)) (H1.sl e_2) (i := qs.length) (by simp) (by omega) V5 ?_
  refine qb H1 rfl fun b h3 H3 => jq H3 .here rfl (by show 0 + 11 ≤ 11; omega) rfl fun h4 H4 => ?_
  have H4 : HS g h4 (qB b (yc (p, z)) :: qB y (xl sv lv ov mv o 0 err left s.pc s.regs) :: vW lv s.out :: yN ov ((p, z) :: qs) :: yd mv mt :: RvC o V :: R) := H4
  clear H1 H3
  refine qY (qJ (qG H4 (b := y) e_1 rfl ?_))
  refine Zv (by omega) G.ok (H4.sel (P := RvC o V) e_5) fun h5 H5 => ?_
  clear H4
  refine qY (qJ (qG H5 (b := y) e_2 rfl ?_))
  refine yj (H5.sel (P := yN ov ((p, z) :: qs)) e_4) (by omega) (by simp) fun ov2 H6 => ?_
  rw [GT] at H6
  have o6 := H6.one .here
  refine qY (qJ ?_)
  refine qi H6 (b := y) e_3 o6 (by show 15 < 17; omega) fun h7 H7 => ?_
  have H7 : HS g h7 (qB y (xl sv lv ov2 mv o 0 err left s.pc s.regs) :: yN ov2 qs :: RvC o (zZ V).2 :: qB b (yc (p, z)) :: vW lv s.out :: yd mv mt :: R) := H7
  clear H5 H6
  refine qJ (qG H7 (b := b) e_3 rfl ?_)
  unfold zR at hD
  rw [if_pos hd0.1] at hD
  have GD := G.dropG.1
  have H8 : HS g h7 (RefC y o sv mt { s with opn := r } 0 err left :: qB b (yc (p, z)) :: RvC o (zZ V).2 :: R) := RefC.I (s := { s with opn := r }) (lv := lv) (ov := ov2) (mv := mv) e (H7.sub (.cons .here (.cons e_3 (.cons .here (.cons e_2 (.cons e_1 (.cons .here .refl)))))))
  clear H7
  have hlv2 : (zZ V).2.lv.length = r.length + 1 := by rw [hd0.2, List.length_tail, hlv]; simp
  by_cases h17 : p.op = 17
  ·rw [if_pos h17] at hD
   rw [show decide ((p, z).1.op = 17) = true from decide_eq_true h17]
   refine qn (qQ (qK ?_))
   dsimp only
   refine qXS (s := { s with opn := r }) told.1 H8 fun h9 H9 => ?_
   clear H8
   obtain ⟨lv, ov, mv, qs2, e2, H10⟩ := RefC.E H9
   have H10 : HS g h9 (qB y (xl sv lv ov mv o 0 err left s.pc p.regs) :: vW lv (s.out.take p.told) :: yN ov qs2 :: yd mv mt :: qB b (yc (p, z)) :: RvC o (zZ V).2 :: R) := H10
   have e2 : AtsQ qs2 r := e2
   have el2 := e2.len
   clear H9
   refine qY (qJ (qG H10 (b := y) .here rfl ?_))
   refine ZB (by omega) GD.ok (H10.sel (P := RvC o (zZ V).2) e_5) fun h11 H11 => ?_
   clear H10
   obtain ⟨kk, hk1, w, hk2, hk3, hk4⟩ := hm p (List.mem_cons_self ..) h17
   rw [MtAt.num hk1 hk2] at hD
   have hzk : z = (kk : Int) := (hz h17).trans hk1
   subst hzk
   refine qY (qJ (qG H11 (b := y) e_1 rfl ?_))
   refine qJ (qG H11 (b := b) e_5 rfl ?_)
   refine jN (H11.sl e_4) (MtAt.idx hk2).1 (qE (by omega) ?_)
   refine qY (qJ ?_)
   refine qi H11 (b := y) e_1 ⟨rfl, rfl⟩ (by show 10 < 17; omega) fun h12 H12 => ?_
   have H12 : HS g h12 (qB y (xl sv lv ov mv o 0 err left (w + 1) p.regs) :: RvC o (zd (zZ V).2).2 :: vW lv (s.out.take p.told) :: yN ov qs2 :: yd mv mt :: qB b (yc (p, (kk : Int))) :: R) := H12
   clear H11
   refine qY (qJ (qG H12 (b := y) .here rfl ?_))
   refine qJ (qG H12 (b := b) e_5 rfl ?_)
   refine qJ (qr H12 (b := b) (off := 1) e_5 rfl (by omega) (l := Yh p.regs) rfl ?_)
   refine qJ (qG H12 (b := b) e_5 rfl ?_)
   refine qF (l := yc (⟨18, w, p.regs, p.told⟩, (kk : Int))) rfl ?_
   refine qf (n := 1) (l := yc (⟨18, w, p.regs, p.told⟩, (kk : Int))) (sz := 11) H12 rfl rfl rfl rfl fun v13 h13 H13 => ?_
   refine jc (H13.sel (P := yN ov qs2) e_4) (H13.sl .here) (by omega) (by omega) rfl fun v14 h14 H14 => ?_
   have o14 := H14.one .here
   refine qY (qJ ?_)
   refine qi H14 (b := y) e_2 o14 (by show 15 < 17; omega) fun h15 H15 => ?_
   have ho : (zd (zZ V).2).1 = 0 := by
    unfold zd yW
    rw [hlv2, if_neg (by omega)]
   unfold jl at hD
   rw [if_pos ho] at hD
   subst hD
   have ht : (s.out.take p.told).length = p.told := by
    have := told.1
    simp; omega
   refine qj (qW ⟨rfl, RefC.I (s := { { yB s p with opn := ⟨18, w, p.regs, (s.out.take p.told).length⟩ :: r } with pc := w + 1 }) (kind := 0) (lv := lv) (ov := v14) (mv := mv) (qs := (⟨18, w, p.regs, p.told⟩, (kk : Int)) :: qs2) ?_ ?_⟩)
   ·show AtsQ _ (⟨18, w, p.regs, (s.out.take p.told).length⟩ :: r)
    rw [ht]
    exact e2.push fun h => by cases h
   ·show HS g h15 (qB y (xl sv lv v14 mv o 0 err left (w + 1) p.regs) :: vW lv (s.out.take p.told) :: qA 208 11 (qs2.length + 1) v14 (((⟨18, w, p.regs, p.told⟩, (kk : Int)) :: qs2).reverse.flatMap yc) :: yd mv mt :: RvC o (zd (zZ V).2).2 :: R)
    rw [kj]
    exact H15.sub (.cons .here (.cons e_3 (.cons .here (.cons e_2 (.cons e_1 (.drop (.drop .refl)))))))
  ·rw [if_neg h17] at hD
   rw [show decide ((p, z).1.op = 17) = false from decide_eq_false h17]
   refine jj (qV ?_)
   exact hih r.length _ _ (by simp) ⟨r, (zZ V).2, rfl, rfl, by omega, H8.sub (.cons .here (.cons e_1 (.drop .refl))), GD, hlv2, told.tail, fun q hq => hm q (List.mem_cons_of_mem _ hq), hD⟩
theorem UC {n : Nat} (hn : 3 ≤ n) {V : VM} (O : OkV V) (hf : frS V.lv < 1000000) {lv ov mv : AV} {q : PtM × Int} {qs : List (PtM × Int)} {r : List PtM} (e : AtsQ qs r) (hq : qs.length ≤ 100) {K0 : AH → Go.Ae.R} {Q : AV → AH → Prop}
  (H : HS g h (qB y (xl sv lv ov mv o kind err left s.pc s.regs) :: vW lv s.out :: yN ov (q :: qs) :: yd mv mt :: RvC o V :: R)) (w : ∀ h', HS g h' (RefC y o sv mt { s with opn := r } kind err left :: RvC o (yZ V).2 :: R) → wp (K0 h') Q) :
  wp (zF (.ptr y 0) fun v62 => qd v62 1 fun v63 => jK h v63 fun v64 => zF v64 fun v65 => qd v65 2 fun v66 => jK h v66 fun v67 => jP (callT tab qy n) (.fn 68 [] []) [v67] h fun _ h69 => zF (.ptr y 0) fun v70 => qd v70 15 fun v71 => jK h69 v71 fun v72 =>
   jJ .sub (.int .i64 ((q :: qs).length : Int)) (.int .i64 ((1 : Nat) : Int)) fun v73 => ze h69 208 11 v72 none (some v73) fun v74 => zF (.ptr y 0) fun v75 => qd v75 15 fun v76 => jV h69 v76 v74 1 fun h77 => K0 h77) Q := by
 refine qY (qJ (qG H (b := y) .here rfl ?_))
 refine qX1 hn O hf (H.sel (P := RvC o V) e_4) fun h3 H3 => ?_
 refine qY (qJ (qG H3 (b := y) e_1 rfl ?_))
 rw [show ((q :: qs).length : Int) = ((qs.length + 1 : Nat) : Int) from rfl]
 refine qc (by omega) ?_
 rw [show ((qs.length + 1 : Nat) : Int) - ((1 : Nat) : Int) = (qs.length : Int) by omega]
 refine yj (H3.sel (P := yN ov (q :: qs)) e_3) (by omega) (by simp) fun ov2 H6 => ?_
 rw [GT] at H6
 have o6 := H6.one .here
 refine qY (qJ ?_)
 refine qi H6 (b := y) e_2 o6 (by show 15 < 17; omega) fun h7 H7 => ?_
 have H7 : HS g h7 (qB y (xl sv lv ov2 mv o kind err left s.pc s.regs) :: yN ov2 qs :: RvC o (yZ V).2 :: vW lv s.out :: yd mv mt :: R) := H7
 exact w h7 (RefC.I (s := { s with opn := r }) (lv := lv) (ov := ov2) (mv := mv) e (H7.sub (.cons .here (.cons e_2 (.cons .here (.cons e_1 (.cons .here .refl)))))))
theorem VS {z : Int} {K0 : AH → Go.Ae.R} {Q : AV → AH → Prop} (H : HS g h (RefC y o sv mt s kind err left :: R)) (w : ∀ h', HS g h' (RefC y o sv mt { s with pc := z } kind err left :: R) → wp (K0 h') Q) :
  wp (zF (.ptr y 0) fun v => qd v 10 fun v => jV h v (.int .i64 z) 1 K0) Q := by
 obtain ⟨lv, ov, mv, qs, e, H⟩ := RefC.E H
 refine qY (qJ ?_)
 refine qi H (b := y) .here ⟨rfl, rfl⟩ (by show 10 < 17; omega) fun h1 H1 => ?_
 exact w _ (RefC.I (s := { s with pc := z }) (lv := lv) (ov := ov) (mv := mv) e H1)
theorem qXa {z : Int} {kk : Nat} {K0 : AH → Go.Ae.R} {Q : AV → AH → Prop} (h1 : s.pc = kk) (h2 : mt[kk]? = some z) (h3 : -1 ≤ z ∧ z ≤ 1000) (H : HS g h (RefC y o sv mt s kind err left :: R)) (w : ∀ h', HS g h' (RefC y o sv mt { s with pc := z + 1 } kind err left :: R) → wp (K0 h') Q) :
  wp (zF (.ptr y 0) fun v => qd v 16 fun v => jK h v fun v104 => zF (.ptr y 0) fun v => qd v 10 fun v => jK h v fun v107 => xL v104 v107 1 fun v108 => jK h v108 fun v109 => jJ .add v109 (.int .i64 ((1 : Nat) : Int)) fun v110 => zF (.ptr y 0) fun v => qd v 10 fun v => jV h v v110 1 K0) Q := by
 have hH := H
 obtain ⟨lv, ov, mv, qs, e, H⟩ := RefC.E H
 refine qY (qJ (qG H (b := y) .here rfl ?_))
 refine qY (qJ (qG H (b := y) .here rfl ?_))
 rw [h1]
 refine jN (H.sl e_3) (MtAt.idx h2).1 (qE (by omega) ?_)
 exact VS hH w
theorem Ot {n : Nat} (hn : 5 ≤ n) {V : VM} {x : qO} {l : List qO} (P : DoP l mt s V x) (hlv : V.lv.length = s.opn.length + 1) (h5 : s.opn.length ≤ 5) (hb : x.1 = 14 ∨ x.1 = 17 → s.opn.length < 5) (hf : frS V.lv < 1000000) (hx : 14 ≤ x.1 ∧ x.1 ≤ 20)
  (H : HS g h (RefC y o sv mt s 0 err left :: RvC o V :: R)) :
  wp (callT tab qy n (.fn 96 [] []) [.ptr y 0, .agg (qe x)] h) fun r h' => r = .int .i64 0 ∧ (yJ mt s V x.1).e = 0 ∧
   HS g h' (RefC y o sv mt { (yJ mt s V x.1).s with pc := (yJ mt s V x.1).nx } (if (yJ mt s V x.1).blk = true then 3 else 0) err left :: RvC o (yJ mt s V x.1).v :: R) := by
 (refine qM (g := (tD2 S96)) rfl (by omega) fun k hk => ?_; show wp (S96 (callT tab qy k) _ _ _).1 _; unfold S96; try simp only [ Int.ofNat_eq_natCast])
 have G := P.good
 have told := P.told
 have hout := P.out
 have hpc := P.pc
 have hne := P.ne
 have hmt := P.mt
 have hm := P.ways
 refine qb H rfl fun b h1 H1 => ?_
 have H1 : HS g h1 (qB b (qe x) :: RefC y o sv mt s 0 err left :: RvC o V :: R) := H1
 obtain ⟨lv, ov, mv, qs, e, H2⟩ := RefC.E (H1.sel (P := RefC y o sv mt s 0 err left) e_1)
 have el := e.len
 refine qY (qJ (qG H2 (b := y) .here rfl ?_))
 refine qa H2 e_2 ?_
 refine qJ (qG H1 (b := b) .here rfl ?_)
 unfold yJ
 generalize hop : x.1 = op at *
 have hc : op = 14 ∨ op = 17 ∨ op = 15 ∨ op = 19 ∨ op = 18 ∨ op = 16 ∨ op = 20 := by omega
 have begins : (op = 14 ∨ op = 17) → wp (zF (.ptr y 0) fun v17 => qd v17 1 fun v18 => jK h1 v18 fun v19 => zF v19 fun v20 => qd v20 2 fun v21 => jK h1 v21 fun v22 => jP (callT tab qy k) (.fn 147 [] []) [v22] h1 fun v23 h24 =>
   jJ .neq v23 (.int .i64 ((0 : Nat) : Int)) fun v25 => jL v25 (jA [] h24 fun h26 => some (v23, h26)) (zF (.ptr y 0) fun v27 => qd v27 15 fun v28 => jK h24 v28 fun v29 => zF (.ptr y 0) fun v30 => qd v30 10 fun v31 => jK h24 v31 fun v32 =>
   zF (.ptr y 0) fun v33 => qd v33 2 fun v34 => jh h24 v34 8 fun v35 => zF (.ptr y 0) fun v36 => qd v36 12 fun v37 => jK h24 v37 fun v38 => xn v38 fun v39 => qd (.ptr b 0) 0 fun v40 => jK h24 v40 fun v41 => jJ .eql v41 (.int .i64 ((17 : Nat) : Int)) fun v42 =>
   jb [.int .i64 ((0 : Nat) : Int), .int .u64 ((0 : Nat) : Int), .int .u64 ((0 : Nat) : Int), .int .u64 ((0 : Nat) : Int), .int .u64 ((0 : Nat) : Int), .int .u64 ((0 : Nat) : Int), .int .u64 ((0 : Nat) : Int), .int .u64 ((0 : Nat) : Int), .int .u64 ((0 : Nat) : Int), .int .i64 ((0 : Nat) : Int), .bool false] [(0, 1, v32), (1, 8, v35), (9, 1, v39), (10, 1, v42)] fun v43 =>
   j4 h24 208 [.int .i64 ((0 : Nat) : Int), .int .u64 ((0 : Nat) : Int), .int .u64 ((0 : Nat) : Int), .int .u64 ((0 : Nat) : Int), .int .u64 ((0 : Nat) : Int), .int .u64 ((0 : Nat) : Int), .int .u64 ((0 : Nat) : Int), .int .u64 ((0 : Nat) : Int), .int .u64 ((0 : Nat) : Int), .int .i64 ((0 : Nat) : Int), .bool false] 1 [(0, 11, v43)] fun v44 h45 =>
   j0 h45 208 11 v29 v44 fun v46 h47 => zF (.ptr y 0) fun v48 => qd v48 15 fun v49 => jV h47 v49 v46 1 fun h50 => zF (.ptr y 0) fun v51 => qd v51 10 fun v52 => jK h50 v52 fun v53 => jJ .add v53 (.int .i64 ((1 : Nat) : Int)) fun v54 =>
   zF (.ptr y 0) fun v55 => qd v55 10 fun v56 => jV h50 v56 v54 1 fun h57 => jA [] h57 fun h12 => some (.int .i64 ((0 : Nat) : Int), h12))) fun r h' => r = .int .i64 0 ∧ (jl op s.pc (s.pc + 1) s V).e = 0 ∧
    HS g h' (RefC y o sv mt { (jl op s.pc (s.pc + 1) s V).s with pc := (jl op s.pc (s.pc + 1) s V).nx } (if (jl op s.pc (s.pc + 1) s V).blk = true then 3 else 0) err left :: RvC o (jl op s.pc (s.pc + 1) s V).v :: R) := by
  intro c
  have hb := hb c
  have ho : (zd V).1 = 0 := by
   unfold zd yW
   rw [hlv, if_neg (by omega)]
  unfold jl
  rw [if_pos ho]
  refine qY (qJ (qG H2 (b := y) .here rfl ?_))
  refine ZB (by omega) G.ok (H2.sel (P := RvC o V) e_5) fun h3 H3 => ?_
  refine qt ho (qQ ?_)
  refine qY (qJ (qG H3 (b := y) e_1 rfl ?_))
  refine qY (qJ (qG H3 (b := y) e_1 rfl ?_))
  refine qY (qJ (qr H3 (b := y) (off := 2) e_1 rfl (by omega) (l := Yh s.regs) rfl ?_))
  refine qY (qJ (qG H3 (b := y) e_1 rfl ?_))
  refine qa H3 e_2 ?_
  refine qJ (qG H3 (b := b) e_5 (x := .int .i64 op) (by rw [← hop]; rfl) ?_)
  refine gU ?_
  refine qF (l := yc (⟨op, s.pc, s.regs, s.out.length⟩, s.pc)) rfl ?_
  refine qf (n := 1) (l := yc (⟨op, s.pc, s.regs, s.out.length⟩, s.pc)) (sz := 11) H3 rfl rfl rfl rfl fun v13 h13 H13 => ?_
  refine jc (H13.sel (P := yN ov qs) e_4) (H13.sl .here) (by omega) (by omega) rfl fun v14 h14 H14 => ?_
  have o14 := H14.one .here
  refine qY (qJ ?_)
  refine qi H14 (b := y) e_3 o14 (by show 15 < 17; omega) fun h15 H15 => ?_
  have H15 : HS g h15 (qB y (xl sv lv v14 mv o 0 err left s.pc s.regs) :: _) := H15
  refine qY (qJ (qG H15 (b := y) .here rfl ?_))
  refine qE (by omega) (qY (qJ ?_))
  refine qi H15 (b := y) .here ⟨rfl, rfl⟩ (by show 10 < 17; omega) fun h16 H16 => ?_
  refine qj (qW ⟨rfl, rfl, RefC.I (s := { { s with opn := ⟨op, s.pc, s.regs, s.out.length⟩ :: s.opn } with pc := s.pc + 1 }) (kind := 0) (lv := lv) (ov := v14) (mv := mv) (qs := (⟨op, s.pc, s.regs, s.out.length⟩, s.pc) :: qs) (e.push fun _ => rfl) ?_⟩)
  show HS g h16 (qB y (xl sv lv v14 mv o 0 err left (s.pc + 1) s.regs) :: vW lv s.out :: qA 208 11 (qs.length + 1) v14 (((⟨op, s.pc, s.regs, s.out.length⟩, s.pc) :: qs).reverse.flatMap yc) :: yd mv mt :: RvC o (zd V).2 :: R)
  rw [kj]
  exact H16.sub (.cons .here (.cons e_3 (.cons .here (.cons e_2 (.cons e_1 (.drop (.drop .refl)))))))
 rcases hc with c | c | c | c | c | c | c
 all_goals repeat (first | with_reducible refine qX (by omega) ?_ | with_reducible refine qg (by omega) ?_ | (with_reducible refine qK ?_; try dsimp only) | with_reducible refine qV ?_ | with_reducible refine qQ ?_)
 ·rw [if_pos (.inl c)]; exact begins (.inl c)
 ·rw [if_pos (.inr c)]; exact begins (.inr c)
 rotate_right
 ·rw [if_neg (by omega), if_neg (by omega), if_neg (by omega), if_neg (by omega)]
  refine qq (MG (by omega) G hlv h5 told hm hpc (H1.sub (L' := RefC y o sv mt s 0 err left :: RvC o V :: qB b (qe x) :: R) (.cons e_1 (.cons e_1 (.cons .here .refl))))) ?_
  rintro _ h3 ⟨e3, H3⟩
  exact qj (qW ⟨rfl, e3, H3.sub (.cons .here (.cons .here (.drop .refl)))⟩)
 all_goals
  obtain ⟨p, r, ho⟩ : ∃ p r, s.opn = p :: r := List.exists_cons_of_ne_nil (hne (by omega))
  rw [ho] at e hlv told hm
  obtain ⟨z, qs, rfl, e, hz⟩ := e.cons
  have el := e.len
  rw [ho] at h5
  simp at h5
 ·rw [if_neg (by omega), if_pos (.inl c)]
  refine UC (by omega) G.ok hf e (by omega) (H2.sub (L' := qB y (xl sv lv ov mv o 0 err left s.pc s.regs) :: vW lv s.out :: yN ov ((p, z) :: qs) :: yd mv mt :: RvC o V :: qB b (qe x) :: R) (.cons .here (.cons .here (.cons .here (.cons .here (.cons e_1 (.cons .here .refl))))))) fun h3 H3 => ?_
  obtain ⟨lv2, ov2, mv2, qs2, e2, H4⟩ := RefC.E H3
  refine qY (qJ (qG H4 (b := y) .here rfl (qE (by show -9223372036854775808 ≤ s.pc + ((1 : Nat) : Int) ∧ s.pc + ((1 : Nat) : Int) ≤ 9223372036854775807; omega) ?_)))
  refine VS H3 fun h5 H5 => ?_
  rw [ho]
  exact qj (qW ⟨rfl, (yu (by rw [hlv]; simp)).1, H5.sub (.cons .here (.cons .here (.drop .refl)))⟩)
 ·rw [if_neg (by omega), if_pos (.inr c)]
  refine UC (by omega) G.ok hf e (by omega) (H2.sub (L' := qB y (xl sv lv ov mv o 0 err left s.pc s.regs) :: vW lv s.out :: yN ov ((p, z) :: qs) :: yd mv mt :: RvC o V :: qB b (qe x) :: R) (.cons .here (.cons .here (.cons .here (.cons .here (.cons e_1 (.cons .here .refl))))))) fun h3 H3 => ?_
  obtain ⟨lv2, ov2, mv2, qs2, e2, H4⟩ := RefC.E H3
  refine qY (qJ (qG H4 (b := y) .here rfl (qE (by show -9223372036854775808 ≤ s.pc + ((1 : Nat) : Int) ∧ s.pc + ((1 : Nat) : Int) ≤ 9223372036854775807; omega) ?_)))
  refine VS H3 fun h5 H5 => ?_
  rw [ho]
  exact qj (qW ⟨rfl, (yu (by rw [hlv]; simp)).1, H5.sub (.cons .here (.cons .here (.drop .refl)))⟩)
 ·rw [if_neg (by omega), if_neg (by omega), if_pos c]
  obtain ⟨kk, hk1, w, hk2, hk3, hk4⟩ := hmt (.inl c)
  rw [MtAt.num hk1 hk2, ho]
  refine UC (by omega) G.ok hf e (by omega) (H2.sub (L' := qB y (xl sv lv ov mv o 0 err left s.pc s.regs) :: vW lv s.out :: yN ov ((p, z) :: qs) :: yd mv mt :: RvC o V :: qB b (qe x) :: R) (.cons .here (.cons .here (.cons .here (.cons .here (.cons e_1 (.cons .here .refl))))))) fun h3 H3 => ?_
  refine qXa (s := { s with opn := r }) hk1 hk2 ⟨hk3, hk4⟩ H3 fun h5 H5 => ?_
  exact qj (qW ⟨rfl, (yu (by rw [hlv]; simp)).1, H5.sub (.cons .here (.cons .here (.drop .refl)))⟩)
 ·rw [if_neg (by omega), if_neg (by omega), if_neg (by omega), if_pos c]
  obtain ⟨kk, hk1, w, hk2, hk3, hk4⟩ := hmt (.inr c)
  rw [MtAt.num hk1 hk2, ho]
  have H2 := H2.sub (L' := qB y (xl sv lv ov mv o 0 err left s.pc s.regs) :: vW lv s.out :: yN ov ((p, z) :: qs) :: yd mv mt :: RvC o V :: qB b (qe x) :: R) (.cons .here (.cons .here (.cons .here (.cons .here (.cons e_1 (.cons .here .refl))))))
  refine qY (qJ (qG H2 (b := y) .here rfl ?_))
  rw [show (((p, z) :: qs).length : Int) = ((qs.length + 1 : Nat) : Int) from rfl]
  refine qc (by omega) ?_
  rw [show ((qs.length + 1 : Nat) : Int) - ((1 : Nat) : Int) = (qs.length : Int) by omega]
  refine zG (l := yc (p, z)) (H2.sl e_2) (i := qs.length) (by simp) (by omega) V5 ?_
  refine qb H2 rfl fun b2 h3 H3 => jq H3 .here rfl (by show 0 + 11 ≤ 11; omega) rfl fun h4 H4 => ?_
  have H4 : HS g h4 (qB b2 (yc (p, z)) :: qB y (xl sv lv ov mv o 0 err left s.pc s.regs) :: vW lv s.out :: yN ov ((p, z) :: qs) :: yd mv mt :: RvC o V :: qB b (qe x) :: R) := H4
  clear H3 H1
  refine qY (qJ (qG H4 (b := y) e_1 rfl ?_))
  refine Zv (by omega) G.ok (H4.sel (P := RvC o V) e_5) fun h5 H5 => ?_
  clear H4
  refine qY (qJ (qG H5 (b := y) e_2 rfl ?_))
  refine qc (by omega) ?_
  rw [show ((qs.length + 1 : Nat) : Int) - ((1 : Nat) : Int) = (qs.length : Int) by omega]
  refine yj (H5.sel (P := yN ov ((p, z) :: qs)) e_4) (by omega) (by simp) fun ov2 H6 => ?_
  rw [GT] at H6
  have o6 := H6.one .here
  refine qY (qJ ?_)
  refine qi H6 (b := y) e_3 o6 (by show 15 < 17; omega) fun h7 H7 => ?_
  have H7 : HS g h7 (qB y (xl sv lv ov2 mv o 0 err left s.pc s.regs) :: yN ov2 qs :: RvC o (zZ V).2 :: qB b2 (yc (p, z)) :: vW lv s.out :: yd mv mt :: qB b (qe x) :: R) := H7
  clear H5 H6
  have H8 : HS g h7 (RefC y o sv mt { s with opn := r } 0 err left :: qB b2 (yc (p, z)) :: RvC o (zZ V).2 :: qB b (qe x) :: R) := RefC.I (s := { s with opn := r }) (lv := lv) (ov := ov2) (mv := mv) e (H7.sub (.cons .here (.cons e_3 (.cons .here (.cons e_2 (.cons e_1 (.cons .here .refl)))))))
  refine qK ?_
  dsimp only
  refine qXS (s := { s with opn := r }) told.1 H8 fun h9 H9 => ?_
  refine qXa (s := yB { s with opn := r } p) hk1 hk2 ⟨hk3, hk4⟩ H9 fun h10 H10 => ?_
  exact qj (qW ⟨rfl, (vp (by rw [hlv]; simp)).1, H10.sub (.cons .here (.cons e_1 (.drop (.drop .refl))))⟩)
end
end Go.Proofs.YtdlfmpmpmkffjaaGreatDoor
namespace Go.Proofs.YtdlfmpmpmkffjaaGreatDoor
open Go Go.Ae
set_option maxRecDepth 100000
variable {g h : AH} {L R : List SP}
theorem Jj {n : Nat} (hn : 1 ≤ n) {b off : Int} (hb : 0 ≤ b ∧ b < 18446744073709551616) (ho : 0 ≤ off ∧ off ≤ 100) :
  wp (callT tab qy n (.fn 142 [] []) [.int .u64 b, .int .i64 off] h) fun r h' => r = .int .i64 (if (jm b off).2 = 0 then (jm b off).1 else -1) ∧ h' = h := by
 (refine qM (g := (tD2 S142)) rfl (by omega) fun k hk => ?_; show wp (S142 (callT tab qy k) _ _ _).1 _; unfold S142; try simp only [ Int.ofNat_eq_natCast])
 by_cases h1 : 2147483648 ≤ b
 ·rw [show jm b off = (0, 2) by unfold jm; rw [if_pos (.inl h1)]]
  with_reducible (refine jZ (by omega) ?_; refine qK ?_; (try dsimp only); refine qS ?_; (try dsimp only); refine qC ?_; refine qK ?_; (try dsimp only); refine qS ?_; (try dsimp only); refine qC ?_; refine qV ?_)
  exact qW ⟨rfl, rfl⟩
 by_cases h2 : 2147483648 ≤ b + off
 ·rw [show jm b off = (0, 2) by unfold jm; rw [if_pos (.inr (.inl h2))]]
  with_reducible (refine q8 (by omega) ?_; refine qK ?_; (try dsimp only); refine qw ?_; (try dsimp only); refine jF (by omega) ?_; refine qE (by omega) ?_; refine jZ (by omega) ?_; refine qx ?_; refine qK ?_; (try dsimp only); refine qS ?_; (try dsimp only); refine qC ?_; refine qV ?_)
  exact qW ⟨rfl, rfl⟩
 by_cases h3 : b + off < 6
 ·rw [show jm b off = (0, 2) by unfold jm; rw [if_pos (.inr (.inr h3))]]
  with_reducible (refine q8 (by omega) ?_; refine qK ?_; (try dsimp only); refine qw ?_; (try dsimp only); refine jF (by omega) ?_; refine qE (by omega) ?_; refine q8 (by omega) ?_; refine qx ?_; refine qK ?_; (try dsimp only); refine qw ?_; (try dsimp only); refine jF (by omega) ?_; refine qE (by omega) ?_; refine jw (by omega) ?_; refine qx ?_; refine qV ?_)
  exact qW ⟨rfl, rfl⟩
 ·rw [show jm b off = (b + off, 0) by unfold jm; rw [if_neg (by omega)]]
  with_reducible (refine q8 (by omega) ?_; refine qK ?_; (try dsimp only); refine qw ?_; (try dsimp only); refine jF (by omega) ?_; refine qE (by omega) ?_; refine q8 (by omega) ?_; refine qx ?_; refine qK ?_; (try dsimp only); refine qw ?_; (try dsimp only); refine jF (by omega) ?_; refine qE (by omega) ?_; refine jW (by omega) ?_; refine qx ?_; refine qQ ?_; refine jF (by omega) ?_; refine qE (by omega) ?_)
  exact qW ⟨rfl, rfl⟩
def Vt (op a b : Int) : Int := if op = 3 then js .u64 (a + b) else if op = 4 then js .u64 (a - b) else if op = 5 then js .u64 (a * b) else if op = 6 then vZ (a < b) else vZ (a = b)
theorem U5 {n : Nat} (hn : 1 ≤ n) {op a b : Int} (ho : 3 ≤ op ∧ op ≤ 7) : wp (callT tab qy n (.fn 94 [] []) [.int .i64 op, .int .u64 a, .int .u64 b] h) fun r h' => r = .int .u64 (Vt op a b) ∧ h' = h := by
 (refine qM (g := (tD3 S94)) rfl (by omega) fun k hk => ?_; show wp (S94 (callT tab qy k) _ _ _ _).1 _; unfold S94; try simp only [ Int.ofNat_eq_natCast])
 unfold Vt
 by_cases c3 : op = 3
 ·rw [if_pos c3]
  with_reducible (refine qK ?_; (try dsimp only); refine qg (by omega) ?_; refine qV ?_)
  exact Gi (qW ⟨rfl, rfl⟩)
 rw [if_neg c3]
 by_cases c4 : op = 4
 ·rw [if_pos c4]
  with_reducible (refine qK ?_; (try dsimp only); refine qX (by omega) ?_; refine qQ ?_; refine qg (by omega) ?_; refine qV ?_)
  exact GE (qW ⟨rfl, rfl⟩)
 rw [if_neg c4]
 by_cases c5 : op = 5
 ·rw [if_pos c5]
  with_reducible (refine qK ?_; (try dsimp only); refine qX (by omega) ?_; refine qQ ?_; refine qX (by omega) ?_; refine qQ ?_; refine qg (by omega) ?_; refine qV ?_)
  exact VE (qW ⟨rfl, rfl⟩)
 rw [if_neg c5]
 by_cases c6 : op = 6
 ·rw [if_pos c6]
  by_cases h : a < b
  ·with_reducible (refine qK ?_; (try dsimp only); refine qX (by omega) ?_; refine qQ ?_; refine qX (by omega) ?_; refine qQ ?_; refine qX (by omega) ?_; refine qQ ?_; refine qg (by omega) ?_; refine qV ?_; refine jw (by omega) ?_; refine qV ?_)
   exact qW ⟨by unfold vZ; rw [if_pos h]; rfl, rfl⟩
  ·with_reducible (refine qK ?_; (try dsimp only); refine qX (by omega) ?_; refine qQ ?_; refine qX (by omega) ?_; refine qQ ?_; refine qX (by omega) ?_; refine qQ ?_; refine qg (by omega) ?_; refine qV ?_; refine jW (by omega) ?_; refine qQ ?_; refine qj ?_)
   exact qW ⟨by unfold vZ; rw [if_neg h]; rfl, rfl⟩
 ·rw [if_neg c6]
  by_cases h : a = b
  ·with_reducible (refine qK ?_; (try dsimp only); refine qX (by omega) ?_; refine qQ ?_; refine qX (by omega) ?_; refine qQ ?_; refine qX (by omega) ?_; refine qQ ?_; refine qX (by omega) ?_; refine qQ ?_; refine qg (by omega) ?_; refine qV ?_; refine qg (by omega) ?_; refine qV ?_)
   exact qW ⟨by unfold vZ; rw [if_pos h]; rfl, rfl⟩
  ·with_reducible (refine qK ?_; (try dsimp only); refine qX (by omega) ?_; refine qQ ?_; refine qX (by omega) ?_; refine qQ ?_; refine qX (by omega) ?_; refine qQ ?_; refine qX (by omega) ?_; refine qQ ?_; refine qg (by omega) ?_; refine qV ?_; refine qX (by omega) ?_; refine qQ ?_; refine qj ?_)
   exact qW ⟨by unfold vZ; rw [if_neg h]; rfl, rfl⟩
theorem qZ3 {M : VM} {p z : Int} (hp : 1 ≤ p ∧ p < M.sz) : jT M [(p, z)] = ((xC M.most M.lv p z).1, { M with lv := (xC M.most M.lv p z).2 }) := by
 unfold jT
 rw [if_pos (by intro c hc; rw [List.mem_singleton] at hc; subst hc; exact hp), xS]
 split
 ·rename_i h0; rw [h0]; rfl
 ·rename_i h0
  have hx := KS h0
  rw [hx]
theorem qQf {M : VM} {p z : Int} (hp : ¬ (1 ≤ p ∧ p < M.sz)) : jT M [(p, z)] = (2, M) := by
 unfold jT
 rw [if_neg (fun hh => hp (hh (p, z) (List.mem_singleton_self _)))]
theorem Yi {s : IM} {V : VM} {x : qO} (h : (jr s V x).1 ≠ 0) : (jr s V x).2.1 = s := by
 unfold jr at h ⊢
 repeat' split
 all_goals first | rfl | skip
 all_goals (exfalso; simp_all)
section
variable {y o : Nat} {sv : AV} {mt : List Int} {s : IM} {kind err left : Int}
theorem qXP {n : Nat} (hn : 8 ≤ n) {V : VM} {x : qO} (G : jS V) (ro : gO s.regs) (hop : x.1 = 8 ∨ x.1 = 9 ∨ x.1 = 10 ∨ x.1 = 11) (ha : 0 ≤ x.2.1 ∧ x.2.1 ≤ 7) (hb : 0 ≤ x.2.2.1 ∧ x.2.2.1 ≤ 7) (hc : 0 ≤ x.2.2.2.1 ∧ x.2.2.2.1 ≤ 100)
  (H : HS g h (RefC y o sv mt s kind err left :: RvC o V :: R)) :
  wp (callT tab qy n (.fn 95 [] []) [.ptr y 0, .agg (qe x)] h) fun r h' => r = .int .i64 (jr s V x).1 ∧ HS g h' (RefC y o sv mt (jr s V x).2.1 kind err left :: RvC o (jr s V x).2.2 :: R) := by
 (refine qM (g := (tD2 S95)) rfl (by omega) fun k hk => ?_; show wp (S95 (callT tab qy k) _ _ _).1 _; unfold S95; try simp only [ Int.ofNat_eq_natCast])
 refine qb H rfl fun b h1 H1 => ?_
 have H1 : HS g h1 (qB b (qe x) :: RefC y o sv mt s kind err left :: RvC o V :: R) := H1
 have HB := H1.sub (L' := RefC y o sv mt s kind err left :: RvC o V :: qB b (qe x) :: R) (.cons e_1 (.cons e_1 (.cons .here .refl)))
 clear H
 obtain ⟨lv, ov, mv, qs, e, H2⟩ := RefC.E HB
 obtain ⟨a, hax⟩ : ∃ a : Nat, x.2.1 = a := ⟨x.2.1.toNat, by omega⟩
 obtain ⟨bb, hbx⟩ : ∃ a : Nat, x.2.2.1 = a := ⟨x.2.2.1.toNat, by omega⟩
 have ha8 : a < 8 := by omega
 have hb8 : bb < 8 := by omega
 have hra := ro.at (a : Int)
 have hrb := ro.at (bb : Int)
 have ldA : (qe x)[1]? = some (.int .i64 (a : Int)) := by rw [← hax]; rfl
 have ldB : (qe x)[2]? = some (.int .i64 (bb : Int)) := by rw [← hbx]; rfl
 unfold jr
 rw [hax, hbx]
 refine qJ (qG H1 (b := b) .here rfl ?_)
 have res : ∀ {h' : AH} {V' : VM} {a0 : Nat} {z : Int}, a0 < 8 → HS g h' (RefC y o sv mt s kind err left :: RvC o V' :: qB b (qe x) :: R) → ∀ {K0 : AH → Go.Ae.R} {Q}, (∀ h'', HS g h'' (RefC y o sv mt (setR s (a0 : Int) z) kind err left :: RvC o V' :: R) → wp (K0 h'') Q) →
   wp (zF (.ptr y 0) fun v => qd v 2 fun v => yR v (.int .i64 (a0 : Int)) 8 1 fun v => jV h' v (.int .u64 z) 1 K0) Q := by
  intro h' V' a0 z h8 H' K0 Q w
  obtain ⟨lv, ov, mv, qs, e, H3⟩ := RefC.E H'
  refine qY (qJ (zl h8 ?_))
  refine qi H3 (b := y) .here ⟨rfl, rfl⟩ (by show 2 + a0 * 1 < 17; omega) fun h4 H4 => w h4 ?_
  exact (VU e ro.len h8 rfl H4).sub (.cons .here (.cons .here (.drop .refl)))
 by_cases c8 : x.1 = 8
 ·rw [if_pos c8]
  refine qg c8 (qV ?_)
  refine qJ (qG H1 (b := b) .here ldB ?_)
  refine qY (qJ (zl hb8 (qG H2 (b := y) .here (xc hb8) ?_)))
  refine qJ (qG H1 (b := b) .here rfl ?_)
  refine qq (Jj (by omega) hrb hc) ?_
  rintro _ _ ⟨rfl, rfl⟩
  by_cases h0 : (jm (qD s.regs (bb : Int)) x.2.2.2.1).2 = 0
  ·rw [if_pos h0, if_pos h0]
   have hpl : 6 ≤ (jm (qD s.regs (bb : Int)) x.2.2.2.1).1 := by
    unfold jm at h0 ⊢
    split
    ·rename_i hh; rw [if_pos hh] at h0; cases h0
    ·dsimp only; omega
   generalize (jm (qD s.regs (bb : Int)) x.2.2.2.1).1 = p at *
   refine jW (by omega) (qQ ?_)
   refine qY (qJ (qG H2 (b := y) .here rfl ?_))
   refine qq (vt (by omega) (HB.sel (P := RvC o V) e_1) G.ok) ?_
   rintro _ h3 ⟨rfl, H3⟩
   refine qz rfl (qz rfl (qK ?_))
   try dsimp only
   by_cases h4 : (qP V p).1.2 = 0
   ·rw [if_pos h4]
    refine qg h4 (qV ?_)
    refine qJ (qG H3 (b := b) e_2 ldA ?_)
    refine res ha8 (H3.sub (.cons e_1 (.cons .here (.cons .here .refl)))) fun h5 H5 => ?_
    exact qj (qW ⟨by rw [h4], H5⟩)
   ·rw [if_neg h4]
    refine qX h4 (qQ ?_)
    exact qj (qW ⟨rfl, H3.sub (.cons e_1 (.cons .here (.drop .refl)))⟩)
  ·rw [if_neg h0, if_neg h0]
   refine jw (by omega) (qV ?_)
   exact qW ⟨rfl, HB.sub (.cons .here (.cons .here (.drop .refl)))⟩
 rw [if_neg c8]
 refine qX c8 (qQ ?_)
 by_cases c9 : x.1 = 9
 ·rw [if_pos c9]
  refine qg c9 (qV ?_)
  refine qJ (qG H1 (b := b) .here ldA ?_)
  refine qY (qJ (zl ha8 (qG H2 (b := y) .here (xc ha8) ?_)))
  refine qJ (qG H1 (b := b) .here rfl ?_)
  refine qq (Jj (by omega) hra hc) ?_
  rintro _ _ ⟨rfl, rfl⟩
  by_cases h0 : (jm (qD s.regs (a : Int)) x.2.2.2.1).2 = 0
  ·rw [if_pos h0, if_pos h0]
   have hpl : 6 ≤ (jm (qD s.regs (a : Int)) x.2.2.2.1).1 := by
    unfold jm at h0 ⊢
    split
    ·rename_i hh; rw [if_pos hh] at h0; cases h0
    ·dsimp only; omega
   generalize (jm (qD s.regs (a : Int)) x.2.2.2.1).1 = p at *
   refine jW (by omega) (qK ?_)
   try dsimp only
   refine qw ?_
   try dsimp only
   refine qY (qJ (qG H2 (b := y) .here rfl ?_))
   refine qq (JM (by omega) (HB.sel (P := RvC o V) e_1)) ?_
   rintro _ _ ⟨rfl, rfl⟩
   by_cases hin : 1 ≤ p ∧ p < V.sz
   ·rw [decide_eq_true hin, qZ3 hin]
    refine qn (qx (qQ ?_))
    obtain ⟨kv, q, H3⟩ := RvC.E (H2.sel (P := RvC o V) e_4)
    refine qY (qJ (qG H2 (b := y) .here rfl ?_))
    refine qY (qJ (qG H3 (b := o) .here rfl ?_))
    refine qJ (qG H1 (b := b) .here ldB ?_)
    refine qY (qJ (zl hb8 (qG H2 (b := y) .here (xc hb8) ?_)))
    refine qq (KB (by omega) (H3.sel (P := RgC q V.most V.lv) e_2) G.ok.lvs) ?_
    rintro _ h4 ⟨rfl, H4⟩
    have H5 : HS g h4 (RefC y o sv mt s kind err left :: RgC q V.most (xC V.most V.lv p (qD s.regs (bb : Int))).2 :: qB o [.int .i64 (V.sz : Int), kv, .ptr q 0, .int .i64 V.need] :: qA 67 2 V.K.length kv (V.K.flatMap jk) :: qB b (qe x) :: R) :=
     RefC.I e (H4.sub (.cons e_3 (.cons e_3 (.cons e_3 (.cons e_3 (.cons .here (.cons .here (.cons .here (.cons .here .refl)))))))))
    refine qW ⟨rfl, ?_⟩
    have H6 := RvC.I (o := o) (M := { V with lv := (xC V.most V.lv p (qD s.regs (bb : Int))).2 }) (kv := kv) (q := q) (R := RefC y o sv mt s kind err left :: R) (H5.sub (.cons e_2 (.cons e_2 (.cons e_1 (.cons .here (.drop .refl))))))
    exact H6.sub (.cons e_1 (.cons .here .refl))
   ·rw [decide_eq_false hin, qQf hin]
    refine jj (qx (qV ?_))
    exact qW ⟨rfl, HB.sub (.cons .here (.cons .here (.drop .refl)))⟩
  ·rw [if_neg h0, if_neg h0]
   refine jw (by omega) (qK ?_)
   try dsimp only
   refine qS ?_
   try dsimp only
   refine qC (qV ?_)
   exact qW ⟨rfl, HB.sub (.cons .here (.cons .here (.drop .refl)))⟩
 rw [if_neg c9]
 refine qX c9 (qQ ?_)
 by_cases c10 : x.1 = 10
 ·rw [if_pos c10]
  refine qg c10 (qV ?_)
  refine qJ (qG H1 (b := b) .here ldB ?_)
  refine qY (qJ (zl hb8 (qG H2 (b := y) .here (xc hb8) ?_)))
  by_cases h0 : 2147483648 ≤ qD s.regs (bb : Int)
  ·rw [if_pos h0]
   refine jZ (by omega) (qV ?_)
   exact qW ⟨rfl, HB.sub (.cons .here (.cons .here (.drop .refl)))⟩
  ·rw [if_neg h0]
   refine q8 (by omega) (qQ ?_)
   refine qY (qJ (qG H2 (b := y) .here rfl ?_))
   refine qJ (qG H1 (b := b) .here ldB ?_)
   refine qY (qJ (zl hb8 (qG H2 (b := y) .here (xc hb8) ?_)))
   refine jF (by omega) ?_
   refine qq (M5 (by omega) (HB.sel (P := RvC o V) e_1) G.ok G.wd) ?_
   rintro _ h3 ⟨rfl, H3⟩
   refine qz rfl (qz rfl (qK ?_))
   try dsimp only
   by_cases h4 : (zv V (qD s.regs (bb : Int))).1.2 = 0
   ·rw [if_pos h4]
    have hbb := Gd (x := qD s.regs (bb : Int)) G.wd h4
    refine qg h4 (qV ?_)
    refine qJ (qG H3 (b := b) e_2 ldA ?_)
    refine zV (by omega) ?_
    refine res ha8 (H3.sub (.cons e_1 (.cons .here (.cons .here .refl)))) fun h5 H5 => ?_
    exact qj (qW ⟨by rw [h4], H5⟩)
   ·rw [if_neg h4]
    refine qX h4 (qQ ?_)
    exact qj (qW ⟨rfl, H3.sub (.cons e_1 (.cons .here (.drop .refl)))⟩)
 ·rw [if_neg c10]
  refine qX c10 (qQ ?_)
  refine qJ (qG H1 (b := b) .here ldA ?_)
  refine qY (qJ (zl ha8 (qG H2 (b := y) .here (xc ha8) ?_)))
  by_cases h0 : 2147483648 ≤ qD s.regs (a : Int)
  ·rw [if_pos h0]
   refine jZ (by omega) (qV ?_)
   exact qW ⟨rfl, HB.sub (.cons .here (.cons .here (.drop .refl)))⟩
  ·rw [if_neg h0]
   refine q8 (by omega) (qQ ?_)
   refine qY (qJ (qG H2 (b := y) .here rfl ?_))
   refine qJ (qG H1 (b := b) .here ldA ?_)
   refine qY (qJ (zl ha8 (qG H2 (b := y) .here (xc ha8) ?_)))
   refine jF (by omega) ?_
   refine qq (Zz (by omega) (HB.sel (P := RvC o V) e_1) G.ok G.wd) ?_
   rintro _ h3 ⟨rfl, H3⟩
   exact qW ⟨rfl, H3.sub (.cons e_1 (.cons .here (.drop .refl)))⟩
end
end Go.Proofs.YtdlfmpmpmkffjaaGreatDoor
namespace Go.Proofs.YtdlfmpmpmkffjaaGreatDoor
open Go Go.Ae
set_option maxRecDepth 100000
variable {g h : AH} {L R : List SP}
section
variable {y o : Nat} {sv : AV} {mt : List Int} {s : IM} {kind err left : Int}
theorem qQn {mt : List Int} {s : IM} {V : VM} {x : qO} (h : 3 ≤ x.1 ∧ x.1 ≤ 7) : doM mt s V x = ⟨0, s.pc + 1, false, setR s x.2.1 (Vt x.1 (qD s.regs x.2.2.1) (qD s.regs x.2.2.2.1)), V⟩ := by
 unfold doM Vt
 rw [if_neg (by omega), if_neg (by omega)]
 by_cases c3 : x.1 = 3
 ·rw [if_pos c3, if_pos c3]
 rw [if_neg c3, if_neg c3]
 by_cases c4 : x.1 = 4
 ·rw [if_pos c4, if_pos c4]
 rw [if_neg c4, if_neg c4]
 by_cases c5 : x.1 = 5
 ·rw [if_pos c5, if_pos c5]
 rw [if_neg c5, if_neg c5]
 by_cases c6 : x.1 = 6
 ·rw [if_pos c6, if_pos c6]
 rw [if_neg c6, if_neg c6, if_pos (by omega)]
set_option maxHeartbeats 4000000 in
theorem OL {n : Nat} (hn : 9 ≤ n) {V : VM} {x : qO} {l : List qO} (P : DoP l mt s V x) (hlv : V.lv.length = s.opn.length + 1) (h5 : s.opn.length ≤ 5) (hb : x.1 = 14 ∨ x.1 = 17 → s.opn.length < 5) (hf : frS V.lv < 1000000)
  (H : HS g h (RefC y o sv mt s 0 err left :: RvC o V :: R)) :
  wp (callT tab qy n (.fn 63 [] []) [.ptr y 0, .agg (qe x)] h) fun r h' => r = .int .i64 (doM mt s V x).e ∧
   HS g h' (RefC y o sv mt (if (doM mt s V x).e = 0 then { (doM mt s V x).s with pc := (doM mt s V x).nx } else s) (if (doM mt s V x).blk = true then 3 else 0) err left :: RvC o (doM mt s V x).v :: R) := by
 (refine qM (g := (tD2 S63)) rfl (by omega) fun k hk => ?_; show wp (S63 (callT tab qy k) _ _ _).1 _; unfold S63; try simp only [ Int.ofNat_eq_natCast])
 have G := P.good
 have ro := P.regs
 have hpc := P.pc
 have hout := P.out
 refine qb H rfl fun b h1 H1 => ?_
 have H1 : HS g h1 (qB b (qe x) :: RefC y o sv mt s 0 err left :: RvC o V :: R) := H1
 have HB := H1.sub (L' := RefC y o sv mt s 0 err left :: RvC o V :: qB b (qe x) :: R) (.cons e_1 (.cons e_1 (.cons .here .refl)))
 clear H
 obtain ⟨lv, ov, mv, qs, e, H2⟩ := RefC.E HB
 obtain ⟨a, hax⟩ : ∃ a : Nat, x.2.1 = a := ⟨x.2.1.toNat, by have := P.a; omega⟩
 obtain ⟨bb, hbx⟩ : ∃ a : Nat, x.2.2.1 = a := ⟨x.2.2.1.toNat, by have := P.b; omega⟩
 have ha8 : a < 8 := by have := P.a; omega
 have hb8 : bb < 8 := by have := P.b; omega
 have ldA : (qe x)[1]? = some (.int .i64 (a : Int)) := by rw [← hax]; rfl
 have ldB : (qe x)[2]? = some (.int .i64 (bb : Int)) := by rw [← hbx]; rfl
 refine qY (qJ (qG H2 (b := y) .here rfl (qE (by omega) ?_)))
 refine qJ (qG H1 (b := b) .here rfl ?_)
 have res : ∀ {h' : AH} {a0 : Nat} {z : Int}, a0 < 8 → HS g h' (RefC y o sv mt s 0 err left :: RvC o V :: qB b (qe x) :: R) → ∀ {K0 : AH → Go.Ae.R} {Q}, (∀ h'', HS g h'' (RefC y o sv mt (setR s (a0 : Int) z) 0 err left :: RvC o V :: qB b (qe x) :: R) → wp (K0 h'') Q) →
   wp (zF (.ptr y 0) fun v => qd v 2 fun v => yR v (.int .i64 (a0 : Int)) 8 1 fun v => jV h' v (.int .u64 z) 1 K0) Q := by
  intro h' a0 z h8 H' K0 Q w
  obtain ⟨lv, ov, mv, qs, e, H3⟩ := RefC.E H'
  refine qY (qJ (zl h8 ?_))
  refine qi H3 (b := y) .here ⟨rfl, rfl⟩ (by show 2 + a0 * 1 < 17; omega) fun h4 H4 => w h4 ?_
  exact VU e ro.len h8 rfl H4
 have fin : ∀ {e nx : Int} {s' : IM} {V' : VM} {h0 : AH} {D : SM}, HS g h0 (RefC y o sv mt s' 0 err left :: RvC o V' :: qB b (qe x) :: R) → (e ≠ 0 → s' = s) → D = ⟨e, nx, false, s', V'⟩ →
   wp (jJ .eql (.int .i64 e) (.int .i64 ((0 : Nat) : Int)) fun v17 => jL v17 (zF (.ptr y 0) fun v18 => qd v18 10 fun v19 => jV h0 v19 (.int .i64 nx) 1 fun h20 => jA [] h20 fun h16 => some (.int .i64 e, h16)) (jA [] h0 fun h16 => some (.int .i64 e, h16)))
    fun r h' => r = .int .i64 D.e ∧ HS g h' (RefC y o sv mt (if D.e = 0 then { D.s with pc := D.nx } else s) (if D.blk = true then 3 else 0) err left :: RvC o D.v :: R) := by
  rintro e nx s' V' h0 D H0 he rfl
  by_cases h : e = 0
  ·refine qg h (qV ?_)
   refine VS H0 fun h3 H3 => qj (qW ⟨rfl, ?_⟩)
   dsimp only
   rw [if_pos h]
   exact H3.sub (.cons .here (.cons .here (.drop .refl)))
  ·refine qX h (qQ (qj (qW ⟨rfl, ?_⟩)))
   dsimp only
   rw [if_neg h, ← he h]
   exact H0.sub (.cons .here (.cons .here (.drop .refl)))
 have hop := P.op
 have hc : x.1 = 1 ∨ x.1 = 2 ∨ (x.1 = 3 ∨ x.1 = 4 ∨ x.1 = 5 ∨ x.1 = 6 ∨ x.1 = 7) ∨ (x.1 = 8 ∨ x.1 = 9 ∨ x.1 = 10 ∨ x.1 = 11) ∨ x.1 = 12 ∨ x.1 = 13 ∨ x.1 = 21 ∨ x.1 = 22 ∨ (14 ≤ x.1 ∧ x.1 ≤ 20) := by omega
 have reck : (3 ≤ x.1 ∧ x.1 ≤ 7) → wp (qd (.ptr b 0) 1 fun v50 => jK h1 v50 fun v51 => qd (.ptr b 0) 0 fun v52 => jK h1 v52 fun v53 => qd (.ptr b 0) 2 fun v54 => jK h1 v54 fun v55 => zF (.ptr y 0) fun v56 => qd v56 2 fun v57 => yR v57 v55 8 1 fun v58 => jK h1 v58 fun v59 =>
   qd (.ptr b 0) 3 fun v60 => jK h1 v60 fun v61 => zF (.ptr y 0) fun v62 => qd v62 2 fun v63 => yR v63 v61 8 1 fun v64 => jK h1 v64 fun v65 => jP (callT tab qy k) (.fn 94 [] []) [v53, v59, v65] h1 fun v66 h67 => zF (.ptr y 0) fun v68 => qd v68 2 fun v69 => yR v69 v51 8 1 fun v70 =>
   jV h67 v70 v66 1 fun h71 => wN v50 none v51 h1 h67 h1.nx <| jJ .eql (.int .i64 ((0 : Nat) : Int)) (.int .i64 ((0 : Nat) : Int)) fun v17 => jL v17 (zF (.ptr y 0) fun v18 => qd v18 10 fun v19 => jV h71 v19 (.int .i64 (s.pc + ((1 : Nat) : Int))) 1 fun h20 => jA [] h20 fun h16 => some (.int .i64 ((0 : Nat) : Int), h16))
    (jA [] h71 fun h16 => some (.int .i64 ((0 : Nat) : Int), h16))) fun r h' => r = .int .i64 (doM mt s V x).e ∧
   HS g h' (RefC y o sv mt (if (doM mt s V x).e = 0 then { (doM mt s V x).s with pc := (doM mt s V x).nx } else s) (if (doM mt s V x).blk = true then 3 else 0) err left :: RvC o (doM mt s V x).v :: R) := by
  intro c
  obtain ⟨cc, hcx⟩ : ∃ a : Nat, x.2.2.2.1 = a := ⟨x.2.2.2.1.toNat, by have := P.c; omega⟩
  have hc8 : cc < 8 := by have := P.c7 c; omega
  have ldC : (qe x)[3]? = some (.int .i64 (cc : Int)) := by rw [← hcx]; rfl
  refine qJ (qG H1 (b := b) .here ldA ?_)
  refine qJ (qG H1 (b := b) .here rfl ?_)
  refine qJ (qG H1 (b := b) .here ldB ?_)
  refine qY (qJ (zl hb8 (qG H2 (b := y) .here (xc hb8) ?_)))
  refine qJ (qG H1 (b := b) .here ldC ?_)
  refine qY (qJ (zl hc8 (qG H2 (b := y) .here (xc hc8) ?_)))
  refine qq (U5 (by omega) c) ?_
  rintro _ _ ⟨rfl, rfl⟩
  refine res ha8 HB fun h3 H3 => ?_
  refine je H1 (b := b) .here ldA H1 .here ldA (HS.lt H1 .here) ?_
  refine fin H3 (fun h => absurd rfl h) ?_
  rw [qQn c, hax, hbx, hcx]; rfl
 have mem : (x.1 = 8 ∨ x.1 = 9 ∨ x.1 = 10 ∨ x.1 = 11) → wp (jh h1 (.ptr b 0) 5 fun v76 => jP (callT tab qy k) (.fn 95 [] []) [.ptr y 0, v76] h1 fun v77 h78 => jJ .eql v77 (.int .i64 ((0 : Nat) : Int)) fun v17 =>
   jL v17 (zF (.ptr y 0) fun v18 => qd v18 10 fun v19 => jV h78 v19 (.int .i64 (s.pc + ((1 : Nat) : Int))) 1 fun h20 => jA [] h20 fun h16 => some (v77, h16)) (jA [] h78 fun h16 => some (v77, h16))) fun r h' => r = .int .i64 (doM mt s V x).e ∧
   HS g h' (RefC y o sv mt (if (doM mt s V x).e = 0 then { (doM mt s V x).s with pc := (doM mt s V x).nx } else s) (if (doM mt s V x).blk = true then 3 else 0) err left :: RvC o (doM mt s V x).v :: R) := by
  intro c
  refine qr H1 (b := b) (off := 0) .here rfl (by omega) (l := qe x) rfl ?_
  refine qq (qXP (by omega) G ro c P.a P.b P.c HB) ?_
  rintro _ h3 ⟨rfl, H3⟩
  refine fin H3 Yi ?_
  unfold doM
  rw [if_neg (by omega), if_neg (by omega), if_neg (by omega), if_neg (by omega), if_neg (by omega), if_neg (by omega), if_neg (by omega), if_neg (by omega), if_neg (by omega), if_neg (by omega), if_neg (by omega), if_pos c]; rfl
 rcases hc with c | c | (c | c | c | c | c) | (c | c | c | c) | c | c | c | c | c
 all_goals repeat (first | with_reducible refine qX (by omega) ?_ | with_reducible refine qg (by omega) ?_ | (with_reducible refine qK ?_; try dsimp only) | with_reducible refine qV ?_ | with_reducible refine qQ ?_)
 ·refine qJ (qG H1 (b := b) .here ldA ?_)
  refine qJ (qG H1 (b := b) .here rfl ?_)
  refine res ha8 HB fun h3 H3 => ?_
  refine fin H3 (fun h => absurd rfl h) ?_
  unfold doM
  rw [if_pos c, hax]; rfl
 ·refine qJ (qG H1 (b := b) .here ldA ?_)
  refine qJ (qG H1 (b := b) .here ldB ?_)
  refine qY (qJ (zl hb8 (qG H2 (b := y) .here (xc hb8) ?_)))
  refine res ha8 HB fun h3 H3 => ?_
  refine fin H3 (fun h => absurd rfl h) ?_
  unfold doM
  rw [if_neg (by omega), if_pos c, hax, hbx]; rfl
 ·exact reck (by omega)
 ·exact reck (by omega)
 ·exact reck (by omega)
 ·exact reck (by omega)
 ·exact reck (by omega)
 ·exact mem (by omega)
 ·exact mem (by omega)
 ·exact mem (by omega)
 ·exact mem (by omega)
 ·refine qJ (qG H1 (b := b) .here rfl ?_)
  refine fin HB (fun h => absurd rfl h) ?_
  unfold doM
  rw [if_neg (by omega), if_neg (by omega), if_neg (by omega), if_neg (by omega), if_neg (by omega), if_neg (by omega), if_neg (by omega), if_pos c]; rfl
 ·refine qJ (qG H1 (b := b) .here ldA ?_)
  refine qY (qJ (zl ha8 (qG H2 (b := y) .here (xc ha8) ?_)))
  have ed : doM mt s V x = ⟨0, if qD s.regs (a : Int) = 0 then x.2.2.2.1 else s.pc + 1, false, s, V⟩ := by
   unfold doM
   rw [if_neg (by omega), if_neg (by omega), if_neg (by omega), if_neg (by omega), if_neg (by omega), if_neg (by omega), if_neg (by omega), if_neg (by omega), if_pos c, hax]
  by_cases hz : qD s.regs (a : Int) = 0
  ·refine qg hz (qV ?_)
   refine qJ (qG H1 (b := b) .here rfl ?_)
   refine fin HB (fun h => absurd rfl h) ?_
   rw [ed, if_pos hz]; rfl
  ·refine qX hz (qQ ?_)
   refine fin HB (fun h => absurd rfl h) ?_
   rw [ed, if_neg hz]; rfl
 ·refine qY (qJ (qG H2 (b := y) .here rfl ?_))
  refine qa H2 e_1 ?_
  by_cases h16 : 16 ≤ s.out.length
  ·refine jZ (by omega) (qV (qj ?_))
   have ed : doM mt s V x = ⟨5, s.pc + 1, false, s, V⟩ := by
    unfold doM
    rw [if_neg (by omega), if_neg (by omega), if_neg (by omega), if_neg (by omega), if_neg (by omega), if_neg (by omega), if_neg (by omega), if_neg (by omega), if_neg (by omega), if_pos c, if_pos h16]
   rw [ed]
   exact qW ⟨rfl, HB.sub (.cons .here (.cons .here (.drop .refl)))⟩
  ·refine q8 (by omega) (qQ ?_)
   refine qY (qJ (qG H2 (b := y) .here rfl ?_))
   refine qJ (qG H1 (b := b) .here ldA ?_)
   refine qY (qJ (zl ha8 (qG H2 (b := y) .here (xc ha8) ?_)))
   refine qF (l := jk (1, qD s.regs (a : Int))) rfl ?_
   refine qf (n := 1) (l := jk (1, qD s.regs (a : Int))) (sz := 2) H2 rfl rfl rfl rfl fun v3 h3 H3 => ?_
   refine jc (H3.sel (P := vW lv s.out) e_2) (H3.sl .here) (by omega) (by omega) rfl fun v4 h4 H4 => ?_
   have o4 := H4.one .here
   refine qY (qJ ?_)
   refine qi H4 (b := y) e_2 o4 (by show 12 < 17; omega) fun h5 H5 => ?_
   have H5 : HS g h5 (qB y (xl sv v4 ov mv o 0 err left s.pc s.regs) :: qA 161 2 (s.out.length + 1) v4 (s.out.flatMap jk ++ jk (1, qD s.regs (a : Int))) :: qA 161 2 1 v3 (jk (1, qD s.regs (a : Int))) :: yN ov qs :: yd mv mt :: RvC o V :: qB b (qe x) :: R) := H5
   have H6 : HS g h5 (RefC y o sv mt { s with out := s.out ++ [(1, qD s.regs (a : Int))] } 0 err left :: RvC o V :: qB b (qe x) :: R) := RefC.I (s := { s with out := s.out ++ [(1, qD s.regs (a : Int))] }) (lv := v4) (ov := ov) (mv := mv) e (by
    show HS g h5 (qB y (xl sv v4 ov mv o 0 err left s.pc s.regs) :: qA 161 2 (s.out ++ [(1, qD s.regs (a : Int))]).length v4 ((s.out ++ [(1, qD s.regs (a : Int))]).flatMap jk) :: yN ov qs :: yd mv mt :: RvC o V :: qB b (qe x) :: R)
    rw [List.length_append, List.flatMap_append, List.flatMap_cons, List.flatMap_nil, List.append_nil]
    exact H5.sub (.cons .here (.cons .here (.drop .refl))))
   refine fin H6 (fun h => absurd rfl h) ?_
   unfold doM
   rw [if_neg (by omega), if_neg (by omega), if_neg (by omega), if_neg (by omega), if_neg (by omega), if_neg (by omega), if_neg (by omega), if_neg (by omega), if_neg (by omega), if_pos c, if_neg h16, hax]; rfl
 ·refine qj ?_
  have ed : doM mt s V x = ⟨13, s.pc + 1, false, s, V⟩ := by
   unfold doM
   rw [if_neg (by omega), if_neg (by omega), if_neg (by omega), if_neg (by omega), if_neg (by omega), if_neg (by omega), if_neg (by omega), if_neg (by omega), if_neg (by omega), if_neg (by omega), if_pos c]
  rw [ed]
  exact qW ⟨rfl, HB.sub (.cons .here (.cons .here (.drop .refl)))⟩
 ·have ed : doM mt s V x = yJ mt s V x.1 := by
   unfold doM
   rw [if_neg (by omega), if_neg (by omega), if_neg (by omega), if_neg (by omega), if_neg (by omega), if_neg (by omega), if_neg (by omega), if_neg (by omega), if_neg (by omega), if_neg (by omega), if_neg (by omega), if_neg (by omega)]
  rw [ed]
  refine qr H1 (b := b) (off := 0) .here rfl (by omega) (l := qe x) rfl ?_
  refine qq (Ot (by omega) P hlv h5 hb hf c HB) ?_
  rintro _ h3 ⟨rfl, e3, H3⟩
  refine qj (qW ⟨by rw [e3], ?_⟩)
  rw [if_pos e3]
  exact H3.sub (.cons .here (.cons .here (.drop .refl)))
end
theorem qJs {mt : List Int} {s : IM} : ∀ {r : List PtM} {V : VM}, V.lv.length = r.length + 1 → r.length ≤ 5 → (zR mt r s V).e = 0 := by
 intro r
 induction r with
 | nil => intro V _ _; rfl
 | cons p r ih =>
  intro V h1 h2
  have hd := vp (V := V) (by rw [h1]; simp)
  simp at h2
  have hl : (zZ V).2.lv.length = r.length + 1 := by rw [hd.2, List.length_tail, h1]; simp
  unfold zR
  rw [if_pos hd.1]
  split
  ·have ho : (zd (zZ V).2).1 = 0 := by
    unfold zd yW
    rw [hl, if_neg (by omega)]
   unfold jl
   rw [if_pos ho]
  ·exact ih hl (by omega)
theorem qK1 {mt : List Int} {s : IM} {V : VM} {x : qO} {l : List qO} (P : DoP l mt s V x) (hlv : V.lv.length = s.opn.length + 1) (h5 : s.opn.length ≤ 5) (hb : x.1 = 14 ∨ x.1 = 17 → s.opn.length < 5) : (yJ mt s V x.1).e = 0 := by
 have hne : (x.1 = 15 ∨ x.1 = 19 ∨ x.1 = 18 ∨ x.1 = 16) → 2 ≤ V.lv.length := by
  intro c
  have := P.ne c
  have : s.opn.length ≠ 0 := fun h => this (List.eq_nil_of_length_eq_zero h)
  omega
 unfold yJ
 by_cases c1 : x.1 = 14 ∨ x.1 = 17
 ·rw [if_pos c1]
  have hb := hb c1
  have ho : (zd V).1 = 0 := by
   unfold zd yW
   rw [hlv, if_neg (by omega)]
  unfold jl
  rw [if_pos ho]
 rw [if_neg c1]
 by_cases c2 : x.1 = 15 ∨ x.1 = 19
 ·rw [if_pos c2]; exact (yu (hne (by omega))).1
 rw [if_neg c2]
 by_cases c3 : x.1 = 18
 ·rw [if_pos c3]; exact (yu (hne (by omega))).1
 rw [if_neg c3]
 by_cases c4 : x.1 = 16
 ·rw [if_pos c4]; exact (vp (hne (by omega))).1
 rw [if_neg c4]
 exact qJs hlv h5
theorem qXl {mt : List Int} {s : IM} {V : VM} {x : qO} (ht : (yJ mt s V x.1).e = 0) (h : (doM mt s V x).e ≠ 0) : (doM mt s V x).s = s := by
 unfold doM at h ⊢
 by_cases c1 : x.1 = 1
 ·rw [if_pos c1] at h; exact absurd rfl h
 rw [if_neg c1] at h ⊢
 by_cases c2 : x.1 = 2
 ·rw [if_pos c2] at h; exact absurd rfl h
 rw [if_neg c2] at h ⊢
 by_cases c3 : x.1 = 3
 ·rw [if_pos c3] at h; exact absurd rfl h
 rw [if_neg c3] at h ⊢
 by_cases c4 : x.1 = 4
 ·rw [if_pos c4] at h; exact absurd rfl h
 rw [if_neg c4] at h ⊢
 by_cases c5 : x.1 = 5
 ·rw [if_pos c5] at h; exact absurd rfl h
 rw [if_neg c5] at h ⊢
 by_cases c6 : x.1 = 6
 ·rw [if_pos c6] at h; exact absurd rfl h
 rw [if_neg c6] at h ⊢
 by_cases c7 : x.1 = 7
 ·rw [if_pos c7] at h; exact absurd rfl h
 rw [if_neg c7] at h ⊢
 by_cases c12 : x.1 = 12
 ·rw [if_pos c12]
 rw [if_neg c12] at h ⊢
 by_cases c13 : x.1 = 13
 ·rw [if_pos c13]
 rw [if_neg c13] at h ⊢
 by_cases c21 : x.1 = 21
 ·rw [if_pos c21] at h ⊢
  by_cases h16 : 16 ≤ s.out.length
  ·rw [if_pos h16]
  ·rw [if_neg h16] at h; exact absurd rfl h
 rw [if_neg c21] at h ⊢
 by_cases c22 : x.1 = 22
 ·rw [if_pos c22]
 rw [if_neg c22] at h ⊢
 by_cases ct : x.1 = 8 ∨ x.1 = 9 ∨ x.1 = 10 ∨ x.1 = 11
 ·rw [if_pos ct] at h ⊢
  exact Yi h
 ·rw [if_neg ct] at h
  exact absurd ht h
section
variable {y o : Nat} {sv : AV} {s : IM} {kind : Int}
theorem UG {K0 : AH → Go.Ae.R} {Q : AV → AH → Prop} {mt : List Int} {k1 k2 err left : Int} (H : HS g h (RefC y o sv mt s k1 err left :: R)) (w : ∀ h', HS g h' (RefC y o sv mt s k2 err left :: R) → wp (K0 h') Q) :
  wp (zF (.ptr y 0) fun v => qd v 13 fun v => jV h v (.int .i64 k2) 1 K0) Q := by
 obtain ⟨lv, ov, mv, qs, e, H⟩ := RefC.E H
 refine qY (qJ ?_)
 refine qi H (b := y) .here ⟨rfl, rfl⟩ (by show 13 < 17; omega) fun h1 H1 => ?_
 exact w _ (RefC.I (lv := lv) (ov := ov) (mv := mv) e H1)
theorem rerr {K0 : AH → Go.Ae.R} {Q : AV → AH → Prop} {mt : List Int} {e1 e2 left : Int} (H : HS g h (RefC y o sv mt s kind e1 left :: R)) (w : ∀ h', HS g h' (RefC y o sv mt s kind e2 left :: R) → wp (K0 h') Q) :
  wp (zF (.ptr y 0) fun v => qd v 14 fun v => jV h v (.int .i64 e2) 1 K0) Q := by
 obtain ⟨lv, ov, mv, qs, e, H⟩ := RefC.E H
 refine qY (qJ ?_)
 refine qi H (b := y) .here ⟨rfl, rfl⟩ (by show 14 < 17; omega) fun h1 H1 => ?_
 exact w _ (RefC.I (lv := lv) (ov := ov) (mv := mv) e H1)
theorem qJl {n : Nat} (hn : 10 ≤ n) {l : List qO} (F : Fit l) (Q : Quiet l) {left : Nat} {V : VM} (G : GI l s V) (hf : frS V.lv + left < 9000) (hl : left ≤ 1000) (S : Rd g R 5 l.length sv (l.flatMap qe)) (hkd : kind = 0 ∨ kind = 1)
  (H : HS g h (RefC y o sv (qU l) s kind 0 left :: RvC o V :: R)) :
  wp (callT tab qy n (.fn 26 [] []) [.ptr y 0] h) fun r h' => r = .int .i64 (zP l (qU l) left s V).kind ∧
   HS g h' (RefC y o sv (qU l) (zP l (qU l) left s V).s (zP l (qU l) left s V).kind (zP l (qU l) left s V).err ((zP l (qU l) left s V).left : Int) :: RvC o (zP l (qU l) left s V).v :: R) := by
 (refine qM (g := (tD1 S26)) rfl (by omega) fun k hk => ?_; show wp (S26 (callT tab qy k) _ _).1 _; unfold S26; try simp only [ Int.ofNat_eq_natCast])
 generalize hRM : zP l (qU l) left s V = RM
 refine zM [] (fun st h' => st = (.ptr y 0, ()) ∧ HS g h' (RefC y o sv (qU l) RM.s RM.kind RM.err (RM.left : Int) :: RvC o RM.v :: R)) ?_ ?_
 rotate_left
 ·rintro st h1 ⟨rfl, H1⟩
  dsimp only
  obtain ⟨lv, ov, mv, qs, e, H2⟩ := RefC.E H1
  refine qY (qJ (qG H2 (b := y) .here rfl ?_))
  exact qj (qW ⟨rfl, H1⟩)
 intro j hj
 refine jz (fun m st h' => st = (.ptr y 0, ()) ∧ ((∃ (s' : IM) (V' : VM) (left' : Nat) (kind' : Int), m = left' + 1 ∧ left' ≤ 1000 ∧ GI l s' V' ∧ frS V'.lv + left' < 9000 ∧ zP l (qU l) left' s' V' = RM ∧ (kind' = 0 ∨ kind' = 1) ∧ HS g h' (RefC y o sv (qU l) s' kind' 0 left' :: RvC o V' :: R)) ∨
   (m = 0 ∧ RM.kind ≠ 0 ∧ RM.kind ≠ 1 ∧ HS g h' (RefC y o sv (qU l) RM.s RM.kind RM.err (RM.left : Int) :: RvC o RM.v :: R))))
  ?_ (m := left + 1) (by show _ < 1000000000; omega) ⟨rfl, .inl ⟨s, V, left, kind, rfl, hl, G, hf, hRM, hkd, H⟩⟩
 clear H G hf hRM hl hkd
 rintro m ih st h2 hih ⟨rfl, ⟨s, V, left, kind, rfl, hl, G, hf, hRM, hkd, H⟩ | ⟨rfl, hk0, hk1, H⟩⟩
 rotate_left
 ·dsimp only
  obtain ⟨lv, ov, mv, qs, e, H1⟩ := RefC.E H
  refine qY (qJ (qG H1 (b := y) .here rfl ?_))
  refine qX hk0 (qK ?_)
  try dsimp only
  refine qw ?_
  try dsimp only
  refine qY (qJ (qG H1 (b := y) .here rfl ?_))
  refine qX hk1 (qx (qQ ?_))
  exact hj _ _ ⟨rfl, H⟩
 dsimp only
 have hlen := F.le
 obtain ⟨lv, ov, mv, qs, e, H1⟩ := RefC.E H
 refine qY (qJ (qG H1 (b := y) .here rfl ?_))
 refine gU ?_
 refine QM (fun st h' => ∃ (u : Bool) (r : AV), st = (r, .bool u, .ptr y 0, ()) ∧ h' = h2 ∧ (u = false → r = .bool true)) ?_ ?_
 ·intro j2 hj2
  rcases hkd with rfl | rfl
  ·rw [decide_eq_true (show (0 : Int) = ((0 : Nat) : Int) from rfl)]
   refine qS ?_
   exact hj2 _ _ ⟨true, _, rfl, rfl, fun h => by cases h⟩
  ·rw [decide_eq_false (show ¬ (1 : Int) = ((0 : Nat) : Int) by decide)]
   refine qw ?_
   refine qY (qJ (qG H1 (b := y) .here rfl ?_))
   refine qg rfl ?_
   exact hj2 _ _ ⟨false, _, rfl, rfl, fun _ => rfl⟩
 rintro st h2 ⟨u, r, rfl, rfl, hu⟩
 dsimp only
 have hp : ∀ {K : AV → Go.Ae.R} {Q}, wp (K (.bool true)) Q → wp (yX (.bool u) (.bool true) r K) Q := by
  intro K Q w
  cases u
  ·rw [hu rfl]; exact w
  ·exact w
 refine hp (qV ?_)
 clear H1 e
 refine UG H fun h3 H3 => ?_
 clear H
 obtain ⟨i, hi, hil⟩ := G.pc
 obtain ⟨lv, ov, mv, qs, e, H1⟩ := RefC.E H3
 refine qY (qJ (qG H1 (b := y) .here rfl ?_))
 refine qY (qJ (qJ (qG H1 (b := y) .here rfl ?_)))
 refine zq (S.sl H1.drop.drop.drop.drop.drop) ?_
 by_cases h0 : s.pc = l.length
 ·refine jZ (by omega) (qV ?_)
  rw [Kz h0] at hRM
  subst hRM
  refine UG H3 fun h4 H4 => hj _ _ ⟨rfl, H4⟩
 refine q8 (by omega) (qQ ?_)
 refine qY (qJ (qG H1 (b := y) .here rfl ?_))
 cases left with
 | zero =>
  refine qg rfl (qV ?_)
  rw [QG, if_neg h0] at hRM
  subst hRM
  exact UG H3 fun h4 H4 => rerr H4 fun h5 H5 => hj _ _ ⟨rfl, H5⟩
 | succ left =>
  refine qX (by omega) (qQ ?_)
  rw [QY, if_neg h0] at hRM
  have hlt : i < l.length := by omega
  have St := Jc F G hi hlt (by omega) (Q.at hlt).2 (Q.at hlt).1
  have P := qQl F G hi hlt (Q.at hlt).1
  have hol := QU G
  rw [hi, Int.toNat_natCast] at hol
  have h5 := wW F i (by omega)
  have hb : (qL l i).1 = 14 ∨ (qL l i).1 = 17 → s.opn.length < 5 := fun c => by
   have := (zK (F.ok i hlt)).2.2 (by unfold zJ; exact decide_eq_true c)
   omega
  have herr := qXl (qK1 P G.lv (by omega) hb)
  refine qY (qJ (qJ (qG H1 (b := y) .here rfl ?_)))
  refine qY (qJ (qG H1 (b := y) .here rfl ?_))
  rw [hi]
  refine zG (l := qe l[i]) (S.sl H1.drop.drop.drop.drop.drop) hlt (by omega) (vS hlt) ?_
  clear H1 e
  rw [← zk hlt]
  refine qq (OL (by omega) P G.lv (by omega) hb (by omega) H3) ?_
  rintro _ h5 ⟨rfl, H5⟩
  rw [hi] at hRM
  generalize doM (qU l) s V (qL l i) = D at *
  by_cases h1 : D.e = 0
  ·rw [if_pos h1] at hRM H5
   refine qX (by omega) (qQ ?_)
   refine qt h1 (qQ ?_)
   obtain ⟨lv, ov, mv, qs, e, H6⟩ := RefC.E H5
   refine qY (qJ (qG H6 (b := y) .here rfl (qc (by omega) ?_)))
   rw [show ((left + 1 : Nat) : Int) - ((1 : Nat) : Int) = (left : Int) by omega]
   refine qY (qJ ?_)
   refine qi H6 (b := y) .here ⟨rfl, rfl⟩ (by show 11 < 17; omega) fun h7 H7 => ?_
   have H8 : HS g h7 (RefC y o sv (qU l) { D.s with pc := D.nx } (if D.blk = true then 3 else 0) 0 left :: RvC o D.v :: R) := RefC.I (s := { D.s with pc := D.nx }) (lv := lv) (ov := ov) (mv := mv) e H7
   cases h2 : D.blk with
   | true =>
    rw [h2, if_pos rfl] at hRM H8
    subst hRM
    exact hih 0 _ _ (by omega) ⟨rfl, .inr ⟨rfl, by show (3 : Int) ≠ 0; decide, by show (3 : Int) ≠ 1; decide, H8⟩⟩
   | false =>
    rw [h2, if_neg (by simp)] at hRM H8
    have := St.fr
    exact hih (left + 1) _ _ (by omega) ⟨rfl, .inl ⟨_, D.v, left, 0, rfl, by omega, St.next h1 h2, by omega, hRM, .inl rfl, H8⟩⟩
  ·rw [if_neg h1] at hRM H5
   have hb : D.blk = false := by
    cases hb : D.blk with
    | false => rfl
    | true => exact absurd (St.bl hb) h1
   rw [hb, if_neg (by simp)] at H5
   rw [herr h1] at hRM
   by_cases h11 : D.e = 11
   ·rw [if_pos h11] at hRM
    subst hRM
    refine qg h11 (qV ?_)
    exact UG H5 fun h7 H7 => hj _ _ ⟨rfl, H7⟩
   ·rw [if_neg h11] at hRM
    subst hRM
    refine qX h11 (qQ ?_)
    refine jG h1 (qV ?_)
    exact UG H5 fun h7 H7 => rerr H7 fun h8 H8 => hj _ _ ⟨rfl, H8⟩
end
theorem qJc {n : Nat} (hn : 4 ≤ n) {l : List qO} {sv : AV} {o : Nat} {fuel : Int} (F : Fit l) (Q : Quiet l) (H : HS g h R) (S : Rd g R 5 l.length sv (l.flatMap qe)) :
  wp (callT tab qy n (.fn 25 [] []) [.agg [sv], .ptr o 0, .int .i64 fuel] h) fun r h' => ∃ y, r = .ptr y 0 ∧ HS g h' (RefC y o sv (qU l) X9 0 0 (gJ fuel : Nat) :: R) := by
 (refine qM (g := (tD3 S25)) rfl (by omega) fun k hk => ?_; show wp (S25 (callT tab qy k) _ _ _ _).1 _; unfold S25; try simp only [ Int.ofNat_eq_natCast])
 have o1 := vP (S.sl H)
 refine qb H (xg o1) fun b h1 H1 => ?_
 refine qr H1 (b := b) (off := 0) .here rfl (by omega) (l := [sv]) rfl ?_
 refine zp (zr ?_)
 rw [show min (max fuel ((0 : Nat) : Int)) ((400 : Nat) : Int) = ((gJ fuel : Nat) : Int) by unfold gJ; omega]
 refine qF (l := xl sv .nils .nils .nils o 0 0 (gJ fuel : Nat) 0 [0, 0, 0, 0, 0, 0, 0, 0]) rfl ?_
 refine qb H1 (by unfold xl; simp only [jQ, List.all_cons, o1.2]; rfl) fun y h2 H2 => ?_
 refine qr H2 (b := b) (off := 0) e_1 rfl (by omega) (l := [sv]) rfl ?_
 refine qq (Ne (by omega) F Q H2 S.more.more) ?_
 rintro _ h3 ⟨rv, mv, rfl, H3⟩
 have om := H3.one .here
 refine qz rfl (qz rfl (qz rfl (qz rfl ?_)))
 refine qY (qJ ?_)
 refine qi H3 (b := y) e_1 om (by show 16 < 17; omega) fun h4 H4 => ?_
 refine qK ?_
 try dsimp only
 refine qt rfl (qQ (qj (qW ⟨y, rfl, ?_⟩)))
 have H5 := (H4.nils (e := 208) (sz := 11)).nils (e := 161) (sz := 2)
 have hm := Yc l
 have H6 : HS g h4 (qA 161 2 0 .nils [] :: qA 208 11 0 .nils [] :: qB y (xl sv .nils .nils mv o 0 0 (gJ fuel : Nat) 0 [0, 0, 0, 0, 0, 0, 0, 0]) :: yd mv (qU l) :: qB b [sv] :: R) := by
  unfold yd
  rw [hm]
  exact H5
 exact RefC.I (s := X9) (lv := .nils) (ov := .nils) (mv := mv) (qs := []) ⟨rfl, fun q hq => by cases hq⟩ (H6.sub (.cons e_2 (.cons .here (.cons .here (.cons .here (.drop .refl))))))
end Go.Proofs.YtdlfmpmpmkffjaaGreatDoor
namespace Go.Proofs.YtdlfmpmpmkffjaaGreatDoor
open Go Go.Ae
theorem Qh {l t : List qO} {j : Nat} (h : j < l.length) : qL (l ++ t) (j : Int) = qL l (j : Int) := by
 unfold qL
 rw [Int.toNat_natCast, List.getElem?_append_left h]
theorem kW {l t : List qO} {k : Nat} {x : qO} (h : t[k]? = some x) : qL (l ++ t) ((l.length + k : Nat) : Int) = x := by
 unfold qL
 rw [Int.toNat_natCast, List.getElem?_append_right (by omega), show l.length + k - l.length = k by omega, h]; rfl
theorem vr {l t : List qO} : ∀ i, i ≤ l.length → qv (l ++ t) i = qv l i := by
 intro i
 induction i with
 | zero => intro _; rfl
 | succ i ih =>
  intro h
  rw [jg, jg, ih (by omega), Qh (by omega)]
theorem qJ0 {l t : List qO} {st : List Int} (h : StOk l.length st) : opM (l ++ t) st = opM l st := by
 unfold opM
 by_cases h0 : st = []
 ·rw [if_pos h0, if_pos h0]
 ·rw [if_neg h0, if_neg h0]
  have hb := h.inmost h0
  obtain ⟨p, hp⟩ : ∃ p : Nat, qm st = p := ⟨(qm st).toNat, by omega⟩
  rw [hp, Qh (by omega)]
theorem YV {l t : List qO} {st : List Int} {x : qO} (h : StOk l.length st) : zX (l ++ t) st x = zX l st x := by
 unfold zX
 rw [qJ0 h]
theorem StOk.mono {i j : Nat} {st : List Int} (h : StOk i st) (hij : i ≤ j) : StOk j st := fun y hy => by have := h y hy; omega
def ZX (l : List qO) (calm : Bool) (j : Nat) (x : qO) : Prop := (x.1 = 12 ∨ x.1 = 13) → ∃ c : Nat, x.2.2.2.1 = c ∧ c ≤ l.length ∧ qv l c = qv l j ∧ (calm = true → j < c)
structure Q3 (calm : Bool) (x : qO) : Prop where
  may : xd x = true
  no : x.1 ≠ 23
  n : 0 ≤ x.2.2.2.2 ∧ x.2.2.2.2 < 18446744073709551616
  cal : calm = true → x.1 ≠ 20 ∧ x.1 ≠ 22 ∧ x.1 ≠ 12
structure Bld (calm : Bool) (l : List qO) (st : List Int) : Prop where
  ok : ∀ x ∈ l, Q3 calm x
  wr : ∀ j, j < l.length → zX l (qv l j) (qL l j) = 0
  top : qv l l.length = st
  jp : ∀ j, j < l.length → ZX l calm j (qL l j)
  five : st.length ≤ 5
def jC (l : List qO) (st : List Int) : List Int := st.map fun p => (qL l p).1
theorem kA {l t : List qO} {st : List Int} (h : StOk l.length st) : jC (l ++ t) st = jC l st := by
 unfold jC
 refine List.map_congr_left fun p hp => ?_
 have := h p hp
 obtain ⟨q, rfl⟩ : ∃ q : Nat, p = q := ⟨p.toNat, by omega⟩
 rw [Qh (by omega)]
theorem Bld.stok {calm : Bool} {l : List qO} {st : List Int} (B : Bld calm l st) : StOk l.length st := by rw [← B.top]; exact (kf l.length).1
theorem Bld.nil (calm : Bool) : Bld calm [] [] := ⟨fun x hx => (by cases hx), fun j hj => (by simp at hj), rfl, fun j hj => (by simp at hj), (by simp)⟩
theorem Bld.ext {calm : Bool} {l t : List qO} {st : List Int} (B : Bld calm l st) (h1 : ∀ x ∈ t, Q3 calm x) (h2 : ∀ k, k < t.length → zX (l ++ t) (qv (l ++ t) (l.length + k)) (qL (l ++ t) ((l.length + k : Nat) : Int)) = 0)
  (h3 : ∀ k, k < t.length → ZX (l ++ t) calm (l.length + k) (qL (l ++ t) ((l.length + k : Nat) : Int))) (h5 : (qv (l ++ t) (l ++ t).length).length ≤ 5) : Bld calm (l ++ t) (qv (l ++ t) (l ++ t).length) := by
 refine ⟨?_, ?_, rfl, ?_, h5⟩
 ·intro x hx
  rcases List.mem_append.1 hx with hx | hx
  ·exact B.ok x hx
  ·exact h1 x hx
 ·intro j hj
  by_cases hjl : j < l.length
  ·rw [vr j (by omega), Qh hjl, YV ((kf j).1.mono (by omega))]
   exact B.wr j hjl
  ·have := h2 (j - l.length) (by simp at hj; omega)
   rwa [show l.length + (j - l.length) = j by omega] at this
 ·intro j hj
  by_cases hjl : j < l.length
  ·intro ho
   rw [Qh hjl] at ho ⊢
   obtain ⟨c, c1, c2, c3, c4⟩ := B.jp j hjl ho
   exact ⟨c, c1, by simp; omega, by rw [vr c c2, vr j (by omega)]; exact c3, c4⟩
  ·have := h3 (j - l.length) (by simp at hj; omega)
   rwa [show l.length + (j - l.length) = j by omega] at this
theorem NC {l : List qO} {x : qO} : qv (l ++ [x]) (l.length + 1) = qp (qv l l.length) l.length x.1 := by
 have e := kW (l := l) (t := [x]) (k := 0) (x := x) rfl
 rw [Nat.add_zero] at e
 rw [jg, vr _ (Nat.le_refl _), e]
theorem Bld.app {calm : Bool} {l : List qO} {st : List Int} (B : Bld calm l st) {x : qO} (h1 : Q3 calm x) (h2 : zX l st x = 0) (h3 : x.1 ≠ 12 ∧ x.1 ≠ 13) (h5 : (qp st l.length x.1).length ≤ 5) : Bld calm (l ++ [x]) (qp st l.length x.1) := by
 have e := kW (l := l) (t := [x]) (k := 0) (x := x) rfl
 rw [Nat.add_zero] at e
 have hs : qv (l ++ [x]) (l ++ [x]).length = qp st l.length x.1 := by
  rw [List.length_append, List.length_singleton, NC, B.top]
 rw [← hs] at h5 ⊢
 refine B.ext (by intro y hy; rw [List.mem_singleton] at hy; subst hy; exact h1) ?_ ?_ h5
 ·intro k hk
  obtain rfl : k = 0 := by simpa using hk
  rw [Nat.add_zero, e, vr _ (Nat.le_refl _), B.top, YV B.stok]
  exact h2
 ·intro k hk
  obtain rfl : k = 0 := by simpa using hk
  rw [Nat.add_zero, e]
  intro ho
  omega
def Flat (op : Int) : Prop := op ≠ 14 ∧ op ≠ 15 ∧ op ≠ 16 ∧ op ≠ 17 ∧ op ≠ 18 ∧ op ≠ 19
theorem Flat.behind {op : Int} (h : Flat op) (st : List Int) (i : Int) : qp st i op = st := by
 obtain ⟨h1, h2, h3, h4, h5, h6⟩ := h
 unfold qp
 rw [if_neg (by unfold zJ; simp; omega), if_neg (by unfold jB; rw [if_neg h2, if_neg h5, if_neg h6]; omega)]
theorem Flat.wrong {x : qO} (h : Flat x.1) (hm : xd x = true) (l : List qO) (st : List Int) : zX l st x = 0 := by
 obtain ⟨h1, h2, h3, h4, h5, h6⟩ := h
 unfold zX
 rw [if_neg (by rw [hm]; simp), if_neg (fun hh => by have := hh.1; unfold jB at this; rw [if_neg h2, if_neg h5, if_neg h6] at this; omega), if_neg (fun hh => h3 hh.1),
  if_neg (fun hh => by have := hh.1; unfold zJ at this; simp at this; omega)]
theorem Bld.flat {calm : Bool} {l : List qO} {st : List Int} (B : Bld calm l st) {x : qO} (h1 : Q3 calm x) (hf : Flat x.1) (h3 : x.1 ≠ 12 ∧ x.1 ≠ 13) : Bld calm (l ++ [x]) st := by
 have := B.app h1 (hf.wrong h1.may l st) h3 (by rw [hf.behind]; exact B.five)
 rwa [hf.behind] at this
theorem Bld.two {calm : Bool} {l : List qO} {st : List Int} (B : Bld calm l st) {x y : qO} (hx : Q3 calm x) (hy : Q3 calm y) (fx : Flat x.1) (fy : Flat y.1)
  (jx : (x.1 = 12 ∨ x.1 = 13) → x.2.2.2.1 = ((l.length + 2 : Nat) : Int)) (jy : (y.1 = 12 ∨ y.1 = 13) → y.2.2.2.1 = (l.length : Int) ∧ calm = false) : Bld calm (l ++ [x, y]) st := by
 have e0 := kW (l := l) (t := [x, y]) (k := 0) (x := x) rfl
 have e1 := kW (l := l) (t := [x, y]) (k := 1) (x := y) rfl
 rw [Nat.add_zero] at e0
 have s0 : qv (l ++ [x, y]) l.length = st := by rw [vr _ (Nat.le_refl _), B.top]
 have s1 : qv (l ++ [x, y]) (l.length + 1) = st := by rw [jg, s0, e0, fx.behind]
 have s2 : qv (l ++ [x, y]) (l.length + 2) = st := by rw [show l.length + 2 = l.length + 1 + 1 from rfl, jg, s1, e1, fy.behind]
 have hs : qv (l ++ [x, y]) (l ++ [x, y]).length = st := by rw [List.length_append]; exact s2
 have := B.ext (t := [x, y]) (by intro z hz; simp at hz; rcases hz with rfl | rfl; exact hx; exact hy) (fun k hk => by
  have hk : k = 0 ∨ k = 1 := by simp at hk; omega
  rcases hk with rfl | rfl
  ·rw [Nat.add_zero, e0]; exact fx.wrong hx.may _ _
  ·rw [e1]; exact fy.wrong hy.may _ _) (fun k hk => by
  have hk : k = 0 ∨ k = 1 := by simp at hk; omega
  rcases hk with rfl | rfl
  ·rw [Nat.add_zero, e0]
   intro ho
   exact ⟨l.length + 2, jx ho, by simp, by rw [s2, s0], fun _ => by omega⟩
  ·rw [e1]
   intro ho
   obtain ⟨a, b⟩ := jy ho
   exact ⟨l.length, a, by simp, by rw [s0, s1], fun h => by rw [b] at h; cases h⟩) (by rw [hs]; exact B.five)
 rwa [hs] at this
abbrev one (op : Int) : qO := (op, 0, 0, 0, 0)
theorem Vw (calm : Bool) {op : Int} (h : op = 14 ∨ op = 15 ∨ op = 16 ∨ op = 17 ∨ op = 18 ∨ op = 19) : Q3 calm (one op) := by
 refine ⟨?_, by dsimp only; omega, by dsimp only; omega, fun _ => by dsimp only; omega⟩
 rcases h with rfl | rfl | rfl | rfl | rfl | rfl <;> decide
theorem Bld.begin {calm : Bool} {l : List qO} {st : List Int} (B : Bld calm l st) {op : Int} (h : op = 14 ∨ op = 17) (h5 : st.length < 5) : Bld calm (l ++ [one op]) (st ++ [(l.length : Int)]) ∧ jC (l ++ [one op]) (st ++ [(l.length : Int)]) = jC l st ++ [op] := by
 have hb : qp st l.length op = st ++ [(l.length : Int)] := by
  unfold qp
  rw [if_pos (.inl (by unfold zJ; exact decide_eq_true h)), if_neg (by rcases h with rfl | rfl <;> decide)]
 have hw : zX l st (one op) = 0 := by
  unfold zX
  rw [if_neg (by rcases h with rfl | rfl <;> decide), if_neg (fun hh => by have := hh.1; rcases h with rfl | rfl <;> exact absurd this (by decide)), if_neg (fun hh => by have := hh.1; dsimp only at this; omega), if_neg (by omega)]
 have := B.app (x := one op) (Vw calm (by omega)) hw (by dsimp only; omega) (by rw [hb]; simp; omega)
 rw [hb] at this
 refine ⟨this, ?_⟩
 unfold jC
 rw [List.map_append]
 congr 1
 ·exact kA B.stok
 ·have e := kW (l := l) (t := [one op]) (k := 0) (x := one op) rfl
  rw [Nat.add_zero] at e
  rw [List.map_singleton, e]
theorem Bld.undo {calm : Bool} {l : List qO} {st : List Int} (B : Bld calm l st) (h : opM l st = 14) : Bld calm (l ++ [one 16]) st := by
 have hb : qp st l.length 16 = st := by
  unfold qp
  rw [if_neg (by decide), if_neg (by decide)]
 have hw : zX l st (one 16) = 0 := by
  unfold zX
  rw [if_neg (by decide), if_neg (fun hh => absurd hh.1 (by decide)), if_neg (fun hh => hh.2 h), if_neg (fun hh => absurd hh.1 (by decide))]
 have := B.app (x := one 16) (Vw calm (by omega)) hw (by decide) (by rw [hb]; exact B.five)
 rwa [hb] at this
def xu (o : Int) : Int := if o = 14 then 15 else if o = 17 then 18 else 19
def wZ (l : List qO) (st : List Int) : List qO := l ++ [one (xu (opM l st))]
def kh (l : List qO) (st : List Int) : List Int := if opM l st = 17 then st.dropLast ++ [(l.length : Int)] else st.dropLast
theorem Bld.shut {calm : Bool} {l : List qO} {st : List Int} (B : Bld calm l st) (hn : st ≠ []) (ho : opM l st = 14 ∨ opM l st = 17 ∨ opM l st = 18) : Bld calm (wZ l st) (kh l st) ∧
  jC (wZ l st) (kh l st) = (jC l st).dropLast ++ (if opM l st = 17 then [18] else []) := by
 have hs : jB (xu (opM l st)) = opM l st := by rcases ho with h | h | h <;> rw [h] <;> decide
 have hso : xu (opM l st) = 15 ∨ xu (opM l st) = 18 ∨ xu (opM l st) = 19 := by
  unfold xu
  repeat' split
  all_goals omega
 have he : 0 < jB (xu (opM l st)) := by rw [hs]; omega
 have hlen := List.length_pos_iff.2 hn
 have hb : qp st l.length (xu (opM l st)) = kh l st := by
  unfold qp kh
  rw [if_pos he]
  by_cases h17 : opM l st = 17
  ·rw [if_pos h17, if_pos (.inr (by rw [h17]; decide))]
  ·rw [if_neg h17, if_neg]
   rcases ho with h | h | h
   ·rw [h]; decide
   ·exact absurd h h17
   ·rw [h]; decide
 have hw : zX l st (one (xu (opM l st))) = 0 := by
  unfold zX
  rw [if_neg (by rcases hso with h | h | h <;> rw [h] <;> decide), if_neg (fun hh => hh.2 hs.symm), if_neg (fun hh => by have := hh.1; dsimp only at this; omega), if_neg (fun hh => by
   have := hh.1
   rcases hso with h | h | h <;> rw [h] at this <;> exact absurd this (by decide))]
 have h5 := B.five
 have := B.app (x := one (xu (opM l st))) (Vw calm (by omega)) hw (by dsimp only; omega) (by rw [hb]; unfold kh; split <;> simp <;> omega)
 rw [hb] at this
 refine ⟨this, ?_⟩
 unfold wZ kh jC
 have hd : (st.dropLast.map fun p => (qL (l ++ [one (xu (opM l st))]) p).1) = (jC l st).dropLast := by
  have := kA (t := [one (xu (opM l st))]) B.stok.dropLast
  unfold jC at this ⊢
  rw [this, List.map_dropLast]
 split
 ·rename_i h17
  have e := kW (l := l) (t := [one (xu (opM l st))]) (k := 0) (x := one (xu (opM l st))) rfl
  rw [Nat.add_zero] at e
  rw [List.map_append, hd, List.map_singleton, e, h17]; rfl
 ·rw [hd, List.append_nil]; rfl
theorem Kf {l : List qO} {st : List Int} (hn : st ≠ []) : opM l st = (jC l st).getLast?.getD 0 := by
 unfold opM jC qm
 rw [if_neg hn, List.getLast?_map, List.getLast?_eq_some_getLast hn]; rfl
theorem Bld.fit {calm : Bool} {l : List qO} (B : Bld calm l []) (h0 : 0 < l.length) (h40 : l.length ≤ 40) : xr l = (0, 0) := by
 have key : ∀ d i, i + d = l.length → goM l (l.drop i) i (qv l i) = .inr [] := by
  intro d
  induction d with
  | zero =>
   intro i hi
   obtain rfl : i = l.length := by omega
   rw [List.drop_length, B.top]; rfl
  | succ d ih =>
   intro i hi
   have hlt : i < l.length := by omega
   rw [Ql hlt]
   have hw := B.wr i hlt
   rw [zk hlt] at hw
   rw [if_pos hw]
   have := ih (i + 1) (by omega)
   rw [jg, zk hlt] at this
   exact this
 have hg := key l.length 0 (by omega)
 have hreg : ∀ j, j < l.length → (zg l 0 [])[j]? = some (qm (qv l j)) := fun j hj => by
  have := Yw (l := l) l.length 0 (by omega) j (by omega)
  rw [Nat.zero_add] at this
  exact this
 have hnum : ∀ j : Nat, j < l.length → qD (zg l 0 []) (j : Int) = qm (qv l j) := fun j hj => by
  unfold qD; rw [Int.toNat_natCast, hreg j hj]; rfl
 have hj : ∀ d i, i + d = l.length → kJ l (zg l 0 []) (l.drop i) i = (0, 0) := by
  intro d
  induction d with
  | zero =>
   intro i hi
   obtain rfl : i = l.length := by omega
   rw [List.drop_length]; rfl
  | succ d ih =>
   intro i hi
   have hlt : i < l.length := by omega
   rw [k9 hlt, if_neg, ih (i + 1) (by omega)]
   rintro ⟨ho, hc⟩
   have hB := B.jp i hlt
   rw [zk hlt] at hB
   obtain ⟨c, c1, c2, c3, _⟩ := hB ho
   rw [c1] at hc
   rcases hc with hc | ⟨hc, hc2⟩ | ⟨hc, hc2⟩
   ·omega
   ·have : c = l.length := by omega
    subst this
    rw [B.top] at c3
    rw [hnum i hlt, ← c3] at hc2
    exact hc2 rfl
   ·rw [hnum c (by omega), hnum i hlt, c3] at hc2
    exact hc2 rfl
 unfold xr
 rw [if_neg (by omega)]
 have hg2 : goM l l 0 [] = .inr [] := hg
 rw [hg2]
 dsimp only
 rw [if_pos rfl]
 exact hj l.length 0 (by omega)
end Go.Proofs.YtdlfmpmpmkffjaaGreatDoor
namespace Go.Proofs.YtdlfmpmpmkffjaaGreatDoor
open Go Go.Ae
set_option maxRecDepth 100000
variable {g h : AH} {L R : List SP}
def OkN (zs : List Int) : Prop := ∀ z ∈ zs, 0 ≤ z ∧ z < 18446744073709551616
theorem OkN.set {zs : List Int} {i : Nat} {x : Int} (h : OkN zs) (hx : 0 ≤ x ∧ x < 18446744073709551616) : OkN (zs.set i x) := by
 intro z hz
 rcases List.mem_or_eq_of_mem_set hz with h1 | rfl
 ·exact h z h1
 ·exact hx
theorem Jx {u x : Bool} {r : AV} {K : AV → Go.Ae.R} {Q : AV → AH → Prop} (hr : u = true → r = .bool x) (w : wp (K (.bool (u && x))) Q) : wp (yX (.bool u) r (.bool false) K) Q := by
 cases u
 ·exact w
 ·rw [hr rfl]; exact w
theorem Oo {k : IntKind} {a b : Int} {K : AV → Go.Ae.R} {Q : AV → AH → Prop} (w : ∀ z : Int, wp (K (.int k z)) Q) : wp (jJ .and (.int k a) (.int k b) K) Q := by
 rw [vD]; simp only [gW]; exact w _
def tw (c : Int) : Int := js .i64 (1 * 2 ^ (min c.toNat (IntKind.bits .i64)))
theorem tw_b {c : Int} (h : 1 ≤ c ∧ c ≤ 3) : 2 ≤ tw c ∧ tw c ≤ 8 := by
 obtain rfl | rfl | rfl : c = 1 ∨ c = 2 ∨ c = 3 := by omega
 all_goals decide
theorem Zs {x lo hi : Int} (h : lo ≤ hi) : lo ≤ jd x lo hi ∧ jd x lo hi ≤ hi := by
 unfold jd
 have := wU x (show 0 < hi - lo + 1 by omega)
 split <;> omega
def OkZ (zs : List Int) : Prop := OkN zs ∧ zs[0]? = some 0
theorem OkZ.set {zs : List Int} {i : Nat} {x : Int} (h : OkZ zs) (hx : 0 ≤ x ∧ x < 18446744073709551616) (hi : 0 < i) : OkZ (zs.set i x) := ⟨h.1.set hx, by rw [List.getElem?_set_ne (by omega)]; exact h.2⟩
theorem Vx {n : Nat} (hn : 2 ≤ n) {x : Int} {rv bv : AV} {rs bs : List Int} (H : HS g h R) (SR : Rd g R 1 rs.length rv (rs.map (.int .u64))) (hr : ∀ z ∈ rs, 0 ≤ z ∧ z < 18446744073709551616) (S : Rd g R 1 bs.length bv (bs.map (.int .u8))) (hb : ∀ z ∈ bs, 0 ≤ z ∧ z ≤ 255) :
  wp (callT tab qy n (.fn 22 [] []) [.int .i64 x, rv, bv] h) fun r h' => ∃ zs, OkN zs ∧ zs[0]? = some 0 ∧ 32 ≤ zs.length ∧ zs.length ≤ 80 ∧ shut r = true ∧ OB r ∧ HS g h' (qA 26 1 zs.length r (zs.map (.int .u64)) :: R) := by
 (refine qM (g := (tD3 S22)) rfl (by omega) fun k hk => ?_; show wp (S22 (callT tab qy k) _ _ _ _).1 _; unfold S22; try simp only [ Int.ofNat_eq_natCast])
 refine qq (yA (by omega) (by omega) (by omega) (by omega)) ?_
 rintro _ _ ⟨rfl, rfl⟩
 have hwb := Zs (x := x) (lo := ((32 : Nat) : Int)) (hi := ((80 : Nat) : Int)) (by omega)
 obtain ⟨n, hn⟩ : ∃ n : Nat, jd x ((32 : Nat) : Int) ((80 : Nat) : Int) = (n : Int) := ⟨_, (Int.toNat_of_nonneg (by omega)).symm⟩
 rw [hn] at hwb ⊢
 refine Y9 (Nat.le_refl _) (by omega) fun b h3 hb3 A F => ?_
 have H3 : HS g h3 (qA 26 1 n (.slice b 0 n n false) ((List.replicate n (0 : Int)).map (.int .u64)) :: R) := by
  refine H.add (D' := fun a => a = b) F.none ⟨by simp, .inr ⟨b, n, false, _, rfl, fun a => Iff.rfl, A, by rw [yY]; simp, ?_, ?_⟩⟩ ?_
  ·rw [List.take_of_length_le (by rw [yY]; simp), J2, List.map_replicate]; rfl
  ·rw [if_neg (by simp)]; exact ⟨by rw [yY]; rfl, Nat.le_refl _⟩
  ·rintro a rfl; exact ⟨hb3, A.lt⟩
 have z0 : OkZ (List.replicate n (0 : Int)) := ⟨by intro z hz; rw [List.eq_of_mem_replicate hz]; omega, by rw [List.getElem?_replicate, if_pos (by omega)]⟩
 have hsh : shut (.slice b 0 n n false) = true := rfl
 have hro : OB (.slice b 0 n n false) := Nat.le_refl n
 generalize AV.slice b 0 n n false = wv at *
 clear H F A
 refine xo (i := 5) H3 (by omega) ⟨rfl, rfl⟩ fun h4 H => ?_
 rw [← List.map_set] at H
 have z1 := z0.set (i := 5) (x := ((14 : Nat) : Int)) (by omega) (by omega)
 have l1 : ((List.replicate n (0 : Int)).set 5 ((14 : Nat) : Int)).length = n := by simp
 generalize (List.replicate n (0 : Int)).set 5 ((14 : Nat) : Int) = zs at *
 clear z0 H3
 refine jz (fun m s h' => ∃ (i : Nat) (zs : List Int), s = (.int .i64 (i : Int), wv, bv, rv, ()) ∧ i ≤ 8 ∧ m = 8 - i ∧ OkZ zs ∧ zs.length = n ∧ HS g h' (qA 26 1 n wv (zs.map (.int .u64)) :: R))
  ?_ (m := 8) (by show 8 < 1000000000; omega) ⟨0, zs, rfl, by omega, by omega, z1, l1, H⟩
 clear H z1 l1 zs
 rintro m ih s h4 hih ⟨i, zs, rfl, hi8, rfl, z1, l1, H⟩
 dsimp only
 refine zq (SR.sl H.drop) (gR ?_)
 refine QM (fun s g' => ∃ (r : AV) (u x : Bool), s = (r, .bool u, .int .i64 (i : Int), wv, bv, rv, ()) ∧ g' = h4 ∧ (u = true → r = .bool x) ∧ ((u && x) = decide (i < rs.length ∧ i < 8))) ?_ ?_
 ·intro j hj
  refine V4 (fun hl => gR (hj _ _ ⟨_, _, decide (i < 8), rfl, rfl, fun _ => (by congr 1; exact decide_eq_decide.2 (by omega)), ?_⟩)) (fun hl => hj _ _ ⟨_, _, false, rfl, rfl, fun h => absurd (of_decide_eq_true h) hl, ?_⟩)
  ·have hl' : i < rs.length := by omega
   simp [hl']
  ·have hl' : ¬ i < rs.length := by omega
   simp [hl']
 rintro s h4 ⟨r, u, x2, rfl, rfl, hr2, hux⟩
 refine Jx hr2 ?_
 rw [hux]
 dsimp only
 clear hr2 hux
 refine GQ (fun hi => ?_) fun hi => ?_
 ·have hci : (rs.map (AV.int .u64))[i]? = some (.int .u64 rs[i]) := by rw [List.getElem?_map, List.getElem?_eq_getElem hi.1]; rfl
  have hbi := hr rs[i] (List.getElem_mem hi.1)
  have hb1 := Int.tmod_nonneg ((90 : Nat) : Int) hbi.1
  have hb2 := Int.tmod_lt_of_pos rs[i] (show 0 < ((90 : Nat) : Int) by omega)
  refine qE (by omega) (jN (SR.sl H.drop) hci (ga (by omega) ?_))
  rw [show ((6 : Nat) : Int) + (i : Int) = ((6 + i : Nat) : Int) by omega]
  refine xo H (by omega) ⟨rfl, rfl⟩ fun h6 H6 => ?_
  rw [← List.map_set] at H6
  exact qE (by omega) (hih (8 - (i + 1)) _ _ (by omega) ⟨i + 1, _, rfl, by omega, rfl, z1.set (by omega) (by omega), by simp [l1], H6⟩)
 ·refine zM [] (fun s h' => s = (wv, ()) ∧ ∃ zs, OkZ zs ∧ zs.length = n ∧ HS g h' (qA 26 1 n wv (zs.map (.int .u64)) :: R)) ?_ ?_
  ·intro j hj
   refine jz (fun m s h' => ∃ (i : Nat) (at' : Int) (zs : List Int), s = (.int .i64 (i : Int), .int .i64 at', wv, bv, ()) ∧ i ≤ 8 ∧ m = 8 - i ∧ 14 ≤ at' ∧ at' ≤ n ∧ OkZ zs ∧ zs.length = n ∧ HS g h' (qA 26 1 n wv (zs.map (.int .u64)) :: R))
    ?_ (m := 8) (by show 8 < 1000000000; omega) ⟨0, ((14 : Nat) : Int), zs, rfl, by omega, by omega, by omega, by omega, z1, l1, H⟩
   clear H z1 l1 hih zs ih
   rintro m ih s h5 hih ⟨i, a, zs, rfl, hi8, rfl, ha, ha2, hz, hl, H⟩
   dsimp only
   refine zq (S.sl H.drop) (gR ?_)
   refine QM (fun s g' => ∃ (r : AV) (u x : Bool), s = (r, .bool u, .int .i64 (i : Int), .int .i64 a, wv, bv, ()) ∧ g' = h5 ∧ (u = true → r = .bool x) ∧ ((u && x) = decide (i < bs.length ∧ i < 8))) ?_ ?_
   ·intro j hj
    refine V4 (fun hl => gR (hj _ _ ⟨_, _, decide (i < 8), rfl, rfl, fun _ => (by congr 1; exact decide_eq_decide.2 (by omega)), ?_⟩)) (fun hl => hj _ _ ⟨_, _, false, rfl, rfl, fun h => absurd (of_decide_eq_true h) hl, ?_⟩)
    ·have hl' : i < bs.length := by omega
     simp [hl']
    ·have hl' : ¬ i < bs.length := by omega
     simp [hl']
   rintro s h5 ⟨r, u, x, rfl, rfl, hr, hux⟩
   refine Jx hr ?_
   rw [hux]
   dsimp only
   refine GQ (fun hi => ?_) fun hi => hj _ _ ⟨rfl, zs, hz, hl, H⟩
   have hci : (bs.map (AV.int .u8))[i]? = some (.int .u8 bs[i]) := by rw [List.getElem?_map, List.getElem?_eq_getElem hi.1]; rfl
   have hbi := hb bs[i] (List.getElem_mem hi.1)
   have hb1 := Int.tmod_nonneg ((3 : Nat) : Int) hbi.1
   have hb2 := Int.tmod_lt_of_pos bs[i] (show 0 < ((3 : Nat) : Int) by omega)
   refine jN (S.sl H.drop) hci (ga (by omega) (jF (by omega) (qE (by omega) ?_)))
   obtain ⟨c, hc⟩ : ∃ c, c = Int.tmod bs[i] ((3 : Nat) : Int) + ((1 : Nat) : Int) := ⟨_, rfl⟩
   rw [← hc]
   have hcb : 1 ≤ c ∧ c ≤ 3 := by omega
   have htw := tw_b hcb
   refine qE (by omega) (zV (by omega) (Gk (by omega) ?_))
   show wp (jJ .add _ (.int .i64 (tw c)) _) _
   refine qE (by omega) (qa H .here (zO (fun hg => qV (hj _ _ ⟨rfl, zs, hz, hl, H⟩)) fun hg => qQ ?_))
   obtain ⟨p, rfl⟩ : ∃ p : Nat, a = (p : Int) := ⟨a.toNat, by omega⟩
   refine zV (by omega) ?_
   refine xo H (by omega) ⟨rfl, rfl⟩ fun h6 H => ?_
   rw [← List.map_set] at H
   have hz2 := hz.set (i := p) (x := c) (by omega) (by omega)
   have hl2 : (zs.set p c).length = n := by simp [hl]
   generalize zs.set p c = zs2 at *
   clear hz hl
   refine zM [] (fun s h' => s = (.int .i64 c, .int .i64 (i : Int), .int .i64 (p : Int), wv, bv, ()) ∧ ∃ zs, OkZ zs ∧ zs.length = n ∧ HS g h' (qA 26 1 n wv (zs.map (.int .u64)) :: R)) ?_ ?_
   ·intro j hj
    refine jN (S.sl H.drop) hci (Oo fun z => ?_)
    refine zO (fun _ => qV ?_) fun _ => qQ ?_
    ·refine qE (by omega) (zV (by omega) ?_)
     refine xo H (by omega) ⟨rfl, rfl⟩ fun h7 H7 => ?_
     rw [← List.map_set] at H7
     exact hj _ _ ⟨rfl, _, hz2.set (by omega) (by omega), by simp [hl2], H7⟩
    ·refine jN (S.sl H.drop) hci (Oo fun z => ?_)
     refine zO (fun _ => qV ?_) fun _ => qQ (hj _ _ ⟨rfl, zs2, hz2, hl2, H⟩)
     refine qE (by omega) (qE (by omega) (qc (by omega) ?_))
     obtain ⟨d, hd⟩ : ∃ d : Nat, ((1 : Nat) : Int) + c - ((1 : Nat) : Int) = (d : Int) := ⟨c.toNat, by omega⟩
     rw [hd]
     have hdn : d < zs2.length := by omega
     refine jN (x := .int .u64 zs2[d]) (H.sl .here) (by rw [List.getElem?_map, List.getElem?_eq_getElem hdn]; rfl) ?_
     rw [show (p : Int) + ((1 : Nat) : Int) = ((p + 1 : Nat) : Int) by omega]
     refine xo H (by omega) ⟨rfl, rfl⟩ fun h7 H7 => ?_
     rw [← List.map_set] at H7
     refine qE (by omega) (qc (by omega) (qE (by omega) (zV (by omega) ?_)))
     rw [hd]
     refine xo H7 (by omega) ⟨rfl, rfl⟩ fun h8 H8 => ?_
     rw [← List.map_set] at H8
     exact hj _ _ ⟨rfl, _, (hz2.set (hz2.1 zs2[d] (List.getElem_mem hdn)) (by omega)).set (by omega) (by omega), by simp [hl2], H8⟩
   rintro s h7 ⟨rfl, zs3, hz3, hl3, H⟩
   dsimp only
   refine qE (by omega) (zV (by omega) (Gk (by omega) ?_))
   show wp (jJ .add _ (.int .i64 (tw c)) _) _
   refine qE (by omega) (zV (by omega) ?_)
   refine xo (i := 5) H (by omega) ⟨rfl, rfl⟩ fun h8 H8 => ?_
   rw [← List.map_set] at H8
   refine qE (by omega) (hih (8 - (i + 1)) _ _ (by omega) ⟨i + 1, _, _, rfl, by omega, rfl, by omega, by omega, hz3.set (by omega) (by omega), by simp [hl3], H8⟩)
  rintro s h5 ⟨rfl, zs, hz, hl, H⟩
  dsimp only
  refine qj (qW ⟨zs, hz.1, hz.2, by omega, by omega, hsh, hro, ?_⟩)
  rw [hl]
  exact H
theorem UU {n : Nat} (hn : 2 ≤ n) {x : Int} {rv bv : AV} {rs bs : List Int} (H : HS g h R) (SR : Rd g R 1 rs.length rv (rs.map (.int .u64))) (hr : ∀ z ∈ rs, 0 ≤ z ∧ z < 18446744073709551616) (S : Rd g R 1 bs.length bv (bs.map (.int .u8))) (hb : ∀ z ∈ bs, 0 ≤ z ∧ z ≤ 255) :
  wp (callT tab qy n (.fn 22 [] []) [.int .i64 x, rv, bv] h) fun r h' => ∃ zs, OkN zs ∧ 32 ≤ zs.length ∧ zs.length ≤ 80 ∧ shut r = true ∧ OB r ∧ HS g h' (qA 26 1 zs.length r (zs.map (.int .u64)) :: R) := by
 obtain ⟨r, h', e, zs, a, _, b⟩ := Vx hn (x := x) H SR hr S hb
 exact ⟨r, h', e, zs, a, b⟩
end Go.Proofs.YtdlfmpmpmkffjaaGreatDoor
namespace Go.Proofs.YtdlfmpmpmkffjaaGreatDoor
open Go Go.Ae
set_option maxRecDepth 100000
variable {g h : AH} {L R : List SP}
def xH (lv : AV) (l : List qO) : SP := qA 28 5 l.length lv (l.flatMap qe)
def QW (ov : AV) (o : List Int) : SP := qA 3 1 o.length ov (o.map (.int .i64))
theorem kF {n : Nat} (hn : 2 ≤ n) {x : Int} : wp (callT tab qy n (.fn 58 [] []) [.int .i64 x] h) fun v h' => v = .int .i64 (jd x 0 6) ∧ h' = h := by
 (refine qM (g := (tD1 S58)) rfl (by omega) fun k hk => ?_; show wp (S58 (callT tab qy k) _ _).1 _; unfold S58; try simp only [ Int.ofNat_eq_natCast])
 refine qq (yA (by omega) (by omega) (by omega) (by omega)) ?_
 rintro _ _ ⟨rfl, rfl⟩
 exact qW ⟨rfl, rfl⟩
theorem vh {l : List qO} {lv : AV} {t : List qO} {tv : AV} {K2 : AV → AH → Go.Ae.R} {Q : AV → AH → Prop} {D' : Nat → Prop} (H : HS g h (xH lv l :: R)) (S : Sl D' h 5 t.length tv (t.flatMap qe)) (hl : l.length + t.length ≤ 100000)
  (w : ∀ v' h', HS g h' (xH v' (l ++ t) :: R) → wp (K2 v' h') Q) : wp (j0 h 28 5 lv tv K2) Q := by
 refine jc H S (by omega) (by omega) (JC t) fun v' h' H' => w v' h' ?_
 unfold xH
 rw [List.length_append, List.flatMap_append]
 exact H'
theorem qQh {a n : Int} (h : 0 ≤ a ∧ a ≤ 7) : xd (1, a, 0, 0, n) = true := by simp [xd, q9, xI]; omega
theorem may_2 {a b : Int} (h : 0 ≤ a ∧ a ≤ 7) (h2 : 0 ≤ b ∧ b ≤ 7) : xd (2, a, b, 0, 0) = true := by simp [xd, q9, xI]; omega
theorem may_3 {o a b c : Int} (ho : 3 ≤ o ∧ o ≤ 7) (h : 0 ≤ a ∧ a ≤ 7) (h2 : 0 ≤ b ∧ b ≤ 7) (h3 : 0 ≤ c ∧ c ≤ 7) : xd (o, a, b, c, 0) = true := by
 rcases (show o = 3 ∨ o = 4 ∨ o = 5 ∨ o = 6 ∨ o = 7 by omega) with rfl | rfl | rfl | rfl | rfl <;> (simp [xd, q9, xI]; omega)
theorem QB {o a b c : Int} (ho : o = 8 ∨ o = 9) (h : 0 ≤ a ∧ a ≤ 7) (h2 : 0 ≤ b ∧ b ≤ 7) (h3 : 0 ≤ c ∧ c ≤ 15) : xd (o, a, b, c, 0) = true := by
 rcases ho with rfl | rfl <;> (simp [xd, q9, xI]; omega)
theorem Zp {a b : Int} (h : 0 ≤ a ∧ a ≤ 7) (h2 : 0 ≤ b ∧ b ≤ 7) : xd (10, a, b, 0, 0) = true := by simp [xd, q9, xI]; omega
theorem Zb {o a : Int} (ho : o = 11 ∨ o = 21) (h : 0 ≤ a ∧ a ≤ 7) : xd (o, a, 0, 0, 0) = true := by
 rcases ho with rfl | rfl <;> (simp [xd, q9, xI]; omega)
theorem qQI {a c : Int} (h : 0 ≤ a ∧ a ≤ 7) (h3 : 0 ≤ c ∧ c ≤ 40) : xd (13, a, 0, c, 0) = true := by simp [xd, q9, xI]; omega
structure Xy (x : qO) : Prop where
  flat : Flat x.1
  nj : x.1 ≠ 12 ∧ x.1 ≠ 13
  ok : ∀ calm, Q3 calm x
theorem Xy.of {x : qO} (h1 : xd x = true) (h2 : (1 ≤ x.1 ∧ x.1 ≤ 11) ∨ x.1 = 21) (h3 : 0 ≤ x.2.2.2.2 ∧ x.2.2.2.2 < 18446744073709551616) : Xy x :=
 ⟨⟨by omega, by omega, by omega, by omega, by omega, by omega⟩, by omega, fun _ => ⟨h1, by omega, h3, fun _ => by omega⟩⟩
set_option maxHeartbeats 4000000 in
theorem Qz {n : Nat} (hn : 3 ≤ n) {kx : qO} (hN : 0 ≤ kx.2.2.2.2 ∧ kx.2.2.2.2 < 18446744073709551616) (H : HS g h R) :
  wp (callT tab qy n (.fn 59 [] []) [.agg (qe kx)] h) fun r h' => ∃ x, r = .agg (qe x) ∧ Xy x ∧ HS g h' R := by
 (refine qM (g := (tD1 S59)) rfl (by omega) fun k hk => ?_; show wp (S59 (callT tab qy k) _ _).1 _; unfold S59; try simp only [ Int.ofNat_eq_natCast])
 refine qb H rfl fun b0 h1 H1 => ?_
 refine qb H1 rfl fun b2 h2 H2 => ?_
 have H2 : HS g h2 (qB b2 [.int .i64 ((0 : Nat) : Int), .int .i64 ((0 : Nat) : Int), .int .i64 ((0 : Nat) : Int), .int .i64 ((0 : Nat) : Int), .int .u64 ((0 : Nat) : Int)] :: qB b0 (qe kx) :: R) := H2
 clear H H1
 refine qK ?_
 try dsimp only
 refine qJ (qG H2 (b := b0) e_1 rfl ?_)
 refine qq (kF (by omega)) ?_
 rintro _ _ ⟨rfl, rfl⟩
 refine qJ (qG H2 (b := b0) e_1 rfl ?_)
 refine qq (kF (by omega)) ?_
 rintro _ _ ⟨rfl, rfl⟩
 refine qJ (qG H2 (b := b0) e_1 rfl ?_)
 refine qq (kF (by omega)) ?_
 rintro _ _ ⟨rfl, rfl⟩
 refine je H2 (b := b0) e_1 rfl H2 e_1 rfl (HS.lt H2 e_1) ?_
 refine je H2 (b := b0) e_1 rfl H2 e_1 rfl (HS.lt H2 e_1) ?_
 refine je H2 (b := b0) e_1 rfl H2 e_1 rfl (HS.lt H2 e_1) ?_
 refine qJ (qG H2 (b := b0) e_1 rfl ?_)
 refine qq (yA (by omega) (by omega) (by omega) (by omega)) ?_
 rintro _ _ ⟨rfl, rfl⟩
 refine qJ (qG H2 (b := b0) e_1 rfl ?_)
 refine qq (yA (by omega) (by omega) (by omega) (by omega)) ?_
 rintro _ _ ⟨rfl, rfl⟩
 have ha := jn kx.2.1 (show (0 : Int) ≤ 6 by omega)
 have hb := jn kx.2.2.1 (show (0 : Int) ≤ 6 by omega)
 have hc := jn kx.2.2.2.1 (show (0 : Int) ≤ 6 by omega)
 have hat := jn kx.2.2.2.1 (show (((6 : Nat) : Int)) ≤ ((15 : Nat) : Int) by omega)
 have hw := jn kx.1 (show (((0 : Nat) : Int)) ≤ ((19 : Nat) : Int) by omega)
 generalize jd kx.2.1 0 6 = a at *
 generalize jd kx.2.2.1 0 6 = b at *
 generalize jd kx.2.2.2.1 0 6 = c at *
 generalize jd kx.2.2.2.1 ((6 : Nat) : Int) ((15 : Nat) : Int) = at_ at *
 generalize jd kx.1 ((0 : Nat) : Int) ((19 : Nat) : Int) = w at *
 have fin : ∀ (x : qO) (h0 : AH), Xy x → HS g h0 (qB b2 [.int .i64 ((0 : Nat) : Int), .int .i64 ((0 : Nat) : Int), .int .i64 ((0 : Nat) : Int), .int .i64 ((0 : Nat) : Int), .int .u64 ((0 : Nat) : Int)] :: qB b0 (qe kx) :: R) →
   wp (jV h0 (.ptr b2 0) (.agg (qe x)) 5 fun h22 => jA [] h22 fun h23 => jh h23 (.ptr b2 0) 5 fun v24 => some (v24, h23)) fun r h' => ∃ x, r = .agg (qe x) ∧ Xy x ∧ HS g h' R := by
  intro x h0 hx H0
  refine jq H0 (b := b2) .here rfl (by show 0 + 5 ≤ 5; omega) rfl fun h6 H6 => ?_
  have H6 : HS g h6 (qB b2 (qe x) :: qB b0 (qe kx) :: R) := H6
  refine qj (qr H6 (b := b2) (off := 0) .here rfl (by omega) (l := qe x) rfl ?_)
  exact qW ⟨x, rfl, hx, H6.drop.drop⟩
 have z0 : (0 : Int) ≤ 0 ∧ (0 : Int) < 18446744073709551616 := by omega
 have hd : w = 0 ∨ w = 1 ∨ w = 2 ∨ w = 3 ∨ w = 4 ∨ w = 5 ∨ w = 6 ∨ w = 7 ∨ w = 8 ∨ w = 9 ∨ w = 10 ∨ w = 11 ∨ w = 12 ∨ w = 13 ∨ w = 14 ∨ w = 15 ∨ w = 16 ∨ 17 ≤ w := by omega
 rcases hd with h0 | h0 | h0 | h0 | h0 | h0 | h0 | h0 | h0 | h0 | h0 | h0 | h0 | h0 | h0 | h0 | h0 | h0
 all_goals (first | with_reducible (refine qK ?_; (try dsimp only); refine qX (by omega) ?_; refine qQ ?_; refine qX (by omega) ?_; refine qQ ?_; refine qX (by omega) ?_; refine qQ ?_; refine qX (by omega) ?_; refine qQ ?_; refine qX (by omega) ?_; refine qQ ?_; refine qK ?_; (try dsimp only); refine qX (by omega) ?_; refine qQ ?_; refine qX (by omega) ?_; refine qQ ?_; refine qX (by omega) ?_; refine qQ ?_; refine qK ?_; (try dsimp only); refine qX (by omega) ?_; refine qQ ?_; refine qX (by omega) ?_; refine qQ ?_; refine qX (by omega) ?_; refine qQ ?_; refine qX (by omega) ?_; refine qQ ?_; refine qX (by omega) ?_; refine qQ ?_; refine qK ?_; (try dsimp only); refine qX (by omega) ?_; refine qQ ?_; refine qX (by omega) ?_; refine qQ ?_; refine qX (by omega) ?_; refine qQ ?_; refine qg (by omega) ?_; refine qV ?_; refine qF rfl ?_) | with_reducible (refine qK ?_; (try dsimp only); refine qX (by omega) ?_; refine qQ ?_; refine qX (by omega) ?_; refine qQ ?_; refine qX (by omega) ?_; refine qQ ?_; refine qX (by omega) ?_; refine qQ ?_; refine qX (by omega) ?_; refine qQ ?_; refine qK ?_; (try dsimp only); refine qX (by omega) ?_; refine qQ ?_; refine qX (by omega) ?_; refine qQ ?_; refine qX (by omega) ?_; refine qQ ?_; refine qK ?_; (try dsimp only); refine qX (by omega) ?_; refine qQ ?_; refine qX (by omega) ?_; refine qQ ?_; refine qX (by omega) ?_; refine qQ ?_; refine qX (by omega) ?_; refine qQ ?_; refine qX (by omega) ?_; refine qQ ?_; refine qK ?_; (try dsimp only); refine qX (by omega) ?_; refine qQ ?_; refine qX (by omega) ?_; refine qQ ?_; refine qX (by omega) ?_; refine qQ ?_; refine qX (by omega) ?_; refine qQ ?_; refine qF rfl ?_) | with_reducible (refine qK ?_; (try dsimp only); refine qX (by omega) ?_; refine qQ ?_; refine qX (by omega) ?_; refine qQ ?_; refine qX (by omega) ?_; refine qQ ?_; refine qX (by omega) ?_; refine qQ ?_; refine qX (by omega) ?_; refine qQ ?_; refine qK ?_; (try dsimp only); refine qX (by omega) ?_; refine qQ ?_; refine qX (by omega) ?_; refine qQ ?_; refine qX (by omega) ?_; refine qQ ?_; refine qK ?_; (try dsimp only); refine qX (by omega) ?_; refine qQ ?_; refine qX (by omega) ?_; refine qQ ?_; refine qX (by omega) ?_; refine qQ ?_; refine qX (by omega) ?_; refine qQ ?_; refine qX (by omega) ?_; refine qQ ?_; refine qK ?_; (try dsimp only); refine qX (by omega) ?_; refine qQ ?_; refine qX (by omega) ?_; refine qQ ?_; refine qg (by omega) ?_; refine qV ?_; refine qF rfl ?_) | with_reducible (refine qK ?_; (try dsimp only); refine qX (by omega) ?_; refine qQ ?_; refine qX (by omega) ?_; refine qQ ?_; refine qX (by omega) ?_; refine qQ ?_; refine qX (by omega) ?_; refine qQ ?_; refine qX (by omega) ?_; refine qQ ?_; refine qK ?_; (try dsimp only); refine qX (by omega) ?_; refine qQ ?_; refine qX (by omega) ?_; refine qQ ?_; refine qX (by omega) ?_; refine qQ ?_; refine qK ?_; (try dsimp only); refine qX (by omega) ?_; refine qQ ?_; refine qX (by omega) ?_; refine qQ ?_; refine qX (by omega) ?_; refine qQ ?_; refine qX (by omega) ?_; refine qQ ?_; refine qX (by omega) ?_; refine qQ ?_; refine qK ?_; (try dsimp only); refine qX (by omega) ?_; refine qQ ?_; refine qg (by omega) ?_; refine qV ?_; refine qF rfl ?_) | with_reducible (refine qK ?_; (try dsimp only); refine qX (by omega) ?_; refine qQ ?_; refine qX (by omega) ?_; refine qQ ?_; refine qX (by omega) ?_; refine qQ ?_; refine qX (by omega) ?_; refine qQ ?_; refine qX (by omega) ?_; refine qQ ?_; refine qK ?_; (try dsimp only); refine qX (by omega) ?_; refine qQ ?_; refine qX (by omega) ?_; refine qQ ?_; refine qX (by omega) ?_; refine qQ ?_; refine qK ?_; (try dsimp only); refine qX (by omega) ?_; refine qQ ?_; refine qX (by omega) ?_; refine qQ ?_; refine qX (by omega) ?_; refine qQ ?_; refine qX (by omega) ?_; refine qQ ?_; refine qX (by omega) ?_; refine qQ ?_; refine qK ?_; (try dsimp only); refine qg (by omega) ?_; refine qV ?_; refine qV ?_; refine qF rfl ?_) | with_reducible (refine qK ?_; (try dsimp only); refine qX (by omega) ?_; refine qQ ?_; refine qX (by omega) ?_; refine qQ ?_; refine qX (by omega) ?_; refine qQ ?_; refine qX (by omega) ?_; refine qQ ?_; refine qX (by omega) ?_; refine qQ ?_; refine qK ?_; (try dsimp only); refine qX (by omega) ?_; refine qQ ?_; refine qX (by omega) ?_; refine qQ ?_; refine qX (by omega) ?_; refine qQ ?_; refine qK ?_; (try dsimp only); refine qX (by omega) ?_; refine qQ ?_; refine qX (by omega) ?_; refine qQ ?_; refine qX (by omega) ?_; refine qQ ?_; refine qX (by omega) ?_; refine qQ ?_; refine qg (by omega) ?_; refine qV ?_; refine qJ ?_; refine qG (by assumption) e_1 rfl ?_) | with_reducible (refine qK ?_; (try dsimp only); refine qX (by omega) ?_; refine qQ ?_; refine qX (by omega) ?_; refine qQ ?_; refine qX (by omega) ?_; refine qQ ?_; refine qX (by omega) ?_; refine qQ ?_; refine qX (by omega) ?_; refine qQ ?_; refine qK ?_; (try dsimp only); refine qX (by omega) ?_; refine qQ ?_; refine qX (by omega) ?_; refine qQ ?_; refine qX (by omega) ?_; refine qQ ?_; refine qK ?_; (try dsimp only); refine qX (by omega) ?_; refine qQ ?_; refine qX (by omega) ?_; refine qQ ?_; refine qX (by omega) ?_; refine qQ ?_; refine qg (by omega) ?_; refine qV ?_; refine qJ ?_; refine qG (by assumption) e_1 rfl ?_) | with_reducible (refine qK ?_; (try dsimp only); refine qX (by omega) ?_; refine qQ ?_; refine qX (by omega) ?_; refine qQ ?_; refine qX (by omega) ?_; refine qQ ?_; refine qX (by omega) ?_; refine qQ ?_; refine qX (by omega) ?_; refine qQ ?_; refine qK ?_; (try dsimp only); refine qX (by omega) ?_; refine qQ ?_; refine qX (by omega) ?_; refine qQ ?_; refine qX (by omega) ?_; refine qQ ?_; refine qK ?_; (try dsimp only); refine qX (by omega) ?_; refine qQ ?_; refine qX (by omega) ?_; refine qQ ?_; refine qg (by omega) ?_; refine qV ?_; refine qF rfl ?_) | with_reducible (refine qK ?_; (try dsimp only); refine qX (by omega) ?_; refine qQ ?_; refine qX (by omega) ?_; refine qQ ?_; refine qX (by omega) ?_; refine qQ ?_; refine qX (by omega) ?_; refine qQ ?_; refine qX (by omega) ?_; refine qQ ?_; refine qK ?_; (try dsimp only); refine qX (by omega) ?_; refine qQ ?_; refine qX (by omega) ?_; refine qQ ?_; refine qX (by omega) ?_; refine qQ ?_; refine qK ?_; (try dsimp only); refine qX (by omega) ?_; refine qQ ?_; refine qg (by omega) ?_; refine qV ?_; refine qV ?_; refine qF rfl ?_) | with_reducible (refine qK ?_; (try dsimp only); refine qX (by omega) ?_; refine qQ ?_; refine qX (by omega) ?_; refine qQ ?_; refine qX (by omega) ?_; refine qQ ?_; refine qX (by omega) ?_; refine qQ ?_; refine qX (by omega) ?_; refine qQ ?_; refine qK ?_; (try dsimp only); refine qX (by omega) ?_; refine qQ ?_; refine qX (by omega) ?_; refine qQ ?_; refine qX (by omega) ?_; refine qQ ?_; refine qK ?_; (try dsimp only); refine qg (by omega) ?_; refine qV ?_; refine qV ?_; refine qF rfl ?_) | with_reducible (refine qK ?_; (try dsimp only); refine qX (by omega) ?_; refine qQ ?_; refine qX (by omega) ?_; refine qQ ?_; refine qX (by omega) ?_; refine qQ ?_; refine qX (by omega) ?_; refine qQ ?_; refine qX (by omega) ?_; refine qQ ?_; refine qK ?_; (try dsimp only); refine qX (by omega) ?_; refine qQ ?_; refine qX (by omega) ?_; refine qQ ?_; refine qg (by omega) ?_; refine qV ?_; refine qF rfl ?_) | with_reducible (refine qK ?_; (try dsimp only); refine qX (by omega) ?_; refine qQ ?_; refine qX (by omega) ?_; refine qQ ?_; refine qX (by omega) ?_; refine qQ ?_; refine qX (by omega) ?_; refine qQ ?_; refine qX (by omega) ?_; refine qQ ?_; refine qK ?_; (try dsimp only); refine qX (by omega) ?_; refine qQ ?_; refine qg (by omega) ?_; refine qV ?_; refine qV ?_; refine qF rfl ?_) | with_reducible (refine qK ?_; (try dsimp only); refine qX (by omega) ?_; refine qQ ?_; refine qX (by omega) ?_; refine qQ ?_; refine qX (by omega) ?_; refine qQ ?_; refine qX (by omega) ?_; refine qQ ?_; refine qX (by omega) ?_; refine qQ ?_; refine qK ?_; (try dsimp only); refine qg (by omega) ?_; refine qV ?_; refine qV ?_; refine qF rfl ?_) | with_reducible (refine qK ?_; (try dsimp only); refine qX (by omega) ?_; refine qQ ?_; refine qX (by omega) ?_; refine qQ ?_; refine qX (by omega) ?_; refine qQ ?_; refine qX (by omega) ?_; refine qQ ?_; refine qg (by omega) ?_; refine qV ?_; refine qJ ?_; refine qG (by assumption) e_1 rfl ?_) | with_reducible (refine qK ?_; (try dsimp only); refine qX (by omega) ?_; refine qQ ?_; refine qg (by omega) ?_; refine qV ?_; refine qJ ?_; refine qG (by assumption) e_1 rfl ?_; refine qF rfl ?_) | with_reducible (refine qK ?_; (try dsimp only); refine qX (by omega) ?_; refine qQ ?_; refine qX (by omega) ?_; refine qQ ?_; refine qg (by omega) ?_; refine qV ?_; refine qJ ?_; refine qG (by assumption) e_1 rfl ?_) | with_reducible (refine qK ?_; (try dsimp only); refine qX (by omega) ?_; refine qQ ?_; refine qX (by omega) ?_; refine qQ ?_; refine qX (by omega) ?_; refine qQ ?_; refine qg (by omega) ?_; refine qV ?_; refine qF rfl ?_) | with_reducible (refine qK ?_; (try dsimp only); refine qg (by omega) ?_; refine qV ?_; refine qV ?_; refine qJ ?_; refine qG (by assumption) e_1 rfl ?_; refine qF rfl ?_))
 ·exact fin (1, a, 0, 0, kx.2.2.2.2) _ (.of (qQh (by omega)) (by dsimp only; omega) hN) H2
 ·exact fin (1, a, 0, 0, kx.2.2.2.2) _ (.of (qQh (by omega)) (by dsimp only; omega) hN) H2
 ·refine ga (by decide) ?_
  obtain ⟨m, hm⟩ : ∃ m : Nat, kx.2.2.2.2 = m := ⟨kx.2.2.2.2.toNat, by omega⟩
  have ht : kx.2.2.2.2.tmod ((20 : Nat) : Int) = ((m % 20 : Nat) : Int) := by rw [hm]; rfl
  rw [ht]
  with_reducible (refine qF rfl ?_)
  exact fin (1, a, 0, 0, ((m % 20 : Nat) : Int)) _ (.of (qQh (by omega)) (by dsimp only; omega) (by dsimp only; omega)) H2
 ·exact fin (2, a, b, 0, 0) _ (.of (may_2 (by omega) (by omega)) (by dsimp only; omega) z0) H2
 ·refine ga (by decide) ?_
  obtain ⟨m, hm⟩ : ∃ m : Nat, kx.2.2.2.2 = m := ⟨kx.2.2.2.2.toNat, by omega⟩
  have ht : kx.2.2.2.2.tmod ((64 : Nat) : Int) = ((m % 64 : Nat) : Int) := by rw [hm]; rfl
  rw [ht]
  refine jF (by omega) ?_
  refine qq (yA (by omega) (by omega) (by omega) (by omega)) ?_
  rintro _ _ ⟨rfl, rfl⟩
  have ho := jn ((m % 64 : Nat) : Int) (show (((0 : Nat) : Int)) ≤ ((4 : Nat) : Int) by omega)
  generalize jd ((m % 64 : Nat) : Int) ((0 : Nat) : Int) ((4 : Nat) : Int) = o at *
  with_reducible (refine qE (by omega) ?_; refine qF rfl ?_)
  exact fin (((3 : Nat) : Int) + o, a, b, c, 0) _ (.of (may_3 (by omega) (by omega) (by omega) (by omega)) (by dsimp only; omega) z0) H2
 ·exact fin (8, a, 7, at_, 0) _ (.of (QB (.inl rfl) (by omega) (by omega) (by omega)) (by dsimp only; omega) z0) H2
 ·exact fin (8, a, 7, at_, 0) _ (.of (QB (.inl rfl) (by omega) (by omega) (by omega)) (by dsimp only; omega) z0) H2
 ·exact fin (8, a, 7, at_, 0) _ (.of (QB (.inl rfl) (by omega) (by omega) (by omega)) (by dsimp only; omega) z0) H2
 ·exact fin (9, 7, b, at_, 0) _ (.of (QB (.inr rfl) (by omega) (by omega) (by omega)) (by dsimp only; omega) z0) H2
 ·exact fin (9, 7, b, at_, 0) _ (.of (QB (.inr rfl) (by omega) (by omega) (by omega)) (by dsimp only; omega) z0) H2
 ·exact fin (9, 7, b, at_, 0) _ (.of (QB (.inr rfl) (by omega) (by omega) (by omega)) (by dsimp only; omega) z0) H2
 ·refine qq (yA (by omega) (by omega) (by omega) (by omega)) ?_
  rintro _ _ ⟨rfl, rfl⟩
  have ho := jn kx.2.2.2.1 (show (((0 : Nat) : Int)) ≤ ((3 : Nat) : Int) by omega)
  generalize jd kx.2.2.2.1 ((0 : Nat) : Int) ((3 : Nat) : Int) = o at *
  with_reducible (refine qF rfl ?_)
  exact fin (8, a, b, o, 0) _ (.of (QB (.inl rfl) (by omega) (by omega) (by omega)) (by dsimp only; omega) z0) H2
 ·refine qq (yA (by omega) (by omega) (by omega) (by omega)) ?_
  rintro _ _ ⟨rfl, rfl⟩
  have ho := jn kx.2.2.2.1 (show (((0 : Nat) : Int)) ≤ ((3 : Nat) : Int) by omega)
  generalize jd kx.2.2.2.1 ((0 : Nat) : Int) ((3 : Nat) : Int) = o at *
  with_reducible (refine qF rfl ?_)
  exact fin (9, a, b, o, 0) _ (.of (QB (.inr rfl) (by omega) (by omega) (by omega)) (by dsimp only; omega) z0) H2
 ·exact fin (10, a, b, 0, 0) _ (.of (Zp (by omega) (by omega)) (by dsimp only; omega) z0) H2
 ·exact fin (10, a, b, 0, 0) _ (.of (Zp (by omega) (by omega)) (by dsimp only; omega) z0) H2
 ·exact fin (11, a, 0, 0, 0) _ (.of (Zb (.inl rfl) (by omega)) (by dsimp only; omega) z0) H2
 ·exact fin (8, a, 7, at_, 0) _ (.of (QB (.inl rfl) (by omega) (by omega) (by omega)) (by dsimp only; omega) z0) H2
 ·exact fin (21, a, 0, 0, 0) _ (.of (Zb (.inr rfl) (by omega)) (by dsimp only; omega) z0) H2
end Go.Proofs.YtdlfmpmpmkffjaaGreatDoor
namespace Go.Proofs.YtdlfmpmpmkffjaaGreatDoor
open Go Go.Ae
set_option maxRecDepth 100000
variable {g h : AH} {L R : List SP}
theorem VY (l : List Int) : jQ (l.map (AV.int .i64)) = true := by
 unfold jQ
 rw [List.all_eq_true]
 intro y hy
 obtain ⟨z, _, rfl⟩ := List.mem_map.1 hy
 rfl
theorem y3 (l : List qO) (st : List Int) : (jC l st).length = st.length := by simp [jC]
theorem Up {l : List qO} {st : List Int} (hn : st ≠ []) : (jC l st)[st.length - 1]? = some (opM l st) := by
 have hl := List.length_pos_iff.2 hn
 rw [Kf hn, List.getLast?_eq_getElem?, y3, List.getElem?_eq_getElem (by rw [y3]; omega)]; rfl
theorem X0 {l : List qO} {st : List Int} : (wZ l st).length = l.length + 1 := by simp [wZ]
theorem KO {n : Nat} (hn : 1 ≤ n) {calm : Bool} {l : List qO} {st : List Int} {lv ov : AV} (B : Bld calm l st) (hne : st ≠ []) (ho : opM l st = 14 ∨ opM l st = 17 ∨ opM l st = 18) (hl : l.length ≤ 1000)
  (H : HS g h (xH lv l :: QW ov (jC l st) :: R)) :
  wp (callT tab qy n (.fn 57 [] []) [lv, ov] h) fun r h' => ∃ lv' ov', r = .tup [lv', ov'] ∧ HS g h' (xH lv' (wZ l st) :: QW ov' (jC (wZ l st) (kh l st)) :: R) := by
 (refine qM (g := (tD2 S57)) rfl (by omega) fun k hk => ?_; show wp (S57 (callT tab qy k) _ _ _).1 _; unfold S57; try simp only [ Int.ofNat_eq_natCast])
 have hp := List.length_pos_iff.2 hne
 have h5 := B.five
 have hol := y3 l st
 have hat := Up (l := l) hne
 obtain ⟨B2, hops⟩ := B.shut hne ho
 rw [hops]
 have H0 : HS g h (qA 28 5 l.length lv (l.flatMap qe) :: qA 3 1 (jC l st).length ov ((jC l st).map (.int .i64)) :: R) := H
 refine qa H0 e_1 ?_
 rw [hol]
 refine qc (by omega) ?_
 rw [show (st.length : Int) - ((1 : Nat) : Int) = ((st.length - 1 : Nat) : Int) by omega]
 refine jN (H0.sl e_1) (x := .int .i64 (opM l st)) (by rw [List.getElem?_map, hat]; rfl) ?_
 have hdl : (jC l st).dropLast = (jC l st).take (st.length - 1) := by rw [List.dropLast_eq_take, hol]
 have tail : ∀ (op : Int), (opM l st = 14 ∧ op = 15 ∨ opM l st = 18 ∧ op = 19) →
   wp (zA (α := AV × AV × Unit → AH → Go.Ae.R) (fun s5 h6 => some ((.tup [s5.2.1, s5.1]), h6)) fun j7 => jb [(.int .i64 ((0 : Nat) : Int)), (.int .i64 ((0 : Nat) : Int)), (.int .i64 ((0 : Nat) : Int)), (.int .i64 ((0 : Nat) : Int)), (.int .u64 ((0 : Nat) : Int))] [(0, 1, (.int .i64 op))] fun v8 =>
    j4 h 28 [(.int .i64 ((0 : Nat) : Int)), (.int .i64 ((0 : Nat) : Int)), (.int .i64 ((0 : Nat) : Int)), (.int .i64 ((0 : Nat) : Int)), (.int .u64 ((0 : Nat) : Int))] 1 [(0, 5, v8)] fun v9 h10 =>
    j0 h10 28 5 lv v9 fun v11 h12 => ze h12 3 1 ov none (some (.int .i64 ((st.length - 1 : Nat) : Int))) fun v13 =>
    wN ov (some (3 * 65536 + 1)) v13 h10 h12 h.nx <| j7 (v13, v11, ()) h12)
   fun r h' => ∃ lv' ov', r = .tup [lv', ov'] ∧ HS g h' (xH lv' (wZ l st) :: QW ov' ((jC l st).dropLast ++ (if opM l st = 17 then [18] else [])) :: R) := by
  intro op hop
  refine qK ?_
  try dsimp only
  refine qF (l := qe (one op)) rfl ?_
  refine qf (n := 1) (l := qe (one op)) (sz := 5) H0 rfl rfl rfl rfl fun v9 h10 H10 => ?_
  have S : Sl (fun _ => True) h10 5 [one op].length v9 ([one op].flatMap qe) := H10.sl .here
  refine vh (H10.sel (P := xH lv l) e_1) S (by simp; omega) fun v11 h12 H12 => ?_
  refine yj (hi := st.length - 1) (H12.sel (P := qA 3 1 (jC l st).length ov ((jC l st).map (.int .i64))) e_2) (by omega) (by omega) fun v13 H13 => ?_
  refine KG H10 (s := e_2) H12 e_2 H0 e_1 (by omega) (by omega) rfl ?_
  rw [Nat.mul_one, ← List.map_take, ← hdl] at H13
  have h17 : ¬ opM l st = 17 := by omega
  rw [if_neg h17, List.append_nil]
  refine qW ⟨v11, v13, rfl, ?_⟩
  have e : wZ l st = l ++ [one op] := by
   unfold wZ xu
   rcases hop with ⟨h1, h2⟩ | ⟨h1, h2⟩
   ·rw [h1, h2]; rfl
   ·rw [h1, h2]; rfl
  rw [e]
  unfold QW
  rw [show (jC l st).dropLast.length = st.length - 1 by rw [List.length_dropLast, hol]]
  exact H13.sub (.cons e_1 (.cons .here (.drop .refl)))
 by_cases c14 : opM l st = 14
 ·refine qg c14 (qV ?_)
  exact tail 15 (.inl ⟨c14, rfl⟩)
 refine qX c14 (qQ ?_)
 by_cases c17 : opM l st = 17
 ·refine qg c17 (qV ?_)
  refine yj (hi := st.length - 1) (H0.sel (P := qA 3 1 (jC l st).length ov ((jC l st).map (.int .i64))) e_1) (by omega) (by omega) fun v15 H2 => ?_
  rw [Nat.mul_one, ← List.map_take, ← hdl] at H2
  have hdn : (jC l st).dropLast.length = st.length - 1 := by rw [List.length_dropLast, hol]
  have S : Sl (fun _ => True) h 1 (st.length - 1) v15 ((jC l st).dropLast.map (.int .i64)) := H2.sl .here
  refine jc (H2.nils (e := 3) (sz := 1)) S (by omega) (by omega) (VY _) fun v16 h3 H3 => ?_
  rw [List.nil_append, Nat.zero_add] at H3
  refine qf (n := 1) (l := [.int .i64 ((18 : Nat) : Int)]) (sz := 1) H3 rfl rfl rfl rfl fun v18 h4 H4 => ?_
  refine jc (H4.sel e_1) (H4.sl .here) (by omega) (by omega) rfl fun v20 h5 H5 => ?_
  refine qF (l := qe (one 18)) rfl ?_
  refine qf (n := 1) (l := qe (one 18)) (sz := 5) H5 rfl rfl rfl rfl fun v23 h6 H6 => ?_
  have S6 : Sl (fun _ => True) h6 5 [one 18].length v23 ([one 18].flatMap qe) := H6.sl .here
  refine vh (H6.sel (P := xH lv l) e_4) S6 (by simp; omega) fun v25 h7 H7 => ?_
  rw [if_pos c17]
  refine qW ⟨v25, v20, rfl, ?_⟩
  have e : wZ l st = l ++ [one 18] := by unfold wZ xu; rw [c17]; rfl
  rw [e]
  unfold QW
  rw [List.length_append, hdn, List.map_append]
  exact H7.sub (.cons .here (.cons e_1 (.drop (.drop (.drop .refl)))))
 ·refine qX c17 (qQ ?_)
  exact tail 19 (.inr ⟨by omega, rfl⟩)
def wB (o : List Int) : Nat := (o.map fun x => if x = 17 then 2 else 1).sum
theorem G9 (a b : List Int) : wB (a ++ b) = wB a + wB b := by simp [wB]
theorem qJ6 (o : List Int) : wB o ≤ 2 * o.length := by
 induction o with
 | nil => simp [wB]
 | cons x o ih => simp only [wB, List.map_cons, List.sum_cons, List.length_cons] at *; split <;> omega
theorem MC {l : List qO} {st : List Int} (hne : st ≠ []) : wB ((jC l st).dropLast ++ (if opM l st = 17 then [18] else [])) + 1 = wB (jC l st) := by
 have h1 : jC l st ≠ [] := by intro h; have := congrArg List.length h; rw [y3] at this; exact hne (List.eq_nil_of_length_eq_zero this)
 have h2 := List.dropLast_concat_getLast h1
 have h3 : (jC l st).getLast h1 = opM l st := by rw [Kf hne, List.getLast?_eq_some_getLast h1]; rfl
 rw [h3] at h2
 have h4 : wB (jC l st) = wB (jC l st).dropLast + (if opM l st = 17 then 2 else 1) := by
  conv => lhs; rw [← h2]
  rw [G9]; simp [wB]
 rw [G9, h4]
 split
 ·simp [wB]
 ·simp [wB]
def OpsK (l : List qO) (st : List Int) : Prop := ∀ o ∈ jC l st, o = 14 ∨ o = 17 ∨ o = 18
theorem OpsK.at {l : List qO} {st : List Int} (h : OpsK l st) (hne : st ≠ []) : opM l st = 14 ∨ opM l st = 17 ∨ opM l st = 18 := h _ (List.mem_of_getElem? (Up hne))
set_option maxHeartbeats 8000000 in
theorem ZD {n : Nat} (hn : 5 ≤ n) {calm : Bool} {ks : List qO} {kv : AV} {most : Int} (hN : ∀ x ∈ ks, 0 ≤ x.2.2.2.2 ∧ x.2.2.2.2 < 18446744073709551616) (hm : 1 ≤ most ∧ most ≤ 40) (H : HS g h R) (S : Rd g R 5 ks.length kv (ks.flatMap qe)) :
  wp (callT tab qy n (.fn 23 [] []) [kv, .int .i64 most, .bool calm] h) fun r h' => ∃ lv l, r = .agg [lv] ∧ Bld calm l [] ∧ 0 < l.length ∧ (l.length : Int) ≤ most ∧ HS g h' (xH lv l :: R) := by
 (refine qM (g := (tD3 S23)) rfl (by omega) fun k hk => ?_; show wp (S23 (callT tab qy k) _ _ _ _).1 _; unfold S23; try simp only [ Int.ofNat_eq_natCast])
 refine qb H rfl fun b0 h1 H1 => ?_
 clear H
 have H1 := (H1.nils (e := 3) (sz := 1)).nils (e := 28) (sz := 5)
 refine zM [] (fun s h' => ∃ (l : List qO) (st : List Int) (lv ov : AV), s = (ov, lv, .ptr b0 0, ()) ∧ Bld calm l st ∧ OpsK l st ∧ (l.length : Int) + 2 * st.length ≤ most ∧ HS g h' (xH lv l :: QW ov (jC l st) :: qB b0 [.nils] :: R)) ?_ ?_
 rotate_left
 ·rintro s h2 ⟨l, st, lv, ov, rfl, B, OK, hle, H2⟩
  dsimp only
  have hW : (l.length : Int) + wB (jC l st) ≤ most := by
   have := qJ6 (jC l st)
   rw [y3] at this; omega
  refine jz (fun m s h' => ∃ (l : List qO) (st : List Int) (lv ov : AV), s = (ov, lv, .ptr b0 0, ()) ∧ m = wB (jC l st) ∧ Bld calm l st ∧ OpsK l st ∧ (l.length : Int) + wB (jC l st) ≤ most ∧ HS g h' (xH lv l :: QW ov (jC l st) :: qB b0 [.nils] :: R))
   ?_ (m := wB (jC l st)) (by show _ < 1000000000; omega) ⟨l, st, lv, ov, rfl, rfl, B, OK, hW, H2⟩
  clear H2 hW hle OK B st lv ov l
  rintro m ih s h3 hih ⟨l, st, lv, ov, rfl, rfl, B, OK, hW, H⟩
  dsimp only
  have hol := y3 l st
  refine qa (n := (jC l st).length) (H : HS g h3 (xH lv l :: qA 3 1 (jC l st).length ov ((jC l st).map (.int .i64)) :: qB b0 [.nils] :: R)) e_1 ?_
  rw [hol]
  by_cases h0 : st = []
  ·subst h0
   refine ja (by simp) (qQ ?_)
   refine zM [] (fun s h' => ∃ (l : List qO) (lv : AV), s = (lv, .ptr b0 0, ()) ∧ Bld calm l [] ∧ 0 < l.length ∧ (l.length : Int) ≤ most ∧ HS g h' (xH lv l :: qB b0 [.nils] :: R)) ?_ ?_
   ·intro j hj
    refine qa (n := l.length) (H : HS g h3 (qA 28 5 l.length lv (l.flatMap qe) :: QW ov (jC l []) :: qB b0 [.nils] :: R)) .here ?_
    by_cases hl0 : l.length = 0
    ·refine qg (by omega) (qV ?_)
     obtain rfl := List.eq_nil_of_length_eq_zero hl0
     refine qF (l := qe (1, 0, 0, 0, 1)) rfl ?_
     refine qf (n := 1) (l := qe (1, 0, 0, 0, 1)) (sz := 5) H rfl rfl rfl rfl fun v27 h4 H4 => ?_
     have S1 : Sl (fun _ => True) h4 5 [((1, 0, 0, 0, 1) : qO)].length v27 ([((1, 0, 0, 0, 1) : qO)].flatMap qe) := H4.sl .here
     refine vh (H4.sel (P := xH lv []) e_1) S1 (by simp) fun v29 h5 H5 => ?_
     refine hj _ _ ⟨_, v29, rfl, B.flat (x := (1, 0, 0, 0, 1)) ⟨by decide, by decide, by decide, fun _ => by decide⟩ (by unfold Flat; decide) (by decide), by simp, by simp; omega, H5.sub (.cons .here (.drop (.drop (.cons .here .refl))))⟩
    ·refine qX (by omega) (qQ ?_)
     exact hj _ _ ⟨l, lv, rfl, B, by omega, by omega, H.sub (.cons .here (.drop (.cons .here .refl)))⟩
   ·rintro s h5 ⟨l, lv, rfl, B, hl0, hlm, H5⟩
    dsimp only
    have ol := H5.one (e := 28) (sz := 5) (n := l.length) .here
    refine qF (l := [lv]) (by simp only [ye, ol.1]; rfl) ?_
    refine jq H5 (b := b0) e_1 rfl (by simp) (by show jQ [lv] = true; simp [jQ, ol.2]) fun h6 H6 => ?_
    have H6 : HS g h6 (qB b0 [lv] :: xH lv l :: R) := H6
    refine qj ?_
    refine qr H6 (b := b0) (off := 0) .here rfl (by omega) (l := [lv]) rfl ?_
    exact qW ⟨lv, l, rfl, B, hl0, hlm, H6.drop⟩
  ·have hp := List.length_pos_iff.2 h0
   refine ji (by omega) (qV ?_)
   refine qq (KO (by omega) B h0 (OK.at h0) (by omega) H) ?_
   rintro _ h4 ⟨lv', ov', rfl, H4⟩
   obtain ⟨B2, hops⟩ := B.shut h0 (OK.at h0)
   have hw := MC (l := l) h0
   rw [← hops] at hw
   refine qz rfl (qz rfl ?_)
   refine hih (wB (jC (wZ l st) (kh l st))) _ _ (by omega) ⟨_, _, lv', ov', rfl, rfl, B2, ?_, by rw [X0]; omega, H4⟩
   intro o ho
   rw [hops] at ho
   rcases List.mem_append.1 ho with ho | ho
   ·exact OK o ((List.dropLast_sublist _).subset ho)
   ·split at ho
    ·rw [List.mem_singleton] at ho; omega
    ·cases ho
 intro j5 hj5
 refine jz (fun m s h' => ∃ (i : Nat) (l : List qO) (st : List Int) (lv ov : AV), s = (.int .i64 (i : Int), ov, lv, .ptr b0 0, .bool calm, .int .i64 most, kv, ()) ∧ m = 41 - l.length ∧ i ≤ l.length ∧ Bld calm l st ∧ OpsK l st ∧ (l.length : Int) + 2 * st.length ≤ most ∧ HS g h' (xH lv l :: QW ov (jC l st) :: qB b0 [.nils] :: R))
  ?_ (m := 41) (by show _ < 1000000000; omega) ⟨0, [], [], .nils, .nils, rfl, rfl, by simp, Bld.nil calm, (fun o ho => by cases ho), by simp; omega, H1⟩
 clear H1
 rintro m ih s h2 hih ⟨i, l, st, lv, ov, rfl, rfl, hil, B, OK, hle, H⟩
 dsimp only
 refine zq (S.sl H.drop.drop.drop) ?_
 refine jU (fun hlt => qV ?_) fun hge => qQ (hj5 _ _ ⟨l, st, lv, ov, rfl, B, OK, hle, H⟩)
 have hlt : i < ks.length := by omega
 refine zG (l := qe ks[i]) (S.sl H.drop.drop.drop) hlt (by omega) (JS (sz := 5) (fun _ => rfl) (List.getElem?_eq_getElem hlt)) ?_
 have hNi := hN ks[i] (List.getElem_mem hlt)
 generalize ks[i] = kx at *
 refine qb H rfl fun b3 h3 H3 => jq H3 .here rfl (by show 0 + 5 ≤ 5; omega) rfl fun h5 H5 => ?_
 have H5 : HS g h5 (qB b3 (qe kx) :: xH lv l :: QW ov (jC l st) :: qB b0 [.nils] :: R) := H5
 have H6 : HS g h5 (qB b3 (qe kx) :: qA 28 5 l.length lv (l.flatMap qe) :: qA 3 1 (jC l st).length ov ((jC l st).map (.int .i64)) :: qB b0 [.nils] :: R) := H5
 clear H H3
 have hol := y3 l st
 refine qa H6 e_2 ?_
 rw [hol]
 refine qa H6 e_1 ?_
 refine Gm (by omega) (qE (by omega) (qE (by omega) ?_))
 refine zO (fun hg => qV (hj5 _ _ ⟨l, st, lv, ov, rfl, B, OK, hle, H5.drop⟩)) fun hg => qQ ?_
 refine qJ (qG H5 (b := b3) .here rfl ?_)
 refine qq (yA (by omega) (by omega) (by omega) (by omega)) ?_
 rintro _ h5 ⟨rfl, rfl⟩
 have hwb := jn kx.1 (show (((0 : Nat) : Int)) ≤ ((40 : Nat) : Int) by omega)
 generalize jd kx.1 ((0 : Nat) : Int) ((40 : Nat) : Int) = w at *
 refine zM [] (fun s h' => ∃ (l' : List qO) (st' : List Int) (lv' ov' : AV), s = (.int .i64 (i : Int), ov', lv', .ptr b0 0, .bool calm, .int .i64 most, kv, ()) ∧ Bld calm l' st' ∧ OpsK l' st' ∧ (l'.length : Int) + 2 * st'.length ≤ most ∧ l.length < l'.length ∧ HS g h' (xH lv' l' :: QW ov' (jC l' st') :: qB b0 [.nils] :: R)) ?_ ?_
 rotate_left
 ·rintro s h7 ⟨l', st', lv', ov', rfl, B', OK', hle', hlt', H7⟩
  dsimp only
  refine qE (by omega) ?_
  exact hih (41 - l'.length) _ _ (by omega) ⟨i + 1, l', st', lv', ov', rfl, rfl, by omega, B', OK', hle', H7⟩
 intro j hj
 have hfive := B.five
 have hll : l.length ≤ 100 := by omega
 have same : ∀ {t : List qO}, OpsK (l ++ t) st := fun {t} o ho => OK o (by rw [kA B.stok] at ho; exact ho)
 have hsame : ∀ {t : List qO}, jC (l ++ t) st = jC l st := kA B.stok
 have dflt : wp (jh h5 (.ptr b3 0) 5 fun v218 => jP (callT tab qy k) (.fn 59 [] []) [v218] h5 fun v219 h220 => j4 h220 28 [(.int .i64 ((0 : Nat) : Int)), (.int .i64 ((0 : Nat) : Int)), (.int .i64 ((0 : Nat) : Int)), (.int .i64 ((0 : Nat) : Int)), (.int .u64 ((0 : Nat) : Int))] 1 [(0, 5, v219)] fun v221 h222 =>
   j0 h222 28 5 lv v221 fun v223 h224 => j (.int .i64 (i : Int), ov, v223, .ptr b0 0, .bool calm, .int .i64 most, kv, ()) h224 []) (fun r h' => ∃ lv l, r = .agg [lv] ∧ Bld calm l [] ∧ 0 < l.length ∧ (l.length : Int) ≤ most ∧ HS g h' (xH lv l :: R)) := by
  refine qr H5 (b := b3) (off := 0) .here rfl (by omega) (l := qe kx) rfl ?_
  refine qq (Qz (by omega) hNi H5) ?_
  rintro _ h7 ⟨x, rfl, hx, H7⟩
  refine qf (n := 1) (l := qe x) (sz := 5) H7 rfl rfl rfl rfl fun v8 h8 H8 => ?_
  have S1 : Sl (fun _ => True) h8 5 [x].length v8 ([x].flatMap qe) := by simpa using H8.sl .here
  refine vh (H8.sel (P := xH lv l) e_2) S1 (by simp; omega) fun v9 h9 H9 => ?_
  refine hj _ _ ⟨l ++ [x], st, v9, ov, rfl, B.flat (hx.ok calm) hx.flat hx.nj, same, by simp; omega, by simp, ?_⟩
  rw [hsame]
  exact H9.sub (.cons .here (.drop (.drop (.cons .here (.cons .here .refl)))))
 have beg : ∀ op : Int, op = 14 ∨ op = 17 → st.length < 5 → wp (j4 h5 28 [(.int .i64 ((0 : Nat) : Int)), (.int .i64 ((0 : Nat) : Int)), (.int .i64 ((0 : Nat) : Int)), (.int .i64 ((0 : Nat) : Int)), (.int .u64 ((0 : Nat) : Int))] 1 [(0, 5, .agg (qe (one op)))] fun v63 h64 => j0 h64 28 5 lv v63 fun v65 h66 =>
   j4 h66 3 [(.int .i64 ((0 : Nat) : Int))] 1 [(0, 1, (.int .i64 op))] fun v67 h68 => j0 h68 3 1 ov v67 fun v69 h70 => j (.int .i64 (i : Int), v69, v65, .ptr b0 0, .bool calm, .int .i64 most, kv, ()) h70 []) (fun r h' => ∃ lv l, r = .agg [lv] ∧ Bld calm l [] ∧ 0 < l.length ∧ (l.length : Int) ≤ most ∧ HS g h' (xH lv l :: R)) := by
  intro op hop hs5
  refine qf (n := 1) (l := qe (one op)) (sz := 5) H5 rfl rfl rfl rfl fun v8 h8 H8 => ?_
  have S1 : Sl (fun _ => True) h8 5 [one op].length v8 ([one op].flatMap qe) := by simpa using H8.sl .here
  refine vh (H8.sel (P := xH lv l) e_2) S1 (by simp; omega) fun v9 h9 H9 => ?_
  refine qf (n := 1) (l := [.int .i64 op]) (sz := 1) H9 rfl rfl rfl rfl fun v10 h10 H10 => ?_
  refine jc (H10.sel (P := qA 3 1 (jC l st).length ov ((jC l st).map (.int .i64))) e_4) (H10.sl .here) (by omega) (by omega) rfl fun v11 h11 H11 => ?_
  obtain ⟨B2, ho2⟩ := B.begin hop hs5
  refine hj _ _ ⟨l ++ [one op], st ++ [(l.length : Int)], v9, v11, rfl, B2, ?_, by simp; omega, by simp, ?_⟩
  ·intro o ho
   rw [ho2] at ho
   rcases List.mem_append.1 ho with ho | ho
   ·exact OK o ho
   ·rw [List.mem_singleton] at ho; omega
  ·rw [ho2]
   unfold QW
   rw [List.length_append, List.map_append]
   exact H11.sub (.cons e_2 (.cons .here (.drop (.drop (.drop (.cons .here .refl))))))
 have shu : 0 < st.length → wp (jP (callT tab qy k) (.fn 57 [] []) [lv, ov] h5 fun v98 h99 => zc v98 0 fun v100 => zc v98 1 fun v101 => j (.int .i64 (i : Int), v101, v100, .ptr b0 0, .bool calm, .int .i64 most, kv, ()) h99 []) (fun r h' => ∃ lv l, r = .agg [lv] ∧ Bld calm l [] ∧ 0 < l.length ∧ (l.length : Int) ≤ most ∧ HS g h' (xH lv l :: R)) := by
  intro hp
  have hne := List.length_pos_iff.1 hp
  refine qq (KO (by omega) B hne (OK.at hne) (by omega) (H5.sub (L' := xH lv l :: QW ov (jC l st) :: qB b3 (qe kx) :: qB b0 [.nils] :: R) (.cons e_1 (.cons e_1 (.cons .here (.cons .here .refl)))))) ?_
  rintro _ h7 ⟨lv', ov', rfl, H7⟩
  obtain ⟨B2, hops⟩ := B.shut hne (OK.at hne)
  have hsl : (kh l st).length ≤ st.length := by unfold kh; split <;> simp <;> omega
  refine qz rfl (qz rfl ?_)
  refine hj _ _ ⟨_, _, lv', ov', rfl, B2, ?_, by rw [X0]; omega, by rw [X0]; omega, H7.sub (.cons .here (.cons .here (.drop (.cons .here .refl))))⟩
  intro o ho
  rw [hops] at ho
  rcases List.mem_append.1 ho with ho | ho
  ·exact OK o ((List.dropLast_sublist _).subset ho)
  ·split at ho
   ·rw [List.mem_singleton] at ho; omega
   ·cases ho
 have und : opM l st = 14 → wp (j4 h5 28 [(.int .i64 ((0 : Nat) : Int)), (.int .i64 ((0 : Nat) : Int)), (.int .i64 ((0 : Nat) : Int)), (.int .i64 ((0 : Nat) : Int)), (.int .u64 ((0 : Nat) : Int))] 1 [(0, 5, .agg (qe (one 16)))] fun v8 h8 => j0 h8 28 5 lv v8 fun v9 h9 => j (.int .i64 (i : Int), ov, v9, .ptr b0 0, .bool calm, .int .i64 most, kv, ()) h9 []) (fun r h' => ∃ lv l, r = .agg [lv] ∧ Bld calm l [] ∧ 0 < l.length ∧ (l.length : Int) ≤ most ∧ HS g h' (xH lv l :: R)) := by
  intro h14
  refine qf (n := 1) (l := qe (one 16)) (sz := 5) H5 rfl rfl rfl rfl fun v8 h8 H8 => ?_
  have S1 : Sl (fun _ => True) h8 5 [one 16].length v8 ([one 16].flatMap qe) := by simpa using H8.sl .here
  refine vh (H8.sel (P := xH lv l) e_2) S1 (by simp; omega) fun v9 h9 H9 => ?_
  refine hj _ _ ⟨l ++ [one 16], st, v9, ov, rfl, B.undo h14, same, by simp; omega, by simp, ?_⟩
  rw [hsame]
  exact H9.sub (.cons .here (.drop (.drop (.cons .here (.cons .here .refl)))))
 have pair : ∀ (x y : qO) (h7 : AH), HS g h7 (qB b3 (qe kx) :: xH lv l :: QW ov (jC l st) :: qB b0 [.nils] :: R) → Bld calm (l ++ [x, y]) st → (l.length : Int) + 2 * st.length + 5 ≤ most → wp (j4 h7 28 [(.int .i64 ((0 : Nat) : Int)), (.int .i64 ((0 : Nat) : Int)), (.int .i64 ((0 : Nat) : Int)), (.int .i64 ((0 : Nat) : Int)), (.int .u64 ((0 : Nat) : Int))] 2 [(0, 5, .agg (qe x)), (5, 5, .agg (qe y))] fun v8 h8 =>
   j0 h8 28 5 lv v8 fun v9 h9 => j (.int .i64 (i : Int), ov, v9, .ptr b0 0, .bool calm, .int .i64 most, kv, ()) h9 []) (fun r h' => ∃ lv l, r = .agg [lv] ∧ Bld calm l [] ∧ 0 < l.length ∧ (l.length : Int) ≤ most ∧ HS g h' (xH lv l :: R)) := by
  intro x y h7 H7 B7 hm7
  refine qf (n := 2) (l := qe x ++ qe y) (sz := 5) H7 rfl rfl rfl rfl fun v8 h8 H8 => ?_
  have S1 : Sl (fun _ => True) h8 5 [x, y].length v8 ([x, y].flatMap qe) := by simpa using H8.sl .here
  refine vh (H8.sel (P := xH lv l) e_2) S1 (by simp; omega) fun v9 h9 H9 => ?_
  refine hj _ _ ⟨l ++ [x, y], st, v9, ov, rfl, B7, same, by simp; omega, by simp, ?_⟩
  rw [hsame]
  exact H9.sub (.cons .here (.drop (.drop (.cons .here (.cons .here .refl)))))
 have zer : ∀ r : Int, 0 ≤ r ∧ r ≤ 6 → Q3 calm (13, r, 0, ((l.length : Int) + ((2 : Nat) : Int)), 0) := fun r hr => ⟨qQI (by omega) (by omega), by show (13 : Int) ≠ 23; decide, by show (0 : Int) ≤ 0 ∧ (0 : Int) < 18446744073709551616; decide, fun _ => by show (13 : Int) ≠ 20 ∧ (13 : Int) ≠ 22 ∧ (13 : Int) ≠ 12; decide⟩
 have two : ∀ op : Int, op = 20 ∨ op = 22 → calm = false → wp (jP (callT tab qy k) (.fn 58 [] []) [.int .i64 kx.2.1] h5 fun v131 h132 => xn lv fun v133 => jJ .add v133 (.int .i64 ((2 : Nat) : Int)) fun v134 =>
   jb [(.int .i64 ((0 : Nat) : Int)), (.int .i64 ((0 : Nat) : Int)), (.int .i64 ((0 : Nat) : Int)), (.int .i64 ((0 : Nat) : Int)), (.int .u64 ((0 : Nat) : Int))] [(0, 1, (.int .i64 ((13 : Nat) : Int))), (1, 1, v131), (3, 1, v134)] fun v135 => jb [(.int .i64 ((0 : Nat) : Int)), (.int .i64 ((0 : Nat) : Int)), (.int .i64 ((0 : Nat) : Int)), (.int .i64 ((0 : Nat) : Int)), (.int .u64 ((0 : Nat) : Int))] [(0, 1, (.int .i64 op))] fun v136 =>
   j4 h132 28 [(.int .i64 ((0 : Nat) : Int)), (.int .i64 ((0 : Nat) : Int)), (.int .i64 ((0 : Nat) : Int)), (.int .i64 ((0 : Nat) : Int)), (.int .u64 ((0 : Nat) : Int))] 2 [(0, 5, v135), (5, 5, v136)] fun v8 h8 => j0 h8 28 5 lv v8 fun v9 h9 => j (.int .i64 (i : Int), ov, v9, .ptr b0 0, .bool calm, .int .i64 most, kv, ()) h9 []) (fun r h' => ∃ lv l, r = .agg [lv] ∧ Bld calm l [] ∧ 0 < l.length ∧ (l.length : Int) ≤ most ∧ HS g h' (xH lv l :: R)) := by
  intro op hop hcal
  refine qq (kF (by omega)) ?_
  rintro _ h5 ⟨rfl, rfl⟩
  have hr := jn kx.2.1 (show (0 : Int) ≤ 6 by omega)
  refine qa (n := l.length) H6 e_1 (qE (by omega) ?_)
  refine qF (l := qe (13, jd kx.2.1 0 6, 0, ((l.length : Int) + ((2 : Nat) : Int)), 0)) rfl ?_
  refine qF (l := qe (one op)) rfl ?_
  refine pair _ _ _ H5 (B.two (zer _ hr) ⟨by rcases hop with rfl | rfl <;> decide, by dsimp only; omega, by show (0 : Int) ≤ 0 ∧ (0 : Int) < 18446744073709551616; decide, fun hh => by rw [hcal] at hh; cases hh⟩ (by show Flat 13; unfold Flat; decide) (by unfold Flat; dsimp only; omega) (fun _ => rfl) (fun hh => by dsimp only at hh; omega)) (by omega)
 have ovr : wp (zA (α := AV × AV × AV × AV × AV × AV × AV × Unit → AH → Go.Ae.R) (fun s180 h181 => j (s180.1, s180.2.1, s180.2.2.1, s180.2.2.2.1, s180.2.2.2.2.1, s180.2.2.2.2.2.1, s180.2.2.2.2.2.2.1, ()) h181 []) fun j182 =>
   jP (callT tab qy k) (.fn 58 [] []) [.int .i64 kx.2.2.1] h5 fun v185 h186 => xn lv fun v187 => jJ .add v187 (.int .i64 ((2 : Nat) : Int)) fun v188 =>
   jb [(.int .i64 ((0 : Nat) : Int)), (.int .i64 ((0 : Nat) : Int)), (.int .i64 ((0 : Nat) : Int)), (.int .i64 ((0 : Nat) : Int)), (.int .u64 ((0 : Nat) : Int))] [(0, 1, (.int .i64 ((13 : Nat) : Int))), (1, 1, v185), (3, 1, v188)] fun v189 => jh h186 (.ptr b3 0) 5 fun v190 => jP (callT tab qy k) (.fn 59 [] []) [v190] h186 fun v191 h192 =>
   j4 h192 28 [(.int .i64 ((0 : Nat) : Int)), (.int .i64 ((0 : Nat) : Int)), (.int .i64 ((0 : Nat) : Int)), (.int .i64 ((0 : Nat) : Int)), (.int .u64 ((0 : Nat) : Int))] 2 [(0, 5, v189), (5, 5, v191)] fun v193 h194 => j0 h194 28 5 lv v193 fun v195 h196 =>
   wN (.ptr b3 0) (some 5) v190 h5 h186 h5.nx <| j182 (.int .i64 (i : Int), ov, v195, .ptr b0 0, .bool calm, .int .i64 most, kv, ()) h196) (fun r h' => ∃ lv l, r = .agg [lv] ∧ Bld calm l [] ∧ 0 < l.length ∧ (l.length : Int) ≤ most ∧ HS g h' (xH lv l :: R)) := by
  refine qK ?_
  try dsimp only
  refine qq (kF (by omega)) ?_
  rintro _ h5 ⟨rfl, rfl⟩
  have hr := jn kx.2.2.1 (show (0 : Int) ≤ 6 by omega)
  refine qa (n := l.length) H6 e_1 (qE (by omega) ?_)
  refine qF (l := qe (13, jd kx.2.2.1 0 6, 0, ((l.length : Int) + ((2 : Nat) : Int)), 0)) rfl ?_
  refine qr H5 (b := b3) (off := 0) .here rfl (by omega) (l := qe kx) rfl ?_
  refine qq (Qz (by omega) hNi H5) ?_
  rintro _ h7 ⟨x, rfl, hx, H7⟩
  refine qf (n := 2) (l := qe (13, jd kx.2.2.1 0 6, 0, ((l.length : Int) + ((2 : Nat) : Int)), 0) ++ qe x) (sz := 5) H7 rfl rfl rfl rfl fun v8 h8 H8 => ?_
  have S1 : Sl (fun _ => True) h8 5 [((13, jd kx.2.2.1 0 6, 0, ((l.length : Int) + ((2 : Nat) : Int)), 0) : qO), x].length v8 ([((13, jd kx.2.2.1 0 6, 0, ((l.length : Int) + ((2 : Nat) : Int)), 0) : qO), x].flatMap qe) := by simpa using H8.sl .here
  refine vh (H8.sel (P := xH lv l) e_2) S1 (by simp; omega) fun v9 h9 H9 => ?_
  refine xQ H5 (b := b3) .here rfl H5 .here rfl rfl (by omega) (HS.lt H5 .here) ?_
  refine hj _ _ ⟨_, st, v9, ov, rfl, B.two (zer _ hr) (hx.ok calm) (by show Flat 13; unfold Flat; decide) hx.flat (fun _ => rfl) (fun hh => by have := hx.nj; omega), same, by simp; omega, by simp, ?_⟩
  rw [hsame]
  exact H9.sub (.cons .here (.drop (.drop (.cons .here (.cons .here .refl)))))
 have bak : calm = false → wp (zA (α := AV × AV × AV × AV × AV × AV × AV × Unit → AH → Go.Ae.R) (fun s180 h181 => j (s180.1, s180.2.1, s180.2.2.1, s180.2.2.2.1, s180.2.2.2.2.1, s180.2.2.2.2.2.1, s180.2.2.2.2.2.2.1, ()) h181 []) fun j182 =>
   jh h5 (.ptr b3 0) 5 fun v205 => jP (callT tab qy k) (.fn 59 [] []) [v205] h5 fun v206 h207 => qd (.ptr b3 0) 2 fun v208 => jK h207 v208 fun v209 =>
   jP (callT tab qy k) (.fn 58 [] []) [v209] h207 fun v210 h211 => xn lv fun v212 =>
   jb [(.int .i64 ((0 : Nat) : Int)), (.int .i64 ((0 : Nat) : Int)), (.int .i64 ((0 : Nat) : Int)), (.int .i64 ((0 : Nat) : Int)), (.int .u64 ((0 : Nat) : Int))] [(0, 1, (.int .i64 ((13 : Nat) : Int))), (1, 1, v210), (3, 1, v212)] fun v213 =>
   j4 h211 28 [(.int .i64 ((0 : Nat) : Int)), (.int .i64 ((0 : Nat) : Int)), (.int .i64 ((0 : Nat) : Int)), (.int .i64 ((0 : Nat) : Int)), (.int .u64 ((0 : Nat) : Int))] 2 [(0, 5, v206), (5, 5, v213)] fun v214 h215 => j0 h215 28 5 lv v214 fun v216 h217 =>
   wN v208 none v209 h5 h207 h5.nx <| j182 (.int .i64 (i : Int), ov, v216, .ptr b0 0, .bool calm, .int .i64 most, kv, ()) h217) (fun r h' => ∃ lv l, r = .agg [lv] ∧ Bld calm l [] ∧ 0 < l.length ∧ (l.length : Int) ≤ most ∧ HS g h' (xH lv l :: R)) := by
  intro hcal
  refine qK ?_
  try dsimp only
  refine qr H5 (b := b3) (off := 0) .here rfl (by omega) (l := qe kx) rfl ?_
  refine qq (Qz (by omega) hNi H5) ?_
  rintro _ h7 ⟨x, rfl, hx, H7⟩
  refine qJ (qG H7 (b := b3) .here rfl ?_)
  refine qq (kF (by omega)) ?_
  rintro _ h7 ⟨rfl, rfl⟩
  have hr := jn kx.2.2.1 (show (0 : Int) ≤ 6 by omega)
  have H7' : HS g h7 (qB b3 (qe kx) :: qA 28 5 l.length lv (l.flatMap qe) :: QW ov (jC l st) :: qB b0 [.nils] :: R) := H7
  refine qa (n := l.length) H7' e_1 ?_
  refine qF (l := qe (13, jd kx.2.2.1 0 6, 0, (l.length : Int), 0)) rfl ?_
  refine qf (n := 2) (l := qe x ++ qe (13, jd kx.2.2.1 0 6, 0, (l.length : Int), 0)) (sz := 5) H7 rfl rfl rfl rfl fun v8 h8 H8 => ?_
  have S1 : Sl (fun _ => True) h8 5 [x, ((13, jd kx.2.2.1 0 6, 0, (l.length : Int), 0) : qO)].length v8 ([x, ((13, jd kx.2.2.1 0 6, 0, (l.length : Int), 0) : qO)].flatMap qe) := by simpa using H8.sl .here
  refine vh (H8.sel (P := xH lv l) e_2) S1 (by simp; omega) fun v9 h9 H9 => ?_
  refine je H5 (b := b3) .here rfl H7 .here rfl (HS.lt H5 .here) ?_
  refine hj _ _ ⟨l ++ [x, (13, jd kx.2.2.1 0 6, 0, (l.length : Int), 0)], st, v9, ov, rfl, B.two (hx.ok calm) ⟨qQI (by omega) (by omega), by show (13 : Int) ≠ 23; decide, by show (0 : Int) ≤ 0 ∧ (0 : Int) < 18446744073709551616; decide, fun _ => by show (13 : Int) ≠ 20 ∧ (13 : Int) ≠ 22 ∧ (13 : Int) ≠ 12; decide⟩ hx.flat (by show Flat 13; unfold Flat; decide) (fun hh => by have := hx.nj; omega) (fun _ => ⟨rfl, hcal⟩), same, by simp; omega, by simp, ?_⟩
  rw [hsame]
  exact H9.sub (.cons .here (.drop (.drop (.cons .here (.cons .here .refl)))))
 have hd : (w = 20 ∧ st.length < 5) ∨ (w = 20 ∧ ¬ st.length < 5) ∨ (w = 21 ∧ st.length < 5) ∨ (w = 21 ∧ ¬ st.length < 5) ∨ (w = 22 ∧ st.length < 5) ∨ (w = 22 ∧ ¬ st.length < 5) ∨ (w = 23 ∧ 0 < st.length) ∨ (w = 23 ∧ ¬ 0 < st.length) ∨ (w = 24 ∧ 0 < st.length) ∨ (w = 24 ∧ ¬ 0 < st.length) ∨ (w = 25 ∧ 0 < st.length) ∨ (w = 25 ∧ ¬ 0 < st.length) ∨ (w = 26 ∧ calm = true) ∨ (w = 26 ∧ calm = false ∧ 0 < st.length) ∨ (w = 26 ∧ calm = false ∧ ¬ 0 < st.length) ∨ (w = 27 ∧ calm = true) ∨ (w = 27 ∧ calm = false ∧ 0 < st.length) ∨ (w = 27 ∧ calm = false ∧ ¬ 0 < st.length) ∨ (w = 28 ∧ calm = true) ∨ (w = 28 ∧ calm = false) ∨ (w = 29 ∧ calm = true) ∨ (w = 29 ∧ calm = false) ∨ (w = 30) ∨ (w = 31) ∨ (w = 32 ∧ calm = true) ∨ (w = 32 ∧ calm = false) ∨ (w < 20 ∨ 32 < w) := by
  cases calm <;> simp only [reduceCtorEq, and_true, true_and, and_false, false_and, or_false, false_or] <;> omega
 rcases hd with ⟨hw1, hs1⟩ | ⟨hw1, hs1⟩ | ⟨hw1, hs1⟩ | ⟨hw1, hs1⟩ | ⟨hw1, hs1⟩ | ⟨hw1, hs1⟩ | ⟨hw1, hs1⟩ | ⟨hw1, hs1⟩ | ⟨hw1, hs1⟩ | ⟨hw1, hs1⟩ | ⟨hw1, hs1⟩ | ⟨hw1, hs1⟩ | ⟨hw1, rfl⟩ | ⟨hw1, rfl, hs1⟩ | ⟨hw1, rfl, hs1⟩ | ⟨hw1, rfl⟩ | ⟨hw1, rfl, hs1⟩ | ⟨hw1, rfl, hs1⟩ | ⟨hw1, rfl⟩ | ⟨hw1, rfl⟩ | ⟨hw1, rfl⟩ | ⟨hw1, rfl⟩ | hw1 | hw1 | ⟨hw1, rfl⟩ | ⟨hw1, rfl⟩ | hw1
 all_goals repeat (first | with_reducible refine qX (by omega) ?_ | with_reducible refine qg (by omega) ?_ | (with_reducible refine qK ?_; try dsimp only) | (with_reducible refine qT ?_; try dsimp only) | (with_reducible refine qS ?_; try dsimp only) | (with_reducible refine qR ?_; try dsimp only) | (with_reducible refine qw ?_; try dsimp only) | with_reducible refine qC ?_ | with_reducible refine qx ?_ | with_reducible refine qV ?_ | with_reducible refine qQ ?_ | with_reducible refine jw (by omega) ?_ | with_reducible refine jW (by omega) ?_ | with_reducible refine ji (by omega) ?_ | with_reducible refine ja (by omega) ?_ | with_reducible refine qn ?_ | with_reducible refine jj ?_ | with_reducible refine qc (by omega) ?_ | with_reducible refine qJ ?_ | (with_reducible refine jY ?_; try dsimp only) | with_reducible refine qG H6 .here rfl ?_ | with_reducible refine qF rfl ?_)
 ·exact beg 14 (.inl rfl) (by omega)
 ·exact dflt
 ·exact beg 17 (.inr rfl) (by omega)
 ·exact dflt
 ·exact beg 17 (.inr rfl) (by omega)
 ·exact dflt
 ·exact shu (by omega)
 ·exact dflt
 ·exact shu (by omega)
 ·exact dflt
 ·rw [show (st.length : Int) - ((1 : Nat) : Int) = ((st.length - 1 : Nat) : Int) by omega]
  refine jN (H6.sl e_2) (x := .int .i64 (opM l st)) (by rw [List.getElem?_map, Up (List.length_pos_iff.1 hs1)]; rfl) ?_
  by_cases h14 : opM l st = 14
  ·refine qg h14 ?_
   with_reducible (refine qC ?_; refine qV ?_; refine qF rfl ?_)
   exact und h14
  ·refine qX h14 ?_
   with_reducible (refine qC ?_; refine qQ ?_; refine qX (by omega) ?_; refine qK ?_; (try dsimp only); refine qw ?_; (try dsimp only); refine qX (by omega) ?_; refine qx ?_; refine qK ?_; (try dsimp only); refine qR ?_; (try dsimp only); refine qx ?_; refine qK ?_; (try dsimp only); refine qR ?_; (try dsimp only); refine qx ?_; refine qQ ?_; refine qX (by omega) ?_; refine qK ?_; (try dsimp only); refine qR ?_; (try dsimp only); refine qx ?_; refine qQ ?_; refine qX (by omega) ?_; refine qK ?_; (try dsimp only); refine qR ?_; (try dsimp only); refine qx ?_; refine qQ ?_; refine qX (by omega) ?_; refine qK ?_; (try dsimp only); refine qw ?_; (try dsimp only); refine qX (by omega) ?_; refine qx ?_; refine qQ ?_; refine qX (by omega) ?_; refine qK ?_; (try dsimp only); refine qR ?_; (try dsimp only); refine qx ?_; refine qQ ?_)
   exact dflt
 ·exact dflt
 ·exact dflt
 ·exact two 20 (.inl rfl) rfl
 ·exact dflt
 ·exact dflt
 ·exact two 20 (.inl rfl) rfl
 ·exact dflt
 ·exact dflt
 ·exact two 20 (.inl rfl) rfl
 ·exact dflt
 ·exact two 22 (.inr rfl) rfl
 ·exact ovr
 ·exact ovr
 ·exact dflt
 ·exact bak rfl
 ·exact dflt
end Go.Proofs.YtdlfmpmpmkffjaaGreatDoor
namespace Go.Proofs.YtdlfmpmpmkffjaaGreatDoor
open Go Go.Ae
set_option maxRecDepth 100000
variable {g h : AH} {L R : List SP}
theorem GY {b o : Nat} {K : AV → Go.Ae.R} {Q : AV → AH → Prop} (w : wp (K (.bool false)) Q) : wp (pEq .ptr false (.ptr b o) .nilp K) Q := w
theorem qJh {s : List UInt8} {K : AV → Go.Ae.R} {Q : AV → AH → Prop} (w : wp (K (.bool true)) Q) : wp (kR .eql (.str s) (.str s) K) Q := by
 show wp (K (.bool (seq? s s))) Q
 rw [Kl]
 exact w
section
variable {x y v u : Nat} {l l' : List qO} {b b' : Int} {mt mt' : List Int} {s s' : IM} {e e' f f' n1 n2 nx nx' : Int} {V W : VM}
end
end Go.Proofs.YtdlfmpmpmkffjaaGreatDoor
namespace Go.Proofs.YtdlfmpmpmkffjaaGreatDoor
open Go Go.Ae
set_option maxRecDepth 100000
variable {g h : AH} {L R : List SP}
section
variable {x v y o : Nat} {sv : AV} {l : List qO} {mt mt' : List Int} {s : IM} {err fin left nx kind : Int}
theorem UW {n : Nat} (hn : 7 ≤ n) (hg : GB s) (hN : g9 s) (H : HS g h (IntC x v l 0 mt s err fin left nx :: RefC y o sv mt' s kind err left :: R)) :
  wp (callT tab qy n (.fn 27 [] []) [.ptr x 0, .ptr y 0] h) fun r h' => r = .bool true ∧ HS g h' (IntC x v l 0 mt s err fin left nx :: RefC y o sv mt' s kind err left :: R) := by
 have hr8 := hg.regs
 have ho := hg.out
 (refine qM (g := (tD2 S27)) rfl (by omega) fun k hk => ?_; show wp (S27 (callT tab qy k) _ _ _).1 _; unfold S27; try simp only [ Int.ofNat_eq_natCast])
 refine qq (N5 (by omega) H hr8.len) ?_
 intro rv h1 H1
 refine qq (Mg (by omega) (H1.sel (P := IntC x v l 0 mt s err fin left nx) e_1) ho) ?_
 rintro _ h2 ⟨p, rfl, H2⟩
 have H2 : HS g h2 (SlaC p s.out :: IntC x v l 0 mt s err fin left nx :: qA 26 1 8 rv (s.regs.map (.int .u64)) :: RefC y o sv mt' s kind err left :: R) := H2
 clear H H1
 obtain ⟨lv, ov, mv, qs, e, H3⟩ := RefC.E (H2.sel (P := RefC y o sv mt' s kind err left) e_3)
 have H3 : HS g h2 (qB y (xl sv lv ov mv o kind err left s.pc s.regs) :: vW lv s.out :: yN ov qs :: yd mv mt' :: SlaC p s.out :: IntC x v l 0 mt s err fin left nx :: qA 26 1 8 rv (s.regs.map (.int .u64)) :: R) := H3
 clear H2
 refine GY (qK ?_)
 try dsimp only
 refine qw ?_
 try dsimp only
 refine qa H3 e_6 (qt rfl (qx (qQ ?_)))
 refine jz (fun m st h' => ∃ i : Nat, st = (.int .i64 (i : Int), .ptr p 0, rv, .ptr y 0, .ptr x 0, ()) ∧ i ≤ 8 ∧ m = 8 - i ∧ h' = h2) ?_ (m := 8) (by show 8 < 1000000000; omega) ⟨0, rfl, by omega, by omega, rfl⟩
 rintro m ih st h2 hih ⟨i, rfl, hi, rfl, rfl⟩
 dsimp only
 by_cases hlt : i < 8
 ·refine jw (by omega) (qV ?_)
  refine jN (H3.sl e_6) (x := .int .u64 (qD s.regs (i : Int))) (by rw [List.getElem?_map, w5 (by rw [hr8.len]; exact hlt)]; rfl) ?_
  refine qY (qJ (zl hlt (qG H3 (b := y) .here (xc hlt) ?_)))
  refine qt rfl (qQ (qE (by omega) ?_))
  exact hih (8 - (i + 1)) _ _ (by omega) ⟨i + 1, rfl, by omega, rfl, rfl⟩
 refine jW (by omega) (qQ (qK ?_))
 try dsimp only
 refine qq (qZB (by omega) (H3.sel (P := SlaC p s.out) e_4) (by omega) hg.its) ?_
 rintro _ h4 ⟨rfl, H4⟩
 have H4 : HS g h4 (SlaC p s.out :: qB y (xl sv lv ov mv o kind err left s.pc s.regs) :: vW lv s.out :: yN ov qs :: yd mv mt' :: IntC x v l 0 mt s err fin left nx :: qA 26 1 8 rv (s.regs.map (.int .u64)) :: R) := H4
 refine qY (qJ (qG H4 (b := y) e_1 rfl ?_))
 refine qq (Ze (by omega) H4 (H4.rd e_2) (by omega) (fun z hz => ⟨hN z hz, hg.its z hz⟩)) ?_
 rintro _ h5 ⟨rfl, H5⟩
 refine qJh (qT ?_)
 try dsimp only
 refine qq (qKe (by omega) (H5.sel (P := IntC x v l 0 mt s err fin left nx) e_5)) ?_
 rintro _ h5 ⟨rfl, rfl⟩
 refine qY (qJ (qG H5 (b := y) e_1 rfl ?_))
 refine qg rfl (qC (qT ?_))
 try dsimp only
 refine qq (Zt (by omega) (H5.sel (P := IntC x v l 0 mt s err fin left nx) e_5)) ?_
 rintro _ h5 ⟨rfl, rfl⟩
 refine qY (qJ (qG H5 (b := y) e_1 rfl ?_))
 refine qg rfl (qC (qT ?_))
 try dsimp only
 refine qq (qZC (by omega) (H5.sel (P := IntC x v l 0 mt s err fin left nx) e_5)) ?_
 rintro _ h5 ⟨rfl, rfl⟩
 refine qY (qJ (qG H5 (b := y) e_1 rfl ?_))
 refine qg rfl (qC ?_)
 refine je H5 (b := y) e_1 rfl H5 e_1 rfl (HS.lt H3 .here) ?_
 refine je H5 (b := y) e_1 rfl H5 e_1 rfl (HS.lt H3 .here) ?_
 refine je H5 (b := y) e_1 rfl H5 e_1 rfl (HS.lt H3 .here) ?_
 refine je H3 (b := y) .here rfl H4 e_1 rfl (HS.lt H3 .here) ?_
 refine qj (qW ⟨rfl, ?_⟩)
 have H6 := RefC.I (o := o) (sv := sv) (kind := kind) (err := err) (left := left) (lv := lv) (ov := ov) (mv := mv) (R := IntC x v l 0 mt s err fin left nx :: R) e (H5.sub (.cons e_1 (.cons e_1 (.cons e_1 (.cons e_1 (.cons e_1 (.drop (.drop .refl))))))))
 exact H6.sub (.cons e_1 (.cons .here .refl))
theorem qQT {n : Nat} (hn : 1 ≤ n) {bad : Int} (hf : fin ≠ 0) (H : HS g h (IntC x v l bad mt s err fin left nx :: R)) : wp (callT tab qy n (.fn 13 [] []) [.ptr x 0] h) fun r h' => r = .int .i64 fin ∧ h' = h := by
 (refine qM (g := (tD1 S13)) rfl (by omega) fun k hk => ?_; show wp (S13 (callT tab qy k) _ _).1 _; unfold S13; try simp only [ Int.ofNat_eq_natCast])
 refine jz (fun m st h' => st = (.ptr x 0, ()) ∧ h' = h) ?_ (m := 0) (by show 0 < 1000000000; omega) ⟨rfl, rfl⟩
 rintro m ih st h1 hih ⟨rfl, rfl⟩
 dsimp only
 obtain ⟨c, mv, ov, q, H1⟩ := IntC.E H
 refine qY (qJ (qG H1 (b := x) .here rfl ?_))
 refine qX hf (qQ ?_)
 refine qY (qJ (qG H1 (b := x) .here rfl ?_))
 exact qj (qW ⟨rfl, rfl⟩)
end
end Go.Proofs.YtdlfmpmpmkffjaaGreatDoor
namespace Go.Proofs.YtdlfmpmpmkffjaaGreatDoor
open Go Go.Ae
set_option maxRecDepth 100000
theorem qZf {h : AH} {d : Nat} {v : AV} (H : WT Tryz.prog h (d + 3) 43 [v]) : ∃ ks : List qO, Sl (fun b => b < h.nx) h 5 ks.length v (ks.flatMap qe) ∧ ∀ x ∈ ks, 0 ≤ x.2.2.2.2 ∧ x.2.2.2.2 < 18446744073709551616 := by
 obtain ⟨q, xs, S, _, H2⟩ := Ki (sz := 5) Tryz.underlying43 (by kernel_rfl) (by omega) H
 obtain ⟨ks, g1, g3, rfl⟩ := KH (α := qO) (Pr := fun x => 0 ≤ x.2.2.2.2 ∧ x.2.2.2.2 < 18446744073709551616) qe S.len (fun i hi => by
  have := H2 i hi
  generalize (xs.drop (i * 5)).take 5 = row at this
  unfold WT at this
  simp only [Tryz.underlying115] at this
  obtain ⟨g1, g2⟩ := this
  rw [show Tryz.prog.cellsOf 115 = 5 by kernel_rfl] at g1
  match row, g1 with
  | [x, y, z, u, t], _ =>
   have f1 := g2 _ (List.mem_cons_self ..)
   have f2 := g2 _ (List.mem_cons_of_mem _ (List.mem_cons_self ..))
   have f3 := g2 _ (List.mem_cons_of_mem _ (List.mem_cons_of_mem _ (List.mem_cons_self ..)))
   have f4 := g2 _ (List.mem_cons_of_mem _ (List.mem_cons_of_mem _ (List.mem_cons_of_mem _ (List.mem_cons_self ..))))
   have f5 := g2 _ (List.mem_cons_of_mem _ (List.mem_cons_of_mem _ (List.mem_cons_of_mem _ (List.mem_cons_of_mem _ (List.mem_cons_self ..)))))
   rw [show Tryz.prog.cellsOf 3 = 1 by kernel_rfl] at f1 f2 f3 f4
   rw [show Tryz.prog.cellsOf 26 = 1 by kernel_rfl] at f5
   unfold WT at f1 f2 f3 f4 f5
   simp only [Tryz.underlying3, List.drop_zero, List.take_succ_cons, List.take_zero, List.drop_succ_cons] at f1 f2 f3 f4
   simp only [Tryz.underlying26, List.drop_succ_cons, List.drop_zero, List.take_succ_cons, List.take_zero] at f5
   obtain ⟨a, ha, _⟩ := f1
   obtain ⟨b, hb, _⟩ := f2
   obtain ⟨c, hc, _⟩ := f3
   obtain ⟨d, hd, _⟩ := f4
   obtain ⟨e, he, c5⟩ := f5
   cases ha; cases hb; cases hc; cases hd; cases he
   exact ⟨(a, b, c, d, e), ⟨c5.1, Int.lt_of_le_of_lt c5.2 (by decide)⟩, rfl⟩)
 exact ⟨ks, g1 ▸ S, g3⟩
end Go.Proofs.YtdlfmpmpmkffjaaGreatDoor
namespace Go.Proofs.YtdlfmpmpmkffjaaGreatDoor.interpPlays
open Go Go.Ae
set_option maxRecDepth 100000
variable {g h : AH} {L R : List SP}
theorem drawn {calm : Bool} {l : List qO} (B : Bld calm l []) (h0 : 0 < l.length) (h40 : (l.length : Int) ≤ 40) : (xr l).2 = 0 ∧ Quiet l := by
 refine ⟨by rw [B.fit h0 (by omega)], fun x hx => ⟨(B.ok x hx).no, (B.ok x hx).n⟩⟩
theorem Ob {w m : Int} : jS (wa w m) := ⟨qZu w m, by intro c hc; simp [wa] at hc, by intro x hx; simp [wa] at hx; subst hx; intro c hc; simp at hc⟩
structure EndS (s : IM) (V : VM) (kind : Int) : Prop where
  gb : GB s
  num : g9 s
  good : jS V
  fr : frS V.lv < 10000
  ne0 : kind ≠ 0
  ne1 : kind ≠ 1
  one : kind = 2 → V.lv.length = 1
set_option maxHeartbeats 2000000 in
theorem law {k : Nat} (hk : 24 ≤ k) {x fuel most : Int} {a0 a2 a3 : AV} {ks : List qO} {rs bs : List Int} (S0 : Sl (fun b => b < h.nx) h 5 ks.length a0 (ks.flatMap qe)) (hN : ∀ x ∈ ks, 0 ≤ x.2.2.2.2 ∧ x.2.2.2.2 < 18446744073709551616)
  (S1 : Sl (fun b => b < h.nx) h 1 rs.length a2 (rs.map (.int .u64))) (hr : ∀ z ∈ rs, 0 ≤ z ∧ z < 18446744073709551616)
  (S2 : Sl (fun b => b < h.nx) h 1 bs.length a3 (bs.map (.int .u8))) (hb : ∀ z ∈ bs, 0 ≤ z ∧ z ≤ 255) (hm : 0 ≤ most ∧ most ≤ 255) :
  wp ((tD6 S4) (vK 3 (callT tab qy k)) [a0, .int .i64 x, a2, a3, .int .i64 fuel, .int .u8 most] h) fun v _ => v = .bool true := by
 show wp (S4 (vK _ (callT tab qy _)) _ _ _ _ _ _ _).1 _
 unfold S4
 try simp only [ Int.ofNat_eq_natCast]
 refine qKE ?_
 refine qn ?_; refine qQ ?_
 refine j8 (by decide) (UU (by omega) (HS.nil h) (Rd.arg S1) hr (Rd.arg S2) hb) ?_
 rintro wv h1 ⟨zs, hz, hz1, hz2, hsh, hro, H1⟩
 refine j8 (by decide) (ZD (calm := false) (most := ((40 : Nat) : Int)) (by omega) hN (by omega) H1 (Rd.arg S0)) ?_
 rintro _ h2 ⟨pv, l, rfl, B, hl0, hl40, H2⟩
 obtain ⟨hc, Qu⟩ := drawn B hl0 hl40
 have F := ZQ hc
 have hle := F.le
 refine qb H2 rfl fun b0 h3 H3 => ?_
 have op := H3.one (e := 28) (sz := 5) (n := l.length) e_1
 refine jq H3 (b := b0) .here rfl (by simp) (by show jQ [pv] = true; simp [jQ, op.2]) fun h4 H4 => ?_
 have H4 : HS h h4 (qB b0 [pv] :: xH pv l :: qA 26 1 zs.length wv (zs.map (.int .u64)) :: []) := H4
 clear H1 H2 H3
 refine qa H4 e_2 (jF (by omega) ?_)
 refine j8 (by decide) (qQo (w := (zs.length : Int)) (m := most) (by omega) H4) ?_
 rintro _ h5 ⟨v, rfl, H5⟩
 refine qa H5 e_3 (jF (by omega) ?_)
 refine j8 (by decide) (qQE (w := (zs.length : Int)) (m := most) (by omega) H5) ?_
 rintro _ h6 ⟨o, rfl, H6⟩
 clear H4 H5
 refine GY (qQ (qK ?_))
 try dsimp only
 refine qr H6 (b := b0) (off := 0) e_2 rfl (by omega) (l := [pv]) rfl ?_
 refine j8 (by decide) (qJF (v := v) (fuel := fuel) (by omega) H6 (H6.rd (e := 28) (sz := 5) (n := l.length) e_3) (by omega)) ?_
 rintro _ h7 ⟨xp, rfl, H7⟩
 have hmm : J1 l = qU l := by unfold J1; rw [if_pos hc]
 rw [hmm, hc] at H7
 refine qr H7 (b := b0) (off := 0) e_3 rfl (by omega) (l := [pv]) rfl ?_
 refine j8 (by decide) (qJc (o := o) (fuel := fuel) (by omega) F Qu H7 (H7.rd (e := 28) (sz := 5) (n := l.length) e_4)) ?_
 rintro _ h8 ⟨yp, rfl, H8⟩
 refine xQ H6 (b := b0) e_2 rfl H7 e_3 rfl rfl (by omega) (HS.lt H6 e_2) ?_
 have hsz : szZ (zs.length : Int) = zs.length := by unfold szZ; omega
 have hV : (wa (zs.length : Int) most).sz = zs.length := hsz
 have H8 : HS h h8 (IntC xp v l 0 (qU l) X9 0 0 (gJ fuel : Nat) 0 :: ViewC v (wa zs.length most) :: RefC yp o pv (qU l) X9 0 0 (gJ fuel : Nat) :: RvC o (wa zs.length most) :: qB b0 [pv] :: xH pv l :: qA 26 1 zs.length wv (zs.map (.int .u64)) :: []) :=
  H8.sub (.cons e_1 (.cons e_2 (.cons .here (.cons .here (.cons .here (.cons .here (.cons .here .refl)))))))
 clear H6 H7
 have G0 : GI l X9 (wa zs.length most) := qJf rfl Ob
 have f0 : frS (wa (zs.length : Int) most).lv = 0 := rfl
 have hfz : gJ fuel ≤ 400 := by unfold gJ; omega
 have k0 : (wa (zs.length : Int) most).K.length = 0 := rfl
 generalize wa (zs.length : Int) most = V0 at *
 generalize hT : (qB b0 [pv] :: xH pv l :: qA 26 1 zs.length wv (zs.map (.int .u64)) :: [] : List SP) = T at H8
 have rdP : Rd h T 5 l.length pv (l.flatMap qe) := by rw [← hT]; exact Rd.own (e := 28) e_1
 have rdW : Rd h T 1 zs.length wv (zs.map (.int .u64)) := by rw [← hT]; exact Rd.own (e := 26) e_2
 refine GY (qQ ?_)
 refine zM [] (fun st h' => st = (.ptr yp 0, .ptr xp 0, .ptr o 0, .ptr v 0, ()) ∧ ∃ (s : IM) (V : VM) (kind err left nx : Int), EndS s V kind ∧ HS h h' (IntC xp v l 0 (qU l) s err kind left nx :: ViewC v V :: RefC yp o pv (qU l) s kind err left :: RvC o V :: T)) ?_ ?_
 rotate_left
 ·clear H8
  rintro st h9 ⟨rfl, s, V, kind, err, left, nx, E, H⟩
  dsimp only
  refine qK ?_
  try dsimp only
  refine j8 (by decide) (qQT (by omega) E.ne0 H) ?_
  rintro _ h9 ⟨rfl, rfl⟩
  obtain ⟨lv, ov, mv, qs, e, H1⟩ := RefC.E (H.sel (P := RefC yp o pv (qU l) s kind err left) e_2)
  refine qY (qJ (qG H1 (b := yp) .here rfl ?_))
  refine qt rfl (qw ?_)
  try dsimp only
  refine j8 (by decide) (UW (by omega) E.gb E.num (H.sub (L' := IntC xp v l 0 (qU l) s err kind left nx :: RefC yp o pv (qU l) s kind err left :: ViewC v V :: RvC o V :: T) (.cons .here (.cons e_1 (.cons .here (.cons .here .refl)))))) ?_
  rintro _ h10 ⟨rfl, H10⟩
  refine qn (qx (qw ?_))
  try dsimp only
  obtain ⟨lv, ov, mv, qs, e, H2⟩ := RefC.E (H10.sel (P := RefC yp o pv (qU l) s kind err left) e_1)
  refine qY (qJ (qG H2 (b := yp) .here rfl ?_))
  refine qX E.ne1 (qx ?_)
  refine je H1 (b := yp) .here rfl H1 .here rfl (HS.lt H1 .here) ?_
  refine qQ ?_
  obtain ⟨kv, q, H3⟩ := RvC.E (H2.sel (P := RvC o V) e_6)
  refine qY (qJ (qG H3 (b := o) .here rfl ?_))
  have hfr := E.fr
  refine j8 (by decide) (Vq (by omega) (H3.sel (P := RgC q V.most V.lv) e_2) E.good.ok.lvs (by omega)) ?_
  rintro _ h11 ⟨cv, fv, rfl, H4⟩
  have w1 := H4.one .here
  have w2 := H4.one e_1
  refine qb H4 rfl fun b h12 H5 => ?_
  refine jq H5 (b := b) .here rfl (by show 0 + 2 ≤ 2; omega) (by show jQ [cv, fv] = true; simp [jQ, w1.2, w2.2]) fun h13 H6 => ?_
  have H6 : HS h h13 (qB b [cv, fv] :: qA 67 2 (jE V.lv).length cv ((jE V.lv).flatMap jk) :: qA 3 1 (xY V.lv).length fv ((xY V.lv).map (.int .i64)) :: RgC q V.most V.lv :: qB o [.int .i64 (V.sz : Int), kv, .ptr q 0, .int .i64 V.need] ::
   qA 67 2 V.K.length kv (V.K.flatMap jk) :: qB yp (xl pv lv ov mv o kind err left s.pc s.regs) :: vW lv s.out :: yN ov qs :: yd mv (qU l) :: IntC xp v l 0 (qU l) s err kind left nx :: ViewC v V :: T) := H6
  clear H H1 H2 H3 H4 H5 H10
  refine qK ?_
  try dsimp only
  refine qY (qJ (qG H6 (b := yp) e_6 rfl ?_))
  by_cases k2 : kind = 2
  ·refine qt k2 (qw ?_)
   try dsimp only
   have hml := Xe V.lv []
   have hhe := E.good.ok.lvs.held
   have hll := E.good.ok.lvs.le
   have hml' : (jE V.lv).length < 100000 := by simp at hml; unfold jE; omega
   have hfl := X8 V.lv
   refine j8 (by decide) (My (by omega) (H6.sel (P := ViewC v V) e_11) E.good.ok) fun cv2 h14 H7 => ?_
   refine qJ (qG H7 (b := b) e_2 rfl ?_)
   refine j8 (by decide) (OW (by omega) (H7.sl .here) (H7.sl e_3) (by omega)) ?_
   rintro _ h14 ⟨rfl, rfl⟩
   rw [decide_eq_true rfl]
   refine qT ?_
   try dsimp only
   refine j8 (by decide) (NO (by omega) (H7.sel (P := ViewC v V) e_1) E.good.ok) fun fv2 h15 H9 => ?_
   refine qJ (qG H9 (b := b) e_3 rfl ?_)
   refine j8 (by decide) (OF (by omega) (H9.sl .here) (H9.sl e_5) (by omega)) ?_
   rintro _ h15 ⟨rfl, rfl⟩
   rw [decide_eq_true rfl]
   refine qC (qT ?_)
   try dsimp only
   refine j8 (by decide) (M8 (by omega) (H9.sel (P := ViewC v V) e_1)) ?_
   rintro _ h15 ⟨rfl, rfl⟩
   have := E.one k2
   refine qg (by omega) (qC (qx ?_))
   refine je H7 (b := b) e_2 rfl H9 e_3 rfl (HS.lt H6 .here) ?_
   refine je H6 (b := b) .here rfl H7 e_2 rfl (HS.lt H6 .here) ?_
   exact qj (qW rfl)
  ·refine jG k2 (qS ?_)
   try dsimp only
   refine jY ?_
   try dsimp only
   refine jY ?_
   try dsimp only
   refine qC ?_
   exact qj (qW rfl)
 intro j26 hj26
 refine jz (fun m st h' => ∃ (i : Nat) (s : IM) (V : VM) (left : Nat) (nx kind : Int), st = (.int .i64 (i : Int), .ptr yp 0, .ptr xp 0, .ptr o 0, .ptr v 0, wv, ()) ∧ m = 256 - i ∧ V.K.length = i ∧ GI l s V ∧ frS V.lv + left ≤ 400 ∧ g9 s ∧ V.sz = zs.length ∧ (kind = 0 ∨ kind = 1) ∧
  HS h h' (IntC xp v l 0 (qU l) s 0 0 left nx :: ViewC v V :: RefC yp o pv (qU l) s kind 0 left :: RvC o V :: T)) ?_ (m := 256) (by show 256 < 1000000000; omega)
  ⟨0, X9, V0, gJ fuel, 0, 0, rfl, by omega, k0, G0, by omega, fun z hz => (by cases hz), hV, .inl rfl, H8⟩
 clear H8 G0 f0 hfz k0 hV
 rintro m ih st h9 hih ⟨i, s, V, left, nx, kind, rfl, rfl, hK, G, hf, hn, hsV, hkd, H⟩
 dsimp only
 have hroom := qX7 G.good.ok
 have hhi := G.good.ok.hi
 refine jw (by omega) (qV ?_)
 refine j8 (by decide) (qZ5 (by omega) F Qu G (by omega) (by omega) H) ?_
 rintro _ h10 ⟨rfl, nx2, H10⟩
 have H10 := H10.sub (L' := RefC yp o pv (qU l) s kind 0 left :: RvC o V :: IntC xp v l 0 (qU l) (zP l (qU l) left s V).s (zP l (qU l) left s V).err (if (zP l (qU l) left s V).kind = 1 then 0 else (zP l (qU l) left s V).kind) ((zP l (qU l) left s V).left : Int) nx2 :: ViewC v (zP l (qU l) left s V).v :: T) (.cons e_2 (.cons e_2 (.cons .here (.cons .here .refl))))
 refine j8 (by decide) (qJl (by omega) F Qu G (by omega) (by omega) rdP.more.more hkd H10) ?_
 rintro _ h11 ⟨rfl, H11⟩
 clear H H10
 obtain ⟨RB, rfr, r2, r1, rk⟩ := qKA F Qu left G (by omega)
 have rfr1 := qKM F Qu left G (by omega)
 have rnum := qZE (l := l) (mt := qU l) left (V := V) hn
 have r0 := qKb (l := l) (mt := qU l) left (s := s) (V := V)
 generalize zP l (qU l) left s V = RM at *
 have H11 : HS h h11 (IntC xp v l 0 (qU l) RM.s RM.err (if RM.kind = 1 then 0 else RM.kind) (RM.left : Int) nx2 :: RefC yp o pv (qU l) RM.s RM.kind RM.err (RM.left : Int) :: RvC o RM.v :: ViewC v RM.v :: T) := H11.sub (.cons e_2 (.cons .here (.cons .here (.cons .here .refl))))
 refine qK ?_
 try dsimp only
 refine qt rfl (qw ?_)
 try dsimp only
 refine j8 (by decide) (UW (by omega) RB.gb rnum H11) ?_
 rintro _ h12 ⟨rfl, H12⟩
 refine qn (qx (qw ?_))
 try dsimp only
 refine j8 (by decide) (KM (by omega) (H12.sel (P := ViewC v RM.v) e_3)) ?_
 rintro _ h12 ⟨rfl, rfl⟩
 obtain ⟨kv, q, H13⟩ := RvC.E (H12.sel (P := RvC o RM.v) e_2)
 obtain ⟨kv', q', H11'⟩ := RvC.E (H11.sel (P := RvC o RM.v) e_2)
 refine qY (qJ (qG H13 (b := o) .here rfl ?_))
 refine qt rfl (qx ?_)
 refine je H13 (b := o) .here rfl H13 .here rfl (HS.lt H11' .here) (qQ ?_)
 clear H11 H11' H13
 by_cases h1 : RM.kind = 1
 ·refine qt h1 (qQ ?_)
  rw [if_pos h1] at H12
  have hR := r1 h1
  obtain ⟨GR, n1, n2, n3⟩ := hR
  have hfr := rfr1 h1
  refine j8 (by decide) (KM (by omega) (H12.sel (P := ViewC v RM.v) e_3)) ?_
  rintro _ h12 ⟨rfl, rfl⟩
  have e1 : (gk RM.v RM.v.need (wA zs RM.v.need.toNat)) = (0, { RM.v with K := RM.v.K ++ [(RM.v.need, wA zs RM.v.need.toNat)] }) := Zd n1 (by rw [RB.sz]; omega) (by rw [RB.K]; exact n3)
  obtain ⟨p, hp⟩ : ∃ p : Nat, RM.v.need = p := ⟨RM.v.need.toNat, by omega⟩
  rw [hp] at e1 n1 n2 ⊢
  rw [Int.toNat_natCast] at e1
  have hpz : p < zs.length := by omega
  have hzp : (zs.map (AV.int .u64))[p]? = some (.int .u64 (wA zs p)) := by unfold wA; rw [List.getElem?_map, List.getElem?_eq_getElem hpz]; rfl
  have hwp : 0 ≤ wA zs p ∧ wA zs p < 18446744073709551616 := by unfold wA; rw [List.getElem?_eq_getElem hpz]; exact hz _ (List.getElem_mem hpz)
  refine jW (by omega) (qK ?_)
  try dsimp only
  refine qw ?_
  try dsimp only
  refine zq (rdW.sl H12.drop.drop.drop.drop) (q8 (by omega) (qx (qK ?_)))
  try dsimp only
  refine qw ?_
  try dsimp only
  refine jN (rdW.sl H12.drop.drop.drop.drop) hzp ?_
  refine j8 (by decide) (Np (by omega) (H12.sel (P := ViewC v RM.v) e_3) RB.good.ok) ?_
  rintro _ h13 ⟨rfl, H13⟩
  rw [e1]
  refine qt rfl (qx (qK ?_))
  try dsimp only
  refine qw ?_
  try dsimp only
  refine jN (rdW.sl H13.drop.drop.drop.drop) hzp ?_
  refine j8 (by decide) (Ng (by omega) (H13.sel (P := RvC o RM.v) e_3) RB.good.ok) ?_
  rintro _ h14 ⟨rfl, H14⟩
  rw [e1]
  refine qt rfl (qx (qQ (qE (by omega) ?_)))
  have GK := qXL (p := (p : Int)) (x := wA zs p) GR hwp
  rw [e1] at GK H14 H13
  refine hih (256 - (i + 1)) _ _ (by omega) ⟨i + 1, RM.s, _, RM.left, nx2, 1, rfl, rfl, ?_, GK, by show frS RM.v.lv + RM.left ≤ 400; omega, rnum, by show RM.v.sz = zs.length; rw [RB.sz, hsV], .inr rfl, ?_⟩
  ·show (RM.v.K ++ [((p : Int), wA zs p)]).length = i + 1
   rw [List.length_append, RB.K, hK]; rfl
  ·have e0 : RM.err = 0 := by
    have := r0 h1
    exact this
   rw [e0, h1] at H14
   exact H14.sub (.cons e_2 (.cons e_1 (.cons e_1 (.cons .here .refl))))
 ·refine jG h1 (qV ?_)
  rw [if_neg h1] at H12
  refine hj26 _ _ ⟨rfl, RM.s, RM.v, RM.kind, RM.err, RM.left, nx2, ⟨RB.gb, rnum, RB.good, by omega, by omega, h1, r2⟩, ?_⟩
  exact H12.sub (.cons .here (.cons e_2 (.cons .here (.cons .here .refl))))
theorem told {h : AH} {l : List AV} (H : WTs Tryz.prog h 8 Tryz.f4.params.toList l) : wp ((tD6 S4) (vK 3 (callT tab qy 60)) l h) fun v _ => v = .bool true := by
 have e : Tryz.f4.params.toList = [43, 3, 38, 44, 3, 5] := by kernel_rfl
 rw [e] at H
 obtain ⟨a0, a1, a2, a3, a4, a5, rfl, H0, H1, H2, H3, H4, H5⟩ := WTs6 H
 simp only [WTV, Tryz.underlying3, Tryz.underlying4, Tryz.underlying5, Tryz.underlying26, Tryz.underlying38, Tryz.underlying43, Tryz.underlying44, Tryz.underlying115] at H0 H1 H2 H3 H4 H5
 obtain ⟨ks, S0, hN⟩ := qZf H0
 obtain ⟨rs, S1, b1⟩ := Vl Tryz.underlying38 Tryz.underlying26 (by kernel_rfl) H2
 obtain ⟨bs, S2, b2⟩ := Vl Tryz.underlying44 Tryz.underlying5 (by kernel_rfl) H3
 unfold WT at H1 H4 H5
 simp only [Tryz.underlying3, Tryz.underlying3, Tryz.underlying5] at H1 H4 H5
 obtain ⟨x, hx, _⟩ := H1
 obtain ⟨y, hy, _⟩ := H4
 obtain ⟨m, hm, c3⟩ := H5
 cases hx; cases hy; cases hm
 exact law (by omega) S0 hN S1 (fun z hz => ⟨(b1 z hz).1, Int.lt_of_le_of_lt (b1 z hz).2 (by decide)⟩) S2 b2 c3
end Go.Proofs.YtdlfmpmpmkffjaaGreatDoor.interpPlays
