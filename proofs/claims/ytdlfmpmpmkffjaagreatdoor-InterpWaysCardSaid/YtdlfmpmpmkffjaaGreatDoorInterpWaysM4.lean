/- Lemmas for 'quietus/quietuslaw21.InterpWays': InterpWays comes to true for every argument: its own walk. No condition. -/
import Derived.Test.YtdlfmpmpmkffjaaGreatDoorInterpWaysM3
namespace Go.Proofs.YtdlfmpmpmkffjaaGreatDoor.interpWays
open Go Go.Ae
set_option maxRecDepth 100000
variable {g h : AH} {L R : List SP}
theorem Vu {calm : Bool} {l : List qI} (B : Bld calm l []) : ∀ x ∈ l, (x.1 = 12 ∨ x.1 = 13) → 0 ≤ x.2.2.2.1 ∧ x.2.2.2.1 ≤ 40 := fun x hx _ => (Xq (B.ok x hx).may (B.ok x hx).no).2.2.2.1
theorem Om {op : Int} : ∀ x ∈ [one op], (x.1 = 12 ∨ x.1 = 13) → 0 ≤ x.2.2.2.1 ∧ x.2.2.2.1 ≤ 40 := by
 intro x hx _
 rw [List.mem_singleton] at hx
 subst hx
 exact ⟨Int.le_refl _, by show (0 : Int) ≤ 40; decide⟩
theorem Vv {p q r : List qI} (U : Un p q r) : Quiet (QK p q r) := by
 have a := xA U.bp
 have b := xA U.bq
 have c := xA U.br
 have el : QK p q r = qg (qg (qg (qg (qg p [one 17]) q) [one 18]) r) [one 19] := by
  show qg (qg (qg (qg (qg (qg [] p) [one 17]) q) [one 18]) r) [one 19] = _
  rw [Yo]
 rw [el]
 exact zK (zK (zK (zK (zK a (xT (by decide))) b) (xT (by decide))) c) (xT (by decide))
theorem VO {p q r : List qI} (U : Un p q r) : Quiet (QY p q r) := by
 have a := xA U.bp
 have b := xA U.bq
 have c := xA U.br
 have el : QY p q r = qg (qg (qg (qg (qg (qg p [one 17]) q) [one 20]) [one 18]) r) [one 19] := by
  show qg (qg (qg (qg (qg (qg (qg [] p) [one 17]) q) [one 20]) [one 18]) r) [one 19] = _
  rw [Yo]
 rw [el]
 exact zK (zK (zK (zK (zK (zK a (xT (by decide))) b) (xT (by decide))) (xT (by decide))) c) (xT (by decide))
theorem fa {α : Type} {P : α → Prop} {a : α} {l : List α} (h : P a) (t : ∀ w ∈ l, P w) : ∀ w ∈ a :: l, P w := by
 intro w hw
 rcases List.mem_cons.1 hw with rfl | hw
 ·exact h
 ·exact t w hw
theorem fn {α : Type} {P : α → Prop} : ∀ w ∈ ([] : List α), P w := fun _ h => by cases h
theorem rdI {v : AV} {l : List qI} (H : HS g h L) (s : Sel L (jh v l) R) : Rd g L 5 l.length v (l.flatMap jj) := H.rd (e := 28) (sz := 5) (n := l.length) s
theorem XM {v : AV} {l : List qI} (H : HS g h L) (s : Sel L (jh v l) R) : One v := H.one (e := 28) (sz := 5) (n := l.length) s
def Jok (q : AV × List qI) : Prop := (∀ x ∈ q.2, (x.1 = 12 ∨ x.1 = 13) → 0 ≤ x.2.2.2.1 ∧ x.2.2.2.1 ≤ 40) ∧ q.2.length ≤ 40
theorem j1 {v : AV} {op : Int} : Jok (v, [one op]) := ⟨Om, by show 1 ≤ 40; decide⟩
theorem Xw {n : Nat} (hn : 1 ≤ n) {ps : List (AV × List qI)} {av : AV} (H : HS g h R) (S : Rd g R 1 ps.length av (ps.map (·.1))) (SS : ∀ q ∈ ps, Rd g R 5 q.2.length q.1 (q.2.flatMap jj)) (hb : ∀ q ∈ ps, Jok q) (hp : ps.length ≤ 20) :
  wp (callT tab qc n (.fn 35 [] []) [av] h) fun r h' => ∃ lv, r = .agg [lv] ∧ HS g h' (jh lv (yd (ps.map (·.2))) :: R) := qQU hn H S SS (fun q hq => (hb q hq).1) (fun q hq => (hb q hq).2) hp
theorem law {k : Nat} (hk : 24 ≤ k) {x : Int} {first : Bool} {a0 a1 a2 a4 a5 : AV} {ka kb kc : List qI} {rs bs : List Int} (Z0 : Sl (fun b => b < h.nx) h 5 ka.length a0 (ka.flatMap jj)) (hN0 : ∀ x ∈ ka, 0 ≤ x.2.2.2.2 ∧ x.2.2.2.2 < 18446744073709551616)
  (Z1 : Sl (fun b => b < h.nx) h 5 kb.length a1 (kb.flatMap jj)) (hN1 : ∀ x ∈ kb, 0 ≤ x.2.2.2.2 ∧ x.2.2.2.2 < 18446744073709551616)
  (Z2 : Sl (fun b => b < h.nx) h 5 kc.length a2 (kc.flatMap jj)) (hN2 : ∀ x ∈ kc, 0 ≤ x.2.2.2.2 ∧ x.2.2.2.2 < 18446744073709551616)
  (Z4 : Sl (fun b => b < h.nx) h 1 rs.length a4 (rs.map (.int .u64))) (hr : ∀ z ∈ rs, 0 ≤ z ∧ z < 18446744073709551616)
  (Z5 : Sl (fun b => b < h.nx) h 1 bs.length a5 (bs.map (.int .u8))) (hb : ∀ z ∈ bs, 0 ≤ z ∧ z ≤ 255) :
  wp (W6 (vE 3 (callT tab qc k)) [a0, a1, a2, .int .i64 x, a4, a5, .bool first] h) fun v _ => v = .bool true := by
 show wp (S6 (vE _ (callT tab qc _)) _ _ _ _ _ _ _ _) _
 unfold S6
 try simp only [iI, uU, Int.ofNat_eq_natCast]
 refine qKs ?_
 refine zv ?_; refine qQ ?_
 refine jo (by decide) (V4 (by omega) (HS.nil h) (Rd.arg Z4) hr (Rd.arg Z5) hb) ?_
 rintro wv h1 ⟨zs, hz, hz1, hz2, hsh, hro, H1⟩
 refine jo (by decide) (Xk (calm := true) (most := ((10 : Nat) : Int)) (by omega) hN0 (by omega) H1 (Rd.arg Z0)) ?_
 rintro _ h2 ⟨pa, p, rfl, Bp, hp0, hp1, H2⟩
 refine jo (by decide) (Xk (calm := true) (most := ((11 : Nat) : Int)) (by omega) hN1 (by omega) H2 (Rd.arg Z1)) ?_
 rintro _ h3 ⟨pb, q, rfl, Bq, hq0, hq1, H3⟩
 refine jo (by decide) (Xk (calm := true) (most := ((10 : Nat) : Int)) (by omega) hN2 (by omega) H3 (Rd.arg Z2)) ?_
 rintro _ h4 ⟨pc, r, rfl, Br, hr0, hr1, H4⟩
 have U : Un p q r := ⟨Bp, Bq, Br, hp0, hq0, hr0, by omega, by omega, by omega⟩
 have oc := H4.one (e := 28) (sz := 5) (n := r.length) .here
 have ob := H4.one (e := 28) (sz := 5) (n := q.length) e_1
 have oa := H4.one (e := 28) (sz := 5) (n := p.length) e_2
 refine jJ H4 rfl fun b1 h5 H5 => jJ H5 rfl fun b2 h6 H6 => jJ H6 rfl fun b3 h7 H7 => ?_
 refine jF H7 (b := b1) e_2 rfl (by simp) (by show qu [pa] = true; simp [qu, oa.2]) fun h8 H8 => ?_
 refine jF H8 (b := b2) e_2 rfl (by simp) (by show qu [pb] = true; simp [qu, ob.2]) fun h9 H9 => ?_
 refine jF H9 (b := b3) e_2 rfl (by simp) (by show qu [pc] = true; simp [qu, oc.2]) fun h10 H10 => ?_
 have HA : HS h h10 (qU b3 [pc] :: qU b2 [pb] :: qU b1 [pa] :: jh pc r :: jh pb q :: jh pa p :: qb 26 1 zs.length wv (zs.map (.int .u64)) :: []) := H10
 clear H1 H2 H3 H4 H5 H6 H7 H8 H9 H10
 with_reducible (refine qW ?_; (try dsimp only))
 have U2 : Un p r q := ⟨Bp, Br, Bq, hp0, hr0, hq0, by omega, by omega, by omega⟩
 have jp : Jok (pa, p) := ⟨Vu Bp, by show p.length ≤ 40; omega⟩
 have jq : Jok (pb, q) := ⟨Vu Bq, by show q.length ≤ 40; omega⟩
 have jr : Jok (pc, r) := ⟨Vu Br, by show r.length ≤ 40; omega⟩
 rcases first with _ | _
 ·refine qo HA (b := b1) (off := 0) e_2 rfl (by omega) (l := [pa]) rfl ?_
  refine jo (by decide) (wA (by omega) HA) ?_
  rintro _ hb1 ⟨o1, rfl, HB⟩
  refine qo HB (b := b2) (off := 0) e_2 rfl (by omega) (l := [pb]) rfl ?_
  have oo1 := XM HB .here
  refine jK (n := 3) (l := [pa, o1, pb]) (sz := 1) HB rfl rfl rfl (by simp [qu, oa.2, ob.2, oo1.2]) fun jv hc1 HC => ?_
  refine zj HA (b := b2) e_1 rfl HB e_2 rfl rfl (by omega) (HS.lt HA e_1) ?_
  refine zj HA (b := b1) e_2 rfl HB e_3 rfl rfl (by omega) (HS.lt HA e_2) ?_
  clear HA HB
  refine zp [] (fun s h' => ∃ jv2 o2, s = (jv2, .ptr b3 0, .ptr b2 0, .ptr b1 0, wv, .bool false, ()) ∧ HS h h' (qb 31 1 4 jv2 [pa, o1, pb, o2] :: jh o2 [one 20] :: jh o1 [one 17] :: qU b3 [pc] :: qU b2 [pb] :: qU b1 [pa] :: jh pc r :: jh pb q :: jh pa p :: qb 26 1 zs.length wv (zs.map (.int .u64)) :: [])) ?_ ?_
  ·intro j hj
   refine zM ?_; refine qY ?_
   refine jo (by decide) (wA (by omega) HC) ?_
   rintro _ hx1 ⟨o2, rfl, HX⟩
   have oo2 := HX.one (e := 28) (sz := 5) (n := 1) .here
   refine jK (n := 1) (l := [o2]) (sz := 1) HX rfl rfl rfl (by simp [qu, oo2.2]) fun kv hy1 HY => ?_
   refine zl (HY.sel (P := qb 31 1 3 jv [pa, o1, pb]) e_2) (HY.sl .here) (by omega) (by omega) (by simp [qu, oo2.2]) fun jv2 hz1 HZ => ?_
   refine hj _ _ ⟨jv2, o2, rfl, ?_⟩
   exact HZ.sub (.cons .here (.drop (.cons .here (.cons .here (.cons .here (.cons .here (.cons .here (.cons .here (.cons .here (.cons .here (.cons .here .refl)))))))))))
  rintro s hd1 ⟨jv2, o2, rfl, HD⟩
  dsimp only
  refine qW ?_
  try dsimp only
  refine jo (by decide) (wA (by omega) HD) ?_
  rintro _ hg1 ⟨o3, rfl, HG⟩
  refine qo HG (b := b3) (off := 0) e_4 rfl (by omega) (l := [pc]) rfl ?_
  refine jo (by decide) (wA (by omega) HG) ?_
  rintro _ hi1 ⟨o4, rfl, HI⟩
  have oo4 := XM HI .here
  have oo3 := XM HI e_1
  refine jK (n := 3) (l := [o3, pc, o4]) (sz := 1) HI rfl rfl rfl (by simp [qu, oc.2, oo3.2, oo4.2]) fun kv hj1 HJ => ?_
  refine zl (HJ.sel (P := qb 31 1 4 jv2 [pa, o1, pb, o2]) e_3) (HJ.sl .here) (by omega) (by omega) (by simp [qu, oc.2, oo3.2, oo4.2]) fun jv3 hk1 HK => ?_
  refine zj HG (b := b3) e_4 rfl HI e_5 rfl rfl (by omega) (HS.lt HD e_3) ?_
  refine zj HD (b := b3) e_3 rfl HG e_4 rfl rfl (by omega) (HS.lt HD e_3) ?_
  have HK : HS h hk1 (qb 31 1 7 jv3 ([pa, o1, pb, o2] ++ [o3, pc, o4]) :: _) := HK
  clear HC HD HG HI HJ
  refine jo (by decide) (Xw (ps := [(pa, p), (o1, [one 17]), (pb, q), (o2, [one 20]), (o3, [one 18]), (pc, r), (o4, [one 19])]) (by omega) HK (HK.rd .here) (fa (rdI HK e_11) (fa (rdI HK e_5) (fa (rdI HK e_10) (fa (rdI HK e_4) (fa (rdI HK e_3) (fa (rdI HK e_9) (fa (rdI HK e_2) fn))))))) (fa jp (fa j1 (fa jq (fa j1 (fa j1 (fa jr (fa j1 fn))))))) (by show 7 ≤ 20; decide)) ?_
  rintro _ hl1 ⟨lj, rfl, HL⟩
  have HL : HS h hl1 (jh lj (QY p q r) :: _) := HL
  have olj := XM HL .here
  refine jJ HL rfl fun b4 hm1 HM => ?_
  refine jF HM (b := b4) .here rfl (by simp) (by show qu [lj] = true; simp [qu, olj.2]) fun hn1 HN0 => ?_
  have HN : HS h hn1 (qU b4 [lj] :: jh lj (QY p q r) :: qU b3 [pc] :: qU b2 [pb] :: qU b1 [pa] :: jh pc r :: jh pb q :: jh pa p :: qb 26 1 zs.length wv (zs.map (.int .u64)) :: []) := HN0.sub (.cons .here (.cons .here (.drop (.drop (.drop (.drop (.drop (.drop (.refl)))))))))
  clear HK HL HM HN0
  refine qo HN (b := b1) (off := 0) e_4 rfl (by omega) (l := [pa]) rfl ?_
  refine qo HN (b := b3) (off := 0) e_2 rfl (by omega) (l := [pc]) rfl ?_
  refine jK (n := 2) (l := [pa, pc]) (sz := 1) HN rfl rfl rfl (by simp [qu, oa.2, oc.2]) fun kv2 ho1 HO => ?_
  obtain ⟨ek, HO⟩ : ∃ e : TypeId, HS h ho1 (qb e 1 2 kv2 [pa, pc] :: _) := ⟨_, HO⟩
  refine jo (by decide) (Xw (ps := [(pa, p), (pc, r)]) (by omega) HO (HO.rd .here) (fa (rdI HO e_8) (fa (rdI HO e_6) fn)) (fa jp (fa jr fn)) (by show 2 ≤ 20; decide)) ?_
  rintro _ hp1 ⟨ls, rfl, HP⟩
  have HP : HS h hp1 (jh ls (zr p r) :: _) := HP
  have ols := XM HP .here
  refine jJ HP rfl fun b5 hq1 HQ => ?_
  refine jF HQ (b := b5) .here rfl (by simp) (by show qu [ls] = true; simp [qu, ols.2]) fun hr1 HR => ?_
  have HR : HS h hr1 (qU b5 [ls] :: jh ls (zr p r) :: _) := HR
  clear HN HO HP HQ
  refine zp [] (fun s h' => s = (.ptr b5 0, .ptr b4 0, wv, ()) ∧ ∃ lx, HS h h' (qU b5 [lx] :: jh lx (zr p r) :: qU b4 [lj] :: jh lj (QY p q r) :: qb 26 1 zs.length wv (zs.map (.int .u64)) :: [])) ?_ ?_
  ·intro j hj
   refine qQ ?_
   exact hj _ _ ⟨rfl, ls, HR.sub (.cons .here (.cons .here (.drop (.cons .here (.cons .here (.drop (.drop (.drop (.drop (.drop (.drop (.cons .here .refl))))))))))))⟩
  rintro s hv1 ⟨rfl, lx, HV⟩
  dsimp only
  clear HR
  have W := U.whereB
  have hlen := W.len
  refine qo HV (b := b4) (off := 0) e_2 rfl (by omega) (l := [lj]) rfl ?_
  refine jo (by decide) (kT (by omega) HV (rdI HV e_3) (by have := U.lp; have := U.lq; have := U.lr; omega)) ?_
  rintro _ hm1 ⟨rfl, HM⟩
  refine qH rfl (qH rfl ?_)
  rcases Yn U W with hc | hc
  ·rw [hc]
   with_reducible (refine zA (by omega) ?_; refine qY ?_; refine qO (by omega) ?_; refine qM ?_)
   exact qk rfl
  rw [hc]
  with_reducible (refine zw (by omega) ?_; refine qQ ?_)
  have hcs := U.check_short
  obtain ⟨_, _, QS, CS⟩ := U.quiet
  obtain ⟨es1, es3, hsl, _⟩ := U.short_at
  have QL := VO U
  have FL := yb hc
  have FS := yb hcs
  have GL := vF (l := QY p q r) (m := 96) hz
  have GS := vF (l := zr p r) (m := 96) hz
  have f0 := vA zs 96
  have RL := Jg FL QL 400 GL (by omega)
  have RS := Jg FS QS 400 GS (by omega)
  have n1 := Jx FL QL (n := 400) (zs := zs) (m := 96) GL rfl rfl (by omega)
  have main := fun hk => U9 U W FL QL hz hk es1 es3 hsl FS QS
  refine qo HM (b := b4) (off := 0) e_2 rfl (by omega) (l := [lj]) rfl ?_
  refine jo (by decide) (J2 (zs := zs) (fuel := ((400 : Nat) : Int)) (by omega) HM (rdI HM e_3) (HM.rd e_4) hz hc QL) ?_
  rintro _ hn1 ⟨xp, vp, nx, rfl, HN⟩
  refine qH rfl (qH rfl (qH rfl ?_))
  refine qo HN (b := b5) (off := 0) e_2 rfl (by omega) (l := [lx]) rfl ?_
  refine jo (by decide) (J2 (zs := zs) (fuel := ((400 : Nat) : Int)) (by omega) HN (rdI HN e_3) (HN.rd e_6) hz hcs QS) ?_
  rintro _ ho1 ⟨yp, up, nx2, rfl, HO⟩
  refine qH rfl (qH rfl (qH rfl ?_))
  rw [show vo ((400 : Nat) : Int) = 400 by decide] at HO ⊢
  unfold G0 at HO ⊢
  generalize jB (QY p q r) (qB (QY p q r)) 400 z6 (jL zs 96) = RM at *
  generalize jB (zr p r) (qB (zr p r)) 400 z6 (jL zs 96) = SM at *
  clear HV HM HN
  obtain ⟨BL, fL, _, _, kL⟩ := RL
  obtain ⟨BS, fS, _⟩ := RS
  by_cases k4 : RM.kind = 4
  ·clear main
   with_reducible (refine zA (by omega) ?_; refine qY ?_; refine qO (by omega) ?_; refine qM ?_)
   exact qk rfl
  ·obtain ⟨m0, m1, m2, m3, m4⟩ := main ⟨n1, k4⟩
   clear main
   with_reducible (refine zw (by omega) ?_; refine qQ ?_; refine qO (by omega) ?_; refine qW ?_; (try dsimp only); refine jG ?_; (try dsimp only))
   refine jo (by decide) (UG (by omega) BL.gb m2 m3 BL.good.ok BS.good.ok (by rw [m4]) (by rw [m4]) (by omega) HO) ?_
   rintro _ hp1 ⟨rfl, _⟩
   refine qe ?_; refine qM ?_
   exact qk rfl
 ·refine qo HA (b := b1) (off := 0) e_2 rfl (by omega) (l := [pa]) rfl ?_
  refine jo (by decide) (wA (by omega) HA) ?_
  rintro _ hb1 ⟨o1, rfl, HB⟩
  refine qo HB (b := b2) (off := 0) e_2 rfl (by omega) (l := [pb]) rfl ?_
  have oo1 := XM HB .here
  refine jK (n := 3) (l := [pa, o1, pb]) (sz := 1) HB rfl rfl rfl (by simp [qu, oa.2, ob.2, oo1.2]) fun jv hc1 HC => ?_
  refine zj HA (b := b2) e_1 rfl HB e_2 rfl rfl (by omega) (HS.lt HA e_1) ?_
  refine zj HA (b := b1) e_2 rfl HB e_3 rfl rfl (by omega) (HS.lt HA e_2) ?_
  clear HA HB
  refine zp [] (fun s h' => ∃ jv2, s = (jv2, .ptr b3 0, .ptr b2 0, .ptr b1 0, wv, .bool true, ()) ∧ HS h h' (qb 31 1 3 jv2 [pa, o1, pb] :: jh o1 [one 17] :: qU b3 [pc] :: qU b2 [pb] :: qU b1 [pa] :: jh pc r :: jh pb q :: jh pa p :: qb 26 1 zs.length wv (zs.map (.int .u64)) :: [])) ?_ ?_
  ·intro j hj
   refine zv ?_; refine qQ ?_
   exact hj _ _ ⟨jv, rfl, HC⟩
  rintro s hd1 ⟨jv2, rfl, HD⟩
  dsimp only
  refine qW ?_
  try dsimp only
  refine jo (by decide) (wA (by omega) HD) ?_
  rintro _ hg1 ⟨o3, rfl, HG⟩
  refine qo HG (b := b3) (off := 0) e_3 rfl (by omega) (l := [pc]) rfl ?_
  refine jo (by decide) (wA (by omega) HG) ?_
  rintro _ hi1 ⟨o4, rfl, HI⟩
  have oo4 := XM HI .here
  have oo3 := XM HI e_1
  refine jK (n := 3) (l := [o3, pc, o4]) (sz := 1) HI rfl rfl rfl (by simp [qu, oc.2, oo3.2, oo4.2]) fun kv hj1 HJ => ?_
  refine zl (HJ.sel (P := qb 31 1 3 jv2 [pa, o1, pb]) e_3) (HJ.sl .here) (by omega) (by omega) (by simp [qu, oc.2, oo3.2, oo4.2]) fun jv3 hk1 HK => ?_
  refine zj HG (b := b3) e_3 rfl HI e_4 rfl rfl (by omega) (HS.lt HD e_2) ?_
  refine zj HD (b := b3) e_2 rfl HG e_3 rfl rfl (by omega) (HS.lt HD e_2) ?_
  have HK : HS h hk1 (qb 31 1 6 jv3 ([pa, o1, pb] ++ [o3, pc, o4]) :: _) := HK
  clear HC HD HG HI HJ
  refine jo (by decide) (Xw (ps := [(pa, p), (o1, [one 17]), (pb, q), (o3, [one 18]), (pc, r), (o4, [one 19])]) (by omega) HK (HK.rd .here) (fa (rdI HK e_10) (fa (rdI HK e_4) (fa (rdI HK e_9) (fa (rdI HK e_3) (fa (rdI HK e_8) (fa (rdI HK e_2) fn)))))) (fa jp (fa j1 (fa jq (fa j1 (fa jr (fa j1 fn)))))) (by show 6 ≤ 20; decide)) ?_
  rintro _ hl1 ⟨lj, rfl, HL⟩
  have HL : HS h hl1 (jh lj (QK p q r) :: _) := HL
  have olj := XM HL .here
  refine jJ HL rfl fun b4 hm1 HM => ?_
  refine jF HM (b := b4) .here rfl (by simp) (by show qu [lj] = true; simp [qu, olj.2]) fun hn1 HN0 => ?_
  have HN : HS h hn1 (qU b4 [lj] :: jh lj (QK p q r) :: qU b3 [pc] :: qU b2 [pb] :: qU b1 [pa] :: jh pc r :: jh pb q :: jh pa p :: qb 26 1 zs.length wv (zs.map (.int .u64)) :: []) := HN0.sub (.cons .here (.cons .here (.drop (.drop (.drop (.drop (.drop (.refl))))))))
  clear HK HL HM HN0
  refine qo HN (b := b1) (off := 0) e_4 rfl (by omega) (l := [pa]) rfl ?_
  refine qo HN (b := b3) (off := 0) e_2 rfl (by omega) (l := [pc]) rfl ?_
  refine jK (n := 2) (l := [pa, pc]) (sz := 1) HN rfl rfl rfl (by simp [qu, oa.2, oc.2]) fun kv2 ho1 HO => ?_
  obtain ⟨ek, HO⟩ : ∃ e : TypeId, HS h ho1 (qb e 1 2 kv2 [pa, pc] :: _) := ⟨_, HO⟩
  refine jo (by decide) (Xw (ps := [(pa, p), (pc, r)]) (by omega) HO (HO.rd .here) (fa (rdI HO e_8) (fa (rdI HO e_6) fn)) (fa jp (fa jr fn)) (by show 2 ≤ 20; decide)) ?_
  rintro _ hp1 ⟨ls, rfl, HP⟩
  have HP : HS h hp1 (jh ls (zr p r) :: _) := HP
  have ols := XM HP .here
  refine jJ HP rfl fun b5 hq1 HQ => ?_
  refine jF HQ (b := b5) .here rfl (by simp) (by show qu [ls] = true; simp [qu, ols.2]) fun hr1 HR => ?_
  have HR : HS h hr1 (qU b5 [ls] :: jh ls (zr p r) :: _) := HR
  clear HN HO HP HQ
  refine zp [] (fun s h' => s = (.ptr b5 0, .ptr b4 0, wv, ()) ∧ ∃ lx, HS h h' (qU b5 [lx] :: jh lx (zr p q) :: qU b4 [lj] :: jh lj (QK p q r) :: qb 26 1 zs.length wv (zs.map (.int .u64)) :: [])) ?_ ?_
  ·intro j hj
   refine qY ?_
   refine qo HR (b := b1) (off := 0) e_7 rfl (by omega) (l := [pa]) rfl ?_
   refine qo HR (b := b2) (off := 0) e_6 rfl (by omega) (l := [pb]) rfl ?_
   refine jK (n := 2) (l := [pa, pb]) (sz := 1) HR rfl rfl rfl (by simp [qu, oa.2, ob.2]) fun kv3 hs1 HS1 => ?_
   obtain ⟨ek2, HS1⟩ : ∃ e : TypeId, HS h hs1 (qb e 1 2 kv3 [pa, pb] :: _) := ⟨_, HS1⟩
   refine jo (by decide) (Xw (ps := [(pa, p), (pb, q)]) (by omega) HS1 (HS1.rd .here) (fa (rdI HS1 e_11) (fa (rdI HS1 e_10) fn)) (fa jp (fa jq fn)) (by show 2 ≤ 20; decide)) ?_
   rintro _ ht1 ⟨ls2, rfl, HT⟩
   have HT : HS h ht1 (jh ls2 (zr p q) :: _) := HT
   have ols2 := XM HT .here
   refine jF HT (b := b5) e_2 rfl (by simp) (by show qu [ls2] = true; simp [qu, ols2.2]) fun hu1 HU => ?_
   have HU : HS h hu1 (qU b5 [ls2] :: jh ls2 (zr p q) :: _) := HU
   exact hj _ _ ⟨rfl, ls2, HU.sub (.cons .here (.cons .here (.drop (.drop (.drop (.cons .here (.cons .here (.drop (.drop (.drop (.drop (.drop (.drop (.cons .here .refl))))))))))))))⟩
  rintro s hv1 ⟨rfl, lx, HV⟩
  dsimp only
  clear HR
  have W := U.whereA
  have hlen := W.len
  refine qo HV (b := b4) (off := 0) e_2 rfl (by omega) (l := [lj]) rfl ?_
  refine jo (by decide) (kT (by omega) HV (rdI HV e_3) (by have := U.lp; have := U.lq; have := U.lr; omega)) ?_
  rintro _ hm1 ⟨rfl, HM⟩
  refine qH rfl (qH rfl ?_)
  rcases Yn U W with hc | hc
  ·rw [hc]
   with_reducible (refine zA (by omega) ?_; refine qY ?_; refine qO (by omega) ?_; refine qM ?_)
   exact qk rfl
  rw [hc]
  with_reducible (refine zw (by omega) ?_; refine qQ ?_)
  have hcs := U2.check_short
  obtain ⟨_, _, QS, CS⟩ := U2.quiet
  obtain ⟨es1, es3, hsl, _⟩ := U2.short_at
  have QL := Vv U
  have FL := yb hc
  have FS := yb hcs
  have GL := vF (l := QK p q r) (m := 96) hz
  have GS := vF (l := zr p q) (m := 96) hz
  have f0 := vA zs 96
  have RL := Jg FL QL 400 GL (by omega)
  have RS := Jg FS QS 400 GS (by omega)
  have n1 := Jx FL QL (n := 400) (zs := zs) (m := 96) GL rfl rfl (by omega)
  have main := fun hk => NF U W FL QL hz hk es1 es3 hsl FS QS
  refine qo HM (b := b4) (off := 0) e_2 rfl (by omega) (l := [lj]) rfl ?_
  refine jo (by decide) (J2 (zs := zs) (fuel := ((400 : Nat) : Int)) (by omega) HM (rdI HM e_3) (HM.rd e_4) hz hc QL) ?_
  rintro _ hn1 ⟨xp, vp, nx, rfl, HN⟩
  refine qH rfl (qH rfl (qH rfl ?_))
  refine qo HN (b := b5) (off := 0) e_2 rfl (by omega) (l := [lx]) rfl ?_
  refine jo (by decide) (J2 (zs := zs) (fuel := ((400 : Nat) : Int)) (by omega) HN (rdI HN e_3) (HN.rd e_6) hz hcs QS) ?_
  rintro _ ho1 ⟨yp, up, nx2, rfl, HO⟩
  refine qH rfl (qH rfl (qH rfl ?_))
  rw [show vo ((400 : Nat) : Int) = 400 by decide] at HO ⊢
  unfold G0 at HO ⊢
  generalize jB (QK p q r) (qB (QK p q r)) 400 z6 (jL zs 96) = RM at *
  generalize jB (zr p q) (qB (zr p q)) 400 z6 (jL zs 96) = SM at *
  clear HV HM HN
  obtain ⟨BL, fL, _, _, kL⟩ := RL
  obtain ⟨BS, fS, _⟩ := RS
  by_cases k4 : RM.kind = 4
  ·clear main
   with_reducible (refine zA (by omega) ?_; refine qY ?_; refine qO (by omega) ?_; refine qM ?_)
   exact qk rfl
  ·obtain ⟨m0, m1, m2, m3, m4⟩ := main ⟨n1, k4⟩
   clear main
   with_reducible (refine zw (by omega) ?_; refine qQ ?_; refine qO (by omega) ?_; refine qW ?_; (try dsimp only); refine jG ?_; (try dsimp only))
   refine jo (by decide) (UG (by omega) BL.gb m2 m3 BL.good.ok BS.good.ok (by rw [m4]) (by rw [m4]) (by omega) HO) ?_
   rintro _ hp1 ⟨rfl, _⟩
   refine qe ?_; refine qM ?_
   exact qk rfl
theorem told {h : AH} {l : List AV} (H : WTs Tryz.prog h 8 Tryz.f6.params.toList l) : wp (W6 (vE 3 (callT tab qc 60)) l h) fun v _ => v = .bool true := by
 have e : Tryz.f6.params.toList = [43, 43, 43, 3, 38, 44, 4] := by kernel_rfl
 rw [e] at H
 obtain ⟨a0, a1, a2, a3, a4, a5, a6, rfl, H0, H1, H2, H3, H4, H5, H6⟩ := WTs7 H
 simp only [WTV, Tryz.underlying3, Tryz.underlying4, Tryz.underlying5, Tryz.underlying26, Tryz.underlying38, Tryz.underlying43, Tryz.underlying44, Tryz.underlying115] at H0 H1 H2 H3 H4 H5 H6
 obtain ⟨ka, Z0, N0⟩ := Gs H0
 obtain ⟨kb, Z1, N1⟩ := Gs H1
 obtain ⟨kc, Z2, N2⟩ := Gs H2
 obtain ⟨rs, Z4, b1⟩ := MJ Tryz.underlying38 Tryz.underlying26 (by kernel_rfl) H4
 obtain ⟨bs, Z5, b2⟩ := MJ Tryz.underlying44 Tryz.underlying5 (by kernel_rfl) H5
 unfold WT at H3 H6
 simp only [Tryz.underlying3, Tryz.underlying4] at H3 H6
 obtain ⟨x, hx, _⟩ := H3
 obtain ⟨fb, hfb⟩ := H6
 cases hx; cases hfb
 exact law (by omega) Z0 N0 Z1 N1 Z2 N2 Z4 (fun z hz => ⟨(b1 z hz).1, Int.lt_of_le_of_lt (b1 z hz).2 (by decide)⟩) Z5 b2
end Go.Proofs.YtdlfmpmpmkffjaaGreatDoor.interpWays
