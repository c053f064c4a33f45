/- Lemmas for 'quietus/quietuslaw22.ModelTells': A programs run on a view: what holds all along; A programs run: by the programs interpreter; A programs run: parts that open and close; the heap; one ... No condition. -/
import Derived.Test.YtdlfmpmpmkffjaaGreatDoorModelTellsM2
namespace Go.Proofs.YtdlfmpmpmkffjaaGreatDoor
open Go Go.Ae
structure w7 (M M' : VM) : Prop where
  sz : M'.sz = M.sz
  K : M'.K = M.K
  most : M'.most = M.most
  len : M'.lv.length = M.lv.length
def w9 (M M' : VM) : Prop := M'.lv = M.lv ∧ 1 ≤ M'.need ∧ M'.need < M.sz ∧ zR M'.need M.K = none
theorem w7.refl (M : VM) : w7 M M := ⟨rfl, rfl, rfl, rfl⟩
theorem w7.trans {M N Q : VM} (a : w7 M N) (b : w7 N Q) : w7 M Q := ⟨b.sz.trans a.sz, b.K.trans a.K, b.most.trans a.most, b.len.trans a.len⟩
theorem zn (M : VM) (p : Int) : w7 M (qT M p).2 := by
 unfold qT
 repeat' split
 all_goals exact ⟨rfl, rfl, rfl, rfl⟩
theorem gt {M : VM} {p : Int} (h : (qT M p).1.2 = 11) : w9 M (qT M p).2 := by
 unfold qT at h ⊢
 split
 ·rename_i h1
  rw [if_pos h1] at h
  split
  ·rename_i h2; rw [h2] at h; cases h
  ·rename_i h2
   rw [h2] at h
   dsimp only at h ⊢
   split
   ·rename_i h3; rw [h3] at h; cases h
   ·rename_i h3; exact ⟨rfl, h1.1, h1.2, h3⟩
 ·rename_i h1
  rw [if_neg h1] at h; cases h
theorem qXu {most : Nat} {lv : List LvM} {p v : Int} : (xH most lv p v).1 = 0 ∨ (xH most lv p v).1 = 2 ∨ (xH most lv p v).1 = 5 := by
 unfold xH
 repeat' split
 all_goals simp
theorem Ms {most : Nat} {was : List LvM} : ∀ {cs : List Cl} {lv : List LvM}, (xC most was lv cs).1 = 0 ∨ (xC most was lv cs).1 = 2 ∨ (xC most was lv cs).1 = 5 := by
 intro cs
 induction cs with
 | nil => intro lv; exact .inl rfl
 | cons c cs ih =>
  intro lv
  rw [xl]
  split
  ·exact ih
  ·exact qXu
theorem Zp {M : VM} {cs : List Cl} : (jU M cs).1 = 0 ∨ (jU M cs).1 = 2 ∨ (jU M cs).1 = 5 := by
 unfold jU
 split
 ·exact Ms
 ·exact .inr (.inl rfl)
theorem J6 {M : VM} {cs : List Cl} (h : (jU M cs).1 = 11) : False := by
 have := Zp (M := M) (cs := cs); omega
theorem vZ {M : VM} {cs : List Cl} (O : OkV M) : w7 M (jU M cs).2 := by
 unfold jU
 split
 ·exact ⟨rfl, rfl, rfl, (Ko O.lvs O.lvs rfl).2⟩
 ·exact .refl M
theorem Z4 (M : VM) (b : Int) : w7 M (zv M b).2 := by
 unfold zv
 repeat' split
 all_goals first | exact .refl M | exact zn M _
theorem qQm {M : VM} {b : Int} (h : (zv M b).1.2.2 = 11) : w9 M (zv M b).2 := by
 unfold zv at h ⊢
 split
 ·rename_i h1; rw [if_pos h1] at h; cases h
 ·rename_i h1
  rw [if_neg h1] at h
  split
  ·rename_i h2
   rw [if_pos h2] at h
   split
   ·rename_i h3; rw [if_pos h3] at h; cases h
   ·rename_i h3; rw [if_neg h3] at h; cases h
  ·rename_i h2
   rw [if_neg h2] at h
   exact gt h
theorem freeL_len {lv : List LvM} {b : Int} : (k8 lv b).length = lv.length := by cases lv <;> rfl
theorem Nb {M : VM} {b : Int} (O : OkV M) : w7 M (ve M b).2 := by
 have ha := Z4 M b
 unfold ve
 repeat' split
 ·have ht := ha.trans (vZ (cs := [(b - 1, (zv M b).1.1)]) (QR (b := b) O))
  exact ⟨ht.sz, ht.K, ht.most, freeL_len.trans ht.len⟩
 ·exact ha.trans (vZ (QR O))
 ·exact ha
 ·exact ha
theorem N1 {M : VM} {b : Int} (h : (ve M b).1 = 11) : w9 M (ve M b).2 := by
 unfold ve at h ⊢
 split
 ·rename_i h1
  rw [if_pos h1] at h
  split
  ·rename_i h2
   rw [if_pos h2] at h
   split
   ·rename_i h3; rw [if_pos h3] at h; cases h
   ·rename_i h3; rw [if_neg h3] at h; exact (J6 h).elim
  ·rename_i h2; rw [if_neg h2] at h; cases h
 ·rename_i h1
  rw [if_neg h1] at h
  exact qQm h
theorem V9 {M : VM} {c b : Int} (O : OkV M) : w7 M (yA M c b).2 := by
 unfold yA
 repeat' split
 ·exact .refl M
 ·exact (zn M _).trans (vZ (ze O))
 ·exact (zn M _).trans (vZ (ze O))
 ·exact zn M _
theorem VP {M : VM} {c b : Int} (h : (yA M c b).1.2 = 11) : w9 M (yA M c b).2 := by
 unfold yA at h ⊢
 split
 ·rename_i h1; rw [if_pos h1] at h; cases h
 ·rename_i h1
  rw [if_neg h1] at h
  split
  ·rename_i h2
   rw [if_pos h2] at h
   split
   ·rename_i h3; rw [if_pos h3] at h; cases h
   ·rename_i h3; rw [if_neg h3] at h; exact (J6 h).elim
  ·rename_i h2
   rw [if_neg h2] at h
   exact gt h
theorem Vw {M : VM} {c : Int} (O : OkV M) : w7 M (yy M c).2 := by
 unfold yy
 repeat' split
 ·exact zn M _
 ·exact (zn M _).trans (vZ (ze O))
 ·exact (zn M _).trans (vZ (ze O))
 ·exact zn M _
theorem V4 {M : VM} {c : Int} (h : (yy M c).1.2 = 11) : w9 M (yy M c).2 := by
 unfold yy at h ⊢
 split
 ·rename_i h1
  rw [if_pos h1] at h
  split
  ·rename_i h2; rw [if_pos h2] at h; cases h
  ·rename_i h2
   rw [if_neg h2] at h
   split
   ·rename_i h3; rw [if_pos h3] at h; cases h
   ·rename_i h3; rw [if_neg h3] at h; exact (J6 h).elim
 ·rename_i h1
  rw [if_neg h1] at h
  exact gt h
theorem Xx {M : VM} {x : Int} (O : OkV M) : w7 M (zM M x).2 := by
 unfold zM
 repeat' split
 ·exact .refl M
 ·exact (zn M _).trans (Vw (ze O))
 ·exact (zn M _).trans (V9 (ze O))
 ·exact zn M _
theorem Ve {M : VM} {x : Int} (h : (zM M x).1.2 = 11) : w9 M (zM M x).2 := by
 unfold zM at h ⊢
 split
 ·rename_i h1; rw [if_pos h1] at h; cases h
 ·rename_i h1
  rw [if_neg h1] at h
  split
  ·rename_i h2
   rw [if_pos h2] at h
   have e := OF h2
   split
   ·rename_i h3
    rw [if_pos h3, e] at h
    rw [e]; exact V4 h
   ·rename_i h3
    rw [if_neg h3, e] at h
    rw [e]; exact VP h
  ·rename_i h2
   rw [if_neg h2] at h
   exact gt h
theorem KQ {M : VM} {x : Int} (W : WdV M) (h : (zM M x).1.2 = 0) : 0 ≤ (zM M x).1.1 ∧ (zM M x).1.1 ≤ 2147483648 := by
 have hs := J2 (jg x)
 unfold zM at h ⊢
 split
 ·rename_i h1; rw [if_pos h1] at h; cases h
 ·rename_i h1
  rw [if_neg h1] at h
  split
  ·rename_i h2
   rw [if_pos h2] at h
   have hr := W.read (p := jg x)
   split
   ·rename_i h3
    rw [if_pos h3] at h
    have hr2 := (W.read2 (p := jg x)).read (p := 5)
    unfold yy at h ⊢
    split
    ·rename_i h4
     rw [if_pos h4] at h
     split
     ·rename_i h5; rw [if_pos h5] at h; cases h
     ·rename_i h5
      split
      ·dsimp only; omega
      ·show (0 : Int) ≤ 0 ∧ (0 : Int) ≤ 2147483648; omega
    ·show (0 : Int) ≤ 0 ∧ (0 : Int) ≤ 2147483648; omega
   ·rename_i h3
    rw [if_neg h3] at h
    unfold yA at h ⊢
    split
    ·rename_i h4; rw [if_pos h4] at h; cases h
    ·split
     ·split
      ·dsimp only; omega
      ·show (0 : Int) ≤ 0 ∧ (0 : Int) ≤ 2147483648; omega
     ·show (0 : Int) ≤ 0 ∧ (0 : Int) ≤ 2147483648; omega
  ·show (0 : Int) ≤ 0 ∧ (0 : Int) ≤ 2147483648; omega
structure gi (r : List Int) : Prop where
  len : r.length = 8
  bd : ∀ z ∈ r, 0 ≤ z ∧ z < 18446744073709551616
theorem gi.at {r : List Int} (h : gi r) (i : Int) : 0 ≤ qE r i ∧ qE r i < 18446744073709551616 := by
 unfold qE
 cases hi : r[i.toNat]? with
 | none => show (0 : Int) ≤ 0 ∧ (0 : Int) < 18446744073709551616; omega
 | some z => exact h.bd z (List.mem_of_getElem? hi)
theorem gi.set {r : List Int} {i v : Int} (h : gi r) (hv : 0 ≤ v ∧ v < 18446744073709551616) : gi (r.set i.toNat v) :=
 ⟨by rw [List.length_set]; exact h.len, fun z hz => by
  rcases List.mem_or_eq_of_mem_set hz with hz | rfl
  ·exact h.bd z hz
  ·exact hv⟩
structure PtOk (l : List qM) (p : PtM) : Prop where
  regs : gi p.regs
  pc : ∃ k : Nat, p.pc = k ∧ k < l.length
  op : (p.op = 14 ∨ p.op = 17 ∨ p.op = 18) ∧ (qL l p.pc).1 = p.op
def ToldD : Nat → List PtM → Prop
 | _, [] => True
 | n, p :: r => p.told ≤ n ∧ ToldD p.told r
theorem ToldD.mono : ∀ {o : List PtM} {n n' : Nat}, n ≤ n' → ToldD n o → ToldD n' o := by
 intro o
 cases o with
 | nil => intro _ _ _ _; trivial
 | cons p r => intro n n' h h2; exact ⟨Nat.le_trans h2.1 h, h2.2⟩
structure GB (s : IM) : Prop where
  regs : gi s.regs
  out : s.out.length ≤ 16
  its : ∀ x ∈ s.out, NI x
structure GI (l : List qM) (s : IM) (V : VM) : Prop where
  gb : GB s
  pc : ∃ k : Nat, s.pc = k ∧ k ≤ l.length
  pts : ∀ p ∈ s.opn, PtOk l p
  told : ToldD s.out.length s.opn
  stk : s.opn.map (·.pc) = (qg l s.pc.toNat).reverse
  lv : V.lv.length = s.opn.length + 1
  good : jT V
theorem ZN (z : Int) : 0 ≤ j4 .u64 z ∧ j4 .u64 z < 18446744073709551616 := by
  cases z with
  | ofNat a => show (0 : Int) ≤ Int.ofNat (a % 18446744073709551616) ∧ Int.ofNat (a % 18446744073709551616) < 18446744073709551616
               rw [Int.ofNat_eq_natCast]; omega
  | negSucc a => show (0 : Int) ≤ Int.ofNat (18446744073709551615 - a % 18446744073709551616) ∧ Int.ofNat (18446744073709551615 - a % 18446744073709551616) < 18446744073709551616
                 rw [Int.ofNat_eq_natCast]; omega
theorem MC (p : Prop) [Decidable p] : 0 ≤ vY p ∧ vY p < 18446744073709551616 := by unfold vY; split <;> omega
theorem GB.setR {s : IM} {i v : Int} (h : GB s) (hv : 0 ≤ v ∧ v < 18446744073709551616) : GB (setR s i v) := ⟨h.regs.set hv, h.out, h.its⟩
structure QO (l : List qM) (s : IM) (V : VM) (r : SM) : Prop where
  gb : GB r.s
  good : jT r.v
  fr : frS r.v.lv ≤ frS V.lv + 1
  sz : r.v.sz = V.sz
  K : r.v.K = V.K
  most : r.v.most = V.most
  next : r.e = 0 → r.blk = false → GI l { r.s with pc := r.nx } r.v
  need : r.e = 11 → r.s = s ∧ w9 V r.v
  bl : r.blk = true → r.e = 0
theorem VO {l : List qM} {i : Nat} (h1 : zZ (qL l i).1 = false) (h2 : (qL l i).1 ≠ 18) (h3 : jE (qL l i).1 = 0) : qg l (i + 1) = qg l i := by
 rw [jw]
 unfold qt
 rw [if_neg (by rw [h1]; simp [h2]), if_neg (by omega)]
theorem GI.plain {l : List qM} {s s' : IM} {V V' : VM} {i : Nat} (G : GI l s V) (hi : s.pc = i) (hlt : i < l.length) (h1 : zZ (qL l i).1 = false) (h2 : (qL l i).1 ≠ 18) (h3 : jE (qL l i).1 = 0)
  (gb : GB s') (ho : s'.opn = s.opn) (hl : s.out.length ≤ s'.out.length) (hv : V'.lv.length = V.lv.length) (hg : jT V') : GI l { s' with pc := s.pc + 1 } V' := by
 refine ⟨⟨gb.regs, gb.out, gb.its⟩, ⟨i + 1, by show s.pc + 1 = _; omega, by omega⟩, by show ∀ p ∈ s'.opn, _; rw [ho]; exact G.pts, by show ToldD s'.out.length s'.opn; rw [ho]; exact G.told.mono hl, ?_, by show V'.lv.length = s'.opn.length + 1; rw [ho, hv]; exact G.lv, hg⟩
 show s'.opn.map _ = (qg l (s.pc + 1).toNat).reverse
 rw [ho, hi, show ((i : Int) + 1).toNat = i + 1 by omega, VO h1 h2 h3, G.stk, hi, Int.toNat_natCast]
theorem Yg {l : List qM} {s : IM} {V : VM} {op : Int} {p : Nat} {st : List Int} (gb : GB s) (hp : p < l.length) (ho : (op = 14 ∨ op = 17 ∨ op = 18) ∧ (qL l (p : Int)).1 = op) (pts : ∀ p ∈ s.opn, PtOk l p) (told : ToldD s.out.length s.opn)
  (hst : s.opn.map (·.pc) = st.reverse) (hs2 : qg l (p + 1) = st ++ [(p : Int)]) (lv : V.lv.length = s.opn.length + 1) (hd : s.opn.length < 5) (G : jT V) :
  (jn op p ((p : Int) + 1) s V).e = 0 ∧ (jn op p ((p : Int) + 1) s V).blk = false ∧ (jn op p ((p : Int) + 1) s V).nx = (p : Int) + 1 ∧ GI l { (jn op p ((p : Int) + 1) s V).s with pc := (p : Int) + 1 } (jn op p ((p : Int) + 1) s V).v ∧
   (jn op p ((p : Int) + 1) s V).v = (zp V).2 := by
 have h0 : (zp V).1 = 0 ∧ (zp V).2.lv = ([], []) :: V.lv := by
  unfold zp yY
  rw [if_neg (by omega)]
  exact ⟨rfl, rfl⟩
 unfold jn
 rw [if_pos h0.1]
 refine ⟨rfl, rfl, rfl, ⟨⟨gb.regs, gb.out, gb.its⟩, ⟨p + 1, rfl, by omega⟩, ?_, ⟨Nat.le_refl _, told⟩, ?_, ?_, G.openG.1⟩, rfl⟩
 ·intro q hq
  rcases List.mem_cons.1 hq with rfl | hq
  ·exact ⟨gb.regs, ⟨p, rfl, hp⟩, ho⟩
  ·exact pts q hq
 ·show (p : Int) :: s.opn.map _ = (qg l ((p : Int) + 1).toNat).reverse
  rw [hst, show ((p : Int) + 1).toNat = p + 1 by omega, hs2, List.reverse_append]; rfl
 ·show (zp V).2.lv.length = _
  rw [h0.2, List.length_cons, lv]; rfl
theorem gZ {V : VM} (h : 2 ≤ V.lv.length) : (zK V).1 = 0 ∧ (zK V).2.lv = V.lv.tail := by
 unfold zK vk
 rw [if_neg (by omega)]
 exact ⟨rfl, rfl⟩
theorem yt {V : VM} (h : 2 ≤ V.lv.length) : (yX V).1 = 0 ∧ (yX V).2.lv.length + 1 = V.lv.length := by
 unfold yX
 match hl : V.lv, h with
 | [], h => simp at h
 | [x], h => simp at h
 | x :: y :: r, _ => exact ⟨rfl, by simp [vU]⟩
theorem ToldD.tail {n : Nat} {p : PtM} {o : List PtM} (h : ToldD n (p :: o)) : ToldD n o := h.2.mono h.1
theorem QO.plain {l : List qM} {s s' : IM} {V V' : VM} {i : Nat} {e : Int} (G : GI l s V) (hi : s.pc = i) (hlt : i < l.length) (h1 : zZ (qL l i).1 = false) (h2 : (qL l i).1 ≠ 18) (h3 : jE (qL l i).1 = 0)
  (gb : GB s') (ho : s'.opn = s.opn) (hl : s.out.length ≤ s'.out.length) (hk : w7 V V') (hg : jT V') (hf : frS V'.lv ≤ frS V.lv + 1) (hn : e = 11 → s' = s ∧ w9 V V') : QO l s V ⟨e, s.pc + 1, false, s', V'⟩ :=
 ⟨gb, hg, hf, hk.sz, hk.K, hk.most, fun _ _ => G.plain hi hlt h1 h2 h3 gb ho hl hk.len hg, hn, fun h => (by cases h)⟩
theorem VL {l : List qM} (F : Fit l) {i : Nat} (hlt : i < l.length) (ho : (qL l i).1 = 12 ∨ (qL l i).1 = 13) : ∃ c : Nat, (qL l i).2.2.2.1 = c ∧ c ≤ l.length ∧ qg l c = qg l i := by
 have hm := (xd (F.ok i hlt)).1
 have hj := F.jump i hlt
 generalize qL l i = x at *
 have hc : 0 ≤ x.2.2.2.1 ∧ x.2.2.2.1 ≤ 40 := by
  unfold xr q8 xU at hm
  simp only [Bool.and_eq_true, decide_eq_true_eq] at hm
  have := hm.1.2
  rcases ho with h | h
  ·rw [if_neg (by omega), if_neg (by omega), if_neg (by omega), if_neg (by omega), if_pos h] at this
   exact this
  ·rw [if_neg (by omega), if_neg (by omega), if_neg (by omega), if_neg (by omega), if_neg (by omega), if_pos h] at this
   exact this
 obtain ⟨c, hcc⟩ : ∃ c : Nat, x.2.2.2.1 = c := ⟨x.2.2.2.1.toNat, by omega⟩
 refine ⟨c, hcc, ?_⟩
 unfold wE at hj
 rw [hcc] at hj
 have hle : c ≤ l.length := by
  rcases Nat.lt_or_ge l.length c with h | h
  ·exact absurd ⟨ho, .inl (by omega)⟩ hj
  ·exact h
 refine ⟨hle, ?_⟩
 by_cases he : c = l.length
 ·subst he
  rw [F.nil]
  have : qE (zL l 0 []) (i : Int) = -1 := Classical.not_not.1 fun h => hj ⟨ho, .inr (.inl ⟨rfl, h⟩)⟩
  rw [xP F hlt] at this
  exact (Classical.not_not.1 fun h => by
   have := (QQ (l := l) i).1.inmost (fun h' => h h'.symm)
   omega : [] = qg l i)
 ·have : qE (zL l 0 []) (c : Int) = qE (zL l 0 []) (i : Int) := Classical.not_not.1 fun h => hj ⟨ho, .inr (.inr ⟨by omega, h⟩)⟩
  rw [xP F hlt, xP F (by omega)] at this
  exact Z9 this
theorem wO {l : List qM} (F : Fit l) : ∀ i, i ≤ l.length → (qg l i).length ≤ 5 := by
 intro i
 induction i with
 | zero => intro _; simp [qg]
 | succ i ih =>
  intro h
  have h1 := ih (by omega)
  have hw := xd (F.ok i (by omega))
  rw [jw]
  unfold qt
  repeat' split
  ·rename_i hb he
   have hne : qg l i ≠ [] := (zG (F.ok i (by omega))).2.1 (.inl he)
   have := List.length_pos_iff.2 hne
   simp; omega
  ·rename_i hb he
   rcases hb with hb | hb
   ·have := hw.2.2.2 hb; simp; omega
   ·exact absurd (by rw [hb]; decide) he
  ·simp; omega
  ·exact h1
theorem kC {o : List PtM} {p : PtM} {st : List Int} (h : (p :: o).map (·.pc) = st.reverse) : st = st.dropLast ++ [p.pc] ∧ o.map (·.pc) = st.dropLast.reverse := by
 have e : st = o.reverse.map (·.pc) ++ [p.pc] := by
  have := congrArg List.reverse h
  rw [List.reverse_reverse] at this
  rw [← this, List.map_cons, List.reverse_cons, List.map_reverse]
 have e2 : st.dropLast = o.reverse.map (·.pc) := by rw [e, List.dropLast_concat]
 refine ⟨by rw [e2]; exact e, ?_⟩
 rw [e2, List.map_reverse, List.reverse_reverse]
def PreP (l : List qM) (st : List Int) : Prop := ∀ k p : Nat, st[k]? = some (p : Int) → qg l (p + 1) = st.take (k + 1)
theorem PreP.dropLast {l : List qM} {st : List Int} (h : PreP l st) : PreP l st.dropLast := by
 intro k p hk
 have h1 := (List.getElem?_eq_some_iff.1 hk).1
 have h2 : k + 1 ≤ st.length - 1 := by have := h1; simp at this; omega
 rw [List.getElem?_dropLast] at hk
 split at hk
 ·rw [h k p hk, List.dropLast_eq_take, List.take_take, Nat.min_eq_left h2]
 ·cases hk
theorem GB.back {l : List qM} {s : IM} {p : PtM} (g : GB s) (h : PtOk l p) : GB (yC s p) := ⟨h.regs, by
 show (s.out.take p.told).length ≤ 16
 have := g.out
 simp; omega, fun x hx => g.its x (List.mem_of_mem_take hx)⟩
theorem Z1 {l : List qM} {st : List Int} (hp : PreP l st) {o : List PtM} {p : PtM} {q : Nat} (h : (p :: o).map (·.pc) = st.reverse) (hq : p.pc = q) : qg l (q + 1) = st := by
 have e := (kC h).1
 have hl : st.length = st.dropLast.length + 1 := by
  have := congrArg List.length e
  simpa using this
 have := hp st.dropLast.length q (by rw [e, hq]; simp)
 rw [this, List.take_of_length_le (by omega)]
theorem U5 {l : List qM} (F : Fit l) {s0 : IM} {V0 : VM} : ∀ (o : List PtM) (s : IM) (V : VM) (st : List Int), PreP l st → o.map (·.pc) = st.reverse → GB s → (∀ p ∈ o, PtOk l p) → ToldD s.out.length o → V.lv.length = o.length + 1 → jT V →
  frS V.lv ≤ frS V0.lv → V.sz = V0.sz → V.K = V0.K → V.most = V0.most → QO l s0 V0 (zh (qi l) o s V) := by
 intro o
 induction o with
 | nil =>
  intro s V st hp hm gb _ _ hlv G hf h1 h2 h3
  exact ⟨⟨gb.regs, gb.out, gb.its⟩, G, by show frS V.lv ≤ _; omega, h1, h2, h3, fun _ h => (by cases h), fun h => (by cases h), fun _ => rfl⟩
 | cons p o ih =>
  intro s V st hp hm gb pts told hlv G hf h1 h2 h3
  have hd := gZ (V := V) (by rw [hlv]; simp)
  have hdG := G.dropG
  have hlv2 : (zK V).2.lv.length = o.length + 1 := by rw [hd.2, List.length_tail, hlv]; simp
  have hmt := kC hm
  unfold zh
  rw [if_pos hd.1]
  split
  ·rename_i hop
   have P := pts p (List.mem_cons_self ..)
   obtain ⟨q, hq, hql⟩ := P.pc
   have hqo : (qL l (q : Int)).1 = 17 := by rw [← hq, P.op.2, hop]
   obtain ⟨e, e1, e2, e3, e4, e5⟩ := wU F hql (.inr (.inl hqo))
   have hst := Z1 hp hm hq
   have heo : (qL l (e : Int)).1 = 18 := by
    rw [hqo] at e4
    unfold jE at e4
    repeat' split at e4
    all_goals first | assumption | omega
   have hst2 : qg l (e + 1) = st.dropLast ++ [(e : Int)] := by
    rw [jw, e5, hst]
    unfold qt
    rw [if_pos (.inr heo), if_pos (by rw [heo]; decide)]
   have h5 := wO F e (by omega)
   rw [e5, hst] at h5
   have hl5 : st.length = st.dropLast.length + 1 := by
    have := congrArg List.length hmt.1
    simpa using this
   have hol : o.length = st.dropLast.length := by
    have := congrArg List.length hmt.2
    simpa using this
   have gb2 : GB { yC s p with opn := o } := ⟨(gb.back P).regs, (gb.back P).out, (gb.back P).its⟩
   have told2 : ToldD (s.out.take p.told).length o := by
    rw [List.length_take, Nat.min_eq_left told.1]; exact told.2
   have key := Yg (l := l) (s := { yC s p with opn := o }) (V := (zK V).2) (op := 18) (p := e) (st := st.dropLast) gb2 e3 ⟨.inr (.inr rfl), heo⟩ (fun r hr => pts r (List.mem_cons_of_mem _ hr)) told2 hmt.2 hst2 hlv2 (by show o.length < 5; omega) hdG.1
   rw [hq, e1]
   obtain ⟨k1, k2, k3, k4, k5⟩ := key
   have hoG := hdG.1.openG
   refine ⟨k4.gb |> fun g => ⟨g.regs, g.out, g.its⟩, k4.good, ?_, ?_, ?_, ?_, fun _ _ => ?_, fun h => (by rw [k1] at h; cases h), fun h => (by rw [k2] at h; cases h)⟩
   ·rw [k5, hoG.2]; have := hdG.2; omega
   ·rw [k5]; exact h1
   ·rw [k5]; exact h2
   ·rw [k5]; exact h3
   ·rw [k3]; exact k4
  ·exact ih s (zK V).2 st.dropLast hp.dropLast hmt.2 gb (fun r hr => pts r (List.mem_cons_of_mem _ hr)) told.tail hlv2 hdG.1 (by have := hdG.2; omega) h1 h2 h3
theorem MZ {l : List qM} {s : IM} {V : VM} {x : qM} (G : GI l s V) (hf : frS V.lv < 10000) :
  GB (jt s V x).2.1 ∧ (jt s V x).2.1.opn = s.opn ∧ (jt s V x).2.1.out = s.out ∧ (jt s V x).2.1.pc = s.pc ∧ w7 V (jt s V x).2.2 ∧ jT (jt s V x).2.2 ∧ frS (jt s V x).2.2.lv ≤ frS V.lv + 1 ∧
   ((jt s V x).1 = 11 → (jt s V x).2.1 = s ∧ w9 V (jt s V x).2.2) := by
 have gb := G.gb
 have good := G.good
 have hr := fun i => gb.regs.at i
 have same : ∀ e : Int, e ≠ 11 → GB s ∧ s.opn = s.opn ∧ s.out = s.out ∧ s.pc = s.pc ∧ w7 V V ∧ jT V ∧ frS V.lv ≤ frS V.lv + 1 ∧ (e = 11 → s = s ∧ w9 V V) :=
  fun e he => ⟨gb, rfl, rfl, rfl, .refl V, good, by omega, fun h => absurd h he⟩
 unfold jt
 split
 ·split
  ·split
   ·refine ⟨gb.setR ?_, rfl, rfl, rfl, zn V _, good.read, by rw [xw]; omega, fun h => by cases h⟩
    exact good.wd.read
   ·exact ⟨gb, rfl, rfl, rfl, zn V _, good.read, by rw [xw]; omega, fun h => ⟨rfl, gt h⟩⟩
  ·exact same 2 (by omega)
 ·split
  ·split
   ·exact ⟨gb, rfl, rfl, rfl, vZ good.ok, good.take (WdC.one1 (hr _)), by rw [vw]; omega, fun h => (J6 h).elim⟩
   ·exact same 2 (by omega)
  ·split
   ·split
    ·exact same 3 (by omega)
    ·split
     ·rename_i h0
      have hb := KQ (x := qE s.regs x.2.2.1) good.wd h0
      exact ⟨gb.setR (by omega), rfl, rfl, rfl, Xx good.ok, (good.alloc).1, by rw [(good.alloc).2]; omega, fun h => by cases h⟩
     ·exact ⟨gb, rfl, rfl, rfl, Xx good.ok, (good.alloc).1, by rw [(good.alloc).2]; omega, fun h => ⟨rfl, Ve h⟩⟩
   ·split
    ·exact same 2 (by omega)
    ·exact ⟨gb, rfl, rfl, rfl, Nb good.ok, (good.free (by omega)).1, (good.free (by omega)).2, fun h => ⟨rfl, N1 h⟩⟩
theorem QP {l : List qM} {s : IM} {V : VM} (G : GI l s V) : s.opn.length = (qg l s.pc.toNat).length := by
 have := congrArg List.length G.stk
 simpa using this
theorem Gr {l : List qM} (F : Fit l) {s : IM} {V : VM} (G : GI l s V) {i : Nat} (hi : s.pc = i) (hlt : i < l.length) (hf : frS V.lv < 10000) (hN : 0 ≤ (qL l i).2.2.2.2 ∧ (qL l i).2.2.2.2 < 18446744073709551616) (hx : (qL l i).1 ≠ 23) :
  QO l s V (doM (qi l) s V (qL l i)) := by
 have hw := xd (F.ok i hlt)
 have hwo := zG (F.ok i hlt)
 have hop : 1 ≤ (qL l i).1 ∧ (qL l i).1 ≤ 23 := by
  have := hw.1
  unfold xr at this
  simp only [Bool.and_eq_true, decide_eq_true_eq] at this
  exact this.1.1.1.1
 have hbe : zZ (qL l i).1 = decide ((qL l i).1 = 14 ∨ (qL l i).1 = 17) := rfl
 have hend : jE (qL l i).1 = if (qL l i).1 = 15 then 14 else if (qL l i).1 = 18 then 17 else if (qL l i).1 = 19 then 18 else 0 := rfl
 have hjmp := fun h => VL F hlt h
 have hstk := G.stk
 rw [hi, Int.toNat_natCast] at hstk
 have hol := QP G
 rw [hi, Int.toNat_natCast] at hol
 have hr := fun i => G.gb.regs.at i
 have hmb := fun h => wU F hlt h
 have hmu := fun h => XU F hlt h
 have hss : qg l (i + 1) = qt (qg l i) i (qL l i).1 := jw
 have plain : (qL l i).1 ≠ 14 → (qL l i).1 ≠ 17 → (qL l i).1 ≠ 15 → (qL l i).1 ≠ 18 → (qL l i).1 ≠ 19 → zZ (qL l i).1 = false ∧ (qL l i).1 ≠ 18 ∧ jE (qL l i).1 = 0 := by
  intro a b c d e
  refine ⟨by rw [hbe]; exact decide_eq_false (by omega), d, ?_⟩
  rw [hend, if_neg c, if_neg d, if_neg e]
 have keep : ∀ {s' : IM} {V' : VM} {e : Int}, (qL l i).1 ≠ 14 → (qL l i).1 ≠ 17 → (qL l i).1 ≠ 15 → (qL l i).1 ≠ 18 → (qL l i).1 ≠ 19 → GB s' → s'.opn = s.opn → s.out.length ≤ s'.out.length → w7 V V' → jT V' → frS V'.lv ≤ frS V.lv + 1 →
   (e = 11 → s' = s ∧ w9 V V') → QO l s V ⟨e, s.pc + 1, false, s', V'⟩ := fun a b c d e gb ho hl hk hg hf hn =>
  QO.plain G hi hlt (plain a b c d e).1 (plain a b c d e).2.1 (plain a b c d e).2.2 gb ho hl hk hg hf hn
 generalize hxe : qL l i = x at *
 obtain ⟨sregs, sout, spc, sopn⟩ := s
 dsimp only at hi hstk hol hr keep ⊢
 unfold doM
 have reg : ∀ v : Int, x.1 ≠ 14 → x.1 ≠ 17 → x.1 ≠ 15 → x.1 ≠ 18 → x.1 ≠ 19 → 0 ≤ v ∧ v < 18446744073709551616 → QO l ⟨sregs, sout, spc, sopn⟩ V ⟨0, spc + 1, false, setR ⟨sregs, sout, spc, sopn⟩ x.2.1 v, V⟩ :=
  fun v a b c d e hv => keep a b c d e (G.gb.setR hv) rfl (Nat.le_refl _) (.refl V) G.good (by omega) fun h => by cases h
 have jump : ∀ n : Int, (x.1 = 12 ∨ x.1 = 13) → (n = x.2.2.2.1 ∨ n = spc + 1) → QO l ⟨sregs, sout, spc, sopn⟩ V ⟨0, n, false, ⟨sregs, sout, spc, sopn⟩, V⟩ := by
  intro n ho hn
  rcases hn with rfl | rfl
  ·obtain ⟨c, c1, c2, c3⟩ := hjmp ho
   refine ⟨G.gb, G.good, Nat.le_succ _, rfl, rfl, rfl, fun _ _ => ⟨⟨G.gb.regs, G.gb.out, G.gb.its⟩, ⟨c, c1, c2⟩, G.pts, G.told, ?_, G.lv, G.good⟩, fun h => (by cases h), fun h => (by cases h)⟩
   show sopn.map _ = (qg l x.2.2.2.1.toNat).reverse
   rw [c1, Int.toNat_natCast, c3]; exact hstk
  ·exact keep (by omega) (by omega) (by omega) (by omega) (by omega) G.gb rfl (Nat.le_refl _) (.refl V) G.good (by omega) fun h => by cases h
 by_cases c1 : x.1 = 1
 ·rw [if_pos c1]; exact reg _ (by omega) (by omega) (by omega) (by omega) (by omega) hN
 rw [if_neg c1]
 by_cases c2 : x.1 = 2
 ·rw [if_pos c2]; exact reg _ (by omega) (by omega) (by omega) (by omega) (by omega) (hr _)
 rw [if_neg c2]
 by_cases c3 : x.1 = 3
 ·rw [if_pos c3]; exact reg _ (by omega) (by omega) (by omega) (by omega) (by omega) (ZN _)
 rw [if_neg c3]
 by_cases c4 : x.1 = 4
 ·rw [if_pos c4]; exact reg _ (by omega) (by omega) (by omega) (by omega) (by omega) (ZN _)
 rw [if_neg c4]
 by_cases c5 : x.1 = 5
 ·rw [if_pos c5]; exact reg _ (by omega) (by omega) (by omega) (by omega) (by omega) (ZN _)
 rw [if_neg c5]
 by_cases c6 : x.1 = 6
 ·rw [if_pos c6]; exact reg _ (by omega) (by omega) (by omega) (by omega) (by omega) (MC _)
 rw [if_neg c6]
 by_cases c7 : x.1 = 7
 ·rw [if_pos c7]; exact reg _ (by omega) (by omega) (by omega) (by omega) (by omega) (MC _)
 rw [if_neg c7]
 by_cases c12 : x.1 = 12
 ·rw [if_pos c12]; exact jump _ (.inl c12) (.inl rfl)
 rw [if_neg c12]
 by_cases c13 : x.1 = 13
 ·rw [if_pos c13]
  by_cases cz : qE sregs x.2.1 = 0
  ·rw [if_pos cz]; exact jump _ (.inr c13) (.inl rfl)
  ·rw [if_neg cz]; exact jump _ (.inr c13) (.inr rfl)
 rw [if_neg c13]
 by_cases c21 : x.1 = 21
 ·rw [if_pos c21]
  have hk : ∀ e : Int, e ≠ 11 → QO l ⟨sregs, sout, spc, sopn⟩ V ⟨e, spc + 1, false, ⟨sregs, sout, spc, sopn⟩, V⟩ := fun e he =>
   keep (by omega) (by omega) (by omega) (by omega) (by omega) G.gb rfl (Nat.le_refl _) (.refl V) G.good (Nat.le_succ _) fun h => absurd h he
  by_cases hlen : 16 ≤ sout.length
  ·rw [if_pos hlen]; exact hk 5 (by omega)
  ·rw [if_neg hlen]
   refine keep (by omega) (by omega) (by omega) (by omega) (by omega) ⟨G.gb.regs, ?_, ?_⟩ rfl ?_ (.refl V) G.good (Nat.le_succ _) fun h => by cases h
   ·show (sout ++ [_]).length ≤ 16; simp; omega
   ·intro y hy
    rcases List.mem_append.1 hy with hy | hy
    ·exact G.gb.its y hy
    ·rw [List.mem_singleton] at hy; subst hy; exact hr _
   ·show sout.length ≤ (sout ++ [_]).length; simp
 rw [if_neg c21]
 by_cases c22 : x.1 = 22
 ·rw [if_pos c22]
  exact keep (by omega) (by omega) (by omega) (by omega) (by omega) G.gb rfl (Nat.le_refl _) (.refl V) G.good (Nat.le_succ _) fun h => by cases h
 rw [if_neg c22]
 by_cases c8 : x.1 = 8 ∨ x.1 = 9 ∨ x.1 = 10 ∨ x.1 = 11
 ·rw [if_pos c8]
  obtain ⟨t1, t2, t3, t4, t5, t6, t7, t8⟩ := MZ (x := x) G hf
  exact keep (by omega) (by omega) (by omega) (by omega) (by omega) t1 t2 (by rw [t3]; exact Nat.le_refl _) t5 t6 t7 t8
 rw [if_neg c8]
 unfold yW
 by_cases h : x.1 = 14 ∨ x.1 = 17
 ·rw [if_pos h]
  dsimp only
  subst hi
  have hb : zZ x.1 = true := by rw [hbe]; exact decide_eq_true h
  have he : ¬ 0 < jE x.1 := by rw [hend, if_neg (by omega), if_neg (by omega), if_neg (by omega)]; omega
  have key := Yg (l := l) (s := ⟨sregs, sout, (i : Int), sopn⟩) (V := V) (op := x.1) (p := i) (st := qg l i) G.gb hlt ⟨by omega, by rw [hxe]⟩ G.pts G.told hstk (by rw [hss]; unfold qt; rw [if_pos (.inl hb), if_neg he]) G.lv (by show sopn.length < 5; rw [hol]; exact hw.2.2.2 hb) G.good
  obtain ⟨k1, k2, k3, k4, k5⟩ := key
  have hoG := G.good.openG
  refine ⟨k4.gb |> fun g => ⟨g.regs, g.out, g.its⟩, k4.good, ?_, ?_, ?_, ?_, fun _ _ => ?_, fun h => (by rw [k1] at h; cases h), fun h => (by rw [k2] at h; cases h)⟩
  ·rw [k5, hoG.2]; omega
  ·rw [k5]; rfl
  ·rw [k5]; rfl
  ·rw [k5]; rfl
  ·rw [k3]; exact k4
 rw [if_neg h]
 clear h
 by_cases h : x.1 = 15 ∨ x.1 = 19
 ·rw [if_pos h]
  have he : 0 < jE x.1 := by rw [hend]; rcases h with h | h <;> rw [h] <;> decide
  have hne := hwo.2.1 (.inl he)
  match sopn, hol, hstk, G with
  | [], hol, _, _ => exact absurd (List.eq_nil_of_length_eq_zero hol.symm) hne
  | p :: o, hol, hstk, G =>
   have hk := yt (V := V) (by rw [G.lv]; simp)
   have hkG := G.good.keepG (by omega)
   have hlv := G.lv
   refine ⟨⟨G.gb.regs, G.gb.out, G.gb.its⟩, hkG.1, by rw [hkG.2]; omega, rfl, rfl, rfl, fun _ _ => ⟨⟨G.gb.regs, G.gb.out, G.gb.its⟩, ⟨i + 1, by show spc + 1 = _; omega, by omega⟩, fun q hq => G.pts q (List.mem_cons_of_mem _ hq), G.told.tail, ?_, ?_, hkG.1⟩, fun h0 => (by
    dsimp only at h0; rw [hk.1] at h0; cases h0), fun h => (by cases h)⟩
   ·show o.map _ = (qg l (spc + 1).toNat).reverse
    rw [hi, show ((i : Int) + 1).toNat = i + 1 by omega, hss]
    unfold qt
    rw [if_neg (by rw [hbe]; simp; omega), if_pos he]
    exact (kC hstk).2
   ·show (yX V).2.lv.length = o.length + 1
    have := hk.2
    simp at hlv
    omega
 rw [if_neg h]
 clear h
 by_cases h : x.1 = 18
 ·rw [if_pos h]
  have he : 0 < jE x.1 := by rw [hend]; rw [h]; decide
  have hne := hwo.2.1 (.inl he)
  obtain ⟨e, e1, e2, e3, e4, e5⟩ := hmb (.inr (.inr h))
  have heo : (qL l (e : Int)).1 = 19 := by
   rw [h] at e4
   unfold jE at e4
   repeat' split at e4
   all_goals first | assumption | omega
  match sopn, hol, hstk, G with
  | [], hol, _, _ => exact absurd (List.eq_nil_of_length_eq_zero hol.symm) hne
  | p :: o, hol, hstk, G =>
   have hk := yt (V := V) (by rw [G.lv]; simp)
   have hkG := G.good.keepG (by omega)
   have hlv := G.lv
   refine ⟨⟨G.gb.regs, G.gb.out, G.gb.its⟩, hkG.1, by rw [hkG.2]; omega, rfl, rfl, rfl, fun _ _ => ⟨⟨G.gb.regs, G.gb.out, G.gb.its⟩, ⟨e + 1, by show qE (qi l) spc + 1 = _; rw [hi, e1]; omega, by omega⟩, fun q hq => G.pts q (List.mem_cons_of_mem _ hq), G.told.tail, ?_, ?_, hkG.1⟩, fun h0 => (by
    dsimp only at h0; rw [hk.1] at h0; cases h0), fun h => (by cases h)⟩
   ·show o.map _ = (qg l (qE (qi l) spc + 1).toNat).reverse
    rw [hi, e1, show ((e : Int) + 1).toNat = e + 1 by omega, jw, e5, hss]
    unfold qt
    rw [if_neg (by rw [heo]; decide), if_pos (by rw [heo]; decide), if_pos (.inr h), if_pos he, List.dropLast_concat]
    exact (kC hstk).2
   ·show (yX V).2.lv.length = o.length + 1
    have := hk.2
    simp at hlv
    omega
 rw [if_neg h]
 clear h
 by_cases h : x.1 = 16
 ·rw [if_pos h]
  obtain ⟨e, e1, e2, e3, e4, hne⟩ := hmu h
  match sopn, hol, hstk, G with
  | [], hol, _, _ => exact absurd (List.eq_nil_of_length_eq_zero hol.symm) hne
  | p :: o, hol, hstk, G =>
   have hk := gZ (V := V) (by rw [G.lv]; simp)
   have hkG := G.good.dropG
   have hlv := G.lv
   have P := G.pts p (List.mem_cons_self ..)
   have told := G.told
   have gb2 := G.gb.back P
   refine ⟨⟨gb2.regs, gb2.out, gb2.its⟩, hkG.1, by have := hkG.2; dsimp only; omega, rfl, rfl, rfl, fun _ _ => ⟨⟨gb2.regs, gb2.out, gb2.its⟩, ⟨e + 1, by show qE (qi l) spc + 1 = _; rw [hi, e1]; omega, by omega⟩, fun q hq => G.pts q (List.mem_cons_of_mem _ hq), ?_, ?_, ?_, hkG.1⟩, fun h0 => (by
    dsimp only at h0; rw [hk.1] at h0; cases h0), fun h => (by cases h)⟩
   ·show ToldD (sout.take p.told).length o
    rw [List.length_take, Nat.min_eq_left told.1]; exact told.2
   ·show o.map _ = (qg l (qE (qi l) spc + 1).toNat).reverse
    rw [hi, e1, show ((e : Int) + 1).toNat = e + 1 by omega, jw, e4]
    unfold qt
    rw [if_neg (by rw [e3]; decide), if_pos (by rw [e3]; decide)]
    exact (kC hstk).2
   ·show (zK V).2.lv.length = o.length + 1
    rw [hk.2, List.length_tail, hlv]; simp
 ·rw [if_neg h]
  exact U5 F sopn _ V (qg l i) (Ye i) hstk G.gb G.pts G.told G.lv G.good (Nat.le_refl _) rfl rfl rfl
end Go.Proofs.YtdlfmpmpmkffjaaGreatDoor
namespace Go.Proofs.YtdlfmpmpmkffjaaGreatDoor
open Go Go.Ae
set_option maxRecDepth 100000
variable {g h : AH} {L R : List SP}
theorem xV {b off n sz a : Nat} {k : IntKind} {K : AV → Go.Ae.R} {Q : AV → AH → Prop} (ha : a < n) (w : wp (K (.ptr b (off + a * sz))) Q) : wp (yl (.ptr b off) (.int k (a : Int)) n sz K) Q := by
 unfold yl
 show wp (bif Nat.ble (a + 1) n then _ else none) Q
 rw [Nat.ble_eq_true_of_le (show a + 1 ≤ n from ha)]
 exact w
theorem ZL {z : Int} (h0 : 0 ≤ z) : ∃ a : Nat, z.tmod ((8 : Nat) : Int) = a ∧ a < 8 ∧ (z < 8 → z = a) := by
 refine ⟨(z % 8).toNat, ?_, by omega, fun h => by omega⟩
 rw [Int.tmod_eq_emod_of_nonneg h0]; omega
def Kh (r : List Int) : List AV := [.int .u64 (qE r 0), .int .u64 (qE r 1), .int .u64 (qE r 2), .int .u64 (qE r 3), .int .u64 (qE r 4), .int .u64 (qE r 5), .int .u64 (qE r 6), .int .u64 (qE r 7)]
def xN (p : PtM) : List AV := [.int .i64 p.op, .int .i64 p.pc, .int .u64 (qE p.regs 0), .int .u64 (qE p.regs 1), .int .u64 (qE p.regs 2), .int .u64 (qE p.regs 3), .int .u64 (qE p.regs 4), .int .u64 (qE p.regs 5), .int .u64 (qE p.regs 6), .int .u64 (qE p.regs 7), .int .i64 (p.told : Int)]
def yM (c mv ov : AV) (v o : Nat) (bad err fin left nx pc : Int) (r : List Int) : List AV :=
 [c, .ptr v 0, mv, .int .i64 bad, .int .i64 err, .int .i64 fin, .int .u64 (qE r 0), .int .u64 (qE r 1), .int .u64 (qE r 2), .int .u64 (qE r 3), .int .u64 (qE r 4), .int .u64 (qE r 5), .int .u64 (qE r 6), .int .u64 (qE r 7),
  .ptr o 0, .int .i64 pc, .int .i64 nx, .int .i64 left, ov]
section
variable {c mv ov : AV} {v o : Nat} {bad err fin left nx pc : Int} {r : List Int}
theorem QB {a : Nat} (ha : a < 8) : (yM c mv ov v o bad err fin left nx pc r)[6 + a * 1]? = some (.int .u64 (qE r (a : Int))) := by
 rcases (show a = 0 ∨ a = 1 ∨ a = 2 ∨ a = 3 ∨ a = 4 ∨ a = 5 ∨ a = 6 ∨ a = 7 by omega) with rfl | rfl | rfl | rfl | rfl | rfl | rfl | rfl <;> rfl
theorem GG {i k : Nat} {z : Int} (hi : i < r.length) : qE (r.set i z) (k : Int) = if i = k then z else qE r (k : Int) := by
 unfold qE
 rw [Int.toNat_natCast, List.getElem?_set]
 split
 ·rename_i h; subst h; simp [hi]
 ·rfl
theorem qZD {a : Nat} {z : Int} (hr : r.length = 8) (ha : a < 8) : (yM c mv ov v o bad err fin left nx pc r).set (6 + a * 1) (.int .u64 z) = yM c mv ov v o bad err fin left nx pc (r.set a z) := by
 have hs := fun k : Nat => GG (r := r) (i := a) (k := k) (z := z) (by omega)
 have e0 := hs 0; have e1 := hs 1; have e2 := hs 2; have e3 := hs 3; have e4 := hs 4; have e5 := hs 5; have e6 := hs 6; have e7 := hs 7
 simp only [Int.ofNat_eq_natCast, show ((0 : Nat) : Int) = 0 from rfl, show ((1 : Nat) : Int) = 1 from rfl, show ((2 : Nat) : Int) = 2 from rfl, show ((3 : Nat) : Int) = 3 from rfl, show ((4 : Nat) : Int) = 4 from rfl, show ((5 : Nat) : Int) = 5 from rfl, show ((6 : Nat) : Int) = 6 from rfl, show ((7 : Nat) : Int) = 7 from rfl] at e0 e1 e2 e3 e4 e5 e6 e7
 unfold yM
 rw [e0, e1, e2, e3, e4, e5, e6, e7]
 rcases (show a = 0 ∨ a = 1 ∨ a = 2 ∨ a = 3 ∨ a = 4 ∨ a = 5 ∨ a = 6 ∨ a = 7 by omega) with rfl | rfl | rfl | rfl | rfl | rfl | rfl | rfl <;> rfl
end
def IntC (x v : Nat) (l : List qM) (bad : Int) (mt : List Int) (s : IM) (err fin left nx : Int) : SP := .ex fun c => .ex fun mv => .ex fun ov => .ex fun o => .all
 [qw x (yM c mv ov v o bad err fin left nx s.pc s.regs), qz 28 5 l.length c (l.flatMap qe), qz 3 1 mt.length mv (mt.map (.int .i64)), SlaC o s.out, qz 195 11 s.opn.length ov (s.opn.reverse.flatMap xN)]
section
variable {x v : Nat} {l : List qM} {bad : Int} {mt : List Int} {s : IM} {err fin left nx : Int}
theorem IntC.E (H : HS g h (IntC x v l bad mt s err fin left nx :: R)) : ∃ c mv ov o, HS g h (qw x (yM c mv ov v o bad err fin left nx s.pc s.regs) :: qz 28 5 l.length c (l.flatMap qe) :: qz 3 1 mt.length mv (mt.map (.int .i64)) :: SlaC o s.out ::
  qz 195 11 s.opn.length ov (s.opn.reverse.flatMap xN) :: R) := by
 obtain ⟨c, H⟩ := H.exE
 obtain ⟨mv, H⟩ := H.exE
 obtain ⟨ov, H⟩ := H.exE
 obtain ⟨o, H⟩ := H.exE
 exact ⟨c, mv, ov, o, H.allE⟩
theorem IntC.I {c mv ov : AV} {o : Nat} (H : HS g h (qw x (yM c mv ov v o bad err fin left nx s.pc s.regs) :: qz 28 5 l.length c (l.flatMap qe) :: qz 3 1 mt.length mv (mt.map (.int .i64)) :: SlaC o s.out ::
  qz 195 11 s.opn.length ov (s.opn.reverse.flatMap xN) :: R)) : HS g h (IntC x v l bad mt s err fin left nx :: R) :=
 HS.exI c (HS.exI mv (HS.exI ov (HS.exI o H.allI)))
theorem qJ6 {n o : Nat} (hn : 1 ≤ n) {l : List ItT} (H : HS g h (SlaC o l :: R)) : wp (callT tab qA n (.fn 200 [] []) [.ptr o 0] h) fun r h' => r = .int .i64 (l.length : Int) ∧ h' = h := by
 (refine qP (g := (tD1 S200)) rfl (by omega) fun k hk => ?_; show wp (S200 (callT tab qA k) _ _).1 _; unfold S200; try simp only [ Int.ofNat_eq_natCast])
 obtain ⟨sv, H⟩ := SlaC.E H
 with_reducible (refine qq ?_; refine qJ ?_; refine qG (by assumption) .here rfl ?_; refine qd (by assumption) e_1 ?_)
 exact qW ⟨rfl, rfl⟩
theorem qZ2 {n o : Nat} (hn : 1 ≤ n) {l : List ItT} {x : ItT} (H : HS g h (SlaC o l :: R)) (hl : l.length ≤ 16) :
  wp (callT tab qA n (.fn 112 [] []) [.ptr o 0, gL x] h) fun r h' => r = .bool (decide (l.length < 16)) ∧ HS g h' (SlaC o (if l.length < 16 then l ++ [x] else l) :: R) := by
 (refine qP (g := (tD2 S112)) rfl (by omega) fun k hk => ?_; show wp (S112 (callT tab qA k) _ _ _).1 _; unfold S112; try simp only [ Int.ofNat_eq_natCast])
 obtain ⟨sv, H⟩ := SlaC.E H
 by_cases h1 : l.length < 16
 ·rw [if_pos h1, decide_eq_true h1]
  with_reducible (refine qq ?_; refine qJ ?_; refine qG (by assumption) .here rfl ?_; refine qd (by assumption) e_1 ?_; refine jQ (by omega) ?_; refine qQ ?_; refine qq ?_; refine qJ ?_; refine qG (by assumption) .here rfl ?_)
  refine qf (n := 1) (l := [gL x]) (sz := 1) H rfl rfl (by
   have e := (kH x).1
   simp only [yd, e, yw]; rfl) (xK (kH x)) fun v2 h2 H2 => ?_
  refine je (H2.sel e_2) (H2.sl .here) (by omega) (by omega) (xK (kH x)) fun v3 h3 H3 => ?_
  have o3 := H3.one .here
  refine qq ?_; refine qJ ?_
  refine qc H3 (b := o) e_2 o3 (by simp) fun h4 H4 => ?_
  refine qW ⟨rfl, SlaC.I (sv := v3) ?_⟩
  rw [List.length_append, List.map_append]
  exact H4.sub (.cons .here (.cons .here (.drop .refl)))
 ·rw [if_neg h1, decide_eq_false h1]
  with_reducible (refine qq ?_; refine qJ ?_; refine qG (by assumption) .here rfl ?_; refine qd (by assumption) e_1 ?_; refine jV (by omega) ?_; refine qV ?_)
  exact qW ⟨rfl, SlaC.I H⟩
theorem qXP {n o : Nat} (hn : 2 ≤ n) {l : List ItT} {u : Int} (H : HS g h (SlaC o l :: R)) (hl : l.length ≤ 16) :
  wp (callT tab qA n (.fn 84 [] []) [.ptr o 0, .int .u64 u] h) fun r h' => r = .bool (decide (l.length < 16)) ∧ HS g h' (SlaC o (if l.length < 16 then l ++ [(1, u)] else l) :: R) := by
 (refine qP (g := (tD2 S84)) rfl (by omega) fun k hk => ?_; show wp (S84 (callT tab qA k) _ _ _).1 _; unfold S84; try simp only [ Int.ofNat_eq_natCast])
 refine qY (qZ2 (x := (1, u)) (by omega) H hl) ?_
 rintro _ h2 ⟨rfl, H2⟩
 exact qW ⟨rfl, H2⟩
theorem GF {n m : Nat} (hn : 1 ≤ n) {e : TypeId} {v : AV} {xs : List AV} (H : HS g h L) (s : Sel L (qz e 1 m v xs) R) (ha : q9 xs = true) (hm : m ≤ 1000000) :
  wp (callT tab qA n (.fn 88 [] []) [v] h) fun r h' => HS g h' (qz 20 1 m r xs :: L) := by
 (refine qP (g := (tD1 S88)) rfl (by omega) fun k hk => ?_; show wp (S88 (callT tab qA k) _ _).1 _; unfold S88; try simp only [ Int.ofNat_eq_natCast])
 refine Mv H s (fun h1 h2 => ?_) ?_
 ·subst h1 h2
  have hx : xs = [] := List.eq_nil_of_length_eq_zero (by simpa using H.sl_len s)
  subst hx
  exact qV (qW H.nils)
 ·refine qQ ?_
  refine qf (n := 0) (l := []) (sz := 1) H rfl rfl rfl rfl fun v2 h2 H2 => ?_
  refine je H2 (H2.sl (.there s)) (by omega) (by omega) ha fun v3 h3 H3 => ?_
  rw [Nat.zero_add, List.nil_append] at H3
  exact qW H3
theorem qQh {n o : Nat} (hn : 2 ≤ n) {l : List ItT} (H : HS g h (SlaC o l :: R)) (hl : l.length ≤ 16) :
  wp (callT tab qA n (.fn 53 [] []) [.ptr o 0] h) fun r h' => ∃ p, r = .ptr p 0 ∧ HS g h' (SlaC p l :: SlaC o l :: R) := by
 (refine qP (g := (tD1 S53)) rfl (by omega) fun k hk => ?_; show wp (S53 (callT tab qA k) _ _).1 _; unfold S53; try simp only [ Int.ofNat_eq_natCast])
 obtain ⟨sv, H⟩ := SlaC.E H
 with_reducible (refine qq ?_; refine qJ ?_; refine qG (by assumption) .here rfl ?_)
 refine qY (GF (by omega) H e_1 (Xk l) (by omega)) ?_
 intro cv h2 H2
 have oc := H2.one .here
 refine qF (l := [cv]) (by simp only [yd, oc.1]; rfl) ?_
 refine qU H2 (xK oc) fun p h3 H3 => qW ⟨p, rfl, ?_⟩
 have H4 := SlaC.I (o := p) (l := l) (sv := cv) (R := qw o [sv] :: qz 20 1 l.length sv (l.map gL) :: R) H3
 exact HS.unsel e_1 (SlaC.I (o := o) (l := l) (sv := sv) (R := SlaC p l :: R) (H4.sub (.cons e_1 (.cons e_1 (.cons .here .refl)))))
theorem qXN {n o m : Nat} (hn : 2 ≤ n) {l : List ItT} (H : HS g h (SlaC o l :: R)) (hl : l.length ≤ 16) (hm : m ≤ l.length) :
  wp (callT tab qA n (.fn 202 [] []) [.ptr o 0, .int .i64 (m : Int)] h) fun _ h' => HS g h' (SlaC o (l.take m) :: R) := by
 (refine qP (g := (tD2 S202)) rfl (by omega) fun k hk => ?_; show wp (S202 (callT tab qA k) _ _ _).1 _; unfold S202; try simp only [ Int.ofNat_eq_natCast])
 obtain ⟨sv, H⟩ := SlaC.E H
 with_reducible (refine qq ?_; refine qJ ?_; refine qG (by assumption) .here rfl ?_; refine qq ?_; refine qJ ?_; refine qG (by assumption) .here rfl ?_; refine qd (by assumption) e_1 ?_; refine zx ?_; refine zg ?_)
 rw [show max ((0 : Nat) : Int) (min (m : Int) (l.length : Int)) = (m : Int) by omega]
 refine yx (H.sel e_1) (by omega) hm fun v2 H2 => ?_
 rw [Nat.mul_one, ← List.map_take] at H2
 refine qY (GF (by omega) H2 .here (Xk _) (by omega)) ?_
 intro cv h3 H3
 have oc := H3.one .here
 refine qq ?_; refine qJ ?_
 refine qc H3 (b := o) e_2 oc (by simp) fun h4 H4 => ?_
 refine qW (SlaC.I (sv := cv) ?_)
 rw [show (l.take m).length = m by simp; omega]
 exact H4.sub (.cons .here (.cons .here (.drop .refl)))
theorem Gg {n : Nat} (hn : 1 ≤ n) {p : Prop} [Decidable p] : wp (callT tab qA n (.fn 83 [] []) [.bool (decide p)] h) fun r h' => r = .int .u64 (vY p) ∧ h' = h := by
 (refine qP (g := (tD1 S83)) rfl (by omega) fun k hk => ?_; show wp (S83 (callT tab qA k) _ _).1 _; unfold S83; try simp only [ Int.ofNat_eq_natCast])
 unfold vY
 by_cases hp : p
 ·rw [decide_eq_true hp, if_pos hp]
  exact qV (qW ⟨rfl, rfl⟩)
 ·rw [decide_eq_false hp, if_neg hp]
  exact qQ (qW ⟨rfl, rfl⟩)
theorem UI {n : Nat} (hn : 1 ≤ n) {e : Int} (H : HS g h (IntC x v l bad mt s err fin left nx :: R)) :
  wp (callT tab qA n (.fn 50 [] []) [.ptr x 0, .int .i64 e] h) fun _ h' => HS g h' (IntC x v l bad mt s e 4 left nx :: R) := by
 (refine qP (g := (tD2 S50)) rfl (by omega) fun k hk => ?_; show wp (S50 (callT tab qA k) _ _ _).1 _; unfold S50; try simp only [ Int.ofNat_eq_natCast])
 obtain ⟨c, mv, ov, o, H⟩ := IntC.E H
 unfold yM at H
 refine qq ?_; refine qJ ?_
 refine qc H (b := x) .here ⟨rfl, rfl⟩ (by simp) fun h1 H1 => ?_
 refine qq ?_; refine qJ ?_
 refine qc H1 (b := x) .here ⟨rfl, rfl⟩ (by simp) fun h2 H2 => ?_
 exact qW (IntC.I H2)
theorem qJh {n : Nat} (hn : 1 ≤ n) (H : HS g h (IntC x v l bad mt s err fin left nx :: R)) : wp (callT tab qA n (.fn 21 [] []) [.ptr x 0] h) fun r h' => r = .int .i64 err ∧ h' = h := by
 (refine qP (g := (tD1 S21)) rfl (by omega) fun k hk => ?_; show wp (S21 (callT tab qA k) _ _).1 _; unfold S21; try simp only [ Int.ofNat_eq_natCast])
 obtain ⟨c, mv, ov, o, H⟩ := IntC.E H
 unfold yM at H
 with_reducible (refine qq ?_; refine qJ ?_; refine qG (by assumption) .here rfl ?_)
 exact qW ⟨rfl, rfl⟩
theorem Nn {n : Nat} (hn : 3 ≤ n) (H : HS g h (IntC x v l bad mt s err fin left nx :: R)) (hl : s.out.length ≤ 16) :
  wp (callT tab qA n (.fn 16 [] []) [.ptr x 0] h) fun r h' => ∃ p, r = .ptr p 0 ∧ HS g h' (SlaC p s.out :: IntC x v l bad mt s err fin left nx :: R) := by
 (refine qP (g := (tD1 S16)) rfl (by omega) fun k hk => ?_; show wp (S16 (callT tab qA k) _ _).1 _; unfold S16; try simp only [ Int.ofNat_eq_natCast])
 obtain ⟨c, mv, ov, o, H⟩ := IntC.E H
 unfold yM at H
 with_reducible (refine qq ?_; refine qJ ?_; refine qG (by assumption) .here rfl ?_)
 refine qY (qQh (by omega) (H.sel (P := SlaC o s.out) e_3) hl) ?_
 rintro _ h2 ⟨p, rfl, H2⟩
 refine qW ⟨p, rfl, ?_⟩
 exact HS.unsel e_1 (IntC.I (c := c) (mv := mv) (ov := ov) (o := o) (R := SlaC p s.out :: R) (H2.sub (.cons e_2 (.cons e_2 (.cons e_2 (.cons e_1 (.cons e_1 .refl)))))))
theorem Y5 {n : Nat} (hn : 1 ≤ n) {b off : Int} (hb : 0 ≤ b ∧ b < 18446744073709551616) (ho : 0 ≤ off ∧ off ≤ 100) : wp (callT tab qA n (.fn 127 [] []) [.int .u64 b, .int .i64 off] h) fun r h' => r = .tup [.int .i64 (jm b off).1, .int .i64 (jm b off).2] ∧ h' = h := by
 (refine qP (g := (tD2 S127)) rfl (by omega) fun k hk => ?_; show wp (S127 (callT tab qA k) _ _ _).1 _; unfold S127; try simp only [ Int.ofNat_eq_natCast])
 unfold jm
 by_cases h1 : 2147483648 ≤ b
 ·rw [if_pos (.inl h1)]
  with_reducible (refine jV (by omega) ?_; refine qX ?_; (try dsimp only); refine qS ?_; (try dsimp only); refine qC ?_; refine qX ?_; (try dsimp only); refine qS ?_; (try dsimp only); refine qC ?_; refine qV ?_)
  exact qW ⟨rfl, rfl⟩
 ·refine jQ (by omega) ?_
  with_reducible (refine qX ?_; (try dsimp only); refine qB ?_; (try dsimp only); refine jI (by omega) ?_; refine qD (by omega) ?_)
  by_cases h2 : 2147483648 ≤ b + off
  ·rw [if_pos (.inr (.inl h2))]
   refine jV (by omega) ?_
   with_reducible (refine qv ?_; refine qX ?_; (try dsimp only); refine qS ?_; (try dsimp only); refine qC ?_; refine qV ?_)
   exact qW ⟨rfl, rfl⟩
  ·refine jQ (by omega) ?_
   with_reducible (refine qv ?_; refine qX ?_; (try dsimp only); refine qB ?_; (try dsimp only); refine jI (by omega) ?_; refine qD (by omega) ?_)
   by_cases h3 : b + off < 6
   ·rw [if_pos (.inr (.inr h3))]
    refine jC (by omega) ?_
    refine qv ?_; refine qV ?_
    exact qW ⟨rfl, rfl⟩
   ·rw [if_neg (by omega)]
    refine jv (by omega) ?_
    with_reducible (refine qv ?_; refine qQ ?_; refine jI (by omega) ?_; refine qD (by omega) ?_)
    exact qW ⟨rfl, rfl⟩
theorem KR {most : Nat} {lv : List LvM} {p z : Int} (h : ¬ (xH most lv p z).1 = 0) : (xH most lv p z).2 = lv := by
 cases lv with
 | nil => rfl
 | cons y r =>
  unfold xH at h ⊢
  dsimp only at h ⊢
  split
  ·rfl
  ·rename_i h1
   rw [if_neg h1] at h
   split
   ·rfl
   ·rename_i h2
    rw [if_neg h2] at h
    exact absurd rfl h
theorem NY {n : Nat} (hn : 6 ≤ n) {v : Nat} {M : VM} {p z : Int} (H : HS g h (ViewC v M :: R)) (O : OkV M) :
  wp (callT tab qA n (.fn 128 [] []) [.ptr v 0, .int .i64 p, .int .u64 z] h) fun r h' => r = .int .i64 (jU M [(p, z)]).1 ∧ HS g h' (ViewC v (jU M [(p, z)]).2 :: R) := by
 (refine qP (g := (tD3 S128)) rfl (by omega) fun k hk => ?_; show wp (S128 (callT tab qA k) _ _ _ _).1 _; unfold S128; try simp only [ Int.ofNat_eq_natCast])
 refine qY (KK (by omega) H) ?_
 rintro _ _ ⟨rfl, rfl⟩
 by_cases hp : 1 ≤ p ∧ p < M.sz
 ·rw [decide_eq_true hp]
  obtain ⟨fv, ov, q, e, H⟩ := ViewC.E H
  with_reducible (refine qo ?_; refine qQ ?_; refine qq ?_; refine qJ ?_; refine qG (by assumption) .here rfl ?_)
  refine qY (Mq (by omega) (H.sel (P := LgC q M.most M.lv) e_3) O.lvs) ?_
  rintro _ h2 ⟨rfl, H2⟩
  have e2 : jU M [(p, z)] = ((xH M.most M.lv p z).1, { M with lv := (xH M.most M.lv p z).2 }) := by
   unfold jU
   rw [if_pos (by intro c hc; rw [List.mem_singleton] at hc; subst hc; exact hp), xl]
   split
   ·rename_i h0; rw [h0]; rfl
   ·rename_i h0
    have hx := KR h0
    rw [hx]
  rw [e2]
  exact qW ⟨rfl, ViewC.I (M := { M with lv := (xH M.most M.lv p z).2 }) (fv := fv) (ov := ov) (q := q) (e := e) (H2.sub (.cons e_1 (.cons e_1 (.cons e_1 (.refl)))))⟩
 ·rw [decide_eq_false hp]
  have e2 : jU M [(p, z)] = (2, M) := by
   unfold jU
   rw [if_neg (fun hh => hp (hh (p, z) (List.mem_singleton_self _)))]
  rw [e2]
  refine jq ?_; refine qV ?_
  exact qW ⟨rfl, H⟩
end
end Go.Proofs.YtdlfmpmpmkffjaaGreatDoor
namespace Go.Proofs.YtdlfmpmpmkffjaaGreatDoor
open Go Go.Ae
set_option maxRecDepth 100000
variable {g h : AH} {L R : List SP}
section
variable {x v : Nat} {l : List qM} {bad : Int} {mt : List Int} {s : IM} {err fin left nx : Int}
theorem qJU (o : List PtM) : (o.reverse.flatMap xN).length = o.length * 11 := by rw [xm (sz := 11) _ (fun _ => rfl), List.length_reverse]
theorem ZY (p : PtM) : q9 (xN p) = true := rfl
theorem GW (p : PtM) (o : List PtM) : (p :: o).reverse.flatMap xN = o.reverse.flatMap xN ++ xN p := by
 rw [List.reverse_cons, List.flatMap_append]; simp
theorem kM {n : Nat} (hn : 1 ≤ n) {p : PtM} {o : List PtM} (ho : s.opn = p :: o) (hlo : o.length ≤ 100) (H : HS g h (IntC x v l bad mt s err fin left nx :: R)) :
  wp (callT tab qA n (.fn 132 [] []) [.ptr x 0] h) fun r h' => r = .agg (xN p) ∧ HS g h' (IntC x v l bad mt { s with opn := o } err fin left nx :: R) := by
 (refine qP (g := (tD1 S132)) rfl (by omega) fun k hk => ?_; show wp (S132 (callT tab qA k) _ _).1 _; unfold S132; try simp only [ Int.ofNat_eq_natCast])
 obtain ⟨c, mv, ov, q, H⟩ := IntC.E H
 rw [ho, GW, List.length_cons] at H
 have hol := qJU o
 generalize hA : o.reverse.flatMap xN = A at *
 unfold yM at H
 refine qU H rfl fun b0 h1 H1 => ?_
 clear H
 with_reducible (refine qq ?_; refine qJ ?_; refine qG (by assumption) e_1 rfl ?_; refine qq ?_; refine qJ ?_; refine qG (by assumption) e_1 rfl ?_; refine qd (by assumption) e_5 ?_; refine qb (by omega) ?_)
 rw [show ((o.length + 1 : Nat) : Int) - ((1 : Nat) : Int) = (o.length : Int) by omega]
 refine zJ (l := xN p) (H1.sl e_5) (i := o.length) (by omega) (by omega) (by
  rw [List.drop_append_of_le_length (by omega), List.drop_of_length_le (by omega), List.nil_append]; rfl) ?_
 refine qU H1 rfl fun b2 h3 H3 => jG H3 .here rfl (by show 0 + 11 ≤ 11; omega) rfl fun h4 H4 => ?_
 have H5 : HS g h4 (qw b2 (xN p) :: qw b0 [.int .i64 ((0 : Nat) : Int), .int .i64 ((0 : Nat) : Int), .int .u64 ((0 : Nat) : Int), .int .u64 ((0 : Nat) : Int), .int .u64 ((0 : Nat) : Int), .int .u64 ((0 : Nat) : Int), .int .u64 ((0 : Nat) : Int), .int .u64 ((0 : Nat) : Int), .int .u64 ((0 : Nat) : Int), .int .u64 ((0 : Nat) : Int), .int .i64 ((0 : Nat) : Int)] ::
  qw x (yM c mv ov v q bad err fin left nx s.pc s.regs) :: qz 28 5 l.length c (l.flatMap qe) :: qz 3 1 mt.length mv (mt.map (.int .i64)) :: SlaC q s.out ::
  qz 195 11 (o.length + 1) ov (A ++ xN p) :: R) := H4
 clear H1 H3 H4
 unfold yM at H5
 with_reducible (refine qq ?_; refine qJ ?_; refine qG (by assumption) e_2 rfl ?_; refine qq ?_; refine qJ ?_; refine qG (by assumption) e_2 rfl ?_; refine qd (by assumption) e_6 ?_; refine qb (by omega) ?_)
 rw [show ((o.length + 1 : Nat) : Int) - ((1 : Nat) : Int) = (o.length : Int) by omega]
 refine yx (hi := o.length) (H5.sel e_6) (by omega) (by omega) fun v6 H6 => ?_
 rw [List.take_append_of_le_length (by omega), List.take_of_length_le (by omega)] at H6
 have o6 := H6.one .here
 clear H5
 refine qq ?_; refine qJ ?_
 refine qc H6 (b := x) e_3 o6 (by simp) fun h7 H7 => ?_
 refine qh H7 (b := b2) (off := 0) e_2 rfl (by omega) (l := xN p) rfl ?_
 refine jG H7 (b := b0) e_3 rfl (by show 0 + 11 ≤ 11; omega) rfl fun h8 H8 => ?_
 have H8 : HS g h8 (qw b0 (xN p) :: qw x (yM c mv v6 v q bad err fin left nx s.pc s.regs) :: qz 195 11 o.length v6 A :: qw b2 (xN p) ::
  qz 28 5 l.length c (l.flatMap qe) :: qz 3 1 mt.length mv (mt.map (.int .i64)) :: SlaC q s.out :: R) := H8
 refine qh H8 (b := b0) (off := 0) .here rfl (by omega) (l := xN p) rfl ?_
 refine qW ⟨rfl, IntC.I (s := { s with opn := o }) (c := c) (mv := mv) (ov := v6) (o := q) ?_⟩
 show HS g h8 (qw x (yM c mv v6 v q bad err fin left nx s.pc s.regs) :: qz 28 5 l.length c (l.flatMap qe) :: qz 3 1 mt.length mv (mt.map (.int .i64)) :: SlaC q s.out ::
  qz 195 11 o.length v6 (o.reverse.flatMap xN) :: R)
 rw [hA]
 exact H8.sub (.cons e_1 (.cons e_3 (.cons e_3 (.cons e_3 (.cons e_1 (.drop (.drop .refl)))))))
theorem UC {n : Nat} (hn : 3 ≤ n) {p : PtM} (ht : p.told ≤ s.out.length) (hl : s.out.length ≤ 16) (H : HS g h (IntC x v l bad mt s err fin left nx :: R)) :
  wp (callT tab qA n (.fn 134 [] []) [.ptr x 0, .agg (xN p)] h) fun _ h' => HS g h' (IntC x v l bad mt (yC s p) err fin left nx :: R) := by
 (refine qP (g := (tD2 S134)) rfl (by omega) fun k hk => ?_; show wp (S134 (callT tab qA k) _ _ _).1 _; unfold S134; try simp only [ Int.ofNat_eq_natCast])
 refine qU H (ZY p) fun b0 h1 H1 => ?_
 obtain ⟨c, mv, ov, q, H2⟩ := IntC.E (H1.sel (P := IntC x v l bad mt s err fin left nx) e_1)
 clear H H1
 refine qJ ?_
 refine qh H2 (b := b0) (off := 2) e_5 rfl (by omega) (l := Kh p.regs) rfl ?_
 refine qq (qJ ?_)
 refine jG H2 (b := x) .here rfl (by show 6 + 8 ≤ 19; omega) rfl fun h3 H3 => ?_
 have H3 : HS g h3 (qw x (yM c mv ov v q bad err fin left nx s.pc p.regs) :: qz 28 5 l.length c (l.flatMap qe) :: qz 3 1 mt.length mv (mt.map (.int .i64)) :: SlaC q s.out ::
  qz 195 11 s.opn.length ov (s.opn.reverse.flatMap xN) :: qw b0 (xN p) :: R) := H3
 clear H2
 have H4 := H3
 unfold yM xN at H4
 with_reducible (refine qq ?_; refine qJ ?_; refine qG (by assumption) .here rfl ?_; refine qJ ?_; refine qG (by assumption) e_5 rfl ?_)
 refine qY (qXN (by omega) (H3.sel (P := SlaC q s.out) e_3) hl ht) ?_
 intro _ h5 H5
 clear H4 H3
 exact qW (IntC.I (s := yC s p) (c := c) (mv := mv) (ov := ov) (o := q) (H5.sub (.cons e_1 (.cons e_1 (.cons e_1 (.cons .here (.cons .here (.drop .refl))))))))
theorem Ym {n : Nat} (hn : 5 ≤ n) {op at_ nx0 : Int} {V : VM} (O : OkV V) (hlo : s.opn.length ≤ 100) (H : HS g h (IntC x v l bad mt s err fin left nx :: ViewC v V :: R)) :
  wp (callT tab qA n (.fn 131 [] []) [.ptr x 0, .int .i64 op, .int .i64 at_] h) fun r h' => r = .int .i64 (jn op at_ nx0 s V).e ∧ HS g h' (IntC x v l bad mt (jn op at_ nx0 s V).s err fin left nx :: ViewC v (jn op at_ nx0 s V).v :: R) := by
 (refine qP (g := (tD3 S131)) rfl (by omega) fun k hk => ?_; show wp (S131 (callT tab qA k) _ _ _ _).1 _; unfold S131; try simp only [ Int.ofNat_eq_natCast])
 obtain ⟨c, mv, ov, q, H⟩ := IntC.E H
 unfold yM at H
 with_reducible (refine qq ?_; refine qJ ?_; refine qG (by assumption) .here rfl ?_)
 refine qY (qJC (by omega) (H.sel (P := ViewC v V) e_5) O) ?_
 rintro _ h2 ⟨rfl, H2⟩
 have H2 : HS g h2 (ViewC v (zp V).2 :: qw x (yM c mv ov v q bad err fin left nx s.pc s.regs) :: qz 28 5 l.length c (l.flatMap qe) :: qz 3 1 mt.length mv (mt.map (.int .i64)) :: SlaC q s.out ::
  qz 195 11 s.opn.length ov (s.opn.reverse.flatMap xN) :: R) := H2
 clear H
 unfold jn
 by_cases h0 : (zp V).1 = 0
 ·rw [if_pos h0]
  refine jj h0 (qQ ?_)
  have H3 := H2
  unfold yM at H3
  refine qX ?_
  try dsimp only
  refine qq (qJ ?_)
  refine qG H2 (b := x) e_1 rfl ?_
  refine qq (qJ ?_)
  refine qh H2 (b := x) (off := 6) e_1 rfl (by omega) (l := Kh s.regs) rfl ?_
  refine qq (qJ ?_)
  refine qG H2 (b := x) e_1 rfl ?_
  refine qY (qJ6 (by omega) (H2.sel (P := SlaC q s.out) e_4)) ?_
  rintro _ _ ⟨rfl, rfl⟩
  refine qF (l := xN ⟨op, at_, s.regs, s.out.length⟩) rfl ?_
  refine qf (n := 1) (l := xN ⟨op, at_, s.regs, s.out.length⟩) (sz := 11) H2 rfl rfl rfl rfl fun v4 h4 H4 => ?_
  refine je (H4.sel e_6) (H4.sl .here) (by omega) (by omega) rfl fun v5 h5 H5 => ?_
  have o5 := H5.one .here
  refine qq (qJ ?_)
  refine qc H5 (b := x) e_3 o5 (by show 18 < 19; omega) fun h6 H6 => ?_
  refine zt H2 (b := x) e_1 rfl H2 e_1 rfl rfl (by omega) (HS.lt H2 e_1) ?_
  refine jc H2 (b := x) e_1 rfl H2 e_1 rfl (HS.lt H2 e_1) ?_
  refine qW ⟨rfl, IntC.I (s := { s with opn := ⟨op, at_, s.regs, s.out.length⟩ :: s.opn }) (c := c) (mv := mv) (ov := v5) (o := q) ?_⟩
  show HS g h6 (qw x (yM c mv v5 v q bad err fin left nx s.pc s.regs) :: qz 28 5 l.length c (l.flatMap qe) :: qz 3 1 mt.length mv (mt.map (.int .i64)) :: SlaC q s.out ::
   qz 195 11 (s.opn.length + 1) v5 ((⟨op, at_, s.regs, s.out.length⟩ :: s.opn).reverse.flatMap xN) :: ViewC v (zp V).2 :: R)
  rw [GW]
  exact H6.sub (.cons .here (.cons e_3 (.cons e_3 (.cons e_3 (.cons .here (.drop .refl))))))
 ·rw [if_neg h0]
  refine jk h0 (qV ?_)
  exact qW ⟨rfl, IntC.I (s := s) (c := c) (mv := mv) (ov := ov) (o := q) (H2.sub (.cons e_1 (.cons e_1 (.cons e_1 (.cons e_1 (.cons e_1 .refl))))))⟩
end
end Go.Proofs.YtdlfmpmpmkffjaaGreatDoor
namespace Go.Proofs.YtdlfmpmpmkffjaaGreatDoor
open Go Go.Ae
set_option maxRecDepth 100000
variable {g h : AH} {L R : List SP}
section
variable {x v : Nat} {l : List qM} {bad : Int} {mt : List Int} {s : IM} {err fin left nx : Int}
def MtAt (mt : List Int) (p : Int) : Prop := ∃ k : Nat, p = k ∧ ∃ z : Int, mt[k]? = some z ∧ -1 ≤ z ∧ z ≤ 1000
theorem MtAt.num {mt : List Int} {p z : Int} {k : Nat} (h1 : p = k) (h2 : mt[k]? = some z) : qE mt p = z := by
 unfold qE; rw [h1, Int.toNat_natCast, h2]; rfl
theorem MtAt.idx {mt : List Int} {k : Nat} {z : Int} (h : mt[k]? = some z) : (mt.map (AV.int .i64))[k]? = some (.int .i64 z) ∧ k < mt.length := by
 refine ⟨by rw [List.getElem?_map, h]; rfl, (List.getElem?_eq_some_iff.1 h).1⟩
theorem NP {n : Nat} (hn : 8 ≤ n) {V : VM} (G : jT V) (hlo : s.opn.length ≤ 100) (hout : s.out.length ≤ 16) (told : ToldD s.out.length s.opn) (hm : ∀ p ∈ s.opn, p.op = 17 → MtAt mt p.pc) (hpc : 0 ≤ s.pc ∧ s.pc ≤ 100)
  (H : HS g h (IntC x v l bad mt s err 0 left (s.pc + 1) :: ViewC v V :: R)) :
  wp (callT tab qA n (.fn 136 [] []) [.ptr x 0] h) fun r h' => r = .int .i64 (zh mt s.opn s V).e ∧
   HS g h' (IntC x v l bad mt (zh mt s.opn s V).s err (if (zh mt s.opn s V).blk = true then 3 else 0) left (zh mt s.opn s V).nx :: ViewC v (zh mt s.opn s V).v :: R) := by
 (refine qP (g := (tD1 S136)) rfl (by omega) fun k hk => ?_; show wp (S136 (callT tab qA k) _ _).1 _; unfold S136; try simp only [ Int.ofNat_eq_natCast])
 generalize hD : zh mt s.opn s V = D
 have hs : s = { s with opn := s.opn } := rfl
 refine jz (fun m st h' => ∃ (o : List PtM) (V' : VM), st = (.ptr x 0, ()) ∧ m = o.length ∧ o.length ≤ 100 ∧ HS g h' (IntC x v l bad mt { s with opn := o } err 0 left (s.pc + 1) :: ViewC v V' :: R) ∧ jT V' ∧ ToldD s.out.length o ∧ (∀ p ∈ o, p.op = 17 → MtAt mt p.pc) ∧ zh mt o s V' = D)
  ?_ (m := s.opn.length) (by show _ < 1000000000; omega) ⟨s.opn, V, rfl, rfl, hlo, H, G, told, hm, hD⟩
 clear H G told hm hD hlo hs
 rintro m ih st h2 hih ⟨o, V, rfl, rfl, hlo, H, G, told, hm, hD⟩
 dsimp only
 obtain ⟨c, mv, ov, q, H1⟩ := IntC.E H
 have H1 : HS g h2 (qw x (yM c mv ov v q bad err 0 left (s.pc + 1) s.pc s.regs) :: qz 28 5 l.length c (l.flatMap qe) :: qz 3 1 mt.length mv (mt.map (.int .i64)) :: SlaC q s.out ::
  qz 195 11 o.length ov (o.reverse.flatMap xN) :: ViewC v V :: R) := H1
 refine qq (qJ (qG H1 (b := x) .here rfl ?_))
 refine qd H1 e_4 ?_
 cases o with
 | nil =>
  refine ja (by simp) (qQ ?_)
  refine qq (qJ (qG H1 (b := x) .here rfl ?_))
  refine qq (qJ ?_)
  refine qc H1 (b := x) .here ⟨rfl, rfl⟩ (by show 16 < 19; omega) fun h3 H3 => ?_
  refine qq (qJ ?_)
  refine qc H3 (b := x) .here ⟨rfl, rfl⟩ (by show 5 < 19; omega) fun h4 H4 => ?_
  subst hD
  exact qj (qW ⟨rfl, IntC.I (s := { s with opn := [] }) (c := c) (mv := mv) (ov := ov) (o := q) H4⟩)
 | cons p o =>
  refine jl (by rw [List.length_cons]; omega) (qV ?_)
  refine qY (kM (s := { s with opn := p :: o }) (p := p) (o := o) (by omega) rfl (by simp at hlo; omega) H) ?_
  rintro _ h3 ⟨rfl, H3⟩
  clear H H1
  refine qU H3 rfl fun b h4 H4 => jG H4 .here rfl (by show 0 + 11 ≤ 11; omega) rfl fun h5 H5 => ?_
  have H5 : HS g h5 (qw b (xN p) :: IntC x v l bad mt { s with opn := o } err 0 left (s.pc + 1) :: ViewC v V :: R) := H5
  clear H3 H4
  obtain ⟨c, mv, ov, q, H6⟩ := IntC.E (H5.sel (P := IntC x v l bad mt { s with opn := o } err 0 left (s.pc + 1)) e_1)
  have H6 : HS g h5 (qw x (yM c mv ov v q bad err 0 left (s.pc + 1) s.pc s.regs) :: qz 28 5 l.length c (l.flatMap qe) :: qz 3 1 mt.length mv (mt.map (.int .i64)) :: SlaC q s.out ::
   qz 195 11 o.length ov (o.reverse.flatMap xN) :: qw b (xN p) :: ViewC v V :: R) := H6
  refine qq (qJ (qG H6 (b := x) .here rfl ?_))
  clear H6
  refine qY (KE (by omega) (H5.sel (P := ViewC v V) e_2) G.ok) ?_
  rintro _ h6 ⟨rfl, H6⟩
  have GD := G.dropG
  clear H5
  unfold zh at hD
  by_cases h0 : (zK V).1 = 0
  ·rw [if_pos h0] at hD
   refine jj h0 (qQ ?_)
   refine qJ (qG H6 (b := b) e_1 rfl ?_)
   by_cases h17 : p.op = 17
   ·rw [if_pos h17] at hD
    refine qy h17 (qV ?_)
    refine qh H6 (b := b) (off := 0) e_1 rfl (by omega) (l := xN p) rfl ?_
    have H7 := H6.sub (L' := IntC x v l bad mt { s with opn := o } err 0 left (s.pc + 1) :: ViewC v (zK V).2 :: qw b (xN p) :: R) (.cons e_2 (.cons .here (.cons .here .refl)))
    refine qY (UC (s := { s with opn := o }) (p := p) (by omega) told.1 hout H7) ?_
    intro _ h8 H8
    clear H6 H7
    obtain ⟨c, mv, ov, q, H9⟩ := IntC.E H8
    have H9 : HS g h8 (qw x (yM c mv ov v q bad err 0 left (s.pc + 1) s.pc p.regs) :: qz 28 5 l.length c (l.flatMap qe) :: qz 3 1 mt.length mv (mt.map (.int .i64)) :: SlaC q (s.out.take p.told) ::
     qz 195 11 o.length ov (o.reverse.flatMap xN) :: ViewC v (zK V).2 :: qw b (xN p) :: R) := H9
    clear H8
    obtain ⟨kk, hk1, z, hk2, hk3, hk4⟩ := hm p (List.mem_cons_self ..) h17
    rw [MtAt.num hk1 hk2] at hD
    refine qq (qJ (qG H9 (b := x) .here rfl ?_))
    refine qJ (qG H9 (b := b) e_6 rfl ?_)
    rw [hk1]
    refine jF (H9.sl e_2) (MtAt.idx hk2).1 ?_
    refine qD (by omega) ?_
    refine qq (qJ ?_)
    refine qc H9 (b := x) .here ⟨rfl, rfl⟩ (by show 16 < 19; omega) fun h10 H10 => ?_
    have H11 : HS g h10 (IntC x v l bad mt { yC s p with opn := o } err 0 left (z + 1) :: ViewC v (zK V).2 :: qw b (xN p) :: R) := IntC.I (s := { yC s p with opn := o }) (c := c) (mv := mv) (ov := ov) (o := q) H10
    clear H9 H10
    refine qY (Ym (s := { yC s p with opn := o }) (nx0 := z + 1) (by omega) GD.1.ok (by simp at hlo; show o.length ≤ 100; omega) H11) ?_
    rintro _ h12 ⟨rfl, H12⟩
    subst hD
    have hb : (jn 18 z (z + 1) { yC s p with opn := o } (zK V).2).blk = false ∧ (jn 18 z (z + 1) { yC s p with opn := o } (zK V).2).nx = z + 1 := by unfold jn; split <;> exact ⟨rfl, rfl⟩
    refine qj (qW ⟨rfl, ?_⟩)
    rw [hb.1, hb.2]
    exact H12.sub (.cons .here (.cons .here (.drop .refl)))
   ·rw [if_neg h17] at hD
    refine qK h17 (qQ ?_)
    exact hih o.length _ _ (by simp) ⟨o, (zK V).2, rfl, rfl, by simp at hlo; omega, H6.sub (.cons e_2 (.cons .here (.drop .refl))), GD.1, told.tail, fun r hr => hm r (List.mem_cons_of_mem _ hr), hD⟩
  ·rw [if_neg h0] at hD
   refine jk h0 (qV ?_)
   subst hD
   exact qj (qW ⟨rfl, H6.sub (.cons e_2 (.cons .here (.drop .refl)))⟩)
theorem qQc {n : Nat} (hn : 9 ≤ n) {V : VM} {i : qM} (G : jT V) (hlo : s.opn.length ≤ 100) (hout : s.out.length ≤ 16) (told : ToldD s.out.length s.opn) (hm : ∀ p ∈ s.opn, p.op = 17 → MtAt mt p.pc) (hpc : 0 ≤ s.pc ∧ s.pc ≤ 100)
  (hne : i.1 = 15 ∨ i.1 = 19 ∨ i.1 = 18 ∨ i.1 = 16 → s.opn ≠ []) (hmt : i.1 = 18 ∨ i.1 = 16 → MtAt mt s.pc) (H : HS g h (IntC x v l bad mt s err 0 left (s.pc + 1) :: ViewC v V :: R)) :
  wp (callT tab qA n (.fn 87 [] []) [.ptr x 0, .agg (qe i)] h) fun r h' => r = .int .i64 (yW mt s V i.1).e ∧
   HS g h' (IntC x v l bad mt (yW mt s V i.1).s err (if (yW mt s V i.1).blk = true then 3 else 0) left (yW mt s V i.1).nx :: ViewC v (yW mt s V i.1).v :: R) := by
 (refine qP (g := (tD2 S87)) rfl (by omega) fun k hk => ?_; show wp (S87 (callT tab qA k) _ _ _).1 _; unfold S87; try simp only [ Int.ofNat_eq_natCast])
 refine qU H rfl fun b h1 H1 => ?_
 clear H
 have H1 : HS g h1 (qw b (qe i) :: IntC x v l bad mt s err 0 left (s.pc + 1) :: ViewC v V :: R) := H1
 refine qJ (qG H1 (b := b) .here rfl ?_)
 refine qX ?_
 try dsimp only
 unfold yW
 have HB := H1.sub (L' := IntC x v l bad mt s err 0 left (s.pc + 1) :: ViewC v V :: qw b (qe i) :: R) (.cons e_1 (.cons e_1 (.cons .here .refl)))
 by_cases c1 : i.1 = 14 ∨ i.1 = 17
 ·rw [if_pos c1]
  have key : wp (qa (.ptr b 0) 0 fun v8 => qm h1 v8 fun v9 => zd (.ptr x 0) fun v10 => qa v10 15 fun v11 => qm h1 v11 fun v12 =>
    jf (callT tab qA k) (.fn 131 [] []) [.ptr x 0, v9, v12] h1 fun v13 h14 => jB [] h14 fun h15 => some (v13, h15)) fun r h' => r = .int .i64 (jn i.1 s.pc (s.pc + 1) s V).e ∧
   HS g h' (IntC x v l bad mt (jn i.1 s.pc (s.pc + 1) s V).s err (if (jn i.1 s.pc (s.pc + 1) s V).blk = true then 3 else 0) left (jn i.1 s.pc (s.pc + 1) s V).nx :: ViewC v (jn i.1 s.pc (s.pc + 1) s V).v :: R) := by
   refine qJ (qG H1 (b := b) .here rfl ?_)
   obtain ⟨c, mv, ov, q, H2⟩ := IntC.E HB
   refine qq (qJ (qG H2 (b := x) .here rfl ?_))
   refine qY (Ym (nx0 := s.pc + 1) (by omega) G.ok hlo HB) ?_
   rintro _ h12 ⟨rfl, H12⟩
   have hb : (jn i.1 s.pc (s.pc + 1) s V).blk = false ∧ (jn i.1 s.pc (s.pc + 1) s V).nx = s.pc + 1 := by unfold jn; split <;> exact ⟨rfl, rfl⟩
   refine qj (qW ⟨rfl, ?_⟩)
   rw [hb.1, hb.2]
   exact H12.sub (.cons .here (.cons .here (.drop .refl)))
  by_cases c2 : i.1 = 14
  ·refine qy c2 (qV (qV ?_))
   exact key
  ·refine qK c2 (qQ ?_)
   refine qy (by omega) (qV ?_)
   exact key
 ·rw [if_neg c1]
  refine qK (by omega) (qQ ?_)
  refine qK (by omega) (qQ ?_)
  refine qX ?_
  try dsimp only
  by_cases c3 : i.1 = 15 ∨ i.1 = 19
  ·rw [if_pos c3]
   have key : wp (jf (callT tab qA k) (.fn 132 [] []) [.ptr x 0] h1 fun _ h21 => zd (.ptr x 0) fun v22 => qa v22 1 fun v23 => qm h21 v23 fun v24 =>
     jf (callT tab qA k) (.fn 133 [] []) [v24] h21 fun v25 h26 => jB [] h26 fun h27 => some (v25, h27)) fun r h' => r = .int .i64 (yX V).1 ∧
    HS g h' (IntC x v l bad mt { s with opn := s.opn.tail } err (if false = true then 3 else 0) left (s.pc + 1) :: ViewC v (yX V).2 :: R) := by
    obtain ⟨p, o, ho⟩ : ∃ p o, s.opn = p :: o := List.exists_cons_of_ne_nil (hne (by omega))
    refine qY (kM (p := p) (o := o) (by omega) ho (by rw [ho] at hlo; simp at hlo; omega) HB) ?_
    rintro _ h3 ⟨-, H3⟩
    obtain ⟨c, mv, ov, q, H4⟩ := IntC.E H3
    refine qq (qJ (qG H4 (b := x) .here rfl ?_))
    refine qY (Ue (by omega) (H3.sel (P := ViewC v V) e_1) G.ok) ?_
    rintro _ h5 ⟨rfl, H5⟩
    refine qj (qW ⟨rfl, ?_⟩)
    rw [ho]
    exact H5.sub (.cons e_1 (.cons .here (.drop .refl)))
   by_cases c4 : i.1 = 15
   ·refine qy c4 (qV (qV ?_))
    exact key
   ·refine qK c4 (qQ ?_)
    refine qy (by omega) (qV ?_)
    exact key
  ·rw [if_neg c3]
   refine qK (by omega) (qQ ?_)
   refine qK (by omega) (qQ ?_)
   by_cases c5 : i.1 = 18
   ·rw [if_pos c5]
    refine qy c5 (qV ?_)
    obtain ⟨p, o, ho⟩ : ∃ p o, s.opn = p :: o := List.exists_cons_of_ne_nil (hne (by omega))
    refine qY (kM (p := p) (o := o) (by omega) ho (by rw [ho] at hlo; simp at hlo; omega) HB) ?_
    rintro _ h3 ⟨-, H3⟩
    obtain ⟨c, mv, ov, q, H4⟩ := IntC.E H3
    have H4 : HS g h3 (qw x (yM c mv ov v q bad err 0 left (s.pc + 1) s.pc s.regs) :: qz 28 5 l.length c (l.flatMap qe) :: qz 3 1 mt.length mv (mt.map (.int .i64)) :: SlaC q s.out ::
     qz 195 11 o.length ov (o.reverse.flatMap xN) :: ViewC v V :: qw b (qe i) :: R) := H4
    obtain ⟨kk, hk1, z, hk2, hk3, hk4⟩ := hmt (.inl c5)
    rw [MtAt.num hk1 hk2, ho]
    refine qq (qJ (qG H4 (b := x) .here rfl ?_))
    refine qq (qJ (qG H4 (b := x) .here rfl ?_))
    rw [hk1]
    refine jF (H4.sl e_2) (MtAt.idx hk2).1 ?_
    refine qD (by omega) ?_
    refine qq (qJ ?_)
    rw [← hk1]
    refine qc H4 (b := x) .here ⟨rfl, rfl⟩ (by show 16 < 19; omega) fun h10 H10 => ?_
    refine qq (qJ (qG H10 (b := x) .here rfl ?_))
    have H11 : HS g h10 (IntC x v l bad mt { s with opn := o } err 0 left (z + 1) :: ViewC v V :: qw b (qe i) :: R) := IntC.I (s := { s with opn := o }) (c := c) (mv := mv) (ov := ov) (o := q) H10
    refine qY (Ue (by omega) (H11.sel (P := ViewC v V) e_1) G.ok) ?_
    rintro _ h5 ⟨rfl, H5⟩
    exact qj (qW ⟨rfl, H5.sub (.cons e_1 (.cons .here (.drop .refl)))⟩)
   ·rw [if_neg c5]
    refine qK c5 (qQ ?_)
    by_cases c6 : i.1 = 16
    ·rw [if_pos c6]
     refine qy c6 (qV ?_)
     obtain ⟨p, o, ho⟩ : ∃ p o, s.opn = p :: o := List.exists_cons_of_ne_nil (hne (by omega))
     refine qY (kM (p := p) (o := o) (by omega) ho (by rw [ho] at hlo; simp at hlo; omega) HB) ?_
     rintro _ h3 ⟨rfl, H3⟩
     rw [ho] at told
     refine qY (UC (s := { s with opn := o }) (p := p) (by omega) told.1 hout H3) ?_
     intro _ h4 H4'
     obtain ⟨c, mv, ov, q, H4⟩ := IntC.E H4'
     have H4 : HS g h4 (qw x (yM c mv ov v q bad err 0 left (s.pc + 1) s.pc p.regs) :: qz 28 5 l.length c (l.flatMap qe) :: qz 3 1 mt.length mv (mt.map (.int .i64)) :: SlaC q (s.out.take p.told) ::
      qz 195 11 o.length ov (o.reverse.flatMap xN) :: ViewC v V :: qw b (qe i) :: R) := H4
     obtain ⟨kk, hk1, z, hk2, hk3, hk4⟩ := hmt (.inr c6)
     rw [MtAt.num hk1 hk2, ho]
     refine qq (qJ (qG H4 (b := x) .here rfl ?_))
     refine qq (qJ (qG H4 (b := x) .here rfl ?_))
     rw [hk1]
     refine jF (H4.sl e_2) (MtAt.idx hk2).1 ?_
     refine qD (by omega) ?_
     refine qq (qJ ?_)
     refine qc H4 (b := x) .here ⟨rfl, rfl⟩ (by show 16 < 19; omega) fun h10 H10 => ?_
     refine qq (qJ (qG H10 (b := x) .here rfl ?_))
     have H11 : HS g h10 (IntC x v l bad mt { yC s p with opn := o } err 0 left (z + 1) :: ViewC v V :: qw b (qe i) :: R) := IntC.I (s := { yC s p with opn := o }) (c := c) (mv := mv) (ov := ov) (o := q) H10
     refine qY (KE (by omega) (H11.sel (P := ViewC v V) e_1) G.ok) ?_
     rintro _ h5 ⟨rfl, H5⟩
     exact qj (qW ⟨rfl, H5.sub (.cons e_1 (.cons .here (.drop .refl)))⟩)
    ·rw [if_neg c6]
     refine qK c6 (qQ ?_)
     refine qY (NP (by omega) G hlo hout told hm hpc HB) ?_
     rintro _ h3 ⟨rfl, H3⟩
     exact qj (qW ⟨rfl, H3.sub (.cons .here (.cons .here (.drop .refl)))⟩)
end
end Go.Proofs.YtdlfmpmpmkffjaaGreatDoor
namespace Go.Proofs.YtdlfmpmpmkffjaaGreatDoor
open Go Go.Ae
set_option maxRecDepth 100000
variable {g h : AH} {L R : List SP}
section
variable {x v : Nat} {l : List qM} {bad : Int} {mt : List Int} {s : IM} {err fin left nx : Int}
theorem VQ {c mv ov : AV} {q a : Nat} {z : Int} {ai : Int} (hr : s.regs.length = 8) (ha : a < 8) (hai : ai = a)
  (H : HS g h (qw x ((yM c mv ov v q bad err fin left nx s.pc s.regs).set (6 + a * 1) (.int .u64 z)) :: qz 28 5 l.length c (l.flatMap qe) :: qz 3 1 mt.length mv (mt.map (.int .i64)) :: SlaC q s.out ::
  qz 195 11 s.opn.length ov (s.opn.reverse.flatMap xN) :: R)) : HS g h (IntC x v l bad mt (setR s ai z) err fin left nx :: R) := by
 rw [qZD hr ha] at H
 have e : s.regs.set a z = (setR s ai z).regs := by unfold setR; rw [hai, Int.toNat_natCast]
 rw [e] at H
 exact IntC.I (s := setR s ai z) H
theorem Nq {n : Nat} (hn : 12 ≤ n) {V : VM} {i : qM} {a : Nat} (G : jT V) (ro : gi s.regs) (hop : i.1 = 8 ∨ i.1 = 9 ∨ i.1 = 10 ∨ i.1 = 11) (ha : a < 8) (hai : i.2.1 = a) (hc : 0 ≤ i.2.2.2.1 ∧ i.2.2.2.1 ≤ 100)
  (H : HS g h (IntC x v l bad mt s err fin left nx :: ViewC v V :: R)) :
  wp (callT tab qA n (.fn 86 [] []) [.ptr x 0, .agg (qe i), .ptr x (6 + a * 1), .int .u64 (qE s.regs i.2.2.1)] h) fun r h' => r = .int .i64 (jt s V i).1 ∧
   HS g h' (IntC x v l bad mt (jt s V i).2.1 err fin left nx :: ViewC v (jt s V i).2.2 :: R) := by
 (refine qP (g := (tD4 S86)) rfl (by omega) fun k hk => ?_; show wp (S86 (callT tab qA k) _ _ _ _ _).1 _; unfold S86; try simp only [ Int.ofNat_eq_natCast])
 refine qU H rfl fun b h1 H1 => ?_
 clear H
 have H1 : HS g h1 (qw b (qe i) :: IntC x v l bad mt s err fin left nx :: ViewC v V :: R) := H1
 have HB := H1.sub (L' := IntC x v l bad mt s err fin left nx :: ViewC v V :: qw b (qe i) :: R) (.cons e_1 (.cons e_1 (.cons .here .refl)))
 obtain ⟨c, mv, ov, q, H2⟩ := IntC.E HB
 refine qJ (qG H1 (b := b) .here rfl ?_)
 have hra := ro.at (a : Int)
 have hrb := ro.at i.2.2.1
 unfold jt
 rw [hai]
 by_cases c8 : i.1 = 8
 ·rw [if_pos c8]
  refine qy c8 (qV ?_)
  refine qJ (qG H1 (b := b) .here rfl ?_)
  refine qY (Y5 (by omega) hrb hc) ?_
  rintro _ _ ⟨rfl, rfl⟩
  refine qx rfl (qx rfl ?_)
  by_cases h0 : (jm (qE s.regs i.2.2.1) i.2.2.2.1).2 = 0
  ·rw [if_pos h0]
   refine jj h0 (qQ ?_)
   refine qq (qJ (qG H2 (b := x) .here rfl ?_))
   refine qY (wu (by omega) (HB.sel (P := ViewC v V) e_1) G.ok) ?_
   rintro _ h3 ⟨rfl, H3⟩
   refine qx rfl (qx rfl ?_)
   refine qX ?_
   try dsimp only
   by_cases h4 : (qT V (jm (qE s.regs i.2.2.1) i.2.2.2.1).1).1.2 = 0
   ·rw [if_pos h4]
    refine qy h4 (qV ?_)
    obtain ⟨c, mv, ov, q, H5⟩ := IntC.E (H3.sel (P := IntC x v l bad mt s err fin left nx) e_1)
    refine qq ?_
    refine qc H5 (b := x) .here ⟨rfl, rfl⟩ (by show 6 + a * 1 < 19; omega) fun h6 H6 => ?_
    refine qj (qW ⟨by rw [h4], ?_⟩)
    exact (VQ ro.len ha rfl H6).sub (.cons .here (.cons .here (.drop .refl)))
   ·rw [if_neg h4]
    refine qK h4 (qQ ?_)
    exact qj (qW ⟨rfl, H3.sub (.cons e_1 (.cons .here (.drop .refl)))⟩)
  ·rw [if_neg h0]
   refine jk h0 (qV ?_)
   refine qW ⟨?_, HB.sub (.cons .here (.cons .here (.drop .refl)))⟩
   unfold jm at h0 ⊢
   split
   ·rfl
   ·rename_i hh; rw [if_neg hh] at h0; exact absurd rfl h0
 ·rw [if_neg c8]
  refine qK c8 (qQ ?_)
  by_cases c9 : i.1 = 9
  ·rw [if_pos c9]
   refine qy c9 (qV ?_)
   refine qq (qG H2 (b := x) .here (QB ha) ?_)
   refine qJ (qG H1 (b := b) .here rfl ?_)
   refine qY (Y5 (by omega) hra hc) ?_
   rintro _ _ ⟨rfl, rfl⟩
   refine qx rfl (qx rfl ?_)
   by_cases h0 : (jm (qE s.regs (a : Int)) i.2.2.2.1).2 = 0
   ·rw [if_pos h0]
    refine jj h0 (qQ ?_)
    refine qq (qJ (qG H2 (b := x) .here rfl ?_))
    refine qY (NY (by omega) (HB.sel (P := ViewC v V) e_1) G.ok) ?_
    rintro _ h3 ⟨rfl, H3⟩
    exact qW ⟨rfl, H3.sub (.cons e_1 (.cons .here (.drop .refl)))⟩
   ·rw [if_neg h0]
    refine jk h0 (qV ?_)
    refine qW ⟨?_, HB.sub (.cons .here (.cons .here (.drop .refl)))⟩
    unfold jm at h0 ⊢
    split
    ·rfl
    ·rename_i hh; rw [if_neg hh] at h0; exact absurd rfl h0
  ·rw [if_neg c9]
   refine qK c9 (qQ ?_)
   by_cases c10 : i.1 = 10
   ·rw [if_pos c10]
    refine qy c10 (qV ?_)
    by_cases h0 : 2147483648 ≤ qE s.regs i.2.2.1
    ·rw [if_pos h0]
     refine jV (by omega) (qV ?_)
     exact qW ⟨rfl, HB.sub (.cons .here (.cons .here (.drop .refl)))⟩
    ·rw [if_neg h0]
     refine jQ (by omega) (qQ ?_)
     refine qq (qJ (qG H2 (b := x) .here rfl ?_))
     refine jI (by omega) ?_
     refine qY (OC (by omega) (HB.sel (P := ViewC v V) e_1) G.ok G.wd) ?_
     rintro _ h3 ⟨rfl, H3⟩
     refine qx rfl (qx rfl ?_)
     refine qX ?_
     try dsimp only
     by_cases h4 : (zM V (qE s.regs i.2.2.1)).1.2 = 0
     ·rw [if_pos h4]
      have hb := KQ (x := qE s.regs i.2.2.1) G.wd h4
      refine qy h4 (qV ?_)
      obtain ⟨c, mv, ov, q, H5⟩ := IntC.E (H3.sel (P := IntC x v l bad mt s err fin left nx) e_1)
      refine zW (by omega) (qq ?_)
      refine qc H5 (b := x) .here ⟨rfl, rfl⟩ (by show 6 + a * 1 < 19; omega) fun h6 H6 => ?_
      refine qj (qW ⟨by rw [h4], ?_⟩)
      exact (VQ ro.len ha rfl H6).sub (.cons .here (.cons .here (.drop .refl)))
     ·rw [if_neg h4]
      refine qK h4 (qQ ?_)
      exact qj (qW ⟨rfl, H3.sub (.cons e_1 (.cons .here (.drop .refl)))⟩)
   ·rw [if_neg c10]
    refine qK c10 (qQ ?_)
    refine qq (qG H2 (b := x) .here (QB ha) ?_)
    by_cases h0 : 2147483648 ≤ qE s.regs (a : Int)
    ·rw [if_pos h0]
     refine jV (by omega) (qV ?_)
     exact qW ⟨rfl, HB.sub (.cons .here (.cons .here (.drop .refl)))⟩
    ·rw [if_neg h0]
     refine jQ (by omega) (qQ ?_)
     refine qq (qJ (qG H2 (b := x) .here rfl ?_))
     refine qq (qG H2 (b := x) .here (QB ha) ?_)
     refine jI (by omega) ?_
     refine qY (Zx (by omega) (HB.sel (P := ViewC v V) e_1) G.ok) ?_
     rintro _ h3 ⟨rfl, H3⟩
     exact qW ⟨rfl, H3.sub (.cons e_1 (.cons .here (.drop .refl)))⟩
structure DoP (l : List qM) (mt : List Int) (s : IM) (V : VM) (i : qM) : Prop where
  good : jT V
  regs : gi s.regs
  out : s.out.length ≤ 16
  lo : s.opn.length ≤ 100
  told : ToldD s.out.length s.opn
  ways : ∀ p ∈ s.opn, p.op = 17 → MtAt mt p.pc
  pc : 0 ≤ s.pc ∧ s.pc ≤ 100
  op : 1 ≤ i.1 ∧ i.1 < 23
  a : 0 ≤ i.2.1 ∧ i.2.1 ≤ 7
  b : 0 ≤ i.2.2.1 ∧ i.2.2.1 ≤ 7
  c : 0 ≤ i.2.2.2.1 ∧ i.2.2.2.1 ≤ 100
  c7 : 3 ≤ i.1 ∧ i.1 ≤ 7 → i.2.2.2.1 ≤ 7
  ne : i.1 = 15 ∨ i.1 = 19 ∨ i.1 = 18 ∨ i.1 = 16 → s.opn ≠ []
  mt : i.1 = 18 ∨ i.1 = 16 → MtAt mt s.pc
theorem qKn {n : Nat} (hn : 13 ≤ n) {V : VM} {i : qM} (P : DoP l mt s V i) (H : HS g h (IntC x v l bad mt s err 0 left (s.pc + 1) :: ViewC v V :: R)) :
  wp (callT tab qA n (.fn 51 [] []) [.ptr x 0, .agg (qe i)] h) fun r h' => r = .int .i64 (doM mt s V i).e ∧
   HS g h' (IntC x v l bad mt (doM mt s V i).s err (if (doM mt s V i).blk = true then 3 else 0) left (doM mt s V i).nx :: ViewC v (doM mt s V i).v :: R) := by
 (refine qP (g := (tD2 S51)) rfl (by omega) fun k hk => ?_; show wp (S51 (callT tab qA k) _ _ _).1 _; unfold S51; try simp only [ Int.ofNat_eq_natCast])
 refine qU H rfl fun b h1 H1 => ?_
 clear H
 have H1 : HS g h1 (qw b (qe i) :: IntC x v l bad mt s err 0 left (s.pc + 1) :: ViewC v V :: R) := H1
 have HB := H1.sub (L' := IntC x v l bad mt s err 0 left (s.pc + 1) :: ViewC v V :: qw b (qe i) :: R) (.cons e_1 (.cons e_1 (.cons .here .refl)))
 obtain ⟨c, mv, ov, q, H2⟩ := IntC.E HB
 obtain ⟨a, ha1, ha2, ha3⟩ := ZL P.a.1
 obtain ⟨bb, hb1, hb2, hb3⟩ := ZL P.b.1
 obtain ⟨cc, hc1, hc2, hc3⟩ := ZL P.c.1
 have ha3 := ha3 (by have := P.a.2; omega)
 have hb3 := hb3 (by have := P.b.2; omega)
 have ro := P.regs
 have hop := P.op
 have hc7 := P.c7
 refine qJ (qG H1 (b := b) .here rfl (gd (by decide) ?_))
 rw [ha1]
 refine qq (qJ (xV ha2 ?_))
 refine qJ (qG H1 (b := b) .here rfl (gd (by decide) ?_))
 rw [hb1]
 refine qq (qJ (xV hb2 ?_))
 refine qG H2 (b := x) .here (QB hb2) ?_
 refine qJ (qG H1 (b := b) .here rfl (gd (by decide) ?_))
 rw [hc1]
 refine qq (qJ (xV hc2 ?_))
 refine qG H2 (b := x) .here (QB hc2) ?_
 refine qJ (qG H1 (b := b) .here rfl ?_)
 refine qX ?_
 try dsimp only
 have fin : ∀ (z : Int) (D : SM) (h0 : AH), D = ⟨0, s.pc + 1, false, setR s i.2.1 z, V⟩ → HS g h0 (IntC x v l bad mt s err 0 left (s.pc + 1) :: ViewC v V :: qw b (qe i) :: R) →
   wp (zd (.ptr x (6 + a * 1)) fun v32 => jX h0 v32 (.int .u64 z) 1 fun h33 => jB [] h33 fun h28 => some (.int .i64 ((0 : Nat) : Int), h28)) fun r h' => r = .int .i64 D.e ∧
    HS g h' (IntC x v l bad mt D.s err (if D.blk = true then 3 else 0) left D.nx :: ViewC v D.v :: R) := by
  rintro z D h0 rfl H0
  obtain ⟨c, mv, ov, q, H5⟩ := IntC.E H0
  refine qq ?_
  refine qc H5 (b := x) .here ⟨rfl, rfl⟩ (by show 6 + a * 1 < 19; omega) fun h6 H6 => ?_
  refine qj (qW ⟨rfl, ?_⟩)
  exact (VQ ro.len ha2 ha3 H6).sub (.cons .here (.cons .here (.drop .refl)))
 by_cases c1 : i.1 = 1
 ·refine qy c1 (qV ?_)
  refine qJ (qG H1 (b := b) .here rfl ?_)
  exact fin _ _ _ (by unfold doM; rw [if_pos c1]) HB
 refine qK c1 (qQ ?_)
 by_cases c2 : i.1 = 2
 ·refine qy c2 (qV ?_)
  exact fin _ _ _ (by unfold doM; rw [if_neg c1, if_pos c2, hb3]) HB
 refine qK c2 (qQ ?_)
 by_cases c3 : i.1 = 3
 ·refine qy c3 (qV (Kq ?_))
  have hc3 := hc3 (by have := hc7 (by omega); omega)
  exact fin _ _ _ (by unfold doM; rw [if_neg c1, if_neg c2, if_pos c3, hb3, hc3]) HB
 refine qK c3 (qQ ?_)
 by_cases c4 : i.1 = 4
 ·refine qy c4 (qV (G5 ?_))
  have hc3 := hc3 (by have := hc7 (by omega); omega)
  exact fin _ _ _ (by unfold doM; rw [if_neg c1, if_neg c2, if_neg c3, if_pos c4, hb3, hc3]) HB
 refine qK c4 (qQ ?_)
 by_cases c5 : i.1 = 5
 ·refine qy c5 (qV (Vn ?_))
  have hc3 := hc3 (by have := hc7 (by omega); omega)
  exact fin _ _ _ (by unfold doM; rw [if_neg c1, if_neg c2, if_neg c3, if_neg c4, if_pos c5, hb3, hc3]) HB
 refine qK c5 (qQ ?_)
 by_cases c6 : i.1 = 6
 ·refine qy c6 (qV (gn ?_))
  have hc3 := hc3 (by have := hc7 (by omega); omega)
  refine qY (Gg (by omega)) ?_
  rintro _ _ ⟨rfl, rfl⟩
  exact fin _ _ _ (by unfold doM; rw [if_neg c1, if_neg c2, if_neg c3, if_neg c4, if_neg c5, if_pos c6, hb3, hc3]) HB
 refine qK c6 (qQ ?_)
 by_cases c7 : i.1 = 7
 ·refine qy c7 (qV (ge ?_))
  have hc3 := hc3 (by have := hc7 (by omega); omega)
  refine qY (Gg (by omega)) ?_
  rintro _ _ ⟨rfl, rfl⟩
  exact fin _ _ _ (by unfold doM; rw [if_neg c1, if_neg c2, if_neg c3, if_neg c4, if_neg c5, if_neg c6, if_pos c7, hb3, hc3]) HB
 refine qK c7 (qQ ?_)
 by_cases c12 : i.1 = 12
 ·refine qy c12 (qV ?_)
  have e : doM mt s V i = ⟨0, i.2.2.2.1, false, s, V⟩ := by unfold doM; rw [if_neg c1, if_neg c2, if_neg c3, if_neg c4, if_neg c5, if_neg c6, if_neg c7, if_pos c12]
  rw [e]
  refine qJ (qG H1 (b := b) .here rfl ?_)
  refine qq (qJ ?_)
  refine qc H2 (b := x) .here ⟨rfl, rfl⟩ (by show 16 < 19; omega) fun h6 H6 => ?_
  exact qj (qW ⟨rfl, (IntC.I (c := c) (mv := mv) (ov := ov) (o := q) H6).sub (.cons .here (.cons .here (.drop .refl)))⟩)
 refine qK c12 (qQ ?_)
 by_cases c13 : i.1 = 13
 ·refine qy c13 (qV ?_)
  have e : doM mt s V i = ⟨0, if qE s.regs i.2.1 = 0 then i.2.2.2.1 else s.pc + 1, false, s, V⟩ := by unfold doM; rw [if_neg c1, if_neg c2, if_neg c3, if_neg c4, if_neg c5, if_neg c6, if_neg c7, if_neg c12, if_pos c13]
  rw [e, ha3]
  refine qq (qG H2 (b := x) .here (QB ha2) ?_)
  by_cases hz : qE s.regs (a : Int) = 0
  ·rw [if_pos hz]
   refine qy hz (qV ?_)
   refine qJ (qG H1 (b := b) .here rfl ?_)
   refine qq (qJ ?_)
   refine qc H2 (b := x) .here ⟨rfl, rfl⟩ (by show 16 < 19; omega) fun h6 H6 => ?_
   exact qj (qW ⟨rfl, (IntC.I (c := c) (mv := mv) (ov := ov) (o := q) H6).sub (.cons .here (.cons .here (.drop .refl)))⟩)
  ·rw [if_neg hz]
   refine qK hz (qQ ?_)
   exact qj (qW ⟨rfl, HB.sub (.cons .here (.cons .here (.drop .refl)))⟩)
 refine qK c13 (qQ ?_)
 by_cases c21 : i.1 = 21
 ·refine qy c21 (qV ?_)
  refine qq (qJ (qG H2 (b := x) .here rfl ?_))
  refine qq (qG H2 (b := x) .here (QB ha2) ?_)
  refine qY (qXP (by omega) (H2.sel (P := SlaC q s.out) e_3) P.out) ?_
  rintro _ h3 ⟨rfl, H3⟩
  by_cases h16 : 16 ≤ s.out.length
  ·have e : doM mt s V i = ⟨5, s.pc + 1, false, s, V⟩ := by unfold doM; rw [if_neg c1, if_neg c2, if_neg c3, if_neg c4, if_neg c5, if_neg c6, if_neg c7, if_neg c12, if_neg c13, if_pos c21, if_pos h16]
   rw [e]
   rw [if_neg (by omega)] at H3
   rw [decide_eq_false (by omega)]
   refine jq (qV ?_)
   exact qW ⟨rfl, (IntC.I (c := c) (mv := mv) (ov := ov) (o := q) (R := ViewC v V :: qw b (qe i) :: R) (H3.sub (.cons e_1 (.cons e_1 (.cons e_1 (.cons .here (.cons .here .refl))))))).sub (.cons .here (.cons .here (.drop .refl)))⟩
  ·have e : doM mt s V i = ⟨0, s.pc + 1, false, { s with out := s.out ++ [(1, qE s.regs i.2.1)] }, V⟩ := by unfold doM; rw [if_neg c1, if_neg c2, if_neg c3, if_neg c4, if_neg c5, if_neg c6, if_neg c7, if_neg c12, if_neg c13, if_pos c21, if_neg h16]
   rw [e, ha3]
   rw [if_pos (by omega)] at H3
   rw [decide_eq_true (by omega)]
   refine qo (qQ ?_)
   exact qj (qW ⟨rfl, (IntC.I (s := { s with out := s.out ++ [(1, qE s.regs (a : Int))] }) (c := c) (mv := mv) (ov := ov) (o := q) (R := ViewC v V :: qw b (qe i) :: R) (H3.sub (.cons e_1 (.cons e_1 (.cons e_1 (.cons .here (.cons .here .refl))))))).sub (.cons .here (.cons .here (.drop .refl)))⟩)
 refine qK c21 (qQ ?_)
 by_cases c22 : i.1 = 22
 ·refine qy c22 (qV ?_)
  have e : doM mt s V i = ⟨13, s.pc + 1, false, s, V⟩ := by unfold doM; rw [if_neg c1, if_neg c2, if_neg c3, if_neg c4, if_neg c5, if_neg c6, if_neg c7, if_neg c12, if_neg c13, if_neg c21, if_pos c22]
  rw [e]
  exact qW ⟨rfl, HB.sub (.cons .here (.cons .here (.drop .refl)))⟩
 refine qK c22 (qQ ?_)
 refine qK (by omega) (qQ ?_)
 refine qX ?_
 try dsimp only
 by_cases ct : i.1 = 8 ∨ i.1 = 9 ∨ i.1 = 10 ∨ i.1 = 11
 ·have e : doM mt s V i = ⟨(jt s V i).1, s.pc + 1, false, (jt s V i).2.1, (jt s V i).2.2⟩ := by unfold doM; rw [if_neg c1, if_neg c2, if_neg c3, if_neg c4, if_neg c5, if_neg c6, if_neg c7, if_neg c12, if_neg c13, if_neg c21, if_neg c22, if_pos ct]
  rw [e]
  have key : wp (ji h1 (.ptr b 0) 5 fun v94 => jf (callT tab qA k) (.fn 86 [] []) [.ptr x 0, v94, .ptr x (6 + a * 1), .int .u64 (qE s.regs (bb : Int))] h1 fun v95 h96 => jB [] h96 fun h97 => some (v95, h97)) fun r h' =>
    r = .int .i64 (jt s V i).1 ∧ HS g h' (IntC x v l bad mt (jt s V i).2.1 err (if false = true then 3 else 0) left (s.pc + 1) :: ViewC v (jt s V i).2.2 :: R) := by
   refine qh H1 (b := b) (off := 0) .here rfl (by omega) (l := qe i) rfl ?_
   rw [← hb3]
   refine qY (Nq (by omega) P.good ro ct ha2 ha3 P.c HB) ?_
   rintro _ h3 ⟨rfl, H3⟩
   exact qj (qW ⟨rfl, H3.sub (.cons .here (.cons .here (.drop .refl)))⟩)
  by_cases t8 : i.1 = 8
  ·refine qy t8 (qV (qV ?_))
   exact key
  refine qK t8 (qQ ?_)
  by_cases t9 : i.1 = 9
  ·refine qy t9 (qV (qV ?_))
   exact key
  refine qK t9 (qQ ?_)
  by_cases t10 : i.1 = 10
  ·refine qy t10 (qV (qV ?_))
   exact key
  refine qK t10 (qQ ?_)
  refine qy (by omega) (qV ?_)
  exact key
 ·have e : doM mt s V i = yW mt s V i.1 := by unfold doM; rw [if_neg c1, if_neg c2, if_neg c3, if_neg c4, if_neg c5, if_neg c6, if_neg c7, if_neg c12, if_neg c13, if_neg c21, if_neg c22, if_neg ct]
  rw [e]
  refine qK (by omega) (qQ ?_)
  refine qK (by omega) (qQ ?_)
  refine qK (by omega) (qQ ?_)
  refine qK (by omega) (qQ ?_)
  refine qh H1 (b := b) (off := 0) .here rfl (by omega) (l := qe i) rfl ?_
  refine qY (qQc (by omega) P.good P.lo P.out P.told P.ways P.pc P.ne P.mt HB) ?_
  rintro _ h3 ⟨rfl, H3⟩
  exact qj (qW ⟨rfl, H3.sub (.cons .here (.cons .here (.drop .refl)))⟩)
end
end Go.Proofs.YtdlfmpmpmkffjaaGreatDoor
namespace Go.Proofs.YtdlfmpmpmkffjaaGreatDoor
open Go Go.Ae
set_option maxRecDepth 100000
variable {g h : AH} {L R : List SP}
theorem QS {a : List Int} {k : Nat} (h : k < a.length) : a[k]? = some (qE a (k : Int)) := by
 unfold qE; rw [Int.toNat_natCast, List.getElem?_eq_getElem h]; rfl
theorem may_b {x : qM} (h : xr x = true) (hx : x.1 ≠ 23) : (1 ≤ x.1 ∧ x.1 < 23) ∧ (0 ≤ x.2.1 ∧ x.2.1 ≤ 7) ∧ (0 ≤ x.2.2.1 ∧ x.2.2.1 ≤ 7) ∧ (0 ≤ x.2.2.2.1 ∧ x.2.2.2.1 ≤ 40) ∧ (3 ≤ x.1 ∧ x.1 ≤ 7 → x.2.2.2.1 ≤ 7) := by
 unfold xr xU at h
 simp only [Bool.and_eq_true, decide_eq_true_eq] at h
 obtain ⟨⟨⟨⟨h1, h2⟩, h3⟩, h4⟩, _⟩ := h
 unfold q8 at h2 h3 h4
 by_cases c1 : x.1 = 1 ∨ x.1 = 11 ∨ x.1 = 21
 ·rw [if_pos c1] at h2 h3 h4; dsimp only at h2 h3 h4; omega
 rw [if_neg c1] at h2 h3 h4
 by_cases c2 : x.1 = 2 ∨ x.1 = 10
 ·rw [if_pos c2] at h2 h3 h4; dsimp only at h2 h3 h4; omega
 rw [if_neg c2] at h2 h3 h4
 by_cases c3 : x.1 = 3 ∨ x.1 = 4 ∨ x.1 = 5 ∨ x.1 = 6 ∨ x.1 = 7
 ·rw [if_pos c3] at h2 h3 h4; dsimp only at h2 h3 h4; omega
 rw [if_neg c3] at h2 h3 h4
 by_cases c4 : x.1 = 8 ∨ x.1 = 9
 ·rw [if_pos c4] at h2 h3 h4; dsimp only at h2 h3 h4; omega
 rw [if_neg c4] at h2 h3 h4
 by_cases c5 : x.1 = 12
 ·rw [if_pos c5] at h2 h3 h4; dsimp only at h2 h3 h4; omega
 rw [if_neg c5] at h2 h3 h4
 by_cases c6 : x.1 = 13
 ·rw [if_pos c6] at h2 h3 h4; dsimp only at h2 h3 h4; omega
 rw [if_neg c6, if_neg hx] at h2 h3 h4
 dsimp only at h2 h3 h4; omega
theorem KC {l : List qM} (F : Fit l) {k : Nat} (hk : k < l.length) (ho : (qL l k).1 = 14 ∨ (qL l k).1 = 17 ∨ (qL l k).1 = 18 ∨ (qL l k).1 = 16) : MtAt (qi l) (k : Int) := by
 have hl := F.le
 refine ⟨k, rfl, _, QS (by rw [GM]; exact hk), ?_⟩
 by_cases h : (qL l k).1 = 16
 ·obtain ⟨e, e1, e2, _⟩ := XU F hk h
  rw [e1]; omega
 ·obtain ⟨e, e1, _, e2, _⟩ := wU F hk (by omega)
  rw [e1]; omega
theorem OT {l : List qM} {s : IM} {V : VM} (F : Fit l) (G : GI l s V) {i : Nat} (hi : s.pc = i) (hlt : i < l.length) (hx : (qL l i).1 ≠ 23) : DoP l (qi l) s V (qL l i) := by
 have hw := xd (F.ok i hlt)
 have hwo := zG (F.ok i hlt)
 have hb := may_b hw.1 hx
 have hol := QP G
 have h5 := wO F i (by omega)
 have hl := F.le
 rw [hi, Int.toNat_natCast] at hol
 refine ⟨G.good, G.gb.regs, G.gb.out, by omega, G.told, ?_, by omega, hb.1, hb.2.1, hb.2.2.1, by omega, hb.2.2.2.2, ?_, ?_⟩
 ·intro p hp hop
  obtain ⟨q, hq, hql⟩ := (G.pts p hp).pc
  have := (G.pts p hp).op.2
  rw [hop, hq] at this
  rw [hq]
  exact KC F hql (by omega)
 ·intro ho h0
  rw [h0] at hol
  have he : 0 < jE (qL l i).1 ∨ (qL l i).1 = 16 := by
   rcases ho with h | h | h | h
   ·exact .inl (by rw [h]; decide)
   ·exact .inl (by rw [h]; decide)
   ·exact .inl (by rw [h]; decide)
   ·exact .inr h
  exact hwo.2.1 he (List.eq_nil_of_length_eq_zero hol.symm)
 ·intro ho
  rw [hi]
  exact KC F hlt (by omega)
def Quiet (l : List qM) : Prop := ∀ x ∈ l, x.1 ≠ 23 ∧ 0 ≤ x.2.2.2.2 ∧ x.2.2.2.2 < 18446744073709551616
theorem Quiet.at {l : List qM} (Q : Quiet l) {i : Nat} (h : i < l.length) : (qL l i).1 ≠ 23 ∧ 0 ≤ (qL l i).2.2.2.2 ∧ (qL l i).2.2.2.2 < 18446744073709551616 := by
 rw [zH h]; exact Q _ (List.getElem_mem h)
structure RunB (V : VM) (r : RM) : Prop where
  gb : GB r.s
  good : jT r.v
  sz : r.v.sz = V.sz
  K : r.v.K = V.K
  most : r.v.most = V.most
theorem VS {l : List qM} (F : Fit l) (Q : Quiet l) : ∀ (n : Nat) {s : IM} {V : VM}, GI l s V → frS V.lv + n < 9000 → RunB V (xy l (qi l) n s V) ∧ frS (xy l (qi l) n s V).v.lv ≤ frS V.lv + n ∧
  ((xy l (qi l) n s V).kind = 2 → (xy l (qi l) n s V).v.lv.length = 1) ∧
  ((xy l (qi l) n s V).kind = 1 → GI l (xy l (qi l) n s V).s (xy l (qi l) n s V).v ∧ 1 ≤ (xy l (qi l) n s V).v.need ∧ (xy l (qi l) n s V).v.need < V.sz ∧ zR (xy l (qi l) n s V).v.need V.K = none) ∧
  ((xy l (qi l) n s V).kind = 1 ∨ (xy l (qi l) n s V).kind = 2 ∨ (xy l (qi l) n s V).kind = 3 ∨ (xy l (qi l) n s V).kind = 4) := by
 intro n
 induction n with
 | zero =>
  intro s V G hf
  rw [Yy]
  split
  ·rename_i h0
   refine ⟨⟨G.gb, G.good, rfl, rfl, rfl⟩, by simp, fun _ => ?_, fun h => (by cases h), by simp⟩
   have := QP G
   rw [h0, Int.toNat_natCast, F.nil] at this
   have hl := G.lv
   show V.lv.length = 1
   rw [hl, this]; rfl
  ·exact ⟨⟨G.gb, G.good, rfl, rfl, rfl⟩, by simp, fun h => (by cases h), fun h => (by cases h), by simp⟩
 | succ n ih =>
  intro s V G hf
  rw [X7]
  split
  ·rename_i h0
   refine ⟨⟨G.gb, G.good, rfl, rfl, rfl⟩, by simp, fun _ => ?_, fun h => (by cases h), by simp⟩
   have := QP G
   rw [h0, Int.toNat_natCast, F.nil] at this
   have hl := G.lv
   show V.lv.length = 1
   rw [hl, this]; rfl
  ·rename_i h0
   obtain ⟨i, hi, hil⟩ := G.pc
   have hlt : i < l.length := by omega
   rw [hi]
   have S := Gr F G hi hlt (by omega) (Q.at hlt).2 (Q.at hlt).1
   generalize doM (qi l) s V (qL l i) = D at *
   split
   ·rename_i h1
    split
    ·exact ⟨⟨⟨S.gb.regs, S.gb.out, S.gb.its⟩, S.good, S.sz, S.K, S.most⟩, by have := S.fr; dsimp only; omega, fun h => (by cases h), fun h => (by cases h), by simp⟩
    ·rename_i h2
     have G2 := S.next h1 (by simpa using h2)
     have hfr := S.fr
     obtain ⟨a, b, c, d, e⟩ := ih G2 (by omega)
     refine ⟨⟨a.gb, a.good, a.sz.trans S.sz, a.K.trans S.K, a.most.trans S.most⟩, by omega, c, fun h => ?_, e⟩
     have := d h
     rw [S.sz, S.K] at this
     exact this
   ·split
    ·rename_i h11
     obtain ⟨n1, n2, n3, n4, n5⟩ := S.need h11
     refine ⟨⟨S.gb, S.good, S.sz, S.K, S.most⟩, by have := S.fr; dsimp only; omega, fun h => (by cases h), fun _ => ⟨?_, n3, n4, n5⟩, by simp⟩
     show GI l D.s D.v
     rw [n1]
     exact ⟨G.gb, G.pc, G.pts, G.told, G.stk, by rw [n2]; exact G.lv, S.good⟩
    ·exact ⟨⟨S.gb, S.good, S.sz, S.K, S.most⟩, by have := S.fr; dsimp only; omega, fun h => (by cases h), fun h => (by cases h), by simp⟩
section
variable {x v : Nat} {l : List qM} {bad : Int} {mt : List Int} {s : IM} {err fin left nx : Int}
theorem qZA {n : Nat} (hn : 14 ≤ n) (F : Fit l) (Q : Quiet l) {left : Nat} {V : VM} (G : GI l s V) (hf : frS V.lv + left < 9000) (hl : left ≤ 1000) (H : HS g h (IntC x v l 0 (qi l) s 0 0 left nx :: ViewC v V :: R)) :
  wp (callT tab qA n (.fn 13 [] []) [.ptr x 0] h) fun r h' => r = .int .i64 (xy l (qi l) left s V).kind ∧
   ∃ nx', HS g h' (IntC x v l 0 (qi l) (xy l (qi l) left s V).s (xy l (qi l) left s V).err (if (xy l (qi l) left s V).kind = 1 then 0 else (xy l (qi l) left s V).kind) ((xy l (qi l) left s V).left : Int) nx' :: ViewC v (xy l (qi l) left s V).v :: R) := by
 (refine qP (g := (tD1 S13)) rfl (by omega) fun k hk => ?_; show wp (S13 (callT tab qA k) _ _).1 _; unfold S13; try simp only [ Int.ofNat_eq_natCast])
 generalize hRM : xy l (qi l) left s V = RM
 refine jz (fun m st h' => st = (.ptr x 0, ()) ∧ ((∃ (s' : IM) (V' : VM) (left' : Nat) (nx' : Int), m = left' + 1 ∧ left' ≤ 1000 ∧ GI l s' V' ∧ frS V'.lv + left' < 9000 ∧ xy l (qi l) left' s' V' = RM ∧ HS g h' (IntC x v l 0 (qi l) s' 0 0 left' nx' :: ViewC v V' :: R)) ∨
   (m = 0 ∧ RM.kind ≠ 0 ∧ RM.kind ≠ 1 ∧ ∃ nx', HS g h' (IntC x v l 0 (qi l) RM.s RM.err RM.kind RM.left nx' :: ViewC v RM.v :: R))))
  ?_ (m := left + 1) (by show _ < 1000000000; omega) ⟨rfl, .inl ⟨s, V, left, nx, rfl, hl, G, hf, hRM, H⟩⟩
 clear H G hf hRM hl
 rintro m ih st h2 hih ⟨rfl, ⟨s, V, left, nx, rfl, hl, G, hf, hRM, H⟩ | ⟨rfl, hk0, hk1, nx, H⟩⟩
 rotate_left
 ·dsimp only
  obtain ⟨c, mv, ov, q, H1⟩ := IntC.E H
  refine qq (qJ (qG H1 (b := x) .here rfl ?_))
  refine qK hk0 (qQ ?_)
  refine qq (qJ (qG H1 (b := x) .here rfl ?_))
  refine qj (qW ⟨rfl, nx, ?_⟩)
  rw [if_neg hk1]; exact H
 dsimp only
 obtain ⟨i, hi, hil⟩ := G.pc
 have hlen := F.le
 obtain ⟨c, mv, ov, q, H1⟩ := IntC.E H
 refine qq (qJ (qG H1 (b := x) .here rfl ?_))
 refine qy rfl (qV ?_)
 refine qX ?_
 try dsimp only
 refine qq (qJ (qG H1 (b := x) .here rfl ?_))
 refine jj rfl (qQ ?_)
 refine qq (qJ (qG H1 (b := x) .here rfl ?_))
 refine qq (qJ (qJ (qG H1 (b := x) .here rfl ?_)))
 refine qd H1 e_1 ?_
 by_cases h0 : s.pc = l.length
 ·refine qy h0 (qV ?_)
  rw [Ud h0] at hRM
  subst hRM
  refine qq (qJ ?_)
  refine qc H1 (b := x) .here ⟨rfl, rfl⟩ (by show 5 < 19; omega) fun h3 H3 => ?_
  exact hih 0 _ _ (by omega) ⟨rfl, .inr ⟨rfl, by show (2 : Int) ≠ 0; decide, by show (2 : Int) ≠ 1; decide, nx, IntC.I (c := c) (mv := mv) (ov := ov) (o := q) H3⟩⟩
 refine qK h0 (qQ ?_)
 refine qq (qJ (qG H1 (b := x) .here rfl ?_))
 cases left with
 | zero =>
  refine qy rfl (qV ?_)
  rw [Yy, if_neg h0] at hRM
  subst hRM
  refine qY (UI (by omega) H) ?_
  intro _ h3 H3
  exact hih 0 _ _ (by omega) ⟨rfl, .inr ⟨rfl, by show (4 : Int) ≠ 0; decide, by show (4 : Int) ≠ 1; decide, nx, H3⟩⟩
 | succ left =>
  refine qK (by omega) (qQ ?_)
  rw [X7, if_neg h0] at hRM
  have hlt : i < l.length := by omega
  have S := Gr F G hi hlt (by omega) (Q.at hlt).2 (Q.at hlt).1
  have P := OT F G hi hlt (Q.at hlt).1
  refine qq (qJ (qG H1 (b := x) .here rfl ?_))
  rw [hi]
  refine qD (by omega) (qq (qJ ?_))
  refine qc H1 (b := x) .here ⟨rfl, rfl⟩ (by show 16 < 19; omega) fun h3 H3 => ?_
  refine qq (qJ (qJ (qG H3 (b := x) .here rfl ?_)))
  refine qq (qJ (qG H3 (b := x) .here rfl ?_))
  rw [hi]
  refine zJ (l := qe l[i]) (H3.sl e_1) hlt (by omega) (vr hlt) ?_
  have H4 : HS g h3 (IntC x v l 0 (qi l) s 0 0 ((left + 1 : Nat) : Int) (s.pc + 1) :: ViewC v V :: R) := IntC.I (c := c) (mv := mv) (ov := ov) (o := q) (by rw [hi] at H3 ⊢; exact H3)
  clear H H1 H3
  rw [← zH hlt]
  refine qY (qKn (by omega) P H4) ?_
  rintro _ h5 ⟨rfl, H5⟩
  rw [hi] at hRM
  generalize doM (qi l) s V (qL l i) = D at *
  refine qX ?_
  try dsimp only
  obtain ⟨c, mv, ov, q, H6⟩ := IntC.E H5
  by_cases h1 : D.e = 0
  ·refine qy h1 (qV ?_)
   rw [if_pos h1] at hRM
   refine qq (qJ (qG H6 (b := x) .here rfl ?_))
   refine qq (qJ ?_)
   refine qc H6 (b := x) .here ⟨rfl, rfl⟩ (by show 15 < 19; omega) fun h7 H7 => ?_
   refine qq (qJ (qG H7 (b := x) .here rfl ?_))
   refine qb (by omega) (qq (qJ ?_))
   rw [show ((left + 1 : Nat) : Int) - ((1 : Nat) : Int) = (left : Int) by omega]
   refine qc H7 (b := x) .here ⟨rfl, rfl⟩ (by show 17 < 19; omega) fun h8 H8 => ?_
   have H9 : HS g h8 (IntC x v l 0 (qi l) { D.s with pc := D.nx } 0 (if D.blk = true then 3 else 0) left D.nx :: ViewC v D.v :: R) := IntC.I (s := { D.s with pc := D.nx }) (c := c) (mv := mv) (ov := ov) (o := q) H8
   clear H6 H7 H8 H5
   cases h2 : D.blk with
   | true =>
    rw [h2, if_pos rfl] at hRM
    rw [h2, if_pos rfl] at H9
    subst hRM
    exact hih 0 _ _ (by omega) ⟨rfl, .inr ⟨rfl, by show (3 : Int) ≠ 0; decide, by show (3 : Int) ≠ 1; decide, D.nx, H9⟩⟩
   | false =>
    rw [h2, if_neg (by simp)] at hRM
    rw [h2, if_neg (by simp)] at H9
    have := S.fr
    exact hih (left + 1) _ _ (by omega) ⟨rfl, .inl ⟨_, D.v, left, D.nx, rfl, by omega, S.next h1 h2, by omega, hRM, H9⟩⟩
  ·refine qK h1 (qQ ?_)
   rw [if_neg h1] at hRM
   have hb : D.blk = false := by
    cases hb : D.blk with
    | false => rfl
    | true => exact absurd (S.bl hb) h1
   rw [hb, if_neg (by simp)] at H5
   by_cases h11 : D.e = 11
   ·rw [if_pos h11] at hRM
    subst hRM
    refine qy h11 (qV ?_)
    refine qj (qW ⟨rfl, D.nx, ?_⟩)
    rw [if_pos rfl]
    exact H5
   ·rw [if_neg h11] at hRM
    subst hRM
    refine qK h11 (qQ ?_)
    refine qY (UI (by omega) H5) ?_
    intro _ h7 H7
    exact hih 0 _ _ (by omega) ⟨rfl, .inr ⟨rfl, by show (4 : Int) ≠ 0; decide, by show (4 : Int) ≠ 1; decide, D.nx, H7⟩⟩
end
end Go.Proofs.YtdlfmpmpmkffjaaGreatDoor
namespace Go.Proofs.YtdlfmpmpmkffjaaGreatDoor
open Go Go.Ae
set_option maxRecDepth 100000
variable {g h : AH} {L R : List SP}
def mo (f : Int × Int) : Int := if f.2 = 0 then -1 else f.2
theorem qZU {l : List AV} {x : AV} {z : Int} {n : Nat} {k : IntKind} {K : AV → Go.Ae.R} {Q : AV → AH → Prop} (h0 : 0 ≤ z) (hi : z.toNat < n) (hx : l[z.toNat]? = some x) (w : wp (K x) Q) : wp (ga (.agg l) (.int k z) n 1 K) Q := by
 obtain ⟨i, rfl⟩ : ∃ i : Nat, z = i := ⟨z.toNat, by omega⟩
 rw [Int.toNat_natCast] at hi hx
 show wp (bif Nat.ble (i + 1) n then ob (y6 l (i * 1)) K else none) Q
 rw [Nat.ble_eq_true_of_le hi, Nat.mul_one, zf, hx]
 exact w
set_option maxHeartbeats 4000000 in
theorem qXb {n : Nat} (hn : 1 ≤ n) {op : Int} (ho : 1 ≤ op ∧ op ≤ 22) (H : HS g h R) : wp (callT tab qA n (.fn 140 [] []) [.int .i64 op] h) fun r h' => (∃ nm, r = .tup [.agg [.str nm, .int .i64 (mo (q8 op).1), .int .i64 (mo (q8 op).2.1), .int .i64 (mo (q8 op).2.2), .bool (decide (op = 1))], .bool true]) ∧ HS g h' R := by
 (refine qP (g := W140) rfl (by omega) fun k hk => ?_; show wp (S140 (callT tab qA k) _ _) _; unfold S140; try simp only [iI, uU, Int.ofNat_eq_natCast])
 refine qU H rfl fun b0 h1 H1 => ?_
 have fin : ∀ (nm : List UInt8) (a b c : Int) (t : Bool), wp (jX h1 (.ptr b0 0) (.agg [.str nm, .int .i64 a, .int .i64 b, .int .i64 c, .bool t]) 5 fun h4 => ji h4 (.ptr b0 0) 5 fun v5 => some (.tup [v5, .bool true], h4)) fun r h' => r = .tup [.agg [.str nm, .int .i64 a, .int .i64 b, .int .i64 c, .bool t], .bool true] ∧ HS g h' R := by
  intro nm a b c t
  refine jG H1 (b := b0) .here rfl (by show 0 + 5 ≤ 5; omega) rfl fun h2 H2 => ?_
  have H2 : HS g h2 (qw b0 [.str nm, .int .i64 a, .int .i64 b, .int .i64 c, .bool t] :: R) := H2
  refine qh H2 (b := b0) (off := 0) .here rfl (by omega) (l := [.str nm, .int .i64 a, .int .i64 b, .int .i64 c, .bool t]) rfl ?_
  exact qW ⟨rfl, H2.drop⟩
 have hc : op = 1 ∨ op = 2 ∨ op = 3 ∨ op = 4 ∨ op = 5 ∨ op = 6 ∨ op = 7 ∨ op = 8 ∨ op = 9 ∨ op = 10 ∨ op = 11 ∨ op = 12 ∨ op = 13 ∨ op = 14 ∨ op = 15 ∨ op = 16 ∨ op = 17 ∨ op = 18 ∨ op = 19 ∨ op = 20 ∨ op = 21 ∨ op = 22 := by omega
 rcases hc with rfl | rfl | rfl | rfl | rfl | rfl | rfl | rfl | rfl | rfl | rfl | rfl | rfl | rfl | rfl | rfl | rfl | rfl | rfl | rfl | rfl | rfl
 all_goals repeat (first | with_reducible refine qK (by omega) ?_ | with_reducible refine qy (by omega) ?_ | with_reducible refine qQ ?_ | with_reducible refine qV ?_ | (with_reducible refine qX ?_; try dsimp only) | with_reducible refine qb (by omega) ?_ | with_reducible refine qZU (by decide) (by decide) rfl ?_ | with_reducible refine qF rfl ?_)
 all_goals exact wp.mono (fin _ _ _ _ _) fun r h' ⟨e, H'⟩ => ⟨⟨_, e⟩, H'⟩
theorem y8 {n : Nat} (hn : 1 ≤ n) {z : Int} {f : Int × Int} (hf : f.1 = 0 ∧ 0 ≤ f.2) : wp (callT tab qA n (.fn 141 [] []) [.int .i64 z, .int .i64 (mo f)] h) fun r h' => r = .bool (xU f z) ∧ h' = h := by
 (refine qP (g := (tD2 S141)) rfl (by omega) fun k hk => ?_; show wp (S141 (callT tab qA k) _ _ _).1 _; unfold S141; try simp only [ Int.ofNat_eq_natCast])
 have hm : (f.2 = 0 ∧ mo f = -1) ∨ (0 < f.2 ∧ mo f = f.2) := by
  unfold mo
  split
  ·exact .inl ⟨by assumption, rfl⟩
  ·exact .inr ⟨by omega, rfl⟩
 generalize mo f = m at *
 by_cases c1 : z = 0 <;> by_cases c2 : m < 0 <;> by_cases c3 : 0 ≤ z <;> by_cases c4 : z ≤ m
 all_goals first | (exfalso; omega) | skip
 all_goals repeat (first | with_reducible refine qV ?_ | with_reducible refine qQ ?_ | (with_reducible refine qR ?_; try dsimp only) | (with_reducible refine qS ?_; try dsimp only) | (with_reducible refine qO ?_; try dsimp only) | (with_reducible refine qB ?_; try dsimp only) | (with_reducible refine jW ?_; try dsimp only) | with_reducible refine qC ?_ | with_reducible refine qv ?_ | (with_reducible refine qX ?_; try dsimp only) | with_reducible refine qj ?_ | with_reducible refine qo ?_ | with_reducible refine jq ?_ | with_reducible refine qb (by omega) ?_ | with_reducible refine qq ?_ | with_reducible refine qJ ?_ | with_reducible refine qx rfl ?_ | with_reducible refine qG (by assumption) .here rfl ?_ | with_reducible refine qd (by assumption) .here ?_ | with_reducible refine qF rfl ?_ | with_reducible refine qy (by omega) ?_ | with_reducible refine qK (by omega) ?_ | with_reducible refine jk (by omega) ?_ | with_reducible refine jj (by omega) ?_ | with_reducible refine jC (by omega) ?_ | with_reducible refine jv (by omega) ?_ | with_reducible refine z7 (by omega) ?_ | with_reducible refine z6 (by omega) ?_ | with_reducible refine jl (by omega) ?_ | with_reducible refine ja (by omega) ?_ | with_reducible refine jV (by omega) ?_ | with_reducible refine jQ (by omega) ?_)
 all_goals refine qW ⟨?_, rfl⟩
 all_goals first | rw [show xU f z = true from decide_eq_true (by omega)] | rw [show xU f z = false from decide_eq_false (by omega)]
theorem Ni (op : Int) (h : op ≠ 23) : ((q8 op).1.1 = 0 ∧ 0 ≤ (q8 op).1.2) ∧ ((q8 op).2.1.1 = 0 ∧ 0 ≤ (q8 op).2.1.2) ∧ ((q8 op).2.2.1 = 0 ∧ 0 ≤ (q8 op).2.2.2) := by
 unfold q8
 rw [if_neg h]
 repeat' split
 all_goals (dsimp only; omega)
theorem qJf {n : Nat} (hn : 2 ≤ n) {x : qM} (hm : xr x = true) (hx : x.1 ≠ 23) (H : HS g h R) : wp (callT tab qA n (.fn 93 [] []) [.agg (qe x)] h) fun r h' => r = .bool true ∧ HS g h' R := by
 (refine qP (g := (tD1 S93)) rfl (by omega) fun k hk => ?_; show wp (S93 (callT tab qA k) _ _).1 _; unfold S93; try simp only [ Int.ofNat_eq_natCast])
 obtain ⟨op, a, b, c, q⟩ := x
 unfold xr at hm
 simp only [Bool.and_eq_true, decide_eq_true_eq] at hm
 obtain ⟨⟨⟨⟨ho, fa⟩, fb⟩, fc⟩, hq⟩ := hm
 dsimp only at hx
 obtain ⟨oa, ob, oc⟩ := Ni op hx
 refine qU H rfl fun b0 h1 H1 => ?_
 have H1 : HS g h1 (qw b0 [.int .i64 op, .int .i64 a, .int .i64 b, .int .i64 c, .int .u64 q] :: R) := H1
 with_reducible (refine qJ ?_; refine qG (by assumption) .here rfl ?_)
 refine qY (qXb (by omega) (by omega) H1) ?_
 rintro _ h2 ⟨⟨nm, rfl⟩, H2⟩
 with_reducible (refine qx rfl ?_; refine qx rfl ?_)
 refine qU H2 rfl fun b2 h3 H3 => ?_
 refine jG H3 (b := b2) .here rfl (by show 0 + 5 ≤ 5; omega) rfl fun h4 H4 => ?_
 have H4 : HS g h4 (qw b2 [.str nm, .int .i64 (mo (q8 op).1), .int .i64 (mo (q8 op).2.1), .int .i64 (mo (q8 op).2.2), .bool (decide (op = 1))] :: qw b0 [.int .i64 op, .int .i64 a, .int .i64 b, .int .i64 c, .int .u64 q] :: R) := H4
 clear H1 H2 H3
 by_cases h1' : op = 1
 ·rw [decide_eq_true h1'] at H4
  with_reducible (refine qo ?_; refine qX ?_; (try dsimp only); refine qB ?_; (try dsimp only); refine qJ ?_; refine qG (by assumption) .here rfl ?_; refine qo ?_; refine qX ?_; (try dsimp only); refine qO ?_; (try dsimp only); refine qX ?_; (try dsimp only); refine qB ?_; (try dsimp only); refine qv ?_; refine qv ?_; refine qX ?_; (try dsimp only); refine qB ?_; (try dsimp only); refine qJ ?_; refine qG (by assumption) e_1 rfl ?_; refine qJ ?_; refine qG (by assumption) .here rfl ?_)
  refine qY (y8 (by omega) oa) ?_
  rintro _ _ ⟨rfl, rfl⟩
  rw [fa]
  with_reducible (refine qo ?_; refine qv ?_; refine qX ?_; (try dsimp only); refine qB ?_; (try dsimp only); refine qJ ?_; refine qG (by assumption) e_1 rfl ?_; refine qJ ?_; refine qG (by assumption) .here rfl ?_)
  refine qY (y8 (by omega) ob) ?_
  rintro _ _ ⟨rfl, rfl⟩
  rw [fb]
  with_reducible (refine qo ?_; refine qv ?_; refine qX ?_; (try dsimp only); refine qB ?_; (try dsimp only); refine qJ ?_; refine qG (by assumption) e_1 rfl ?_; refine qJ ?_; refine qG (by assumption) .here rfl ?_)
  refine qY (y8 (by omega) oc) ?_
  rintro _ _ ⟨rfl, rfl⟩
  rw [fc]
  with_reducible (refine qo ?_; refine qv ?_; refine qQ ?_; refine qJ ?_; refine qG (by assumption) e_1 rfl ?_; refine jk (by omega) ?_; refine qX ?_; (try dsimp only); refine qS ?_; (try dsimp only); refine qC ?_)
  exact qW ⟨rfl, H4.drop.drop⟩
 ·rw [decide_eq_false h1'] at H4
  have hq0 : q = 0 := by
   rcases hq with h | h
   ·exact h
   ·exact absurd h h1'
  subst hq0
  with_reducible (refine qo ?_; refine qX ?_; (try dsimp only); refine qB ?_; (try dsimp only); refine qJ ?_; refine qG (by assumption) .here rfl ?_; refine jq ?_; refine qX ?_; (try dsimp only); refine qR ?_; (try dsimp only); refine qJ ?_; refine qG (by assumption) e_1 rfl ?_; refine jj (by omega) ?_; refine qX ?_; (try dsimp only); refine qB ?_; (try dsimp only); refine qC ?_; refine qv ?_; refine qX ?_; (try dsimp only); refine qB ?_; (try dsimp only); refine qJ ?_; refine qG (by assumption) e_1 rfl ?_; refine qJ ?_; refine qG (by assumption) .here rfl ?_)
  refine qY (y8 (by omega) oa) ?_
  rintro _ _ ⟨rfl, rfl⟩
  rw [fa]
  with_reducible (refine qo ?_; refine qv ?_; refine qX ?_; (try dsimp only); refine qB ?_; (try dsimp only); refine qJ ?_; refine qG (by assumption) e_1 rfl ?_; refine qJ ?_; refine qG (by assumption) .here rfl ?_)
  refine qY (y8 (by omega) ob) ?_
  rintro _ _ ⟨rfl, rfl⟩
  rw [fb]
  with_reducible (refine qo ?_; refine qv ?_; refine qX ?_; (try dsimp only); refine qB ?_; (try dsimp only); refine qJ ?_; refine qG (by assumption) e_1 rfl ?_; refine qJ ?_; refine qG (by assumption) .here rfl ?_)
  refine qY (y8 (by omega) oc) ?_
  rintro _ _ ⟨rfl, rfl⟩
  rw [fc]
  with_reducible (refine qo ?_; refine qv ?_; refine qQ ?_; refine qJ ?_; refine qG (by assumption) e_1 rfl ?_; refine jk (by omega) ?_; refine qX ?_; (try dsimp only); refine qS ?_; (try dsimp only); refine qC ?_)
  exact qW ⟨rfl, H4.drop.drop⟩
end Go.Proofs.YtdlfmpmpmkffjaaGreatDoor
namespace Go.Proofs.YtdlfmpmpmkffjaaGreatDoor
open Go Go.Ae
set_option maxRecDepth 100000
variable {g h : AH} {L R : List SP}
def Xi (l : List qM) : List Int := if (xS l).2 = 0 then qi l else []
theorem VG {n : Nat} (hn : 7 ≤ n) {l : List qM} {sv : AV} (H : HS g h R) (S : Rd g R 5 l.length sv (l.flatMap qe)) (hl : l.length ≤ 100) :
  wp (callT tab qA n (.fn 48 [] []) [.agg [sv]] h) fun v h' => HS g h' (qz 3 1 (Xi l).length v ((Xi l).map (.int .i64)) :: R) := by
 (refine qP (g := (tD1 S48)) rfl (by omega) fun k hk => ?_; show wp (S48 (callT tab qA k) _ _).1 _; unfold S48; try simp only [ Int.ofNat_eq_natCast])
 refine qU H (xK (yn (S.sl H))) fun b0 h1 H1 => ?_
 have hLV := (S.sl H).lenV
 clear H
 refine qh H1 (b := b0) (off := 0) .here rfl (by omega) rfl ?_
 refine qY (GH (by omega) H1 S.more hl) ?_
 rintro _ h2 ⟨rfl, H2⟩
 clear H1
 with_reducible (refine qx rfl ?_; refine qx rfl ?_)
 by_cases c0 : (xS l).2 = 0
 rotate_left
 ·refine jk c0 ?_
  refine qV ?_
  unfold Xi
  rw [if_neg c0]
  exact qW H2.drop.nils
 have hG := Xj c0
 have F := G9 c0
 have hnr := fun {j : Nat} (h : j < l.length) => xP F h
 have hrg := fun {j : Nat} (h : j < l.length) => F.reg j h
 unfold Xi
 rw [if_pos c0]
 have hM : qi l = mt2 l (zL l 0 []) l.length := rfl
 rw [hM]
 clear hM
 refine jj c0 ?_
 refine qQ ?_
 refine qh H2 (b := b0) (off := 0) .here rfl (by omega) rfl ?_
 refine qY (Jn (by omega) H2 S.more hG hl) ?_
 intro av h3 H3
 clear H2
 with_reducible (refine qJ ?_; refine qG (by assumption) e_1 rfl ?_; refine j6 (by assumption) ?_)
 refine wi (n := l.length) H3 (by omega) fun ev h4 H4 => ?_
 refine qd H4 .here ?_
 clear H3
 have hA : (zL l 0 []).length = l.length := wY
 have hin := fun {i : Nat} => qVO (i := i) hG
 generalize zL l 0 [] = A at *
 refine jz (fun m s h' => ∃ (i : Nat), s = (.int .i64 (i : Int), .int .i64 (l.length : Int), ev, av, .ptr b0 0, ()) ∧ i ≤ l.length ∧ m = l.length - i ∧
  HS g h' (qz 3 1 l.length ev ((List.replicate i (-1 : Int) ++ List.replicate (l.length - i) 0).map (.int .i64)) :: qz 3 1 l.length av (A.map (.int .i64)) :: qw b0 [sv] :: R))
  ?_ (m := l.length) (by show _ < 1000000000; omega) ⟨0, rfl, by omega, by omega, by rw [List.replicate_zero, List.nil_append, Nat.sub_zero, List.map_replicate]; exact H4⟩
 clear H4
 rintro m ih s h5 hih ⟨i, rfl, hi, rfl, H⟩
 dsimp only
 by_cases hlt : i < l.length
 ·with_reducible (refine jC (by omega) ?_; refine qV ?_)
  refine xR H hlt ⟨rfl, rfl⟩ fun h6 H6 => ?_
  with_reducible (refine qD (by omega) ?_)
  have h0 : (AV.int .i64 (Int.negSucc 0)) = .int .i64 (-1) := rfl
  rw [h0, ← List.map_set] at H6
  have es : (List.replicate i (-1 : Int) ++ List.replicate (l.length - i) 0).set i (-1) = List.replicate (i + 1) (-1 : Int) ++ List.replicate (l.length - (i + 1)) 0 := by
   rw [show l.length - i = (l.length - (i + 1)) + 1 by omega, List.replicate_succ, List.set_append_right _ _ (by simp), List.length_replicate, Nat.sub_self, List.set_cons_zero, List.replicate_succ' (n := i), List.append_assoc]; rfl
  rw [es] at H6
  exact hih (l.length - (i + 1)) _ _ (by omega) ⟨i + 1, rfl, by omega, rfl, H6⟩
 obtain rfl : i = l.length := by omega
 clear hih
 rw [Nat.sub_self, List.replicate_zero, List.append_nil] at H
 have hL1 : ∀ i, (mt1 l A i).length = l.length := fun i => wz i
 have hL2 : ∀ i, (mt2 l A i).length = l.length := fun i => XZ i
 with_reducible (refine jv (by omega) ?_; refine qQ ?_; refine qJ ?_; refine qG (by assumption) e_2 rfl ?_; refine j6 (by assumption) ?_)
 refine jz (fun m s h' => ∃ (i : Nat), s = (.int .i64 (i : Int), .int .i64 (l.length : Int), sv, ev, av, .ptr b0 0, ()) ∧ i ≤ l.length ∧ m = l.length - i ∧
  HS g h' (qz 3 1 l.length ev ((mt1 l A i).map (.int .i64)) :: qz 3 1 l.length av (A.map (.int .i64)) :: qw b0 [sv] :: R))
  ?_ (m := l.length) (by show _ < 1000000000; omega) ⟨0, rfl, by omega, by omega, H⟩
 clear H
 rintro m ih s h6 hih ⟨i, rfl, hi, rfl, H⟩
 dsimp only
 by_cases hlt : i < l.length
 ·have hrow := vr hlt
  have hini := hin hlt
  have hrgi := hrg hlt
  have hnri := hnr hlt
  have hstep : mt1 l A (i + 1) = if 0 < jE (qL l (i : Int)).1 then (mt1 l A i).set (qE A (i : Int)).toNat i else mt1 l A i := rfl
  rw [zH hlt] at hstep
  generalize l[i] = x at *
  refine jC (by omega) (qV ?_)
  refine zB [] (fun s h' => s = (.int .i64 (i : Int), .int .i64 (l.length : Int), sv, ev, av, .ptr b0 0, ()) ∧
   HS g h' (qz 3 1 l.length ev ((mt1 l A (i + 1)).map (.int .i64)) :: qz 3 1 l.length av (A.map (.int .i64)) :: qw b0 [sv] :: R)) ?_ ?_
  rotate_left
  ·rintro s h7 ⟨rfl, H7⟩
   with_reducible (refine qD (by omega) ?_)
   exact hih (l.length - (i + 1)) _ _ (by omega) ⟨i + 1, rfl, by omega, rfl, H7⟩
  intro j hj
  refine zJ (S.sl H.drop.drop.drop) hlt (by omega) hrow ?_
  refine qU H rfl fun b h7 H7 => ?_
  refine jG H7 (b := b) .here rfl (by simp [qe]) rfl fun h8 H8 => ?_
  have H8 : HS g h8 (qw b [.int .i64 x.1, .int .i64 x.2.1, .int .i64 x.2.2.1, .int .i64 x.2.2.2.1, .int .u64 x.2.2.2.2] :: qz 3 1 l.length ev ((mt1 l A i).map (.int .i64)) :: qz 3 1 l.length av (A.map (.int .i64)) :: qw b0 [sv] :: R) := H8
  clear H H7
  with_reducible (refine qJ ?_; refine qG (by assumption) .here rfl ?_)
  refine qY (Qf (by omega)) ?_
  rintro _ h8 ⟨rfl, rfl⟩
  by_cases he : 0 < jE x.1
  ·obtain ⟨p, hp, hpl⟩ := hini (.inl he)
   refine jl he (qV ?_)
   refine jF (H8.sl e_2) (x := .int .i64 (p : Int)) (by rw [List.getElem?_map, hp]; rfl) ?_
   refine xR (H8.sel e_1) hpl ⟨rfl, rfl⟩ fun h9 H9 => ?_
   rw [← List.map_set] at H9
   have hnp : qE A (i : Int) = p := by unfold qE; rw [Int.toNat_natCast, hp]; rfl
   rw [if_pos he, hnp, Int.toNat_natCast] at hstep
   rw [← hstep] at H9
   exact hj _ _ ⟨rfl, H9.sub (.cons .here (.cons e_1 (.cons e_1 (.drop .refl))))⟩
  ·refine ja he (qQ ?_)
   rw [if_neg he] at hstep
   exact hj _ _ ⟨rfl, by rw [hstep]; exact H8.drop⟩
 obtain rfl : i = l.length := by omega
 clear hih
 with_reducible (refine jv (by omega) ?_; refine qQ ?_; refine qJ ?_; refine qG (by assumption) e_2 rfl ?_; refine j6 (by assumption) ?_)
 refine jz (fun m s h' => ∃ (i : Nat), s = (.int .i64 (i : Int), .int .i64 (l.length : Int), sv, ev, av, ()) ∧ i ≤ l.length ∧ m = l.length - i ∧
  HS g h' (qz 3 1 l.length ev ((mt2 l A i).map (.int .i64)) :: qz 3 1 l.length av (A.map (.int .i64)) :: qw b0 [sv] :: R))
  ?_ (m := l.length) (by show _ < 1000000000; omega) ⟨0, rfl, by omega, by omega, H⟩
 clear H
 rintro m ih s h6 hih ⟨i, rfl, hi, rfl, H⟩
 dsimp only
 by_cases hlt : i < l.length
 ·have hrow := vr hlt
  have hini := hin hlt
  have hstep : mt2 l A (i + 1) = if (qL l (i : Int)).1 = 16 then (mt2 l A i).set i (qE (mt2 l A i) (qE A (i : Int))) else mt2 l A i := rfl
  rw [zH hlt] at hstep
  generalize l[i] = x at *
  refine jC (by omega) (qV ?_)
  refine zB [] (fun s h' => s = (.int .i64 (i : Int), .int .i64 (l.length : Int), sv, ev, av, ()) ∧
   HS g h' (qz 3 1 l.length ev ((mt2 l A (i + 1)).map (.int .i64)) :: qz 3 1 l.length av (A.map (.int .i64)) :: qw b0 [sv] :: R)) ?_ ?_
  rotate_left
  ·rintro s h7 ⟨rfl, H7⟩
   with_reducible (refine qD (by omega) ?_)
   exact hih (l.length - (i + 1)) _ _ (by omega) ⟨i + 1, rfl, by omega, rfl, H7⟩
  intro j hj
  refine zJ (S.sl H.drop.drop.drop) hlt (by omega) hrow ?_
  refine qU H rfl fun b h7 H7 => ?_
  refine jG H7 (b := b) .here rfl (by simp [qe]) rfl fun h8 H8 => ?_
  have H8 : HS g h8 (qw b [.int .i64 x.1, .int .i64 x.2.1, .int .i64 x.2.2.1, .int .i64 x.2.2.2.1, .int .u64 x.2.2.2.2] :: qz 3 1 l.length ev ((mt2 l A i).map (.int .i64)) :: qz 3 1 l.length av (A.map (.int .i64)) :: qw b0 [sv] :: R) := H8
  clear H H7
  with_reducible (refine qJ ?_; refine qG (by assumption) .here rfl ?_)
  by_cases he : x.1 = 16
  ·obtain ⟨p, hp, hpl⟩ := hini (.inr he)
   refine qy he (qV ?_)
   refine jF (H8.sl e_2) (x := .int .i64 (p : Int)) (by rw [List.getElem?_map, hp]; rfl) ?_
   refine jF (H8.sl e_1) (x := .int .i64 (qE (mt2 l A i) (p : Int))) (by rw [List.getElem?_map, QS (by rw [hL2]; exact hpl)]; rfl) ?_
   refine xR (H8.sel e_1) hlt ⟨rfl, rfl⟩ fun h9 H9 => ?_
   rw [← List.map_set] at H9
   have hnp : qE A (i : Int) = p := by unfold qE; rw [Int.toNat_natCast, hp]; rfl
   rw [if_pos he, hnp] at hstep
   rw [← hstep] at H9
   exact hj _ _ ⟨rfl, H9.sub (.cons .here (.cons e_1 (.cons e_1 (.drop .refl))))⟩
  ·refine qK he (qQ ?_)
   rw [if_neg he] at hstep
   exact hj _ _ ⟨rfl, by rw [hstep]; exact H8.drop⟩
 obtain rfl : i = l.length := by omega
 with_reducible (refine jv (by omega) ?_; refine qQ ?_; refine qj ?_)
 refine qW ?_
 rw [hL2]
 exact H.sub (.cons .here (.drop (.drop .refl)))
def Jp : IM := ⟨[0, 0, 0, 0, 0, 0, 0, 0], [], 0, []⟩
theorem qZ8 {l : List qM} {V : VM} (h1 : V.lv.length = 1) (G : jT V) : GI l Jp V :=
 ⟨⟨⟨rfl, by intro z hz; simp [Jp] at hz; subst hz; omega⟩, Nat.zero_le _, fun x hx => by cases hx⟩, ⟨0, rfl, Nat.zero_le _⟩, (fun p hp => by cases hp), trivial, rfl, h1, G⟩
def zC (fuel : Int) : Nat := (max 0 (min fuel 400)).toNat
theorem qX8 {n : Nat} (hn : 8 ≤ n) {l : List qM} {sv : AV} {v : Nat} {fuel : Int} (H : HS g h R) (S : Rd g R 5 l.length sv (l.flatMap qe)) (hl : l.length ≤ 100) :
  wp (callT tab qA n (.fn 12 [] []) [.agg [sv], .ptr v 0, .int .i64 fuel] h) fun r h' => ∃ x, r = .ptr x 0 ∧ HS g h' (IntC x v l (xS l).2 (Xi l) Jp 0 0 (zC fuel : Nat) 0 :: R) := by
 (refine qP (g := (tD3 S12)) rfl (by omega) fun k hk => ?_; show wp (S12 (callT tab qA k) _ _ _ _).1 _; unfold S12; try simp only [ Int.ofNat_eq_natCast])
 refine qU H (xK (yn (S.sl H))) fun b0 h1 H1 => ?_
 with_reducible (refine qJ ?_; refine qG (by assumption) .here rfl ?_)
 refine je (H1.nils) (S.sl H1.drop) (by omega) (by omega) (Jd l) fun cv h2 H2 => ?_
 rw [List.nil_append, Nat.zero_add] at H2
 have oc := H2.one .here
 refine qJ ?_
 refine qc H2 (b := b0) e_1 oc (by simp) fun h3 H3 => ?_
 have H3 : HS g h3 (qw b0 [cv] :: qz 28 5 l.length cv (l.flatMap qe) :: R) := H3
 refine qh H3 (b := b0) (off := 0) .here rfl (by omega) rfl ?_
 refine qY (GH (by omega) H3 (Rd.own e_1) hl) ?_
 rintro _ h4 ⟨rfl, H4⟩
 with_reducible (refine qx rfl ?_; refine qx rfl ?_; refine qX ?_; (try dsimp only))
 refine qh H4 (b := b0) (off := 0) .here rfl (by omega) rfl ?_
 refine qh H4 (b := b0) (off := 0) .here rfl (by omega) rfl ?_
 refine qY (VG (by omega) H4 (Rd.own e_1) hl) ?_
 intro mv h5 H5
 have om := H5.one .here
 refine qY (Q' := fun r h' => ∃ o, r = .ptr o 0 ∧ HS g h' (qw o [.nils] :: qz 3 1 (Xi l).length mv ((Xi l).map (.int .i64)) :: qw b0 [cv] :: qz 28 5 l.length cv (l.flatMap qe) :: R)) ?_ ?_
 ·(refine qP (g := (tD0 S49)) rfl (by omega) fun k hk => ?_; show wp (S49 (callT tab qA k) _).1 _; unfold S49; try simp only [ Int.ofNat_eq_natCast])
  with_reducible (refine qF rfl ?_)
  exact qU H5 rfl fun o h6 H6 => qW ⟨o, rfl, H6⟩
 rintro _ h6 ⟨o, rfl, H6⟩
 refine zx (zg ?_)
 rw [show max ((0 : Nat) : Int) (min fuel ((400 : Nat) : Int)) = ((zC fuel : Nat) : Int) by unfold zC; omega]
 refine qF (l := yM cv mv .nils v o (xS l).2 0 0 (zC fuel : Nat) 0 0 [0, 0, 0, 0, 0, 0, 0, 0]) (by
  have e : (AV.agg (List.take 1 (List.drop 0 [cv]))).cells = [cv] := rfl
  simp only [yd, e, om.1]; rfl) ?_
 refine qU H6 (by unfold yM; simp only [q9, List.all_cons, oc.2, om.2]; rfl) fun x h7 H7 => ?_
 refine zt H5 (b := b0) e_1 rfl H6 e_2 rfl rfl (by omega) (HS.lt H4 .here) ?_
 refine zt H4 (b := b0) .here rfl H5 e_1 rfl rfl (by omega) (HS.lt H4 .here) ?_
 skip
 refine qW ⟨x, rfl, ?_⟩
 have H8 := (H7.nils (e := 20) (sz := 1)).nils (e := 195) (sz := 11)
 have H9 : HS g h7 (SlaC o [] :: qz 195 11 0 .nils [] :: qw x (yM cv mv .nils v o (xS l).2 0 0 (zC fuel : Nat) 0 0 [0, 0, 0, 0, 0, 0, 0, 0]) :: qz 3 1 (Xi l).length mv ((Xi l).map (.int .i64)) :: qw b0 [cv] ::
  qz 28 5 l.length cv (l.flatMap qe) :: R) := SlaC.I (l := []) (sv := .nils) (H8.sub (.cons e_3 (.cons e_1 (.cons .here (.cons .here .refl)))))
 exact IntC.I (s := Jp) (c := cv) (mv := mv) (ov := .nils) (o := o) (H9.sub (.cons e_2 (.cons e_4 (.cons e_2 (.cons .here (.cons .here (.drop .refl)))))))
section
variable {x v : Nat} {l : List qM} {bad : Int} {mt : List Int} {s : IM} {err fin left nx : Int}
end
end Go.Proofs.YtdlfmpmpmkffjaaGreatDoor
namespace Go.Proofs.YtdlfmpmpmkffjaaGreatDoor
open Go Go.Ae
set_option maxRecDepth 100000
variable {g h : AH} {L R : List SP}
def JY (l : List qM) (p : Int) : List AV := [.int .i64 p, .int .i64 (qL l p).1]
theorem gu (l : List qM) (st : List Int) : (st.flatMap (JY l)).length = st.length * 2 := xm (sz := 2) _ (fun _ => rfl) _
theorem qXU {l : List qM} (F : Fit l) : ∀ i j, i ≤ j → j < l.length → (mt1 l (zL l 0 []) i)[j]? = some (-1) := by
 intro i
 induction i with
 | zero => intro j h1 h2; unfold mt1; rw [List.getElem?_replicate, if_pos h2]
 | succ i ih =>
  intro j h1 h2
  rw [KO]
  split
  ·rename_i he
   rw [List.getElem?_set_ne, ih j (by omega) h2]
   rw [xP F (by omega)]
   have hn := (zG (F.ok i (by omega))).2.1 (.inl he)
   have := (QQ (l := l) i).1.inmost hn
   omega
  ·exact ih j (by omega) h2
def Q9 (l : List qM) (i : Nat) : List Int := (mt1 l (zL l 0 []) i).take i ++ List.replicate (l.length - i) 0
def Uy (l : List qM) (i : Nat) : List Int := (mt1 l (zL l 0 []) i).take (i + 1) ++ List.replicate (l.length - (i + 1)) 0
theorem UN {n i : Nat} (h : i < n) : List.replicate (n - i) (0 : Int) = 0 :: List.replicate (n - (i + 1)) 0 := by
 rw [show n - i = (n - (i + 1)) + 1 by omega, List.replicate_succ]
theorem qZF {l : List qM} (F : Fit l) {i : Nat} (h : i < l.length) : (Q9 l i).set i (-1) = Uy l i := by
 have hl := wz (l := l) (A := zL l 0 []) i
 unfold Q9 Uy
 rw [UN h, List.set_append_right _ _ (by simp; omega), List.length_take, Nat.min_eq_left (by omega), Nat.sub_self, List.set_cons_zero, List.take_add_one, qXU F i i (Nat.le_refl _) h, List.append_assoc]; rfl
theorem qJE {l : List qM} {i : Nat} (h : ¬ 0 < jE (qL l i).1) : Uy l i = Q9 l (i + 1) := by
 unfold Uy Q9
 rw [KO, if_neg h]
theorem qZO {l : List qM} (F : Fit l) {i p : Nat} (h : i < l.length) (he : 0 < jE (qL l i).1) (hp : qp (qg l i) = p) (hpi : p < i) : (Uy l i).set p i = Q9 l (i + 1) := by
 have hl := wz (l := l) (A := zL l 0 []) i
 unfold Uy Q9
 rw [KO, if_pos he, xP F h, hp, Int.toNat_natCast, List.take_set, List.set_append_left _ _ (by simp; omega)]
theorem qKN {l : List qM} {i : Nat} (h : i < l.length) : (Uy l i).length = l.length := by
 have hl := wz (l := l) (A := zL l 0 []) i
 unfold Uy
 simp; omega
theorem qQt {l : List qM} (F : Fit l) {i : Nat} (h : i < l.length) : ((zL l 0 []).take i ++ List.replicate (l.length - i) 0).set i (qp (qg l i)) = (zL l 0 []).take (i + 1) ++ List.replicate (l.length - (i + 1)) 0 := by
 have hl : (zL l 0 []).length = l.length := wY
 rw [UN h, List.set_append_right _ _ (by simp; omega), List.length_take, Nat.min_eq_left (by omega), Nat.sub_self, List.set_cons_zero, List.take_add_one, F.reg i h, List.append_assoc]; rfl
theorem Gp {op : Int} : (op = 15 → jE op = 14) ∧ (op = 18 → jE op = 17) ∧ (op = 19 → jE op = 18) ∧ (op ≠ 15 → op ≠ 18 → op ≠ 19 → jE op = 0) := by
 unfold jE
 refine ⟨fun h => by rw [if_pos h], fun h => by rw [if_neg (by omega), if_pos h], fun h => by rw [if_neg (by omega), if_neg (by omega), if_pos h], fun h1 h2 h3 => by rw [if_neg h1, if_neg h2, if_neg h3]⟩
theorem G1 {st : List Int} (h : st ≠ []) : st = st.dropLast ++ [qp st] := by
 have := List.dropLast_concat_getLast h
 rw [show st.getLast h = qp st by unfold qp; rw [List.getLast?_eq_some_getLast h]; rfl] at this
 exact this.symm
theorem ZG {x : qM} {i : Nat} {st : List Int} (hwo : 0 < jE x.1 ∨ x.1 = 16 → st ≠ []) (hin : StOk i st) (c : x.1 = 15 ∨ x.1 = 19 ∨ x.1 = 18) : 0 < jE x.1 ∧ st ≠ [] ∧ ∃ p : Nat, qp st = p ∧ p < i := by
 have hend := Gp (op := x.1)
 have he : 0 < jE x.1 := by
  rcases c with c | c | c
  ·rw [hend.1 c]; decide
  ·rw [hend.2.2.1 c]; decide
  ·rw [hend.2.1 c]; decide
 have hn := hwo (.inl he)
 have := hin.inmost hn
 exact ⟨he, hn, (qp st).toNat, by omega, by omega⟩
set_option maxHeartbeats 8000000 in
theorem Mu {n : Nat} (hn : 3 ≤ n) {l : List qM} {sv : AV} (F : Fit l) (Q : Quiet l) (H : HS g h R) (S : Rd g R 5 l.length sv (l.flatMap qe)) :
  wp (callT tab qA n (.fn 62 [] []) [.agg [sv]] h) fun r h' => ∃ rv mv, r = .tup [.int .i64 0, .int .i64 0, rv, mv] ∧ HS g h' (qz 3 1 l.length mv ((qi l).map (.int .i64)) :: R) := by
 (refine qP (g := (tD1 S62)) rfl (by omega) fun k hk => ?_; show wp (S62 (callT tab qA k) _ _).1 _; unfold S62; try simp only [ Int.ofNat_eq_natCast])
 have hpos := F.pos
 have hle := F.le
 refine qU H (xK (yn (S.sl H))) fun b0 h1 H1 => ?_
 have hLV := (S.sl H).lenV
 clear H
 with_reducible (refine qJ ?_; refine qG (by assumption) .here rfl ?_; refine j6 (by assumption) ?_; refine qK (by omega) ?_; refine qX ?_; (try dsimp only); refine qB ?_; (try dsimp only); refine qJ ?_; refine qG (by assumption) .here rfl ?_; refine j6 (by assumption) ?_; refine ja (by omega) ?_; refine qv ?_; refine qQ ?_; refine qJ ?_; refine qG (by assumption) .here rfl ?_; refine j6 (by assumption) ?_)
 refine wi (n := l.length) H1 (by omega) fun rv h2 H2 => ?_
 with_reducible (refine qJ ?_; refine qG (by assumption) e_1 rfl ?_; refine j6 (by assumption) ?_)
 refine wi (n := l.length) H2 (by omega) fun mv h3 H3 => ?_
 clear H1 H2
 refine jz (fun m s h' => ∃ (i : Nat) (tv : AV), s = (.int .i64 (i : Int), mv, rv, tv, .ptr b0 0, ()) ∧ i ≤ l.length ∧ m = l.length - i ∧
  HS g h' (qz 3 1 l.length mv ((Q9 l i).map (.int .i64)) :: qz 3 1 l.length rv (((zL l 0 []).take i ++ List.replicate (l.length - i) 0).map (.int .i64)) ::
   qz 157 2 (qg l i).length tv ((qg l i).flatMap (JY l)) :: qw b0 [sv] :: R))
  ?_ (m := l.length) (by show _ < 1000000000; omega) ⟨0, .nils, rfl, by omega, by omega, by
   have e1 : Q9 l 0 = List.replicate l.length 0 := by unfold Q9; simp
   rw [e1, List.take_zero, List.nil_append, Nat.sub_zero, List.map_replicate]
   exact (H3.nils (e := 157) (sz := 2)).sub (.cons e_1 (.cons e_1 (.cons .here .refl)))⟩
 clear H3
 rintro m ih s h4 hih ⟨i, tv, rfl, hi, rfl, H⟩
 dsimp only
 by_cases hlt : i < l.length
 ·have hrow := vr hlt
  have hw := xd (F.ok i hlt)
  have hwo := zG (F.ok i hlt)
  have hq := (Q.at hlt).1
  have hin := (QQ (l := l) i).1
  have hs5 := wO F i (by omega)
  have hst : qg l (i + 1) = qt (qg l i) i (qL l i).1 := jw
  have hms := qJE (l := l) (i := i)
  have hmt := fun {p : Nat} => qZO (i := i) (p := p) F hlt
  have hps := qZF F hlt
  have hrs := qQt F hlt
  have hml := qKN (l := l) hlt
  have hel := gu l (qg l i)
  rw [zH hlt] at hst hw hwo hq hms hmt
  have hcell : l[i]? = some l[i] := List.getElem?_eq_getElem hlt
  have hfi : ((l.flatMap qe)[i * 5 + 0]?) = some (.int .i64 l[i].1) := by rw [zD (sz := 5) qe (fun _ => rfl) _ _ _ (by omega), hcell]; rfl
  have hself : (qL l (i : Int)).1 = l[i].1 := by rw [zH hlt]
  generalize hx : l[i] = x at *
  generalize hST : qg l i = st at *
  with_reducible (refine qJ ?_; refine qG (by assumption) e_3 rfl ?_; refine j6 (by assumption) ?_; refine jC (by omega) ?_; refine qV ?_; refine qF rfl ?_)
  refine qU H rfl fun bi h5 H5 => ?_
  refine jG H5 (b := bi) .here rfl (by show 0 + 2 ≤ 2; omega) rfl fun h6 H6 => ?_
  have H6 : HS g h6 (qw bi [.int .i64 (-1), .int .i64 ((0 : Nat) : Int)] :: qz 3 1 l.length mv ((Q9 l i).map (.int .i64)) :: qz 3 1 l.length rv (((zL l 0 []).take i ++ List.replicate (l.length - i) 0).map (.int .i64)) ::
   qz 157 2 st.length tv (st.flatMap (JY l)) :: qw b0 [sv] :: R) := H6
  clear H H5
  refine zB [] (fun s h' => s = (.ptr bi 0, .int .i64 (i : Int), mv, rv, tv, .ptr b0 0, ()) ∧ HS g h' (qw bi [.int .i64 (qp st), .int .i64 (opM l st)] :: qz 3 1 l.length mv ((Q9 l i).map (.int .i64)) :: qz 3 1 l.length rv (((zL l 0 []).take i ++ List.replicate (l.length - i) 0).map (.int .i64)) ::
   qz 157 2 st.length tv (st.flatMap (JY l)) :: qw b0 [sv] :: R)) ?_ ?_
  ·intro j hj
   refine qd H6 e_3 ?_
   by_cases h0 : st = []
   ·subst h0
    refine ja (by simp) (qQ ?_)
    exact hj _ _ ⟨rfl, H6⟩
   ·have hl0 : st.length ≠ 0 := fun h => h0 (List.eq_nil_of_length_eq_zero h)
    refine jl (by omega) (qV ?_)
    refine qd H6 e_3 (qb (by omega) ?_)
    rw [show (st.length : Int) - ((1 : Nat) : Int) = ((st.length - 1 : Nat) : Int) by omega]
    refine zJ (l := JY l (qp st)) (H6.sl e_3) (by omega) (by omega) ?_ ?_
    ·have e := G1 h0
     generalize qp st = z at *
     rw [e, List.length_append, List.length_singleton, Nat.add_sub_cancel, List.flatMap_append, List.drop_append_of_le_length (by rw [gu]; exact Nat.le_refl _), List.drop_of_length_le (by rw [gu]; exact Nat.le_refl _)]; rfl
    refine jG H6 (b := bi) .here rfl (by show 0 + 2 ≤ 2; omega) rfl fun h7 H7 => ?_
    refine hj _ _ ⟨rfl, ?_⟩
    have e : opM l st = (qL l (qp st)).1 := by unfold opM; rw [if_neg h0]
    rw [e]
    exact H7
  clear H6
  rintro s h7 ⟨rfl, H7⟩
  dsimp only
  refine qJ (qG H7 (b := bi) .here rfl ?_)
  refine xR (H7.sel e_2) hlt ⟨rfl, rfl⟩ fun h8 H8 => ?_
  rw [← List.map_set, hrs] at H8
  clear H7
  refine xR (H8.sel e_2) hlt ⟨rfl, rfl⟩ fun h9 H9 => ?_
  have em : (AV.int .i64 (Int.negSucc 0)) = .int .i64 (-1) := rfl
  rw [em, ← List.map_set, hps] at H9
  clear H8
  refine qJ (qG H9 (b := b0) e_4 rfl ?_)
  refine zJ (S.sl H9.drop.drop.drop.drop.drop) hlt (by omega) hrow ?_
  refine qY (qJf (by omega) hw.1 hq H9) ?_
  rintro _ h10 ⟨rfl, H10⟩
  clear H9
  refine qo (qQ ?_)
  refine qJ (qG H10 (b := b0) e_4 rfl ?_)
  refine js (S.sl H10.drop.drop.drop.drop.drop) (by omega) hlt hfi ?_
  have hop : opM l st = 14 ∧ (x.1 = 15 ∨ x.1 = 16) ∨ opM l st = 17 ∧ x.1 = 18 ∨ opM l st = 18 ∧ x.1 = 19 ∨ (x.1 ≠ 15 ∧ x.1 ≠ 16 ∧ x.1 ≠ 18 ∧ x.1 ≠ 19) := by
   have e := Gp (op := x.1)
   have e2 := hw.2.1
   have e3 := hw.2.2.1
   by_cases k1 : x.1 = 15
   ·rw [e.1 k1] at e2; have := e2 (by omega); omega
   by_cases k2 : x.1 = 18
   ·rw [e.2.1 k2] at e2; have := e2 (by omega); omega
   by_cases k3 : x.1 = 19
   ·rw [e.2.2.1 k3] at e2; have := e2 (by omega); omega
   by_cases k4 : x.1 = 16
   ·have := e3 k4; omega
   ·omega
  have hend := Gp (op := x.1)
  have nxt : ∀ (tv' : AV) (h' : AH), HS g h' (qz 3 1 l.length mv ((Q9 l (i + 1)).map (.int .i64)) :: qz 3 1 l.length rv (((zL l 0 []).take (i + 1) ++ List.replicate (l.length - (i + 1)) 0).map (.int .i64)) ::
    qz 157 2 (qg l (i + 1)).length tv' ((qg l (i + 1)).flatMap (JY l)) :: qw b0 [sv] :: R) →
    wp (jZ .add (.int .i64 (i : Int)) (.int .i64 ((1 : Nat) : Int)) fun v => ih (v, mv, rv, tv', .ptr b0 0, ()) h' []) fun r h' => ∃ rv mv, r = .tup [.int .i64 0, .int .i64 0, rv, mv] ∧ HS g h' (qz 3 1 l.length mv ((qi l).map (.int .i64)) :: R) := by
   intro tv' h' H'
   exact qD (by omega) (hih (l.length - (i + 1)) _ _ (by omega) ⟨i + 1, tv', rfl, by omega, rfl, H'⟩)
  generalize opM l st = oi at *
  have hc : (x.1 = 14 ∨ x.1 = 17) ∨ (x.1 = 15 ∨ x.1 = 19) ∨ x.1 = 18 ∨ x.1 = 16 ∨ (x.1 ≠ 14 ∧ x.1 ≠ 17 ∧ x.1 ≠ 15 ∧ x.1 ≠ 19 ∧ x.1 ≠ 18 ∧ x.1 ≠ 16) := by omega
  have push : (x.1 = 14 ∨ x.1 = 17) → wp (jZ .geq (.int .i64 (st.length : Int)) (.int .i64 ((5 : Nat) : Int)) fun v101 => jO v101 (jB [] h10 fun h102 => some (.tup [.int .i64 (i : Int), .int .i64 ((9 : Nat) : Int), .nils, .nils], h102))
    (jS [.int .i64 ((0 : Nat) : Int), .int .i64 ((0 : Nat) : Int)] [(0, 1, .int .i64 (i : Int)), (1, 1, .int .i64 x.1)] fun v103 => j0 h10 157 [.int .i64 ((0 : Nat) : Int), .int .i64 ((0 : Nat) : Int)] 1 [(0, 2, v103)] fun v104 h105 =>
     zQ h105 157 2 tv v104 fun v106 h107 => jZ .add (.int .i64 (i : Int)) (.int .i64 ((1 : Nat) : Int)) fun v95 => ih (v95, mv, rv, v106, .ptr b0 0, ()) h107 [])) fun r h' => ∃ rv mv, r = .tup [.int .i64 0, .int .i64 0, rv, mv] ∧ HS g h' (qz 3 1 l.length mv ((qi l).map (.int .i64)) :: R) := by
   intro c
   have hb := hw.2.2.2 (by unfold zZ; exact decide_eq_true c)
   have hz := hend.2.2.2 (by omega) (by omega) (by omega)
   refine jQ (by omega) (qQ ?_)
   refine qF (l := [.int .i64 (i : Int), .int .i64 x.1]) rfl ?_
   refine qf (n := 1) (l := [.int .i64 (i : Int), .int .i64 x.1]) (sz := 2) H10 rfl rfl rfl rfl fun v11 h11 H11 => ?_
   refine je (H11.sel e_4) (H11.sl .here) (by omega) (by omega) rfl fun v12 h12 H12 => ?_
   refine nxt v12 h12 ?_
   have e : qt st i x.1 = st ++ [(i : Int)] := by
    unfold qt
    rw [if_pos (.inl (by unfold zZ; exact decide_eq_true c)), if_neg (by omega)]
   rw [hst, e, ← hms (by omega), List.length_append, List.flatMap_append]
   have e2 : [(i : Int)].flatMap (JY l) = [.int .i64 (i : Int), .int .i64 x.1] := by rw [← hself]; rfl
   rw [e2]
   exact H12.sub (.cons e_2 (.cons e_2 (.cons .here (.drop (.drop (.cons .here .refl))))))
  have pop : (x.1 = 15 ∨ x.1 = 19) → wp (xj mv (.int .i64 (qp st)) 1 fun v114 => jX h10 v114 (.int .i64 (i : Int)) 1 fun h115 => xA tv fun v116 => jZ .sub v116 (.int .i64 ((1 : Nat) : Int)) fun v117 => zS h115 157 2 tv none (some v117) fun v118 =>
    jZ .add (.int .i64 (i : Int)) (.int .i64 ((1 : Nat) : Int)) fun v95 => ih (v95, mv, rv, v118, .ptr b0 0, ()) h115 []) fun r h' => ∃ rv mv, r = .tup [.int .i64 0, .int .i64 0, rv, mv] ∧ HS g h' (qz 3 1 l.length mv ((qi l).map (.int .i64)) :: R) := by
   intro c
   obtain ⟨he, hn, p, hp, hpi⟩ := ZG hwo.2.1 hin (by omega)
   have hl0 : st.length ≠ 0 := fun h => hn (List.eq_nil_of_length_eq_zero h)
   rw [hp]
   refine xR (H10.sel .here) (by omega) ⟨rfl, rfl⟩ fun h11 H11 => ?_
   rw [← List.map_set, hmt he hp hpi] at H11
   refine qd H11 e_3 (qb (by omega) ?_)
   rw [show (st.length : Int) - ((1 : Nat) : Int) = ((st.length - 1 : Nat) : Int) by omega]
   refine yx (H11.sel e_3) (by omega) (by omega) fun v12 H12 => ?_
   refine nxt v12 h11 ?_
   have e : qt st i x.1 = st.dropLast := by
    unfold qt
    rw [if_neg (by unfold zZ; rw [decide_eq_false (by omega)]; simp; omega), if_pos he]
   have e2 : (st.flatMap (JY l)).take ((st.length - 1) * 2) = st.dropLast.flatMap (JY l) := by
    have e3 := congrArg (List.flatMap (JY l)) (G1 hn)
    rw [e3, List.flatMap_append, List.take_append_of_le_length (by rw [gu, List.length_dropLast]; exact Nat.le_refl _), List.take_of_length_le (by rw [gu, List.length_dropLast]; exact Nat.le_refl _)]
   rw [e2] at H12
   rw [hst, e, List.length_dropLast]
   exact H12.sub (.cons e_1 (.cons e_1 (.cons .here (.drop (.cons .here .refl)))))
  rcases hc with (c | c) | (c | c) | c | c | c
  all_goals repeat (first | with_reducible refine qV ?_ | with_reducible refine qQ ?_ | (with_reducible refine qR ?_; try dsimp only) | (with_reducible refine qS ?_; try dsimp only) | (with_reducible refine qO ?_; try dsimp only) | (with_reducible refine qB ?_; try dsimp only) | (with_reducible refine jW ?_; try dsimp only) | with_reducible refine qC ?_ | with_reducible refine qv ?_ | (with_reducible refine qX ?_; try dsimp only) | with_reducible refine qj ?_ | with_reducible refine qo ?_ | with_reducible refine jq ?_ | with_reducible refine qb (by omega) ?_ | with_reducible refine qq ?_ | with_reducible refine qJ ?_ | with_reducible refine qx rfl ?_ | with_reducible refine qG (by assumption) e_2 rfl ?_ | with_reducible refine qd (by assumption) e_3 ?_ | with_reducible refine qF rfl ?_ | with_reducible refine qy (by omega) ?_ | with_reducible refine qK (by omega) ?_ | with_reducible refine jk (by omega) ?_ | with_reducible refine jj (by omega) ?_ | with_reducible refine jC (by omega) ?_ | with_reducible refine jv (by omega) ?_ | with_reducible refine z7 (by omega) ?_ | with_reducible refine z6 (by omega) ?_ | with_reducible refine jl (by omega) ?_ | with_reducible refine ja (by omega) ?_ | with_reducible refine jV (by omega) ?_ | with_reducible refine jQ (by omega) ?_)
  ·exact push (.inl c)
  ·exact push (.inr c)
  ·exact pop (.inl c)
  ·exact pop (.inr c)
  ·obtain ⟨he, hn, p, hp, hpi⟩ := ZG hwo.2.1 hin (by omega)
   have hl0 : st.length ≠ 0 := fun h => hn (List.eq_nil_of_length_eq_zero h)
   rw [hp] at H10 ⊢
   refine xR (H10.sel .here) (by omega) ⟨rfl, rfl⟩ fun h11 H11 => ?_
   rw [← List.map_set, hmt he hp hpi] at H11
   refine qd H11 e_3 (qb (by omega) ?_)
   rw [show (st.length : Int) - ((1 : Nat) : Int) = ((st.length - 1 : Nat) : Int) by omega]
   refine qF (l := [.int .i64 (i : Int), .int .i64 x.1]) rfl ?_
   refine VC (H11.sel e_3) (by omega) rfl rfl fun h12 H12 => ?_
   refine nxt tv h12 ?_
   have e : qt st i x.1 = st.dropLast ++ [(i : Int)] := by
    unfold qt
    rw [if_pos (.inr c), if_pos he]
   have e2 : vX (st.flatMap (JY l)) ((st.length - 1) * 2) [.int .i64 (i : Int), .int .i64 x.1] = (st.dropLast ++ [(i : Int)]).flatMap (JY l) := by
    have e3 := congrArg (List.flatMap (JY l)) (G1 hn)
    rw [e3, List.flatMap_append, List.flatMap_append, show [(i : Int)].flatMap (JY l) = [.int .i64 (i : Int), .int .i64 x.1] by rw [← hself]; rfl]
    exact Y8 _ _ _ _ _ _ (by rw [gu, List.length_dropLast])
   rw [e2] at H12
   rw [hst, e, List.length_append, List.length_dropLast, List.length_singleton, show st.length - 1 + 1 = st.length by omega]
   exact H12.sub (.cons e_1 (.cons e_1 (.cons .here (.drop (.cons .here .refl)))))
  all_goals
   have hz := hend.2.2.2 (by omega) (by omega) (by omega)
   refine nxt tv h10 ?_
   have e : qt st i x.1 = st := by
    unfold qt
    rw [if_neg (by unfold zZ; rw [decide_eq_false (by omega)]; simp; omega), if_neg (by omega)]
   rw [hst, e, ← hms (by omega)]
   exact H10.sub (.cons .here (.cons .here (.cons e_1 (.drop (.cons .here .refl)))))
 ·obtain rfl : i = l.length := by omega
  clear hih
  have hnil := F.nil
  rw [hnil] at H
  have eA : (zL l 0 []).take l.length ++ List.replicate (l.length - l.length) 0 = zL l 0 [] := by
   rw [Nat.sub_self, List.replicate_zero, List.append_nil, List.take_of_length_le (by rw [wY]; exact Nat.le_refl _)]
  have eM : Q9 l l.length = mt2 l (zL l 0 []) 0 := by
   unfold Q9
   rw [Nat.sub_self, List.replicate_zero, List.append_nil, List.take_of_length_le (by rw [wz]; exact Nat.le_refl _)]; rfl
  rw [eA, eM] at H
  have H := H.sub (L' := qz 3 1 l.length mv ((mt2 l (zL l 0 []) 0).map (.int .i64)) :: qz 3 1 l.length rv ((zL l 0 []).map (.int .i64)) :: qz 157 2 0 tv [] :: qw b0 [sv] :: R) (.cons .here (.cons .here (.cons .here (.cons .here .refl))))
  with_reducible (refine qJ ?_; refine qG (by assumption) e_3 rfl ?_; refine j6 (by assumption) ?_; refine jv (by omega) ?_; refine qQ ?_; refine qd (by assumption) e_2 ?_; refine ja (by omega) ?_; refine qQ ?_)
  have hM : qi l = mt2 l (zL l 0 []) l.length := rfl
  rw [hM]
  have hA : (zL l 0 []).length = l.length := wY
  have hrg := fun {j : Nat} (h : j < l.length) => F.reg j h
  have hnr := fun {j : Nat} (h : j < l.length) => xP F h
  have hjp := fun {j : Nat} (h : j < l.length) => F.jump j h
  have hmy := fun {j : Nat} (h : j < l.length) => (xd (F.ok j h)).1
  have hL2 : ∀ i, (mt2 l (zL l 0 []) i).length = l.length := fun i => XZ i
  have hri := fun {j : Nat} (h : j < l.length) (ho : (qL l j).1 = 16) => (xc (l := l) (i := j) ((zG (F.ok j h)).2.1 (.inr ho)))
  generalize zL l 0 [] = A at *
  refine jz (fun m s h' => ∃ i : Nat, s = (.int .i64 (i : Int), mv, rv, .ptr b0 0, ()) ∧ i ≤ l.length ∧ m = l.length - i ∧
   HS g h' (qz 3 1 l.length mv ((mt2 l A i).map (.int .i64)) :: qz 3 1 l.length rv (A.map (.int .i64)) :: qw b0 [sv] :: R))
   ?_ (m := l.length) (by show _ < 1000000000; omega) ⟨0, rfl, by omega, by omega, H.sub (.cons .here (.cons .here (.drop (.cons .here .refl))))⟩
  clear H eA eM hM
  rintro m ih s h6 hih ⟨i, rfl, hi, rfl, H⟩
  dsimp only
  by_cases hlt : i < l.length
  ·have hrow := vr hlt
   have hrgi := hrg hlt
   have hnri := hnr hlt
   have hjpi := hjp hlt
   have hmyi := hmy hlt
   have hrii := hri hlt
   have hstep : mt2 l A (i + 1) = if (qL l (i : Int)).1 = 16 then (mt2 l A i).set i (qE (mt2 l A i) (qE A (i : Int))) else mt2 l A i := rfl
   rw [zH hlt] at hstep hjpi hmyi hrii
   generalize l[i] = x at *
   refine qJ (qG H (b := b0) e_2 rfl (j6 hLV ?_))
   refine jC (by omega) (qV (qX ?_))
   dsimp only
   refine qJ (qG H (b := b0) e_2 rfl ?_)
   refine zJ (S.sl H.drop.drop.drop) hlt (by omega) hrow ?_
   refine qU H rfl fun b h7 H7 => ?_
   refine jG H7 (b := b) .here rfl (by simp [qe]) rfl fun h8 H8 => ?_
   have H8 : HS g h8 (qw b [.int .i64 x.1, .int .i64 x.2.1, .int .i64 x.2.2.1, .int .i64 x.2.2.2.1, .int .u64 x.2.2.2.2] :: qz 3 1 l.length mv ((mt2 l A i).map (.int .i64)) :: qz 3 1 l.length rv (A.map (.int .i64)) :: qw b0 [sv] :: R) := H8
   clear H H7
   refine zB [] (fun s h' => s = (.ptr b 0, .int .i64 (i : Int), mv, rv, .ptr b0 0, ()) ∧
    HS g h' (qw b [.int .i64 x.1, .int .i64 x.2.1, .int .i64 x.2.2.1, .int .i64 x.2.2.2.1, .int .u64 x.2.2.2.2] :: qz 3 1 l.length mv ((mt2 l A (i + 1)).map (.int .i64)) :: qz 3 1 l.length rv (A.map (.int .i64)) :: qw b0 [sv] :: R)) ?_ ?_
   ·intro j hj
    refine qJ (qG H8 (b := b) .here rfl ?_)
    by_cases he : x.1 = 16
    ·obtain ⟨p, hp, hpl, _⟩ := hrii he
     rw [if_pos he, hnri, hp] at hstep
     refine qy he (qV ?_)
     refine jF (H8.sl e_2) (x := .int .i64 (p : Int)) (by rw [List.getElem?_map, hrgi, hp]; rfl) ?_
     refine jF (H8.sl e_1) (x := .int .i64 (qE (mt2 l A i) (p : Int))) (by rw [List.getElem?_map, QS (by rw [hL2]; omega)]; rfl) ?_
     refine xR (H8.sel e_1) hlt ⟨rfl, rfl⟩ fun h9 H9 => ?_
     rw [← List.map_set, ← hstep] at H9
     exact hj _ _ ⟨rfl, H9.sub (.cons e_1 (.cons .here .refl))⟩
    ·refine qK he (qQ ?_)
     rw [if_neg he] at hstep
     exact hj _ _ ⟨rfl, by rw [hstep]; exact H8⟩
   clear H8
   rintro s h9 ⟨rfl, H9⟩
   dsimp only
   have nxt : wp (jZ .add (.int .i64 (i : Int)) (.int .i64 ((1 : Nat) : Int)) fun v => ih (v, mv, rv, .ptr b0 0, ()) h9 []) fun r h' => ∃ rv mv, r = .tup [.int .i64 0, .int .i64 0, rv, mv] ∧ HS g h' (qz 3 1 l.length mv ((mt2 l A l.length).map (.int .i64)) :: R) :=
    qD (by omega) (hih (l.length - (i + 1)) _ _ (by omega) ⟨i + 1, rfl, by omega, rfl, H9.drop⟩)
   by_cases hj : x.1 = 12 ∨ x.1 = 13
   ·obtain ⟨c, hcx, hcl⟩ : ∃ c : Nat, x.2.2.2.1 = c ∧ c ≤ 40 := by
     have := UL hmyi hj
     exact ⟨x.2.2.2.1.toNat, by omega, by omega⟩
    rw [hcx] at H9
    have hcell : ∀ k : Nat, k < l.length → (A.map (AV.int .i64))[k]? = some (.int .i64 (qE A (k : Int))) := by
     intro k hk
     rw [List.getElem?_map, QS (by omega)]; rfl
    unfold wE at hjpi
    rw [hcx] at hjpi
    have hcn : c ≤ l.length := by
     rcases Nat.lt_or_ge l.length c with h | h
     ·exact absurd ⟨hj, .inl (by omega)⟩ hjpi
     ·exact h
    by_cases c2 : c = l.length
    ·have c3 : qE A (i : Int) = -1 := Classical.not_not.1 fun h => hjpi ⟨hj, .inr (.inl ⟨by omega, h⟩)⟩
     clear hjpi hrii
     subst c2
     rcases hj with hj | hj
     all_goals repeat (first | with_reducible refine qV ?_ | with_reducible refine qQ ?_ | (with_reducible refine qR ?_; try dsimp only) | (with_reducible refine qS ?_; try dsimp only) | (with_reducible refine qO ?_; try dsimp only) | (with_reducible refine qB ?_; try dsimp only) | (with_reducible refine jW ?_; try dsimp only) | with_reducible refine qC ?_ | with_reducible refine qv ?_ | (with_reducible refine qX ?_; try dsimp only) | with_reducible refine qj ?_ | with_reducible refine qo ?_ | with_reducible refine jq ?_ | with_reducible refine qb (by omega) ?_ | with_reducible refine qq ?_ | with_reducible refine qJ ?_ | with_reducible refine qx rfl ?_ | with_reducible refine qG (by assumption) (by first | exact .here | exact e_3) rfl ?_ | with_reducible refine qd (by assumption) .here ?_ | with_reducible refine qF rfl ?_ | with_reducible refine qy (by omega) ?_ | with_reducible refine qK (by omega) ?_ | with_reducible refine jk (by omega) ?_ | with_reducible refine jj (by omega) ?_ | with_reducible refine jC (by omega) ?_ | with_reducible refine jv (by omega) ?_ | with_reducible refine z7 (by omega) ?_ | with_reducible refine z6 (by omega) ?_ | with_reducible refine jl (by omega) ?_ | with_reducible refine ja (by omega) ?_ | with_reducible refine jV (by omega) ?_ | with_reducible refine jQ (by omega) ?_)
     all_goals refine j6 hLV ?_
     all_goals repeat (first | with_reducible refine qV ?_ | with_reducible refine qQ ?_ | (with_reducible refine qR ?_; try dsimp only) | (with_reducible refine qS ?_; try dsimp only) | (with_reducible refine qO ?_; try dsimp only) | (with_reducible refine qB ?_; try dsimp only) | (with_reducible refine jW ?_; try dsimp only) | with_reducible refine qC ?_ | with_reducible refine qv ?_ | (with_reducible refine qX ?_; try dsimp only) | with_reducible refine qj ?_ | with_reducible refine qo ?_ | with_reducible refine jq ?_ | with_reducible refine qb (by omega) ?_ | with_reducible refine qq ?_ | with_reducible refine qJ ?_ | with_reducible refine qx rfl ?_ | with_reducible refine qG (by assumption) (by first | exact .here | exact e_3) rfl ?_ | with_reducible refine qd (by assumption) .here ?_ | with_reducible refine qF rfl ?_ | with_reducible refine qy (by omega) ?_ | with_reducible refine qK (by omega) ?_ | with_reducible refine jk (by omega) ?_ | with_reducible refine jj (by omega) ?_ | with_reducible refine jC (by omega) ?_ | with_reducible refine jv (by omega) ?_ | with_reducible refine z7 (by omega) ?_ | with_reducible refine z6 (by omega) ?_ | with_reducible refine jl (by omega) ?_ | with_reducible refine ja (by omega) ?_ | with_reducible refine jV (by omega) ?_ | with_reducible refine jQ (by omega) ?_)
     all_goals refine j6 hLV ?_
     all_goals repeat (first | with_reducible refine qV ?_ | with_reducible refine qQ ?_ | (with_reducible refine qR ?_; try dsimp only) | (with_reducible refine qS ?_; try dsimp only) | (with_reducible refine qO ?_; try dsimp only) | (with_reducible refine qB ?_; try dsimp only) | (with_reducible refine jW ?_; try dsimp only) | with_reducible refine qC ?_ | with_reducible refine qv ?_ | (with_reducible refine qX ?_; try dsimp only) | with_reducible refine qj ?_ | with_reducible refine qo ?_ | with_reducible refine jq ?_ | with_reducible refine qb (by omega) ?_ | with_reducible refine qq ?_ | with_reducible refine qJ ?_ | with_reducible refine qx rfl ?_ | with_reducible refine qG (by assumption) .here rfl ?_ | with_reducible refine qd (by assumption) .here ?_ | with_reducible refine qF rfl ?_ | with_reducible refine qy (by omega) ?_ | with_reducible refine qK (by omega) ?_ | with_reducible refine jk (by omega) ?_ | with_reducible refine jj (by omega) ?_ | with_reducible refine jC (by omega) ?_ | with_reducible refine jv (by omega) ?_ | with_reducible refine z7 (by omega) ?_ | with_reducible refine z6 (by omega) ?_ | with_reducible refine jl (by omega) ?_ | with_reducible refine ja (by omega) ?_ | with_reducible refine jV (by omega) ?_ | with_reducible refine jQ (by omega) ?_)
     all_goals refine jF (H9.sl e_2) (hcell i hlt) ?_
     all_goals rw [c3]
     all_goals refine qy rfl ?_
     all_goals repeat (first | with_reducible refine qV ?_ | with_reducible refine qQ ?_ | (with_reducible refine qR ?_; try dsimp only) | (with_reducible refine qS ?_; try dsimp only) | (with_reducible refine qO ?_; try dsimp only) | (with_reducible refine qB ?_; try dsimp only) | (with_reducible refine jW ?_; try dsimp only) | with_reducible refine qC ?_ | with_reducible refine qv ?_ | (with_reducible refine qX ?_; try dsimp only) | with_reducible refine qj ?_ | with_reducible refine qo ?_ | with_reducible refine jq ?_ | with_reducible refine qb (by omega) ?_ | with_reducible refine qq ?_ | with_reducible refine qJ ?_ | with_reducible refine qx rfl ?_ | with_reducible refine qG (by assumption) .here rfl ?_ | with_reducible refine qd (by assumption) .here ?_ | with_reducible refine qF rfl ?_ | with_reducible refine qy (by omega) ?_ | with_reducible refine qK (by omega) ?_ | with_reducible refine jk (by omega) ?_ | with_reducible refine jj (by omega) ?_ | with_reducible refine jC (by omega) ?_ | with_reducible refine jv (by omega) ?_ | with_reducible refine z7 (by omega) ?_ | with_reducible refine z6 (by omega) ?_ | with_reducible refine jl (by omega) ?_ | with_reducible refine ja (by omega) ?_ | with_reducible refine jV (by omega) ?_ | with_reducible refine jQ (by omega) ?_)
     all_goals exact nxt
    ·have c3 : qE A (c : Int) = qE A (i : Int) := Classical.not_not.1 fun h => hjpi ⟨hj, .inr (.inr ⟨by omega, h⟩)⟩
     clear hjpi hrii
     rcases hj with hj | hj
     all_goals repeat (first | with_reducible refine qV ?_ | with_reducible refine qQ ?_ | (with_reducible refine qR ?_; try dsimp only) | (with_reducible refine qS ?_; try dsimp only) | (with_reducible refine qO ?_; try dsimp only) | (with_reducible refine qB ?_; try dsimp only) | (with_reducible refine jW ?_; try dsimp only) | with_reducible refine qC ?_ | with_reducible refine qv ?_ | (with_reducible refine qX ?_; try dsimp only) | with_reducible refine qj ?_ | with_reducible refine qo ?_ | with_reducible refine jq ?_ | with_reducible refine qb (by omega) ?_ | with_reducible refine qq ?_ | with_reducible refine qJ ?_ | with_reducible refine qx rfl ?_ | with_reducible refine qG (by assumption) (by first | exact .here | exact e_3) rfl ?_ | with_reducible refine qd (by assumption) .here ?_ | with_reducible refine qF rfl ?_ | with_reducible refine qy (by omega) ?_ | with_reducible refine qK (by omega) ?_ | with_reducible refine jk (by omega) ?_ | with_reducible refine jj (by omega) ?_ | with_reducible refine jC (by omega) ?_ | with_reducible refine jv (by omega) ?_ | with_reducible refine z7 (by omega) ?_ | with_reducible refine z6 (by omega) ?_ | with_reducible refine jl (by omega) ?_ | with_reducible refine ja (by omega) ?_ | with_reducible refine jV (by omega) ?_ | with_reducible refine jQ (by omega) ?_)
     all_goals refine j6 hLV ?_
     all_goals repeat (first | with_reducible refine qV ?_ | with_reducible refine qQ ?_ | (with_reducible refine qR ?_; try dsimp only) | (with_reducible refine qS ?_; try dsimp only) | (with_reducible refine qO ?_; try dsimp only) | (with_reducible refine qB ?_; try dsimp only) | (with_reducible refine jW ?_; try dsimp only) | with_reducible refine qC ?_ | with_reducible refine qv ?_ | (with_reducible refine qX ?_; try dsimp only) | with_reducible refine qj ?_ | with_reducible refine qo ?_ | with_reducible refine jq ?_ | with_reducible refine qb (by omega) ?_ | with_reducible refine qq ?_ | with_reducible refine qJ ?_ | with_reducible refine qx rfl ?_ | with_reducible refine qG (by assumption) .here rfl ?_ | with_reducible refine qd (by assumption) .here ?_ | with_reducible refine qF rfl ?_ | with_reducible refine qy (by omega) ?_ | with_reducible refine qK (by omega) ?_ | with_reducible refine jk (by omega) ?_ | with_reducible refine jj (by omega) ?_ | with_reducible refine jC (by omega) ?_ | with_reducible refine jv (by omega) ?_ | with_reducible refine z7 (by omega) ?_ | with_reducible refine z6 (by omega) ?_ | with_reducible refine jl (by omega) ?_ | with_reducible refine ja (by omega) ?_ | with_reducible refine jV (by omega) ?_ | with_reducible refine jQ (by omega) ?_)
     all_goals refine jF (H9.sl e_2) (hcell c (by omega)) ?_
     all_goals refine jF (H9.sl e_2) (hcell i hlt) ?_
     all_goals refine qy c3 ?_
     all_goals repeat (first | with_reducible refine qV ?_ | with_reducible refine qQ ?_ | (with_reducible refine qR ?_; try dsimp only) | (with_reducible refine qS ?_; try dsimp only) | (with_reducible refine qO ?_; try dsimp only) | (with_reducible refine qB ?_; try dsimp only) | (with_reducible refine jW ?_; try dsimp only) | with_reducible refine qC ?_ | with_reducible refine qv ?_ | (with_reducible refine qX ?_; try dsimp only) | with_reducible refine qj ?_ | with_reducible refine qo ?_ | with_reducible refine jq ?_ | with_reducible refine qb (by omega) ?_ | with_reducible refine qq ?_ | with_reducible refine qJ ?_ | with_reducible refine qx rfl ?_ | with_reducible refine qG (by assumption) .here rfl ?_ | with_reducible refine qd (by assumption) .here ?_ | with_reducible refine qF rfl ?_ | with_reducible refine qy (by omega) ?_ | with_reducible refine qK (by omega) ?_ | with_reducible refine jk (by omega) ?_ | with_reducible refine jj (by omega) ?_ | with_reducible refine jC (by omega) ?_ | with_reducible refine jv (by omega) ?_ | with_reducible refine z7 (by omega) ?_ | with_reducible refine z6 (by omega) ?_ | with_reducible refine jl (by omega) ?_ | with_reducible refine ja (by omega) ?_ | with_reducible refine jV (by omega) ?_ | with_reducible refine jQ (by omega) ?_)
     all_goals exact nxt
   ·repeat (first | with_reducible refine qV ?_ | with_reducible refine qQ ?_ | (with_reducible refine qR ?_; try dsimp only) | (with_reducible refine qS ?_; try dsimp only) | (with_reducible refine qO ?_; try dsimp only) | (with_reducible refine qB ?_; try dsimp only) | (with_reducible refine jW ?_; try dsimp only) | with_reducible refine qC ?_ | with_reducible refine qv ?_ | (with_reducible refine qX ?_; try dsimp only) | with_reducible refine qj ?_ | with_reducible refine qo ?_ | with_reducible refine jq ?_ | with_reducible refine qb (by omega) ?_ | with_reducible refine qq ?_ | with_reducible refine qJ ?_ | with_reducible refine qx rfl ?_ | with_reducible refine qG (by assumption) .here rfl ?_ | with_reducible refine qd (by assumption) .here ?_ | with_reducible refine qF rfl ?_ | with_reducible refine qy (by omega) ?_ | with_reducible refine qK (by omega) ?_ | with_reducible refine jk (by omega) ?_ | with_reducible refine jj (by omega) ?_ | with_reducible refine jC (by omega) ?_ | with_reducible refine jv (by omega) ?_ | with_reducible refine z7 (by omega) ?_ | with_reducible refine z6 (by omega) ?_ | with_reducible refine jl (by omega) ?_ | with_reducible refine ja (by omega) ?_ | with_reducible refine jV (by omega) ?_ | with_reducible refine jQ (by omega) ?_)
    exact nxt
  ·obtain rfl : i = l.length := by omega
   refine qJ (qG H (b := b0) e_2 rfl (j6 hLV ?_))
   refine jv (by omega) (qQ (qj ?_))
   exact qW ⟨rv, mv, rfl, H.sub (.cons .here (.drop (.drop .refl)))⟩
end Go.Proofs.YtdlfmpmpmkffjaaGreatDoor
namespace Go.Proofs.YtdlfmpmpmkffjaaGreatDoor
open Go Go.Ae
set_option maxRecDepth 100000
variable {g h : AH} {L R : List SP}
def byt (bs : List UInt8) : List AV := bs.map fun c => .int .u8 (.ofNat c.toNat)
theorem Nr : ∀ (bs : List UInt8), vz (byt bs) = some bs := by
 intro bs
 induction bs with
 | nil => rfl
 | cons b bs ih =>
  show (vz (byt bs)).bind (fun s => some (UInt8.ofNat b.toNat :: s)) = _
  rw [ih]; simp
theorem KZ (bs : List UInt8) : q9 (byt bs) = true := by
 unfold q9 byt
 rw [List.all_eq_true]
 intro y hy
 obtain ⟨z, _, rfl⟩ := List.mem_map.1 hy
 rfl
theorem qKl {e : TypeId} {n : Nat} {v : AV} {bs : List UInt8} {K : AV → Go.Ae.R} {Q : AV → AH → Prop} (H : HS g h L) (s : Sel L (qz e 1 n v (byt bs)) R) (w : wp (K (.str bs)) Q) : wp (Jr h v K) Q := by
 obtain ⟨D, hl, ⟨rfl, rfl, _⟩ | ⟨b, cp, o, ys, rfl, _, A, h1, h2, _⟩⟩ := H.p s
 ·have : bs = [] := List.eq_nil_of_length_eq_zero (by simpa [byt] using hl)
  subst this
  exact w
 ·unfold Jr
  dsimp only
  rw [QD A (by omega), List.drop_zero]
  rw [Nat.mul_one] at h2
  rw [h2]
  simp only [ob, Nr]
  exact w
theorem Y7 {u : Nat} (h : u < 10) : Lib.decDigits u = [UInt8.ofNat (48 + u)] := Lib.decDigits_one h
theorem K9 {u : Nat} (h : ¬ u < 10) : Lib.decDigits u = Lib.decDigits (u / 10) ++ [UInt8.ofNat (48 + u % 10)] := by rw [Lib.decDigits, dif_neg h]
def Yw (m : Nat) : List UInt8 := if m < 10 then [] else Lib.decDigits (m / 10)
theorem Vt {m : Nat} (h : ¬ m < 10) : Yw m = Yw (m / 10) ++ [UInt8.ofNat (48 + m / 10 % 10)] := by
 unfold Yw
 rw [if_neg h]
 by_cases h1 : m / 10 < 10
 ·rw [if_pos h1, Y7 h1, Nat.mod_eq_of_lt h1]; rfl
 ·rw [if_neg h1, ← K9 h1]
theorem Mt (u : Nat) : Lib.decDigits u = Yw u ++ [UInt8.ofNat (48 + u % 10)] := by
 unfold Yw
 by_cases h : u < 10
 ·rw [if_pos h, Y7 h, Nat.mod_eq_of_lt h]; rfl
 ·rw [if_neg h, ← K9 h]
theorem UR {n : Nat} (hn : 1 ≤ n) {u : Nat} (h2 : u < 18446744073709551616) (H : HS g h R) : wp (callT tab qA n (.fn 97 [] []) [.int .u64 (u : Int)] h) fun r h' => r = .str (Lib.decDigits u) ∧ HS g h' R := by
 (refine qP (g := (tD1 S97)) rfl (by omega) fun k hk => ?_; show wp (S97 (callT tab qA k) _ _).1 _; unfold S97; try simp only [ Int.ofNat_eq_natCast])
 have hd : ∀ m : Nat, Int.tmod (m : Int) ((10 : Nat) : Int) = ((m % 10 : Nat) : Int) := fun m => by rw [Int.tmod_eq_emod_of_nonneg (by omega)]; omega
 have hc : ∀ m : Nat, AV.int .u8 (((48 : Nat) : Int) + ((m % 10 : Nat) : Int)) = .int .u8 (.ofNat (UInt8.ofNat (48 + m % 10)).toNat) := fun m => by
  have : (UInt8.ofNat (48 + m % 10)).toNat = 48 + m % 10 := by simp; omega
  rw [this]; rfl
 refine gd (by omega) ?_
 rw [hd]
 refine zk (by omega) (Jx ?_)
 rw [qKR (by omega), hc]
 refine qf (n := 1) (l := byt [UInt8.ofNat (48 + u % 10)]) (sz := 1) H rfl rfl rfl (KZ _) fun v3 h3 H3 => ?_
 refine jz (fun c s h' => ∃ (m : Nat) (bs : List UInt8) (bv : AV), s = (bv, .int .u64 (m : Int), ()) ∧ m < 10 ^ c ∧ m < 18446744073709551616 ∧ bs.length + c ≤ 21 ∧ Lib.decDigits u = Yw m ++ bs ∧ HS g h' (qz 5 1 bs.length bv (byt bs) :: R))
  ?_ (m := 20) (by show 20 < 1000000000; omega) ⟨u, _, v3, rfl, by omega, h2, by simp, Mt u, H3⟩
 clear H3 H
 rintro c ih s h4 hih ⟨m, bs, bv, rfl, hm, hm2, hl, hdec, H⟩
 dsimp only
 by_cases h10 : m < 10
 ·refine jQ (by omega) (qQ ?_)
  refine qKl H .here ?_
  refine qj (qW ⟨?_, H.drop⟩)
  rw [hdec]
  unfold Yw
  rw [if_pos h10]; rfl
 ·refine jV (by omega) (qV ?_)
  have hq : Int.tdiv (m : Int) ((10 : Nat) : Int) = ((m / 10 : Nat) : Int) := by rw [Int.tdiv_eq_ediv_of_nonneg (by omega)]; omega
  refine qVR (by omega) ?_
  rw [hq, MT (by omega)]
  refine gd (by omega) ?_
  rw [hd]
  refine zk (by omega) (Jx ?_)
  rw [qKR (by omega), hc]
  refine qf (n := 1) (l := byt [UInt8.ofNat (48 + m / 10 % 10)]) (sz := 1) H rfl rfl rfl (KZ _) fun v5 h5 H5 => ?_
  refine je (H5.sel (P := qz 5 1 1 v5 (byt [UInt8.ofNat (48 + m / 10 % 10)])) .here) (H5.sl e_1) (by omega) (by omega) (KZ _) fun v6 h6 H6 => ?_
  obtain ⟨c, rfl⟩ : ∃ c', c = c' + 1 := by
   cases c with
   | zero => simp at hm; omega
   | succ c => exact ⟨c, rfl⟩
  refine hih c _ _ (by omega) ⟨m / 10, UInt8.ofNat (48 + m / 10 % 10) :: bs, v6, rfl, by rw [Nat.pow_succ] at hm; omega, by omega, by simp; omega, ?_, ?_⟩
  ·rw [hdec, Vt h10, List.append_assoc]; rfl
  ·have e : (UInt8.ofNat (48 + m / 10 % 10) :: bs).length = 1 + bs.length := by simp; omega
   rw [e]
   have H7 : HS g h6 (qz 5 1 (1 + bs.length) v6 (byt (UInt8.ofNat (48 + m / 10 % 10) :: bs)) :: _) := H6
   exact H7.sub (.cons .here (.drop .refl))
theorem GA {a b : List UInt8} {K : AV → Go.Ae.R} {Q : AV → AH → Prop} (h : a.length + b.length ≤ 1073741824) (w : wp (K (.str (a ++ b))) Q) : wp (kp .add (.str a) (.str b) K) Q := by
 show wp (ob (bif Nat.ble (a.length + b.length) 1073741824 then some (.str (a ++ b)) else none) K) Q
 rw [Nat.ble_eq_true_of_le h]
 exact w
theorem YM (sep x : List UInt8) (r : List (List UInt8)) : Lib.joinTail sep (r ++ [x]) = Lib.joinTail sep r ++ (sep ++ x) := by simp [Lib.joinTail]
theorem NX {sep x : List UInt8} {xs : List (List UInt8)} (h : xs ≠ []) : Lib.join (xs ++ [x]) sep = Lib.join xs sep ++ sep ++ x := by
 cases xs with
 | nil => exact absurd rfl h
 | cons y r => rw [List.cons_append, Lib.join_cons, Lib.join_cons, YM]; simp
theorem Od {n : Nat} (hn : 2 ≤ n) {l : List ItT} {lv : AV} (H : HS g h R) (S : Rd g R 2 l.length lv (l.flatMap jJ)) (hl : l.length ≤ 1000) (hi : ∀ x ∈ l, x.1 = 1 ∧ NI x) :
  wp (callT tab qA n (.fn 64 [] []) [lv] h) fun r h' => r = .str (Qv l) ∧ HS g h' R := by
 (refine qP (g := W64) rfl (by omega) fun k hk => ?_; show wp (S64 (callT tab qA k) _ _) _; unfold S64; try simp only [iI, uU, Int.ofNat_eq_natCast])
 refine jz (fun c s h' => ∃ i : Nat, s = (.int .i64 (i : Int), .str (Lib.join ((l.take i).map itS) [32]), lv, ()) ∧ i ≤ l.length ∧ c = l.length - i ∧ HS g h' R) ?_ (m := l.length) (by show _ < 1000000000; omega) ⟨0, rfl, by omega, by omega, H⟩
 clear H
 rintro c ih s h1 hih ⟨i, rfl, h1l, rfl, H⟩
 dsimp only
 refine jb (S.sl H) ?_
 refine jA (fun hlt => qV ?_) fun hge => qQ (qj (qW ⟨?_, H⟩))
 rotate_left
 ·obtain rfl : i = l.length := by omega
  rw [List.take_length]; rfl
 have hlt : i < l.length := by omega
 have hx := hi l[i] (List.getElem_mem hlt)
 have hlen := Kn (m := 20) ((l.take i).map itS) (by
  intro y hy
  obtain ⟨x, hx2, rfl⟩ := List.mem_map.1 hy
  exact Gm x (hi x (List.mem_of_mem_take hx2)).2)
 have hil := Gm _ hx.2
 have hts : (l.take (i + 1)).map itS = (l.take i).map itS ++ [itS l[i]] := by
  rw [List.take_add_one, List.getElem?_eq_getElem hlt, Option.toList_some, List.map_append, List.map_singleton]
 have e1 : itS l[i] = Lib.decDigits l[i].2.toNat := if_pos hx.1
 have hrow : ∀ f, f < 2 → (l.flatMap jJ)[i * 2 + f]? = (jJ l[i])[f]? := fun f hf => zD (sz := 2) jJ (fun _ => rfl) _ _ _ hf |>.trans (by rw [List.getElem?_eq_getElem hlt]; rfl)
 rw [List.length_map, List.length_take] at hlen
 have hmi : min i l.length = i := by omega
 rw [hmi] at hlen
 generalize l[i] = x at *
 refine zB [] (fun s h' => s = (.int .i64 (i : Int), .str (Lib.join ((l.take i).map itS) [32] ++ (if i = 0 then [] else [32])), lv, ()) ∧ h' = h1) ?_ ?_
 ·intro j hj
  by_cases h0 : i = 0
  ·refine ja (by omega) (qQ (hj _ _ ⟨?_, rfl⟩))
   rw [if_pos h0, List.append_nil]
  ·refine jl (by omega) (qV (GA (by show _ + 1 ≤ _; omega) (hj _ _ ⟨?_, rfl⟩)))
   rw [if_neg h0]
 rintro s h1 ⟨rfl, rfl⟩
 dsimp only
 have hfin : Lib.join ((l.take i).map itS) [32] ++ (if i = 0 then [] else [32]) ++ itS x = Lib.join ((l.take (i + 1)).map itS) [32] := by
  rw [hts]
  by_cases h0 : i = 0
  ·subst h0
   rw [if_pos rfl]
   show _ = Lib.join [itS x] [32]
   rw [Lib.join_one]; rfl
  ·rw [if_neg h0, NX]
   intro hn
   have := congrArg List.length hn
   rw [List.length_map, List.length_take, hmi] at this
   exact h0 this
 refine zB [] (fun s h' => s = (.int .i64 (i : Int), .str (Lib.join ((l.take (i + 1)).map itS) [32]), lv, ()) ∧ HS g h' R) ?_ ?_
 rotate_left
 ·rintro s h2 ⟨rfl, H2⟩
  dsimp only
  exact qD (by omega) (hih (l.length - (i + 1)) _ _ (by omega) ⟨i + 1, rfl, by omega, rfl, H2⟩)
 intro j hj
 refine js (x := .int .i64 x.1) (S.sl H) (by omega) hlt (hrow 0 (by omega)) ?_
 refine qy hx.1 (qV ?_)
 refine js (x := .int .u64 x.2) (S.sl H) (by omega) hlt (hrow 1 (by omega)) ?_
 obtain ⟨u, hu⟩ : ∃ u : Nat, x.2 = u := ⟨x.2.toNat, by have := hx.2.1; omega⟩
 have hu2 := hx.2.2
 rw [hu]
 refine qY (UR (by omega) (by omega) H) ?_
 rintro _ h3 ⟨rfl, H3⟩
 rw [hu, Int.toNat_natCast] at e1
 rw [← e1]
 refine GA ?_ (hj _ _ ⟨by rw [hfin], H3⟩)
 rw [List.length_append]
 split
 ·show _ + 0 + _ ≤ _; omega
 ·show _ + 1 + _ ≤ _; omega
end Go.Proofs.YtdlfmpmpmkffjaaGreatDoor
namespace Go.Proofs.YtdlfmpmpmkffjaaGreatDoor
open Go Go.Ae
def kX (s : IM) : Prop := ∀ x ∈ s.out, x.1 = 1
theorem YS {op a nx : Int} {s : IM} {V : VM} (h : kX s) : kX (jn op a nx s V).s := by unfold jn; split <;> exact h
theorem UT {s : IM} {p : PtM} (h : kX s) : kX (yC s p) := fun x hx => h x (List.mem_of_mem_take hx)
theorem NB {mt : List Int} {s : IM} (h : kX s) : ∀ {o : List PtM} {V : VM}, kX (zh mt o s V).s := by
 intro o
 induction o with
 | nil => intro V; exact h
 | cons p o ih =>
  intro V
  unfold zh
  split
  ·split
   ·exact YS (s := { yC s p with opn := o }) (UT h)
   ·exact ih
  ·exact h
theorem NZ {s : IM} {V : VM} {x : qM} (h : kX s) : kX (jt s V x).2.1 := by
 unfold jt
 repeat' split
 all_goals exact h
theorem xX {c : Prop} [Decidable c] {a b : SM} (ha : kX a.s) (hb : kX b.s) : kX (if c then a else b).s := by split <;> assumption
theorem Zb {mt : List Int} {s : IM} {V : VM} {op : Int} (h : kX s) : kX (yW mt s V op).s := by
 unfold yW
 exact xX (YS h) (xX h (xX h (xX (UT (s := s) h) (NB h))))
theorem qVa {mt : List Int} {s : IM} {V : VM} {x : qM} (h : kX s) : kX (doM mt s V x).s := by
 unfold doM
 refine xX h (xX h (xX h (xX h (xX h (xX h (xX h (xX h (xX h (xX (xX h ?_) (xX h (xX (NZ h) (Zb h))))))))))))
 intro y hy
 rcases List.mem_append.1 hy with hy | hy
 ·exact h y hy
 ·rw [List.mem_singleton] at hy; subst hy; rfl
theorem qZT {l : List qM} {mt : List Int} : ∀ (n : Nat) {s : IM} {V : VM}, kX s → kX (xy l mt n s V).s := by
 intro n
 induction n with
 | zero => intro s V h; rw [Yy]; split <;> exact h
 | succ n ih =>
  intro s V h
  have hd := qVa (mt := mt) (V := V) (x := qL l s.pc) h
  rw [X7]
  generalize doM mt s V (qL l s.pc) = D at *
  repeat' split
  ·exact h
  ·exact hd
  ·exact ih hd
  ·exact hd
  ·exact hd
end Go.Proofs.YtdlfmpmpmkffjaaGreatDoor
namespace Go.Proofs.YtdlfmpmpmkffjaaGreatDoor
open Go Go.Ae
set_option maxRecDepth 100000
variable {g h : AH} {L R : List SP}
theorem qXp {e : TypeId} {sz n hi : Nat} {v : AV} {xs : List AV} {k : IntKind} {K : AV → Go.Ae.R} {Q : AV → AH → Prop} (H : HS g h (qz e sz n v xs :: R)) (hsz : 0 < sz) (hle : hi ≤ n)
  (w : ∀ v', (∀ {g' h' : AH} {R' : List SP} {xs' : List AV}, HS g' h' (qz e sz n v xs' :: R') → HS g' h' (qz e sz hi v' (xs'.take (hi * sz)) :: R')) → wp (K v') Q) : wp (zS h e sz v none (some (.int k (hi : Int))) K) Q := by
 have nil0 : ∀ {g' h' : AH} {R' : List SP} {xs' : List AV} {v : AV}, HS g' h' (qz e sz 0 v xs' :: R') → HS g' h' (qz e sz 0 v (xs'.take (0 * sz)) :: R') := by
  intro g' h' R' xs' v H'
  have hx := H'.sl_len .here
  obtain rfl : xs' = [] := List.eq_nil_of_length_eq_zero (by simpa using hx)
  rw [List.take_nil]; exact H'
 by_cases hn : n = 0
 ·subst hn
  obtain rfl : hi = 0 := by omega
  obtain ⟨D, ⟨hl, ⟨rfl, _, hD⟩ | ⟨b, cp, o, zs, rfl, hD, A, q1, q2, q3⟩⟩, hb, k⟩ := H.act
  ·exact w .nils nil0
  ·cases o with
   | false =>
    refine Jv (hi := 0) (lo := 0) (zF (Nat.zero_le _)) rfl ?_
    have := w (.slice b 0 0 cp false) nil0
    have e0 : (bif Nat.beq cp 0 then 0 else 0 + 0 * sz) = 0 := by cases Nat.beq cp 0 <;> simp
    rw [e0]; exact this
   | true =>
    rw [if_pos rfl] at q3
    subst q3
    refine J9 (i0 := 0) (hi := 0) (lo := 0) A hsz (by omega) (by omega) (zF (Nat.zero_le _)) rfl (.inr rfl) ?_
    have := w (.slice b 0 0 0 true) nil0
    simpa using this
 ·obtain ⟨b, cp, o, zs, rfl, H', q1, q2, q3⟩ := H.slE (by omega)
  have hle2 := Nat.mul_le_mul_right sz hle
  cases o with
  | false =>
   rw [if_neg (by simp)] at q3
   refine Jv (hi := hi) (lo := 0) (zF (by omega)) rfl ?_
   have := w (.slice b 0 hi cp false) (by
    intro g' h' R' xs' G
    obtain ⟨b2, cp2, o2, zs2, e2, G2, p1, p2, p3⟩ := G.slE (by omega)
    cases e2
    rw [if_neg (by simp)] at p3
    have e1 : zs2.take (hi * sz) = xs'.take (hi * sz) := by rw [← p2, List.take_take, Nat.min_eq_left hle2]
    rw [← e1]; exact G2.slI (by omega) (by rw [if_neg (by simp)]; exact ⟨p3.1, by omega⟩))
   have e0 : (bif Nat.beq cp 0 then 0 else 0 + 0 * sz) = 0 := by cases Nat.beq cp 0 <;> simp
   rw [e0]; exact this
  | true =>
   rw [if_pos rfl] at q3
   subst q3
   obtain ⟨D, _, A⟩ := H'.p .here
   refine J9 (i0 := 0) (hi := hi) (lo := 0) A hsz (by omega) (by omega) (zF hle) rfl (.inr rfl) ?_
   have := w (.slice b 0 hi 0 true) (by
    intro g' h' R' xs' G
    obtain ⟨b2, cp2, o2, zs2, e2, G2, p1, p2, p3⟩ := G.slE (by omega)
    cases e2
    have e1 : zs2.take (hi * sz) = xs'.take (hi * sz) := by rw [← p2, List.take_take, Nat.min_eq_left hle2]
    rw [← e1]; exact G2.slI (by omega) (by rw [if_pos rfl]))
   simpa using this
def yc (q : PtM × Int) : List AV := [.int .i64 q.2, .int .u64 (qE q.1.regs 0), .int .u64 (qE q.1.regs 1), .int .u64 (qE q.1.regs 2), .int .u64 (qE q.1.regs 3), .int .u64 (qE q.1.regs 4), .int .u64 (qE q.1.regs 5), .int .u64 (qE q.1.regs 6), .int .u64 (qE q.1.regs 7), .int .i64 (q.1.told : Int), .bool (decide (q.1.op = 17))]
theorem JZ (o : List (PtM × Int)) : (o.reverse.flatMap yc).length = o.length * 11 := by rw [xm (sz := 11) _ (fun _ => rfl), List.length_reverse]
theorem ki (p : PtM × Int) (o : List (PtM × Int)) : (p :: o).reverse.flatMap yc = o.reverse.flatMap yc ++ yc p := by
 rw [List.reverse_cons, List.flatMap_append]; simp
def AtsQ (qs : List (PtM × Int)) (o : List PtM) : Prop := qs.map (·.1) = o ∧ ∀ q ∈ qs, q.1.op = 17 → q.2 = q.1.pc
def xp (sv lv ov mv : AV) (o : Nat) (kind err left pc : Int) (r : List Int) : List AV :=
 [sv, .ptr o 0, .int .u64 (qE r 0), .int .u64 (qE r 1), .int .u64 (qE r 2), .int .u64 (qE r 3), .int .u64 (qE r 4), .int .u64 (qE r 5), .int .u64 (qE r 6), .int .u64 (qE r 7), .int .i64 pc, .int .i64 left, lv, .int .i64 kind, .int .i64 err, ov, mv]
abbrev vD (lv : AV) (l : List ItT) : SP := qz 161 2 l.length lv (l.flatMap jJ)
abbrev yb (ov : AV) (qs : List (PtM × Int)) : SP := qz 208 11 qs.length ov (qs.reverse.flatMap yc)
abbrev yo (mv : AV) (mt : List Int) : SP := qz 3 1 mt.length mv (mt.map (.int .i64))
def RefC (y o : Nat) (sv : AV) (mt : List Int) (s : IM) (kind err left : Int) : SP := .ex fun lv => .ex fun ov => .ex fun mv => .ex fun qs => .all
 [.pur (AtsQ qs s.opn), qw y (xp sv lv ov mv o kind err left s.pc s.regs), vD lv s.out, yb ov qs, yo mv mt]
section
variable {y o : Nat} {sv : AV} {mt : List Int} {s : IM} {kind err left : Int}
theorem RefC.E (H : HS g h (RefC y o sv mt s kind err left :: R)) : ∃ lv ov mv qs, AtsQ qs s.opn ∧ HS g h (qw y (xp sv lv ov mv o kind err left s.pc s.regs) :: vD lv s.out :: yb ov qs :: yo mv mt :: R) := by
 obtain ⟨lv, H⟩ := H.exE
 obtain ⟨ov, H⟩ := H.exE
 obtain ⟨mv, H⟩ := H.exE
 obtain ⟨qs, H⟩ := H.exE
 obtain ⟨e, H⟩ := H.allE.purE
 exact ⟨lv, ov, mv, qs, e, H⟩
theorem RefC.I {lv ov mv : AV} {qs : List (PtM × Int)} (e : AtsQ qs s.opn) (H : HS g h (qw y (xp sv lv ov mv o kind err left s.pc s.regs) :: vD lv s.out :: yb ov qs :: yo mv mt :: R)) : HS g h (RefC y o sv mt s kind err left :: R) :=
 HS.exI lv (HS.exI ov (HS.exI mv (HS.exI qs (HS.allI (HS.purI e H)))))
theorem yz {lv ov mv : AV} {pc : Int} {r : List Int} {a : Nat} (ha : a < 8) : (xp sv lv ov mv o kind err left pc r)[2 + a * 1]? = some (.int .u64 (qE r (a : Int))) := by
 rcases (show a = 0 ∨ a = 1 ∨ a = 2 ∨ a = 3 ∨ a = 4 ∨ a = 5 ∨ a = 6 ∨ a = 7 by omega) with rfl | rfl | rfl | rfl | rfl | rfl | rfl | rfl <;> rfl
theorem qQ7 {lv ov mv : AV} {pc : Int} {r : List Int} {a : Nat} {z : Int} (hr : r.length = 8) (ha : a < 8) : (xp sv lv ov mv o kind err left pc r).set (2 + a * 1) (.int .u64 z) = xp sv lv ov mv o kind err left pc (r.set a z) := by
 have hs := fun k : Nat => GG (r := r) (i := a) (k := k) (z := z) (by omega)
 have e0 := hs 0; have e1 := hs 1; have e2 := hs 2; have e3 := hs 3; have e4 := hs 4; have e5 := hs 5; have e6 := hs 6; have e7 := hs 7
 simp only [Int.ofNat_eq_natCast, show ((0 : Nat) : Int) = 0 from rfl, show ((1 : Nat) : Int) = 1 from rfl, show ((2 : Nat) : Int) = 2 from rfl, show ((3 : Nat) : Int) = 3 from rfl, show ((4 : Nat) : Int) = 4 from rfl, show ((5 : Nat) : Int) = 5 from rfl, show ((6 : Nat) : Int) = 6 from rfl, show ((7 : Nat) : Int) = 7 from rfl] at e0 e1 e2 e3 e4 e5 e6 e7
 unfold xp
 rw [e0, e1, e2, e3, e4, e5, e6, e7]
 rcases (show a = 0 ∨ a = 1 ∨ a = 2 ∨ a = 3 ∨ a = 4 ∨ a = 5 ∨ a = 6 ∨ a = 7 by omega) with rfl | rfl | rfl | rfl | rfl | rfl | rfl | rfl <;> rfl
theorem MB {lv ov mv : AV} {qs : List (PtM × Int)} {a : Nat} {z ai : Int} (e : AtsQ qs s.opn) (hr : s.regs.length = 8) (ha : a < 8) (hai : ai = a)
  (H : HS g h (qw y ((xp sv lv ov mv o kind err left s.pc s.regs).set (2 + a * 1) (.int .u64 z)) :: vD lv s.out :: yb ov qs :: yo mv mt :: R)) : HS g h (RefC y o sv mt (setR s ai z) kind err left :: R) := by
 rw [qQ7 hr ha] at H
 have e2 : s.regs.set a z = (setR s ai z).regs := by unfold setR; rw [hai, Int.toNat_natCast]
 rw [e2] at H
 exact RefC.I (s := setR s ai z) e H
theorem Z5 {n : Nat} (hn : 1 ≤ n) {K : AV → AH → Go.Ae.R} {Q : AV → AH → Prop} {V : VM} (O : OkV V) (H : HS g h (RvC o V :: R)) (w : ∀ h', HS g h' (RvC o (zp V).2 :: R) → wp (K (.int .i64 (zp V).1) h') Q) :
  wp (zd (.ptr o 0) fun a => qa a 2 fun a => qm h a fun a => jf (callT tab qA n) (.fn 147 [] []) [a] h K) Q := by
 obtain ⟨kv, q, H⟩ := RvC.E H
 refine qq (qJ (qG H (b := o) .here rfl ?_))
 refine qY (Nv hn (H.sel (P := RgC q V.most V.lv) e_2) O.lvs) ?_
 rintro _ h1 ⟨rfl, H1⟩
 exact w _ (RvC.I (M := (zp V).2) (kv := kv) (q := q) (H1.sub (.cons e_1 (.cons e_1 (.cons .here .refl)))))
theorem qQ3 {n : Nat} (hn : 1 ≤ n) {K : AV → AH → Go.Ae.R} {Q : AV → AH → Prop} {V : VM} (O : OkV V) (H : HS g h (RvC o V :: R)) (w : ∀ h', HS g h' (RvC o (zK V).2 :: R) → wp (K (.int .i64 (zK V).1) h') Q) :
  wp (zd (.ptr o 0) fun a => qa a 2 fun a => qm h a fun a => jf (callT tab qA n) (.fn 148 [] []) [a] h K) Q := by
 obtain ⟨kv, q, H⟩ := RvC.E H
 refine qq (qJ (qG H (b := o) .here rfl ?_))
 refine qY (Oj hn (H.sel (P := RgC q V.most V.lv) e_2) O.lvs) ?_
 rintro _ h1 ⟨rfl, H1⟩
 exact w _ (RvC.I (M := (zK V).2) (kv := kv) (q := q) (H1.sub (.cons e_1 (.cons e_1 (.cons .here .refl)))))
theorem qVF {n : Nat} (hn : 3 ≤ n) {K : AV → AH → Go.Ae.R} {Q : AV → AH → Prop} {V : VM} (O : OkV V) (hf : frS V.lv < 1000000) (H : HS g h (RvC o V :: R)) (w : ∀ h', HS g h' (RvC o (yX V).2 :: R) → wp (K (.int .i64 (yX V).1) h') Q) :
  wp (zd (.ptr o 0) fun a => qa a 2 fun a => qm h a fun a => jf (callT tab qA n) (.fn 68 [] []) [a] h K) Q := by
 obtain ⟨kv, q, H⟩ := RvC.E H
 refine qq (qJ (qG H (b := o) .here rfl ?_))
 refine qY (Gw hn (H.sel (P := RgC q V.most V.lv) e_2) O.lvs hf) ?_
 rintro _ h1 ⟨rfl, H1⟩
 exact w _ (RvC.I (M := (yX V).2) (kv := kv) (q := q) (H1.sub (.cons e_1 (.cons e_1 (.cons .here .refl)))))
theorem qKS {b : Nat} {p : PtM} {z : Int} {K0 : AH → Go.Ae.R} {Q : AV → AH → Prop} (ht : p.told ≤ s.out.length) (H : HS g h (RefC y o sv mt s kind err left :: qw b (yc (p, z)) :: R))
  (w : ∀ h', HS g h' (RefC y o sv mt (yC s p) kind err left :: qw b (yc (p, z)) :: R) → wp (K0 h') Q) :
  wp (qa (.ptr b 0) 1 fun v80 => ji h v80 8 fun v81 => zd (.ptr y 0) fun v82 => qa v82 12 fun v83 => qm h v83 fun v84 => qa (.ptr b 0) 9 fun v85 => qm h v85 fun v86 => zS h 161 2 v84 none (some v86) fun v87 =>
   zd (.ptr y 0) fun v88 => qa v88 2 fun v89 => jX h v89 v81 8 fun h90 => zd (.ptr y 0) fun v91 => qa v91 12 fun v92 => jX h90 v92 v87 1 fun h93 => wT v84 (some (161 * 65536 + 2)) v87 h h90 h.nx <| wT v85 none v86 h h90 h.nx <| K0 h93) Q := by
 obtain ⟨lv, ov, mv, qs, e, H⟩ := RefC.E H
 refine qJ (qh H (b := b) (off := 1) e_4 rfl (by omega) (l := Kh p.regs) rfl ?_)
 refine qq (qJ (qG H (b := y) .here rfl ?_))
 refine qJ (qG H (b := b) (off := 9) e_4 rfl ?_)
 refine qXp (H.sel e_1) (by omega) ht fun v2 cut => ?_
 refine qq (qJ ?_)
 refine jG H (b := y) .here rfl (by show 2 + 8 ≤ 17; omega) rfl fun h1 H1 => ?_
 have H1 : HS g h1 (qw y (xp sv lv ov mv o kind err left s.pc p.regs) :: vD lv s.out :: yb ov qs :: yo mv mt :: qw b (yc (p, z)) :: R) := H1
 have H2 := cut (H1.sel e_1)
 have o2 := H2.one .here
 have el : (s.out.flatMap jJ).take (p.told * 2) = (s.out.take p.told).flatMap jJ := by
  conv => lhs; rw [← List.take_append_drop p.told s.out, List.flatMap_append]
  rw [List.take_append_of_le_length (by rw [xm (sz := 2) _ (fun _ => rfl), List.length_take, Nat.min_eq_left ht]; exact Nat.le_refl _), List.take_of_length_le (by rw [xm (sz := 2) _ (fun _ => rfl), List.length_take, Nat.min_eq_left ht]; exact Nat.le_refl _)]
 refine qq (qJ ?_)
 refine qc H2 (b := y) e_1 o2 (by show 12 < 17; omega) fun h3 H3 => ?_
 refine Uo H (s := e_1) H1 e_1 H e_1 (by omega) (by omega) rfl ?_
 refine jc H (b := b) e_4 rfl H1 e_4 rfl (HS.lt H e_4) ?_
 refine w h3 (RefC.I (s := yC s p) (lv := v2) (ov := ov) (mv := mv) e ?_)
 show HS g h3 (qw y (xp sv v2 ov mv o kind err left s.pc p.regs) :: vD v2 (s.out.take p.told) :: yb ov qs :: yo mv mt :: qw b (yc (p, z)) :: R)
 unfold vD
 rw [← el, show (s.out.take p.told).length = p.told by simp; omega]
 exact H3
end
end Go.Proofs.YtdlfmpmpmkffjaaGreatDoor
namespace Go.Proofs.YtdlfmpmpmkffjaaGreatDoor
open Go Go.Ae
set_option maxRecDepth 100000
variable {g h : AH} {L R : List SP}
section
variable {y o : Nat} {sv : AV} {mt : List Int} {s : IM} {kind err left : Int}
theorem AtsQ.cons {qs : List (PtM × Int)} {p : PtM} {r : List PtM} (h : AtsQ qs (p :: r)) : ∃ z qs', qs = (p, z) :: qs' ∧ AtsQ qs' r ∧ (p.op = 17 → z = p.pc) := by
 obtain ⟨h1, h2⟩ := h
 cases qs with
 | nil => cases h1
 | cons q qs =>
  obtain ⟨q1, q2⟩ := q
  rw [List.map_cons, List.cons.injEq] at h1
  obtain ⟨rfl, h1⟩ := h1
  exact ⟨q2, qs, rfl, ⟨h1, fun q hq => h2 q (List.mem_cons_of_mem _ hq)⟩, h2 _ (List.mem_cons_self ..)⟩
theorem AtsQ.push {qs : List (PtM × Int)} {p : PtM} {z : Int} {r : List PtM} (h : AtsQ qs r) (hz : p.op = 17 → z = p.pc) : AtsQ ((p, z) :: qs) (p :: r) := by
 refine ⟨by rw [List.map_cons, h.1], fun q hq => ?_⟩
 rcases List.mem_cons.1 hq with rfl | hq
 ·exact hz
 ·exact h.2 q hq
theorem AtsQ.len {qs : List (PtM × Int)} {r : List PtM} (h : AtsQ qs r) : qs.length = r.length := by rw [← h.1, List.length_map]
theorem Mx {q : PtM × Int} {qs : List (PtM × Int)} : (((q :: qs).reverse.flatMap yc).drop (qs.length * 11)).take 11 = yc q := by
 rw [ki, List.drop_append_of_le_length (by rw [JZ]; exact Nat.le_refl _), List.drop_of_length_le (by rw [JZ]; exact Nat.le_refl _)]; rfl
theorem G3 {q : PtM × Int} {qs : List (PtM × Int)} : ((q :: qs).reverse.flatMap yc).take (qs.length * 11) = qs.reverse.flatMap yc := by
 rw [ki, List.take_append_of_le_length (by rw [JZ]; exact Nat.le_refl _), List.take_of_length_le (by rw [JZ]; exact Nat.le_refl _)]
theorem M4 {n : Nat} (hn : 2 ≤ n) {V : VM} (G : jT V) (hlv : V.lv.length = s.opn.length + 1) (h5 : s.opn.length ≤ 5) (told : ToldD s.out.length s.opn) (hm : ∀ p ∈ s.opn, p.op = 17 → MtAt mt p.pc) (hpc : 0 ≤ s.pc ∧ s.pc ≤ 100)
  (H : HS g h (RefC y o sv mt s 0 err left :: RvC o V :: R)) :
  wp (callT tab qA n (.fn 149 [] []) [.ptr y 0] h) fun _ h' => (zh mt s.opn s V).e = 0 ∧
   HS g h' (RefC y o sv mt { (zh mt s.opn s V).s with pc := (zh mt s.opn s V).nx } (if (zh mt s.opn s V).blk = true then 3 else 0) err left :: RvC o (zh mt s.opn s V).v :: R) := by
 (refine qP (g := (tD1 S149)) rfl (by omega) fun k hk => ?_; show wp (S149 (callT tab qA k) _ _).1 _; unfold S149; try simp only [ Int.ofNat_eq_natCast])
 generalize hD : zh mt s.opn s V = D
 refine jz (fun m st h' => ∃ (r : List PtM) (V' : VM), st = (.ptr y 0, ()) ∧ m = r.length ∧ r.length ≤ 5 ∧ HS g h' (RefC y o sv mt { s with opn := r } 0 err left :: RvC o V' :: R) ∧ jT V' ∧ V'.lv.length = r.length + 1 ∧ ToldD s.out.length r ∧ (∀ p ∈ r, p.op = 17 → MtAt mt p.pc) ∧ zh mt r s V' = D)
  ?_ (m := s.opn.length) (by show _ < 1000000000; omega) ⟨s.opn, V, rfl, rfl, h5, H, G, hlv, told, hm, hD⟩
 clear H G hlv told hm hD h5
 rintro m ih st h2 hih ⟨r, V, rfl, rfl, h5, H, G, hlv, told, hm, hD⟩
 dsimp only
 obtain ⟨lv, ov, mv, qs, e, H1⟩ := RefC.E H
 clear H
 have H1 : HS g h2 (qw y (xp sv lv ov mv o 0 err left s.pc s.regs) :: vD lv s.out :: yb ov qs :: yo mv mt :: RvC o V :: R) := H1
 have e : AtsQ qs r := e
 have el := e.len
 refine qq (qJ (qG H1 (b := y) .here rfl ?_))
 refine qd H1 e_2 ?_
 cases r with
 | nil =>
  refine ja (by rw [el]; simp) (qQ ?_)
  refine qq (qJ ?_)
  refine qc H1 (b := y) .here ⟨rfl, rfl⟩ (by show 13 < 17; omega) fun h3 H3 => ?_
  subst hD
  exact qj (qW ⟨rfl, RefC.I (s := { s with opn := [] }) (kind := 3) (lv := lv) (ov := ov) (mv := mv) e H3⟩)
 | cons p r =>
  obtain ⟨z, qs, rfl, e, hz⟩ := e.cons
  have el := e.len
  have hd0 := gZ (V := V) (by rw [hlv]; simp)
  simp at h5
  refine jl (by rw [List.length_cons]; omega) (qV ?_)
  refine qq (qJ (qG H1 (b := y) .here rfl ?_))
  refine qd H1 e_2 ?_
  rw [show (((p, z) :: qs).length : Int) = ((qs.length + 1 : Nat) : Int) from rfl]
  refine qb (by omega) ?_
  rw [show ((qs.length + 1 : Nat) : Int) - ((1 : Nat) : Int) = (qs.length : Int) by omega]
  refine qq (qJ (qG H1 (b := y) .here rfl ?_))
  refine zJ (l := yc (p, z)) (H1.sl e_2) (i := qs.length) (by simp) (by omega) Mx ?_
  refine qU H1 rfl fun b h3 H3 => jG H3 .here rfl (by show 0 + 11 ≤ 11; omega) rfl fun h4 H4 => ?_
  have H4 : HS g h4 (qw b (yc (p, z)) :: qw y (xp sv lv ov mv o 0 err left s.pc s.regs) :: vD lv s.out :: yb ov ((p, z) :: qs) :: yo mv mt :: RvC o V :: R) := H4
  clear H1 H3
  refine qq (qJ (qG H4 (b := y) e_1 rfl ?_))
  refine qQ3 (by omega) G.ok (H4.sel (P := RvC o V) e_5) fun h5 H5 => ?_
  clear H4
  refine qq (qJ (qG H5 (b := y) e_2 rfl ?_))
  refine yx (H5.sel (P := yb ov ((p, z) :: qs)) e_4) (by omega) (by simp) fun ov2 H6 => ?_
  rw [G3] at H6
  have o6 := H6.one .here
  refine qq (qJ ?_)
  refine qc H6 (b := y) e_3 o6 (by show 15 < 17; omega) fun h7 H7 => ?_
  have H7 : HS g h7 (qw y (xp sv lv ov2 mv o 0 err left s.pc s.regs) :: yb ov2 qs :: RvC o (zK V).2 :: qw b (yc (p, z)) :: vD lv s.out :: yo mv mt :: R) := H7
  clear H5 H6
  refine qJ (qG H7 (b := b) e_3 rfl ?_)
  unfold zh at hD
  rw [if_pos hd0.1] at hD
  have GD := G.dropG.1
  have H8 : HS g h7 (RefC y o sv mt { s with opn := r } 0 err left :: qw b (yc (p, z)) :: RvC o (zK V).2 :: R) := RefC.I (s := { s with opn := r }) (lv := lv) (ov := ov2) (mv := mv) e (H7.sub (.cons .here (.cons e_3 (.cons .here (.cons e_2 (.cons e_1 (.cons .here .refl)))))))
  clear H7
  have hlv2 : (zK V).2.lv.length = r.length + 1 := by rw [hd0.2, List.length_tail, hlv]; simp
  by_cases h17 : p.op = 17
  ·rw [if_pos h17] at hD
   rw [show decide ((p, z).1.op = 17) = true from decide_eq_true h17]
   refine qo (qQ (qX ?_))
   dsimp only
   refine qKS (s := { s with opn := r }) told.1 H8 fun h9 H9 => ?_
   clear H8
   obtain ⟨lv, ov, mv, qs2, e2, H10⟩ := RefC.E H9
   have H10 : HS g h9 (qw y (xp sv lv ov mv o 0 err left s.pc p.regs) :: vD lv (s.out.take p.told) :: yb ov qs2 :: yo mv mt :: qw b (yc (p, z)) :: RvC o (zK V).2 :: R) := H10
   have e2 : AtsQ qs2 r := e2
   have el2 := e2.len
   clear H9
   refine qq (qJ (qG H10 (b := y) .here rfl ?_))
   refine Z5 (by omega) GD.ok (H10.sel (P := RvC o (zK V).2) e_5) fun h11 H11 => ?_
   clear H10
   obtain ⟨kk, hk1, w, hk2, hk3, hk4⟩ := hm p (List.mem_cons_self ..) h17
   rw [MtAt.num hk1 hk2] at hD
   have hzk : z = (kk : Int) := (hz h17).trans hk1
   subst hzk
   refine qq (qJ (qG H11 (b := y) e_1 rfl ?_))
   refine qJ (qG H11 (b := b) e_5 rfl ?_)
   refine jF (H11.sl e_4) (MtAt.idx hk2).1 (qD (by omega) ?_)
   refine qq (qJ ?_)
   refine qc H11 (b := y) e_1 ⟨rfl, rfl⟩ (by show 10 < 17; omega) fun h12 H12 => ?_
   have H12 : HS g h12 (qw y (xp sv lv ov mv o 0 err left (w + 1) p.regs) :: RvC o (zp (zK V).2).2 :: vD lv (s.out.take p.told) :: yb ov qs2 :: yo mv mt :: qw b (yc (p, (kk : Int))) :: R) := H12
   clear H11
   refine qq (qJ (qG H12 (b := y) .here rfl ?_))
   refine qJ (qG H12 (b := b) e_5 rfl ?_)
   refine qJ (qh H12 (b := b) (off := 1) e_5 rfl (by omega) (l := Kh p.regs) rfl ?_)
   refine qJ (qG H12 (b := b) e_5 rfl ?_)
   refine qF (l := yc (⟨18, w, p.regs, p.told⟩, (kk : Int))) rfl ?_
   refine qf (n := 1) (l := yc (⟨18, w, p.regs, p.told⟩, (kk : Int))) (sz := 11) H12 rfl rfl rfl rfl fun v13 h13 H13 => ?_
   refine je (H13.sel (P := yb ov qs2) e_4) (H13.sl .here) (by omega) (by omega) rfl fun v14 h14 H14 => ?_
   have o14 := H14.one .here
   refine qq (qJ ?_)
   refine qc H14 (b := y) e_2 o14 (by show 15 < 17; omega) fun h15 H15 => ?_
   have ho : (zp (zK V).2).1 = 0 := by
    unfold zp yY
    rw [hlv2, if_neg (by omega)]
   unfold jn at hD
   rw [if_pos ho] at hD
   subst hD
   have ht : (s.out.take p.told).length = p.told := by
    have := told.1
    simp; omega
   refine qj (qW ⟨rfl, RefC.I (s := { { yC s p with opn := ⟨18, w, p.regs, (s.out.take p.told).length⟩ :: r } with pc := w + 1 }) (kind := 0) (lv := lv) (ov := v14) (mv := mv) (qs := (⟨18, w, p.regs, p.told⟩, (kk : Int)) :: qs2) ?_ ?_⟩)
   ·show AtsQ _ (⟨18, w, p.regs, (s.out.take p.told).length⟩ :: r)
    rw [ht]
    exact e2.push fun h => by cases h
   ·show HS g h15 (qw y (xp sv lv v14 mv o 0 err left (w + 1) p.regs) :: vD lv (s.out.take p.told) :: qz 208 11 (qs2.length + 1) v14 (((⟨18, w, p.regs, p.told⟩, (kk : Int)) :: qs2).reverse.flatMap yc) :: yo mv mt :: RvC o (zp (zK V).2).2 :: R)
    rw [ki]
    exact H15.sub (.cons .here (.cons e_3 (.cons .here (.cons e_2 (.cons e_1 (.drop (.drop .refl)))))))
  ·rw [if_neg h17] at hD
   rw [show decide ((p, z).1.op = 17) = false from decide_eq_false h17]
   refine jq (qV ?_)
   exact hih r.length _ _ (by simp) ⟨r, (zK V).2, rfl, rfl, by omega, H8.sub (.cons .here (.cons e_1 (.drop .refl))), GD, hlv2, told.tail, fun q hq => hm q (List.mem_cons_of_mem _ hq), hD⟩
theorem U0 {n : Nat} (hn : 3 ≤ n) {V : VM} (O : OkV V) (hf : frS V.lv < 1000000) {lv ov mv : AV} {q : PtM × Int} {qs : List (PtM × Int)} {r : List PtM} (e : AtsQ qs r) (hq : qs.length ≤ 100) {K0 : AH → Go.Ae.R} {Q : AV → AH → Prop}
  (H : HS g h (qw y (xp sv lv ov mv o kind err left s.pc s.regs) :: vD lv s.out :: yb ov (q :: qs) :: yo mv mt :: RvC o V :: R)) (w : ∀ h', HS g h' (RefC y o sv mt { s with opn := r } kind err left :: RvC o (yX V).2 :: R) → wp (K0 h') Q) :
  wp (zd (.ptr y 0) fun v62 => qa v62 1 fun v63 => qm h v63 fun v64 => zd v64 fun v65 => qa v65 2 fun v66 => qm h v66 fun v67 => jf (callT tab qA n) (.fn 68 [] []) [v67] h fun _ h69 => zd (.ptr y 0) fun v70 => qa v70 15 fun v71 => qm h69 v71 fun v72 =>
   jZ .sub (.int .i64 ((q :: qs).length : Int)) (.int .i64 ((1 : Nat) : Int)) fun v73 => zS h69 208 11 v72 none (some v73) fun v74 => zd (.ptr y 0) fun v75 => qa v75 15 fun v76 => jX h69 v76 v74 1 fun h77 => K0 h77) Q := by
 refine qq (qJ (qG H (b := y) .here rfl ?_))
 refine qVF hn O hf (H.sel (P := RvC o V) e_4) fun h3 H3 => ?_
 refine qq (qJ (qG H3 (b := y) e_1 rfl ?_))
 rw [show ((q :: qs).length : Int) = ((qs.length + 1 : Nat) : Int) from rfl]
 refine qb (by omega) ?_
 rw [show ((qs.length + 1 : Nat) : Int) - ((1 : Nat) : Int) = (qs.length : Int) by omega]
 refine yx (H3.sel (P := yb ov (q :: qs)) e_3) (by omega) (by simp) fun ov2 H6 => ?_
 rw [G3] at H6
 have o6 := H6.one .here
 refine qq (qJ ?_)
 refine qc H6 (b := y) e_2 o6 (by show 15 < 17; omega) fun h7 H7 => ?_
 have H7 : HS g h7 (qw y (xp sv lv ov2 mv o kind err left s.pc s.regs) :: yb ov2 qs :: RvC o (yX V).2 :: vD lv s.out :: yo mv mt :: R) := H7
 exact w h7 (RefC.I (s := { s with opn := r }) (lv := lv) (ov := ov2) (mv := mv) e (H7.sub (.cons .here (.cons e_2 (.cons .here (.cons e_1 (.cons .here .refl)))))))
theorem MO {z : Int} {K0 : AH → Go.Ae.R} {Q : AV → AH → Prop} (H : HS g h (RefC y o sv mt s kind err left :: R)) (w : ∀ h', HS g h' (RefC y o sv mt { s with pc := z } kind err left :: R) → wp (K0 h') Q) :
  wp (zd (.ptr y 0) fun v => qa v 10 fun v => jX h v (.int .i64 z) 1 K0) Q := by
 obtain ⟨lv, ov, mv, qs, e, H⟩ := RefC.E H
 refine qq (qJ ?_)
 refine qc H (b := y) .here ⟨rfl, rfl⟩ (by show 10 < 17; omega) fun h1 H1 => ?_
 exact w _ (RefC.I (s := { s with pc := z }) (lv := lv) (ov := ov) (mv := mv) e H1)
theorem qKb {z : Int} {kk : Nat} {K0 : AH → Go.Ae.R} {Q : AV → AH → Prop} (h1 : s.pc = kk) (h2 : mt[kk]? = some z) (h3 : -1 ≤ z ∧ z ≤ 1000) (H : HS g h (RefC y o sv mt s kind err left :: R)) (w : ∀ h', HS g h' (RefC y o sv mt { s with pc := z + 1 } kind err left :: R) → wp (K0 h') Q) :
  wp (zd (.ptr y 0) fun v => qa v 16 fun v => qm h v fun v104 => zd (.ptr y 0) fun v => qa v 10 fun v => qm h v fun v107 => xj v104 v107 1 fun v108 => qm h v108 fun v109 => jZ .add v109 (.int .i64 ((1 : Nat) : Int)) fun v110 => zd (.ptr y 0) fun v => qa v 10 fun v => jX h v v110 1 K0) Q := by
 have hH := H
 obtain ⟨lv, ov, mv, qs, e, H⟩ := RefC.E H
 refine qq (qJ (qG H (b := y) .here rfl ?_))
 refine qq (qJ (qG H (b := y) .here rfl ?_))
 rw [h1]
 refine jF (H.sl e_3) (MtAt.idx h2).1 (qD (by omega) ?_)
 exact MO hH w
theorem qQ9 {n : Nat} (hn : 5 ≤ n) {V : VM} {x : qM} {l : List qM} (P : DoP l mt s V x) (hlv : V.lv.length = s.opn.length + 1) (h5 : s.opn.length ≤ 5) (hb : x.1 = 14 ∨ x.1 = 17 → s.opn.length < 5) (hf : frS V.lv < 1000000) (hx : 14 ≤ x.1 ∧ x.1 ≤ 20)
  (H : HS g h (RefC y o sv mt s 0 err left :: RvC o V :: R)) :
  wp (callT tab qA n (.fn 96 [] []) [.ptr y 0, .agg (qe x)] h) fun r h' => r = .int .i64 0 ∧ (yW mt s V x.1).e = 0 ∧
   HS g h' (RefC y o sv mt { (yW mt s V x.1).s with pc := (yW mt s V x.1).nx } (if (yW mt s V x.1).blk = true then 3 else 0) err left :: RvC o (yW mt s V x.1).v :: R) := by
 (refine qP (g := (tD2 S96)) rfl (by omega) fun k hk => ?_; show wp (S96 (callT tab qA k) _ _ _).1 _; unfold S96; try simp only [ Int.ofNat_eq_natCast])
 have G := P.good
 have told := P.told
 have hout := P.out
 have hpc := P.pc
 have hne := P.ne
 have hmt := P.mt
 have hm := P.ways
 refine qU H rfl fun b h1 H1 => ?_
 have H1 : HS g h1 (qw b (qe x) :: RefC y o sv mt s 0 err left :: RvC o V :: R) := H1
 obtain ⟨lv, ov, mv, qs, e, H2⟩ := RefC.E (H1.sel (P := RefC y o sv mt s 0 err left) e_1)
 have el := e.len
 refine qq (qJ (qG H2 (b := y) .here rfl ?_))
 refine qd H2 e_2 ?_
 refine qJ (qG H1 (b := b) .here rfl ?_)
 unfold yW
 generalize hop : x.1 = op at *
 have hc : op = 14 ∨ op = 17 ∨ op = 15 ∨ op = 19 ∨ op = 18 ∨ op = 16 ∨ op = 20 := by omega
 have begins : (op = 14 ∨ op = 17) → wp (zd (.ptr y 0) fun v17 => qa v17 1 fun v18 => qm h1 v18 fun v19 => zd v19 fun v20 => qa v20 2 fun v21 => qm h1 v21 fun v22 => jf (callT tab qA k) (.fn 147 [] []) [v22] h1 fun v23 h24 =>
   jZ .neq v23 (.int .i64 ((0 : Nat) : Int)) fun v25 => jO v25 (jB [] h24 fun h26 => some (v23, h26)) (zd (.ptr y 0) fun v27 => qa v27 15 fun v28 => qm h24 v28 fun v29 => zd (.ptr y 0) fun v30 => qa v30 10 fun v31 => qm h24 v31 fun v32 =>
   zd (.ptr y 0) fun v33 => qa v33 2 fun v34 => ji h24 v34 8 fun v35 => zd (.ptr y 0) fun v36 => qa v36 12 fun v37 => qm h24 v37 fun v38 => xA v38 fun v39 => qa (.ptr b 0) 0 fun v40 => qm h24 v40 fun v41 => jZ .eql v41 (.int .i64 ((17 : Nat) : Int)) fun v42 =>
   jS [.int .i64 ((0 : Nat) : Int), .int .u64 ((0 : Nat) : Int), .int .u64 ((0 : Nat) : Int), .int .u64 ((0 : Nat) : Int), .int .u64 ((0 : Nat) : Int), .int .u64 ((0 : Nat) : Int), .int .u64 ((0 : Nat) : Int), .int .u64 ((0 : Nat) : Int), .int .u64 ((0 : Nat) : Int), .int .i64 ((0 : Nat) : Int), .bool false] [(0, 1, v32), (1, 8, v35), (9, 1, v39), (10, 1, v42)] fun v43 =>
   j0 h24 208 [.int .i64 ((0 : Nat) : Int), .int .u64 ((0 : Nat) : Int), .int .u64 ((0 : Nat) : Int), .int .u64 ((0 : Nat) : Int), .int .u64 ((0 : Nat) : Int), .int .u64 ((0 : Nat) : Int), .int .u64 ((0 : Nat) : Int), .int .u64 ((0 : Nat) : Int), .int .u64 ((0 : Nat) : Int), .int .i64 ((0 : Nat) : Int), .bool false] 1 [(0, 11, v43)] fun v44 h45 =>
   zQ h45 208 11 v29 v44 fun v46 h47 => zd (.ptr y 0) fun v48 => qa v48 15 fun v49 => jX h47 v49 v46 1 fun h50 => zd (.ptr y 0) fun v51 => qa v51 10 fun v52 => qm h50 v52 fun v53 => jZ .add v53 (.int .i64 ((1 : Nat) : Int)) fun v54 =>
   zd (.ptr y 0) fun v55 => qa v55 10 fun v56 => jX h50 v56 v54 1 fun h57 => jB [] h57 fun h12 => some (.int .i64 ((0 : Nat) : Int), h12))) fun r h' => r = .int .i64 0 ∧ (jn op s.pc (s.pc + 1) s V).e = 0 ∧
    HS g h' (RefC y o sv mt { (jn op s.pc (s.pc + 1) s V).s with pc := (jn op s.pc (s.pc + 1) s V).nx } (if (jn op s.pc (s.pc + 1) s V).blk = true then 3 else 0) err left :: RvC o (jn op s.pc (s.pc + 1) s V).v :: R) := by
  intro c
  have hb := hb c
  have ho : (zp V).1 = 0 := by
   unfold zp yY
   rw [hlv, if_neg (by omega)]
  unfold jn
  rw [if_pos ho]
  refine qq (qJ (qG H2 (b := y) .here rfl ?_))
  refine Z5 (by omega) G.ok (H2.sel (P := RvC o V) e_5) fun h3 H3 => ?_
  refine jj ho (qQ ?_)
  refine qq (qJ (qG H3 (b := y) e_1 rfl ?_))
  refine qq (qJ (qG H3 (b := y) e_1 rfl ?_))
  refine qq (qJ (qh H3 (b := y) (off := 2) e_1 rfl (by omega) (l := Kh s.regs) rfl ?_))
  refine qq (qJ (qG H3 (b := y) e_1 rfl ?_))
  refine qd H3 e_2 ?_
  refine qJ (qG H3 (b := b) e_5 (x := .int .i64 op) (by rw [← hop]; rfl) ?_)
  refine ge ?_
  refine qF (l := yc (⟨op, s.pc, s.regs, s.out.length⟩, s.pc)) rfl ?_
  refine qf (n := 1) (l := yc (⟨op, s.pc, s.regs, s.out.length⟩, s.pc)) (sz := 11) H3 rfl rfl rfl rfl fun v13 h13 H13 => ?_
  refine je (H13.sel (P := yb ov qs) e_4) (H13.sl .here) (by omega) (by omega) rfl fun v14 h14 H14 => ?_
  have o14 := H14.one .here
  refine qq (qJ ?_)
  refine qc H14 (b := y) e_3 o14 (by show 15 < 17; omega) fun h15 H15 => ?_
  have H15 : HS g h15 (qw y (xp sv lv v14 mv o 0 err left s.pc s.regs) :: _) := H15
  refine qq (qJ (qG H15 (b := y) .here rfl ?_))
  refine qD (by omega) (qq (qJ ?_))
  refine qc H15 (b := y) .here ⟨rfl, rfl⟩ (by show 10 < 17; omega) fun h16 H16 => ?_
  refine qj (qW ⟨rfl, rfl, RefC.I (s := { { s with opn := ⟨op, s.pc, s.regs, s.out.length⟩ :: s.opn } with pc := s.pc + 1 }) (kind := 0) (lv := lv) (ov := v14) (mv := mv) (qs := (⟨op, s.pc, s.regs, s.out.length⟩, s.pc) :: qs) (e.push fun _ => rfl) ?_⟩)
  show HS g h16 (qw y (xp sv lv v14 mv o 0 err left (s.pc + 1) s.regs) :: vD lv s.out :: qz 208 11 (qs.length + 1) v14 (((⟨op, s.pc, s.regs, s.out.length⟩, s.pc) :: qs).reverse.flatMap yc) :: yo mv mt :: RvC o (zp V).2 :: R)
  rw [ki]
  exact H16.sub (.cons .here (.cons e_3 (.cons .here (.cons e_2 (.cons e_1 (.drop (.drop .refl)))))))
 rcases hc with c | c | c | c | c | c | c
 all_goals repeat (first | with_reducible refine qK (by omega) ?_ | with_reducible refine qy (by omega) ?_ | (with_reducible refine qX ?_; try dsimp only) | with_reducible refine qV ?_ | with_reducible refine qQ ?_)
 ·rw [if_pos (.inl c)]; exact begins (.inl c)
 ·rw [if_pos (.inr c)]; exact begins (.inr c)
 rotate_right
 ·rw [if_neg (by omega), if_neg (by omega), if_neg (by omega), if_neg (by omega)]
  refine qY (M4 (by omega) G hlv h5 told hm hpc (H1.sub (L' := RefC y o sv mt s 0 err left :: RvC o V :: qw b (qe x) :: R) (.cons e_1 (.cons e_1 (.cons .here .refl))))) ?_
  rintro _ h3 ⟨e3, H3⟩
  exact qj (qW ⟨rfl, e3, H3.sub (.cons .here (.cons .here (.drop .refl)))⟩)
 all_goals
  obtain ⟨p, r, ho⟩ : ∃ p r, s.opn = p :: r := List.exists_cons_of_ne_nil (hne (by omega))
  rw [ho] at e hlv told hm
  obtain ⟨z, qs, rfl, e, hz⟩ := e.cons
  have el := e.len
  rw [ho] at h5
  simp at h5
 ·rw [if_neg (by omega), if_pos (.inl c)]
  refine U0 (by omega) G.ok hf e (by omega) (H2.sub (L' := qw y (xp sv lv ov mv o 0 err left s.pc s.regs) :: vD lv s.out :: yb ov ((p, z) :: qs) :: yo mv mt :: RvC o V :: qw b (qe x) :: R) (.cons .here (.cons .here (.cons .here (.cons .here (.cons e_1 (.cons .here .refl))))))) fun h3 H3 => ?_
  obtain ⟨lv2, ov2, mv2, qs2, e2, H4⟩ := RefC.E H3
  refine qq (qJ (qG H4 (b := y) .here rfl (qD (by show -9223372036854775808 ≤ s.pc + ((1 : Nat) : Int) ∧ s.pc + ((1 : Nat) : Int) ≤ 9223372036854775807; omega) ?_)))
  refine MO H3 fun h5 H5 => ?_
  rw [ho]
  exact qj (qW ⟨rfl, (yt (by rw [hlv]; simp)).1, H5.sub (.cons .here (.cons .here (.drop .refl)))⟩)
 ·rw [if_neg (by omega), if_pos (.inr c)]
  refine U0 (by omega) G.ok hf e (by omega) (H2.sub (L' := qw y (xp sv lv ov mv o 0 err left s.pc s.regs) :: vD lv s.out :: yb ov ((p, z) :: qs) :: yo mv mt :: RvC o V :: qw b (qe x) :: R) (.cons .here (.cons .here (.cons .here (.cons .here (.cons e_1 (.cons .here .refl))))))) fun h3 H3 => ?_
  obtain ⟨lv2, ov2, mv2, qs2, e2, H4⟩ := RefC.E H3
  refine qq (qJ (qG H4 (b := y) .here rfl (qD (by show -9223372036854775808 ≤ s.pc + ((1 : Nat) : Int) ∧ s.pc + ((1 : Nat) : Int) ≤ 9223372036854775807; omega) ?_)))
  refine MO H3 fun h5 H5 => ?_
  rw [ho]
  exact qj (qW ⟨rfl, (yt (by rw [hlv]; simp)).1, H5.sub (.cons .here (.cons .here (.drop .refl)))⟩)
 ·rw [if_neg (by omega), if_neg (by omega), if_pos c]
  obtain ⟨kk, hk1, w, hk2, hk3, hk4⟩ := hmt (.inl c)
  rw [MtAt.num hk1 hk2, ho]
  refine U0 (by omega) G.ok hf e (by omega) (H2.sub (L' := qw y (xp sv lv ov mv o 0 err left s.pc s.regs) :: vD lv s.out :: yb ov ((p, z) :: qs) :: yo mv mt :: RvC o V :: qw b (qe x) :: R) (.cons .here (.cons .here (.cons .here (.cons .here (.cons e_1 (.cons .here .refl))))))) fun h3 H3 => ?_
  refine qKb (s := { s with opn := r }) hk1 hk2 ⟨hk3, hk4⟩ H3 fun h5 H5 => ?_
  exact qj (qW ⟨rfl, (yt (by rw [hlv]; simp)).1, H5.sub (.cons .here (.cons .here (.drop .refl)))⟩)
 ·rw [if_neg (by omega), if_neg (by omega), if_neg (by omega), if_pos c]
  obtain ⟨kk, hk1, w, hk2, hk3, hk4⟩ := hmt (.inr c)
  rw [MtAt.num hk1 hk2, ho]
  have H2 := H2.sub (L' := qw y (xp sv lv ov mv o 0 err left s.pc s.regs) :: vD lv s.out :: yb ov ((p, z) :: qs) :: yo mv mt :: RvC o V :: qw b (qe x) :: R) (.cons .here (.cons .here (.cons .here (.cons .here (.cons e_1 (.cons .here .refl))))))
  refine qq (qJ (qG H2 (b := y) .here rfl ?_))
  rw [show (((p, z) :: qs).length : Int) = ((qs.length + 1 : Nat) : Int) from rfl]
  refine qb (by omega) ?_
  rw [show ((qs.length + 1 : Nat) : Int) - ((1 : Nat) : Int) = (qs.length : Int) by omega]
  refine zJ (l := yc (p, z)) (H2.sl e_2) (i := qs.length) (by simp) (by omega) Mx ?_
  refine qU H2 rfl fun b2 h3 H3 => jG H3 .here rfl (by show 0 + 11 ≤ 11; omega) rfl fun h4 H4 => ?_
  have H4 : HS g h4 (qw b2 (yc (p, z)) :: qw y (xp sv lv ov mv o 0 err left s.pc s.regs) :: vD lv s.out :: yb ov ((p, z) :: qs) :: yo mv mt :: RvC o V :: qw b (qe x) :: R) := H4
  clear H3 H1
  refine qq (qJ (qG H4 (b := y) e_1 rfl ?_))
  refine qQ3 (by omega) G.ok (H4.sel (P := RvC o V) e_5) fun h5 H5 => ?_
  clear H4
  refine qq (qJ (qG H5 (b := y) e_2 rfl ?_))
  refine qb (by omega) ?_
  rw [show ((qs.length + 1 : Nat) : Int) - ((1 : Nat) : Int) = (qs.length : Int) by omega]
  refine yx (H5.sel (P := yb ov ((p, z) :: qs)) e_4) (by omega) (by simp) fun ov2 H6 => ?_
  rw [G3] at H6
  have o6 := H6.one .here
  refine qq (qJ ?_)
  refine qc H6 (b := y) e_3 o6 (by show 15 < 17; omega) fun h7 H7 => ?_
  have H7 : HS g h7 (qw y (xp sv lv ov2 mv o 0 err left s.pc s.regs) :: yb ov2 qs :: RvC o (zK V).2 :: qw b2 (yc (p, z)) :: vD lv s.out :: yo mv mt :: qw b (qe x) :: R) := H7
  clear H5 H6
  have H8 : HS g h7 (RefC y o sv mt { s with opn := r } 0 err left :: qw b2 (yc (p, z)) :: RvC o (zK V).2 :: qw b (qe x) :: R) := RefC.I (s := { s with opn := r }) (lv := lv) (ov := ov2) (mv := mv) e (H7.sub (.cons .here (.cons e_3 (.cons .here (.cons e_2 (.cons e_1 (.cons .here .refl)))))))
  refine qX ?_
  dsimp only
  refine qKS (s := { s with opn := r }) told.1 H8 fun h9 H9 => ?_
  refine qKb (s := yC { s with opn := r } p) hk1 hk2 ⟨hk3, hk4⟩ H9 fun h10 H10 => ?_
  exact qj (qW ⟨rfl, (gZ (by rw [hlv]; simp)).1, H10.sub (.cons .here (.cons e_1 (.drop (.drop .refl))))⟩)
end
end Go.Proofs.YtdlfmpmpmkffjaaGreatDoor
