/- Attempts in order: which stands ahead; the order, by the library's sort. -/
import Derived.Test.YtlmfnmppcdijfaaHistSort
namespace Go.Proofs.Ytlmfnmppcdijfaa
open Go Go.Ae
set_option maxRecDepth 100000

structure AttM where
  kind : Int
  born : Int
  ended : Int
  stamp : Int
  rv : AV
  cv : AV
  nc : Nat
def encA (a : AttM) : List AV := [.int .i64 0, .int .i64 0, .int .i64 0, .bool false, .int .i64 a.kind, .int .i64 0, .int .u64 0, .int .u64 a.stamp, .int .i64 a.born, .int .i64 a.ended, a.rv, a.cv, .nils, .str []]
structure AttOk (a : AttM) : Prop where
  rv : a.rv.one = true
  cv : LenV a.cv a.nc
theorem lenV_one {v : AV} {n : Nat} (H : LenV v n) : v.one = true := by
  obtain ⟨h1, h2⟩ := H
  cases v <;> first | rfl | (simp [lenOfV] at h1; done)
theorem encA_one {a : AttM} (h : AttOk a) : allOne (encA a) = true := by
  have h1 := h.rv
  have h2 := lenV_one h.cv
  unfold allOne encA
  simp only [List.all_cons, h1, h2]
  rfl
def wrB (a : AttM) : Bool := decide (a.kind = 2) && decide (0 < a.nc)
def lessB (a b : AttM) : Bool := if a.stamp = b.stamp then (if wrB a = wrB b then decide (a.born < b.born) else wrB a) else decide (a.stamp < b.stamp)
theorem ww_eqB {a b neg : Bool} {K : AV → R} {Q : AV → AH → Prop} (w : wp (K (.bool ((a == b) != neg))) Q) : wp (pEq .bool neg (.bool a) (.bool b) K) Q := w

theorem wrote_ok {n : Nat} (hn : 1 ≤ n) {a : AttM} (ha : AttOk a) {h : AH} : wp (callT tab rtab n (.fn 17 [] []) [.agg (encA a)] h) fun v h' => v = .bool (wrB a) ∧ Old h.nx h h' := by
  refine ww_fn (g := W17) rfl (by omega) fun k hk => ?_
  show wp (S17 (callT tab rtab k) _ _) _
  unfold S17
  try simp only [Int.ofNat_eq_natCast]
  refine ww_box (encA_one ha) fun b h1 hb A F => ?_
  have O := (Old.refl h.nx h).step F (fun _ hf => hf.elim)
  refine ww_fld A rfl (ww_eqlC (fun hc => ?_) fun hc => ?_)
  · repeat (first | with_reducible refine ww_condT ?_ | with_reducible refine ww_condF ?_ | (with_reducible refine ww_wantTT ?_; try dsimp only) | (with_reducible refine ww_wantTF ?_; try dsimp only) | (with_reducible refine ww_wantFT ?_; try dsimp only) | (with_reducible refine ww_wantFF ?_; try dsimp only) | (with_reducible refine ww_wantU ?_; try dsimp only) | with_reducible refine ww_pickT ?_ | with_reducible refine ww_pickF ?_ | (with_reducible refine ww_joinS ?_; try dsimp only) | with_reducible refine ww_leave ?_ | with_reducible refine ww_notT ?_ | with_reducible refine ww_notF ?_ | with_reducible refine ww_addI (by omega) ?_ | with_reducible refine ww_subI (by omega) ?_ | with_reducible refine ww_addU (by omega) ?_ | with_reducible refine ww_subU (by omega) ?_ | with_reducible refine ww_min ?_ | with_reducible refine ww_max ?_)
    refine ww_fld A rfl (ww_lenV ha.cv (ww_gtr ?_))
    repeat (first | with_reducible refine ww_condT ?_ | with_reducible refine ww_condF ?_ | (with_reducible refine ww_wantTT ?_; try dsimp only) | (with_reducible refine ww_wantTF ?_; try dsimp only) | (with_reducible refine ww_wantFT ?_; try dsimp only) | (with_reducible refine ww_wantFF ?_; try dsimp only) | (with_reducible refine ww_wantU ?_; try dsimp only) | with_reducible refine ww_pickT ?_ | with_reducible refine ww_pickF ?_ | (with_reducible refine ww_joinS ?_; try dsimp only) | with_reducible refine ww_leave ?_ | with_reducible refine ww_notT ?_ | with_reducible refine ww_notF ?_ | with_reducible refine ww_addI (by omega) ?_ | with_reducible refine ww_subI (by omega) ?_ | with_reducible refine ww_addU (by omega) ?_ | with_reducible refine ww_subU (by omega) ?_ | with_reducible refine ww_min ?_ | with_reducible refine ww_max ?_)
    refine ww_ret ⟨?_, O⟩
    have hc : a.kind = 2 := hc
    unfold wrB
    rw [decide_eq_true hc, Bool.true_and]
    exact congrArg AV.bool (decide_eq_decide.2 (by omega))
  · repeat (first | with_reducible refine ww_condT ?_ | with_reducible refine ww_condF ?_ | (with_reducible refine ww_wantTT ?_; try dsimp only) | (with_reducible refine ww_wantTF ?_; try dsimp only) | (with_reducible refine ww_wantFT ?_; try dsimp only) | (with_reducible refine ww_wantFF ?_; try dsimp only) | (with_reducible refine ww_wantU ?_; try dsimp only) | with_reducible refine ww_pickT ?_ | with_reducible refine ww_pickF ?_ | (with_reducible refine ww_joinS ?_; try dsimp only) | with_reducible refine ww_leave ?_ | with_reducible refine ww_notT ?_ | with_reducible refine ww_notF ?_ | with_reducible refine ww_addI (by omega) ?_ | with_reducible refine ww_subI (by omega) ?_ | with_reducible refine ww_addU (by omega) ?_ | with_reducible refine ww_subU (by omega) ?_ | with_reducible refine ww_min ?_ | with_reducible refine ww_max ?_)
    refine ww_ret ⟨?_, O⟩
    have hc : ¬ a.kind = 2 := hc
    unfold wrB
    rw [decide_eq_false hc, Bool.false_and]

theorem less_ok {n : Nat} (hn : 2 ≤ n) {a b : AttM} (ha : AttOk a) (hb : AttOk b) {h : AH} : wp (callT tab rtab n (.fn 9 [] []) [.agg (encA a), .agg (encA b)] h) fun v h' => v = .bool (lessB a b) ∧ Old h.nx h h' := by
  refine ww_fn (g := W9) rfl (by omega) fun k hk => ?_
  show wp (S9 (callT tab rtab k) _ _ _) _
  unfold S9
  try simp only [Int.ofNat_eq_natCast]
  refine ww_box (encA_one ha) fun b1 h1 hb1 A1 F1 => ?_
  refine ww_box (encA_one hb) fun b2 h3 hb2 A2 F2 => ?_
  have A1 := A1.fr F2 (fun hf => hf)
  have A1 : Row h3 b1 (encA a) _ false := A1
  have A2 : Row h3 b2 (encA b) _ false := A2
  have O3 := ((Old.refl h.nx h).step F1 (fun _ hf => hf.elim)).step F2 (fun _ hf => hf.elim)
  have l1 := A1.lt
  have l2 := A2.lt
  refine ww_fld A1 rfl (ww_fld A2 rfl (ww_neqC (fun hc => ww_condT ?_) fun hc => ww_condF ?_))
  · refine ww_fld A1 rfl (ww_fld A2 rfl (ww_lss (ww_ret ⟨?_, O3⟩)))
    unfold lessB
    rw [if_neg hc]
  · refine ww_joinS ?_
    refine ww_loadN (l := encA a) rfl (by omega) (fun i _ => by rw [Nat.zero_add]; exact A1.at i) ?_
    refine ww_call (wrote_ok (by omega) ha) ?_
    rintro v h27 ⟨rfl, O27⟩
    have A2' := A2.old O27 l2
    refine ww_loadN (l := encA b) rfl (by omega) (fun i _ => by rw [Nat.zero_add]; exact A2'.at i) ?_
    refine ww_call (wrote_ok (by omega) hb) ?_
    rintro v h30 ⟨rfl, O30⟩
    have O37 : Old h3.nx h3 h30 := O27.step O30 (fun y hy => Nat.le_trans O27.nx hy)
    refine ww_eqB (ww_chkN (l := encA b) rfl (by omega) (fun i _ => by rw [Nat.zero_add]; exact A2.at i) (fun i _ => by rw [Nat.zero_add]; exact A2'.at i) l2 ?_)
    have A1'' := A1.old O37 l1
    have A2'' := A2.old O37 l2
    have Oz : Old h.nx h h30 := O3.step O37 (fun y hy => Nat.le_trans O3.nx hy)
    dsimp only
    refine ww_condB (fun hne => ?_) fun heq => ?_
    · refine ww_loadN (l := encA a) rfl (by omega) (fun i _ => by rw [Nat.zero_add]; exact A1''.at i) ?_
      refine ww_call (wrote_ok (by omega) ha) ?_
      rintro v h40 ⟨rfl, O40⟩
      refine ww_ret ⟨?_, Oz.step O40 (fun y hy => Nat.le_trans Oz.nx hy)⟩
      unfold lessB
      rw [if_pos hc, if_neg (fun h => by rw [h] at hne; simp at hne)]
    · refine ww_fld A1'' rfl (ww_fld A2'' rfl (ww_lss (ww_ret ⟨?_, Oz⟩)))
      unfold lessB
      have he : wrB a = wrB b := by simpa using heq
      rw [if_pos hc, if_pos he]

theorem less_asym (a b : AttM) (h : lessB a b = true) : lessB b a = false := by
  unfold lessB at *
  by_cases h1 : a.stamp = b.stamp
  · rw [if_pos h1] at h
    rw [if_pos h1.symm]
    by_cases h2 : wrB a = wrB b
    · rw [if_pos h2] at h
      rw [if_pos h2.symm]
      simp at h ⊢; omega
    · rw [if_neg h2] at h
      rw [if_neg (fun e => h2 e.symm)]
      cases hb : wrB b <;> simp_all
  · rw [if_neg h1] at h
    rw [if_neg (fun e => h1 e.symm)]
    simp at h ⊢; omega
theorem less_ntrans (a b c : AttM) (h : lessB b a = false) (h' : lessB c b = false) : lessB c a = false := by
  unfold lessB at *
  by_cases h1 : b.stamp = a.stamp
  · rw [if_pos h1] at h
    by_cases h2 : c.stamp = b.stamp
    · rw [if_pos h2] at h'
      rw [if_pos (h2.trans h1)]
      cases ha : wrB a <;> cases hb : wrB b <;> cases hc : wrB c <;> simp_all <;> omega
    · rw [if_neg h2] at h'
      rw [if_neg (fun e => h2 (e.trans h1.symm))]
      simp at h' ⊢; omega
  · rw [if_neg h1] at h
    by_cases h2 : c.stamp = b.stamp
    · rw [if_neg (fun e => h1 (h2.symm.trans e))]
      simp at h ⊢; omega
    · rw [if_neg h2] at h'
      simp at h h'
      rw [if_neg (by omega)]
      simp; omega

theorem sl_fr2 {g g' : AH} {b sz n : Nat} {v : AV} {xs : List AV} (S : Sl (fun y => y ≠ b) g sz n v xs) (F : Fr (fun y => y = b ∨ g.nx ≤ y) g g') : Sl (fun y => y ≠ b) g' sz n v xs := by
  cases S with
  | nils => exact .nils
  | empt a => exact .empt a
  | mk hd hb hr hl ha =>
    have hn : ∀ c, c < g.nx → c ≠ b → ¬ (c = b ∨ g.nx ≤ c) := by rintro c h1 h2 (h | h); exact h2 h; omega
    exact .mk hd (Nat.lt_of_lt_of_le hb F.nx) (rd_fr F hb (hn _ hb hd) hr) hl fun i hi => by rw [at_fr F hb (hn _ hb hd)]; exact ha i hi
theorem sl_one {D : Nat → Prop} {g : AH} {sz n : Nat} {v : AV} {xs : List AV} (S : Sl D g sz n v xs) : v.cells = [v] ∧ allOne v.cells = true ∧ v.one = true := by cases S <;> exact ⟨rfl, rfl, rfl⟩
theorem sl_lt {D : Nat → Prop} {g : AH} {sz n : Nat} {v : AV} {xs : List AV} (S : Sl D g sz n v xs) : Sl (fun y => D y ∧ y < g.nx) g sz n v xs := by
  cases S with
  | nils => exact .nils
  | empt a => exact .empt a
  | mk hd hb hr hl ha => exact .mk ⟨hd, hb⟩ hb hr hl ha
/-- the list as the sort's comparison finds it: in a box -/
structure Boxed (al : List AttM) (p : Nat) (l : AV) (b : Nat) (g : AH) : Prop where
  box : ∃ e, Row g p [l] e false
  sl : Sl (fun y => y ≠ b) g 14 al.length l (al.flatMap encA)
  ok : ∀ a ∈ al, AttOk a
  pb : p ≠ b
def ltA (al : List AttM) (i j : Nat) : Prop := ∃ a b, al[i]? = some a ∧ al[j]? = some b ∧ lessB a b = true

theorem encA_len (a : AttM) : (encA a).length = 14 := rfl
theorem sl_row (al : List AttM) {i : Nat} (hi : i < al.length) : ((al.flatMap encA).drop (i * 14)).take 14 = encA (al[i]) := by
  rw [flat_drop (sz := 14) encA encA_len, List.drop_eq_getElem_cons hi, List.flatMap_cons]; rfl
theorem Boxed.fr {al : List AttM} {p : Nat} {l : AV} {b : Nat} {g g' : AH} (B : Boxed al p l b g) (F : Fr (fun y => y = b ∨ g.nx ≤ y) g g') : Boxed al p l b g' := by
  obtain ⟨⟨e, h1⟩, h2, h3, h4⟩ := B
  have hp := h1.lt
  exact ⟨⟨e, h1.fr F (by rintro (h | h); exact h4 h; omega)⟩, sl_fr2 h2 F, h3, h4⟩

theorem cmp_ok {al : List AttM} {p b : Nat} {l : AV} : Cmps (.fn 16 [] [.ptr p 0]) b 4 al.length (ltA al) (Boxed al p l b) := by
  refine ⟨?_, fun g g' B F => B.fr F, ?_, ?_⟩
  · intro m hm g B i j hi hj
    obtain ⟨⟨e, A⟩, S, hok, _⟩ := B
    refine ww_fc (g := W16) rfl (by omega) fun k hk => ?_
    show wp (S16 (callT tab rtab k) _ _ _ _) _
    unfold S16
    simp only [Int.ofNat_eq_natCast]
    have hl : g.at p 0 = some l := A.at 0
    refine ww_load1 hl (ww_idxN (l := encA al[i]) S hi (by omega) (sl_row al hi) ?_)
    refine ww_load1 hl (ww_idxN (l := encA al[j]) S hj (by omega) (sl_row al hj) ?_)
    refine ww_call (less_ok (by omega) (hok _ (List.getElem_mem hi)) (hok _ (List.getElem_mem hj))) ?_
    rintro v g2 ⟨rfl, O2⟩
    refine ww_condB (fun h1 => ww_ret ⟨⟨_, rfl, ?_⟩, O2⟩) fun h1 => ?_
    · exact ⟨fun _ => ⟨_, _, List.getElem?_eq_getElem hi, List.getElem?_eq_getElem hj, h1⟩, fun _ => by decide⟩
    · have A2 := A.old O2 A.lt
      have S2 := S.old O2
      have hl2 : g2.at p 0 = some l := A2.at 0
      refine ww_load1 hl2 (ww_idxN (l := encA al[j]) S2 hj (by omega) (sl_row al hj) ?_)
      refine ww_load1 hl2 (ww_idxN (l := encA al[i]) S2 hi (by omega) (sl_row al hi) ?_)
      refine ww_call (less_ok (by omega) (hok _ (List.getElem_mem hj)) (hok _ (List.getElem_mem hi))) ?_
      rintro v g3 ⟨rfl, O3⟩
      have hno : ¬ ltA al i j := by
        rintro ⟨a, c, e1, e2, e3⟩
        rw [List.getElem?_eq_getElem hi] at e1
        rw [List.getElem?_eq_getElem hj] at e2
        cases e1; cases e2
        rw [h1] at e3; cases e3
      have O23 : Old g.nx g g3 := O2.step O3 (fun y hy => Nat.le_trans O2.nx hy)
      refine ww_condB (fun h2 => ww_ret ⟨⟨_, rfl, ?_⟩, O23⟩) fun h2 => ww_ret ⟨⟨_, rfl, ?_⟩, O23⟩
      · exact ⟨fun h => by omega, fun h => (hno h).elim⟩
      · exact ⟨fun h => by omega, fun h => (hno h).elim⟩
  · rintro i j ⟨a, c, e1, e2, e3⟩ ⟨a', c', e4, e5, e6⟩
    rw [e2] at e4; rw [e1] at e5
    cases e4; cases e5
    rw [less_asym _ _ e3] at e6; cases e6
  · rintro i j k hj h1 h2 ⟨c, a, e1, e2, e3⟩
    cases hb : al[j]? with
    | none => rw [List.getElem?_eq_getElem hj] at hb; cases hb
    | some b =>
      have n1 : lessB b a = false := by
        cases h : lessB b a
        · rfl
        · exact (h1 ⟨b, a, hb, e2, h⟩).elim
      have n2 : lessB c b = false := by
        cases h : lessB c b
        · rfl
        · exact (h2 ⟨c, b, e1, hb, h⟩).elim
      rw [less_ntrans _ _ _ n1 n2] at e3; cases e3

theorem order_ok {D : Nat → Prop} {n : Nat} (hn : 8 ≤ n) {al : List AttM} {l : AV} {h : AH} (S : Sl D h 14 al.length l (al.flatMap encA)) (hok : ∀ a ∈ al, AttOk a) (h20 : al.length ≤ 20) :
    wp (callT tab rtab n (.fn 8 [] []) [l] h) fun v h' => ∃ (ys : List Nat) (b : Nat) (e : TypeId), v = .slice b 0 al.length al.length false ∧ h.nx ≤ b ∧ ys = isM (ltA al) (List.range al.length) ∧ ys.Perm (List.range al.length) ∧ ys.Pairwise (fun x y => ¬ ltA al y x) ∧
      Row h' b (ys.map I64) e false ∧ Old h.nx h h' := by
  obtain ⟨hcl, hone, _⟩ := sl_one S
  refine ww_fn (g := W8) rfl (by omega) fun k hk => ?_
  show wp (S8 (callT tab rtab k) _ _) _
  unfold S8
  try simp only [Int.ofNat_eq_natCast]
  refine ww_box hone fun p h1 hp A1 F1 => ?_
  rw [hcl] at A1
  have S1 := S.fr F1 (fun _ _ hf => hf)
  refine ww_load1 (A1.at 0) (ww_len S1 (ww_make (Nat.le_refl _) (by omega) fun b h5 hb A5 F5 => ww_lenS ?_))
  rw [repl_one] at A5
  have A1' := A1.fr F5 (fun hf => hf)
  have lp := A1.lt
  have O5 : Old h.nx h h5 := ((Old.refl h.nx h).step F1 (fun _ hf => hf.elim)).step F5 (fun _ hf => hf.elim)
  have nx1 := F1.nx
  refine ww_iter (fun m s g => ∃ i : Nat, s = (I64 i, I64 al.length, .slice b 0 al.length al.length false, .ptr p 0, ()) ∧ i ≤ al.length ∧ m = al.length - i ∧ (∃ e, Row g b ((List.range i ++ List.replicate (al.length - i) 0).map I64) e false) ∧ Fr (fun y => y = b) h5 g) ?_ (m := al.length) (by show al.length < 1000000000; omega)
    ⟨0, rfl, by omega, by omega, ⟨_, by simpa [I64] using A5⟩, Fr.refl _ _⟩
  rintro m ih s g hih ⟨i, rfl, h2, rfl, ⟨e, A⟩, F⟩
  dsimp only
  refine ww_lssC (fun hc => ww_condT ?_) fun hc => ww_condF ?_
  · refine ww_setI A rfl rfl (by omega) (by simp; omega) fun h13 A13 F13 _ => ww_addI (by omega) ?_
    refine hih (al.length - (i + 1)) _ _ (by omega) ⟨i + 1, rfl, by omega, rfl, ⟨e, ?_⟩, (F.trans F13).mono (fun y _ hy => hy.elim id id)⟩
    have : ((List.range i ++ List.replicate (al.length - i) 0).map I64).set (0 + i) (I64 i) = (List.range (i + 1) ++ List.replicate (al.length - (i + 1)) 0).map I64 := by
      rw [← List.map_set, Nat.zero_add]
      congr 1
      obtain ⟨r, hr⟩ : ∃ r, al.length - i = r + 1 := ⟨al.length - i - 1, by omega⟩
      rw [hr, show al.length - (i + 1) = r by omega, List.set_append_right _ _ (by simp), List.range_succ]
      simp [List.replicate_succ]
    rw [← this]; exact A13
  · have hi : i = al.length := by omega
    subst hi
    rw [Nat.sub_self, List.replicate_zero, List.append_nil] at A
    have S5 := (S.old O5)
    have Og : Old h.nx h g := O5.step F (by rintro y rfl; omega)
    have B : Boxed al p l b g := by
      refine ⟨⟨_, A1'.fr F (by omega)⟩, ?_, hok, by omega⟩
      exact ((sl_lt S).old Og).mono (fun y hy => by omega)
    refine ww_call (sort_ok cmp_ok (by omega) (xs := List.range al.length) (by simp) (fun x hx => List.mem_range.1 hx) h20 A B) ?_
    rintro v g2 ⟨ys, p0, p1, p2, p3, p4, _⟩
    refine ww_leave (ww_ret ⟨ys, b, e, rfl, by omega, p0, p1, p2, p3, Og.step p4 ?_⟩)
    have := Og.nx
    rintro y (rfl | hy) <;> omega
end Go.Proofs.Ytlmfnmppcdijfaa
