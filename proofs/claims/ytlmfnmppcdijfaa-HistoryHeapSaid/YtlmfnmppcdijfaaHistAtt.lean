/- Attempts out of draws: what the law makes of them. -/
import Derived.Test.YtlmfnmppcdijfaaHistLess
import Derived.Test.YtlmfnmppcdijfaaBookWithin
import Derived.Test.YtlmfnmppcdijfaaApply
namespace Go.Proofs.Ytlmfnmppcdijfaa
open Go Go.Ae
set_option maxRecDepth 100000

structure DrawM where
  kind : Int
  born : Int
  ended : Int
  stamp : Int
  rv : AV
  cv : AV
  rs : List (Int × Int)
  cs : List (Int × Int)
def encD (d : DrawM) : List AV := [.int .i64 d.kind, .int .i64 d.born, .int .i64 d.ended, .int .u64 d.stamp, d.rv, d.cv]
structure DrawOk (h : AH) (d : DrawM) : Prop where
  rs : Sl (fun y => y < h.nx) h 2 d.rs.length d.rv (d.rs.flatMap encC)
  cs : Sl (fun y => y < h.nx) h 2 d.cs.length d.cv (d.cs.flatMap encC)
def own (v : AV) (y : Nat) : Prop := match v with | .slice b _ _ _ _ => y = b | _ => False
theorem acc_own {D : Nat → Prop} {g : AH} {e : TypeId} {sz n : Nat} {v : AV} {xs : List AV} (A : Acc D g e sz n v xs) : Acc (fun y => D y ∧ own v y) g e sz n v xs := by
  obtain ⟨h1, h2 | ⟨b, rfl, h2, h3⟩⟩ := A
  · exact ⟨h1, .inl h2⟩
  · exact ⟨h1, .inr ⟨b, rfl, ⟨h2, rfl⟩, h3⟩⟩
theorem acc_own_of {D : Nat → Prop} {g : AH} {e : TypeId} {sz n : Nat} {v : AV} {xs : List AV} (A : Acc D g e sz n v xs) {y : Nat} (h : own v y) : D y := by
  obtain ⟨h1, ⟨rfl, _⟩ | ⟨b, rfl, h2, h3⟩⟩ := A
  · exact h.elim
  · rw [show y = b from h]; exact h2
theorem acc_own_lt {D : Nat → Prop} {g : AH} {e : TypeId} {sz n : Nat} {v : AV} {xs : List AV} (A : Acc D g e sz n v xs) {y : Nat} (h : own v y) : y < g.nx := by
  obtain ⟨h1, ⟨rfl, _⟩ | ⟨b, rfl, h2, h3⟩⟩ := A
  · exact h.elim
  · rw [show y = b from h]; exact h3.lt
theorem sl_acc {D : Nat → Prop} {g : AH} {e : TypeId} {sz n : Nat} {v : AV} {xs : List AV} (A : Acc D g e sz n v xs) : Acc (fun y => D y ∧ y < g.nx) g e sz n v xs := by
  obtain ⟨h1, h2 | ⟨b, rfl, h2, h3⟩⟩ := A
  · exact ⟨h1, .inl h2⟩
  · exact ⟨h1, .inr ⟨b, rfl, ⟨h2, h3.lt⟩, h3⟩⟩
theorem acc_one {D : Nat → Prop} {g : AH} {e : TypeId} {sz n : Nat} {v : AV} {xs : List AV} (A : Acc D g e sz n v xs) : v.cells = [v] ∧ v.one = true := by
  obtain ⟨h1, ⟨rfl, _⟩ | ⟨b, rfl, h2, h3⟩⟩ := A <;> exact ⟨rfl, rfl⟩
theorem acc_old {D : Nat → Prop} {N : Nat} {g g' : AH} {e : TypeId} {sz n : Nat} {v : AV} {xs : List AV} (A : Acc D g e sz n v xs) (F : Old N g g') (hN : g.nx ≤ N) : Acc D g' e sz n v xs := by
  obtain ⟨h1, h2 | ⟨b, rfl, h2, h3⟩⟩ := A
  · exact ⟨h1, .inl h2⟩
  · have := h3.lt
    exact ⟨h1, .inr ⟨b, rfl, h2, h3.old F (by omega)⟩⟩
def rowA (kd bn en st : Int) (rv cv : AV) : List AV := [.int .i64 0, .int .i64 0, .int .i64 0, .bool false, .int .i64 kd, .int .i64 0, .int .u64 0, .int .u64 st, .int .i64 bn, .int .i64 en, rv, cv, .nils, .str []]

set_option maxHeartbeats 1000000 in
theorem attempts_ok {D0 : Nat → Prop} {n p : Nat} (hn : 2 ≤ n) {a0 : AV} {ds : List DrawM} {h : AH} (S0 : Sl D0 h 6 p a0 (ds.flatMap encD)) (hd : ∀ d ∈ ds, DrawOk h d) :
    wp (callT tab rtab n (.fn 12 [] []) [a0, .bool false] h) fun l h' => ∃ al : List AttM, al.length ≤ 20 ∧ Acc (fun y => h.nx ≤ y) h' 29 14 al.length l (al.flatMap encA) ∧
      (∀ a ∈ al, AttOk a ∧ ∃ ac : List (Int × Int), Sl (fun y => h.nx ≤ y ∧ ¬ own l y) h' 2 a.nc a.cv (ac.flatMap encC) ∧ (∀ c ∈ ac, 1 ≤ c.1 ∧ c.1 ≤ 5) ∧ ac.length ≤ 4) ∧ Old h.nx h h' := by
  have hpl : ds.length = p := by
    have := S0.len
    rw [flat_len (sz := 6) encD (fun _ => rfl)] at this
    omega
  refine ww_fn (g := W12) rfl (by omega) fun k hk => ?_
  show wp (S12 (callT tab rtab k) _ _ _) _
  unfold S12
  try simp only [Int.ofNat_eq_natCast]
  refine ww_iter (fun m s g0 => ∃ (i : Nat) (l : AV) (al : List AttM), s = (I64 i, l, .bool false, a0, ()) ∧ i ≤ 20 ∧ m = 20 - i ∧ al.length = i ∧
    (∀ a ∈ al, AttOk a ∧ ∃ ac : List (Int × Int), Sl (fun y => h.nx ≤ y ∧ ¬ own l y) g0 2 a.nc a.cv (ac.flatMap encC) ∧ (∀ c ∈ ac, 1 ≤ c.1 ∧ c.1 ≤ 5) ∧ ac.length ≤ 4) ∧ Acc (fun y => h.nx ≤ y) g0 29 14 i l (al.flatMap encA) ∧ Old h.nx h g0) ?_ (m := 20) (by decide)
    ⟨0, .nils, [], rfl, by omega, rfl, rfl, (fun a ha => by cases ha), Acc.nils, Old.refl _ _⟩
  rintro m ih s g0 hih ⟨i, l, al, rfl, hi20, rfl, hal, hnest, L, Oh⟩
  dsimp only
  have S0g := S0.old Oh
  have fin : wp (some (l, g0)) fun l h' => ∃ al : List AttM, al.length ≤ 20 ∧ Acc (fun y => h.nx ≤ y) h' 29 14 al.length l (al.flatMap encA) ∧
      (∀ a ∈ al, AttOk a ∧ ∃ ac : List (Int × Int), Sl (fun y => h.nx ≤ y ∧ ¬ own l y) h' 2 a.nc a.cv (ac.flatMap encC) ∧ (∀ c ∈ ac, 1 ≤ c.1 ∧ c.1 ≤ 5) ∧ ac.length ≤ 4) ∧ Old h.nx h h' :=
    ww_ret ⟨al, by omega, by rw [hal]; exact L, hnest, Oh⟩
  refine ww_len S0g (ww_lssC (fun hlt => ?_) fun hge => by repeat (first | with_reducible refine ww_condT ?_ | with_reducible refine ww_condF ?_ | (with_reducible refine ww_wantTT ?_; try dsimp only) | (with_reducible refine ww_wantTF ?_; try dsimp only) | (with_reducible refine ww_wantFT ?_; try dsimp only) | (with_reducible refine ww_wantFF ?_; try dsimp only) | (with_reducible refine ww_wantU ?_; try dsimp only) | with_reducible refine ww_pickT ?_ | with_reducible refine ww_pickF ?_ | (with_reducible refine ww_joinS ?_; try dsimp only) | with_reducible refine ww_leave ?_ | with_reducible refine ww_notT ?_ | with_reducible refine ww_notF ?_ | with_reducible refine ww_addI (by omega) ?_ | with_reducible refine ww_subI (by omega) ?_ | with_reducible refine ww_addU (by omega) ?_ | with_reducible refine ww_subU (by omega) ?_ | with_reducible refine ww_min ?_ | with_reducible refine ww_max ?_); exact fin)
  repeat (first | with_reducible refine ww_condT ?_ | with_reducible refine ww_condF ?_ | (with_reducible refine ww_wantTT ?_; try dsimp only) | (with_reducible refine ww_wantTF ?_; try dsimp only) | (with_reducible refine ww_wantFT ?_; try dsimp only) | (with_reducible refine ww_wantFF ?_; try dsimp only) | (with_reducible refine ww_wantU ?_; try dsimp only) | with_reducible refine ww_pickT ?_ | with_reducible refine ww_pickF ?_ | (with_reducible refine ww_joinS ?_; try dsimp only) | with_reducible refine ww_leave ?_ | with_reducible refine ww_notT ?_ | with_reducible refine ww_notF ?_ | with_reducible refine ww_addI (by omega) ?_ | with_reducible refine ww_subI (by omega) ?_ | with_reducible refine ww_addU (by omega) ?_ | with_reducible refine ww_subU (by omega) ?_ | with_reducible refine ww_min ?_ | with_reducible refine ww_max ?_)
  refine ww_lssC (fun hlt20 => ?_) fun hge => by repeat (first | with_reducible refine ww_condT ?_ | with_reducible refine ww_condF ?_ | (with_reducible refine ww_wantTT ?_; try dsimp only) | (with_reducible refine ww_wantTF ?_; try dsimp only) | (with_reducible refine ww_wantFT ?_; try dsimp only) | (with_reducible refine ww_wantFF ?_; try dsimp only) | (with_reducible refine ww_wantU ?_; try dsimp only) | with_reducible refine ww_pickT ?_ | with_reducible refine ww_pickF ?_ | (with_reducible refine ww_joinS ?_; try dsimp only) | with_reducible refine ww_leave ?_ | with_reducible refine ww_notT ?_ | with_reducible refine ww_notF ?_ | with_reducible refine ww_addI (by omega) ?_ | with_reducible refine ww_subI (by omega) ?_ | with_reducible refine ww_addU (by omega) ?_ | with_reducible refine ww_subU (by omega) ?_ | with_reducible refine ww_min ?_ | with_reducible refine ww_max ?_); exact fin
  repeat (first | with_reducible refine ww_condT ?_ | with_reducible refine ww_condF ?_ | (with_reducible refine ww_wantTT ?_; try dsimp only) | (with_reducible refine ww_wantTF ?_; try dsimp only) | (with_reducible refine ww_wantFT ?_; try dsimp only) | (with_reducible refine ww_wantFF ?_; try dsimp only) | (with_reducible refine ww_wantU ?_; try dsimp only) | with_reducible refine ww_pickT ?_ | with_reducible refine ww_pickF ?_ | (with_reducible refine ww_joinS ?_; try dsimp only) | with_reducible refine ww_leave ?_ | with_reducible refine ww_notT ?_ | with_reducible refine ww_notF ?_ | with_reducible refine ww_addI (by omega) ?_ | with_reducible refine ww_subI (by omega) ?_ | with_reducible refine ww_addU (by omega) ?_ | with_reducible refine ww_subU (by omega) ?_ | with_reducible refine ww_min ?_ | with_reducible refine ww_max ?_)
  have hi : i < p := by omega
  have hil : i < ds.length := by omega
  obtain ⟨dm, hdm⟩ : ∃ dm, dm = ds[i] := ⟨_, rfl⟩
  have hget : ∀ f, f < 6 → (ds.flatMap encD)[i * 6 + f]? = (encD dm)[f]? := fun f hf => by
    rw [flat_get (sz := 6) encD (fun _ => rfl) _ _ _ hf, List.getElem?_eq_getElem hil, hdm]; rfl
  have hd : ∀ d, d ∈ ds → DrawOk h d := hd
  refine ww_idxF S0g (f := 0) (by omega) hi (hget _ (by omega)) (ww_idxF S0g (f := 1) (by omega) hi (hget _ (by omega)) (ww_idxF S0g (f := 2) (by omega) hi (hget _ (by omega)) (ww_idxF S0g (f := 3) (by omega) hi (hget _ (by omega)) ?_)))
  refine ww_build rfl (ww_box rfl fun b h24 hb A1 F1 => ?_)
  refine ww_store A1 rfl (by show 0 + 14 ≤ 14; omega) rfl fun h25 A2 F2 _ => ?_
  obtain ⟨e, A2⟩ : ∃ e, Row h25 b (rowA dm.kind dm.born dm.ended dm.stamp .nils .nils) e false := ⟨_, A2⟩
  refine ww_joinS ?_
  repeat (first | with_reducible refine ww_condT ?_ | with_reducible refine ww_condF ?_ | (with_reducible refine ww_wantTT ?_; try dsimp only) | (with_reducible refine ww_wantTF ?_; try dsimp only) | (with_reducible refine ww_wantFT ?_; try dsimp only) | (with_reducible refine ww_wantFF ?_; try dsimp only) | (with_reducible refine ww_wantU ?_; try dsimp only) | with_reducible refine ww_pickT ?_ | with_reducible refine ww_pickF ?_ | (with_reducible refine ww_joinS ?_; try dsimp only) | with_reducible refine ww_leave ?_ | with_reducible refine ww_notT ?_ | with_reducible refine ww_notF ?_ | with_reducible refine ww_addI (by omega) ?_ | with_reducible refine ww_subI (by omega) ?_ | with_reducible refine ww_addU (by omega) ?_ | with_reducible refine ww_subU (by omega) ?_ | with_reducible refine ww_min ?_ | with_reducible refine ww_max ?_)
  refine ww_fieldA (ww_load1 ((A2.at _).trans rfl) (ww_call (within_ok (by omega) (by omega) (by omega) (by omega)) ?_))
  rintro v h141 ⟨rfl, rfl⟩
  refine ww_fieldA (ww_load1 ((A2.at _).trans rfl) (ww_call (within_ok (by omega) (by omega) (by omega) (by omega)) ?_))
  rintro v h141 ⟨rfl, rfl⟩
  refine ww_fieldA (ww_load1 ((A2.at _).trans rfl) (ww_call (within_ok (by omega) (by omega) (by omega) (by omega)) ?_))
  rintro v h141 ⟨rfl, rfl⟩
  refine ww_fieldA (ww_load1 ((A2.at _).trans rfl) (ww_rem (by omega) ?_))
  generalize withinZ dm.kind _ _ = kd
  generalize withinZ dm.born _ _ = bn
  generalize withinZ dm.ended _ _ = en
  generalize dm.stamp.tmod _ = st
  have c2 := fun f (hf : f < 14) (x : AV) (hx : (rowA dm.kind dm.born dm.ended dm.stamp .nils .nils)[f]? = some x) => (A2.at f).trans hx
  refine ww_setF A2 rfl rfl (by show 0 + 4 < 14; omega) fun h154 A3 F3 _ => ww_setF A3 rfl rfl (by show 0 + 8 < 14; omega) fun h156 A4 F4 _ => ww_setF A4 rfl rfl (by show 0 + 9 < 14; omega) fun h158 A5 F5 _ => ww_setF A5 rfl rfl (by show 0 + 7 < 14; omega) fun h160 A6 F6 _ => ?_
  have A6 : Row h160 b (rowA kd bn en st .nils .nils) e false := A6
  repeat (refine ww_chk1 ((A2.at _).trans rfl) ((A2.at _).trans rfl) A2.lt ?_)
  try dsimp only
  have Og : Old g0.nx g0 h160 := (((((((Old.refl g0.nx g0).step F1 (fun _ hf => hf.elim)).step F2 (by rintro y rfl; exact hb)).step F3 (by rintro y rfl; exact hb)).step F4 (by rintro y rfl; exact hb)).step F5 (by rintro y rfl; exact hb)).step F6 (by rintro y rfl; exact hb))
  clear c2 A5 A4 A3 A2 A1 F1 F2 F3 F4 F5 F6
  refine ww_iter (fun m s g => ∃ (k : Nat) (cv : AV) (cs : List (Int × Int)), s = (I64 k, .ptr b 0, I64 i, l, .bool false, a0, ()) ∧ k ≤ 4 ∧ m = 4 - k ∧ cs.length = k ∧ (∀ c ∈ cs, 1 ≤ c.1 ∧ c.1 ≤ 5) ∧ Row g b (rowA kd bn en st cv .nils) e false ∧ Acc (fun y => g0.nx ≤ y ∧ y ≠ b) g 24 2 k cv (cs.flatMap encC) ∧ Old g0.nx g0 g) ?_ (m := 4) (by decide) ⟨0, .nils, [], rfl, by omega, rfl, rfl, (fun c hc => by cases hc), A6, Acc.nils, Og⟩
  clear A6 Og
  rintro m2 ih2 s g hih2 ⟨k, cv, cs, rfl, hk4, rfl, hcs, hcb0, A, C, Og⟩
  dsimp only
  have S0g := (S0.old Oh).old Og
  have Dk := hd dm (by rw [hdm]; exact List.getElem_mem hil)
  have SN : Sl (fun y => y < h.nx) g 2 dm.rs.length dm.rv (dm.rs.flatMap encC) := ((Dk.rs).old Oh).old Og
  refine ww_idxF S0g (f := 4) (by omega) hi (hget _ (by omega)) (ww_len SN (ww_lssC (fun hc => ?_) fun hc => ?_))
  · repeat (first | with_reducible refine ww_condT ?_ | with_reducible refine ww_condF ?_ | (with_reducible refine ww_wantTT ?_; try dsimp only) | (with_reducible refine ww_wantTF ?_; try dsimp only) | (with_reducible refine ww_wantFT ?_; try dsimp only) | (with_reducible refine ww_wantFF ?_; try dsimp only) | (with_reducible refine ww_wantU ?_; try dsimp only) | with_reducible refine ww_pickT ?_ | with_reducible refine ww_pickF ?_ | (with_reducible refine ww_joinS ?_; try dsimp only) | with_reducible refine ww_leave ?_ | with_reducible refine ww_notT ?_ | with_reducible refine ww_notF ?_ | with_reducible refine ww_addI (by omega) ?_ | with_reducible refine ww_subI (by omega) ?_ | with_reducible refine ww_addU (by omega) ?_ | with_reducible refine ww_subU (by omega) ?_ | with_reducible refine ww_min ?_ | with_reducible refine ww_max ?_)
    refine ww_lssC (fun hc4 => ?_) fun hc4 => ?_
    · repeat (first | with_reducible refine ww_condT ?_ | with_reducible refine ww_condF ?_ | (with_reducible refine ww_wantTT ?_; try dsimp only) | (with_reducible refine ww_wantTF ?_; try dsimp only) | (with_reducible refine ww_wantFT ?_; try dsimp only) | (with_reducible refine ww_wantFF ?_; try dsimp only) | (with_reducible refine ww_wantU ?_; try dsimp only) | with_reducible refine ww_pickT ?_ | with_reducible refine ww_pickF ?_ | (with_reducible refine ww_joinS ?_; try dsimp only) | with_reducible refine ww_leave ?_ | with_reducible refine ww_notT ?_ | with_reducible refine ww_notF ?_ | with_reducible refine ww_addI (by omega) ?_ | with_reducible refine ww_subI (by omega) ?_ | with_reducible refine ww_addU (by omega) ?_ | with_reducible refine ww_subU (by omega) ?_ | with_reducible refine ww_min ?_ | with_reducible refine ww_max ?_)
      refine ww_idxF S0g (f := 4) (by omega) hi (hget _ (by omega)) ?_
      refine ww_idxN (l := encC (dm.rs[k])) SN (by omega) (by omega) ?_ ?_
      · rw [flat_drop (sz := 2) encC (fun _ => rfl), List.drop_eq_getElem_cons (by omega), List.flatMap_cons]; rfl
      refine ww_box rfl fun b2 h49 hb2 A2 F2 => ?_
      refine ww_store A2 rfl (by show 0 + 2 ≤ 2; omega) rfl fun h50 A3 F3 hx3 => ?_
      obtain ⟨e3, A3⟩ : ∃ e3, Row h50 b2 (encC (dm.rs[k])) e3 false := ⟨_, A3⟩
      have lb := A.lt
      refine ww_joinS ?_
      repeat (first | with_reducible refine ww_condT ?_ | with_reducible refine ww_condF ?_ | (with_reducible refine ww_wantTT ?_; try dsimp only) | (with_reducible refine ww_wantTF ?_; try dsimp only) | (with_reducible refine ww_wantFT ?_; try dsimp only) | (with_reducible refine ww_wantFF ?_; try dsimp only) | (with_reducible refine ww_wantU ?_; try dsimp only) | with_reducible refine ww_pickT ?_ | with_reducible refine ww_pickF ?_ | (with_reducible refine ww_joinS ?_; try dsimp only) | with_reducible refine ww_leave ?_ | with_reducible refine ww_notT ?_ | with_reducible refine ww_notF ?_ | with_reducible refine ww_addI (by omega) ?_ | with_reducible refine ww_subI (by omega) ?_ | with_reducible refine ww_addU (by omega) ?_ | with_reducible refine ww_subU (by omega) ?_ | with_reducible refine ww_min ?_ | with_reducible refine ww_max ?_)
      refine ww_fld A3 rfl (ww_call (within_ok (by omega) (by omega) (by omega) (by omega)) ?_)
      rintro v h72 ⟨rfl, rfl⟩
      refine ww_fieldA (ww_load1 ((A3.at _).trans rfl) (ww_rem (by omega) (ww_build rfl ?_)))
      refine ww_store A3 rfl (by show 0 + 2 ≤ 2; omega) rfl fun h77 A4 F4 hx4 => ?_
      refine ww_chk1 ((A3.at _).trans rfl) ((A3.at _).trans rfl) A3.lt ?_
      obtain ⟨c, hcb, A4⟩ : ∃ c : Int × Int, (1 ≤ c.1 ∧ c.1 ≤ 5) ∧ Row h77 b2 (encC c) e3 false := ⟨(withinZ (dm.rs[k]).1 ((1 : Nat) : Int) ((5 : Nat) : Int), (dm.rs[k]).2.tmod ((2 : Nat) : Int)), within_bounds _ (by omega), A4⟩
      have F77 : Fr (fun y => g.nx ≤ y) g h77 := ((F2.trans F3).trans F4).mono (by rintro y _ ((hf | hf) | hf); exact hf.elim; omega; omega)
      have A77 := A.fr F77 (by omega)
      have C77 := (sl_acc C).fr F77 (fun y hy => by omega)
      try dsimp only
      refine ww_fld A77 rfl ?_
      refine ww_loadN (l := encC c) rfl (by omega) (fun j _ => by rw [Nat.zero_add]; exact A4.at j) ?_
      refine ww_buildS rfl rfl fun b3 h59 hb3 A5 F5 => ?_
      have nx77 := F77.nx
      refine ww_app (C77.fr F5 (fun _ _ hf => hf)) (Sl.of_row0 (D := fun _ => True) A5 trivial rfl) (by omega) (by omega) rfl fun v60 h61 C61 F61 => ?_
      have A61 := (A77.fr F5 (fun hf => hf)).fr F61 (by rintro ⟨⟨_, hf⟩, _⟩; exact hf rfl)
      refine ww_setF A61 (acc_one C61).1 (acc_one C61).2 (by show 0 + 10 < 14; omega) fun h63 A63 F63 hx63 => ?_
      refine ww_addI (by omega) ?_
      have nx59 := F5.nx
      have nx61 := F61.nx
      refine hih2 (4 - (k + 1)) _ _ (by omega) ⟨k + 1, v60, cs ++ [c], rfl, by omega, rfl, by simp [hcs], ?_, A63, ?_, ?_⟩
      · intro x hx
        rcases List.mem_append.1 hx with hx | hx
        · exact hcb0 x hx
        · rw [List.mem_singleton.1 hx]; exact hcb
      · have := (C61.fr F63 (by rintro y (hy | hy) rfl; exact hy.1.2 rfl; omega)).mono (D' := fun y => g0.nx ≤ y ∧ y ≠ b) (by rintro y (hy | hy); exact hy.1; have := Og.nx; exact ⟨by omega, by omega⟩)
        rw [List.flatMap_append]; exact this
      · exact (((Og.step F77 (fun y hy => Nat.le_trans Og.nx hy)).step F5 (fun _ hf => hf.elim)).step F61 (by rintro y ⟨⟨hy, _⟩, _⟩; exact hy)).step F63 (by rintro y rfl; exact hb)
    · repeat (first | with_reducible refine ww_condT ?_ | with_reducible refine ww_condF ?_ | (with_reducible refine ww_wantTT ?_; try dsimp only) | (with_reducible refine ww_wantTF ?_; try dsimp only) | (with_reducible refine ww_wantFT ?_; try dsimp only) | (with_reducible refine ww_wantFF ?_; try dsimp only) | (with_reducible refine ww_wantU ?_; try dsimp only) | with_reducible refine ww_pickT ?_ | with_reducible refine ww_pickF ?_ | (with_reducible refine ww_joinS ?_; try dsimp only) | with_reducible refine ww_leave ?_ | with_reducible refine ww_notT ?_ | with_reducible refine ww_notF ?_ | with_reducible refine ww_addI (by omega) ?_ | with_reducible refine ww_subI (by omega) ?_ | with_reducible refine ww_addU (by omega) ?_ | with_reducible refine ww_subU (by omega) ?_ | with_reducible refine ww_min ?_ | with_reducible refine ww_max ?_)
      obtain ⟨rv, hrvv⟩ : ∃ rv, rv = cv := ⟨cv, rfl⟩
      have hrv : rv.one = true := by rw [hrvv]; exact (acc_one C).2
      rw [← hrvv] at A
      refine ww_iter (fun m s g => ∃ (k : Nat) (cv : AV) (cs : List (Int × Int)), s = (I64 k, .ptr b 0, I64 i, l, .bool false, a0, ()) ∧ k ≤ 4 ∧ m = 4 - k ∧ cs.length = k ∧ (∀ c ∈ cs, 1 ≤ c.1 ∧ c.1 ≤ 5) ∧ Row g b (rowA kd bn en st rv cv) e false ∧ Acc (fun y => g0.nx ≤ y ∧ y ≠ b) g 24 2 k cv (cs.flatMap encC) ∧ Old g0.nx g0 g) ?_ (m := 4) (by decide) ⟨0, .nils, [], rfl, by omega, rfl, rfl, (fun c hc => by cases hc), A, Acc.nils, Og⟩
      clear hih2 C hcs hcb0 A Og hrvv
      rintro m3 ih3 s g hih3 ⟨k, cv, cs, rfl, hk4, rfl, hcs, hcb0, A, C, Og⟩
      dsimp only
      have S0g := (S0.old Oh).old Og
      have Dk := hd dm (by rw [hdm]; exact List.getElem_mem hil)
      have SN : Sl (fun y => y < h.nx) g 2 dm.cs.length dm.cv (dm.cs.flatMap encC) := ((Dk.cs).old Oh).old Og
      refine ww_idxF S0g (f := 5) (by omega) hi (hget _ (by omega)) (ww_len SN (ww_lssC (fun hc => ?_) fun hc => ?_))
      · repeat (first | with_reducible refine ww_condT ?_ | with_reducible refine ww_condF ?_ | (with_reducible refine ww_wantTT ?_; try dsimp only) | (with_reducible refine ww_wantTF ?_; try dsimp only) | (with_reducible refine ww_wantFT ?_; try dsimp only) | (with_reducible refine ww_wantFF ?_; try dsimp only) | (with_reducible refine ww_wantU ?_; try dsimp only) | with_reducible refine ww_pickT ?_ | with_reducible refine ww_pickF ?_ | (with_reducible refine ww_joinS ?_; try dsimp only) | with_reducible refine ww_leave ?_ | with_reducible refine ww_notT ?_ | with_reducible refine ww_notF ?_ | with_reducible refine ww_addI (by omega) ?_ | with_reducible refine ww_subI (by omega) ?_ | with_reducible refine ww_addU (by omega) ?_ | with_reducible refine ww_subU (by omega) ?_ | with_reducible refine ww_min ?_ | with_reducible refine ww_max ?_)
        refine ww_lssC (fun hc4 => ?_) fun hc4 => ?_
        · repeat (first | with_reducible refine ww_condT ?_ | with_reducible refine ww_condF ?_ | (with_reducible refine ww_wantTT ?_; try dsimp only) | (with_reducible refine ww_wantTF ?_; try dsimp only) | (with_reducible refine ww_wantFT ?_; try dsimp only) | (with_reducible refine ww_wantFF ?_; try dsimp only) | (with_reducible refine ww_wantU ?_; try dsimp only) | with_reducible refine ww_pickT ?_ | with_reducible refine ww_pickF ?_ | (with_reducible refine ww_joinS ?_; try dsimp only) | with_reducible refine ww_leave ?_ | with_reducible refine ww_notT ?_ | with_reducible refine ww_notF ?_ | with_reducible refine ww_addI (by omega) ?_ | with_reducible refine ww_subI (by omega) ?_ | with_reducible refine ww_addU (by omega) ?_ | with_reducible refine ww_subU (by omega) ?_ | with_reducible refine ww_min ?_ | with_reducible refine ww_max ?_)
          refine ww_idxF S0g (f := 5) (by omega) hi (hget _ (by omega)) ?_
          refine ww_idxN (l := encC (dm.cs[k])) SN (by omega) (by omega) ?_ ?_
          · rw [flat_drop (sz := 2) encC (fun _ => rfl), List.drop_eq_getElem_cons (by omega), List.flatMap_cons]; rfl
          refine ww_box rfl fun b2 h49 hb2 A2 F2 => ?_
          refine ww_store A2 rfl (by show 0 + 2 ≤ 2; omega) rfl fun h50 A3 F3 hx3 => ?_
          obtain ⟨e3, A3⟩ : ∃ e3, Row h50 b2 (encC (dm.cs[k])) e3 false := ⟨_, A3⟩
          have lb := A.lt
          refine ww_joinS ?_
          repeat (first | with_reducible refine ww_condT ?_ | with_reducible refine ww_condF ?_ | (with_reducible refine ww_wantTT ?_; try dsimp only) | (with_reducible refine ww_wantTF ?_; try dsimp only) | (with_reducible refine ww_wantFT ?_; try dsimp only) | (with_reducible refine ww_wantFF ?_; try dsimp only) | (with_reducible refine ww_wantU ?_; try dsimp only) | with_reducible refine ww_pickT ?_ | with_reducible refine ww_pickF ?_ | (with_reducible refine ww_joinS ?_; try dsimp only) | with_reducible refine ww_leave ?_ | with_reducible refine ww_notT ?_ | with_reducible refine ww_notF ?_ | with_reducible refine ww_addI (by omega) ?_ | with_reducible refine ww_subI (by omega) ?_ | with_reducible refine ww_addU (by omega) ?_ | with_reducible refine ww_subU (by omega) ?_ | with_reducible refine ww_min ?_ | with_reducible refine ww_max ?_)
          refine ww_fld A3 rfl (ww_call (within_ok (by omega) (by omega) (by omega) (by omega)) ?_)
          rintro v h72 ⟨rfl, rfl⟩
          refine ww_fieldA (ww_load1 ((A3.at _).trans rfl) (ww_rem (by omega) (ww_build rfl ?_)))
          refine ww_store A3 rfl (by show 0 + 2 ≤ 2; omega) rfl fun h77 A4 F4 hx4 => ?_
          refine ww_chk1 ((A3.at _).trans rfl) ((A3.at _).trans rfl) A3.lt ?_
          obtain ⟨c, hcb, A4⟩ : ∃ c : Int × Int, (1 ≤ c.1 ∧ c.1 ≤ 5) ∧ Row h77 b2 (encC c) e3 false := ⟨(withinZ (dm.cs[k]).1 ((1 : Nat) : Int) ((5 : Nat) : Int), (dm.cs[k]).2.tmod ((2 : Nat) : Int)), within_bounds _ (by omega), A4⟩
          have F77 : Fr (fun y => g.nx ≤ y) g h77 := ((F2.trans F3).trans F4).mono (by rintro y _ ((hf | hf) | hf); exact hf.elim; omega; omega)
          have A77 := A.fr F77 (by omega)
          have C77 := (sl_acc C).fr F77 (fun y hy => by omega)
          try dsimp only
          refine ww_fld A77 rfl ?_
          refine ww_loadN (l := encC c) rfl (by omega) (fun j _ => by rw [Nat.zero_add]; exact A4.at j) ?_
          refine ww_buildS rfl rfl fun b3 h59 hb3 A5 F5 => ?_
          have nx77 := F77.nx
          refine ww_app (C77.fr F5 (fun _ _ hf => hf)) (Sl.of_row0 (D := fun _ => True) A5 trivial rfl) (by omega) (by omega) rfl fun v60 h61 C61 F61 => ?_
          have A61 := (A77.fr F5 (fun hf => hf)).fr F61 (by rintro ⟨⟨_, hf⟩, _⟩; exact hf rfl)
          refine ww_setF A61 (acc_one C61).1 (acc_one C61).2 (by show 0 + 11 < 14; omega) fun h63 A63 F63 hx63 => ?_
          refine ww_addI (by omega) ?_
          have nx59 := F5.nx
          have nx61 := F61.nx
          refine hih3 (4 - (k + 1)) _ _ (by omega) ⟨k + 1, v60, cs ++ [c], rfl, by omega, rfl, by simp [hcs], ?_, A63, ?_, ?_⟩
          · intro x hx
            rcases List.mem_append.1 hx with hx | hx
            · exact hcb0 x hx
            · rw [List.mem_singleton.1 hx]; exact hcb
          · have := (C61.fr F63 (by rintro y (hy | hy) rfl; exact hy.1.2 rfl; omega)).mono (D' := fun y => g0.nx ≤ y ∧ y ≠ b) (by rintro y (hy | hy); exact hy.1; have := Og.nx; exact ⟨by omega, by omega⟩)
            rw [List.flatMap_append]; exact this
          · exact (((Og.step F77 (fun y hy => Nat.le_trans Og.nx hy)).step F5 (fun _ hf => hf.elim)).step F61 (by rintro y ⟨⟨hy, _⟩, _⟩; exact hy)).step F63 (by rintro y rfl; exact hb)
        · repeat (first | with_reducible refine ww_condT ?_ | with_reducible refine ww_condF ?_ | (with_reducible refine ww_wantTT ?_; try dsimp only) | (with_reducible refine ww_wantTF ?_; try dsimp only) | (with_reducible refine ww_wantFT ?_; try dsimp only) | (with_reducible refine ww_wantFF ?_; try dsimp only) | (with_reducible refine ww_wantU ?_; try dsimp only) | with_reducible refine ww_pickT ?_ | with_reducible refine ww_pickF ?_ | (with_reducible refine ww_joinS ?_; try dsimp only) | with_reducible refine ww_leave ?_ | with_reducible refine ww_notT ?_ | with_reducible refine ww_notF ?_ | with_reducible refine ww_addI (by omega) ?_ | with_reducible refine ww_subI (by omega) ?_ | with_reducible refine ww_addU (by omega) ?_ | with_reducible refine ww_subU (by omega) ?_ | with_reducible refine ww_min ?_ | with_reducible refine ww_max ?_)
          have S0z := (S0.old Oh).old Og
          refine ww_loadN (l := encA ⟨kd, bn, en, st, rv, cv, k⟩) rfl (by omega) (fun j _ => by rw [Nat.zero_add]; exact A.at j) ?_
          have hok : AttOk ⟨kd, bn, en, st, rv, cv, k⟩ := ⟨hrv, C.sl.lenV⟩
          have Lg := acc_old (acc_own L) Og (by omega)
          refine ww_buildS (l := encA ⟨kd, bn, en, st, rv, cv, k⟩) rfl (encA_one hok) fun b5 h128 hb5 A5 F5 => ?_
          have L5 := Lg.fr F5 (fun _ _ hf => hf)
          refine ww_app L5 (Sl.of_row0 (D := fun _ => True) A5 trivial rfl) (by omega) (by omega) (encA_one hok) fun l' h130 L6 F6 => ?_
          refine ww_addI (by omega) ?_
          have hnx := Oh.nx
          have hgx := Og.nx
          have h5x := F5.nx
          refine hih (20 - (i + 1)) _ _ (by omega) ⟨i + 1, l', al ++ [⟨kd, bn, en, st, rv, cv, k⟩], rfl, by omega, rfl, by simp [hal], ?_, ?_, ?_⟩
          · intro a ha
            have keep : ∀ {n : Nat} {v : AV} {xs : List AV}, Sl (fun y => h.nx ≤ y ∧ ¬ own l y) g 2 n v xs → Sl (fun y => h.nx ≤ y ∧ ¬ own l' y) h130 2 n v xs := by
              intro n v xs S
              refine (((sl_lt S).fr F5 (fun _ _ hf => hf)).fr F6 (by rintro y ⟨⟨_, hy⟩, _⟩ hf; exact hy hf.2)).mono ?_
              rintro y ⟨⟨h1, h2⟩, h3⟩
              refine ⟨h1, fun ho => ?_⟩
              rcases acc_own_of L6 ho with hq | hq
              · exact h2 hq.2
              · omega
            rcases List.mem_append.1 ha with ha | ha
            · obtain ⟨q1, ac, q2, q3⟩ := hnest a ha
              refine ⟨q1, ac, keep ((sl_lt q2).old Og |>.mono (fun y hy => hy.1)), q3⟩
            · rw [List.mem_singleton.1 ha]
              refine ⟨hok, cs, keep ?_, hcb0, by omega⟩
              refine C.sl.mono ?_
              rintro y ⟨h1, h2⟩
              exact ⟨by omega, fun ho => by have := acc_own_lt L ho; omega⟩
          · have := L6.mono (D' := fun y => h.nx ≤ y) (by rintro y (hy | hy); exact hy.1; omega)
            rw [List.flatMap_append]; exact this
          · refine (((Oh.step Og (fun y hy => by omega)).step F5 (fun _ hf => hf.elim)).step F6 (by rintro y hy; exact hy.1))
      · repeat (first | with_reducible refine ww_condT ?_ | with_reducible refine ww_condF ?_ | (with_reducible refine ww_wantTT ?_; try dsimp only) | (with_reducible refine ww_wantTF ?_; try dsimp only) | (with_reducible refine ww_wantFT ?_; try dsimp only) | (with_reducible refine ww_wantFF ?_; try dsimp only) | (with_reducible refine ww_wantU ?_; try dsimp only) | with_reducible refine ww_pickT ?_ | with_reducible refine ww_pickF ?_ | (with_reducible refine ww_joinS ?_; try dsimp only) | with_reducible refine ww_leave ?_ | with_reducible refine ww_notT ?_ | with_reducible refine ww_notF ?_ | with_reducible refine ww_addI (by omega) ?_ | with_reducible refine ww_subI (by omega) ?_ | with_reducible refine ww_addU (by omega) ?_ | with_reducible refine ww_subU (by omega) ?_ | with_reducible refine ww_min ?_ | with_reducible refine ww_max ?_)
        have S0z := (S0.old Oh).old Og
        refine ww_loadN (l := encA ⟨kd, bn, en, st, rv, cv, k⟩) rfl (by omega) (fun j _ => by rw [Nat.zero_add]; exact A.at j) ?_
        have hok : AttOk ⟨kd, bn, en, st, rv, cv, k⟩ := ⟨hrv, C.sl.lenV⟩
        have Lg := acc_old (acc_own L) Og (by omega)
        refine ww_buildS (l := encA ⟨kd, bn, en, st, rv, cv, k⟩) rfl (encA_one hok) fun b5 h128 hb5 A5 F5 => ?_
        have L5 := Lg.fr F5 (fun _ _ hf => hf)
        refine ww_app L5 (Sl.of_row0 (D := fun _ => True) A5 trivial rfl) (by omega) (by omega) (encA_one hok) fun l' h130 L6 F6 => ?_
        refine ww_addI (by omega) ?_
        have hnx := Oh.nx
        have hgx := Og.nx
        have h5x := F5.nx
        refine hih (20 - (i + 1)) _ _ (by omega) ⟨i + 1, l', al ++ [⟨kd, bn, en, st, rv, cv, k⟩], rfl, by omega, rfl, by simp [hal], ?_, ?_, ?_⟩
        · intro a ha
          have keep : ∀ {n : Nat} {v : AV} {xs : List AV}, Sl (fun y => h.nx ≤ y ∧ ¬ own l y) g 2 n v xs → Sl (fun y => h.nx ≤ y ∧ ¬ own l' y) h130 2 n v xs := by
            intro n v xs S
            refine (((sl_lt S).fr F5 (fun _ _ hf => hf)).fr F6 (by rintro y ⟨⟨_, hy⟩, _⟩ hf; exact hy hf.2)).mono ?_
            rintro y ⟨⟨h1, h2⟩, h3⟩
            refine ⟨h1, fun ho => ?_⟩
            rcases acc_own_of L6 ho with hq | hq
            · exact h2 hq.2
            · omega
          rcases List.mem_append.1 ha with ha | ha
          · obtain ⟨q1, ac, q2, q3⟩ := hnest a ha
            refine ⟨q1, ac, keep ((sl_lt q2).old Og |>.mono (fun y hy => hy.1)), q3⟩
          · rw [List.mem_singleton.1 ha]
            refine ⟨hok, cs, keep ?_, hcb0, by omega⟩
            refine C.sl.mono ?_
            rintro y ⟨h1, h2⟩
            exact ⟨by omega, fun ho => by have := acc_own_lt L ho; omega⟩
        · have := L6.mono (D' := fun y => h.nx ≤ y) (by rintro y (hy | hy); exact hy.1; omega)
          rw [List.flatMap_append]; exact this
        · refine (((Oh.step Og (fun y hy => by omega)).step F5 (fun _ hf => hf.elim)).step F6 (by rintro y hy; exact hy.1))
  · repeat (first | with_reducible refine ww_condT ?_ | with_reducible refine ww_condF ?_ | (with_reducible refine ww_wantTT ?_; try dsimp only) | (with_reducible refine ww_wantTF ?_; try dsimp only) | (with_reducible refine ww_wantFT ?_; try dsimp only) | (with_reducible refine ww_wantFF ?_; try dsimp only) | (with_reducible refine ww_wantU ?_; try dsimp only) | with_reducible refine ww_pickT ?_ | with_reducible refine ww_pickF ?_ | (with_reducible refine ww_joinS ?_; try dsimp only) | with_reducible refine ww_leave ?_ | with_reducible refine ww_notT ?_ | with_reducible refine ww_notF ?_ | with_reducible refine ww_addI (by omega) ?_ | with_reducible refine ww_subI (by omega) ?_ | with_reducible refine ww_addU (by omega) ?_ | with_reducible refine ww_subU (by omega) ?_ | with_reducible refine ww_min ?_ | with_reducible refine ww_max ?_)
    obtain ⟨rv, hrvv⟩ : ∃ rv, rv = cv := ⟨cv, rfl⟩
    have hrv : rv.one = true := by rw [hrvv]; exact (acc_one C).2
    rw [← hrvv] at A
    refine ww_iter (fun m s g => ∃ (k : Nat) (cv : AV) (cs : List (Int × Int)), s = (I64 k, .ptr b 0, I64 i, l, .bool false, a0, ()) ∧ k ≤ 4 ∧ m = 4 - k ∧ cs.length = k ∧ (∀ c ∈ cs, 1 ≤ c.1 ∧ c.1 ≤ 5) ∧ Row g b (rowA kd bn en st rv cv) e false ∧ Acc (fun y => g0.nx ≤ y ∧ y ≠ b) g 24 2 k cv (cs.flatMap encC) ∧ Old g0.nx g0 g) ?_ (m := 4) (by decide) ⟨0, .nils, [], rfl, by omega, rfl, rfl, (fun c hc => by cases hc), A, Acc.nils, Og⟩
    clear hih2 C hcs hcb0 A Og hrvv
    rintro m3 ih3 s g hih3 ⟨k, cv, cs, rfl, hk4, rfl, hcs, hcb0, A, C, Og⟩
    dsimp only
    have S0g := (S0.old Oh).old Og
    have Dk := hd dm (by rw [hdm]; exact List.getElem_mem hil)
    have SN : Sl (fun y => y < h.nx) g 2 dm.cs.length dm.cv (dm.cs.flatMap encC) := ((Dk.cs).old Oh).old Og
    refine ww_idxF S0g (f := 5) (by omega) hi (hget _ (by omega)) (ww_len SN (ww_lssC (fun hc => ?_) fun hc => ?_))
    · repeat (first | with_reducible refine ww_condT ?_ | with_reducible refine ww_condF ?_ | (with_reducible refine ww_wantTT ?_; try dsimp only) | (with_reducible refine ww_wantTF ?_; try dsimp only) | (with_reducible refine ww_wantFT ?_; try dsimp only) | (with_reducible refine ww_wantFF ?_; try dsimp only) | (with_reducible refine ww_wantU ?_; try dsimp only) | with_reducible refine ww_pickT ?_ | with_reducible refine ww_pickF ?_ | (with_reducible refine ww_joinS ?_; try dsimp only) | with_reducible refine ww_leave ?_ | with_reducible refine ww_notT ?_ | with_reducible refine ww_notF ?_ | with_reducible refine ww_addI (by omega) ?_ | with_reducible refine ww_subI (by omega) ?_ | with_reducible refine ww_addU (by omega) ?_ | with_reducible refine ww_subU (by omega) ?_ | with_reducible refine ww_min ?_ | with_reducible refine ww_max ?_)
      refine ww_lssC (fun hc4 => ?_) fun hc4 => ?_
      · repeat (first | with_reducible refine ww_condT ?_ | with_reducible refine ww_condF ?_ | (with_reducible refine ww_wantTT ?_; try dsimp only) | (with_reducible refine ww_wantTF ?_; try dsimp only) | (with_reducible refine ww_wantFT ?_; try dsimp only) | (with_reducible refine ww_wantFF ?_; try dsimp only) | (with_reducible refine ww_wantU ?_; try dsimp only) | with_reducible refine ww_pickT ?_ | with_reducible refine ww_pickF ?_ | (with_reducible refine ww_joinS ?_; try dsimp only) | with_reducible refine ww_leave ?_ | with_reducible refine ww_notT ?_ | with_reducible refine ww_notF ?_ | with_reducible refine ww_addI (by omega) ?_ | with_reducible refine ww_subI (by omega) ?_ | with_reducible refine ww_addU (by omega) ?_ | with_reducible refine ww_subU (by omega) ?_ | with_reducible refine ww_min ?_ | with_reducible refine ww_max ?_)
        refine ww_idxF S0g (f := 5) (by omega) hi (hget _ (by omega)) ?_
        refine ww_idxN (l := encC (dm.cs[k])) SN (by omega) (by omega) ?_ ?_
        · rw [flat_drop (sz := 2) encC (fun _ => rfl), List.drop_eq_getElem_cons (by omega), List.flatMap_cons]; rfl
        refine ww_box rfl fun b2 h49 hb2 A2 F2 => ?_
        refine ww_store A2 rfl (by show 0 + 2 ≤ 2; omega) rfl fun h50 A3 F3 hx3 => ?_
        obtain ⟨e3, A3⟩ : ∃ e3, Row h50 b2 (encC (dm.cs[k])) e3 false := ⟨_, A3⟩
        have lb := A.lt
        refine ww_joinS ?_
        repeat (first | with_reducible refine ww_condT ?_ | with_reducible refine ww_condF ?_ | (with_reducible refine ww_wantTT ?_; try dsimp only) | (with_reducible refine ww_wantTF ?_; try dsimp only) | (with_reducible refine ww_wantFT ?_; try dsimp only) | (with_reducible refine ww_wantFF ?_; try dsimp only) | (with_reducible refine ww_wantU ?_; try dsimp only) | with_reducible refine ww_pickT ?_ | with_reducible refine ww_pickF ?_ | (with_reducible refine ww_joinS ?_; try dsimp only) | with_reducible refine ww_leave ?_ | with_reducible refine ww_notT ?_ | with_reducible refine ww_notF ?_ | with_reducible refine ww_addI (by omega) ?_ | with_reducible refine ww_subI (by omega) ?_ | with_reducible refine ww_addU (by omega) ?_ | with_reducible refine ww_subU (by omega) ?_ | with_reducible refine ww_min ?_ | with_reducible refine ww_max ?_)
        refine ww_fld A3 rfl (ww_call (within_ok (by omega) (by omega) (by omega) (by omega)) ?_)
        rintro v h72 ⟨rfl, rfl⟩
        refine ww_fieldA (ww_load1 ((A3.at _).trans rfl) (ww_rem (by omega) (ww_build rfl ?_)))
        refine ww_store A3 rfl (by show 0 + 2 ≤ 2; omega) rfl fun h77 A4 F4 hx4 => ?_
        refine ww_chk1 ((A3.at _).trans rfl) ((A3.at _).trans rfl) A3.lt ?_
        obtain ⟨c, hcb, A4⟩ : ∃ c : Int × Int, (1 ≤ c.1 ∧ c.1 ≤ 5) ∧ Row h77 b2 (encC c) e3 false := ⟨(withinZ (dm.cs[k]).1 ((1 : Nat) : Int) ((5 : Nat) : Int), (dm.cs[k]).2.tmod ((2 : Nat) : Int)), within_bounds _ (by omega), A4⟩
        have F77 : Fr (fun y => g.nx ≤ y) g h77 := ((F2.trans F3).trans F4).mono (by rintro y _ ((hf | hf) | hf); exact hf.elim; omega; omega)
        have A77 := A.fr F77 (by omega)
        have C77 := (sl_acc C).fr F77 (fun y hy => by omega)
        try dsimp only
        refine ww_fld A77 rfl ?_
        refine ww_loadN (l := encC c) rfl (by omega) (fun j _ => by rw [Nat.zero_add]; exact A4.at j) ?_
        refine ww_buildS rfl rfl fun b3 h59 hb3 A5 F5 => ?_
        have nx77 := F77.nx
        refine ww_app (C77.fr F5 (fun _ _ hf => hf)) (Sl.of_row0 (D := fun _ => True) A5 trivial rfl) (by omega) (by omega) rfl fun v60 h61 C61 F61 => ?_
        have A61 := (A77.fr F5 (fun hf => hf)).fr F61 (by rintro ⟨⟨_, hf⟩, _⟩; exact hf rfl)
        refine ww_setF A61 (acc_one C61).1 (acc_one C61).2 (by show 0 + 11 < 14; omega) fun h63 A63 F63 hx63 => ?_
        refine ww_addI (by omega) ?_
        have nx59 := F5.nx
        have nx61 := F61.nx
        refine hih3 (4 - (k + 1)) _ _ (by omega) ⟨k + 1, v60, cs ++ [c], rfl, by omega, rfl, by simp [hcs], ?_, A63, ?_, ?_⟩
        · intro x hx
          rcases List.mem_append.1 hx with hx | hx
          · exact hcb0 x hx
          · rw [List.mem_singleton.1 hx]; exact hcb
        · have := (C61.fr F63 (by rintro y (hy | hy) rfl; exact hy.1.2 rfl; omega)).mono (D' := fun y => g0.nx ≤ y ∧ y ≠ b) (by rintro y (hy | hy); exact hy.1; have := Og.nx; exact ⟨by omega, by omega⟩)
          rw [List.flatMap_append]; exact this
        · exact (((Og.step F77 (fun y hy => Nat.le_trans Og.nx hy)).step F5 (fun _ hf => hf.elim)).step F61 (by rintro y ⟨⟨hy, _⟩, _⟩; exact hy)).step F63 (by rintro y rfl; exact hb)
      · repeat (first | with_reducible refine ww_condT ?_ | with_reducible refine ww_condF ?_ | (with_reducible refine ww_wantTT ?_; try dsimp only) | (with_reducible refine ww_wantTF ?_; try dsimp only) | (with_reducible refine ww_wantFT ?_; try dsimp only) | (with_reducible refine ww_wantFF ?_; try dsimp only) | (with_reducible refine ww_wantU ?_; try dsimp only) | with_reducible refine ww_pickT ?_ | with_reducible refine ww_pickF ?_ | (with_reducible refine ww_joinS ?_; try dsimp only) | with_reducible refine ww_leave ?_ | with_reducible refine ww_notT ?_ | with_reducible refine ww_notF ?_ | with_reducible refine ww_addI (by omega) ?_ | with_reducible refine ww_subI (by omega) ?_ | with_reducible refine ww_addU (by omega) ?_ | with_reducible refine ww_subU (by omega) ?_ | with_reducible refine ww_min ?_ | with_reducible refine ww_max ?_)
        have S0z := (S0.old Oh).old Og
        refine ww_loadN (l := encA ⟨kd, bn, en, st, rv, cv, k⟩) rfl (by omega) (fun j _ => by rw [Nat.zero_add]; exact A.at j) ?_
        have hok : AttOk ⟨kd, bn, en, st, rv, cv, k⟩ := ⟨hrv, C.sl.lenV⟩
        have Lg := acc_old (acc_own L) Og (by omega)
        refine ww_buildS (l := encA ⟨kd, bn, en, st, rv, cv, k⟩) rfl (encA_one hok) fun b5 h128 hb5 A5 F5 => ?_
        have L5 := Lg.fr F5 (fun _ _ hf => hf)
        refine ww_app L5 (Sl.of_row0 (D := fun _ => True) A5 trivial rfl) (by omega) (by omega) (encA_one hok) fun l' h130 L6 F6 => ?_
        refine ww_addI (by omega) ?_
        have hnx := Oh.nx
        have hgx := Og.nx
        have h5x := F5.nx
        refine hih (20 - (i + 1)) _ _ (by omega) ⟨i + 1, l', al ++ [⟨kd, bn, en, st, rv, cv, k⟩], rfl, by omega, rfl, by simp [hal], ?_, ?_, ?_⟩
        · intro a ha
          have keep : ∀ {n : Nat} {v : AV} {xs : List AV}, Sl (fun y => h.nx ≤ y ∧ ¬ own l y) g 2 n v xs → Sl (fun y => h.nx ≤ y ∧ ¬ own l' y) h130 2 n v xs := by
            intro n v xs S
            refine (((sl_lt S).fr F5 (fun _ _ hf => hf)).fr F6 (by rintro y ⟨⟨_, hy⟩, _⟩ hf; exact hy hf.2)).mono ?_
            rintro y ⟨⟨h1, h2⟩, h3⟩
            refine ⟨h1, fun ho => ?_⟩
            rcases acc_own_of L6 ho with hq | hq
            · exact h2 hq.2
            · omega
          rcases List.mem_append.1 ha with ha | ha
          · obtain ⟨q1, ac, q2, q3⟩ := hnest a ha
            refine ⟨q1, ac, keep ((sl_lt q2).old Og |>.mono (fun y hy => hy.1)), q3⟩
          · rw [List.mem_singleton.1 ha]
            refine ⟨hok, cs, keep ?_, hcb0, by omega⟩
            refine C.sl.mono ?_
            rintro y ⟨h1, h2⟩
            exact ⟨by omega, fun ho => by have := acc_own_lt L ho; omega⟩
        · have := L6.mono (D' := fun y => h.nx ≤ y) (by rintro y (hy | hy); exact hy.1; omega)
          rw [List.flatMap_append]; exact this
        · refine (((Oh.step Og (fun y hy => by omega)).step F5 (fun _ hf => hf.elim)).step F6 (by rintro y hy; exact hy.1))
    · repeat (first | with_reducible refine ww_condT ?_ | with_reducible refine ww_condF ?_ | (with_reducible refine ww_wantTT ?_; try dsimp only) | (with_reducible refine ww_wantTF ?_; try dsimp only) | (with_reducible refine ww_wantFT ?_; try dsimp only) | (with_reducible refine ww_wantFF ?_; try dsimp only) | (with_reducible refine ww_wantU ?_; try dsimp only) | with_reducible refine ww_pickT ?_ | with_reducible refine ww_pickF ?_ | (with_reducible refine ww_joinS ?_; try dsimp only) | with_reducible refine ww_leave ?_ | with_reducible refine ww_notT ?_ | with_reducible refine ww_notF ?_ | with_reducible refine ww_addI (by omega) ?_ | with_reducible refine ww_subI (by omega) ?_ | with_reducible refine ww_addU (by omega) ?_ | with_reducible refine ww_subU (by omega) ?_ | with_reducible refine ww_min ?_ | with_reducible refine ww_max ?_)
      have S0z := (S0.old Oh).old Og
      refine ww_loadN (l := encA ⟨kd, bn, en, st, rv, cv, k⟩) rfl (by omega) (fun j _ => by rw [Nat.zero_add]; exact A.at j) ?_
      have hok : AttOk ⟨kd, bn, en, st, rv, cv, k⟩ := ⟨hrv, C.sl.lenV⟩
      have Lg := acc_old (acc_own L) Og (by omega)
      refine ww_buildS (l := encA ⟨kd, bn, en, st, rv, cv, k⟩) rfl (encA_one hok) fun b5 h128 hb5 A5 F5 => ?_
      have L5 := Lg.fr F5 (fun _ _ hf => hf)
      refine ww_app L5 (Sl.of_row0 (D := fun _ => True) A5 trivial rfl) (by omega) (by omega) (encA_one hok) fun l' h130 L6 F6 => ?_
      refine ww_addI (by omega) ?_
      have hnx := Oh.nx
      have hgx := Og.nx
      have h5x := F5.nx
      refine hih (20 - (i + 1)) _ _ (by omega) ⟨i + 1, l', al ++ [⟨kd, bn, en, st, rv, cv, k⟩], rfl, by omega, rfl, by simp [hal], ?_, ?_, ?_⟩
      · intro a ha
        have keep : ∀ {n : Nat} {v : AV} {xs : List AV}, Sl (fun y => h.nx ≤ y ∧ ¬ own l y) g 2 n v xs → Sl (fun y => h.nx ≤ y ∧ ¬ own l' y) h130 2 n v xs := by
          intro n v xs S
          refine (((sl_lt S).fr F5 (fun _ _ hf => hf)).fr F6 (by rintro y ⟨⟨_, hy⟩, _⟩ hf; exact hy hf.2)).mono ?_
          rintro y ⟨⟨h1, h2⟩, h3⟩
          refine ⟨h1, fun ho => ?_⟩
          rcases acc_own_of L6 ho with hq | hq
          · exact h2 hq.2
          · omega
        rcases List.mem_append.1 ha with ha | ha
        · obtain ⟨q1, ac, q2, q3⟩ := hnest a ha
          refine ⟨q1, ac, keep ((sl_lt q2).old Og |>.mono (fun y hy => hy.1)), q3⟩
        · rw [List.mem_singleton.1 ha]
          refine ⟨hok, cs, keep ?_, hcb0, by omega⟩
          refine C.sl.mono ?_
          rintro y ⟨h1, h2⟩
          exact ⟨by omega, fun ho => by have := acc_own_lt L ho; omega⟩
      · have := L6.mono (D' := fun y => h.nx ≤ y) (by rintro y (hy | hy); exact hy.1; omega)
        rw [List.flatMap_append]; exact this
      · refine (((Oh.step Og (fun y hy => by omega)).step F5 (fun _ hf => hf.elim)).step F6 (by rintro y hy; exact hy.1))
end Go.Proofs.Ytlmfnmppcdijfaa
