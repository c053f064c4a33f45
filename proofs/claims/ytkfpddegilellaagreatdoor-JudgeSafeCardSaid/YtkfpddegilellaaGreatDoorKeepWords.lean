/- The words of a heap out of drawn ones. -/
import Derived.Test.YtkfpddegilellaaGreatDoorBookWithin
import Derived.Test.YtkfpddegilellaaGreatDoorVwV
namespace Go.Proofs.YtkfpddegilellaaGreatDoor
open Go Go.Ae
set_option maxRecDepth 100000

variable {g h : AH} {L R : List SP}

def OkN (zs : List Int) : Prop := ∀ z ∈ zs, 0 ≤ z ∧ z < 18446744073709551616
theorem OkN.set {zs : List Int} {i : Nat} {x : Int} (h : OkN zs) (hx : 0 ≤ x ∧ x < 18446744073709551616) : OkN (zs.set i x) := by
  intro z hz
  rcases List.mem_or_eq_of_mem_set hz with h1 | rfl
  · exact h z h1
  · exact hx
theorem ww_pickAndK {u x : Bool} {r : AV} {K : AV → Go.Ae.R} {Q : AV → AH → Prop} (hr : u = true → r = .bool x) (w : wp (K (.bool (u && x))) Q) : wp (pPick (.bool u) r (.bool false) K) Q := by
  cases u
  · exact w
  · rw [hr rfl]; exact w
theorem ww_and {k : IntKind} {a b : Int} {K : AV → Go.Ae.R} {Q : AV → AH → Prop} (w : ∀ z : Int, wp (K (.int k z)) Q) : wp (pInt .and (.int k a) (.int k b) K) Q := by
  rw [pInt_k]; simp only [aint]; exact w _
/-- two to the c-th -/
def tw (c : Int) : Int := awrap .i64 (1 * 2 ^ (min c.toNat (IntKind.bits .i64)))
theorem tw_b {c : Int} (h : 1 ≤ c ∧ c ≤ 3) : 2 ≤ tw c ∧ tw c ≤ 8 := by
  obtain rfl | rfl | rfl : c = 1 ∨ c = 2 ∨ c = 3 := by omega
  all_goals decide
theorem within_b {x lo hi : Int} (h : lo ≤ hi) : lo ≤ withinZ x lo hi ∧ withinZ x lo hi ≤ hi := by
  unfold withinZ
  have := tmod_bounds x (show 0 < hi - lo + 1 by omega)
  split <;> omega

theorem kwords_ok {n : Nat} (hn : 2 ≤ n) {x : Int} {bv : AV} {bs : List Int} (H : HS g h R) (S : Rd g R 1 bs.length bv (bs.map (.int .u8))) (hb : ∀ z ∈ bs, 0 ≤ z ∧ z ≤ 255) :
    wp (callT tab rtab n (.fn 11 [] []) [.int .i64 x, .nils, bv] h) fun r h' => ∃ zs, OkN zs ∧ 32 ≤ zs.length ∧ zs.length ≤ 80 ∧ shut r = true ∧ roomy r ∧ HS g h' (SliC 24 1 zs.length r (zs.map (.int .u64)) :: R) := by
  (refine ww_fn (g := W11) rfl (by omega) fun k hk => ?_; show wp (S11 (callT tab rtab k) _ _ _ _) _; unfold S11; try simp only [Int.ofNat_eq_natCast])
  refine ww_call (within_ok (by omega) (by omega) (by omega) (by omega)) ?_
  rintro _ _ ⟨rfl, rfl⟩
  have hwb := within_b (x := x) (lo := ((32 : Nat) : Int)) (hi := ((80 : Nat) : Int)) (by omega)
  obtain ⟨n, hn⟩ : ∃ n : Nat, withinZ x ((32 : Nat) : Int) ((80 : Nat) : Int) = (n : Int) := ⟨_, (Int.toNat_of_nonneg (by omega)).symm⟩
  rw [hn] at hwb ⊢
  refine ww_make (Nat.le_refl _) (by omega) fun b h3 hb3 A F => ?_
  have H3 : HS g h3 (SliC 24 1 n (.slice b 0 n n false) ((List.replicate n (0 : Int)).map (.int .u64)) :: R) := by
    refine H.add (D' := fun a => a = b) F.none ⟨by simp, .inr ⟨b, n, false, _, rfl, fun a => Iff.rfl, A, by rw [repl_len]; simp, ?_, ?_⟩⟩ ?_
    · rw [List.take_of_length_le (by rw [repl_len]; simp), repl_one, List.map_replicate]; rfl
    · rw [if_neg (by simp)]; exact ⟨by rw [repl_len]; rfl, Nat.le_refl _⟩
    · rintro a rfl; exact ⟨hb3, A.lt⟩
  have z0 : OkN (List.replicate n (0 : Int)) := by intro z hz; rw [List.eq_of_mem_replicate hz]; omega
  have hsh : shut (.slice b 0 n n false) = true := rfl
  have hro : roomy (.slice b 0 n n false) := Nat.le_refl n
  generalize AV.slice b 0 n n false = wv at *
  clear H F A
  refine ww_slI (i := 5) H3 (by omega) ⟨rfl, rfl⟩ fun h4 H => ?_
  rw [← List.map_set] at H
  have z1 := z0.set (i := 5) (x := ((14 : Nat) : Int)) (by omega)
  have l1 : ((List.replicate n (0 : Int)).set 5 ((14 : Nat) : Int)).length = n := by simp
  generalize (List.replicate n (0 : Int)).set 5 ((14 : Nat) : Int) = zs at *
  clear z0 H3
  -- no roots
  refine ww_iter (fun m s h' => s = (.int .i64 ((0 : Nat) : Int), wv, bv, .nils, ()) ∧ h' = h4 ∧ m = 0) ?_ (m := 0) (by show 0 < 1000000000; omega) ⟨rfl, rfl, rfl⟩
  rintro m ih s _ hih ⟨rfl, rfl, rfl⟩
  dsimp only
  refine ww_lenN (ww_lssF (by omega) ?_)
  (first | with_reducible refine ww_condT ?_ | with_reducible refine ww_condF ?_ | (with_reducible refine ww_wantTT ?_; try dsimp only) | (with_reducible refine ww_wantTF ?_; try dsimp only) | (with_reducible refine ww_wantFT ?_; try dsimp only) | (with_reducible refine ww_wantFF ?_; try dsimp only) | (with_reducible refine ww_wantU ?_; try dsimp only) | with_reducible refine ww_pickT ?_ | with_reducible refine ww_pickF ?_ | (with_reducible refine ww_joinS ?_; try dsimp only) | with_reducible refine ww_leave ?_ | with_reducible refine ww_notT ?_ | with_reducible refine ww_notF ?_ | with_reducible refine ww_addI (by omega) ?_ | with_reducible refine ww_subI (by omega) ?_ | with_reducible refine ww_addU (by omega) ?_ | with_reducible refine ww_subU (by omega) ?_ | with_reducible refine ww_min ?_ | with_reducible refine ww_max ?_)
  (first | with_reducible refine ww_condT ?_ | with_reducible refine ww_condF ?_ | (with_reducible refine ww_wantTT ?_; try dsimp only) | (with_reducible refine ww_wantTF ?_; try dsimp only) | (with_reducible refine ww_wantFT ?_; try dsimp only) | (with_reducible refine ww_wantFF ?_; try dsimp only) | (with_reducible refine ww_wantU ?_; try dsimp only) | with_reducible refine ww_pickT ?_ | with_reducible refine ww_pickF ?_ | (with_reducible refine ww_joinS ?_; try dsimp only) | with_reducible refine ww_leave ?_ | with_reducible refine ww_notT ?_ | with_reducible refine ww_notF ?_ | with_reducible refine ww_addI (by omega) ?_ | with_reducible refine ww_subI (by omega) ?_ | with_reducible refine ww_addU (by omega) ?_ | with_reducible refine ww_subU (by omega) ?_ | with_reducible refine ww_min ?_ | with_reducible refine ww_max ?_)
  (first | with_reducible refine ww_condT ?_ | with_reducible refine ww_condF ?_ | (with_reducible refine ww_wantTT ?_; try dsimp only) | (with_reducible refine ww_wantTF ?_; try dsimp only) | (with_reducible refine ww_wantFT ?_; try dsimp only) | (with_reducible refine ww_wantFF ?_; try dsimp only) | (with_reducible refine ww_wantU ?_; try dsimp only) | with_reducible refine ww_pickT ?_ | with_reducible refine ww_pickF ?_ | (with_reducible refine ww_joinS ?_; try dsimp only) | with_reducible refine ww_leave ?_ | with_reducible refine ww_notT ?_ | with_reducible refine ww_notF ?_ | with_reducible refine ww_addI (by omega) ?_ | with_reducible refine ww_subI (by omega) ?_ | with_reducible refine ww_addU (by omega) ?_ | with_reducible refine ww_subU (by omega) ?_ | with_reducible refine ww_min ?_ | with_reducible refine ww_max ?_)
  (first | with_reducible refine ww_condT ?_ | with_reducible refine ww_condF ?_ | (with_reducible refine ww_wantTT ?_; try dsimp only) | (with_reducible refine ww_wantTF ?_; try dsimp only) | (with_reducible refine ww_wantFT ?_; try dsimp only) | (with_reducible refine ww_wantFF ?_; try dsimp only) | (with_reducible refine ww_wantU ?_; try dsimp only) | with_reducible refine ww_pickT ?_ | with_reducible refine ww_pickF ?_ | (with_reducible refine ww_joinS ?_; try dsimp only) | with_reducible refine ww_leave ?_ | with_reducible refine ww_notT ?_ | with_reducible refine ww_notF ?_ | with_reducible refine ww_addI (by omega) ?_ | with_reducible refine ww_subI (by omega) ?_ | with_reducible refine ww_addU (by omega) ?_ | with_reducible refine ww_subU (by omega) ?_ | with_reducible refine ww_min ?_ | with_reducible refine ww_max ?_)
  refine ww_joinD [] (fun s h' => s = (wv, ()) ∧ ∃ zs, OkN zs ∧ zs.length = n ∧ HS g h' (SliC 24 1 n wv (zs.map (.int .u64)) :: R)) ?_ ?_
  · intro j hj
    refine ww_iter (fun m s h' => ∃ (i : Nat) (at' : Int) (zs : List Int), s = (.int .i64 (i : Int), .int .i64 at', wv, bv, ()) ∧ i ≤ 8 ∧ m = 8 - i ∧ 14 ≤ at' ∧ at' ≤ n ∧ OkN zs ∧ zs.length = n ∧ HS g h' (SliC 24 1 n wv (zs.map (.int .u64)) :: R))
      ?_ (m := 8) (by show 8 < 1000000000; omega) ⟨0, ((14 : Nat) : Int), zs, rfl, by omega, by omega, by omega, by omega, z1, l1, H⟩
    clear H z1 l1 hih zs
    rintro m ih s h5 hih ⟨i, a, zs, rfl, hi8, rfl, ha, ha2, hz, hl, H⟩
    dsimp only
    refine ww_len (S.sl H.drop) (ww_lss ?_)
    refine ww_join (fun s g' => ∃ (r : AV) (u x : Bool), s = (r, .bool u, .int .i64 (i : Int), .int .i64 a, wv, bv, ()) ∧ g' = h5 ∧ (u = true → r = .bool x) ∧ ((u && x) = decide (i < bs.length ∧ i < 8))) ?_ ?_
    · intro j hj
      refine ww_want (fun hl => ww_lss (hj _ _ ⟨_, _, decide (i < 8), rfl, rfl, fun _ => (by congr 1; exact decide_eq_decide.2 (by omega)), ?_⟩)) (fun hl => hj _ _ ⟨_, _, false, rfl, rfl, fun h => absurd (of_decide_eq_true h) hl, ?_⟩)
      · have hl' : i < bs.length := by omega
        simp [hl']
      · have hl' : ¬ i < bs.length := by omega
        simp [hl']
    rintro s h5 ⟨r, u, x, rfl, rfl, hr, hux⟩
    refine ww_pickAndK hr ?_
    rw [hux]
    dsimp only
    refine ww_cond (fun hi => ?_) fun hi => hj _ _ ⟨rfl, zs, hz, hl, H⟩
    have hci : (bs.map (AV.int .u8))[i]? = some (.int .u8 bs[i]) := by rw [List.getElem?_map, List.getElem?_eq_getElem hi.1]; rfl
    have hbi := hb bs[i] (List.getElem_mem hi.1)
    have hb1 := Int.tmod_nonneg ((3 : Nat) : Int) hbi.1
    have hb2 := Int.tmod_lt_of_pos bs[i] (show 0 < ((3 : Nat) : Int) by omega)
    refine ww_idx1 (S.sl H.drop) hci (ww_rem (by omega) (ww_convII (by omega) (ww_addI (by omega) ?_)))
    obtain ⟨c, hc⟩ : ∃ c, c = Int.tmod bs[i] ((3 : Nat) : Int) + ((1 : Nat) : Int) := ⟨_, rfl⟩
    rw [← hc]
    have hcb : 1 ≤ c ∧ c ≤ 3 := by omega
    have htw := tw_b hcb
    refine ww_addI (by omega) (ww_convIU (by omega) (ww_shl (by omega) ?_))
    show wp (pInt .add _ (.int .i64 (tw c)) _) _
    refine ww_addI (by omega) (ww_lenH H .here (ww_gtrC (fun hg => ww_condT (hj _ _ ⟨rfl, zs, hz, hl, H⟩)) fun hg => ww_condF ?_))
    obtain ⟨p, rfl⟩ : ∃ p : Nat, a = (p : Int) := ⟨a.toNat, by omega⟩
    refine ww_convIU (by omega) ?_
    refine ww_slI H (by omega) ⟨rfl, rfl⟩ fun h6 H => ?_
    rw [← List.map_set] at H
    have hz2 := hz.set (i := p) (x := c) (by omega)
    have hl2 : (zs.set p c).length = n := by simp [hl]
    generalize zs.set p c = zs2 at *
    clear hz hl
    refine ww_joinD [] (fun s h' => s = (.int .i64 c, .int .i64 (i : Int), .int .i64 (p : Int), wv, bv, ()) ∧ ∃ zs, OkN zs ∧ zs.length = n ∧ HS g h' (SliC 24 1 n wv (zs.map (.int .u64)) :: R)) ?_ ?_
    · intro j hj
      refine ww_idx1 (S.sl H.drop) hci (ww_and fun z => ?_)
      refine ww_gtrC (fun _ => ww_condT ?_) fun _ => ww_condF ?_
      · refine ww_addI (by omega) (ww_convIU (by omega) ?_)
        refine ww_slI H (by omega) ⟨rfl, rfl⟩ fun h7 H7 => ?_
        rw [← List.map_set] at H7
        exact hj _ _ ⟨rfl, _, hz2.set (by omega), by simp [hl2], H7⟩
      · refine ww_idx1 (S.sl H.drop) hci (ww_and fun z => ?_)
        refine ww_gtrC (fun _ => ww_condT ?_) fun _ => ww_condF (hj _ _ ⟨rfl, zs2, hz2, hl2, H⟩)
        refine ww_addI (by omega) (ww_addI (by omega) (ww_subI (by omega) ?_))
        obtain ⟨d, hd⟩ : ∃ d : Nat, ((1 : Nat) : Int) + c - ((1 : Nat) : Int) = (d : Int) := ⟨c.toNat, by omega⟩
        rw [hd]
        have hdn : d < zs2.length := by omega
        refine ww_idx1 (x := .int .u64 zs2[d]) (H.sl .here) (by rw [List.getElem?_map, List.getElem?_eq_getElem hdn]; rfl) ?_
        rw [show (p : Int) + ((1 : Nat) : Int) = ((p + 1 : Nat) : Int) by omega]
        refine ww_slI H (by omega) ⟨rfl, rfl⟩ fun h7 H7 => ?_
        rw [← List.map_set] at H7
        refine ww_addI (by omega) (ww_subI (by omega) (ww_addI (by omega) (ww_convIU (by omega) ?_)))
        rw [hd]
        refine ww_slI H7 (by omega) ⟨rfl, rfl⟩ fun h8 H8 => ?_
        rw [← List.map_set] at H8
        exact hj _ _ ⟨rfl, _, (hz2.set (hz2 zs2[d] (List.getElem_mem hdn))).set (by omega), by simp [hl2], H8⟩
    rintro s h7 ⟨rfl, zs3, hz3, hl3, H⟩
    dsimp only
    refine ww_addI (by omega) (ww_convIU (by omega) (ww_shl (by omega) ?_))
    show wp (pInt .add _ (.int .i64 (tw c)) _) _
    refine ww_addI (by omega) (ww_convIU (by omega) ?_)
    refine ww_slI (i := 5) H (by omega) ⟨rfl, rfl⟩ fun h8 H8 => ?_
    rw [← List.map_set] at H8
    refine ww_addI (by omega) (hih (8 - (i + 1)) _ _ (by omega) ⟨i + 1, _, _, rfl, by omega, rfl, by omega, by omega, hz3.set (by omega), by simp [hl3], H8⟩)
  rintro s h5 ⟨rfl, zs, hz, hl, H⟩
  dsimp only
  refine ww_leave (ww_ret ⟨zs, hz, by omega, by omega, hsh, hro, ?_⟩)
  rw [hl]
  exact H
end Go.Proofs.YtkfpddegilellaaGreatDoor
