/- Cells applied to words by the program (Apply.lean turned to the view layer). -/
import Derived.Test.YtjpfndpcmoklfaaGreatDoorArenaFull
namespace Go.Proofs.YtjpfndpcmoklfaaGreatDoor
open Go Go.Ae
set_option maxRecDepth 100000

def sizeM (n : Nat) : Nat := max 32 (min n 256)
def baseM (zs : List Int) : List Int := (List.range (sizeM zs.length)).map fun i => if i = 0 then 0 else zs[i]?.getD 0
def putM (l : List Int) (c : Int × Int) : List Int := if 1 ≤ c.1 ∧ c.1 < l.length then l.set c.1.toNat c.2 else l
def applyM (zs : List Int) (cs : List (Int × Int)) : List Int := cs.foldl putM (baseM zs)
theorem putM_len (l : List Int) (c : Int × Int) : (putM l c).length = l.length := by unfold putM; split <;> simp
theorem foldM_len (cs : List (Int × Int)) : ∀ l : List Int, (cs.foldl putM l).length = l.length := by
  induction cs with
  | nil => intro l; rfl
  | cons c cs ih => intro l; rw [List.foldl_cons, ih, putM_len]
theorem baseM_len (zs : List Int) : (baseM zs).length = sizeM zs.length := by simp [baseM]
theorem sizeM_bounds (n : Nat) : 32 ≤ sizeM n ∧ sizeM n ≤ 256 := by unfold sizeM; omega
theorem base_eq (zs : List Int) : lset (List.replicate (sizeM zs.length) (AV.int .u64 0)) 1 (((zs.map (AV.int .u64)).drop (min 1 zs.length)).take (min (zs.length - min 1 zs.length) (sizeM zs.length - 1) * 1)) = (baseM zs).map (AV.int .u64) := by
  have hb := sizeM_bounds zs.length
  have hl : (((zs.map (AV.int .u64)).drop (min 1 zs.length)).take (min (zs.length - min 1 zs.length) (sizeM zs.length - 1) * 1)).length = min (zs.length - min 1 zs.length) (sizeM zs.length - 1) := by simp
  apply List.ext_getElem?
  intro i
  rw [lset_get (by rw [hl, List.length_replicate]; omega), hl]
  by_cases hi : i < sizeM zs.length
  · have hr : ((baseM zs).map (AV.int .u64))[i]? = some (AV.int .u64 (if i = 0 then 0 else zs[i]?.getD 0)) := by
      simp [baseM, List.getElem?_range hi]
    rw [hr]
    split
    · rename_i h1
      rw [if_neg (by omega), List.getElem?_take_of_lt (by omega), List.getElem?_drop, show min 1 zs.length + (i - 1) = i by omega, List.getElem?_map, List.getElem?_eq_getElem (by omega)]
      rfl
    · rename_i h1
      rw [List.getElem?_replicate, if_pos hi]
      congr 2
      by_cases h0 : i = 0
      · rw [if_pos h0]
      · rw [if_neg h0, List.getElem?_eq_none (by omega)]; rfl
  · rw [if_neg (by omega), List.getElem?_eq_none (by simp; omega), List.getElem?_eq_none (by simp [baseM]; omega)]

theorem mapply_ok {D1 D2 : Nat → Prop} {n p q : Nat} (hn : 1 ≤ n) {a0 a1 : AV} {zs : List Int} {cs : List (Int × Int)} {h : AH} (S0 : Sl D1 h 1 p a0 (zs.map (.int .u64))) (hs : shut a0 = true) (hr : roomy a0)
    (S1 : Sl D2 h 2 q a1 (cs.flatMap encC)) (hp : p < 1000000000) (hq : q < 1000000000) :
    wp (callT tab rtab n (.fn 11 [] []) [a0, a1] h) fun v h' => ∃ b e, v = .slice b 0 (sizeM p) (sizeM p) false ∧ h.nx ≤ b ∧ Row h' b ((applyM zs cs).map (.int .u64)) e false ∧ Old h.nx h h' := by
  have hzl : zs.length = p := by simpa using S0.len
  have hcl : cs.length = q := by
    have := S1.len
    rw [flat_len (sz := 2) encC (fun _ => rfl)] at this
    omega
  have hN := sizeM_bounds p
  (refine ww_fn (g := W11) rfl (by omega) fun k hk => ?_; show wp (S11 (callT tab rtab k) _ _ _) _; unfold S11; try simp only [Int.ofNat_eq_natCast])
  refine ww_len S0 (ww_min (ww_max ?_))
  rw [show max ((32 : Nat) : Int) (min (p : Int) ((256 : Nat) : Int)) = ((sizeM p : Nat) : Int) by unfold sizeM; omega]
  refine ww_make (Nat.le_refl _) (by omega) fun b h4 hb A F4 => ?_
  rw [repl_one] at A
  refine ww_cut (hi := sizeM p) (lo := 1) rfl (natO_some (by omega)) ?_
  rw [show Nat.beq (sizeM p) 1 = false from nbeq_f (by omega), cond_false]
  have S0' := S0.fr F4 (fun _ _ hf => hf)
  have S1' := S1.fr F4 (fun _ _ hf => hf)
  refine ww_len S0' (ww_min ?_)
  rw [show min ((1 : Nat) : Int) (p : Int) = ((min 1 p : Nat) : Int) by omega]
  refine ww_cutL S0' hs hr (by omega) fun v8 S8 _ _ => ?_
  refine ww_copy S8 A (by simp; omega) (by omega) ?_ fun h10 A10 F10 hx10 => ?_
  · unfold allOne
    rw [List.all_eq_true]
    intro v hv
    have := List.mem_of_mem_take hv
    have := List.mem_of_mem_drop this
    obtain ⟨z, _, rfl⟩ := List.mem_map.1 this
    rfl
  have e10 := base_eq zs
  rw [hzl] at e10
  rw [show ((0 : Nat) + 1 * 1) = 1 from rfl, Nat.mul_one] at A10
  rw [Nat.mul_one] at e10
  obtain ⟨e, A10⟩ : ∃ e, Row h10 b ((baseM zs).map (.int .u64)) e false := ⟨_, by rw [← e10]; simpa using A10⟩
  have O10 : Old h.nx h h10 := ((Old.refl h.nx h).step F4 (fun _ hf => hf.elim)).step F10 (by rintro x rfl; exact hb)
  have O4 : Old h.nx h h4 := (Old.refl h.nx h).step F4 (fun _ hf => hf.elim)
  refine ww_len (S1.old O10) ?_
  refine ww_iter (fun m s g => ∃ i : Nat, s = (.int .i64 (i : Int), .int .i64 (q : Int), a1, .slice b 0 (sizeM p) (sizeM p) false, ()) ∧ i ≤ q ∧ m = q - i ∧ Row g b (((cs.take i).foldl putM (baseM zs)).map (.int .u64)) e false ∧ Old h.nx h g) ?_ (m := q)
    (by show q < 1000000000; omega) ⟨0, rfl, by omega, by omega, A10, O10⟩
  rintro m ih s g hih ⟨i, rfl, h1, rfl, A, O⟩
  dsimp only
  have S1g := S1.old O
  refine ww_lssC (fun hlt => ww_condT ?_) fun hge => ww_condF (ww_leave (ww_ret ?_))
  · have hi : i < q := by omega
    refine ww_joinS ?_
    refine ww_idxN (l := encC cs[i]) S1g hi (by omega) ?_ ?_
    · rw [flat_drop (sz := 2) encC (fun _ => rfl), List.drop_eq_getElem_cons (by omega), List.flatMap_cons]; rfl
    refine ww_box rfl fun b2 h25 hb2 A2 F2 => ?_
    refine ww_store A2 rfl (by show 0 + 2 ≤ 2; omega) rfl fun h26 A3 F3 hx3 => ?_
    obtain ⟨e3, A3⟩ : ∃ e3, Row h26 b2 [.int .i64 cs[i].1, .int .u64 cs[i].2] e3 false := ⟨_, A3⟩
    have O26 : Old h.nx h h26 := (O.step F2 (fun _ hf => hf.elim)).step F3 (by rintro x rfl; exact Nat.le_trans O.nx hb2)
    have hbg := A.lt
    have A26 := (A.fr F2 (fun hf => hf)).fr F3 (fun hf : b = b2 => by omega)
    have hlen : ((cs.take i).foldl putM (baseM zs)).length = sizeM p := by rw [foldM_len, baseM_len, hzl]
    have next : ∀ g', Row g' b ((putM ((cs.take i).foldl putM (baseM zs)) cs[i]).map (.int .u64)) e false → Old h.nx h g' → wp (ih (.int .i64 ((i : Int) + ((1 : Nat) : Int)), .int .i64 (q : Int), a1, .slice b 0 (sizeM p) (sizeM p) false, ()) g' []) fun v h' => ∃ b e, v = .slice b 0 (sizeM p) (sizeM p) false ∧ h.nx ≤ b ∧ Row h' b ((applyM zs cs).map (.int .u64)) e false ∧ Old h.nx h h' := fun g' A' O' =>
      hih (q - (i + 1)) _ _ (by omega) ⟨i + 1, rfl, by omega, rfl, by rw [List.take_succ_eq_append_getElem (by omega), List.foldl_append]; exact A', O'⟩
    refine ww_fld A3 rfl (ww_geqC (fun hc1 => ?_) fun hc1 => ?_)
    · repeat (first | with_reducible refine ww_condT ?_ | with_reducible refine ww_condF ?_ | (with_reducible refine ww_wantTT ?_; try dsimp only) | (with_reducible refine ww_wantTF ?_; try dsimp only) | (with_reducible refine ww_wantFT ?_; try dsimp only) | (with_reducible refine ww_wantFF ?_; try dsimp only) | (with_reducible refine ww_wantU ?_; try dsimp only) | with_reducible refine ww_pickT ?_ | with_reducible refine ww_pickF ?_ | (with_reducible refine ww_joinS ?_; try dsimp only) | with_reducible refine ww_leave ?_ | with_reducible refine ww_notT ?_ | with_reducible refine ww_notF ?_ | with_reducible refine ww_addI (by omega) ?_ | with_reducible refine ww_subI (by omega) ?_ | with_reducible refine ww_addU (by omega) ?_ | with_reducible refine ww_subU (by omega) ?_ | with_reducible refine ww_min ?_ | with_reducible refine ww_max ?_)
      refine ww_fld A3 rfl (ww_lenS (ww_lssC (fun hc2 => ?_) fun hc2 => ?_))
      · repeat (first | with_reducible refine ww_condT ?_ | with_reducible refine ww_condF ?_ | (with_reducible refine ww_wantTT ?_; try dsimp only) | (with_reducible refine ww_wantTF ?_; try dsimp only) | (with_reducible refine ww_wantFT ?_; try dsimp only) | (with_reducible refine ww_wantFF ?_; try dsimp only) | (with_reducible refine ww_wantU ?_; try dsimp only) | with_reducible refine ww_pickT ?_ | with_reducible refine ww_pickF ?_ | (with_reducible refine ww_joinS ?_; try dsimp only) | with_reducible refine ww_leave ?_ | with_reducible refine ww_notT ?_ | with_reducible refine ww_notF ?_ | with_reducible refine ww_addI (by omega) ?_ | with_reducible refine ww_subI (by omega) ?_ | with_reducible refine ww_addU (by omega) ?_ | with_reducible refine ww_subU (by omega) ?_ | with_reducible refine ww_min ?_ | with_reducible refine ww_max ?_)
        refine ww_fld A3 rfl (ww_fld A3 rfl ?_)
        obtain ⟨j, hj⟩ : ∃ j : Nat, cs[i].1 = (j : Int) := ⟨cs[i].1.toNat, by omega⟩
        rw [hj]
        refine ww_setI A26 rfl rfl (by omega) (by simp [hlen]; omega) fun h39 A39 F39 hx39 => ?_
        repeat (first | with_reducible refine ww_condT ?_ | with_reducible refine ww_condF ?_ | (with_reducible refine ww_wantTT ?_; try dsimp only) | (with_reducible refine ww_wantTF ?_; try dsimp only) | (with_reducible refine ww_wantFT ?_; try dsimp only) | (with_reducible refine ww_wantFF ?_; try dsimp only) | (with_reducible refine ww_wantU ?_; try dsimp only) | with_reducible refine ww_pickT ?_ | with_reducible refine ww_pickF ?_ | (with_reducible refine ww_joinS ?_; try dsimp only) | with_reducible refine ww_leave ?_ | with_reducible refine ww_notT ?_ | with_reducible refine ww_notF ?_ | with_reducible refine ww_addI (by omega) ?_ | with_reducible refine ww_subI (by omega) ?_ | with_reducible refine ww_addU (by omega) ?_ | with_reducible refine ww_subU (by omega) ?_ | with_reducible refine ww_min ?_ | with_reducible refine ww_max ?_)
        refine next h39 ?_ (O26.step F39 (by rintro x rfl; exact hb))
        rw [show putM ((cs.take i).foldl putM (baseM zs)) cs[i] = ((cs.take i).foldl putM (baseM zs)).set j cs[i].2 from (if_pos (by rw [hlen]; omega)).trans (by rw [show cs[i].1.toNat = j by omega]), List.map_set]
        simpa using A39
      · repeat (first | with_reducible refine ww_condT ?_ | with_reducible refine ww_condF ?_ | (with_reducible refine ww_wantTT ?_; try dsimp only) | (with_reducible refine ww_wantTF ?_; try dsimp only) | (with_reducible refine ww_wantFT ?_; try dsimp only) | (with_reducible refine ww_wantFF ?_; try dsimp only) | (with_reducible refine ww_wantU ?_; try dsimp only) | with_reducible refine ww_pickT ?_ | with_reducible refine ww_pickF ?_ | (with_reducible refine ww_joinS ?_; try dsimp only) | with_reducible refine ww_leave ?_ | with_reducible refine ww_notT ?_ | with_reducible refine ww_notF ?_ | with_reducible refine ww_addI (by omega) ?_ | with_reducible refine ww_subI (by omega) ?_ | with_reducible refine ww_addU (by omega) ?_ | with_reducible refine ww_subU (by omega) ?_ | with_reducible refine ww_min ?_ | with_reducible refine ww_max ?_)
        refine next h26 ?_ O26
        rw [show putM ((cs.take i).foldl putM (baseM zs)) cs[i] = (cs.take i).foldl putM (baseM zs) from if_neg (by rw [hlen]; omega)]
        exact A26
    · repeat (first | with_reducible refine ww_condT ?_ | with_reducible refine ww_condF ?_ | (with_reducible refine ww_wantTT ?_; try dsimp only) | (with_reducible refine ww_wantTF ?_; try dsimp only) | (with_reducible refine ww_wantFT ?_; try dsimp only) | (with_reducible refine ww_wantFF ?_; try dsimp only) | (with_reducible refine ww_wantU ?_; try dsimp only) | with_reducible refine ww_pickT ?_ | with_reducible refine ww_pickF ?_ | (with_reducible refine ww_joinS ?_; try dsimp only) | with_reducible refine ww_leave ?_ | with_reducible refine ww_notT ?_ | with_reducible refine ww_notF ?_ | with_reducible refine ww_addI (by omega) ?_ | with_reducible refine ww_subI (by omega) ?_ | with_reducible refine ww_addU (by omega) ?_ | with_reducible refine ww_subU (by omega) ?_ | with_reducible refine ww_min ?_ | with_reducible refine ww_max ?_)
      refine next h26 ?_ O26
      rw [show putM ((cs.take i).foldl putM (baseM zs)) cs[i] = (cs.take i).foldl putM (baseM zs) from if_neg (by rw [hlen]; omega)]
      exact A26
  · refine ⟨b, e, rfl, hb, ?_, O⟩
    rw [List.take_of_length_le (by omega)] at A
    exact A

theorem applyM_eq (zs : List Int) (cs : List Cl) : applyM zs cs = applyZ zs cs := by
  have e1 : ∀ n : Nat, szZ (n : Int) = sizeM n := by intro n; unfold szZ sizeM; omega
  have e2 : baseM zs = baseZ zs := by
    unfold baseM baseZ
    rw [e1]
    rfl
  unfold applyM applyZ
  rw [e2]
  rfl
theorem mapplyV_ok {g h : AH} {R : List SP} {n : Nat} (hn : 1 ≤ n) {zs : List Int} {cs : List Cl} {a0 c : AV} (H : HS g h R) (S : Rd g R 1 zs.length a0 (zs.map (.int .u64))) (hs : shut a0 = true) (hr : roomy a0) (S1 : Rd g R 2 cs.length c (cs.flatMap encC)) (hz : zs.length < 100000) (hc : cs.length < 100000) :
    wp (callT tab rtab n (.fn 11 [] []) [a0, c] h) fun r h' => ∃ e, HS g h' (SliC e 1 (applyZ zs cs).length r ((applyZ zs cs).map (.int .u64)) :: R) := by
  obtain ⟨v, h', er, b, e, rfl, hb, A, O⟩ := mapply_ok hn (S.sl H) hs hr (S1.sl H) (by omega) (by omega)
  have hl : (applyM zs cs).length = sizeM zs.length := by unfold applyM; rw [foldM_len, baseM_len]
  refine ⟨_, h', er, e, ?_⟩
  rw [← applyM_eq]
  refine H.add (D' := fun a => a = b) O ⟨by simp, .inr ⟨b, sizeM zs.length, false, _, by rw [hl], fun a => Iff.rfl, A, by simp, by rw [List.take_of_length_le (by simp)], ?_⟩⟩ ?_
  · rw [if_neg (by simp)]; exact ⟨by simp [hl], by omega⟩
  · rintro a rfl; exact ⟨hb, A.lt⟩
end Go.Proofs.YtjpfndpcmoklfaaGreatDoor
