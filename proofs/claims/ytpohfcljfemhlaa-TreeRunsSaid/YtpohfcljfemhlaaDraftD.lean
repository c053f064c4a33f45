/- A call on a draft of a view, taken whole or not at all: the walks. -/
import Derived.Test.YtpohfcljfemhlaaDraftW
import Derived.Test.YtpohfcljfemhlaaDraftS
namespace Go.Proofs.Ytpohfcljfemhlaa
open Go Go.Ae
set_option maxRecDepth 100000

variable {g h : AH} {L R : List SP}

theorem getC_some : ∀ {l : List Cl} {c : Cl}, UnC l → c ∈ l → getC c.1 l = some c.2 := by
  intro l
  induction l with
  | nil => intro c _ h; cases h
  | cons d l ih =>
    intro c hu hc
    unfold UnC at hu
    rw [List.map_cons, List.nodup_cons] at hu
    unfold getC
    rcases List.mem_cons.1 hc with rfl | hc
    · rw [if_pos rfl]
    · rw [if_neg (fun h => hu.1 (by rw [h]; exact List.mem_map.2 ⟨c, hc, rfl⟩))]
      exact ih hu.2 hc
theorem vknown_ok {n : Nat} (hn : 1 ≤ n) {v : Nat} {M : VM} (H : HS g h (ViewC v M :: R)) (O : OkV M) :
    wp (callT tab rtab n (.fn 49 [] []) [.ptr v 0] h) fun r h' => HS g h' (SliC 88 2 M.K.length r (M.K.flatMap encC) :: ViewC v M :: R) := by
  (refine ww_fn (g := W49) rfl (by omega) fun k hk => ?_; show wp (S49 (callT tab rtab k) _ _) _; unfold S49; try simp only [Int.ofNat_eq_natCast])
  obtain ⟨fv, ov, q, e, H⟩ := ViewC.E H
  have hkl := O.klen
  with_reducible (refine ww_nil ?_; refine ww_field0 ?_; refine ww_ldH (by assumption) .here (by with_unfolding_all exact rfl) ?_; refine ww_lenH (by assumption) (.there (.there .here)) ?_)
  refine ww_makeH (ln := 0) (cp := M.K.length) (sz := 2) H rfl (by omega) (by omega) fun kv h1 H1 => ?_
  rw [Nat.zero_mul, List.take_zero] at H1
  with_reducible (refine ww_nil ?_; refine ww_field0 ?_; refine ww_ldH (by assumption) (.there .here) (by with_unfolding_all exact rfl) ?_; refine ww_lenH (by assumption) (.there (.there (.there .here))) ?_)
  refine ww_iter (fun m s h' => ∃ (i : Nat) (kv : AV), s = (.int .i64 (i : Int), .int .i64 (M.K.length : Int), ov, kv, .ptr v 0, ()) ∧ i ≤ M.K.length ∧ m = M.K.length - i ∧
    HS g h' (SliC 88 2 i kv ((M.K.take i).flatMap encC) :: ObjC v [fv, ov, .ptr q 0, .int .i64 M.need] :: SliC e 2 M.sz fv ((factsM M.sz M.K).flatMap encF) ::
      SliC 3 1 M.K.length ov (M.K.map fun c => .int .i64 c.1) :: LgC q M.most M.lv :: R))
    ?_ (m := M.K.length) (by show _ < 1000000000; omega) ⟨0, kv, rfl, by omega, by omega, by rw [List.take_zero]; exact H1⟩
  clear H H1
  rintro m ih s h2 hih ⟨i, kv, rfl, hi, rfl, H⟩
  dsimp only
  by_cases hlt : i < M.K.length
  · have hci : M.K[i]? = some M.K[i] := List.getElem?_eq_getElem hlt
    have hin := O.ins M.K[i] (List.getElem_mem hlt)
    have hg := getC_some O.un (List.getElem_mem hlt)
    have hnext : M.K.take (i + 1) = M.K.take i ++ [M.K[i]] := List.take_succ_eq_append_getElem hlt
    generalize hc : M.K[i] = c at *
    obtain ⟨p, x⟩ := c
    dsimp only at hin hg
    obtain ⟨p, rfl⟩ : ∃ j : Nat, p = (j : Int) := ⟨p.toNat, by omega⟩
    with_reducible (refine ww_lssT (by omega) ?_; refine ww_condT ?_)
    refine ww_idx1 (H.sl (.there (.there (.there .here)))) (x := .int .i64 (p : Int)) (by rw [List.getElem?_map, hci]; rfl) ?_
    with_reducible (refine ww_nil ?_; refine ww_field0 ?_; refine ww_ldH (by assumption) (.there .here) (by with_unfolding_all exact rfl) ?_)
    have hf : factM M.K p = (x, true) := by unfold factM; rw [hg]
    refine ww_idxF (x := .int .u64 x) (H.sl (.there (.there .here))) (by omega) (by omega) (by rw [flat_get (sz := 2) encF (fun _ => rfl) _ _ _ (by omega), factsM_get (by omega), hf]; rfl) ?_
    with_reducible (refine ww_build (by with_unfolding_all exact rfl) ?_)
    refine ww_buildSH (n := 1) (l := [.int .i64 (p : Int), .int .u64 x]) (sz := 2) H rfl rfl rfl rfl fun v5 h5 H5 => ?_
    refine ww_appH (H5.sel (.there .here)) (H5.sl .here) (by omega) (by omega) rfl fun v6 h6 H6 => ?_
    with_reducible (refine ww_addI (by omega) ?_)
    refine hih (M.K.length - (i + 1)) _ _ (by omega) ⟨i + 1, v6, rfl, by omega, rfl, ?_⟩
    rw [hnext, List.flatMap_append]
    exact H6.sub (.cons .here (.drop .refl))
  · obtain rfl : i = M.K.length := by omega
    with_reducible (refine ww_lssF (by omega) ?_; refine ww_condF ?_; refine ww_leave ?_)
    rw [List.take_length] at H
    have H2 : HS g h2 (ObjC v [fv, ov, .ptr q 0, .int .i64 M.need] :: SliC e 2 M.sz fv ((factsM M.sz M.K).flatMap encF) :: SliC 3 1 M.K.length ov (M.K.map fun c => .int .i64 c.1) :: LgC q M.most M.lv ::
      SliC 88 2 M.K.length kv (M.K.flatMap encC) :: R) := H.sub (.cons (.there .here) (.cons (.there .here) (.cons (.there .here) (.cons (.there .here) .refl))))
    exact ww_ret ((ViewC.I H2).sub (.cons (.there .here) .refl))

theorem dof_ok {n : Nat} (hn : 11 ≤ n) {v : Nat} {M : VM} (H : HS g h (ViewC v M :: R)) (O : OkV M) (hlv : mergeL M.lv = []) :
    wp (callT tab rtab n (.fn 31 [] []) [.ptr v 0] h) fun r h' => ∃ q, r = .ptr q 0 ∧ HS g h' (ViewC q (lvV M.sz M.K [] [] 0) :: ViewC v M :: R) := by
  (refine ww_fn (g := W31) rfl (by omega) fun k hk => ?_; show wp (S31 (callT tab rtab k) _ _) _; unfold S31; try simp only [Int.ofNat_eq_natCast])
  have hlo := O.lo
  have hhi := O.hi
  have hkl := O.klen
  refine ww_call (vsize_ok (by omega) H) ?_
  rintro _ h1 ⟨rfl, rfl⟩
  refine ww_call (vnew_ok (by omega) H) ?_
  rintro _ h2 ⟨q, rfl, H2⟩
  have e0 : newV (M.sz : Int) ((96 : Nat) : Int) = lvV M.sz [] [] [] 0 := by
    unfold newV lvV
    rw [show szZ (M.sz : Int) = M.sz by unfold szZ; omega]
    rfl
  rw [e0] at H2
  refine ww_call (vcells_ok (by omega) (H2.sel (.there .here)) O) fun cv h3 H3 => ?_
  rw [hlv] at H3
  refine ww_lenH H3 .here ?_
  rw [show ([] : List Cl).length = 0 from rfl]
  refine ww_iter (fun m s h' => m = 0 ∧ s = (.int .i64 ((0 : Nat) : Int), .int .i64 ((0 : Nat) : Int), cv, .ptr q 0, .ptr v 0, ()) ∧ h' = h3) ?_ (m := 0) (by show 0 < 1000000000; omega) ⟨rfl, rfl, rfl⟩
  rintro m ih s h4 hih ⟨rfl, rfl, rfl⟩
  clear hih
  dsimp only
  refine ww_lssF (by omega) (ww_condF ?_)
  refine ww_call (vknown_ok (by omega) (H3.sel (.there .here)) O) fun kv h5 H5 => ?_
  refine ww_lenH H5 .here ?_
  refine ww_iter (fun m s h' => ∃ i : Nat, s = (.int .i64 (i : Int), .int .i64 (M.K.length : Int), kv, .ptr q 0, ()) ∧ i ≤ M.K.length ∧ m = M.K.length - i ∧
    HS g h' (ViewC q (lvV M.sz (M.K.take i) [] [] 0) :: SliC 88 2 M.K.length kv (M.K.flatMap encC) :: ViewC v M :: R))
    ?_ (m := M.K.length) (by show _ < 1000000000; omega) ⟨0, rfl, by omega, by omega, by rw [List.take_zero]; exact H5.sub (.cons (.there (.there (.there .here))) (.cons .here (.cons .here (.drop .refl))))⟩
  clear H H2 H3 H5
  rintro m ih s h6 hih ⟨i, rfl, hi, rfl, H⟩
  dsimp only
  by_cases hlt : i < M.K.length
  · have hci : M.K[i]? = some M.K[i] := List.getElem?_eq_getElem hlt
    have hin := O.ins M.K[i] (List.getElem_mem hlt)
    have hun := O.un
    have hnext : M.K.take (i + 1) = M.K.take i ++ [M.K[i]] := List.take_succ_eq_append_getElem hlt
    have hnone : getC M.K[i].1 (M.K.take i) = none := by
      rw [getC_mem]
      intro hm
      unfold UnC at hun
      have e : M.K.map (·.1) = (M.K.take i).map (·.1) ++ (M.K.drop i).map (·.1) := by rw [← List.map_append, List.take_append_drop]
      rw [e] at hun
      refine (List.nodup_append.1 hun).2.2 _ hm M.K[i].1 ?_ rfl
      rw [List.drop_eq_getElem_cons hlt]
      exact List.mem_cons_self ..
    have hO : OkV (lvV M.sz (M.K.take i) [] [] 0) := by
      refine ⟨hlo, hhi, newL_ok (show (96 : Nat) ≤ 96 by omega), fun c hc => O.ins c (List.mem_of_mem_take hc), ?_, fun x hx => by rw [List.mem_singleton.1 hx]; show (0 : Nat) < 100000; omega⟩
      have e : M.K.map (·.1) = (M.K.take i).map (·.1) ++ (M.K.drop i).map (·.1) := by rw [← List.map_append, List.take_append_drop]
      have hun2 : (M.K.map (·.1)).Nodup := hun
      rw [e] at hun2
      exact (List.nodup_append.1 hun2).1
    have hkn : knowV (lvV M.sz (M.K.take i) [] [] 0) M.K[i].1 M.K[i].2 = (0, lvV M.sz (M.K.take i ++ [M.K[i]]) [] [] 0) := by
      unfold knowV
      rw [if_pos (show 1 ≤ M.K[i].1 ∧ M.K[i].1 < ((lvV M.sz (M.K.take i) [] [] 0).sz : Int) from hin)]
      rw [show (lvV M.sz (M.K.take i) [] [] 0).K = M.K.take i from rfl, hnone]; rfl
    have hrow : ((M.K.flatMap encC).drop (i * 2)).take 2 = encC M.K[i] := enc_row (sz := 2) (fun _ => rfl) hci
    generalize M.K[i] = c at *
    obtain ⟨p, x⟩ := c
    with_reducible (refine ww_lssT (by omega) ?_; refine ww_condT ?_)
    refine ww_idxN (H.sl (.there .here)) hlt (by omega) hrow ?_
    refine ww_boxA H rfl fun b h7 H7 => ?_
    refine ww_stH H7 (b := b) .here rfl (by simp [encC]) rfl fun h8 H8 => ?_
    have H8 : HS g h8 (ObjC b [.int .i64 p, .int .u64 x] :: ViewC q (lvV M.sz (M.K.take i) [] [] 0) :: SliC 88 2 M.K.length kv (M.K.flatMap encC) :: ViewC v M :: R) := H8
    with_reducible (refine ww_field0 ?_; refine ww_ldH (by assumption) .here (by with_unfolding_all exact rfl) ?_; refine ww_field0 ?_; refine ww_ldH (by assumption) .here (by with_unfolding_all exact rfl) ?_)
    refine ww_call (vknow_ok (by omega) (H8.sel (.there .here)) hO) ?_
    rintro _ h9 ⟨_, H9⟩
    rw [hkn] at H9
    with_reducible (refine ww_addI (by omega) ?_)
    refine hih (M.K.length - (i + 1)) _ _ (by omega) ⟨i + 1, rfl, by omega, rfl, ?_⟩
    rw [hnext]
    exact H9.sub (.cons .here (.drop .refl))
  · obtain rfl : i = M.K.length := by omega
    rw [List.take_length] at H
    with_reducible (refine ww_lssF (by omega) ?_; refine ww_condF ?_; refine ww_leave ?_)
    exact ww_ret ⟨q, rfl, H.sub (.cons .here (.drop .refl))⟩

/-- what a call on a view comes to -/
def doR {α : Type} (M : VM) (act : Act α) : Int × VM :=
  if (runA act ⟨lvV M.sz M.K [] [] 0, 0, 0⟩).2.err = 11 then ((readV M (runA act ⟨lvV M.sz M.K [] [] 0, 0, 0⟩).2.M.need).1.2, (readV M (runA act ⟨lvV M.sz M.K [] [] 0, 0, 0⟩).2.M.need).2)
  else if (runA act ⟨lvV M.sz M.K [] [] 0, 0, 0⟩).2.err ≠ 0 then ((runA act ⟨lvV M.sz M.K [] [] 0, 0, 0⟩).2.err, M)
  else if (takeV M (mergeL (runA act ⟨lvV M.sz M.K [] [] 0, 0, 0⟩).2.M.lv)).1 ≠ 0 then takeV M (mergeL (runA act ⟨lvV M.sz M.K [] [] 0, 0, 0⟩).2.M.lv)
  else (0, (freesL (runA act ⟨lvV M.sz M.K [] [] 0, 0, 0⟩).2.M.lv).foldl freeV (takeV M (mergeL (runA act ⟨lvV M.sz M.K [] [] 0, 0, 0⟩).2.M.lv)).2)
theorem merge_len : ∀ {lv : List LvM} {out : List Cl}, (lv.foldl (fun out x => putsC x.1 out) out).length ≤ out.length + heldL lv := by
  intro lv
  induction lv with
  | nil => intro out; exact Nat.le_refl _
  | cons x r ih =>
    intro out
    have h1 := ih (out := putsC x.1 out)
    have h2 := puts_len (cs := out) (l := x.1)
    rw [heldL_cons]
    show (r.foldl _ (putsC x.1 out)).length ≤ _
    omega
theorem frees_len : ∀ {lv : List LvM}, (freesL lv).length = frS lv := by
  intro lv
  induction lv with
  | nil => rfl
  | cons x r ih =>
    unfold freesL at ih ⊢
    rw [List.reverse_cons, List.flatMap_append, List.length_append, ih, frS_cons]
    simp
    omega

theorem ddo_ok {α : Type} {n : Nat} (hn : 13 ≤ n) {v : Nat} {M : VM} {root : Int} {clo : AV} {act : Act α} {R1 : List SP} {R2 : Option α → List SP} (H : HS g h (ViewC v M :: R1)) (G : GoodV M) (hlv : M.lv = [([], [])]) (hr : 6 ≤ root ∧ root < 14)
    (hc : ∀ m h1 d, n = m + 1 → HS g h1 (DrC d ⟨lvV M.sz M.K [] [] 0, 0, 0⟩ :: ViewC v M :: R1) → wp (callT tab rtab m clo [.ptr d 0] h1) fun _ h2 => ∃ (o : Option α) (D' : DM), EqR (runA act ⟨lvV M.sz M.K [] [] 0, 0, 0⟩) (o, D') ∧ GoodD D' M.sz 10 ∧ HS g h2 (DrC d D' :: ViewC v M :: R2 o)) :
    wp (callT tab rtab n (.fn 13 [] []) [.ptr v 0, .int .i64 root, clo] h) fun r h' => r = .int .i64 (doR M act).1 ∧ HS g h' (ViewC v (doR M act).2 :: R2 (runA act ⟨lvV M.sz M.K [] [] 0, 0, 0⟩).1) := by
  (refine ww_fn (g := W13) rfl (by omega) fun k hk => ?_; show wp (S13 (callT tab rtab k) _ _ _ _) _; unfold S13; try simp only [Int.ofNat_eq_natCast])
  have hm0 : mergeL M.lv = [] := by rw [hlv]; rfl
  with_reducible (refine ww_lssF (by omega) ?_; refine ww_joinS ?_; (try dsimp only); refine ww_wantFF ?_; (try dsimp only); refine ww_geqF (by omega) ?_; refine ww_pickF ?_; refine ww_condF ?_)
  refine ww_call (dof_ok (by omega) H G.ok hm0) ?_
  rintro _ h1 ⟨q, rfl, H1⟩
  refine ww_build (l := [.ptr q 0, .int .i64 ((0 : Nat) : Int), .int .i64 ((0 : Nat) : Int)]) rfl ?_
  refine ww_boxA H1 rfl fun d h2 H2 => ?_
  have H2 := DrC.I (D := ⟨lvV M.sz M.K [] [] 0, 0, 0⟩) H2
  refine ww_call (hc k h2 d hk H2) ?_
  rintro _ h3 ⟨o, D, ⟨e1, e2, e3⟩, GD, H3⟩
  clear H1 H2
  have hD : doR M act = if D.err = 11 then ((readV M D.M.need).1.2, (readV M D.M.need).2) else if D.err ≠ 0 then (D.err, M) else if (takeV M (mergeL D.M.lv)).1 ≠ 0 then takeV M (mergeL D.M.lv) else (0, (freesL D.M.lv).foldl freeV (takeV M (mergeL D.M.lv)).2) := by
    unfold doR
    rw [e2, e3]
  rw [e1]
  dsimp only at e1 ⊢
  generalize doR M act = X at *
  clear e1 e2 e3 hc
  have H30 := H3
  obtain ⟨q, H3⟩ := DrC.E H3
  with_reducible (refine ww_nil ?_; refine ww_field0 ?_; refine ww_ldH (by assumption) .here (by with_unfolding_all exact rfl) ?_)
  by_cases c1 : D.err = 11
  · rw [if_pos c1] at hD
    subst hD
    with_reducible (refine ww_eqlT (by omega) ?_; refine ww_condT ?_; refine ww_nil ?_; refine ww_field0 ?_; refine ww_ldH (by assumption) .here (by with_unfolding_all exact rfl) ?_)
    refine ww_call (vneed_ok (by omega) (H3.sel (.there .here))) ?_
    rintro _ h3 ⟨rfl, rfl⟩
    refine ww_call (vread_ok (by omega) (H3.sel (.there (.there .here))) G.ok) ?_
    rintro _ h4 ⟨rfl, H4⟩
    with_reducible (refine ww_extract (by with_unfolding_all exact rfl) ?_; refine ww_extract (by with_unfolding_all exact rfl) ?_)
    exact ww_ret ⟨rfl, H4.sub (.cons .here (.drop (.drop .refl)))⟩
  rw [if_neg c1] at hD
  with_reducible (refine ww_eqlF (by omega) ?_; refine ww_condF ?_; refine ww_nil ?_; refine ww_field0 ?_; refine ww_ldH (by assumption) .here (by with_unfolding_all exact rfl) ?_)
  by_cases c2 : D.err = 0
  rotate_left
  · rw [if_pos c2] at hD
    subst hD
    with_reducible (refine ww_neqT (by omega) ?_; refine ww_condT ?_; refine ww_nil ?_; refine ww_field0 ?_; refine ww_ldH (by assumption) .here (by with_unfolding_all exact rfl) ?_)
    exact ww_ret ⟨rfl, H3.sub (.cons (.there (.there .here)) (.drop (.drop .refl)))⟩
  rw [if_neg (by omega)] at hD
  with_reducible (refine ww_neqF (by omega) ?_; refine ww_condF ?_; refine ww_nil ?_; refine ww_field0 ?_; refine ww_ldH (by assumption) .here (by with_unfolding_all exact rfl) ?_)
  refine ww_call (vcells_ok (by omega) (H3.sel (.there .here)) GD.g.ok) fun cv h4 H4 => ?_
  have hml : (mergeL D.M.lv).length < 100000 := by
    have h1 := merge_len (lv := D.M.lv) (out := [])
    have h2 := GD.g.ok.lvs.held
    have h3 := GD.g.ok.lvs.le
    show ((D.M.lv.foldl (fun out x => putsC x.1 out) []).length) < _
    simp only [List.length_nil] at h1
    omega
  have hfl := frees_len (lv := D.M.lv)
  have hff := GD.fr
  refine ww_call (vtake_ok (by omega) (H4.sub (L' := ViewC v M :: SliC 88 2 (mergeL D.M.lv).length cv ((mergeL D.M.lv).flatMap encC) :: ViewC q D.M :: ObjC d [.ptr q 0, .int .i64 D.err, .int .i64 D.stp] :: R2 o) (.cons (.there (.there (.there .here))) (.cons .here (.cons .here (.cons .here .refl))))) G.ok (Rd.own .here) hml) ?_
  rintro _ h5 ⟨rfl, H5⟩
  by_cases c3 : (takeV M (mergeL D.M.lv)).1 = 0
  rotate_left
  · rw [if_pos c3] at hD
    subst hD
    refine ww_neqT c3 ?_
    with_reducible (refine ww_condT ?_)
    exact ww_ret ⟨rfl, H5.sub (.cons .here (.drop (.drop (.drop .refl))))⟩
  rw [if_neg (by omega)] at hD
  subst hD
  refine ww_neqF c3 ?_
  with_reducible (refine ww_condF ?_; refine ww_nil ?_; refine ww_field0 ?_; refine ww_ldH (by assumption) (.there (.there (.there .here))) (by with_unfolding_all exact rfl) ?_)
  refine ww_call (vfrees_ok (by omega) (H5.sel (.there (.there .here))) GD.g.ok) fun fv h6 H6 => ?_
  refine ww_lenH H6 .here ?_
  have hO := takeV_ok (cs := mergeL D.M.lv) G.ok
  have hfr0 : frS (takeV M (mergeL D.M.lv)).2.lv = 0 := by rw [frS_take, hlv]; rfl
  have hW : WdC (mergeL D.M.lv) → True := fun _ => trivial
  generalize (takeV M (mergeL D.M.lv)).2 = M1 at *
  generalize freesL D.M.lv = F at *
  refine ww_iter (fun m s h' => ∃ i : Nat, s = (.int .i64 (i : Int), .int .i64 (F.length : Int), fv, .ptr v 0, ()) ∧ i ≤ F.length ∧ m = F.length - i ∧ OkV ((F.take i).foldl freeV M1) ∧ (∀ x ∈ ((F.take i).foldl freeV M1).lv, x.2.length ≤ i) ∧
    HS g h' (ViewC v ((F.take i).foldl freeV M1) :: SliC 3 1 F.length fv (F.map (.int .i64)) :: R2 o))
    ?_ (m := F.length) (by show _ < 1000000000; omega) ⟨0, rfl, by omega, by omega, hO, (fun x hx => by have := fr_le (lv := M1.lv) (x := x) hx; omega), by rw [List.take_zero]; exact H6.sub (.cons (.there (.there .here)) (.cons .here (.drop (.drop (.drop .refl)))))⟩
  clear H3 H30 H4 H5 H6
  rintro m ih s h7 hih ⟨i, rfl, hi, rfl, hOi, hfi, H⟩
  dsimp only
  by_cases hlt : i < F.length
  · have hnext : (F.take (i + 1)).foldl freeV M1 = freeV ((F.take i).foldl freeV M1) F[i] := by rw [List.take_succ_eq_append_getElem hlt, List.foldl_append]; rfl
    with_reducible (refine ww_lssT (by omega) ?_; refine ww_condT ?_)
    refine ww_idx1 (H.sl (.there .here)) (x := .int .i64 F[i]) (by rw [List.getElem?_map, List.getElem?_eq_getElem hlt]; rfl) ?_
    refine ww_call (vfree_ok (by omega) H hOi) ?_
    intro _ h8 H8
    with_reducible (refine ww_addI (by omega) ?_)
    refine hih (F.length - (i + 1)) _ _ (by omega) ⟨i + 1, rfl, by omega, rfl, ?_, ?_, ?_⟩
    · rw [hnext]
      exact freeV_ok hOi fun x hx => by have := hfi x hx; omega
    · rw [hnext]
      intro x hx
      generalize (F.take i).foldl freeV M1 = M2 at *
      have hx : x ∈ freeL M2.lv F[i] := hx
      cases hl2 : M2.lv with
      | nil => rw [hl2] at hx; cases hx
      | cons y r =>
        rw [hl2] at hx hfi
        rcases List.mem_cons.1 hx with rfl | hx
        · have := hfi y (List.mem_cons_self ..)
          simp
          omega
        · have := hfi x (List.mem_cons_of_mem _ hx)
          omega
    · rw [hnext]; exact H8
  · obtain rfl : i = F.length := by omega
    with_reducible (refine ww_lssF (by omega) ?_; refine ww_condF ?_; refine ww_leave ?_)
    rw [List.take_length] at H
    exact ww_ret ⟨rfl, H.sub (.cons .here (.drop .refl))⟩
end Go.Proofs.Ytpohfcljfemhlaa
