/- Queues: what a call comes to, on words that are known or not: the plain law. -/
import Derived.Test.YthajhlachmgdoaaQueueA
namespace Go.Proofs.Ythajhlachmgdoaa.arenaParts
open Go Go.Ae arenaPlays
set_option maxRecDepth 100000

variable {zs : List Int} {α : Type}

theorem puts_nilR (C : List Cl) : putsC C [] = C := rfl
theorem put_new {p v : Int} : ∀ {l : List Cl}, p ∉ l.map (·.1) → putC p v l = l ++ [(p, v)] := by
  intro l
  induction l with
  | nil => intro _; rfl
  | cons d l ih =>
    intro h
    rw [List.map_cons, List.mem_cons, not_or] at h
    unfold putC
    rw [if_neg (fun e => h.1 e.symm), ih h.2]; rfl
theorem puts_new : ∀ {cs out : List Cl}, UnC (out ++ cs) → putsC out cs = out ++ cs := by
  intro cs
  induction cs with
  | nil => intro out _; show out = _; simp
  | cons c cs ih =>
    intro out h
    have hn : c.1 ∉ out.map (·.1) := by
      unfold UnC at h
      rw [List.map_append, List.nodup_append] at h
      intro hm
      exact h.2.2 _ hm c.1 (List.mem_map.2 ⟨c, List.mem_cons_self .., rfl⟩) rfl
    show putsC (putC c.1 c.2 out) cs = _
    rw [put_new hn, ih (by rw [List.append_assoc]; exact h), List.append_assoc]; rfl
theorem puts_nilL {C : List Cl} (h : UnC C) : putsC [] C = C := by
  have := puts_new (cs := C) (out := []) (by simpa using h)
  simpa using this
theorem fold_get {p : Int} : ∀ {C : List Cl} {w : Int}, UnC C → C.foldl (fun w c => if c.1 = p then c.2 else w) w = (getC p C).getD w := by
  intro C
  induction C with
  | nil => intro w _; rfl
  | cons c C ih =>
    intro w h
    unfold UnC at h
    rw [List.map_cons, List.nodup_cons] at h
    rw [List.foldl_cons, ih h.2, getC_cons]
    by_cases e : c.1 = p
    · rw [if_pos e, if_pos e]
      have : getC p C = none := getC_mem.2 (by rw [← e]; exact h.1)
      rw [this]; rfl
    · rw [if_neg e, if_neg e]
theorem Wd.nil {sz : Nat} (h : zs.length = sz) : Wd zs sz [] zs := ⟨h, fun _ _ _ => rfl⟩
/-- a view of so many words, with nothing written -/
abbrev Mv (K : List Cl) (nd : Int) : VM := lvV 256 K [] [] nd
theorem whole_mv (h : zs.length = 256) : wholeV zs 96 = Mv (kW zs) 0 := by
  unfold wholeV
  rw [h]; rfl
theorem ksub_whole (h : zs.length = 256) : KSub zs (kW zs) ∧ ∀ q : Int, 1 ≤ q → q < 256 → getC q (kW zs) ≠ none := by
  have hl : szZ zs.length = 256 := by rw [h]; rfl
  have hg : ∀ i : Nat, 0 < i → i < 256 → getC (i : Int) (kW zs) = some (wordAt zs i) := fun i h0 h1 => kW_getC zs h0 (by rw [hl]; exact h1)
  refine ⟨fun p x hp => ?_, fun q h1 h2 hn => ?_⟩
  · by_cases hr : 1 ≤ p ∧ p < 256
    · have := hg p.toNat (by omega) (by omega)
      rw [show ((p.toNat : Nat) : Int) = p by omega, hp] at this
      exact Option.some.inj this
    · have hnone : getC p (kW zs) = none := getC_mem.2 (by
        intro hm
        obtain ⟨c, hc, rfl⟩ := List.mem_map.1 hm
        obtain ⟨i, hi⟩ := List.getElem?_of_mem hc
        have hlt : i < (kW zs).length := (List.getElem?_eq_some_iff.1 hi).1
        rw [kW_len] at hlt
        rw [kW_get zs (by omega)] at hi
        cases hi
        dsimp only at hr
        omega)
      rw [hnone] at hp
      cases hp
  · have := hg q.toNat (by omega) (by omega)
    rw [show ((q.toNat : Nat) : Int) = q by omega, hn] at this
    cases this
theorem frees_fold (K C : List Cl) (nd : Int) : ∀ (F F0 : List Int), F.foldl freeV (lvV 256 K C F0 nd) = lvV 256 K C (F0 ++ F) nd := by
  intro F
  induction F with
  | nil => intro F0; rw [List.append_nil]; rfl
  | cons b F ih =>
    intro F0
    rw [List.foldl_cons]
    have e : freeV (lvV 256 K C F0 nd) b = lvV 256 K C (F0 ++ [b]) nd := rfl
    rw [e, ih, List.append_assoc]; rfl

theorem do_out {S : Int → Prop} {act : Act α} {Q : Option α → Int → List Int → List Int → Prop} (hz : zs.length = 256) (w : wpA 256 S act zs 0 [] 0 Q) :
    ∃ o e W' C' F', e ≠ 11 ∧ (e = 0 → o.isSome) ∧ Q o e W' F' ∧ Wd zs 256 C' W' ∧ UnC C' ∧ InC C' ∧ C'.length ≤ 96 ∧ (e = 0 → ∀ c ∈ C', S c.1) ∧ ∀ K nd, KSub zs K →
      ((∃ q, 1 ≤ q ∧ q < 256 ∧ S q ∧ getC q K = none ∧ doR (Mv K nd) act = (11, Mv K q)) ∨
        (doR (Mv K nd) act = (e, if e = 0 then lvV 256 K C' F' nd else Mv K nd) ∧ (runA act ⟨lvV 256 K [] [] 0, 0, 0⟩).1 = o)) := by
  obtain ⟨o, e, W', C', F', s', q1, q2, q3, q4, q5, q6, q7, q9, q8⟩ := sim_run (by omega) w (Wd.nil hz) (Nat.le_refl 0) List.nodup_nil (fun c hc => by cases hc) (by omega)
  refine ⟨o, e, W', C', F', q1, q2, q3, q4, q5, q6, q7, fun he c hc => (q9 he c hc).resolve_left (fun h => by cases h), fun K nd hK => ?_⟩
  rcases q8 K 0 hK with ⟨C'', F'', q, s'', h1, h2, h3, h4, h5⟩ | h1
  · refine .inl ⟨q, h2, h3, h4, h5, ?_⟩
    unfold doR
    rw [show (Mv K nd).sz = 256 from rfl, show (Mv K nd).K = K from rfl, h1]
    dsimp only
    rw [if_pos rfl]
    have hr := lv_read (sz := 256) (K := K) (C := []) (F := []) (nd := nd) (p := q) ⟨h2, h3⟩
    have hr : readV (Mv K nd) q = ((0, 11), Mv K q) := by
      rw [hr, show getC q ([] : List Cl) = none from rfl]
      dsimp only
      rw [h5]
    show ((readV (Mv K nd) q).1.2, (readV (Mv K nd) q).2) = _
    rw [hr]
  · refine .inr ⟨?_, by rw [h1]⟩
    unfold doR
    rw [show (Mv K nd).sz = 256 from rfl, show (Mv K nd).K = K from rfl, h1]
    dsimp only
    rw [if_neg q1]
    by_cases he : e = 0
    · rw [if_neg (by omega), if_pos he]
      have hm : mergeL (lvV 256 K C' F' 0).lv = C' := rfl
      have hf : freesL (lvV 256 K C' F' 0).lv = F' := by show [(C', F')].reverse.flatMap (·.2) = F'; simp
      have ht := lv_take (sz := 256) (K := K) (C := []) (F := []) (nd := nd) (cs := C') (by omega) (fun c hc => by have := q6 c hc; omega) (by simp; omega)
      rw [puts_nilL q5] at ht
      rw [hm, hf, ht]
      dsimp only
      rw [if_neg (by omega), frees_fold, List.nil_append, he]
    · rw [if_pos he, if_neg he]

/-- what is told of what was taken -/
def takeItem (e : Int) (o : Option (Int × Bool)) : Int × Int := if e = 0 then match o with | some (x, true) => (1, x) | some (x, false) => (0, x) | none => (0, 0) else (0, 0)
def callR (M : VM) (root what k : Int) : (Int × Int) × Int × VM :=
  if what = 7 then ((3, 0), doR M (pushA M.sz root k)) else (takeItem (doR M (takeAc M.sz root)).1 (runA (takeAc M.sz root) ⟨lvV M.sz M.K [] [] 0, 0, 0⟩).1, doR M (takeAc M.sz root))
/-- what is done on plain rows -/
def rowR (what k : Int) (row : List Int) : (Int × Int) × Bool × List Int := if what = 7 then ((3, 0), true, row ++ [k]) else match row with | [] => ((0, 0), false, []) | x :: r => ((1, x), true, r)

structure CallO (zs : List Int) (p hd : Int) (ns : List (Int × Int)) (p' hd' : Int) (ns' : List (Int × Int)) (what k : Int) (it : Int × Int) (e : Int) (C' : List Cl) (F' : List Int) : Prop where
  ne : e ≠ 11
  un : UnC C'
  ins : InC C'
  wd : e = 0 → WdC C'
  few : C'.length ≤ 96
  S : e = 0 → ∀ c ∈ C', SqP p' (ownQ hd' ns') c.1
  sm : ∀ K nd, KSub zs K → (doR (Mv K nd) (takeAc 256 p)).1 = 0 → (runA (takeAc 256 p) ⟨lvV 256 K [] [] 0, 0, 0⟩).1.isSome
  run : ∀ K nd, KSub zs K → ((∃ q, 1 ≤ q ∧ q < 256 ∧ SqP p' (ownQ hd' ns') q ∧ getC q K = none ∧ ∃ it', callR (Mv K nd) p what k = (it', 11, Mv K q)) ∨ callR (Mv K nd) p what k = (it, e, if e = 0 then lvV 256 K C' F' nd else Mv K nd))
  out : (e = 4 ∧ (256 : Int) < wordAt zs 5 + 40) ∨ (e = 0 ∧ wordAt zs 5 ≤ wordAt (applyZ zs C') 5 ∧ ((rowR what k (ns.map (·.2))).2.1 = true → it = (rowR what k (ns.map (·.2))).1) ∧ ((rowR what k (ns.map (·.2))).2.1 = false → it = (0, 0)) ∧
    ∃ hd2 ns2, (rowR what k (ns.map (·.2))).2.2 = ns2.map (·.2) ∧ ((F' = [] ∧ TwoQ (applyZ zs C') 256 [] p hd2 ns2 p' hd' ns') ∨ ∃ a, F' = [a] ∧ TwoQ (applyZ zs C') 256 [a] p hd2 ns2 p' hd' ns'))
theorem apply_wd {C' : List Cl} {W' : List Int} (hz : zs.length = 256) (hw : Wd zs 256 C' W') (hu : UnC C') {q : Nat} (h0 : 0 < q) (h1 : q < 256) : wordAt (applyZ zs C') q = wordAt W' q := by
  rw [arenaParts.apply_at hz (by omega) (by omega) C' h0 h1, fold_get hu, hw.2 q h0 h1]
theorem cells_wd {C' : List Cl} {W' : List Int} (hw : Wd zs 256 C' W') (hu : UnC C') (hi : InC C') (hn : ∀ z ∈ W', 0 ≤ z ∧ z < 18446744073709551616) : WdC C' := by
  intro c hc
  have h1 := hi c hc
  have h2 := hw.2 c.1.toNat (by omega) (by omega)
  rw [show ((c.1.toNat : Nat) : Int) = c.1 by omega, getC_some hu hc] at h2
  have h3 := wordAt_b hn c.1.toNat
  rw [h2] at h3
  exact h3
theorem call_out {p hd p' hd' what k : Int} {ns ns' : List (Int × Int)} (Z : TwoQ zs 256 [] p hd ns p' hd' ns') (hw : what = 7 ∨ what = 8) (hk : 0 ≤ k ∧ k < 12) : ∃ it e C' F', CallO zs p hd ns p' hd' ns' what k it e C' F' := by
  have hz := Z.H.size.2.2
  obtain ⟨ot, et, Wt, Ct, Ft, t1, t2, t3, t4, t5, t6, t96, t7, t8⟩ := do_out hz (take_wp Z)
  have hsm : ∀ K nd, KSub zs K → (doR (Mv K nd) (takeAc 256 p)).1 = 0 → (runA (takeAc 256 p) ⟨lvV 256 K [] [] 0, 0, 0⟩).1.isSome := by
    intro K nd hK h0
    rcases t8 K nd hK with ⟨q, _, _, _, _, h⟩ | ⟨h, h2⟩
    · rw [h] at h0; cases h0
    · rw [h2]
      rw [h] at h0
      exact t2 h0
  rcases hw with rfl | rfl
  · obtain ⟨o, e, W', C', F', q1, q2, q3, q4, q5, q6, q96, q7, q8⟩ := do_out hz (push_wp Z (x := k) (by omega))
    have hnn : e = 0 → ∀ z ∈ W', 0 ≤ z ∧ z < 18446744073709551616 := by
      intro he
      rcases q3 with ⟨_, _, _, _, _, _, Z'⟩ | ⟨_, h, _⟩
      · exact Z'.H.nn
      · omega
    refine ⟨(3, 0), e, C', F', q1, q5, q6, fun he => cells_wd q4 q5 q6 (hnn he), q96, q7, hsm, fun K nd hK => ?_, ?_⟩
    · unfold callR
      rw [if_pos rfl, show (Mv K nd).sz = 256 from rfl]
      rcases q8 K nd hK with ⟨q, h1, h2, h3, h4, h5⟩ | ⟨h, _⟩
      · exact .inl ⟨q, h1, h2, h3, h4, _, by rw [h5]⟩
      · exact .inr (by rw [h])
    · rcases q3 with ⟨_, rfl, rfl, g5, hd2, n, Z'⟩ | ⟨_, rfl, h⟩
      · refine .inr ⟨rfl, by rw [apply_wd hz q4 q5 (by omega) (by omega)]; exact g5, fun _ => rfl, fun h => (by cases h), hd2, ns ++ [(n, k)], by simp [rowR], .inl ⟨rfl, ?_⟩⟩
        exact Z'.congr (by rw [applyZ_len, hz]; rfl) (applyZ_nn Z.H.nn (cells_wd q4 q5 q6 Z'.H.nn)) fun q h0 h1 => apply_wd hz q4 q5 h0 h1
      · exact .inl ⟨rfl, by omega⟩
  · obtain ⟨rfl, g5, t3⟩ := t3
    have hnn : ∀ z ∈ Wt, 0 ≤ z ∧ z < 18446744073709551616 := by
      rcases t3 with ⟨_, _, _, rfl⟩ | ⟨_, _, _, _, _, _, Z'⟩
      · exact Z.H.nn
      · exact Z'.H.nn
    refine ⟨takeItem 0 ot, 0, Ct, Ft, t1, t5, t6, fun _ => cells_wd t4 t5 t6 hnn, t96, t7, hsm, fun K nd hK => ?_, ?_⟩
    · unfold callR
      rw [if_neg (by omega), show (Mv K nd).sz = 256 from rfl, show (Mv K nd).K = K from rfl]
      rcases t8 K nd hK with ⟨q, h1, h2, h3, h4, h5⟩ | ⟨h, h6⟩
      · exact .inl ⟨q, h1, h2, h3, h4, _, by rw [h5]⟩
      · exact .inr (by rw [h, h6])
    · refine .inr ⟨rfl, by rw [apply_wd hz t4 t5 (by omega) (by omega)]; exact g5, ?_⟩
      have hcg : ∀ {fr : List Int} {hd2 : Int} {ns2 : List (Int × Int)}, TwoQ Wt 256 fr p hd2 ns2 p' hd' ns' → TwoQ (applyZ zs Ct) 256 fr p hd2 ns2 p' hd' ns' := fun Z' =>
        Z'.congr (by rw [applyZ_len, hz]; rfl) (applyZ_nn Z.H.nn (cells_wd t4 t5 t6 hnn)) fun q h0 h1 => apply_wd hz t4 t5 h0 h1
      rcases t3 with ⟨rfl, rfl, rfl, rfl⟩ | ⟨a, x, ns2, rfl, rfl, rfl, Z'⟩
      · exact ⟨fun h => (by cases h), fun _ => rfl, hd, [], rfl, .inl ⟨rfl, hcg Z⟩⟩
      · exact ⟨fun _ => rfl, fun h => (by cases h), hd, ns2, rfl, .inr ⟨a, rfl, hcg Z'⟩⟩

/-- a call that only reads -/
def noT : Act α → Prop
  | .ret _ => True
  | .fail _ => True
  | .read _ k => ∀ x, noT (k x)
  | .take _ _ => False
  | .note _ _ => False
  | .step k => noT k
theorem readV_lv {M : VM} {p : Int} : (readV M p).2.lv = M.lv := by
  unfold readV
  repeat' split
  all_goals rfl
theorem noT_run : ∀ {a : Act α} {D : DM}, noT a → (runA a D).2.M.lv = D.M.lv := by
  intro a
  induction a with
  | ret a => intro D _; rfl
  | fail e => intro D _; unfold runA; dsimp only; split <;> rfl
  | read p k ih =>
    intro D h
    unfold runA
    split
    · rfl
    · split
      · rw [ih _ (h _)]; exact readV_lv
      · exact readV_lv
  | take cs k ih => intro D h; cases h
  | note b k ih => intro D h; cases h
  | step k ih =>
    intro D h
    unfold runA
    split
    · rfl
    · split
      · rfl
      · exact ih h
theorem noT_place {p : Int} {k : Int → Act α} (h : ∀ x, noT (k x)) : noT (placeA p k) := by
  intro x
  dsimp only
  split
  · trivial
  · exact h x
theorem noT_all (p : Int) : noT (allA p) := by
  refine noT_place fun hd => ?_
  split
  · trivial
  refine noT_place fun a => ?_
  have key : ∀ (m : Nat) (a : Int) (acc : List Int), noT (allL m a acc) := by
    intro m
    induction m with
    | zero => intro a acc; unfold allL; split <;> trivial
    | succ m ih =>
      intro a acc
      rw [allL_s]
      split
      · trivial
      · intro x
        exact noT_place fun nx => ih nx _
  exact key _ _ _
theorem all_out {p hd p' hd' : Int} {ns ns' : List (Int × Int)} {fr : List Int} (Z : TwoQ zs 256 fr p hd ns p' hd' ns') : doR (Mv (kW zs) 0) (allA p) = (0, Mv (kW zs) 0) ∧ (runA (allA p) ⟨lvV 256 (kW zs) [] [] 0, 0, 0⟩).1 = some (ns.map (·.2)) := by
  have hz := Z.H.size.2.2
  obtain ⟨k1, k2⟩ := ksub_whole hz
  obtain ⟨o, e, W', C', F', q1, q2, ⟨q3, q10⟩, q4, q5, q6, q96, q7, q8⟩ := do_out (S := fun _ => True) (Q := fun o e _ _ => o = some (ns.map (·.2)) ∧ e = 0) hz (all_wp Z trivial (fun _ _ => ⟨trivial, trivial⟩) ⟨rfl, rfl⟩)
  subst q10
  rcases q8 (kW zs) 0 k1 with ⟨q, h1, h2, _, h4, _⟩ | ⟨h, h2⟩
  · exact absurd h4 (k2 q h1 h2)
  · rw [if_pos rfl] at h
    refine ⟨?_, h2.trans q3⟩
    rw [h]
    have hn := noT_run (D := ⟨lvV 256 (kW zs) [] [] 0, 0, 0⟩) (noT_all p)
    obtain ⟨o2, e2, W2, C2, F2, s2, _, _, _, _, _, _, _, _, r8⟩ := sim_run (by omega) (all_wp (S := fun _ => True) (Q := fun o e _ _ => o = some (ns.map (·.2)) ∧ e = 0) Z trivial (fun _ _ => ⟨trivial, trivial⟩) ⟨rfl, rfl⟩) (Wd.nil hz) (Nat.le_refl 0) List.nodup_nil (fun c hc => by cases hc) (by omega)
    have hd : doR (Mv (kW zs) 0) (allA p) = (0, lvV 256 (kW zs) C' F' 0) := h
    have hd2 : doR (Mv (kW zs) 0) (allA p) = (0, Mv (kW zs) 0) := by
      rcases r8 (kW zs) 0 k1 with ⟨_, _, q, _, _, g1, g2, _, g4⟩ | r8
      · exact absurd g4 (k2 q g1 g2)
      · rw [r8] at hn
        have hcf : C2 = [] ∧ F2 = [] := by
          have hn : [(C2, F2)] = [(([] : List Cl), ([] : List Int))] := hn
          simp at hn; exact hn
        obtain ⟨rfl, rfl⟩ := hcf
        have he2 : e2 = 0 := by
          unfold doR at hd
          rw [show (Mv (kW zs) 0).sz = 256 from rfl, show (Mv (kW zs) 0).K = kW zs from rfl, r8] at hd
          dsimp only at hd
          by_cases h11 : e2 = 11
          · omega
          · rw [if_neg h11] at hd
            by_cases h0 : e2 = 0
            · exact h0
            · rw [if_pos h0] at hd
              have := congrArg Prod.fst hd
              exact absurd this h0
        subst he2
        unfold doR
        rw [show (Mv (kW zs) 0).sz = 256 from rfl, show (Mv (kW zs) 0).K = kW zs from rfl, r8]
        dsimp only
        rw [if_neg (by omega), if_neg (by omega)]
        have hm : mergeL (lvV 256 (kW zs) [] [] 0).lv = [] := rfl
        have hf : freesL (lvV 256 (kW zs) [] [] 0).lv = [] := rfl
        have ht := lv_take (sz := 256) (K := kW zs) (C := []) (F := []) (nd := 0) (cs := []) (by omega) (fun c hc => by cases hc) (by simp)
        rw [hm, hf, ht]
        rfl
    rw [hd2] at hd
    exact hd.symm
end Go.Proofs.Ythajhlachmgdoaa.arenaParts
