/- Lemmas for 'quietus/quietuslaw30.JudgeParts': JudgeParts comes to true for every argument: its own walk. No condition. -/
import Derived.Test.YtcmjgcfkhommkaaGreatDoorJudgePartsM1
namespace Go.Proofs.YtcmjgcfkhommkaaGreatDoor.judgeParts
open Go Go.Ae arenaPlays arenaParts
set_option maxRecDepth 100000

variable {g h : AH} {L R : List SP}
variable {zs sts bytes : List Int} {bs : List Bk} {ls : Int → List Int}

theorem ite_iff {p q : Prop} [Decidable p] [Decidable q] (h : p ↔ q) : (if p then 1 else 0 : Nat) = if q then 1 else 0 := by
  by_cases hp : p
  · rw [if_pos hp, if_pos (h.1 hp)]
  · rw [if_neg hp, if_neg fun hq => hp (h.2 hq)]
theorem cnt_nodup {l : List Int} {x : Int} (h : l.Nodup) : l.count x = if x ∈ l then 1 else 0 := by
  induction l with
  | nil => simp
  | cons a l ih =>
    rw [List.nodup_cons] at h
    rw [List.count_cons, ih h.2]
    by_cases e : a = x
    · subst e; rw [if_neg h.1]; simp
    · have e2 : ¬ x = a := fun h => e h.symm
      by_cases e3 : x ∈ l <;> simp [e, e2, e3]
def isRest (sts : List Int) (b : Bk) : Bool := decide (wordAt sts b.1.toNat = 2)
theorem rest_good {T : Nat} (P : PartS False zs sts T bs ls) {gs : List RstT} (hg : gs.map (·.1) = (bs.filter (isRest sts)).map (·.1)) : partsP zs [gs] = true := by
  have hats : atsT [gs] = (bs.filter (isRest sts)).map (·.1) := by rw [← hg]; simp [atsT]
  rw [partsP_s P.blocks P.lists, partsB_e, hats]
  have hfl : [ls 1, ls 2, ls 3, ls 4].flatten = ls 1 ++ (ls 2 ++ (ls 3 ++ ls 4)) := by simp
  rw [hfl]
  have hnd : ((bs.filter (isRest sts)).map (·.1)).Nodup := P.tile.nodup.sublist ((List.filter_sublist).map _)
  have hlc : ∀ b ∈ bs, ∀ d : Int, 1 ≤ d → d ≤ 4 → (ls d).count b.1 = if d = b.2 ∧ wordAt sts b.1.toNat = 3 then 1 else 0 := by
    intro b hb d h1 h2
    rw [cnt_nodup (P.nodup d)]
    refine ite_iff ?_
    rw [P.listed d h1 h2]
    constructor
    · rintro ⟨h3, h4⟩; exact ⟨P.uniq h3 hb, h4⟩
    · rintro ⟨rfl, h4⟩; exact ⟨hb, h4⟩
  have hrc : ∀ b ∈ bs, ((bs.filter (isRest sts)).map (·.1)).count b.1 = if wordAt sts b.1.toNat = 2 then 1 else 0 := by
    intro b hb
    rw [cnt_nodup hnd]
    refine ite_iff ?_
    constructor
    · intro h
      obtain ⟨b', hb', e⟩ := List.mem_map.1 h
      have := (List.mem_filter.1 hb').2
      unfold isRest at this
      rw [e] at this
      exact of_decide_eq_true this
    · intro h
      exact List.mem_map.2 ⟨b, List.mem_filter.2 ⟨hb, decide_eq_true h⟩, rfl⟩
  rw [Bool.and_eq_true, List.all_eq_true, List.all_eq_true]
  refine ⟨?_, ?_⟩
  · intro b' hb'
    obtain ⟨b, hb, rfl⟩ := List.mem_map.1 hb'
    have hc := (P.tile.mem b hb).2.1
    have hs := P.st b hb
    unfold blkB told1
    dsimp only
    rw [List.count_append, List.count_append, List.count_append, List.count_append, hlc b hb 1 (by omega) (by omega), hlc b hb 2 (by omega) (by omega), hlc b hb 3 (by omega) (by omega), hlc b hb 4 (by omega) (by omega), hrc b hb]
    have h3 : wordAt sts b.1.toNat = 1 ∨ wordAt sts b.1.toNat = 2 ∨ wordAt sts b.1.toNat = 3 := by omega
    have h4 : b.2 = 1 ∨ b.2 = 2 ∨ b.2 = 3 ∨ b.2 = 4 := by omega
    rcases h3 with h3 | h3 | h3 <;> rcases h4 with h4 | h4 | h4 | h4 <;> rw [h3, h4] <;> simp
  · intro x hx
    rw [List.any_eq_true]
    have key : ∃ b ∈ bs, b.1 = x := by
      rcases List.mem_append.1 hx with h | h
      · have hl : ∀ d : Int, 1 ≤ d → d ≤ 4 → x ∈ ls d → ∃ b ∈ bs, b.1 = x := fun d h1 h2 h => ⟨_, ((P.listed d h1 h2 x).1 h).1, rfl⟩
        rcases List.mem_append.1 h with h | h
        · exact hl 1 (by omega) (by omega) h
        rcases List.mem_append.1 h with h | h
        · exact hl 2 (by omega) (by omega) h
        rcases List.mem_append.1 h with h | h
        · exact hl 3 (by omega) (by omega) h
        · exact hl 4 (by omega) (by omega) h
      · obtain ⟨b, hb, e⟩ := List.mem_map.1 h
        exact ⟨b, (List.mem_filter.1 hb).1, e⟩
    obtain ⟨b, hb, e⟩ := key
    exact ⟨_, List.mem_map.2 ⟨b, hb, rfl⟩, decide_eq_true e⟩

theorem ww_add8 {a b : Int} {K : AV → Go.Ae.R} {Q : AV → AH → Prop} (h : 0 ≤ a + b ∧ a + b ≤ 255) (w : wp (K (.int .u8 (a + b))) Q) : wp (pInt .add (.int .u8 a) (.int .u8 b) K) Q := by
  exact ww_add (by rw [wrap8 h]; exact w)
def RowT (v : AV) (l : List RstT) : SP := SliC 58 2 l.length v (l.flatMap encT)
theorem zip_selT : ∀ {rs : List AV} {ls : List (List RstT)} {i : Nat} {r : AV} {l : List RstT}, rs[i]? = some r → ls[i]? = some l → ∃ T, Sel (List.zipWith RowT rs ls) (RowT r l) T := by
  intro rs
  induction rs with
  | nil => intro ls i r l h; simp at h
  | cons b rs ih =>
    intro ls i r l h1 h2
    cases ls with
    | nil => simp at h2
    | cons y ls =>
      cases i with
      | zero =>
        simp at h1 h2
        subst h1; subst h2
        exact ⟨_, .here⟩
      | succ i =>
        obtain ⟨T, s⟩ := ih (ls := ls) (i := i) (by simpa using h1) (by simpa using h2)
        exact ⟨_, .there s⟩
theorem snocT {rs : List AV} {ls : List (List RstT)} {r : AV} {l : List RstT} (e : rs.length = ls.length) (H : HS g h (RowT r l :: .all (List.zipWith RowT rs ls) :: R)) : HS g h (.all (List.zipWith RowT (rs ++ [r]) (ls ++ [l])) :: R) := by
  have e2 : List.zipWith RowT (rs ++ [r]) (ls ++ [l]) = List.zipWith RowT rs ls ++ [RowT r l] := by rw [List.zipWith_append e]; rfl
  rw [e2]
  have H1 : HS g h (.all (List.zipWith RowT rs ls) :: RowT r l :: R) := H.sub (.cons (.there .here) (.refl))
  have H2 := H1.allE
  refine HS.allI ?_
  rw [List.append_assoc]
  exact H2
theorem rowsT_rd {rs : List AV} {ls : List (List RstT)} (s : Sel L (.all (List.zipWith RowT rs ls)) R) {i : Nat} {r : AV} {l : List RstT} (hr : rs[i]? = some r) (hl : ls[i]? = some l) : Rd g L 2 l.length r (l.flatMap encT) := by
  intro h H
  obtain ⟨T, s2⟩ := zip_selT hr hl
  have H2 := ((H.sel s).allE).sel (Sel.app s2 R)
  exact HS.sl (e := 58) H2 .here
theorem law {k : Nat} (hk : 20 ≤ k) {x turn v : Int} {a1 a2 : AV} {bytes : List Int} {bss : List (List Int)} {as2 : List AV} (S1 : Sl (fun b => b < h.nx) h 1 bytes.length a1 (bytes.map (.int .u8))) (hb : ∀ z ∈ bytes, 0 ≤ z ∧ z ≤ 255)
    (S2 : Sl (fun b => b < h.nx) h 1 bss.length a2 as2) (hl2 : as2.length = bss.length)
    (S3 : ∀ (i : Nat) (r : AV) (l : List Int), as2[i]? = some r → bss[i]? = some l → Sl (fun b => b < h.nx) h 1 l.length r (l.map (.int .u8)) ∧ ∀ z ∈ l, 0 ≤ z ∧ z ≤ 255)
    (ht : 0 ≤ turn ∧ turn ≤ 255) (hv : 0 ≤ v ∧ v ≤ 255) :
    wp (W4 (withRun 3 (callT tab rtab k)) [.int .i64 x, a1, a2, .int .u8 turn, .int .u8 v] h) fun v _ => v = .bool true := by
  show wp (S4 (withRun _ (callT tab rtab _)) _ _ _ _ _ _) _
  unfold S4
  try simp only [Int.ofNat_eq_natCast]
  refine ww_run ?_
  with_reducible (refine ww_notT ?_; refine ww_condF ?_)
  refine ww_len S2 (ww_gtrC (fun hg => ww_condT (ww_ret rfl)) fun hg => ww_condF ?_)
  refine ww_callZ (by decide) (kwordsP_ok (by omega) (HS.nil h) (Rd.arg S1) hb) ?_
  rintro wv h1 ⟨zs, sts, bs, ls, D, H⟩
  have P := D.part
  have hlow := P.low
  have hbp := P.bump
  have hl8 := D.len
  have hl80 := D.len80
  have hl32 := P.lo
  have hz : ∀ z ∈ zs, 0 ≤ z ∧ z < 18446744073709551616 := P.nn
  refine ww_iter (fun m s h' => ∃ (i p : Nat) (gv : AV) (gs : List RstT), s = (.int .i64 (i : Int), .int .i64 (p : Int), gv, wv, .int .u8 v, .int .u8 turn, a2, a1, ()) ∧ i ≤ bs.length ∧ m = bs.length - i ∧ Tile (wordAt zs 5) p (bs.drop i) ∧
      gs.map (·.1) = ((bs.take i).filter (isRest sts)).map (·.1) ∧ gs.length ≤ i ∧ HS h h' (SliC 58 2 gs.length gv (gs.flatMap encT) :: SliC 24 1 zs.length wv (zs.map (.int .u64)) :: []))
    ?_ (m := bs.length) (by show _ < 1000000000; omega) ⟨0, 14, .nils, [], rfl, by omega, by omega, P.tile, by simp, by simp, H.nils⟩
  clear H
  rintro m ih s h2 hih ⟨i, p, gv, gs, rfl, hi1, rfl, ht1, hgs, hgl, H⟩
  dsimp only
  have Sa : Sl (fun _ => True) h2 1 bytes.length a1 (bytes.map (.int .u8)) := (Rd.arg (L := []) S1).sl (H.drop.drop)
  refine ww_len Sa (ww_lss ?_)
  refine ww_join (fun s g' => ∃ (r : AV) (u x : Bool), s = (r, .bool u, .int .i64 (i : Int), .int .i64 (p : Int), gv, wv, .int .u8 v, .int .u8 turn, a2, a1, ()) ∧ g' = h2 ∧ (u = true → r = .bool x) ∧ ((u && x) = decide (i < bytes.length ∧ i < 8))) ?_ ?_
  · intro j hj
    refine ww_want (fun hl => ww_lss (hj _ _ ⟨_, _, decide (i < 8), rfl, rfl, fun _ => (by congr 1; exact decide_eq_decide.2 (by omega)), ?_⟩)) (fun hl => hj _ _ ⟨_, _, false, rfl, rfl, fun h => absurd (of_decide_eq_true h) hl, ?_⟩)
    · have hl' : i < bytes.length := by omega
      simp [hl']
    · have hl' : ¬ i < bytes.length := by omega
      simp [hl']
  rintro s h3 ⟨r, u, y, rfl, e3, hr, hux⟩
  rw [e3]
  refine ww_pickAndK hr ?_
  rw [hux]
  dsimp only
  have ht4 := ht1.le
  refine ww_join (fun s g' => ∃ (r : AV) (u x : Bool), s = (r, .bool u, .int .i64 (i : Int), .int .i64 (p : Int), gv, wv, .int .u8 v, .int .u8 turn, a2, a1, ()) ∧ g' = h2 ∧ (u = true → r = .bool x) ∧ ((u && x) = decide (i < bs.length))) ?_ ?_
  · intro j hj
    refine ww_want (fun hl => ?_) (fun hl => hj _ _ ⟨_, _, false, rfl, rfl, fun h => absurd (of_decide_eq_true h) hl, ?_⟩)
    · have h5 : 5 < zs.length := by omega
      have e5 : wordAt zs 5 = zs[5] := by unfold wordAt; rw [List.getElem?_eq_getElem h5]; rfl
      refine ww_idx1 (i := 5) (x := .int .u64 zs[5]) (H.sl (.there .here)) (by rw [List.getElem?_map, List.getElem?_eq_getElem h5]; rfl) (ww_convII (by omega) (ww_lss ?_))
      refine hj _ _ ⟨_, _, _, rfl, rfl, fun _ => rfl, ?_⟩
      rw [decide_eq_true hl, Bool.true_and]
      refine decide_eq_decide.2 ?_
      rw [← e5]
      constructor
      · intro hlt
        refine Nat.lt_of_not_le fun hle => ?_
        rw [List.drop_of_length_le hle] at ht1
        have : (p : Int) = wordAt zs 5 := ht1
        omega
      · intro hlt
        rw [List.length_drop] at ht4
        omega
    · have hl' : ¬ i < bs.length := by omega
      simp [hl']
  clear hux hr e3
  rintro s h3 ⟨r, u, y, rfl, e3, hr, hux⟩
  rw [e3]
  refine ww_pickAndK hr ?_
  rw [hux]
  dsimp only
  clear hux hr e3
  refine ww_cond (fun hi => ?_) fun hi => ?_
  · have gi : bytes[i]? = some bytes[i] := List.getElem?_eq_getElem (by omega)
    have hci : (bytes.map (AV.int .u8))[i]? = some (.int .u8 bytes[i]) := by rw [List.getElem?_map, gi]; rfl
    have hbi := hb bytes[i] (List.getElem_mem (by omega))
    have gb : bs[i]? = some bs[i] := List.getElem?_eq_getElem hi
    obtain ⟨hp1, hp2⟩ := D.plan i _ _ gb gi
    rw [List.drop_eq_getElem_cons hi] at ht1
    have htk : (bs.take (i + 1)).filter (isRest sts) = (bs.take i).filter (isRest sts) ++ if isRest sts bs[i] = true then [bs[i]] else [] := by
      rw [List.take_add_one, gb, List.filter_append]
      congr 1
      show [bs[i]].filter _ = _
      rw [List.filter_cons]; rfl
    generalize bytes[i] = y at *
    generalize bs[i] = b at *
    obtain ⟨q, c⟩ := b
    obtain ⟨t1, t2, t3⟩ := ht1
    dsimp only at t1 t2 t3 hp1 hp2
    subst t1
    have hb1 := Int.tmod_nonneg ((3 : Nat) : Int) hbi.1
    have hb2 := Int.tmod_lt_of_pos y (show 0 < ((3 : Nat) : Int) by omega)
    have ht5 := t3.le
    refine ww_joinD [] (fun s h' => ∃ (gv : AV) (gs : List RstT), s = (.int .i64 (i : Int), .int .i64 (p : Int), gv, wv, .int .u8 v, .int .u8 turn, a2, a1, ()) ∧ gs.map (·.1) = ((bs.take (i + 1)).filter (isRest sts)).map (·.1) ∧ gs.length ≤ i + 1 ∧
      HS h h' (SliC 58 2 gs.length gv (gs.flatMap encT) :: SliC 24 1 zs.length wv (zs.map (.int .u64)) :: [])) ?_ ?_
    · intro j hj
      refine ww_idx1 Sa hci (ww_andE ?_)
      refine ww_eqlC (fun ha => ww_condT ?_) fun ha => ww_condF (hj _ _ ⟨gv, gs, rfl, ?_, by omega, H⟩)
      · have hst : isRest sts ((p : Int) + 1, c) = true := by unfold isRest; dsimp only; rw [hp2]; exact decide_eq_true ((stB_rest hbi).1 ha)
        refine ww_addI (by omega) (ww_convIU (by omega) (ww_build rfl ?_))
        refine ww_buildSH (n := 1) (l := [.int .i64 ((p : Int) + ((1 : Nat) : Int)), .int .u64 (i : Int)]) (sz := 2) H rfl rfl rfl rfl fun v5 h5 H5 => ?_
        refine ww_appH (H5.sel (.there .here)) (H5.sl .here) (by omega) (by omega) rfl fun v6 h6 H6 => ?_
        refine hj _ _ ⟨v6, gs ++ [((p : Int) + 1, (i : Int))], rfl, ?_, by simp; omega, ?_⟩
        · rw [htk, if_pos hst, List.map_append, List.map_append, hgs]; rfl
        · rw [List.flatMap_append, List.length_append]
          exact H6.sub (.cons .here (.cons (.there .here) (.drop (.refl))))
      · have hst : ¬ isRest sts ((p : Int) + 1, c) = true := by
          unfold isRest; dsimp only; rw [hp2]
          intro hd
          exact ha ((stB_rest hbi).2 (of_decide_eq_true hd))
        rw [htk, if_neg hst, List.append_nil]; exact hgs
    clear hgs hgl H Sa
    rintro s h4 ⟨gv2, gs2, rfl, hgs, hgl, H⟩
    dsimp only
    have Sa : Sl (fun _ => True) h4 1 bytes.length a1 (bytes.map (.int .u8)) := (Rd.arg (L := []) S1).sl (H.drop.drop)
    have hsz := sizeA_b c
    refine ww_addI (by omega) (ww_idx1 Sa hci (ww_rem (by omega) (ww_add8 (by omega) (ww_convIU (by omega) (ww_shl (by omega) ?_)))))
    show wp (pInt .add _ (.int .i64 (tw (Int.tmod y ((3 : Nat) : Int) + ((1 : Nat) : Int)))) _) _
    rw [tw_size (by omega), ← hp1]
    refine ww_addI (by omega) (ww_addI (by omega) ?_)
    refine hih (bs.length - (i + 1)) _ _ (by omega) ⟨i + 1, ((p : Int) + 1 + sizeA c).toNat, gv2, gs2, ?_, by omega, rfl, ?_, hgs, hgl, H⟩
    · rw [Int.toNat_of_nonneg (by omega)]; rfl
    · rw [Int.toNat_of_nonneg (by omega)]; exact t3
  -- the rows of others
  rw [List.take_of_length_le (by omega : bs.length ≤ i)] at hgs
  have hgood := rest_good P hgs
  have hgl8 : gs.length ≤ 8 := by omega
  clear hgs hgl hih ih Sa ht1 ht4 hi1 hi
  refine ww_iter (fun m s h' => ∃ (t : Nat) (rv : AV) (rvs : List AV) (rws : List (List RstT)), s = (.int .i64 (t : Int), rv, gv, wv, .int .u8 v, .int .u8 turn, a2, ()) ∧ t ≤ bss.length ∧ m = bss.length - t ∧ rws.length = t ∧ rvs.length = rws.length ∧ (∀ l ∈ rws, l.length ≤ 6) ∧
      HS h h' (SliC 56 1 rws.length rv rvs :: .all (List.zipWith RowT rvs rws) :: SliC 58 2 gs.length gv (gs.flatMap encT) :: SliC 24 1 zs.length wv (zs.map (.int .u64)) :: []))
    ?_ (m := bss.length) (by show _ < 1000000000; omega) ⟨0, .nils, [], [], rfl, by omega, by omega, rfl, rfl, (fun l hl => by cases hl), (HS.allI (A := []) H).nils⟩
  clear H
  rintro m ih s h3 hih ⟨t, rv, rvs, rws, rfl, ht1, rfl, hrl, hrv, hr6, H⟩
  dsimp only
  have Sb : Sl (fun _ => True) h3 1 bss.length a2 as2 := (Rd.arg (L := []) S2).sl (H.drop.drop.drop.drop)
  refine ww_len Sb (ww_lssC (fun hlt => ww_condT ?_) fun hge => ww_condF ?_)
  · have htl : t < bss.length := by omega
    have ga : as2[t]? = some as2[t] := List.getElem?_eq_getElem (by omega)
    have gl : bss[t]? = some bss[t] := List.getElem?_eq_getElem htl
    obtain ⟨Sr, hrb⟩ := S3 t _ _ ga gl
    generalize bss[t] = row at *
    generalize as2[t] = ra at *
    clear Sb
    refine ww_iter (fun m s h' => ∃ (q : Nat) (cv : AV) (acc : List RstT), s = (.int .i64 (q : Int), cv, .int .i64 (t : Int), rv, gv, wv, .int .u8 v, .int .u8 turn, a2, ()) ∧ q ≤ 6 ∧ m = 6 - q ∧ acc.length = q ∧
        HS h h' (SliC 58 2 acc.length cv (acc.flatMap encT) :: SliC 56 1 rws.length rv rvs :: .all (List.zipWith RowT rvs rws) :: SliC 58 2 gs.length gv (gs.flatMap encT) :: SliC 24 1 zs.length wv (zs.map (.int .u64)) :: []))
      ?_ (m := 6) (by show _ < 1000000000; omega) ⟨0, .nils, [], rfl, by omega, by omega, rfl, H.nils⟩
    clear H
    rintro m2 ih2 s h4 hih2 ⟨q, cv, acc, rfl, hq6, rfl, hql, H⟩
    dsimp only
    have Sb : Sl (fun _ => True) h4 1 bss.length a2 as2 := (Rd.arg (L := []) S2).sl (H.drop.drop.drop.drop.drop)
    have Sc : Sl (fun _ => True) h4 1 row.length ra (row.map (.int .u8)) := (Rd.arg (L := []) Sr).sl (H.drop.drop.drop.drop.drop)
    refine ww_idx1 Sb ga (ww_len Sc (ww_lss ?_))
    refine ww_join (fun s g' => ∃ (r : AV) (u x : Bool), s = (r, .bool u, .int .i64 (q : Int), cv, .int .i64 (t : Int), rv, gv, wv, .int .u8 v, .int .u8 turn, a2, ()) ∧ g' = h4 ∧ (u = true → r = .bool x) ∧ ((u && x) = decide (q < row.length ∧ q < 6))) ?_ ?_
    · intro j hj
      refine ww_want (fun hl => ww_lss (hj _ _ ⟨_, _, decide (q < 6), rfl, rfl, fun _ => (by congr 1; exact decide_eq_decide.2 (by omega)), ?_⟩)) (fun hl => hj _ _ ⟨_, _, false, rfl, rfl, fun h => absurd (of_decide_eq_true h) hl, ?_⟩)
      · have hl' : q < row.length := by omega
        simp [hl']
      · have hl' : ¬ q < row.length := by omega
        simp [hl']
    rintro s h5 ⟨r, u, y, rfl, e5, hr, hux⟩
    rw [e5]
    refine ww_pickAndK hr ?_
    rw [hux]
    dsimp only
    clear hux hr e5
    refine ww_cond (fun hq => ?_) fun hq => ?_
    · have hrq := hrb row[q] (List.getElem_mem hq.1)
      have gq : (row.map (AV.int .u8))[q]? = some (.int .u8 row[q]) := by rw [List.getElem?_map, List.getElem?_eq_getElem hq.1]; rfl
      refine ww_idx1 Sb ga (ww_idx1 Sc gq (ww_convII (by omega) (ww_rem (by omega) (ww_build rfl ?_))))
      generalize Int.tmod row[q] ((60 : Nat) : Int) = z
      refine ww_buildSH (n := 1) (l := [.int .i64 z, .int .u64 ((0 : Nat) : Int)]) (sz := 2) H rfl rfl rfl rfl fun v5 h6 H5 => ?_
      refine ww_appH (H5.sel (.there .here)) (H5.sl .here) (by omega) (by omega) rfl fun v6 h7 H6 => ?_
      refine ww_addI (by omega) (hih2 (6 - (q + 1)) _ _ (by omega) ⟨q + 1, v6, acc ++ [(z, ((0 : Nat) : Int))], rfl, by omega, rfl, by simp; omega, ?_⟩)
      rw [List.flatMap_append, List.length_append]
      exact H6.sub (.cons .here (.cons (.there .here) (.cons (.there .here) (.cons (.there .here) (.cons (.there .here) (.drop (.refl)))))))
    · have o1 := sl_one1 (H.sl .here)
      refine ww_buildSH (n := 1) (l := [cv]) (sz := 1) H rfl rfl (by show (bif Nat.beq cv.cells.length 1 then (lputAt [AV.nils] 0 cv.cells).bind fun cs' => some cs' else none) = _; rw [o1.1]; rfl) (by simp [allOne, o1.2]) fun v5 h6 H5 => ?_
      refine ww_appH (H5.sel (.there (.there .here))) (H5.sl .here) (by omega) (by omega) (by simp [allOne, o1.2]) fun v6 h7 H6 => ?_
      refine ww_addI (by omega) (hih (bss.length - (t + 1)) _ _ (by omega) ⟨t + 1, v6, rvs ++ [cv], rws ++ [acc], rfl, by omega, rfl, by simp; omega, by simp; omega, ?_, ?_⟩)
      · intro l hl
        rcases List.mem_append.1 hl with h | h
        · exact hr6 l h
        · rw [List.mem_singleton.1 h]; omega
      · have H2 : HS h h7 (RowT cv acc :: .all (List.zipWith RowT rvs rws) :: SliC 56 1 (rws.length + 1) v6 (rvs ++ [cv]) :: SliC 58 2 gs.length gv (gs.flatMap encT) :: SliC 24 1 zs.length wv (zs.map (.int .u64)) :: []) :=
          H6.sub (.cons (.there (.there .here)) (.cons (.there (.there .here)) (.cons .here (.drop .refl))))
        rw [List.length_append]
        exact (snocT hrv H2).sub (.cons (.there .here) (.refl))
  have hr5 : rws.length ≤ 5 := by omega
  clear Sb hih ih ht1 hge
  have og := sl_one1 (H.sl (.there (.there .here)))
  -- one's own, and both
  refine ww_buildSH (n := 1) (l := [gv]) (sz := 1) H rfl rfl (by show (bif Nat.beq gv.cells.length 1 then (lputAt [AV.nils] 0 gv.cells).bind fun cs' => some cs' else none) = _; rw [og.1]; rfl) (by simp [allOne, og.2]) fun w1 h4 H1 => ?_
  refine ww_appH H1.nils (H1.sl .here) (by omega) (by omega) (by simp [allOne, og.2]) fun w2 h5 H2 => ?_
  have ov : allOne rvs = true := by
    unfold allOne
    rw [List.all_eq_true]
    intro v hv
    obtain ⟨i, hi⟩ := List.getElem?_of_mem hv
    have hil := (List.getElem?_eq_some_iff.1 hi).1
    have gl : rws[i]? = some rws[i] := List.getElem?_eq_getElem (by omega)
    exact (sl_one1 ((rowsT_rd (.there (.there (.there .here))) hi gl).sl H2)).2
  refine ww_appH H2 (H2.sl (.there (.there .here))) (by omega) (by omega) ov fun w3 h6 H3 => ?_
  refine ww_buildSH (n := 1) (l := [gv]) (sz := 1) H3 rfl rfl (by show (bif Nat.beq gv.cells.length 1 then (lputAt [AV.nils] 0 gv.cells).bind fun cs' => some cs' else none) = _; rw [og.1]; rfl) (by simp [allOne, og.2]) fun w4 h7 H4 => ?_
  clear H H1 H2 H3
  have hg8 : ∀ l ∈ [gs], l.length ≤ 1000 := by intro l hl; rw [List.mem_singleton.1 hl]; omega
  have hb8 : ∀ l ∈ gs :: rws, l.length ≤ 1000 := by
    intro l hl
    rcases List.mem_cons.1 hl with rfl | h
    · omega
    · have := hr6 l h; omega
  have hr8 : ∀ l ∈ rws, l.length ≤ 1000 := fun l hl => by have := hr6 l hl; omega
  have one : ∀ {L R : List SP} {e e' : TypeId} {w : AV} {R' : List SP}, Sel L (SliC e 1 1 w [gv]) R → Sel L (SliC e' 2 gs.length gv (gs.flatMap encT)) R' → RdT h L w [gs] := by
    intro L R e e' w R' s1 s2
    refine ⟨[gv], rfl, Rd.own s1, fun i r l h1 h2 => ?_⟩
    cases i with
    | zero => cases h1; cases h2; exact Rd.own s2
    | succ i => simp at h1
  refine ww_callZ (by decide) (aparts_ok (by omega) H4 (Rd.own (.there (.there (.there (.there (.there (.there .here))))))) hz (one (e := 56) (e' := 58) .here (.there (.there (.there (.there (.there .here)))))) (by simp) hg8) ?_
  rintro _ h8 ⟨rfl, H⟩
  rw [hgood]
  refine ww_notT (ww_condF ?_)
  refine ww_appH H.nils (H.sl (.there (.there (.there (.there (.there (.there .here))))))) (by omega) (by omega) (by unfold allOne; rw [List.all_eq_true]; intro v hv; obtain ⟨z, _, rfl⟩ := List.mem_map.1 hv; rfl) fun xv h9 H3 => ?_
  rw [Nat.zero_add, List.nil_append] at H3
  clear H H4
  have hr1 := Int.tmod_nonneg (zs.length : Int) ht.1
  have hr2 := Int.tmod_lt_of_pos turn (show 0 < (zs.length : Int) by omega)
  obtain ⟨j, hj⟩ : ∃ j : Nat, turn.tmod (zs.length : Int) = (j : Int) := ⟨_, (Int.toNat_of_nonneg hr1).symm⟩
  have hv1 := Int.tmod_nonneg ((40 : Nat) : Int) hv.1
  have hv2 := Int.tmod_lt_of_pos v (show 0 < ((40 : Nat) : Int) by omega)
  refine ww_convII (by omega) (ww_lenH H3 .here (ww_rem (by omega) (ww_rem (by omega) (ww_convIU (by omega) ?_))))
  rw [hj] at hr2 ⊢
  generalize v.tmod ((40 : Nat) : Int) = y at *
  refine ww_slI (i := j) H3 (by omega) ⟨rfl, rfl⟩ fun h10 H => ?_
  rw [← List.map_set] at H
  have hz2 : ∀ z ∈ zs.set j y, 0 ≤ z ∧ z < 18446744073709551616 := OkN.set hz (by omega)
  have hl2 : (zs.set j y).length = zs.length := List.length_set
  generalize zs.set j y = us at *
  clear H3
  have bothR : ∀ {L R R' R'' : List SP} {e e' : TypeId} {w : AV}, Sel L (SliC e 1 (1 + rws.length) w ([gv] ++ rvs)) R → Sel L (SliC e' 2 gs.length gv (gs.flatMap encT)) R' → Sel L (.all (List.zipWith RowT rvs rws)) R'' → RdT h L w (gs :: rws) := by
    intro L R R' R'' e e' w s1 s2 s3
    refine ⟨[gv] ++ rvs, by simp; omega, ?_, fun i r l h1 h2 => ?_⟩
    · rw [List.length_cons, Nat.add_comm]; exact Rd.own s1
    · cases i with
      | zero => cases h1; cases h2; exact Rd.own s2
      | succ i => exact rowsT_rd s3 (by simpa using h1) (by simpa using h2)
  have restR : ∀ {L R R'' : List SP} {e : TypeId}, Sel L (SliC e 1 rws.length rv rvs) R → Sel L (.all (List.zipWith RowT rvs rws)) R'' → RdT h L rv rws := by
    intro L R R'' e s1 s3
    exact ⟨rvs, hrv, Rd.own s1, fun i r l h1 h2 => rowsT_rd s3 h1 h2⟩
  have H : HS h h10 (SliC 24 1 zs.length xv (us.map (.int .u64)) :: SliC 56 1 1 w4 [gv] :: SliC 56 1 (1 + rws.length) w3 ([gv] ++ rvs) :: SliC 56 1 1 w1 [gv] :: SliC 56 1 rws.length rv rvs :: .all (List.zipWith RowT rvs rws) :: SliC 58 2 gs.length gv (gs.flatMap encT) :: SliC 24 1 zs.length wv (zs.map (.int .u64)) :: []) := H
  refine ww_callZ (by decide) (aparts_ok (by omega) H (Rd.own (.there (.there (.there (.there (.there (.there (.there .here)))))))) hz (restR (.there (.there (.there (.there .here)))) (.there (.there (.there (.there (.there .here)))))) (by omega) hr8) ?_
  rintro _ h11 ⟨rfl, H⟩
  refine ww_callZ (by decide) (rparts_ok (by omega) H (Rd.own (.there (.there (.there (.there (.there (.there (.there .here)))))))) hz (restR (.there (.there (.there (.there .here)))) (.there (.there (.there (.there (.there .here)))))) (by omega) hr8) ?_
  rintro _ h12 ⟨rfl, H⟩
  refine ww_beqJ (t := true) (by simp) (ww_joinS (ww_wantTT ?_))
  refine ww_callZ (by decide) (aparts_ok (by omega) H (Rd.own (.there (.there (.there (.there (.there (.there (.there .here)))))))) hz (bothR (.there (.there .here)) (.there (.there (.there (.there (.there (.there .here)))))) (.there (.there (.there (.there (.there .here)))))) (by simp; omega) hb8) ?_
  rintro _ h13 ⟨rfl, H⟩
  refine ww_callZ (by decide) (rparts_ok (by omega) H (Rd.own (.there (.there (.there (.there (.there (.there (.there .here)))))))) hz (bothR (.there (.there .here)) (.there (.there (.there (.there (.there (.there .here)))))) (.there (.there (.there (.there (.there .here)))))) (by simp; omega) hb8) ?_
  rintro _ h14 ⟨rfl, H⟩
  refine ww_beqJ (t := true) (by simp) ?_
  dsimp only
  refine ww_pickT (ww_joinS (ww_wantTT ?_))
  refine ww_callZ (by decide) (aparts_ok (by omega) H (by rw [hl2]; exact Rd.own .here) hz2 (bothR (.there (.there .here)) (.there (.there (.there (.there (.there (.there .here)))))) (.there (.there (.there (.there (.there .here)))))) (by simp; omega) hb8) ?_
  rintro _ h15 ⟨rfl, H⟩
  refine ww_callZ (by decide) (rparts_ok (by omega) H (by rw [hl2]; exact Rd.own .here) hz2 (bothR (.there (.there .here)) (.there (.there (.there (.there (.there (.there .here)))))) (.there (.there (.there (.there (.there .here)))))) (by simp; omega) hb8) ?_
  rintro _ h16 ⟨rfl, H⟩
  refine ww_beqJ (t := true) (by simp) ?_
  dsimp only
  refine ww_pickT (ww_joinS (ww_wantTT ?_))
  refine ww_buildSH (n := 1) (l := [gv]) (sz := 1) H rfl rfl (by show (bif Nat.beq gv.cells.length 1 then (lputAt [AV.nils] 0 gv.cells).bind fun cs' => some cs' else none) = _; rw [og.1]; rfl) (by simp [allOne, og.2]) fun w5 h17 H => ?_
  refine ww_callZ (by decide) (aparts_ok (by omega) H (by rw [hl2]; exact Rd.own (.there .here)) hz2 (one .here (.there (.there (.there (.there (.there (.there (.there .here)))))))) (by simp) hg8) ?_
  rintro _ h18 ⟨rfl, H⟩
  refine ww_buildSH (n := 1) (l := [gv]) (sz := 1) H rfl rfl (by show (bif Nat.beq gv.cells.length 1 then (lputAt [AV.nils] 0 gv.cells).bind fun cs' => some cs' else none) = _; rw [og.1]; rfl) (by simp [allOne, og.2]) fun w6 h19 H => ?_
  refine ww_callZ (by decide) (rparts_ok (by omega) H (by rw [hl2]; exact Rd.own (.there (.there .here))) hz2 (one .here (.there (.there (.there (.there (.there (.there (.there (.there .here))))))))) (by simp) hg8) ?_
  rintro _ h20 ⟨rfl, H⟩
  refine ww_beqJ (t := true) (by simp) ?_
  dsimp only
  exact ww_pickT (ww_leave (ww_ret rfl))

theorem told {h : AH} {l : List AV} (H : WTs Tryz.prog h 8 Tryz.f4.params.toList l) : wp (W4 (withRun 3 (callT tab rtab 60)) l h) fun v _ => v = .bool true := by
  have e : Tryz.f4.params.toList = [3, 53, 54, 5, 5] := by kernel_rfl
  rw [e] at H
  obtain ⟨a0, a1, a2, a3, a4, rfl, H0, H1, H2, H3, H4⟩ := WTs5 H
  simp only [WTV, Tryz.underlying3, Tryz.underlying4, Tryz.underlying5, Tryz.underlying53, Tryz.underlying54] at H0 H1 H2 H3 H4
  obtain ⟨bytes, S1, b1⟩ := WT_ints Tryz.underlying53 Tryz.underlying5 (by kernel_rfl) H1
  obtain ⟨n, as2, S2, hn, H2⟩ := WT_slice (sz := 1) Tryz.underlying54 (by kernel_rfl) (by omega) H2
  unfold WT at H0 H3 H4
  simp only [Tryz.underlying3, Tryz.underlying4, Tryz.underlying5, Tryz.underlying53, Tryz.underlying54] at H0 H3 H4
  obtain ⟨x, hx, _⟩ := H0
  obtain ⟨t, ht, ht2⟩ := H3
  obtain ⟨v, hv, hv2⟩ := H4
  cases hx; cases ht; cases hv
  have hlen : as2.length = n := by have := S2.len; omega
  have key : ∀ i : Nat, ∃ l : List Int, ∀ r, as2[i]? = some r → Sl (fun b => b < h.nx) h 1 l.length r (l.map (.int .u8)) ∧ ∀ z ∈ l, 0 ≤ z ∧ z ≤ 255 := by
    intro i
    cases hi : as2[i]? with
    | none => exact ⟨[], fun r hr => by cases hr⟩
    | some r =>
      have hil := (List.getElem?_eq_some_iff.1 hi).1
      have h3 := H2 i (by omega)
      have e3 : (as2.drop (i * 1)).take 1 = [r] := by
        rw [Nat.mul_one, List.drop_eq_getElem_cons hil, (List.getElem?_eq_some_iff.1 hi).2]; rfl
      rw [e3] at h3
      obtain ⟨l, S, hb⟩ := WT_ints Tryz.underlying53 Tryz.underlying5 (by kernel_rfl) h3
      exact ⟨l, fun r' hr => by cases hr; exact ⟨S, hb⟩⟩
  obtain ⟨f, hf⟩ := Classical.axiomOfChoice key
  refine law (bss := (List.range n).map f) (as2 := as2) (by omega) S1 b1 (by rw [List.length_map, List.length_range]; exact S2) (by simpa using hlen) (fun i r l h1 h2 => ?_) ht2 hv2
  have hi : i < n := by have := (List.getElem?_eq_some_iff.1 h2).1; simpa using this
  rw [List.getElem?_map, List.getElem?_range hi] at h2
  cases h2
  exact hf i r h1
end Go.Proofs.YtcmjgcfkhommkaaGreatDoor.judgeParts
