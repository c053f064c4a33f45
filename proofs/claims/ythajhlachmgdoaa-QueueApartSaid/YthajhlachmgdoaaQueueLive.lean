/- Queues: how many blocks live. -/
import Derived.Test.YthajhlachmgdoaaQueueStp
namespace Go.Proofs.Ythajhlachmgdoaa.arenaParts
open Go Go.Ae arenaPlays
set_option maxRecDepth 100000

variable {g h : AH} {L R : List SP}

theorem HX.blocks {W : List Int} {T : Nat} {L fr : List Int} (H : HX W T L fr) : ∃ bts, blocksM W = some bts ∧ (bts.filter (·.2.2)).length ≤ L.length ∧ (listsM W).isSome ∧ bts.length ≤ 100 ∧ (∀ b ∈ bts, 15 ≤ b.1 ∧ b.1 + sizeA b.2.1 ≤ T ∧ (1 ≤ b.2.1 ∧ b.2.1 ≤ 4) ∧ (b.2.2 = true ↔ b.1 ∈ L)) ∧ (∀ y ∈ L, (y, 1, true) ∈ bts) ∧
    (∀ b ∈ bts, ∀ d ∈ bts, b = d ∨ b.1 + sizeA b.2.1 + 1 ≤ d.1 ∨ d.1 + sizeA d.2.1 + 1 ≤ b.1) := by
  obtain ⟨sts, bs, ls, H⟩ := H
  have P := H.P
  have hle := P.tile.le
  have hbu := P.bump
  have hhi := P.hi
  have hmem : ∀ b ∈ bs, 15 ≤ b.1 ∧ b.1 + sizeA b.2 ≤ T ∧ (1 ≤ b.2 ∧ b.2 ≤ 4) ∧ (wordAt sts b.1.toNat = 1 ↔ b.1 ∈ L) := by
    intro b hb
    have h1 := P.tile.mem b hb
    refine ⟨by omega, by omega, h1.2.1, fun hs => H.live b hb hs, fun hL => (H.own _ hL).2⟩
  refine ⟨_, P.blocks, ?_, by rw [P.lists]; rfl, by rw [List.length_map]; omega, ?_, ?_, ?_⟩
  · have hnd := P.tile.nodup
    have e : ((bs.map (told1 sts)).filter (·.2.2)).length = (((bs.map (told1 sts)).filter (·.2.2)).map (·.1)).length := by rw [List.length_map]
    rw [e]
    refine sub_len ?_ ?_
    · have hs : (((bs.map (told1 sts)).filter (·.2.2)).map (·.1)).Sublist ((bs.map (told1 sts)).map (·.1)) := (List.filter_sublist ..).map _
      refine hs.nodup ?_
      rw [List.map_map]
      exact hnd
    · intro x hx
      obtain ⟨b, hb, rfl⟩ := List.mem_map.1 hx
      rw [List.mem_filter] at hb
      obtain ⟨d, hd, rfl⟩ := List.mem_map.1 hb.1
      exact (hmem d hd).2.2.2.1 (of_decide_eq_true hb.2)
  · intro b hb
    obtain ⟨d, hd, rfl⟩ := List.mem_map.1 hb
    have h1 := hmem d hd
    refine ⟨h1.1, h1.2.1, h1.2.2.1, ?_⟩
    show decide _ = true ↔ _
    rw [decide_eq_true_iff]
    exact h1.2.2.2
  · intro y hy
    have h1 := H.own y hy
    refine List.mem_map.2 ⟨_, h1.1, ?_⟩
    unfold told1
    dsimp only
    rw [h1.2]; rfl
  · intro b hb d hd
    obtain ⟨b', hb', rfl⟩ := List.mem_map.1 hb
    obtain ⟨d', hd', rfl⟩ := List.mem_map.1 hd
    rcases P.tile.far2 b' hb' d' hd' with h | h | h
    · exact .inl (by rw [h])
    · exact .inr (.inl h)
    · exact .inr (.inr h)

theorem live_ok {n : Nat} (hn : 4 ≤ n) {zs : List Int} {wv : AV} {bts : List BlkT} (H : HS g h R) (S : Rd g R 1 zs.length wv (zs.map (.int .u64))) (hz : ∀ z ∈ zs, 0 ≤ z ∧ z < 18446744073709551616) (hb : blocksM zs = some bts) (hl : bts.length ≤ 100) :
    wp (callT tab rtab n (.fn 28 [] []) [wv] h) fun r h' => r = .int .i64 ((bts.filter (·.2.2)).length : Int) ∧ HS g h' R := by
  (refine ww_fn (g := W28) rfl (by omega) fun k hk => ?_; show wp (S28 (callT tab rtab k) _ _) _; unfold S28; try simp only [Int.ofNat_eq_natCast])
  refine ww_call (ablocks_ok (by omega) H S hz) ?_
  rintro _ h1 ⟨bv, rfl, H1⟩
  rw [hb] at H1 ⊢
  have H1 : HS g h1 (SliC 66 3 bts.length bv (bts.flatMap encB) :: R) := H1
  simp only [Option.isSome_some, if_true]
  with_reducible (refine ww_extract (by with_unfolding_all exact rfl) ?_; refine ww_extract (by with_unfolding_all exact rfl) ?_)
  refine ww_iter (fun m s h' => ∃ i : Nat, s = (.int .i64 (i : Int), .int .i64 (((bts.take i).filter (·.2.2)).length : Int), bv, ()) ∧ i ≤ bts.length ∧ m = bts.length - i ∧ h' = h1) ?_ (m := bts.length) (by show _ < 1000000000; omega) ⟨0, rfl, by omega, by omega, rfl⟩
  rintro m ih s h2 hih ⟨i, rfl, hi, rfl, rfl⟩
  dsimp only
  have hfl : ((bts.take i).filter (·.2.2)).length ≤ 100 := by
    have h1 := List.length_filter_le (fun b : BlkT => b.2.2) (bts.take i)
    have h2 := List.length_take_le i bts
    have h3 := List.length_take (i := i) (l := bts)
    omega
  refine ww_lenH H1 .here ?_
  by_cases hlt : i < bts.length
  · have hnext : bts.take (i + 1) = bts.take i ++ [bts[i]] := List.take_succ_eq_append_getElem hlt
    have hci : bts[i]? = some bts[i] := List.getElem?_eq_getElem hlt
    generalize bts[i] = b at *
    obtain ⟨x, y, z⟩ := b
    refine ww_lssT (by omega) (ww_condT ?_)
    refine ww_joinD [] (fun s h' => s = (.int .i64 (i : Int), .int .i64 (((bts.take (i + 1)).filter (·.2.2)).length : Int), bv, ()) ∧ h' = h2) ?_ ?_
    · intro j hj
      refine ww_idxF (x := .bool z) (H1.sl .here) (by omega) hlt (by rw [flat_get (sz := 3) encB (fun _ => rfl) _ _ _ (by omega), hci]; rfl) ?_
      rw [hnext, List.filter_append, List.length_append] at hj
      cases z
      · with_reducible (refine ww_condF ?_)
        exact hj _ _ ⟨rfl, rfl⟩
      · with_reducible (refine ww_condT ?_; refine ww_addI (by omega) ?_)
        exact hj _ _ ⟨rfl, rfl⟩
    · rintro s h3 ⟨rfl, rfl⟩
      with_reducible (refine ww_addI (by omega) ?_)
      exact hih (bts.length - (i + 1)) _ _ (by omega) ⟨i + 1, rfl, by omega, rfl, rfl⟩
  · obtain rfl : i = bts.length := by omega
    with_reducible (refine ww_lssF (by omega) ?_; refine ww_condF ?_; refine ww_leave ?_)
    rw [List.take_length]
    exact ww_ret ⟨rfl, H1.drop⟩
end Go.Proofs.Ythajhlachmgdoaa.arenaParts
