/- Queues: two objects; views of which some words are known. -/
import Derived.Test.YthajhlachmgdoaaQueueStp
import Derived.Test.YthajhlachmgdoaaBookSameI
namespace Go.Proofs.Ythajhlachmgdoaa.arenaParts
open Go Go.Ae arenaPlays
set_option maxRecDepth 100000

variable {g h : AH} {L R : List SP}

theorem step25_ok {n : Nat} (hn : 18 ≤ n) {o : Nat} {xs : List AV} {v4 v5 wv : AV} {e : TypeId} {zs : List Int} {hd0 hd1 : Int} {ns0 ns1 : List (Int × Int)} {c : CallT}
    (H : HS g h (SliC e 1 zs.length wv (zs.map (.int .u64)) :: ObjC o xs :: RowC v4 (ns0.map (·.2)) :: RowC v5 (ns1.map (·.2)) :: R)) (Z : TwoQ zs 256 [] 10 hd0 ns0 11 hd1 ns1) (hl : xs.length = 8) (hx4 : xs[4]? = some v4) (hx5 : xs[5]? = some v5) (hw : c.1 = 7 ∨ c.1 = 8) (hkk : 0 ≤ c.2.2.1) :
    wp (callT tab rtab n (.fn 12 [] []) [wv, .ptr o 0, .agg (encL c)] h) fun r h' => ∃ wv' e' zs' hd0' ns0' hd1' ns1' xs' v4' v5', r = .tup [wv', .bool true] ∧ TwoQ zs' 256 [] 10 hd0' ns0' 11 hd1' ns1' ∧ xs'.length = 8 ∧ xs'[4]? = some v4' ∧ xs'[5]? = some v5' ∧
      (withinZ c.2.1 0 1 = 0 → hd1' = hd1 ∧ ns1' = ns1) ∧ (withinZ c.2.1 0 1 = 1 → hd0' = hd0 ∧ ns0' = ns0) ∧ wordAt zs 5 ≤ wordAt zs' 5 ∧
      HS g h' (SliC e' 1 zs'.length wv' (zs'.map (.int .u64)) :: ObjC o xs' :: RowC v4' (ns0'.map (·.2)) :: RowC v5' (ns1'.map (·.2)) :: R) := by
  have hb := within_bounds c.2.1 (show (0 : Int) ≤ 1 by omega)
  by_cases h0 : withinZ c.2.1 0 1 = 0
  · refine wp.mono (step5_ok (j := 4) hn H Z hl hx4 (by rw [h0]; rfl) (by omega) hw hkk) ?_
    rintro r h1 ⟨wv', e', zs', hd2, ns2, v', rfl, Z2, ov, b5, H1⟩
    exact ⟨wv', e', zs', hd2, ns2, hd1, ns1, _, v', v5, rfl, Z2, by rw [List.length_set]; exact hl, by rw [List.getElem?_set, if_pos rfl, if_pos (by omega)], by rw [List.getElem?_set, if_neg (by omega)]; exact hx5, fun _ => ⟨rfl, rfl⟩, fun h => by omega, b5, H1⟩
  · have h1 : withinZ c.2.1 0 1 = 1 := by omega
    refine wp.mono (step5_ok (j := 5) hn (H.sub (L' := SliC e 1 zs.length wv (zs.map (.int .u64)) :: ObjC o xs :: RowC v5 (ns1.map (·.2)) :: RowC v4 (ns0.map (·.2)) :: R) (.cons .here (.cons .here (.cons (.there .here) (.cons .here .refl))))) Z.swap hl hx5 (by rw [h1]; rfl) (by omega) hw hkk) ?_
    rintro r h2 ⟨wv', e', zs', hd2, ns2, v', rfl, Z2, ov, b5, H1⟩
    exact ⟨wv', e', zs', hd0, ns0, hd2, ns2, _, v4, v', rfl, Z2.swap, by rw [List.length_set]; exact hl, by rw [List.getElem?_set, if_neg (by omega)]; exact hx4, by rw [List.getElem?_set, if_pos rfl, if_pos (by omega)], fun h => by omega, fun _ => ⟨rfl, rfl⟩, b5,
      H1.sub (.cons .here (.cons .here (.cons (.there .here) (.cons .here .refl))))⟩

theorem step2_ok {n : Nat} (hn : 18 ≤ n) {o : Nat} {xs : List AV} {v4 v5 wv : AV} {e : TypeId} {zs : List Int} {hd0 hd1 : Int} {ns0 ns1 : List (Int × Int)} {c : CallT}
    (H : HS g h (SliC e 1 zs.length wv (zs.map (.int .u64)) :: ObjC o xs :: RowC v4 (ns0.map (·.2)) :: RowC v5 (ns1.map (·.2)) :: R)) (Z : TwoQ zs 256 [] 10 hd0 ns0 11 hd1 ns1) (hl : xs.length = 8) (hx4 : xs[4]? = some v4) (hx5 : xs[5]? = some v5) (hw : c.1 = 7 ∨ c.1 = 8) (hkk : 0 ≤ c.2.2.1) :
    wp (callT tab rtab n (.fn 12 [] []) [wv, .ptr o 0, .agg (encL c)] h) fun r h' => ∃ wv' e' zs' hd0' ns0' hd1' ns1' xs' v4' v5', r = .tup [wv', .bool true] ∧ TwoQ zs' 256 [] 10 hd0' ns0' 11 hd1' ns1' ∧ xs'.length = 8 ∧ xs'[4]? = some v4' ∧ xs'[5]? = some v5' ∧
      (withinZ c.2.1 0 1 = 0 → hd1' = hd1 ∧ ns1' = ns1) ∧ (withinZ c.2.1 0 1 = 1 → hd0' = hd0 ∧ ns0' = ns0) ∧
      HS g h' (SliC e' 1 zs'.length wv' (zs'.map (.int .u64)) :: ObjC o xs' :: RowC v4' (ns0'.map (·.2)) :: RowC v5' (ns1'.map (·.2)) :: R) := by
  refine wp.mono (step25_ok hn H Z hl hx4 hx5 hw hkk) ?_
  rintro r h1 ⟨wv', e', zs', hd0', ns0', hd1', ns1', xs', v4', v5', q1, q2, q3, q4, q5, q6, q7, _, H1⟩
  exact ⟨wv', e', zs', hd0', ns0', hd1', ns1', xs', v4', v5', q1, q2, q3, q4, q5, q6, q7, H1⟩

/-- words that are known -/
structure KnK (zs : List Int) (K : List Cl) : Prop where
  sub : KSub zs K
  un : UnC K
  ins : ∀ c ∈ K, 1 ≤ c.1 ∧ c.1 < 256
  wd : WdC K
theorem KnK.nil {zs : List Int} : KnK zs [] := ⟨fun p x h => (by cases h), List.nodup_nil, fun c h => (by cases h), fun c h => (by cases h)⟩
theorem KnK.good {zs : List Int} {K : List Cl} (k : KnK zs K) (nd : Int) : GoodV (Mv K nd) :=
  ⟨⟨by show 32 ≤ 256; omega, by show 256 ≤ 256; omega, newL_ok (show (96 : Nat) ≤ 96 by omega), k.ins, k.un, fun y hy => by rw [List.mem_singleton.1 hy]; show (0 : Nat) < 100000; omega⟩, ⟨k.wd, fun y hy c hc => by rw [List.mem_singleton.1 hy] at hc; cases hc⟩⟩
theorem KnK.len {zs : List Int} {K : List Cl} (k : KnK zs K) : K.length ≤ 255 := by
  have h1 : (K.map (·.1 - 1)).Nodup := by
    have e : K.map (·.1 - 1) = (K.map (·.1)).map (· - 1) := by rw [List.map_map]; rfl
    rw [e]
    have key : ∀ l : List Int, l.Nodup → (l.map (· - 1)).Nodup := by
      intro l
      induction l with
      | nil => intro _; exact List.nodup_nil
      | cons a l ih =>
        intro hn
        rw [List.nodup_cons] at hn
        rw [List.map_cons, List.nodup_cons]
        refine ⟨fun hm => ?_, ih hn.2⟩
        obtain ⟨x, hx, he⟩ := List.mem_map.1 hm
        have : x = a := by omega
        subst this
        exact hn.1 hx
    exact key _ k.un
  have := nodup_le 255 _ h1 fun x hx => by
    obtain ⟨c, hc, rfl⟩ := List.mem_map.1 hx
    have := k.ins c hc
    omega
  rwa [List.length_map] at this
theorem KnK.add {zs : List Int} {K : List Cl} {q : Int} (k : KnK zs K) (hz : ∀ z ∈ zs, 0 ≤ z ∧ z < 18446744073709551616) (h1 : 1 ≤ q) (h2 : q < 256) (hn : getC q K = none) : KnK zs (K ++ [(q, wordAt zs q.toNat)]) := by
  have hp : K ++ [(q, wordAt zs q.toNat)] = putC q (wordAt zs q.toNat) K := (putC_none hn).symm
  refine ⟨fun p x h => ?_, ?_, fun c hc => ?_, fun c hc => ?_⟩
  · rw [hp, getC_put] at h
    split at h
    · rename_i e; subst e; exact (Option.some.inj h).symm
    · exact k.sub p x h
  · rw [hp]; exact k.un.put
  · rcases List.mem_append.1 hc with hc | hc
    · exact k.ins c hc
    · rw [List.mem_singleton] at hc; subst hc; exact ⟨h1, h2⟩
  · rcases List.mem_append.1 hc with hc | hc
    · exact k.wd c hc
    · rw [List.mem_singleton] at hc; subst hc; exact wordAt_b hz _
theorem know_mv {zs : List Int} {K : List Cl} {q nd : Int} (h1 : 1 ≤ q) (h2 : q < 256) (hn : getC q K = none) : knowV (Mv K nd) q (wordAt zs q.toNat) = (0, Mv (K ++ [(q, wordAt zs q.toNat)]) nd) := by
  unfold knowV
  rw [if_pos (show 1 ≤ q ∧ q < ((Mv K nd).sz : Int) from ⟨h1, h2⟩), show (Mv K nd).K = K from rfl, hn]; rfl
theorem new_mv : newV ((256 : Nat) : Int) ((96 : Nat) : Int) = Mv [] 0 := rfl
end Go.Proofs.Ythajhlachmgdoaa.arenaParts
