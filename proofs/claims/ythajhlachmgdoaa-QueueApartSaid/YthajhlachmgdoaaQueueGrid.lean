/- Queues: where the blocks are. -/
import Derived.Test.YthajhlachmgdoaaQueueLive
import Derived.Test.YthajhlachmgdoaaQueueTwo
namespace Go.Proofs.Ythajhlachmgdoaa.arenaParts
open Go Go.Ae arenaPlays
set_option maxRecDepth 100000

theorem Tile.grid {e : Int} : ∀ {bs : List Bk} {a : Int}, Tile e a bs → (∀ b ∈ bs, b.2 = 1) → (∀ b ∈ bs, ∃ i : Nat, b.1 = a + 1 + 3 * (i : Int)) ∧ ∀ i : Nat, a + 1 + 3 * (i : Int) + 2 ≤ e → (a + 1 + 3 * (i : Int), 1) ∈ bs := by
  intro bs
  induction bs with
  | nil =>
    intro a h _
    have h : a = e := h
    exact ⟨fun b hb => (by cases hb), fun i hi => by omega⟩
  | cons b bs ih =>
    intro a h h1
    obtain ⟨t1, t2, t3⟩ := h
    have hb := h1 b (List.mem_cons_self ..)
    rw [hb, show sizeA 1 = 2 from rfl] at t3
    obtain ⟨g1, g2⟩ := ih t3 fun x hx => h1 x (List.mem_cons_of_mem _ hx)
    refine ⟨fun x hx => ?_, fun i hi => ?_⟩
    · rcases List.mem_cons.1 hx with rfl | hx
      · exact ⟨0, by omega⟩
      · obtain ⟨i, hi⟩ := g1 x hx
        exact ⟨i + 1, by omega⟩
    · cases i with
      | zero =>
        obtain ⟨b1, b2⟩ := b
        dsimp only at t1 hb
        subst hb
        have : b1 = a + 1 + 3 * ((0 : Nat) : Int) := by omega
        rw [← this]
        exact List.mem_cons_self ..
      | succ i =>
        have := g2 i (by omega)
        rw [show a + 1 + 2 + 1 + 3 * (i : Int) = a + 1 + 3 * ((i + 1 : Nat) : Int) by omega] at this
        exact List.mem_cons_of_mem _ this
theorem HX.grid {W : List Int} {T : Nat} {L fr : List Int} {bts : List BlkT} (H : HX W T L fr) (hb : blocksM W = some bts) : (∀ b ∈ bts, b.2.1 = 1) ∧ (∀ y ∈ L, ∃ i : Nat, y = 15 + 3 * (i : Int) ∧ y + 2 ≤ wordAt W 5) ∧ ∀ i : Nat, 15 + 3 * (i : Int) + 2 ≤ wordAt W 5 → ∃ l, (15 + 3 * (i : Int), 1, l) ∈ bts := by
  obtain ⟨sts, bs, ls, H⟩ := H
  have P := H.P
  rw [P.blocks] at hb
  obtain rfl := Option.some.inj hb
  obtain ⟨g1, g2⟩ := P.tile.grid H.one
  refine ⟨fun b hb => ?_, fun y hy => ?_, fun i hi => ?_⟩
  · obtain ⟨d, hd, rfl⟩ := List.mem_map.1 hb
    exact H.one d hd
  · have h1 := H.own y hy
    obtain ⟨i, hi⟩ := g1 _ h1.1
    have h2 := P.tile.mem _ h1.1
    dsimp only at hi h2
    rw [show sizeA 1 = 2 from rfl] at h2
    exact ⟨i, by omega, by omega⟩
  · have := g2 i (by omega)
    rw [show (14 : Int) + 1 + 3 * (i : Int) = 15 + 3 * (i : Int) by omega] at this
    exact ⟨_, List.mem_map.2 ⟨(15 + 3 * (i : Int), 1), this, rfl⟩⟩

/-- marks: on words of these blocks only -/
def Oth (ot : List Bool) (L : List Int) : Prop := ot.length = 257 ∧ ∀ x : Nat, ot[x]? = some true → ∃ y ∈ L, (x : Int) = y ∨ (x : Int) = y + 1
theorem set_true {ot : List Bool} {i x : Nat} {b : Bool} (h : (ot.set i b)[x]? = some true) : (x = i ∧ b = true) ∨ (x ≠ i ∧ ot[x]? = some true) := by
  rw [List.getElem?_set] at h
  by_cases e : i = x
  · rw [if_pos e] at h
    split at h
    · exact .inl ⟨e.symm, Option.some.inj h⟩
    · cases h
  · rw [if_neg e] at h
    exact .inr ⟨fun h => e h.symm, h⟩
end Go.Proofs.Ythajhlachmgdoaa.arenaParts
