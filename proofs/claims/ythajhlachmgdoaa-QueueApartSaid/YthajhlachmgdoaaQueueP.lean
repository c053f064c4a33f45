/- Queues in a parted heap: what the calls do. -/
import Derived.Test.YthajhlachmgdoaaQueueM
namespace Go.Proofs.Ythajhlachmgdoaa.arenaParts
open Go Go.Ae arenaPlays
set_option maxRecDepth 100000

variable {W W' : List Int} {T : Nat}

/-- from node to node -/
def NCh (W : List Int) : Int → List (Int × Int) → Prop
  | w, [] => w = 0
  | w, n :: ns => w = n.1 ∧ wordAt W n.1.toNat = n.2 ∧ NCh W (wordAt W (n.1 + 1).toNat) ns
theorem NCh.keep : ∀ {ns : List (Int × Int)} {w : Int}, NCh W w ns → (∀ n ∈ ns, wordAt W' n.1.toNat = wordAt W n.1.toNat ∧ wordAt W' (n.1 + 1).toNat = wordAt W (n.1 + 1).toNat) → NCh W' w ns := by
  intro ns
  induction ns with
  | nil => intro w h _; exact h
  | cons n ns ih =>
    intro w h hk
    have h1 := hk n (List.mem_cons_self ..)
    refine ⟨h.1, by rw [h1.1]; exact h.2.1, ?_⟩
    rw [h1.2]
    exact ih h.2.2 fun m hm => hk m (List.mem_cons_of_mem _ hm)
theorem NCh.snoc {la y n x : Int} : ∀ {ns : List (Int × Int)} {w : Int}, NCh W w ns → ns.getLast? = some (la, y) → (ns.map (·.1)).Nodup → (∀ m ∈ ns, wordAt W' m.1.toNat = wordAt W m.1.toNat ∧ (m.1 ≠ la → wordAt W' (m.1 + 1).toNat = wordAt W (m.1 + 1).toNat)) →
    wordAt W' (la + 1).toNat = n → wordAt W' n.toNat = x → wordAt W' (n + 1).toNat = 0 → NCh W' w (ns ++ [(n, x)]) := by
  intro ns
  induction ns with
  | nil => intro w _ h; cases h
  | cons m ns ih =>
    intro w h hl hnd hk h1 h2 h3
    have hm := hk m (List.mem_cons_self ..)
    cases ns with
    | nil =>
      simp at hl
      subst hl
      refine ⟨h.1, by rw [hm.1]; exact h.2.1, ?_⟩
      dsimp only
      rw [h1]
      exact ⟨rfl, h2, h3⟩
    | cons m2 ns =>
      have hl2 : (m2 :: ns).getLast? = some (la, y) := by rw [List.getLast?_cons_cons] at hl; exact hl
      rw [List.map_cons, List.nodup_cons] at hnd
      have hne : m.1 ≠ la := by
        rintro e
        have := List.mem_of_getLast? hl2
        exact hnd.1 (by rw [e]; exact List.mem_map.2 ⟨_, this, rfl⟩)
      refine ⟨h.1, by rw [hm.1]; exact h.2.1, ?_⟩
      rw [hm.2 hne]
      exact ih h.2.2 hl2 hnd.2 (fun k hk2 => hk k (List.mem_cons_of_mem _ hk2)) h1 h2 h3

/-- an object: its head, its nodes -/
structure ObjQ (W : List Int) (p hd : Int) (ns : List (Int × Int)) : Prop where
  root : wordAt W p.toNat = hd
  none : hd = 0 → ns = []
  chain : hd ≠ 0 → NCh W (wordAt W hd.toNat) ns
  last : hd ≠ 0 → ∀ a x, ns.getLast? = some (a, x) → wordAt W (hd + 1).toNat = a
def ownQ (hd : Int) (ns : List (Int × Int)) : List Int := (if hd = 0 then [] else [hd]) ++ ns.map (·.1)
theorem own_hd {hd : Int} {ns : List (Int × Int)} (h : hd ≠ 0) : hd ∈ ownQ hd ns := by unfold ownQ; rw [if_neg h]; simp
theorem own_ns {hd : Int} {ns : List (Int × Int)} {n : Int × Int} (h : n ∈ ns) : n.1 ∈ ownQ hd ns := List.mem_append.2 (.inr (List.mem_map.2 ⟨n, h, rfl⟩))
theorem ObjQ.keep {p hd : Int} {ns : List (Int × Int)} (A : ObjQ W p hd ns) (h0 : wordAt W' p.toNat = wordAt W p.toNat) (hk : ∀ y ∈ ownQ hd ns, wordAt W' y.toNat = wordAt W y.toNat ∧ wordAt W' (y + 1).toNat = wordAt W (y + 1).toNat) : ObjQ W' p hd ns := by
  refine ⟨h0.trans A.root, A.none, fun h => ?_, fun h a x hl => ?_⟩
  · rw [(hk hd (own_hd h)).1]
    exact (A.chain h).keep fun n hn => hk _ (own_ns hn)
  · rw [(hk hd (own_hd h)).2]
    exact A.last h a x hl

def pushT (T : Nat) (x hd front : Int) : Act Unit := allocA T 2 fun n => .take [(n, x)] (.take [(n + 1, 0)] (if front ≠ 0 then placeA (hd + 1) fun la => .take [(la + 1, n)] (.take [(hd + 1, n)] (.ret ())) else .take [(hd, n)] (.take [(hd + 1, n)] (.ret ()))))
def pushA (T : Nat) (p x : Int) : Act Unit := placeA p fun hd => if hd ≠ 0 then placeA hd fun front => pushT T x hd front else allocA T 2 fun hd => .take [(p, hd)] (pushT T x hd 0)
def takeAc (T : Nat) (p : Int) : Act (Int × Bool) := placeA p fun hd => if hd = 0 then .ret (0, false) else placeA hd fun a => if a = 0 then .ret (0, false) else .read a fun x => .read (a + 1) fun nx => .take [(hd, nx)] (freeAc T a (.ret (x, true)))
def allL : Nat → Int → List Int → Act (List Int)
  | 0, a, acc => if a = 0 then .ret acc else .fail 2
  | m + 1, a, acc => if a = 0 then .ret acc else .step (.read a fun x => placeA (a + 1) fun nx => allL m nx (acc ++ [x]))
def allA (p : Int) : Act (List Int) := placeA p fun hd => if hd = 0 then .ret [] else placeA hd fun a => allL 2049 a []

/-- what may be asked of an object, beside another one -/
def SqP (p' : Int) (own' : List Int) (q : Int) : Prop := q ≠ p' ∧ ∀ y ∈ own', q ≠ y ∧ q ≠ y + 1
/-- two objects, and nothing else that lives -/
structure TwoQ (W : List Int) (T : Nat) (fr : List Int) (p hd : Int) (ns : List (Int × Int)) (p' hd' : Int) (ns' : List (Int × Int)) : Prop where
  H : HX W T (ownQ hd ns ++ ownQ hd' ns') fr
  A : ObjQ W p hd ns
  B : ObjQ W p' hd' ns'
  rr : 6 ≤ p ∧ p ≤ 13 ∧ 6 ≤ p' ∧ p' ≤ 13 ∧ p ≠ p'
theorem TwoQ.swap {fr : List Int} {p hd p' hd' : Int} {ns ns' : List (Int × Int)} (Z : TwoQ W T fr p hd ns p' hd' ns') : TwoQ W T fr p' hd' ns' p hd ns :=
  ⟨Z.H.perm (fun x => by rw [List.mem_append, List.mem_append]; exact Or.comm) (List.perm_append_comm.nodup_iff.1 Z.H.nd), Z.B, Z.A, by have := Z.rr; omega⟩

theorem push_tail {p hd x front p' hd' : Int} {ns ns' : List (Int × Int)} {r : Nat} {s : Int} {Q : Option Unit → Int → List Int → List Int → Prop} (H : HX W T (ownQ hd ns ++ ownQ hd' ns') []) (h0 : hd ≠ 0) (hroot : wordAt W p.toNat = hd) (B : ObjQ W p' hd' ns') (rr : 6 ≤ p ∧ p ≤ 13 ∧ 6 ≤ p' ∧ p' ≤ 13 ∧ p ≠ p')
    (hf : ns = [] ∧ front = 0 ∨ ns ≠ [] ∧ front ≠ 0 ∧ NCh W (wordAt W hd.toNat) ns ∧ ∀ a x, ns.getLast? = some (a, x) → wordAt W (hd + 1).toNat = a) (hx : 0 ≤ x ∧ x < 18446744073709551616) (hr : r ≤ 20)
    (ok : ∀ n W', wordAt W 5 ≤ wordAt W' 5 → TwoQ W' T [] p hd (ns ++ [(n, x)]) p' hd' ns' → Q (some ()) 0 W' []) (full : (T : Int) < wordAt W 5 + 3 → Q none 4 W []) : wpA T (SqP p' (ownQ hd' ns')) (pushT T x hd front) W r [] s Q := by
  have hsz := H.size
  have hhd := own_hd (ns := ns) h0
  have hml : ∀ {y : Int}, y ∈ ownQ hd ns → y ∈ ownQ hd ns ++ ownQ hd' ns' := fun h => List.mem_append.2 (.inl h)
  have hmr : ∀ {y : Int}, y ∈ ownQ hd' ns' → y ∈ ownQ hd ns ++ ownQ hd' ns' := fun h => List.mem_append.2 (.inr h)
  have hSl : ∀ q : Int, 1 ≤ q → q ≤ 13 → q ≠ p' → SqP p' (ownQ hd' ns') q := fun q h1 h2 h3 => ⟨h3, fun y hy => by have := H.mem (hmr hy); omega⟩
  have hnd := H.nd
  have hdis : ∀ y ∈ ownQ hd ns, ∀ z ∈ ownQ hd' ns', y ≠ z := (List.nodup_append.1 hnd).2.2
  unfold pushT
  refine wp_alloc H (hSl 1 (by omega) (by omega) (by omega)) (hSl 5 (by omega) (by omega) (by omega)) (fun q h1 h2 h3 => ⟨by omega, fun y hy => h3 y (hmr hy)⟩) (by omega) (fun n W1 H1 f1 g5 => ?_) full
  have hn := H1.mem (List.mem_cons_self ..)
  have hnd1 := H1.nd
  rw [List.nodup_cons] at hnd1
  have hap : ∀ y ∈ ownQ hd ns ++ ownQ hd' ns', y + 3 ≤ n ∨ n + 3 ≤ y := by
    intro y hy
    rcases H1.apart (List.mem_cons_of_mem _ hy) (List.mem_cons_self ..) with h | h
    · subst h; exact absurd hy hnd1.1
    · exact h
  have hSn : ∀ q : Int, (q = n ∨ q = n + 1) → SqP p' (ownQ hd' ns') q := by
    intro q hq
    refine ⟨by omega, fun y hy => ?_⟩
    have := hap y (hmr hy)
    omega
  have hSo : ∀ y ∈ ownQ hd ns, ∀ q : Int, (q = y ∨ q = y + 1) → SqP p' (ownQ hd' ns') q := by
    intro y hy q hq
    have h1 := H.mem (hml hy)
    refine ⟨by omega, fun z hz => ?_⟩
    have h2 := hdis y hy z hz
    rcases H.apart (hml hy) (hmr hz) with h | h | h
    · exact absurd h h2
    · omega
    · omega
  refine wp_write H1 hx (.inr ⟨n, List.mem_cons_self .., .inl rfl⟩) (hSn _ (.inl rfl)) (by omega) fun H2 f2 => ?_
  refine wp_write H2 (by omega) (.inr ⟨n, List.mem_cons_self .., .inr rfl⟩) (hSn _ (.inr rfl)) (by omega) fun H3 f3 => ?_
  generalize hW3 : putZ (putZ W1 (n, x)) (n + 1, 0) = W3 at *
  have f23 : ∀ q : Nat, 0 < q → q < T → q ≠ 1 → q ≠ 5 → (q : Int) + 1 ≠ n → (q : Int) ≠ n → (q : Int) ≠ n + 1 → wordAt W3 q = wordAt W q := by
    intro q h1 h2 h3 h4 h5 h6 h7
    rw [f3, if_neg (by omega), f2, if_neg (by omega)]
    exact f1 q h1 h2 h3 h4 h5
  have hmh := H.mem (hml hhd)
  have haph := hap hd (hml hhd)
  have hperm : ∀ y, y ∈ ownQ hd (ns ++ [(n, x)]) ++ ownQ hd' ns' ↔ y ∈ n :: (ownQ hd ns ++ ownQ hd' ns') := by
    intro y
    unfold ownQ
    simp only [List.mem_append, List.map_append, List.mem_cons, List.map_cons, List.map_nil, List.not_mem_nil, or_false]
    constructor
    · rintro ((h | h | h) | h)
      · exact .inr (.inl (.inl h))
      · exact .inr (.inl (.inr h))
      · exact .inl h
      · exact .inr (.inr h)
    · rintro (h | (h | h) | h)
      · exact .inl (.inr (.inr h))
      · exact .inl (.inl h)
      · exact .inl (.inr (.inl h))
      · exact .inr h
  have hndf : (ownQ hd (ns ++ [(n, x)]) ++ ownQ hd' ns').Nodup := by
    have e : ownQ hd (ns ++ [(n, x)]) = ownQ hd ns ++ [n] := by unfold ownQ; rw [List.map_append, List.append_assoc]; rfl
    rw [e, List.append_assoc]
    refine (List.perm_middle (a := n) (l₁ := ownQ hd ns) (l₂ := ownQ hd' ns')).nodup_iff.2 ?_
    rw [List.nodup_cons]
    exact hnd1
  rcases hf with ⟨rfl, rfl⟩ | ⟨hne, hfr, hch, hla⟩
  · rw [if_neg (by omega)]
    refine wp_write H3 (by omega) (.inr ⟨hd, List.mem_cons_of_mem _ (hml hhd), .inl rfl⟩) (hSo hd hhd _ (.inl rfl)) (by omega) fun H4 f4 => ?_
    refine wp_write H4 (by omega) (.inr ⟨hd, List.mem_cons_of_mem _ (hml hhd), .inr rfl⟩) (hSo hd hhd _ (.inr rfl)) (by omega) fun H5 f5 => ?_
    refine ok n _ (by rw [f5, if_neg (by omega), f4, if_neg (by omega), f3, if_neg (by omega), f2, if_neg (by omega)]; exact g5.1) ⟨H5.perm hperm hndf, ⟨?_, fun h => absurd h h0, fun _ => ?_, fun _ a y hl => ?_⟩, ?_, rr⟩
    · rw [f5, if_neg (by omega), f4, if_neg (by omega), f23 _ (by omega) (by omega) (by omega) (by omega) (by omega) (by omega) (by omega)]
      exact hroot
    · show wordAt _ _ = n ∧ _
      refine ⟨by rw [f5, if_neg (by omega), f4, if_pos (by omega)], ?_, ?_⟩
      · show wordAt _ n.toNat = x
        rw [f5, if_neg (by omega), f4, if_neg (by omega), f3, if_neg (by omega), f2, if_pos (by omega)]
      · show wordAt _ (n + 1).toNat = 0
        rw [f5, if_neg (by omega), f4, if_neg (by omega), f3, if_pos (by omega)]
    · simp at hl
      rw [f5, if_pos (by omega)]
      exact hl.1
    · refine B.keep ?_ fun y hy => ?_
      · rw [f5, if_neg (by omega), f4, if_neg (by omega), f23 _ (by omega) (by omega) (by omega) (by omega) (by omega) (by omega) (by omega)]
      · have h1 := H.mem (hmr hy)
        have h2 := hap y (hmr hy)
        have h3 := hdis hd hhd y hy
        have h4 := H.apart (hml hhd) (hmr hy)
        have h5 : hd + 3 ≤ y ∨ y + 3 ≤ hd := h4.resolve_left h3
        refine ⟨?_, ?_⟩
        · rw [f5, if_neg (by omega), f4, if_neg (by omega), f23 _ (by omega) (by omega) (by omega) (by omega) (by omega) (by omega) (by omega)]
        · rw [f5, if_neg (by omega), f4, if_neg (by omega), f23 _ (by omega) (by omega) (by omega) (by omega) (by omega) (by omega) (by omega)]
  · rw [if_pos hfr]
    obtain ⟨⟨la, ly⟩, hlast⟩ : ∃ q, ns.getLast? = some q := ⟨_, List.getLast?_eq_some_getLast hne⟩
    have hlm := own_ns (hd := hd) (List.mem_of_getLast? hlast)
    dsimp only at hlm
    have hmla := H.mem (hml hlm)
    have hapl := hap la (hml hlm)
    have hw : wordAt W (hd + 1).toNat = la := hla la ly hlast
    have hw3 : wordAt W3 (hd + 1).toNat = la := by rw [f23 _ (by omega) (by omega) (by omega) (by omega) (by omega) (by omega) (by omega)]; exact hw
    refine wp_place (by omega) (by omega) (hSo hd hhd _ (.inr rfl)) (by rw [hw3]; omega) ?_
    rw [hw3]
    have hlh : la ≠ hd := by
      rintro rfl
      have := (List.nodup_append.1 hnd).1
      unfold ownQ at this
      rw [if_neg h0] at this
      exact (List.nodup_cons.1 this).1 (List.mem_map.2 ⟨_, List.mem_of_getLast? hlast, rfl⟩)
    have hlh3 : la + 3 ≤ hd ∨ hd + 3 ≤ la := (H.apart (hml hlm) (hml hhd)).resolve_left hlh
    refine wp_write H3 (by omega) (.inr ⟨la, List.mem_cons_of_mem _ (hml hlm), .inr rfl⟩) (hSo la hlm _ (.inr rfl)) (by omega) fun H4 f4 => ?_
    refine wp_write H4 (by omega) (.inr ⟨hd, List.mem_cons_of_mem _ (hml hhd), .inr rfl⟩) (hSo hd hhd _ (.inr rfl)) (by omega) fun H5 f5 => ?_
    have hnds : (ns.map (·.1)).Nodup := by
      have := (List.nodup_append.1 hnd).1
      exact (List.nodup_append.1 this).2.1
    refine ok n _ (by rw [f5, if_neg (by omega), f4, if_neg (by omega), f3, if_neg (by omega), f2, if_neg (by omega)]; exact g5.1) ⟨H5.perm hperm hndf, ⟨?_, fun h => absurd h h0, fun _ => ?_, fun _ a y hl => ?_⟩, ?_, rr⟩
    · rw [f5, if_neg (by omega), f4, if_neg (by omega), f23 _ (by omega) (by omega) (by omega) (by omega) (by omega) (by omega) (by omega)]
      exact hroot
    · have e : wordAt (putZ (putZ W3 (la + 1, n)) (hd + 1, n)) hd.toNat = wordAt W hd.toNat := by
        rw [f5, if_neg (by omega), f4, if_neg (by omega), f23 _ (by omega) (by omega) (by omega) (by omega) (by omega) (by omega) (by omega)]
      rw [e]
      refine hch.snoc hlast hnds (fun m hm => ?_) ?_ ?_ ?_
      · have hmm := own_ns (hd := hd) hm
        have h1 := H.mem (hml hmm)
        have h2 := hap m.1 (hml hmm)
        have h3 : m.1 ≠ hd := by
          intro e
          have := (List.nodup_append.1 hnd).1
          unfold ownQ at this
          rw [if_neg h0] at this
          exact (List.nodup_cons.1 this).1 (by rw [← e]; exact List.mem_map.2 ⟨_, hm, rfl⟩)
        have h4 : m.1 + 3 ≤ hd ∨ hd + 3 ≤ m.1 := (H.apart (hml hmm) (hml hhd)).resolve_left h3
        have h5 := H.apart (hml hmm) (hml hlm)
        refine ⟨?_, fun h6 => ?_⟩
        · rw [f5, if_neg (by omega), f4, if_neg (by omega), f23 _ (by omega) (by omega) (by omega) (by omega) (by omega) (by omega) (by omega)]
        · rw [f5, if_neg (by omega), f4, if_neg (by omega), f23 _ (by omega) (by omega) (by omega) (by omega) (by omega) (by omega) (by omega)]
      · rw [f5, if_neg (by omega), f4, if_pos (by omega)]
      · rw [f5, if_neg (by omega), f4, if_neg (by omega), f3, if_neg (by omega), f2, if_pos (by omega)]
      · rw [f5, if_neg (by omega), f4, if_neg (by omega), f3, if_pos (by omega)]
    · simp at hl
      rw [f5, if_pos (by omega)]
      exact hl.1
    · refine B.keep ?_ fun y hy => ?_
      · rw [f5, if_neg (by omega), f4, if_neg (by omega), f23 _ (by omega) (by omega) (by omega) (by omega) (by omega) (by omega) (by omega)]
      · have h1 := H.mem (hmr hy)
        have h2 := hap y (hmr hy)
        have h5 : hd + 3 ≤ y ∨ y + 3 ≤ hd := (H.apart (hml hhd) (hmr hy)).resolve_left (hdis hd hhd y hy)
        have h6 : la + 3 ≤ y ∨ y + 3 ≤ la := (H.apart (hml hlm) (hmr hy)).resolve_left (hdis la hlm y hy)
        refine ⟨?_, ?_⟩
        · rw [f5, if_neg (by omega), f4, if_neg (by omega), f23 _ (by omega) (by omega) (by omega) (by omega) (by omega) (by omega) (by omega)]
        · rw [f5, if_neg (by omega), f4, if_neg (by omega), f23 _ (by omega) (by omega) (by omega) (by omega) (by omega) (by omega) (by omega)]
end Go.Proofs.Ythajhlachmgdoaa.arenaParts
