/- Queues in a parted heap: pushed, taken, told, given back. -/
import Derived.Test.YthajhlachmgdoaaQueueP
namespace Go.Proofs.Ythajhlachmgdoaa.arenaParts
open Go Go.Ae arenaPlays
set_option maxRecDepth 100000

variable {W W' : List Int} {T : Nat} {p hd p' hd' : Int} {ns ns' : List (Int × Int)} {fr : List Int}

theorem TwoQ.congr (Z : TwoQ W T fr p hd ns p' hd' ns') (hl : W'.length = T) (hn : ∀ z ∈ W', 0 ≤ z ∧ z < 18446744073709551616) (hat : ∀ q : Nat, 0 < q → q < T → wordAt W' q = wordAt W q) : TwoQ W' T fr p hd ns p' hd' ns' := by
  have hsz := Z.H.size
  have hrr := Z.rr
  refine ⟨Z.H.congr hl hn hat, Z.A.keep (hat _ (by omega) (by omega)) fun y hy => ?_, Z.B.keep (hat _ (by omega) (by omega)) fun y hy => ?_, Z.rr⟩
  · have := Z.H.mem (List.mem_append.2 (.inl hy))
    exact ⟨hat _ (by omega) (by omega), hat _ (by omega) (by omega)⟩
  · have := Z.H.mem (List.mem_append.2 (.inr hy))
    exact ⟨hat _ (by omega) (by omega), hat _ (by omega) (by omega)⟩
theorem TwoQ.hd_b (Z : TwoQ W T fr p hd ns p' hd' ns') : 0 ≤ hd ∧ hd < 256 := by
  have hsz := Z.H.size
  by_cases h : hd = 0
  · omega
  · have := Z.H.mem (List.mem_append.2 (.inl (own_hd (ns := ns) h)))
    omega
theorem TwoQ.few (Z : TwoQ W T fr p hd ns p' hd' ns') : ns.length ≤ 256 := by
  have hsz := Z.H.size
  have hnd := Z.H.nd
  have h1 : (ns.map (·.1)).Nodup := (List.nodup_append.1 (List.nodup_append.1 hnd).1).2.1
  have := nodup_le 256 _ h1 fun x hx => by
    obtain ⟨n, hn, rfl⟩ := List.mem_map.1 hx
    have := Z.H.mem (List.mem_append.2 (.inl (own_ns (hd := hd) hn)))
    omega
  rwa [List.length_map] at this
theorem TwoQ.front (Z : TwoQ W T fr p hd ns p' hd' ns') (h0 : hd ≠ 0) : wordAt W hd.toNat < 256 ∧ (ns = [] ∧ wordAt W hd.toNat = 0 ∨ ns ≠ [] ∧ wordAt W hd.toNat ≠ 0) := by
  have hsz := Z.H.size
  have hc := Z.A.chain h0
  cases ns with
  | nil =>
    have hc : wordAt W hd.toNat = 0 := hc
    exact ⟨by omega, .inl ⟨rfl, hc⟩⟩
  | cons n ns =>
    have hc := hc.1
    have := Z.H.mem (List.mem_append.2 (.inl (own_ns (hd := hd) (List.mem_cons_self (a := n) (l := ns)))))
    exact ⟨by omega, .inr ⟨by simp, by omega⟩⟩

def PushQ (W : List Int) (T : Nat) (x p p' hd' : Int) (ns ns' : List (Int × Int)) (o : Option Unit) (e : Int) (W' F : List Int) : Prop :=
  (o = some () ∧ e = 0 ∧ F = [] ∧ wordAt W 5 ≤ wordAt W' 5 ∧ ∃ hd2 n, TwoQ W' T [] p hd2 (ns ++ [(n, x)]) p' hd' ns') ∨ (o = none ∧ e = 4 ∧ (T : Int) < wordAt W 5 + 40)
theorem push_wp {x : Int} (Z : TwoQ W T [] p hd ns p' hd' ns') (hx : 0 ≤ x ∧ x < 18446744073709551616) : wpA T (SqP p' (ownQ hd' ns')) (pushA T p x) W 0 [] 0 (PushQ W T x p p' hd' ns ns') := by
  have hsz := Z.H.size
  have hrr := Z.rr
  have hhb := Z.hd_b
  have hmr : ∀ {y : Int}, y ∈ ownQ hd' ns' → y ∈ ownQ hd ns ++ ownQ hd' ns' := fun h => List.mem_append.2 (.inr h)
  have hSl : ∀ q : Int, 1 ≤ q → q ≤ 13 → q ≠ p' → SqP p' (ownQ hd' ns') q := fun q h1 h2 h3 => ⟨h3, fun y hy => by have := Z.H.mem (hmr hy); omega⟩
  have hroot := Z.A.root
  unfold pushA
  refine wp_place (by omega) (by omega) (hSl p (by omega) (by omega) (by omega)) (by rw [hroot]; omega) ?_
  rw [hroot]
  by_cases h0 : hd = 0
  · rw [if_neg (by omega)]
    have hn0 := Z.A.none h0
    subst hn0
    have hL : ownQ hd [] ++ ownQ hd' ns' = ownQ hd' ns' := by unfold ownQ; rw [if_pos h0]; rfl
    have H := Z.H
    rw [hL] at H
    refine wp_alloc H (hSl 1 (by omega) (by omega) (by omega)) (hSl 5 (by omega) (by omega) (by omega)) (fun q h1 h2 h3 => ⟨by omega, h3⟩) (by omega) (fun n W1 H1 f1 h5 => ?_) (fun h => .inr ⟨rfl, rfl, by omega⟩)
    have hm := H1.mem (List.mem_cons_self ..)
    refine wp_write H1 (by omega) (.inl (by omega)) (hSl p (by omega) (by omega) (by omega)) (by omega) fun H2 f2 => ?_
    have hown : ownQ n [] = [n] := by unfold ownQ; rw [if_neg (by omega)]; rfl
    refine push_tail (hd := n) (ns := []) (p := p) (by rw [hown]; exact H2) (by omega) (by rw [f2, if_pos (by omega)]) ?_ Z.rr (.inl ⟨rfl, rfl⟩) hx (by omega) (fun n2 W3 g5 Z3 => .inl ⟨rfl, rfl, rfl, by rw [f2, if_neg (by omega)] at g5; omega, n, n2, Z3⟩) (fun h => .inr ⟨rfl, rfl, ?_⟩)
    · have hnd1 := H1.nd
      rw [List.nodup_cons] at hnd1
      refine Z.B.keep ?_ fun y hy => ?_
      · rw [f2, if_neg (by omega), f1 _ (by omega) (by omega) (by omega) (by omega) (by omega)]
      · have h1 := H.mem hy
        have h2 : y + 3 ≤ n ∨ n + 3 ≤ y := by
          rcases H1.apart (List.mem_cons_of_mem _ hy) (List.mem_cons_self ..) with h | h
          · subst h; exact absurd hy hnd1.1
          · exact h
        refine ⟨?_, ?_⟩
        · rw [f2, if_neg (by omega), f1 _ (by omega) (by omega) (by omega) (by omega) (by omega)]
        · rw [f2, if_neg (by omega), f1 _ (by omega) (by omega) (by omega) (by omega) (by omega)]
    · rw [f2, if_neg (by omega)] at h
      omega
  · rw [if_pos h0]
    have hmh := Z.H.mem (List.mem_append.2 (.inl (own_hd (ns := ns) h0)))
    have hfr := Z.front h0
    have hSh : SqP p' (ownQ hd' ns') hd := by
      refine ⟨by omega, fun y hy => ?_⟩
      have hd1 := (List.nodup_append.1 Z.H.nd).2.2 hd (own_hd (ns := ns) h0) y hy
      rcases Z.H.apart (List.mem_append.2 (.inl (own_hd (ns := ns) h0))) (hmr hy) with h | h
      · exact absurd h hd1
      · omega
    refine wp_place (by omega) (by omega) hSh (by omega) ?_
    refine push_tail Z.H h0 hroot Z.B Z.rr ?_ hx (by omega) (fun n W3 g5 Z3 => .inl ⟨rfl, rfl, rfl, g5, hd, n, Z3⟩) (fun h => .inr ⟨rfl, rfl, by omega⟩)
    rcases hfr.2 with h | h
    · exact .inl h
    · exact .inr ⟨h.1, h.2, Z.A.chain h0, Z.A.last h0⟩

def TakeQ (W : List Int) (T : Nat) (p hd p' hd' : Int) (ns ns' : List (Int × Int)) (o : Option (Int × Bool)) (e : Int) (W' F : List Int) : Prop :=
  e = 0 ∧ wordAt W 5 ≤ wordAt W' 5 ∧ ((ns = [] ∧ o = some (0, false) ∧ F = [] ∧ W' = W) ∨ ∃ a x ns2, ns = (a, x) :: ns2 ∧ o = some (x, true) ∧ F = [a] ∧ TwoQ W' T [a] p hd ns2 p' hd' ns')
theorem take_wp (Z : TwoQ W T [] p hd ns p' hd' ns') : wpA T (SqP p' (ownQ hd' ns')) (takeAc T p) W 0 [] 0 (TakeQ W T p hd p' hd' ns ns') := by
  have hsz := Z.H.size
  have hrr := Z.rr
  have hhb := Z.hd_b
  have hml : ∀ {y : Int}, y ∈ ownQ hd ns → y ∈ ownQ hd ns ++ ownQ hd' ns' := fun h => List.mem_append.2 (.inl h)
  have hmr : ∀ {y : Int}, y ∈ ownQ hd' ns' → y ∈ ownQ hd ns ++ ownQ hd' ns' := fun h => List.mem_append.2 (.inr h)
  have hnd := Z.H.nd
  have hdis : ∀ y ∈ ownQ hd ns, ∀ z ∈ ownQ hd' ns', y ≠ z := (List.nodup_append.1 hnd).2.2
  have hSo : ∀ y ∈ ownQ hd ns, ∀ q : Int, (q = y ∨ q = y + 1 ∨ q = y - 1) → SqP p' (ownQ hd' ns') q := by
    intro y hy q hq
    have h1 := Z.H.mem (hml hy)
    refine ⟨by omega, fun z hz => ?_⟩
    have h2 := hdis y hy z hz
    rcases Z.H.apart (hml hy) (hmr hz) with h | h | h
    · exact absurd h h2
    · omega
    · omega
  have hroot := Z.A.root
  unfold takeAc
  refine wp_place (by omega) (by omega) ⟨by omega, fun y hy => by have := Z.H.mem (hmr hy); omega⟩ (by rw [hroot]; omega) ?_
  rw [hroot]
  by_cases h0 : hd = 0
  · rw [if_pos h0]
    exact ⟨rfl, Int.le_refl _, .inl ⟨Z.A.none h0, rfl, rfl, rfl⟩⟩
  rw [if_neg h0]
  have hhd := own_hd (ns := ns) h0
  have hmh := Z.H.mem (hml hhd)
  have hfr := Z.front h0
  refine wp_place (by omega) (by omega) (hSo hd hhd _ (.inl rfl)) (by omega) ?_
  have hch := Z.A.chain h0
  cases ns with
  | nil =>
    have hch : wordAt W hd.toNat = 0 := hch
    rw [hch, if_pos rfl]
    exact ⟨rfl, Int.le_refl _, .inl ⟨rfl, rfl, rfl, rfl⟩⟩
  | cons m ns2 =>
    obtain ⟨a, x⟩ := m
    obtain ⟨c1, c2, c3⟩ := hch
    dsimp only at c1 c2 c3
    have ham : a ∈ ownQ hd ((a, x) :: ns2) := own_ns (List.mem_cons_self ..)
    have hma := Z.H.mem (hml ham)
    rw [c1, if_neg (by omega)]
    refine wp_read (by omega) (by omega) (hSo a ham _ (.inl rfl)) ?_
    refine wp_read (by omega) (by omega) (hSo a ham _ (.inr (.inl rfl))) ?_
    rw [c2]
    have hwb := wordAt_b Z.H.nn (a + 1).toNat
    have hnda := (List.nodup_append.1 hnd).1
    unfold ownQ at hnda
    rw [if_neg h0] at hnda
    simp only [List.cons_append, List.nil_append, List.map_cons, List.nodup_cons, List.mem_cons, not_or] at hnda
    have hah : a ≠ hd := fun h => hnda.1.1 h.symm
    have hah3 : a + 3 ≤ hd ∨ hd + 3 ≤ a := (Z.H.apart (hml ham) (hml hhd)).resolve_left hah
    refine wp_write Z.H hwb (.inr ⟨hd, hml hhd, .inl rfl⟩) (hSo hd hhd _ (.inl rfl)) (by omega) fun H2 f2 => ?_
    refine wp_free H2 (hml ham) (hSo a ham _ (.inr (.inr rfl))) (by omega) fun W3 H3 f3 => ?_
    have f23 : ∀ q : Nat, 0 < q → q < T → (q : Int) + 1 ≠ a → (q : Int) ≠ hd → wordAt W3 q = wordAt W q := by
      intro q h1 h2 h3 h4
      rw [f3 q h1 h2 h3, f2, if_neg (by omega)]
    have hkeep : ∀ y ∈ ownQ hd ns2 ++ ownQ hd' ns', y ∈ ownQ hd ((a, x) :: ns2) ++ ownQ hd' ns' ∧ y ≠ a := by
      intro y hy
      rcases List.mem_append.1 hy with hy | hy
      · refine ⟨?_, ?_⟩
        · refine List.mem_append.2 (.inl ?_)
          unfold ownQ at hy ⊢
          rw [if_neg h0] at hy ⊢
          rcases List.mem_append.1 hy with hy | hy
          · exact List.mem_append.2 (.inl hy)
          · exact List.mem_append.2 (.inr (List.mem_cons_of_mem _ hy))
        · rintro rfl
          unfold ownQ at hy
          rw [if_neg h0] at hy
          rcases List.mem_append.1 hy with hy | hy
          · rw [List.mem_singleton] at hy; exact hah hy
          · exact hnda.2.1 hy
      · exact ⟨hmr hy, fun h => hdis a ham y hy h.symm⟩
    refine ⟨rfl, by rw [f23 5 (by omega) (by omega) (by omega) (by omega)]; exact Int.le_refl _, .inr ⟨a, x, ns2, rfl, rfl, rfl, H3.perm ?_ ?_, ⟨?_, fun h => absurd h h0, fun _ => ?_, fun _ b y hl => ?_⟩, ?_, Z.rr⟩⟩
    · intro y
      rw [hnd.mem_erase_iff]
      constructor
      · intro hy
        exact ⟨(hkeep y hy).2, (hkeep y hy).1⟩
      · rintro ⟨hne, hy⟩
        rcases List.mem_append.1 hy with hy | hy
        · refine List.mem_append.2 (.inl ?_)
          unfold ownQ at hy ⊢
          rw [if_neg h0] at hy ⊢
          rcases List.mem_append.1 hy with hy | hy
          · exact List.mem_append.2 (.inl hy)
          · rcases List.mem_cons.1 hy with hy | hy
            · exact absurd hy hne
            · exact List.mem_append.2 (.inr hy)
        · exact List.mem_append.2 (.inr hy)
    · have e : (ownQ hd ((a, x) :: ns2) ++ ownQ hd' ns').erase a = ownQ hd ns2 ++ ownQ hd' ns' := by
        unfold ownQ
        rw [if_neg h0]
        simp only [List.cons_append, List.nil_append, List.map_cons]
        rw [List.erase_cons_tail (by simpa using fun h => hah h.symm), List.erase_cons_head]
      rw [← e]
      exact hnd.erase _
    · rw [f23 _ (by omega) (by omega) (by omega) (by omega)]
      exact hroot
    · have e : wordAt W3 hd.toNat = wordAt W (a + 1).toNat := by
        rw [f3 _ (by omega) (by omega) (by omega), f2, if_pos (by omega)]
      rw [e]
      refine c3.keep fun m hm => ?_
      have hmm : m.1 ∈ ownQ hd ns2 ++ ownQ hd' ns' := List.mem_append.2 (.inl (own_ns hm))
      have hk := hkeep _ hmm
      have h1 := Z.H.mem hk.1
      have h2 := (Z.H.apart hk.1 (hml ham)).resolve_left hk.2
      have h3 : m.1 ≠ hd := by
        intro e
        exact hnda.1.2 (by rw [← e]; exact List.mem_map.2 ⟨_, hm, rfl⟩)
      have h4 := (Z.H.apart hk.1 (hml hhd)).resolve_left h3
      exact ⟨f23 _ (by omega) (by omega) (by omega) (by omega), f23 _ (by omega) (by omega) (by omega) (by omega)⟩
    · rw [f23 _ (by omega) (by omega) (by omega) (by omega)]
      refine Z.A.last h0 b y ?_
      cases ns2 with
      | nil => simp at hl
      | cons m3 ns3 => rw [List.getLast?_cons_cons]; exact hl
    · refine Z.B.keep (f23 _ (by omega) (by omega) (by omega) (by omega)) fun y hy => ?_
      have h1 := Z.H.mem (hmr hy)
      have h2 := (Z.H.apart (hmr hy) (hml ham)).resolve_left (fun h => hdis a ham y hy h.symm)
      have h4 := (Z.H.apart (hmr hy) (hml hhd)).resolve_left (fun h => hdis hd hhd y hy h.symm)
      exact ⟨f23 _ (by omega) (by omega) (by omega) (by omega), f23 _ (by omega) (by omega) (by omega) (by omega)⟩

theorem all_tail {S : Int → Prop} (Z : TwoQ W T fr p hd ns p' hd' ns') (hS : ∀ y ∈ ownQ hd ns, S y ∧ S (y + 1)) : ∀ {post pre : List (Int × Int)} {m : Nat} {a s : Int} {Q : Option (List Int) → Int → List Int → List Int → Prop}, ns = pre ++ post → NCh W a post → post.length < m → s + post.length ≤ 2048 → Q (some (ns.map (·.2))) 0 W [] →
    wpA T S (allL m a (pre.map (·.2))) W 0 [] s Q := by
  intro post
  induction post with
  | nil =>
    intro pre m a s Q h1 h2 h3 h4 h5
    obtain ⟨m, rfl⟩ : ∃ k, m = k + 1 := ⟨m - 1, by simp at h3; omega⟩
    have h2 : a = 0 := h2
    unfold allL
    rw [if_pos h2]
    rw [h1, List.append_nil] at h5
    exact h5
  | cons n post ih =>
    intro pre m a s Q h1 h2 h3 h4 h5
    obtain ⟨m, rfl⟩ : ∃ k, m = k + 1 := ⟨m - 1, by simp at h3; omega⟩
    obtain ⟨b, x⟩ := n
    obtain ⟨c1, c2, c3⟩ := h2
    dsimp only at c1 c2 c3
    subst c1
    have hbm : a ∈ ownQ hd ns := own_ns (n := (a, x)) (by rw [h1]; simp)
    have hmb := Z.H.mem (List.mem_append.2 (.inl hbm))
    have hsz := Z.H.size
    have hb := hS a hbm
    have hnx : wordAt W (a + 1).toNat < 2147483648 := by
      cases post with
      | nil => have c3 : wordAt W (a + 1).toNat = 0 := c3; omega
      | cons n2 post =>
        have := c3.1
        have hm2 : n2.1 ∈ ownQ hd ns := own_ns (n := n2) (by rw [h1]; simp)
        have := Z.H.mem (List.mem_append.2 (.inl hm2))
        omega
    unfold allL
    rw [if_neg (by omega)]
    refine ⟨by simp at h4; omega, ?_⟩
    refine wp_read (by omega) (by omega) hb.1 ?_
    refine wp_place (by omega) (by omega) hb.2 hnx ?_
    rw [c2]
    have := ih (pre := pre ++ [(a, x)]) (m := m) (a := wordAt W (a + 1).toNat) (s := s + 1) (Q := Q) (by rw [h1]; simp) c3 (by simp at h3; omega) (by simp at h4; omega) h5
    rw [List.map_append] at this
    exact this
theorem all_wp {S : Int → Prop} (Z : TwoQ W T fr p hd ns p' hd' ns') (hS0 : S p) (hS : ∀ y ∈ ownQ hd ns, S y ∧ S (y + 1)) {Q : Option (List Int) → Int → List Int → List Int → Prop} (h : Q (some (ns.map (·.2))) 0 W []) : wpA T S (allA p) W 0 [] 0 Q := by
  have hsz := Z.H.size
  have hrr := Z.rr
  have hhb := Z.hd_b
  have hroot := Z.A.root
  have hfew := Z.few
  unfold allA
  refine wp_place (by omega) (by omega) hS0 (by rw [hroot]; omega) ?_
  rw [hroot]
  by_cases h0 : hd = 0
  · rw [if_pos h0]
    rw [Z.A.none h0] at h
    exact h
  · rw [if_neg h0]
    have hhd := own_hd (ns := ns) h0
    have hmh := Z.H.mem (List.mem_append.2 (.inl hhd))
    have hfr := Z.front h0
    refine wp_place (by omega) (by omega) (hS hd hhd).1 (by omega) ?_
    exact all_tail (pre := []) Z hS rfl (Z.A.chain h0) (by omega) (by omega) h

/-- what was freed is given back -/
theorem give_two {a : Int} (Z : TwoQ W T [a] p hd ns p' hd' ns') : giveA (wholeV W 96) a = (0, oneV W 96 [(a, wordAt W 1), (1, a)] []) ∧ TwoQ (applyZ W [(a, wordAt W 1), (1, a)]) T [] p hd ns p' hd' ns' ∧ wordAt W 5 ≤ wordAt (applyZ W [(a, wordAt W 1), (1, a)]) 5 := by
  obtain ⟨⟨sts, bs, ls, H⟩, A, B, rr⟩ := Z
  have P := H.P
  have hlo := P.lo
  have ha := H.fre a (List.mem_cons_self ..)
  have hma := P.mem ha.1
  have hg := give_blk P ha.1 ha.2
  have hone : ((1 : Int).toNat) = 1 := rfl
  rw [hone] at hg
  have P' := P.given ha.1 ha.2
  rw [hone] at P'
  have hstat : ∀ j, wordAt (sts.set a.toNat 3) j = if a.toNat = j then 3 else wordAt sts j := fun j => set_at sts _ j 3 (by have := P.slen; have := P.hi; omega)
  have hat : ∀ q : Nat, 0 < q → q < T → wordAt (applyZ W [(a, wordAt W 1), (1, a)]) q = if (1 : Int) = (q : Int) then a else if a = (q : Int) then wordAt W 1 else wordAt W q := fun q h1 h2 => apply_two P.len P.lo P.hi h1 h2
  have hne : ∀ {y : Int}, y ∈ ownQ hd ns ++ ownQ hd' ns' → y ≠ a ∧ (y + 3 ≤ a ∨ a + 3 ≤ y) ∧ 15 ≤ y ∧ y + 2 ≤ T := by
    intro y hy
    have h1 := H.own y hy
    have h2 := P.mem h1.1
    have h3 : y ≠ a := by
      rintro rfl
      have := ha.2
      omega
    exact ⟨h3, (P.apart h1.1 ha.1).resolve_left h3, h2.1, h2.2.1⟩
  refine ⟨hg, ⟨⟨_, _, _, P', ?_, ?_, ?_, ?_, H.nodup, List.nodup_nil, H.one⟩, A.keep ?_ ?_, B.keep ?_ ?_, rr⟩, by rw [hat 5 (by omega) (by omega), if_neg (by omega), if_neg (by omega)]; exact Int.le_refl _⟩
  · intro y hy
    have h1 := hne hy
    rw [hstat, if_neg (by omega)]
    exact H.own y hy
  · intro b hb hs
    rw [hstat] at hs
    split at hs
    · omega
    · exact H.live b hb hs
  · intro b hb hs
    rw [hstat] at hs
    have h3 := P.mem (b := b.1) (c := b.2) hb
    split at hs
    · omega
    · rename_i h
      have := H.rest b hb hs
      rw [List.mem_singleton] at this
      exact absurd (by rw [this]) h
  · intro y hy; cases hy
  · rw [hat _ (by omega) (by omega), if_neg (by omega), if_neg (by omega)]
  · intro y hy
    have h1 := hne (List.mem_append.2 (.inl hy))
    exact ⟨by rw [hat _ (by omega) (by omega), if_neg (by omega), if_neg (by omega)], by rw [hat _ (by omega) (by omega), if_neg (by omega), if_neg (by omega)]⟩
  · rw [hat _ (by omega) (by omega), if_neg (by omega), if_neg (by omega)]
  · intro y hy
    have h1 := hne (List.mem_append.2 (.inr hy))
    exact ⟨by rw [hat _ (by omega) (by omega), if_neg (by omega), if_neg (by omega)], by rw [hat _ (by omega) (by omega), if_neg (by omega), if_neg (by omega)]⟩
theorem fresh_two : TwoQ (freshA 256) 256 [] 10 0 [] 11 0 [] := by
  obtain ⟨bs, ls, P⟩ := fresh_part 256
  have hbs : bs = [] := by
    have ht := P.tile
    rw [show wordAt (freshA 256) 5 = 14 from rfl] at ht
    cases bs with
    | nil => rfl
    | cons b bs =>
      have h1 := ht.2.2.le
      have h2 := sizeA_pos ht.2.1
      omega
  have hlen := P.len
  have hat : ∀ q, q ≠ 5 → wordAt (freshA 256) q = 0 := by
    intro q hq
    unfold freshA
    rw [set_at _ _ _ _ (by simp [szZ]; omega), rep_at, if_neg (by omega)]
  have hr : ∀ x, wordAt (List.replicate 257 (0 : Int)) x = 0 := rep_at 257
  have P2 := P.loose
  refine ⟨⟨_, _, _, P2, (fun y hy => by cases hy), ?_, ?_, (fun y hy => by cases hy), List.nodup_nil, List.nodup_nil, fun b hb => by rw [hbs] at hb; cases hb⟩, ⟨hat _ (by decide), fun _ => rfl, fun h => absurd rfl h, fun h => absurd rfl h⟩, ⟨hat _ (by decide), fun _ => rfl, fun h => absurd rfl h, fun h => absurd rfl h⟩, by omega⟩
  · intro b hb hs; rw [hr] at hs; omega
  · intro b hb hs; rw [hr] at hs; omega
end Go.Proofs.Ythajhlachmgdoaa.arenaParts
