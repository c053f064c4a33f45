/- A call on a draft, of which words are known or not: it goes as on the words, or asks for one of those that it may ask for. -/
import Derived.Test.YtpohfcljfemhlaaDraftM
import Derived.Test.YtpohfcljfemhlaaArenaFull
namespace Go.Proofs.Ytpohfcljfemhlaa
open Go Go.Ae
variable {α : Type}

/-- the words as they stand with the cells written -/
def Wd (zs : List Int) (sz : Nat) (C : List Cl) (W : List Int) : Prop := W.length = sz ∧ ∀ p : Nat, 0 < p → p < sz → wordAt W p = (getC (p : Int) C).getD (wordAt zs p)
/-- the words of a view, as far as they are known -/
def KSub (zs : List Int) (K : List Cl) : Prop := ∀ p x, getC p K = some x → x = wordAt zs p.toNat
def wpA (sz : Nat) (S : Int → Prop) : Act α → List Int → Nat → List Int → Int → (Option α → Int → List Int → List Int → Prop) → Prop
  | .ret a, W, _, F, _, Q => Q (some a) 0 W F
  | .fail e, W, _, F, _, Q => e ≠ 0 ∧ e ≠ 11 ∧ Q none e W F
  | .read p k, W, r, F, s, Q => (1 ≤ p ∧ p < (sz : Int) ∧ S p) ∧ wpA sz S (k (wordAt W p.toNat)) W r F s Q
  | .take cs k, W, r, F, s, Q => (∀ c ∈ cs, 1 ≤ c.1 ∧ c.1 < (sz : Int) ∧ S c.1) ∧ r + cs.length ≤ 96 ∧ wpA sz S k (cs.foldl putZ W) (r + cs.length) F s Q
  | .note b k, W, r, F, s, Q => wpA sz S k W r (F ++ [b]) s Q
  | .step k, W, r, F, s, Q => s + 1 ≤ 2048 ∧ wpA sz S k W r F (s + 1) Q
theorem wpA_mono {sz : Nat} {S : Int → Prop} : ∀ {a : Act α} {W : List Int} {r : Nat} {F : List Int} {s : Int} {Q Q' : Option α → Int → List Int → List Int → Prop}, wpA sz S a W r F s Q → (∀ o e W F, Q o e W F → Q' o e W F) → wpA sz S a W r F s Q' := by
  intro a
  induction a with
  | ret a => intro W r F s Q Q' h hq; exact hq _ _ _ _ h
  | fail e => intro W r F s Q Q' h hq; exact ⟨h.1, h.2.1, hq _ _ _ _ h.2.2⟩
  | read p k ih => intro W r F s Q Q' h hq; exact ⟨h.1, ih _ h.2 hq⟩
  | take cs k ih => intro W r F s Q Q' h hq; exact ⟨h.1, h.2.1, ih h.2.2 hq⟩
  | note b k ih => intro W r F s Q Q' h hq; exact ih h hq
  | step k ih => intro W r F s Q Q' h hq; exact ⟨h.1, ih h.2 hq⟩

theorem Wd.put {zs : List Int} {sz : Nat} {C : List Cl} {W : List Int} {a x : Int} (h : Wd zs sz C W) (ha : 1 ≤ a ∧ a < (sz : Int)) : Wd zs sz (putC a x C) (putZ W (a, x)) := by
  refine ⟨by rw [putZ_len]; exact h.1, fun p h0 hp => ?_⟩
  rw [putZ_at, getC_put, h.1]
  by_cases e : a = (p : Int)
  · rw [if_pos ⟨e, ha.1, by omega⟩, if_pos e.symm]; rfl
  · rw [if_neg (fun h' => e h'.1), if_neg (fun h' => e h'.symm)]
    exact h.2 p h0 hp
theorem Wd.puts {zs : List Int} {sz : Nat} : ∀ {cs C : List Cl} {W : List Int}, Wd zs sz C W → (∀ c ∈ cs, 1 ≤ c.1 ∧ c.1 < (sz : Int)) → Wd zs sz (putsC C cs) (cs.foldl putZ W) := by
  intro cs
  induction cs with
  | nil => intro C W h _; exact h
  | cons c cs ih => intro C W h hc; exact ih (h.put (hc c (List.mem_cons_self ..))) fun d hd => hc d (List.mem_cons_of_mem _ hd)
theorem put_mem {p v : Int} {c : Cl} : ∀ {l : List Cl}, c ∈ putC p v l → c ∈ l ∨ c = (p, v) := by
  intro l
  induction l with
  | nil => intro h; exact .inr (List.mem_singleton.1 h)
  | cons d l ih =>
    intro h
    unfold putC at h
    split at h
    · rcases List.mem_cons.1 h with h | h
      · exact .inr h
      · exact .inl (List.mem_cons_of_mem _ h)
    · rcases List.mem_cons.1 h with h | h
      · exact .inl (by rw [h]; exact List.mem_cons_self ..)
      · exact (ih h).imp (List.mem_cons_of_mem _) id
theorem puts_mem {c : Cl} : ∀ {cs l : List Cl}, c ∈ putsC l cs → c ∈ l ∨ ∃ d ∈ cs, d.1 = c.1 := by
  intro cs
  induction cs with
  | nil => intro l h; exact .inl h
  | cons d cs ih =>
    intro l h
    rcases ih h with h | ⟨e, he, h⟩
    · rcases put_mem h with h | h
      · exact .inl h
      · exact .inr ⟨d, List.mem_cons_self .., by rw [h]⟩
    · exact .inr ⟨e, List.mem_cons_of_mem _ he, h⟩
/-- a draft's view with one level -/
def lvV (sz : Nat) (K C : List Cl) (F : List Int) (nd : Int) : VM := ⟨sz, K, 96, [(C, F)], nd⟩
theorem lv_take {sz : Nat} {K C : List Cl} {F : List Int} {nd : Int} {cs : List Cl} (hs : sz ≤ 256) (hi : ∀ c ∈ cs, 1 ≤ c.1 ∧ c.1 < (sz : Int)) (hl : C.length + cs.length ≤ 96) :
    takeV (lvV sz K C F nd) cs = (0, lvV sz K (putsC C cs) F nd) := by
  unfold takeV
  rw [if_pos (show ∀ c ∈ cs, 1 ≤ c.1 ∧ c.1 < ((lvV sz K C F nd).sz : Int) from hi)]
  rw [show takeL (lvV sz K C F nd).most (lvV sz K C F nd).lv (lvV sz K C F nd).lv cs = (0, [(putsC C cs, F)]) from takeL_one (fun c hc => by have := hi c hc; omega) hl]; rfl
theorem lv_read {sz : Nat} {K C : List Cl} {F : List Int} {nd p : Int} (hp : 1 ≤ p ∧ p < (sz : Int)) : readV (lvV sz K C F nd) p = match getC p C with
    | some x => ((x, 0), lvV sz K C F nd)
    | none => match getC p K with
      | some x => ((x, 0), lvV sz K C F nd)
      | none => ((0, 11), lvV sz K C F p) := by
  unfold readV
  rw [if_pos (show 1 ≤ p ∧ p < ((lvV sz K C F nd).sz : Int) from hp)]
  have hL : getL p (lvV sz K C F nd).lv = getC p C := by
    show (match getC p C with | some v => some v | none => getL p []) = _
    cases getC p C <;> rfl
  rw [hL]
  rfl

theorem sim_run {zs : List Int} {sz : Nat} {S : Int → Prop} (hs : sz ≤ 256) : ∀ {a : Act α} {W : List Int} {r : Nat} {C : List Cl} {F : List Int} {s : Int} {Q : Option α → Int → List Int → List Int → Prop},
    wpA sz S a W r F s Q → Wd zs sz C W → C.length ≤ r → UnC C → InC C → r ≤ 96 →
    ∃ o e W' C' F' s', e ≠ 11 ∧ (e = 0 → o.isSome) ∧ Q o e W' F' ∧ Wd zs sz C' W' ∧ UnC C' ∧ InC C' ∧ C'.length ≤ 96 ∧ (e = 0 → ∀ c ∈ C', c ∈ C ∨ S c.1) ∧ ∀ K nd, KSub zs K →
      ((∃ C'' F'' q s'', runA a ⟨lvV sz K C F nd, 0, s⟩ = (none, ⟨lvV sz K C'' F'' q, 11, s''⟩) ∧ 1 ≤ q ∧ q < (sz : Int) ∧ S q ∧ getC q K = none) ∨
      runA a ⟨lvV sz K C F nd, 0, s⟩ = (o, ⟨lvV sz K C' F' nd, e, s'⟩)) := by
  intro a
  induction a with
  | ret a =>
    intro W r C F s Q h hW hr hu hi hr2
    exact ⟨some a, 0, W, C, F, s, by omega, fun _ => rfl, h, hW, hu, hi, by omega, fun _ c hc => .inl hc, fun K nd hK => .inr rfl⟩
  | fail e =>
    intro W r C F s Q h hW hr hu hi hr2
    exact ⟨none, e, W, C, F, s, h.2.1, fun he => absurd he h.1, h.2.2, hW, hu, hi, by omega, fun he => absurd he h.1, fun K nd hK => .inr rfl⟩
  | read p k ih =>
    intro W r C F s Q h hW hr hu hi hr2
    obtain ⟨⟨p1, p2, p3⟩, h⟩ := h
    have hw := hW.2 p.toNat (by omega) (by omega)
    rw [show ((p.toNat : Nat) : Int) = p by omega] at hw
    obtain ⟨o, e, W', C', F', s', q1, q2, q3, q4, q5, q6, q7, q9, q8⟩ := ih _ h hW hr hu hi hr2
    refine ⟨o, e, W', C', F', s', q1, q2, q3, q4, q5, q6, q7, q9, fun K nd hK => ?_⟩
    rw [runA, if_neg (by simp)]
    dsimp only
    rw [lv_read ⟨p1, p2⟩]
    cases hc : getC p C with
    | some x =>
      rw [hc] at hw
      have hx : x = wordAt W p.toNat := hw.symm
      subst hx
      dsimp only
      rw [if_pos rfl]
      exact q8 K nd hK
    | none =>
      rw [hc] at hw
      cases hk : getC p K with
      | some x =>
        have hx : x = wordAt W p.toNat := (hK p x hk).trans hw.symm
        subst hx
        dsimp only
        rw [if_pos rfl]
        exact q8 K nd hK
      | none =>
        dsimp only
        rw [if_neg (by omega)]
        exact .inl ⟨C, F, p, s, rfl, p1, p2, p3, hk⟩
  | take cs k ih =>
    intro W r C F s Q h hW hr hu hi hr2
    obtain ⟨h1, h2, h3⟩ := h
    have hin : ∀ c ∈ cs, 1 ≤ c.1 ∧ c.1 < (sz : Int) := fun c hc => ⟨(h1 c hc).1, (h1 c hc).2.1⟩
    have hlen := puts_len (cs := cs) (l := C)
    obtain ⟨o, e, W', C', F', s', q1, q2, q3, q4, q5, q6, q7, q9, q8⟩ := ih h3 (hW.puts hin) (by omega) (hu.puts (cs := cs)) (hi.puts (fun c hc => by have := hin c hc; omega)) h2
    refine ⟨o, e, W', C', F', s', q1, q2, q3, q4, q5, q6, q7, fun he c hc => ?_, fun K nd hK => ?_⟩
    · rcases q9 he c hc with h | h
      · exact (puts_mem h).imp id fun h => by
          obtain ⟨d, hd, he⟩ := h
          rw [← he]; exact (h1 d hd).2.2
      · exact .inr h
    rw [runA, if_neg (by simp)]
    dsimp only
    rw [lv_take hs hin (by omega)]
    dsimp only
    rw [if_pos rfl]
    exact q8 K nd hK
  | note b k ih =>
    intro W r C F s Q h hW hr hu hi hr2
    obtain ⟨o, e, W', C', F', s', q1, q2, q3, q4, q5, q6, q7, q9, q8⟩ := ih (F := F ++ [b]) h hW hr hu hi hr2
    refine ⟨o, e, W', C', F', s', q1, q2, q3, q4, q5, q6, q7, q9, fun K nd hK => ?_⟩
    rw [runA, if_neg (by simp)]
    rcases q8 K nd hK with ⟨C'', F'', q, s'', h1, h2⟩ | h1
    · exact .inl ⟨C'', F'', q, s'', h1, h2⟩
    · exact .inr h1
  | step k ih =>
    intro W r C F s Q h hW hr hu hi hr2
    obtain ⟨o, e, W', C', F', s', q1, q2, q3, q4, q5, q6, q7, q9, q8⟩ := ih h.2 hW hr hu hi hr2
    refine ⟨o, e, W', C', F', s', q1, q2, q3, q4, q5, q6, q7, q9, fun K nd hK => ?_⟩
    rw [runA, if_neg (by simp)]
    dsimp only
    rw [if_neg (by have := h.1; omega)]
    exact q8 K nd hK
end Go.Proofs.Ytpohfcljfemhlaa
