/- Lemmas for 'quietus/quietuslaw20.TreeApart': Trees: a turn on the store: the plain law; Trees: link, seek: the plain law; Trees: straight: the plain law; Trees: straight whole: the plain law; Trees: both sides at once; small acts on frames: the plain law; Trees: raised: the plain law; Trees: two objects in a heap; put, get: the plain law; Trees: lent, lowered: the plain law; Trees: lowered: the plain law; Trees: a node is cut out: the plain law; Trees: get, range; what was freed is given back; a fresh heap: the plain law; What a call on a draft comes to, on words that are known or not: the plain law; Trees: what a call comes to, on words that are known or not: the plain law; Trees: a node goes: the walks of lent and heir; Trees: a black node lacks: the walk of lowered; Trees: a node is cut out: the walk of cut; Trees: Del: the walks; Are two lists of pairs the same?; Steps more. No condition. -/
import Derived.Test.YtpohfcljfemhlaaGreatTreeApartM2
import Derived.Test.YtpohfcljfemhlaaGreatTreeApartM1
namespace Go.Proofs.YtpohfcljfemhlaaGreat.arenaParts
open Go Go.Ae arenaPlays
set_option maxRecDepth 100000
variable {α : Type} {W W0 : List Int} {T : Nat} {p p' rv : Int} {L fr L' F : List Int} {nd : Int → Nd} {r : Nat} {s : Int} {Q : Option α → Int → List Int → List Int → Prop}
theorem wG (Z : Hp W T p L fr p' L' W0 rv nd) : ∀ {t : Tr}, (∀ x ∈ ads t, x ∈ L) → 0 ≤ rt t ∧ rt t < 256 := by
  intro t h
  cases t with
  | nil => show (0 : Int) ≤ 0 ∧ (0 : Int) < 256; omega
  | node a c l k v rr =>
    have := Z.b (h a (List.mem_cons_self ..))
    have := Z.H.size
    show 0 ≤ a ∧ a < 256
    omega
theorem kX {x : Int} {c : Bool} : (x * 2 + zf c) / 2 = x := by have := qJO c; omega
theorem Yj {x : Int} {c : Bool} : (x * 2 + zf c) % 2 = zf c := by have := qJO c; omega
theorem Rep.off {nd nd' : Int → Nd} : ∀ {t : Tr}, Rep nd t → (∀ x ∈ ads t, nd' x = nd x) → Rep nd' t := by
  intro t
  induction t with
  | nil => intro _ _; exact trivial
  | node a c l k v rr ihl ihr =>
    intro h e
    exact ⟨(e a (List.mem_cons_self ..)).trans h.1, ihl h.2.1 fun x hx => e x (List.mem_cons_of_mem _ (List.mem_append.2 (.inl hx))), ihr h.2.2 fun x hx => e x (List.mem_cons_of_mem _ (List.mem_append.2 (.inr hx)))⟩
theorem RepZ.off {nd nd' : Int → Nd} {rv : Int} : ∀ {Z : List Fr} {h : Int}, RepZ nd rv Z h → (∀ x ∈ jn Z, nd' x = nd x) → RepZ nd' rv Z h := by
  intro Z
  induction Z with
  | nil => intro h hz _; exact hz
  | cons f Z ih =>
    intro h hz e
    exact ⟨(e f.a (List.mem_cons_self ..)).trans hz.1, hz.2.1.off fun x hx => e x (List.mem_cons_of_mem _ (List.mem_append.2 (.inl hx))), ih hz.2.2 fun x hx => e x (List.mem_cons_of_mem _ (List.mem_append.2 (.inr hx)))⟩
theorem Jw {a b k v kb vb : Int} {c cb : Bool} {l rl rr : Tr} {K : Int → Act α} (Z : Hp W T p L fr p' L' W0 rv nd) (R : Rep nd (.node a c l k v (.node b cb rl kb vb rr))) (hL : ∀ x ∈ ads (.node a c l k v (.node b cb rl kb vb rr)), x ∈ L)
    (N : (ads (.node a c l k v (.node b cb rl kb vb rr))).Nodup) (hr : r + 2 ≤ 96)
    (w : ∀ W' nd', Hp W' T p L fr p' L' W0 rv nd' → Rep nd' (.node b cb (.node a c l k v rl) kb vb rr) → (∀ x, x ≠ a → x ≠ b → nd' x = nd x) → wpA T (SqT p' L') (K b) W' (r + 2) F s Q) :
    wpA T (SqT p' L') (xl a 0 K) W r F s Q := by
  obtain ⟨R1, R2, R3, R4, R5⟩ := R
  simp only [ads, List.nodup_cons, List.mem_cons, List.mem_append, List.nodup_append, not_or] at N
  have ha : a ∈ L := hL a (by simp [ads])
  have hb : b ∈ L := hL b (by simp [ads])
  have bl := wG Z (t := rl) fun x hx => hL x (by simp [ads]; exact .inr (.inr (.inr (.inl hx))))
  have bbb := Z.b hb
  have bba := Z.b ha
  have hsz := Z.H.size
  have hab : a ≠ b := N.1.2.1
  unfold xl
  rw [show (1 : Int) - 0 = 1 from rfl]
  refine vt Z ha (by rw [R1]; show b < _; omega) ?_
  rw [R1]
  show wpA T (SqT p' L') (jQ b 0 fun c => xC a 1 c (xC b 0 a (K b))) W r F s Q
  refine wn Z hb (by rw [R3]; show (rt rl * 2 + zf cb) / 2 < _; rw [kX]; omega) ?_
  rw [R3]
  show wpA T (SqT p' L') (xC a 1 ((rt rl * 2 + zf cb) / 2) (xC b 0 a (K b))) W r F s Q
  rw [kX]
  refine kV Z ha (by omega) (by omega) fun W1 Z1 => ?_
  refine kT Z1 hb (by omega) (by omega) fun W2 Z2 => ?_
  refine w W2 _ Z2 ⟨?_, ⟨?_, ?_, ?_⟩, ?_⟩ ?_
  · rw [xZ, jU (Ne.symm hab), R3]
    show (⟨kb, vb, a * 2 + (rt rl * 2 + zf cb) % 2, rt rr⟩ : Nd) = _
    rw [Yj]; rfl
  · rw [jU hab, xZ, R1]
  · exact R2.off fun x hx => by
      rw [jU (N.2.2.2 x hx b (.inl rfl)), jU (fun e => by subst e; exact N.1.1 hx)]
  · exact R4.off fun x hx => by
      rw [jU (fun e => by subst e; exact N.2.2.1.1.1 hx), jU (fun e => by subst e; exact N.1.2.2.1 hx)]
  · exact R5.off fun x hx => by
      rw [jU (fun e => by subst e; exact N.2.2.1.1.2 hx), jU (fun e => by subst e; exact N.1.2.2.2 hx)]
  · intro x h1 h2
    rw [jU h2, jU h1]
theorem JD {a b k v kb vb : Int} {c cb : Bool} {ll lr rr : Tr} {K : Int → Act α} (Z : Hp W T p L fr p' L' W0 rv nd) (R : Rep nd (.node a c (.node b cb ll kb vb lr) k v rr)) (hL : ∀ x ∈ ads (.node a c (.node b cb ll kb vb lr) k v rr), x ∈ L)
    (N : (ads (.node a c (.node b cb ll kb vb lr) k v rr)).Nodup) (hr : r + 2 ≤ 96)
    (w : ∀ W' nd', Hp W' T p L fr p' L' W0 rv nd' → Rep nd' (.node b cb ll kb vb (.node a c lr k v rr)) → (∀ x, x ≠ a → x ≠ b → nd' x = nd x) → wpA T (SqT p' L') (K b) W' (r + 2) F s Q) :
    wpA T (SqT p' L') (xl a 1 K) W r F s Q := by
  obtain ⟨R1, ⟨R3, R4, R5⟩, R2⟩ := R
  simp only [ads, List.nodup_cons, List.mem_cons, List.mem_append, List.nodup_append, not_or] at N
  have ha : a ∈ L := hL a (by simp [ads])
  have hb : b ∈ L := hL b (by simp [ads])
  have bl := wG Z (t := lr) fun x hx => hL x (List.mem_cons_of_mem _ (List.mem_append.2 (.inl (List.mem_cons_of_mem _ (List.mem_append.2 (.inr hx))))))
  have bbb := Z.b hb
  have bba := Z.b ha
  have hsz := Z.H.size
  have hab : a ≠ b := N.1.1.1
  unfold xl
  rw [show (1 : Int) - 1 = 0 from rfl]
  refine wn Z ha (by rw [R1]; show (b * 2 + zf c) / 2 < _; rw [kX]; omega) ?_
  rw [R1]
  show wpA T (SqT p' L') (jQ ((b * 2 + zf c) / 2) 1 fun c' => xC a 0 c' (xC ((b * 2 + zf c) / 2) 1 a (K ((b * 2 + zf c) / 2)))) W r F s Q
  rw [kX]
  refine vt Z hb (by rw [R3]; show rt lr < _; omega) ?_
  rw [R3]
  show wpA T (SqT p' L') (xC a 0 (rt lr) (xC b 1 a (K b))) W r F s Q
  refine kT Z ha (by omega) (by omega) fun W1 Z1 => ?_
  refine kV Z1 hb (by omega) (by omega) fun W2 Z2 => ?_
  refine w W2 _ Z2 ⟨?_, ?_, ?_, ?_, ?_⟩ ?_
  · rw [xZ, jU (Ne.symm hab), R3]; rfl
  · exact R4.off fun x hx => by
      rw [jU (fun e => by subst e; exact N.2.1.1.1 hx), jU (fun e => by subst e; exact N.1.1.2.1 hx)]
  · rw [jU hab, xZ, R1]
    show (⟨k, v, rt lr * 2 + (b * 2 + zf c) % 2, rt rr⟩ : Nd) = _
    rw [Yj]
  · exact R5.off fun x hx => by
      rw [jU (fun e => by subst e; exact N.2.1.1.2 hx), jU (fun e => by subst e; exact N.1.1.2.2 hx)]
  · exact R2.off fun x hx => by
      rw [jU (fun e => N.2.2.2 b (.inl rfl) x hx e.symm), jU (fun e => by subst e; exact N.1.2 hx)]
  · intro x h1 h2
    rw [jU h2, jU h1]
end Go.Proofs.YtpohfcljfemhlaaGreat.arenaParts
namespace Go.Proofs.YtpohfcljfemhlaaGreat.arenaParts
open Go Go.Ae arenaPlays
set_option maxRecDepth 100000
variable {α : Type} {W W0 : List Int} {T : Nat} {p p' rv : Int} {L fr L' F : List Int} {nd : Int → Nd} {r : Nat} {s : Int} {Q : Option α → Int → List Int → List Int → Prop}
theorem zF {Z : List Fr} : (jO Z).length = Z.length := by unfold jO; simp
theorem gB {f : Fr} {Z : List Fr} : jO (f :: Z) = jO Z ++ [(f.a, if f.s = true then (1 : Int) else 0)] := by unfold jO; simp
theorem Mg {f : Fr} {Z : List Fr} {rest : List ji} : zw (jO (f :: Z) ++ rest) Z.length = (f.a, if f.s = true then (1 : Int) else 0) := by
  unfold zw
  rw [gB, List.append_assoc, List.getElem?_append_right (by rw [zF]; exact Nat.le_refl _), zF, Nat.sub_self]
  rfl
theorem Jk {Zs : List Fr} {rest : List ji} {x0 c : Int} {k : Act α} (Z : Hp W T p L fr p' L' W0 rv nd) (R : RepZ nd rv Zs x0) (hL : ∀ x ∈ jn Zs, x ∈ L) (N : (jn Zs).Nodup) (hc : 0 ≤ c ∧ c < 2147483648) (hr : r + 1 ≤ 96)
    (w : ∀ W' rv' nd', Hp W' T p L fr p' L' W0 rv' nd' → RepZ nd' rv' Zs c → (∀ x, x ∉ jn Zs → nd' x = nd x) → wpA T (SqT p' L') k W' (r + 1) F s Q) :
    wpA T (SqT p' L') (xo p (jO Zs ++ rest) Zs.length c k) W r F s Q := by
  cases Zs with
  | nil => exact qJ1 Z (by omega) hr fun W' Z' => w W' c nd Z' rfl fun x _ => rfl
  | cons f Zs =>
    obtain ⟨R1, R2, R3⟩ := R
    simp only [jn, List.nodup_cons, List.mem_append, List.nodup_append, not_or] at N
    have hf : f.a ∈ L := hL f.a (List.mem_cons_self ..)
    show wpA T (SqT p' L') (xC (zw (jO (f :: Zs) ++ rest) Zs.length).1 (zw (jO (f :: Zs) ++ rest) Zs.length).2 c k) W r F s Q
    rw [Mg]
    dsimp only
    unfold ndF at R1
    by_cases hs : f.s = true
    · rw [if_pos hs] at R1 ⊢
      refine kV Z hf hc hr fun W' Z' => w W' rv _ Z' ⟨?_, R2.upd N.1.1, R3.upd N.1.2⟩ fun x hx => ?_
      · rw [xZ, R1]; unfold ndF; rw [if_pos hs]
      · exact jU fun e => hx (e ▸ List.mem_cons_self ..)
    · rw [if_neg hs] at R1 ⊢
      refine kT Z hf hc hr fun W' Z' => w W' rv _ Z' ⟨?_, R2.upd N.1.1, R3.upd N.1.2⟩ fun x hx => ?_
      · rw [xZ, R1]; unfold ndF; rw [if_neg hs, Yj]
      · exact jU fun e => hx (e ▸ List.mem_cons_self ..)
def Srt (l : List qm) : Prop := l.Pairwise fun a b => a.1 < b.1
theorem qXL {key : Int} {k : Int → List ji → Act α} {m : Nat} {a : Int} {way : List ji} : vM key k (m + 1) a way = if a = 0 then k 0 way else .step (.read a fun here => if here = key then k a way else
      jQ a (if here < key then 1 else 0) fun c => vM key k m c (way ++ [(a, if here < key then 1 else 0)])) := rfl
theorem qXD {key : Int} {k : Int → List ji → Act α} (Z : Hp W T p L fr p' L' W0 rv nd) : ∀ {t : Tr} {Zs : List Fr} {m : Nat} {s : Int}, RepZ nd rv Zs (rt t) → Rep nd t → (∀ x ∈ ads t, x ∈ L) → (ads t).length ≤ m → s + (ads t).length ≤ 2048 → Srt (inr t) →
    (∀ q ∈ loZ Zs, q.1 < key) → (∀ q ∈ hiZ Zs, key < q.1) →
    (∀ (Z' : List Fr) (t' : Tr) (s' : Int), zN Z' t' = zN Zs t → RepZ nd rv Z' (rt t') → Rep nd t' → (t' = .nil ∨ ∃ a c l v rr, t' = .node a c l key v rr) → (∀ q ∈ loZ Z', q.1 < key) → (∀ q ∈ hiZ Z', key < q.1) → s' ≤ s + (ads t).length → wpA T (SqT p' L') (k (rt t') (jO Z')) W r F s' Q) →
    wpA T (SqT p' L') (vM key k m (rt t) (jO Zs)) W r F s Q := by
  intro t
  induction t with
  | nil =>
    intro Zs m s hz ht hL hm hs ho hlo hhi w
    have e : vM key k m (rt .nil) (jO Zs) = k 0 (jO Zs) := by
      cases m <;> (unfold vM; rw [if_pos (show rt .nil = 0 from rfl)])
    rw [e]
    exact w Zs .nil s rfl hz ht (.inl rfl) hlo hhi (by simp [ads])
  | node a c l kk v rr ihl ihr =>
    intro Zs m s hz ht hL hm hs ho hlo hhi w
    have ha : a ∈ L := hL a (List.mem_cons_self ..)
    have hb := Z.b ha
    have hsz := Z.H.size
    have hLl : ∀ x ∈ ads l, x ∈ L := fun x hx => hL x (List.mem_cons_of_mem _ (List.mem_append.2 (.inl hx)))
    have hLr : ∀ x ∈ ads rr, x ∈ L := fun x hx => hL x (List.mem_cons_of_mem _ (List.mem_append.2 (.inr hx)))
    have hlen : (ads (.node a c l kk v rr)).length = (ads l).length + (ads rr).length + 1 := by simp [ads]
    rw [hlen] at hm hs w
    obtain ⟨m, rfl⟩ : ∃ m', m = m' + 1 := ⟨m - 1, by omega⟩
    show wpA T (SqT p' L') (vM key k (m + 1) a (jO Zs)) W r F s Q
    rw [qXL, if_neg (by omega)]
    refine ⟨by omega, ?_⟩
    have hsq := Z.sq ha (j := 0) (by omega)
    rw [Int.add_zero] at hsq
    refine wm (by omega) (by omega) hsq ?_
    rw [(Z.nds a ha).1, ht.1]
    dsimp only
    have ho2 : Srt (inr l) ∧ Srt (inr rr) ∧ (∀ q ∈ inr l, q.1 < kk) ∧ (∀ q ∈ inr rr, kk < q.1) := by
      have h := List.pairwise_append.1 (show (inr l ++ (kk, v) :: inr rr).Pairwise _ from ho)
      have h2 := List.pairwise_cons.1 h.2.1
      exact ⟨h.1, h2.2, fun q hq => h.2.2 q hq _ (List.mem_cons_self ..), fun q hq => h2.1 q hq⟩
    by_cases hk : kk = key
    · rw [if_pos hk]
      subst hk
      exact w Zs (.node a c l kk v rr) (s + 1) rfl hz ht (.inr ⟨a, c, l, v, rr, rfl⟩) hlo hhi (by omega)
    rw [if_neg hk]
    by_cases hlt : kk < key
    · rw [if_pos hlt]
      have hbr := wG Z hLr
      refine vt Z ha (by rw [ht.1]; show rt rr < _; omega) ?_
      rw [ht.1]
      show wpA T (SqT p' L') (vM key k m (rt rr) (jO Zs ++ [(a, 1)])) W r F (s + 1) Q
      have e : jO Zs ++ [(a, 1)] = jO (⟨a, c, kk, v, true, l⟩ :: Zs) := by rw [gB]; rfl
      rw [e]
      refine ihr (Zs := ⟨a, c, kk, v, true, l⟩ :: Zs) ⟨ht.1, ht.2.1, hz⟩ ht.2.2 hLr (by omega) (by omega) ho2.2.1 ?_ ?_ fun Z' t' s' h1 h2 h3 h4 h5 h6 h7 => w Z' t' s' h1 h2 h3 h4 h5 h6 (by omega)
      · intro q hq
        have hq : q ∈ loZ Zs ++ (inr l ++ [(kk, v)]) := hq
        rcases List.mem_append.1 hq with hq | hq
        · exact hlo q hq
        · rcases List.mem_append.1 hq with hq | hq
          · have := ho2.2.2.1 q hq; omega
          · rw [List.mem_singleton.1 hq]; exact hlt
      · intro q hq
        exact hhi q hq
    · rw [if_neg hlt]
      have hbl := wG Z hLl
      refine wn Z ha (by rw [ht.1]; show (rt l * 2 + zf c) / 2 < _; rw [kX]; omega) ?_
      rw [ht.1]
      show wpA T (SqT p' L') (vM key k m ((rt l * 2 + zf c) / 2) (jO Zs ++ [(a, 0)])) W r F (s + 1) Q
      rw [kX]
      have e : jO Zs ++ [(a, 0)] = jO (⟨a, c, kk, v, false, rr⟩ :: Zs) := by rw [gB]; rfl
      rw [e]
      refine ihl (Zs := ⟨a, c, kk, v, false, rr⟩ :: Zs) ⟨ht.1, ht.2.2, hz⟩ ht.2.1 hLl (by omega) (by omega) ho2.1 ?_ ?_ fun Z' t' s' h1 h2 h3 h4 h5 h6 h7 => w Z' t' s' h1 h2 h3 h4 h5 h6 (by omega)
      · intro q hq
        exact hlo q hq
      · intro q hq
        have hq : q ∈ (kk, v) :: (inr rr ++ hiZ Zs) := hq
        rcases List.mem_cons.1 hq with rfl | hq
        · show key < kk; omega
        · rcases List.mem_append.1 hq with hq | hq
          · have := ho2.2.2.2 q hq; omega
          · exact hhi q hq
end Go.Proofs.YtpohfcljfemhlaaGreat.arenaParts
namespace Go.Proofs.YtpohfcljfemhlaaGreat.arenaParts
open Go Go.Ae arenaPlays
set_option maxRecDepth 100000
variable {α : Type} {W W0 : List Int} {T : Nat} {p p' rv : Int} {L fr L' F : List Int} {nd : Int → Nd} {r : Nat} {s : Int} {Q : Option α → Int → List Int → List Int → Prop}
theorem wg {a kk v : Int} {c red : Bool} {l rr : Tr} {k : Act α} (Z : Hp W T p L fr p' L' W0 rv nd) (R : Rep nd (.node a c l kk v rr)) (ha : a ∈ L) (hn : a ∉ ads l ∧ a ∉ ads rr) (hr : r + 1 ≤ 96)
    (w : ∀ W' r' nd', r' ≤ r + 1 → Hp W' T p L fr p' L' W0 rv nd' → Rep nd' (.node a red l kk v rr) → (∀ x, x ≠ a → nd' x = nd x) → wpA T (SqT p' L') k W' r' F s Q) : wpA T (SqT p' L') (jZ a red k) W r F s Q := by
  refine X8 Z ha (x := rt l) (c := c) (by rw [R.1]) hr fun W' r' h1 Z' => w W' r' _ h1 Z' ⟨?_, R.2.1.upd hn.1, R.2.2.upd hn.2⟩ fun x hx => jU hx
  rw [xZ, R.1]
theorem vR {Zs : List Fr} {rest : List ji} {a b : Int} {x0 : Int} {ca cb : Bool} {ka va kb vb : Int} {l m rr : Tr} {lowr : Bool} {k : Act α} (Z : Hp W T p L fr p' L' W0 rv nd)
    (R : Rep nd (if lowr = true then .node b cb (.node a ca l ka va m) kb vb rr else .node b cb l kb vb (.node a ca m ka va rr))) (RZ : RepZ nd rv Zs x0)
    (hL : ∀ x ∈ jn Zs, x ∈ L) (NZ : (jn Zs).Nodup) (ha : a ∈ L) (hb : b ∈ L) (hab : a ≠ b) (hna : a ∉ ads l ∧ a ∉ ads m ∧ a ∉ ads rr ∧ a ∉ jn Zs) (hnb : b ∉ ads l ∧ b ∉ ads m ∧ b ∉ ads rr ∧ b ∉ jn Zs)
    (hd : ∀ x ∈ jn Zs, x ∉ ads l ∧ x ∉ ads m ∧ x ∉ ads rr) (hr : r + 3 ≤ 96)
    (w : ∀ W' r' rv' nd', r' ≤ r + 3 → Hp W' T p L fr p' L' W0 rv' nd' → RepZ nd' rv' Zs b → Rep nd' (if lowr = true then .node b false (.node a true l ka va m) kb vb rr else .node b false l kb vb (.node a true m ka va rr)) → wpA T (SqT p' L') k W' r' F s Q) :
    wpA T (SqT p' L') (jZ b false (jZ a true (xo p (jO Zs ++ rest) Zs.length b k))) W r F s Q := by
  have hbb := Z.b hb
  have hsz := Z.H.size
  have fin : ∀ {W2 : List Int} {r2 : Nat} {nd2 : Int → Nd} {t2 : Tr}, r2 ≤ r + 2 → Hp W2 T p L fr p' L' W0 rv nd2 → RepZ nd2 rv Zs x0 → Rep nd2 t2 → (∀ x ∈ ads t2, x ∉ jn Zs) →
      (∀ W' rv' nd', Hp W' T p L fr p' L' W0 rv' nd' → RepZ nd' rv' Zs b → Rep nd' t2 → wpA T (SqT p' L') k W' (r2 + 1) F s Q) → wpA T (SqT p' L') (xo p (jO Zs ++ rest) Zs.length b k) W2 r2 F s Q := by
    intro W2 r2 nd2 t2 h2 Z2 RZ2 R2 hd2 w2
    refine Jk Z2 RZ2 hL NZ (by omega) (by omega) fun W' rv' nd' Z' RZ' ho => w2 W' rv' nd' Z' RZ' (R2.off fun x hx => ho x (hd2 x hx))
  cases lowr with
  | true =>
    rw [if_pos rfl] at R w
    refine wg Z R hb ⟨?_, hnb.2.2.1⟩ (by omega) fun W1 r1 nd1 h1 Z1 R1 o1 => ?_
    · simp only [ads, List.mem_cons, List.mem_append, not_or]
      exact ⟨Ne.symm hab, hnb.1, hnb.2.1⟩
    refine wg Z1 R1.2.1 ha ⟨hna.1, hna.2.1⟩ (by omega) fun W2 r2 nd2 h2 Z2 R2 o2 => ?_
    refine fin (t2 := .node b false (.node a true l ka va m) kb vb rr) (by omega) Z2 ?_ ⟨?_, R2, ?_⟩ ?_ fun W' rv' nd' Z' RZ' R' => w W' _ rv' nd' (by omega) Z' RZ' R'
    · exact RZ.off fun x hx => by rw [o2 x (fun e => hna.2.2.2 (e ▸ hx)), o1 x (fun e => hnb.2.2.2 (e ▸ hx))]
    · rw [o2 b (Ne.symm hab)]; exact R1.1
    · exact R1.2.2.off fun x hx => o2 x fun e => hna.2.2.1 (e ▸ hx)
    · intro x hx hz
      simp only [ads, List.mem_cons, List.mem_append] at hx
      have := hd x hz
      rcases hx with rfl | (rfl | hx | hx) | hx
      · exact hnb.2.2.2 hz
      · exact hna.2.2.2 hz
      · exact this.1 hx
      · exact this.2.1 hx
      · exact this.2.2 hx
  | false =>
    rw [if_neg (by simp)] at R w
    refine wg Z R hb ⟨hnb.1, ?_⟩ (by omega) fun W1 r1 nd1 h1 Z1 R1 o1 => ?_
    · simp only [ads, List.mem_cons, List.mem_append, not_or]
      exact ⟨Ne.symm hab, hnb.2.1, hnb.2.2.1⟩
    refine wg Z1 R1.2.2 ha ⟨hna.2.1, hna.2.2.1⟩ (by omega) fun W2 r2 nd2 h2 Z2 R2 o2 => ?_
    refine fin (t2 := .node b false l kb vb (.node a true m ka va rr)) (by omega) Z2 ?_ ⟨?_, ?_, R2⟩ ?_ fun W' rv' nd' Z' RZ' R' => w W' _ rv' nd' (by omega) Z' RZ' R'
    · exact RZ.off fun x hx => by rw [o2 x (fun e => hna.2.2.2 (e ▸ hx)), o1 x (fun e => hnb.2.2.2 (e ▸ hx))]
    · rw [o2 b (Ne.symm hab)]; exact R1.1
    · exact R1.2.1.off fun x hx => o2 x fun e => hna.1 (e ▸ hx)
    · intro x hx hz
      simp only [ads, List.mem_cons, List.mem_append] at hx
      have := hd x hz
      rcases hx with rfl | hx | rfl | hx | hx
      · exact hnb.2.2.2 hz
      · exact this.1 hx
      · exact hna.2.2.2 hz
      · exact this.2.1 hx
      · exact this.2.2 hx
end Go.Proofs.YtpohfcljfemhlaaGreat.arenaParts
namespace Go.Proofs.YtpohfcljfemhlaaGreat.arenaParts
open Go Go.Ae arenaPlays
set_option maxRecDepth 100000
variable {α : Type} {W W0 : List Int} {T : Nat} {p p' rv : Int} {L fr L' F : List Int} {nd : Int → Nd} {r : Nat} {s : Int} {Q : Option α → Int → List Int → List Int → Prop}
def Yi (f g : Fr) (t : Tr) : Tr :=
  if f.s = g.s then (if g.s = true then .node f.a false (.node g.a true g.o g.k g.v f.o) f.k f.v t else .node f.a false t f.k f.v (.node g.a true f.o g.k g.v g.o))
  else match t with
    | .nil => .nil
    | .node ta _ tl tk tv tr => if g.s = true then .node ta false (.node g.a true g.o g.k g.v tl) tk tv (.node f.a f.c tr f.k f.v f.o) else .node ta false (.node f.a f.c f.o f.k f.v tl) tk tv (.node g.a true tr g.k g.v g.o)
def sd (f : Fr) : Int := if f.s = true then 1 else 0
theorem MR {f g : Fr} {Z : List Fr} : jO (f :: g :: Z) = jO Z ++ [(g.a, sd g), (f.a, sd f)] := by
  rw [gB, gB]; simp [sd]
def Dj (t : Tr) (Z : List Fr) : Prop := (ads t ++ jn Z).Nodup
theorem Up {Zs : List Fr} {f g : Fr} {t : Tr} {k : Act α} (Z : Hp W T p L fr p' L' W0 rv nd) (RZ : RepZ nd rv (f :: g :: Zs) (rt t)) (R : Rep nd t) (hL : ∀ x ∈ ads t ++ jn (f :: g :: Zs), x ∈ L) (N : Dj t (f :: g :: Zs)) (ht : t ≠ .nil) (hr : r + 9 ≤ 96)
    (w : ∀ W' r' rv' nd', r' ≤ r + 9 → Hp W' T p L fr p' L' W0 rv' nd' → RepZ nd' rv' Zs (rt (Yi f g t)) → Rep nd' (Yi f g t) → wpA T (SqT p' L') k W' r' F s Q) :
    wpA T (SqT p' L') (xT p (jO (f :: g :: Zs)) (f.a, sd f) (g.a, sd g) k) W r F s Q := by
  obtain ⟨f1, f2, g1, g2, RZ⟩ := RZ
  unfold Dj at N
  obtain ⟨fa, fc, fk, fv, fs, fo⟩ := f
  obtain ⟨ga, gc, gk, gv, gs, go⟩ := g
  simp only [jn, List.nodup_append, List.nodup_cons, List.mem_append, List.mem_cons, not_or] at N hL
  unfold xT
  rw [MR, show (jO Zs ++ [(ga, sd ⟨ga, gc, gk, gv, gs, go⟩), (fa, sd ⟨fa, fc, fk, fv, fs, fo⟩)]).length - 2 = Zs.length by simp [zF]]
  have hfa : fa ∈ L := hL fa (by simp)
  have hga : ga ∈ L := hL ga (by simp)
  have hLZ : ∀ x ∈ jn Zs, x ∈ L := fun x hx => hL x (by simp [hx])
  cases gs with
  | true =>
    cases fs with
    | true =>
      show wpA T (SqT p' L') (xl ga 0 fun a => jZ a false (jZ ga true (xo p _ Zs.length a k))) W r F s Q
      have RG : Rep nd (.node ga gc go gk gv (.node fa fc fo fk fv t)) := ⟨g1, g2, f1, f2, R⟩
      refine Jw Z RG ?_ ?_ (by omega) fun W1 nd1 Z1 R1 o1 => ?_
      · intro x hx
        simp only [ads, List.mem_cons, List.mem_append] at hx
        exact hL x (by grind)
      · simp only [ads, List.nodup_append, List.nodup_cons, List.mem_append, List.mem_cons, not_or]
        grind
      refine vR (lowr := true) (a := ga) (b := fa) (x0 := ga) Z1 R1 (RZ.off fun x hx => o1 x (by grind) (by grind)) hLZ (by grind) hga hfa (by grind) (by grind) (by grind) (by grind) (by omega) fun W2 r2 rv2 nd2 h2 Z2 RZ2 R2 => ?_
      exact w W2 r2 rv2 nd2 (by omega) Z2 RZ2 R2
    | false =>
      cases t with
      | nil => exact absurd rfl ht
      | node ta tc tl tk tv tr =>
        simp only [ads, List.nodup_append, List.nodup_cons, List.mem_append, List.mem_cons, not_or] at N hL
        have hta : ta ∈ L := hL ta (by simp)
        show wpA T (SqT p' L') (xl fa 1 fun u => xC ga 1 u (xl ga 0 fun a => jZ a false (jZ ga true (xo p _ Zs.length a k)))) W r F s Q
        have RF : Rep nd (.node fa fc (.node ta tc tl tk tv tr) fk fv fo) := ⟨f1, R, f2⟩
        have hLF : ∀ x ∈ ads (.node fa fc (.node ta tc tl tk tv tr) fk fv fo), x ∈ L := by
          intro x hx
          simp only [ads, List.mem_cons, List.mem_append] at hx
          exact hL x (by grind)
        have NF : (ads (.node fa fc (.node ta tc tl tk tv tr) fk fv fo)).Nodup := by
          simp only [ads, List.nodup_append, List.nodup_cons, List.mem_append, List.mem_cons, not_or]
          grind
        refine JD Z RF hLF NF (by omega) fun W1 nd1 Z1 R1 o1 => ?_
        have hbt := Z.b hta
        have hsz := Z.H.size
        refine kV Z1 hga (by omega) (by omega) fun W2 Z2 => ?_
        have e1 : nd1 ga = ⟨gk, gv, rt go * 2 + zf gc, fa⟩ := (o1 ga (by grind) (by grind)).trans g1
        have RG : Rep (upd nd1 ga ⟨(nd1 ga).k, (nd1 ga).v, (nd1 ga).w, ta⟩) (.node ga gc go gk gv (.node ta tc tl tk tv (.node fa fc tr fk fv fo))) := by
          refine ⟨?_, ?_, R1.upd ?_⟩
          · rw [xZ, e1]; rfl
          · exact g2.off fun x hx => by rw [jU (by grind), o1 x (by grind) (by grind)]
          · simp only [ads, List.mem_append, List.mem_cons, not_or]; grind
        refine Jw Z2 RG ?_ ?_ (by omega) fun W3 nd3 Z3 R3 o3 => ?_
        · intro x hx
          simp only [ads, List.mem_cons, List.mem_append] at hx
          exact hL x (by grind)
        · simp only [ads, List.nodup_append, List.nodup_cons, List.mem_append, List.mem_cons, not_or]
          grind
        refine vR (lowr := true) (a := ga) (b := ta) (x0 := ga) Z3 R3 (RZ.off fun x hx => ?_) hLZ (by grind) hga hta (by grind) ?_ ?_ ?_ (by omega) fun W2 r2 rv2 nd2 h2 Z2 RZ2 R2 => ?_
        · rw [o3 x (by grind) (by grind), jU (by grind), o1 x (by grind) (by grind)]
        · simp only [ads, List.mem_append, List.mem_cons, not_or]; grind
        · simp only [ads, List.mem_append, List.mem_cons, not_or]; grind
        · intro x hx
          simp only [ads, List.mem_append, List.mem_cons, not_or]; grind
        · exact w W2 r2 rv2 nd2 (by omega) Z2 RZ2 R2
  | false =>
    cases fs with
    | false =>
      show wpA T (SqT p' L') (xl ga 1 fun a => jZ a false (jZ ga true (xo p _ Zs.length a k))) W r F s Q
      have RG : Rep nd (.node ga gc (.node fa fc t fk fv fo) gk gv go) := ⟨g1, ⟨f1, R, f2⟩, g2⟩
      refine JD Z RG ?_ ?_ (by omega) fun W1 nd1 Z1 R1 o1 => ?_
      · intro x hx
        simp only [ads, List.mem_cons, List.mem_append] at hx
        exact hL x (by grind)
      · simp only [ads, List.nodup_append, List.nodup_cons, List.mem_append, List.mem_cons, not_or]
        grind
      refine vR (lowr := false) (a := ga) (b := fa) (x0 := ga) Z1 R1 (RZ.off fun x hx => o1 x (by grind) (by grind)) hLZ (by grind) hga hfa (by grind) (by grind) (by grind) (by grind) (by omega) fun W2 r2 rv2 nd2 h2 Z2 RZ2 R2 => ?_
      exact w W2 r2 rv2 nd2 (by omega) Z2 RZ2 R2
    | true =>
      cases t with
      | nil => exact absurd rfl ht
      | node ta tc tl tk tv tr =>
        simp only [ads, List.nodup_append, List.nodup_cons, List.mem_append, List.mem_cons, not_or] at N hL
        have hta : ta ∈ L := hL ta (by simp)
        show wpA T (SqT p' L') (xl fa 0 fun u => xC ga 0 u (xl ga 1 fun a => jZ a false (jZ ga true (xo p _ Zs.length a k)))) W r F s Q
        have RF : Rep nd (.node fa fc fo fk fv (.node ta tc tl tk tv tr)) := ⟨f1, f2, R⟩
        have hLF : ∀ x ∈ ads (.node fa fc fo fk fv (.node ta tc tl tk tv tr)), x ∈ L := by
          intro x hx
          simp only [ads, List.mem_cons, List.mem_append] at hx
          exact hL x (by grind)
        have NF : (ads (.node fa fc fo fk fv (.node ta tc tl tk tv tr))).Nodup := by
          simp only [ads, List.nodup_append, List.nodup_cons, List.mem_append, List.mem_cons, not_or]
          grind
        refine Jw Z RF hLF NF (by omega) fun W1 nd1 Z1 R1 o1 => ?_
        have hbt := Z.b hta
        have hsz := Z.H.size
        refine kT Z1 hga (by omega) (by omega) fun W2 Z2 => ?_
        have e1 : nd1 ga = ⟨gk, gv, fa * 2 + zf gc, rt go⟩ := (o1 ga (by grind) (by grind)).trans g1
        have RG : Rep (upd nd1 ga ⟨(nd1 ga).k, (nd1 ga).v, ta * 2 + (nd1 ga).w % 2, (nd1 ga).y⟩) (.node ga gc (.node ta tc (.node fa fc fo fk fv tl) tk tv tr) gk gv go) := by
          refine ⟨?_, R1.upd ?_, ?_⟩
          · rw [xZ, e1]
            show (⟨gk, gv, ta * 2 + (fa * 2 + zf gc) % 2, rt go⟩ : Nd) = _
            rw [Yj]; rfl
          · simp only [ads, List.mem_append, List.mem_cons, not_or]; grind
          · exact g2.off fun x hx => by rw [jU (by grind), o1 x (by grind) (by grind)]
        refine JD Z2 RG ?_ ?_ (by omega) fun W3 nd3 Z3 R3 o3 => ?_
        · intro x hx
          simp only [ads, List.mem_cons, List.mem_append] at hx
          exact hL x (by grind)
        · simp only [ads, List.nodup_append, List.nodup_cons, List.mem_append, List.mem_cons, not_or]
          grind
        refine vR (lowr := false) (a := ga) (b := ta) (x0 := ga) Z3 R3 (RZ.off fun x hx => ?_) hLZ (by grind) hga hta (by grind) ?_ ?_ ?_ (by omega) fun W2 r2 rv2 nd2 h2 Z2 RZ2 R2 => ?_
        · rw [o3 x (by grind) (by grind), jU (by grind), o1 x (by grind) (by grind)]
        · simp only [ads, List.mem_append, List.mem_cons, not_or]; grind
        · simp only [ads, List.mem_append, List.mem_cons, not_or]; grind
        · intro x hx
          simp only [ads, List.mem_append, List.mem_cons, not_or]; grind
        · exact w W2 r2 rv2 nd2 (by omega) Z2 RZ2 R2
end Go.Proofs.YtpohfcljfemhlaaGreat.arenaParts
namespace Go.Proofs.YtpohfcljfemhlaaGreat.arenaParts
open Go Go.Ae arenaPlays
set_option maxRecDepth 100000
variable {α : Type} {W W0 : List Int} {T : Nat} {p p' rv : Int} {L fre L' F : List Int} {nd : Int → Nd} {r : Nat} {s : Int} {Q : Option α → Int → List Int → List Int → Prop}
def sdB (s : Bool) : Int := if s = true then 1 else 0
theorem y4 {f : Fr} {t : Tr} {x : Int} : x ∈ ads (fr f t) ↔ x = f.a ∨ x ∈ ads f.o ∨ x ∈ ads t := by
  obtain ⟨a, c, k, v, s, o⟩ := f
  cases s <;> simp [fr, ads] <;> grind
theorem ko {f : Fr} {t : Tr} : (ads (fr f t)).Nodup ↔ f.a ∉ ads f.o ∧ f.a ∉ ads t ∧ (ads f.o).Nodup ∧ (ads t).Nodup ∧ (∀ x ∈ ads f.o, x ∉ ads t) := by
  obtain ⟨a, c, k, v, s, o⟩ := f
  cases s <;> simp [fr, ads, List.nodup_append] <;> grind
theorem MT {a k v : Int} {c s : Bool} {o t : Tr} : fr ⟨a, c, k, v, s, o⟩ t = fr ⟨a, c, k, v, !s, t⟩ o := by cases s <;> rfl
theorem qQU (s : Bool) {t : Tr} (h : t ≠ .nil) : ∃ a c k v o u, t = fr ⟨a, c, k, v, s, o⟩ u := by
  cases t with
  | nil => exact absurd rfl h
  | node a c l k v r =>
    cases s
    · exact ⟨a, c, k, v, r, l, rfl⟩
    · exact ⟨a, c, k, v, l, r, rfl⟩
theorem rbF {f : Fr} {t : Tr} {n : Nat} : RB (fr f t) n ↔ ∃ m, RB f.o m ∧ RB t m ∧ (f.c = true → n = m ∧ isR f.o = false ∧ isR t = false) ∧ (f.c = false → n = m + 1) := by
  obtain ⟨a, c, k, v, s, o⟩ := f
  cases s
  · show (∃ m, RB t m ∧ RB o m ∧ _) ↔ _
    constructor
    · rintro ⟨m, h1, h2, h3, h4⟩; exact ⟨m, h2, h1, fun hc => ⟨(h3 hc).1, (h3 hc).2.2, (h3 hc).2.1⟩, h4⟩
    · rintro ⟨m, h1, h2, h3, h4⟩; exact ⟨m, h2, h1, fun hc => ⟨(h3 hc).1, (h3 hc).2.2, (h3 hc).2.1⟩, h4⟩
  · exact Iff.rfl
theorem vp {t : Tr} {k : Bool → Act α} (Z : Hp W T p L fre p' L' W0 rv nd) (R : Rep nd t) (hL : ∀ x ∈ ads t, x ∈ L) (w : wpA T (SqT p' L') (k (isR t)) W r F s Q) : wpA T (SqT p' L') (xA (rt t) k) W r F s Q := by
  cases t with
  | nil => exact qJ3 w
  | node a c l kk v rr =>
    show wpA T (SqT p' L') (xA a k) W r F s Q
    refine Zn (a := a) Z (hL a (List.mem_cons_self ..)) ?_
    rw [R.1]
    have e : decide ((rt l * 2 + zf c) % 2 = 1) = c := by rw [Yj]; cases c <;> decide
    show wpA T _ (k (decide ((rt l * 2 + zf c) % 2 = 1))) W r F s Q
    rw [e]
    exact w
theorem XI {f : Fr} {x : Int} {k : Bool → Act α} (Z : Hp W T p L fre p' L' W0 rv nd) (R : nd f.a = ndF f x) (hL : f.a ∈ L) (w : wpA T (SqT p' L') (k f.c) W r F s Q) : wpA T (SqT p' L') (xA f.a k) W r F s Q := by
  refine Zn Z hL ?_
  have e : decide ((nd f.a).w % 2 = 1) = f.c := by
    rw [R]; unfold ndF; split <;> dsimp only <;> rw [Yj] <;> cases f.c <;> decide
  rw [e]
  exact w
theorem qKP {f : Fr} {x : Int} {k : Int → Act α} (Z : Hp W T p L fre p' L' W0 rv nd) (R : nd f.a = ndF f x) (hL : f.a ∈ L) (hx : x < 2147483648) (w : wpA T (SqT p' L') (k x) W r F s Q) : wpA T (SqT p' L') (jQ f.a (sdB f.s) k) W r F s Q := by
  obtain ⟨a, c, kk, v, sd, o⟩ := f
  dsimp only at *
  cases sd
  · refine wn Z hL ?_ ?_
    · rw [R]; show (x * 2 + zf c) / 2 < _; rw [kX]; exact hx
    · rw [R]; show wpA T _ (k ((x * 2 + zf c) / 2)) W r F s Q; rw [kX]; exact w
  · refine vt Z hL ?_ ?_
    · rw [R]; exact hx
    · rw [R]; exact w
theorem QD {f : Fr} {x : Int} {k : Int → Act α} (Z : Hp W T p L fre p' L' W0 rv nd) (R : nd f.a = ndF f x) (hL : f.a ∈ L) (hx : rt f.o < 2147483648) (w : wpA T (SqT p' L') (k (rt f.o)) W r F s Q) : wpA T (SqT p' L') (jQ f.a (1 - sdB f.s) k) W r F s Q := by
  obtain ⟨a, c, kk, v, sd, o⟩ := f
  dsimp only at *
  cases sd
  · refine vt Z hL ?_ ?_
    · rw [R]; exact hx
    · rw [R]; exact w
  · refine wn Z hL ?_ ?_
    · rw [R]; show (rt o * 2 + zf c) / 2 < _; rw [kX]; exact hx
    · rw [R]; show wpA T _ (k ((rt o * 2 + zf c) / 2)) W r F s Q; rw [kX]; exact w
theorem xj {f : Fr} {x : Int} {red : Bool} {k : Act α} (Z : Hp W T p L fre p' L' W0 rv nd) (R : nd f.a = ndF f x) (hL : f.a ∈ L) (hr : r + 1 ≤ 96)
    (w : ∀ W' r' nd', r' ≤ r + 1 → Hp W' T p L fre p' L' W0 rv nd' → nd' f.a = ndF { f with c := red } x → (∀ x, x ≠ f.a → nd' x = nd x) → wpA T (SqT p' L') k W' r' F s Q) : wpA T (SqT p' L') (jZ f.a red k) W r F s Q := by
  obtain ⟨a, c, kk, v, sd, o⟩ := f
  dsimp only at *
  cases sd
  · refine X8 Z hL (x := x) (c := c) (by rw [R]; rfl) hr fun W' r' h1 Z' => w W' r' _ h1 Z' ?_ fun x hx => jU hx
    rw [xZ, R]; rfl
  · refine X8 Z hL (x := rt o) (c := c) (by rw [R]; rfl) hr fun W' r' h1 Z' => w W' r' _ h1 Z' ?_ fun x hx => jU hx
    rw [xZ, R]; rfl
def pnt (c : Bool) : Tr → Tr
  | .nil => .nil
  | .node a _ l k v r => .node a c l k v r
theorem wo {c : Bool} {t : Tr} : ads (pnt c t) = ads t := by cases t <;> rfl
theorem JA {c : Bool} {t : Tr} : inr (pnt c t) = inr t := by cases t <;> rfl
theorem Yx {c : Bool} {t : Tr} : rt (pnt c t) = rt t := by cases t <;> rfl
theorem wD {t : Tr} {red : Bool} {k : Act α} (Z : Hp W T p L fre p' L' W0 rv nd) (R : Rep nd t) (hL : ∀ x ∈ ads t, x ∈ L) (N : (ads t).Nodup) (hn : t ≠ .nil) (hr : r + 1 ≤ 96)
    (w : ∀ W' r' nd', r' ≤ r + 1 → Hp W' T p L fre p' L' W0 rv nd' → Rep nd' (pnt red t) → (∀ x, x ≠ rt t → nd' x = nd x) → wpA T (SqT p' L') k W' r' F s Q) : wpA T (SqT p' L') (jZ (rt t) red k) W r F s Q := by
  cases t with
  | nil => exact absurd rfl hn
  | node a c l kk v rr =>
    simp only [ads, List.nodup_cons, List.mem_append, not_or] at N
    exact wg Z R (hL a (List.mem_cons_self ..)) ⟨N.1.1, N.1.2⟩ hr w
theorem Ko {a b k v kb vb : Int} {sd c cb : Bool} {t inn far : Tr} {K : Int → Act α} (Z : Hp W T p L fre p' L' W0 rv nd) (R : Rep nd (fr ⟨a, c, k, v, sd, fr ⟨b, cb, kb, vb, sd, far⟩ inn⟩ t))
    (hL : ∀ x ∈ ads (fr ⟨a, c, k, v, sd, fr ⟨b, cb, kb, vb, sd, far⟩ inn⟩ t), x ∈ L) (N : (ads (fr ⟨a, c, k, v, sd, fr ⟨b, cb, kb, vb, sd, far⟩ inn⟩ t)).Nodup) (hr : r + 2 ≤ 96)
    (w : ∀ W' nd', Hp W' T p L fre p' L' W0 rv nd' → Rep nd' (fr ⟨b, cb, kb, vb, sd, far⟩ (fr ⟨a, c, k, v, sd, inn⟩ t)) → (∀ x, x ≠ a → x ≠ b → nd' x = nd x) → wpA T (SqT p' L') (K b) W' (r + 2) F s Q) :
    wpA T (SqT p' L') (xl a (sdB sd) K) W r F s Q := by
  cases sd
  · exact Jw Z R hL N hr w
  · exact JD Z R hL N hr w
end Go.Proofs.YtpohfcljfemhlaaGreat.arenaParts
namespace Go.Proofs.YtpohfcljfemhlaaGreat.arenaParts
open Go Go.Ae arenaPlays
set_option maxRecDepth 100000
variable {α : Type} {W W0 : List Int} {T : Nat} {p p' rv : Int} {L fre L' F : List Int} {nd : Int → Nd} {r : Nat} {s : Int} {Q : Option α → Int → List Int → List Int → Prop}
theorem perm_fr {f : Fr} {t : Tr} : (ads (fr f t)).Perm (f.a :: (ads f.o ++ ads t)) := by
  obtain ⟨a, c, k, v, s, o⟩ := f
  cases s
  · exact List.Perm.cons _ List.perm_append_comm
  · exact List.Perm.refl _
theorem gu {f g : Fr} {t u : Tr} (ha : f.a = g.a) (ho : (ads f.o).Perm (ads g.o)) (ht : (ads t).Perm (ads u)) : (ads (fr f t)).Perm (ads (fr g u)) := by
  refine perm_fr.trans (List.Perm.trans ?_ perm_fr.symm)
  rw [ha]
  exact List.Perm.cons _ (ho.append ht)
theorem perm_plug : ∀ {Z : List Fr} {t : Tr}, (ads (zN Z t)).Perm (ads t ++ jn Z) := by
  intro Z
  induction Z with
  | nil => intro t; rw [show jn [] = [] from rfl, List.append_nil]; exact List.Perm.refl _
  | cons f Z ih =>
    intro t
    refine (ih (t := fr f t)).trans ?_
    refine (List.Perm.append_right _ perm_fr).trans ?_
    refine List.perm_iff_count.2 fun x => ?_
    simp [jn, List.count_cons, List.count_append]
    omega
theorem QK {Z : List Fr} {t : Tr} : Dj t Z ↔ (ads (zN Z t)).Nodup := (perm_plug.nodup_iff).symm
theorem qQ3 {f g : Fr} {t : Tr} (h : t ≠ .nil) : inr (Yi f g t) = inr (fr g (fr f t)) := by
  obtain ⟨fa, fc, fk, fv, fs, fo⟩ := f
  obtain ⟨ga, gc, gk, gv, gs, go⟩ := g
  cases t with
  | nil => exact absurd rfl h
  | node a c l k v r => cases fs <;> cases gs <;> simp [Yi, fr, inr]
theorem ZG {f g : Fr} {t : Tr} (h : t ≠ .nil) : (ads (Yi f g t)).Perm (ads (fr g (fr f t))) := by
  obtain ⟨fa, fc, fk, fv, fs, fo⟩ := f
  obtain ⟨ga, gc, gk, gv, gs, go⟩ := g
  refine List.perm_iff_count.2 fun x => ?_
  cases t with
  | nil => exact absurd rfl h
  | node a c l k v r =>
    cases fs <;> cases gs <;> simp [Yi, fr, ads, List.count_cons, List.count_append] <;> omega
theorem qZN {f g : Fr} {t : Tr} {n : Nat} (h : isR t = true) (ht : RB t n) (hf : RB f.o n) (hfc : f.c = true) (hfo : isR f.o = false) (hg : RB g.o n) (hgo : isR g.o = false) : RB (Yi f g t) (n + 1) ∧ isR (Yi f g t) = false := by
  obtain ⟨fa, fc, fk, fv, fs, fo⟩ := f
  obtain ⟨ga, gc, gk, gv, gs, go⟩ := g
  dsimp only at *
  subst hfc
  have hne : t ≠ .nil := fun e => by subst e; cases h
  cases t with
  | nil => exact absurd rfl hne
  | node a c l k v r =>
    have hc : c = true := h
    subst hc
    obtain ⟨m, hl, hr, h3, _⟩ := ht
    obtain ⟨e, h4, h5⟩ := h3 rfl
    subst e
    have hnode : ∀ {a k v : Int} {c : Bool} {x y : Tr} {j : Nat}, RB x j → RB y j → (c = true → isR x = false ∧ isR y = false) → RB (.node a c x k v y) (if c = true then j else j + 1) := by
      intro a k v c x y j h1 h2 h3
      refine ⟨j, h1, h2, fun hc => ?_, fun hc => ?_⟩
      · rw [if_pos hc]; exact ⟨rfl, h3 hc⟩
      · rw [if_neg (by rw [hc]; simp)]
    have hT : RB (.node a true l k v r) n := hnode (c := true) hl hr fun _ => ⟨h4, h5⟩
    cases fs <;> cases gs <;> simp only [Yi]
    · exact ⟨hnode (c := false) hT (hnode (c := true) hf hg fun _ => ⟨hfo, hgo⟩) (by simp), rfl⟩
    · exact ⟨hnode (c := false) (hnode (c := true) hg hl fun _ => ⟨hgo, h4⟩) (hnode (c := true) hr hf fun _ => ⟨h5, hfo⟩) (by simp), rfl⟩
    · exact ⟨hnode (c := false) (hnode (c := true) hf hl fun _ => ⟨hfo, h4⟩) (hnode (c := true) hr hg fun _ => ⟨h5, hgo⟩) (by simp), rfl⟩
    · exact ⟨hnode (c := false) (hnode (c := true) hg hf fun _ => ⟨hgo, hfo⟩) hT (by simp), rfl⟩
theorem xJ {Z : List Fr} {t u : Tr} (h : (ads t).Perm (ads u)) : (ads (zN Z t)).Perm (ads (zN Z u)) := (perm_plug.trans (List.Perm.append_right _ h)).trans perm_plug.symm
theorem vz {Z : List Fr} {t u : Tr} (h : inr t = inr u) : inr (zN Z t) = inr (zN Z u) := by rw [x5, x5, h]
theorem qQe {m : Nat} {way : List ji} {k : Act α} {root : Int} : zm root k (m + 1) way = if 2 ≤ way.length then .step (xA (zw way (way.length - 1)).1 fun r => if r = false then k else
        jQ (zw way (way.length - 2)).1 (1 - (zw way (way.length - 2)).2) fun uncle => xA uncle fun ru =>
        if ru = false then xT root way (zw way (way.length - 1)) (zw way (way.length - 2)) k else
        jZ (zw way (way.length - 1)).1 false (jZ uncle false (jZ (zw way (way.length - 2)).1 true (zm root k m (way.take (way.length - 2))))))
      else yH root fun a => jZ a false k := rfl
theorem kH {k : Int → Act α} (Z : Hp W T p L fre p' L' W0 rv nd) (hv : rv < 2147483648) (w : wpA T (SqT p' L') (k rv) W r F s Q) : wpA T (SqT p' L') (yH p k) W r F s Q := by
  have hrr := Z.rr
  have hsz := Z.H.size
  refine UX (by omega) (by omega) Z.sqr ?_ ?_
  · rw [Z.rv]; exact hv
  · rw [Z.rv]; exact w
structure Fin (T : Nat) (p : Int) (L fre : List Int) (p' : Int) (L' W0 W : List Int) (u : Tr) : Prop where
  ex : ∃ rv nd t n, Hp W T p L fre p' L' W0 rv nd ∧ rv = rt t ∧ Rep nd t ∧ RB t n ∧ inr t = inr u ∧ (ads t).Perm (ads u)
theorem Nm {k : Act α} : ∀ {m : Nat} {Zs : List Fr} {t : Tr} {n : Nat} {W : List Int} {rv : Int} {nd : Int → Nd} {r : Nat} {s : Int}, Hp W T p L fre p' L' W0 rv nd → RepZ nd rv Zs (rt t) → Rep nd t → (∀ x ∈ ads t ++ jn Zs, x ∈ L) → Dj t Zs → isR t = true → RB t n → RBZ Zs n false →
    Zs.length ≤ m → s + Zs.length ≤ 2048 → r + 3 * Zs.length + 10 ≤ 96 →
    (∀ W' r' s', r' ≤ r + 3 * Zs.length + 10 → s' ≤ s + Zs.length → Fin T p L fre p' L' W0 W' (zN Zs t) → wpA T (SqT p' L') k W' r' F s' Q) → wpA T (SqT p' L') (zm p k m (jO Zs)) W r F s Q := by
  intro m
  induction m with
  | zero =>
    intro Zs t n W rv nd r s Z RZ R hL N hc hn hz hm hs hr w
    have : Zs = [] := by cases Zs with
      | nil => rfl
      | cons f Z => simp at hm
    subst this
    have hne : t ≠ .nil := fun e => by subst e; cases hc
    have hLt : ∀ x ∈ ads t, x ∈ L := fun x hx => hL x (List.mem_append.2 (.inl hx))
    have hb := wG Z hLt
    have RZ : rv = rt t := RZ
    unfold zm
    rw [if_neg (by rw [zF]; simp)]
    refine kH Z (by omega) ?_
    rw [RZ]
    refine wD Z R hLt ?_ hne (by omega) fun W1 r1 nd1 h1 Z1 R1 _ => w W1 r1 s (by omega) (by omega) ⟨⟨rv, nd1, pnt false t, n + 1, Z1, by rw [Yx]; exact RZ, R1, ?_, JA, by rw [wo]; exact List.Perm.refl _⟩⟩
    · exact (List.nodup_append.1 N).1
    · cases t with
      | nil => exact absurd rfl hne
      | node a c l k v r =>
        have hc : c = true := hc
        subst hc
        obtain ⟨j, h1, h2, h3, _⟩ := hn
        have := (h3 rfl).1
        subst this
        exact ⟨n, h1, h2, by simp, fun _ => rfl⟩
  | succ m ih =>
    intro Zs t n W rv nd r s Z RZ R hL N hc hn hz hm hs hr w
    have hne : t ≠ .nil := fun e => by subst e; cases hc
    have hLt : ∀ x ∈ ads t, x ∈ L := fun x hx => hL x (List.mem_append.2 (.inl hx))
    have hb := wG Z hLt
    have Nt := (List.nodup_append.1 N).1
    rw [qQe]
    cases Zs with
    | nil =>
      have RZ : rv = rt t := RZ
      rw [if_neg (by rw [zF]; simp)]
      refine kH Z (by omega) ?_
      rw [RZ]
      refine wD Z R hLt Nt hne (by omega) fun W1 r1 nd1 h1 Z1 R1 _ => w W1 r1 s (by omega) (by omega) ⟨⟨rv, nd1, pnt false t, n + 1, Z1, by rw [Yx]; exact RZ, R1, ?_, JA, by rw [wo]; exact List.Perm.refl _⟩⟩
      cases t with
      | nil => exact absurd rfl hne
      | node a c l k v r =>
        have hc : c = true := hc
        subst hc
        obtain ⟨j, h1, h2, h3, _⟩ := hn
        have := (h3 rfl).1
        subst this
        exact ⟨n, h1, h2, by simp, fun _ => rfl⟩
    | cons f Zs =>
      have hfa : f.a ∈ L := hL f.a (List.mem_append.2 (.inr (List.mem_cons_self ..)))
      have hfb := Z.b hfa
      have hsz := Z.H.size
      cases Zs with
      | nil =>
        obtain ⟨f1, f2, RZ⟩ := RZ
        have RZ : rv = f.a := RZ
        have Nf : f.a ∉ ads f.o ∧ f.a ∉ ads t := by
          simp only [Dj, jn, List.nodup_append, List.nodup_cons, List.mem_append, List.mem_cons, not_or, List.append_nil] at N
          grind
        rw [if_neg (by rw [zF]; simp)]
        refine kH Z (by omega) ?_
        rw [RZ]
        refine xj Z f1 hfa (by omega) fun W1 r1 nd1 h1 Z1 R1 o1 => w W1 r1 s (by omega) (by simp; omega) ⟨⟨rv, nd1, fr { f with c := false } t, n + 1, Z1, by rw [xh]; exact RZ, zb.2 ⟨R1, ?_, ?_⟩, ?_, ?_, ?_⟩⟩
        · exact f2.off fun x hx => o1 x fun e => Nf.1 (e ▸ hx)
        · exact R.off fun x hx => o1 x fun e => Nf.2 (e ▸ hx)
        · exact qKc (f := { f with c := false }) hz.1 hn (by simp)
        · show inr (fr { f with c := false } t) = inr (fr f t)
          rw [we, we]
        · show (ads (fr { f with c := false } t)).Perm (ads (fr f t))
          exact gu rfl (.refl _) (.refl _)
      | cons g Zs =>
        have hga : g.a ∈ L := hL g.a (by simp [jn])
        have hLo : ∀ x ∈ ads g.o, x ∈ L := fun x hx => hL x (by simp [jn, hx])
        have hbo := wG Z hLo
        have RZ0 := RZ
        obtain ⟨f1, f2, g1, g2, RZ⟩ := RZ
        have N0 := N
        simp only [Dj, jn, List.nodup_append, List.nodup_cons, List.mem_append, List.mem_cons, not_or] at N
        obtain ⟨hz1, hz2, hz3⟩ := hz
        have hz0 : RBZ (f :: g :: Zs) n false := ⟨hz1, hz2, hz3⟩
        have e1 : zw (jO (f :: g :: Zs)) ((jO (f :: g :: Zs)).length - 1) = (f.a, sdB f.s) := by
          have := Mg (f := f) (Z := g :: Zs) (rest := [])
          rw [List.append_nil] at this
          rw [zF]; exact this
        have e2 : zw (jO (f :: g :: Zs)) ((jO (f :: g :: Zs)).length - 2) = (g.a, sdB g.s) := by
          have := Mg (f := g) (Z := Zs) (rest := [(f.a, if f.s = true then (1 : Int) else 0)])
          rw [← gB] at this
          rw [zF]; exact this
        have e3 : (jO (f :: g :: Zs)).take ((jO (f :: g :: Zs)).length - 2) = jO Zs := by
          rw [MR, List.length_append, zF]
          exact List.take_left' (by simp [zF])
        rw [e1, e2, e3, if_pos (by rw [zF]; simp)]
        simp only [List.length_cons] at hm hs hr w
        refine ⟨by omega, ?_⟩
        refine XI Z f1 hfa ?_
        cases hfc : f.c with
        | false =>
          rw [if_pos rfl]
          refine w W r (s + 1) (by omega) (by omega) ⟨⟨rv, nd, zN (f :: g :: Zs) t, ?_⟩⟩
          have hR := vq (Z := f :: g :: Zs) RZ0 R
          obtain ⟨j, hj⟩ := vr (Z := f :: g :: Zs) (t := t) hn (by rw [hc]; exact ⟨hz1, by rw [hfc]; simp, hz3⟩)
          exact ⟨j, Z, hR.1, hR.2, hj, rfl, List.Perm.refl _⟩
        | true =>
          rw [if_neg (by simp)]
          rw [if_pos hfc, hfc] at hz3
          obtain ⟨hz4, hz5, hz6⟩ := hz3
          have hgc : g.c = false := by
            cases hh : g.c with
            | false => rfl
            | true => exact absurd (hz5 hh).1 (by simp)
          rw [if_neg (by rw [hgc]; simp), hgc] at hz6
          have hfo := (hz2 hfc).2
          refine QD Z g1 hga (by omega) ?_
          refine vp Z g2 hLo ?_
          cases hgo : isR g.o with
          | false =>
            rw [if_pos rfl]
            refine Up Z RZ0 R hL N0 hne (by omega) fun W1 r1 rv1 nd1 h1 Z1 RZ1 R1 => w W1 r1 (s + 1) (by omega) (by omega) ⟨⟨rv1, nd1, zN Zs (Yi f g t), ?_⟩⟩
            have hR := vq RZ1 R1
            have hst := qZN hc hn hz1 hfc hfo hz4 hgo
            obtain ⟨j, hj⟩ := vr (Z := Zs) hst.1 (by rw [hst.2]; exact hz6)
            exact ⟨j, Z1, hR.1, hR.2, hj, vz (qQ3 hne), xJ (ZG hne)⟩
          | true =>
            rw [if_neg (by simp)]
            have hone : g.o ≠ .nil := fun e => by rw [e] at hgo; cases hgo
            refine xj Z f1 hfa (by omega) fun W1 r1 nd1 h1 Z1 R1 o1 => ?_
            have g21 : Rep nd1 g.o := g2.off fun x hx => o1 x (by grind)
            refine wD Z1 g21 hLo (by grind) hone (by omega) fun W2 r2 nd2 h2 Z2 R2 o2 => ?_
            have hrt : rt g.o ∈ ads g.o := by
              cases hh : g.o with
              | nil => exact absurd hh hone
              | node a c l k v r => exact List.mem_cons_self ..
            have g12 : nd2 g.a = ndF g f.a := by rw [o2 g.a (by grind), o1 g.a (by grind)]; exact g1
            refine xj Z2 g12 hga (by omega) fun W3 r3 nd3 h3 Z3 R3 o3 => ?_
            have oo : ∀ x, x ≠ f.a → x ≠ rt g.o → x ≠ g.a → nd3 x = nd x := fun x h1 h2 h3 => by rw [o3 x h3, o2 x h2, o1 x h1]
            have hperm : (ads (fr { g with c := true, o := pnt false g.o } (fr { f with c := false } t))).Perm (ads (fr g (fr f t))) := by
              refine gu rfl ?_ (gu rfl (.refl _) (.refl _))
              dsimp only
              rw [wo]
            have hinr : inr (fr { g with c := true, o := pnt false g.o } (fr { f with c := false } t)) = inr (fr g (fr f t)) := by
              rw [we, we, we, we]
              dsimp only
              rw [JA]
            have hmem : ∀ x, x ∈ ads (fr g (fr f t)) ++ jn Zs → x ∈ L := by
              intro x hx
              have : x ∈ ads (zN (f :: g :: Zs) t) := (perm_plug (Z := Zs) (t := fr g (fr f t))).mem_iff.2 hx
              exact hL x (perm_plug.mem_iff.1 this)
            have NP : Dj (fr { g with c := true, o := pnt false g.o } (fr { f with c := false } t)) Zs := by
              refine QK.2 ?_
              exact (xJ hperm).nodup_iff.2 (QK (Z := f :: g :: Zs).1 N0)
            have hbr : RB (pnt false g.o) (n + 1) := by
              cases hh : g.o with
              | nil => exact absurd hh hone
              | node a c l k v r =>
                rw [hh] at hz4 hgo
                have hgo : c = true := hgo
                subst hgo
                obtain ⟨j, q1, q2, q3, _⟩ := hz4
                have := (q3 rfl).1
                subst this
                exact ⟨n, q1, q2, by simp, fun _ => rfl⟩
            refine ih (t := fr { g with c := true, o := pnt false g.o } (fr { f with c := false } t)) (n := n + 1) Z3 ?_ ?_ ?_ NP ?_ ?_ hz6 (by omega) (by omega) (by omega) ?_
            · rw [xh]
              exact RZ.off fun x hx => oo x (by grind) (by grind) (by grind)
            · refine zb.2 ⟨?_, ?_, zb.2 ⟨?_, ?_, ?_⟩⟩
              · dsimp only
                rw [R3, xh]
                unfold ndF
                dsimp only
                rw [Yx]
              · exact R2.off fun x hx => o3 x (by rw [wo] at hx; grind)
              · dsimp only
                rw [o3 f.a (by grind), o2 f.a (by grind)]
                exact R1
              · exact f2.off fun x hx => oo x (by grind) (by grind) (by grind)
              · exact R.off fun x hx => oo x (by grind) (by grind) (by grind)
            · intro x hx
              refine hmem x ?_
              rcases List.mem_append.1 hx with h | h
              · exact List.mem_append.2 (.inl (hperm.mem_iff.1 h))
              · exact List.mem_append.2 (.inr h)
            · rw [yX]
            · exact rbF.2 ⟨n + 1, hbr, rbF.2 ⟨n, hz1, hn, by simp, fun _ => rfl⟩, fun _ => ⟨rfl, by cases g.o <;> rfl, yX⟩, by simp⟩
            · intro W' r' s' q1 q2 q3
              refine w W' r' s' (by omega) (by omega) ?_
              obtain ⟨rv', nd', t', n', a1, a2, a3, a4, a5, a6⟩ := q3.ex
              exact ⟨⟨rv', nd', t', n', a1, a2, a3, a4, a5.trans (vz hinr), a6.trans (xJ hperm)⟩⟩
end Go.Proofs.YtpohfcljfemhlaaGreat.arenaParts
namespace Go.Proofs.YtpohfcljfemhlaaGreat.arenaParts
open Go Go.Ae arenaPlays
set_option maxRecDepth 100000
variable {α : Type} {W W0 W' : List Int} {T : Nat} {p p' rv : Int} {L fre L' F : List Int} {nd : Int → Nd} {r : Nat} {s : Int} {t t' : Tr}
def ndW (W : List Int) (a : Int) : Nd := ⟨qG W a.toNat, qG W (a + 1).toNat, qG W (a + 2).toNat, qG W (a + 3).toNat⟩
structure UN (W : List Int) (p : Int) (t : Tr) : Prop where
  root : qG W p.toNat = rt t
  rep : Rep (ndW W) t
  rb : ∃ n, RB t n
  srt : Srt (inr t)
  key : ∀ q ∈ inr t, (0 ≤ q.1 ∧ q.1 < 12) ∧ 0 ≤ q.2 ∧ q.2 < 12
structure xN (W : List Int) (T : Nat) (fr : List Int) (p : Int) (t : Tr) (p' : Int) (t' : Tr) : Prop where
  H : HY W T (ads t ++ ads t') fr
  A : UN W p t
  B : UN W p' t'
  rr : 6 ≤ p ∧ p ≤ 13 ∧ 6 ≤ p' ∧ p' ≤ 13 ∧ p ≠ p'
theorem xN.swap (Z : xN W T fre p t p' t') : xN W T fre p' t' p t :=
  ⟨Z.H.perm (fun x => by rw [List.mem_append, List.mem_append]; exact Or.comm) (List.perm_append_comm.nodup_iff.1 Z.H.nd), Z.B, Z.A, by have := Z.rr; omega⟩
theorem qKC : ∀ {l : List qm} {a : Int}, Srt l → (∀ q ∈ l, a ≤ q.1 ∧ q.1 < 12) → a ≤ 12 → (l.length : Int) ≤ 12 - a := by
  intro l
  induction l with
  | nil => intro a _ _ h; simp; omega
  | cons q l ih =>
    intro a hs hk ha
    have h1 := List.pairwise_cons.1 hs
    have h2 := hk q (List.mem_cons_self ..)
    have := ih (a := q.1 + 1) h1.2 (fun x hx => ⟨by have := h1.1 x hx; omega, (hk x (List.mem_cons_of_mem _ hx)).2⟩) (by omega)
    rw [List.length_cons]
    omega
theorem Xg : ∀ {t : Tr}, (ads t).length = (inr t).length := by
  intro t
  induction t with
  | nil => rfl
  | node a c l k v r h1 h2 => simp [ads, inr, h1, h2]; omega
theorem UN.few (A : UN W p t) : (ads t).length ≤ 12 := by
  rw [Xg]
  have := qKC (a := 0) A.srt (fun q hq => (A.key q hq).1) (by omega)
  omega
theorem ZB : ∀ {Z : List Fr}, Z.length ≤ (jn Z).length := by
  intro Z
  induction Z with
  | nil => exact Nat.le_refl _
  | cons f Z ih => simp [jn]; omega
theorem U5 {Z : List Fr} {t : Tr} : Z.length + (ads t).length ≤ (ads (zN Z t)).length := by
  rw [perm_plug.length_eq, List.length_append]
  have := ZB (Z := Z)
  omega
theorem Xa : ∀ {Z : List Fr} {t : Tr} {m : Nat}, RB (zN Z t) m → ∃ n, RB t n ∧ RBZ Z n (isR t) := by
  intro Z
  induction Z with
  | nil => intro t m h; exact ⟨m, h, trivial⟩
  | cons f Z ih =>
    intro t m h
    obtain ⟨n, h1, h2⟩ := ih (t := fr f t) h
    rw [yX] at h2
    obtain ⟨j, h3, h4, h5, h6⟩ := rbF.1 h1
    refine ⟨j, h4, h3, fun hc => ⟨(h5 hc).2.2, (h5 hc).2.1⟩, ?_⟩
    cases hc : f.c with
    | true => rw [if_pos rfl]; rw [hc] at h2; rw [← (h5 hc).1]; exact h2
    | false => rw [if_neg (by simp)]; rw [hc] at h2; rw [← h6 hc]; exact h2
theorem xN.hp (Z : xN W T fre p t p' t') : Hp W T p (ads t) fre p' (ads t') W (rt t) (ndW W) :=
  ⟨Z.H, Z.A.root, fun _ _ => ⟨rfl, rfl, rfl, rfl⟩, ⟨rfl, fun _ _ _ _ _ => rfl⟩, Z.rr, rfl⟩
theorem HY.bump (H : HY W T L fre) : 14 ≤ qG W 5 ∧ qG W 5 ≤ T := by
  obtain ⟨sts, bs, ls, H⟩ := H
  exact ⟨H.P.low, H.P.bump⟩
theorem Hp.other (Z : Hp W T p L fre p' (ads t') W0 rv nd) (B : UN W0 p' t') : UN W p' t' := by
  refine ⟨Z.oth.1.trans B.root, B.rep.off fun x hx => ?_, B.rb, B.srt, B.key⟩
  have h := Z.oth.2 x hx
  have h0 := h 0 (by omega) (by omega)
  rw [Int.add_zero] at h0
  unfold ndW
  rw [h0, h 1 (by omega) (by omega), h 2 (by omega) (by omega), h 3 (by omega) (by omega)]
theorem Hp.repW (Z : Hp W T p L fre p' L' W0 rv nd) {u : Tr} (R : Rep nd u) (h : ∀ x ∈ ads u, x ∈ L) : Rep (ndW W) u := by
  refine R.off fun x hx => ?_
  have := Z.nds x (h x hx)
  unfold ndW
  rw [this.1, this.2.1, this.2.2.1, this.2.2.2]
theorem Mr {u : Tr} (Fi : Fin T p L fre p' (ads t') W0 W u) (hu : L.Perm (ads u)) (B : UN W0 p' t') (srt : Srt (inr u)) (key : ∀ q ∈ inr u, (0 ≤ q.1 ∧ q.1 < 12) ∧ 0 ≤ q.2 ∧ q.2 < 12) :
    ∃ t2, xN W T fre p t2 p' t' ∧ inr t2 = inr u ∧ qG W 5 = qG W0 5 := by
  obtain ⟨rv, nd, t2, n, Z, h1, h2, h3, h4, h5⟩ := Fi.ex
  have hp : L.Perm (ads t2) := hu.trans h5.symm
  refine ⟨t2, ⟨Z.H.perm (fun x => ?_) ?_, ⟨Z.rv.trans h1, Z.repW h2 fun x hx => hp.mem_iff.2 hx, ⟨n, h3⟩, by rw [h4]; exact srt, by rw [h4]; exact key⟩, Z.other B, Z.rr⟩, h4, Z.b5⟩
  · rw [List.mem_append, List.mem_append, hp.mem_iff]
  · exact (List.Perm.append_right _ hp).nodup_iff.1 Z.H.nd
def loP (k : Int) (l : List qm) : List qm := l.filter fun q => decide (q.1 < k)
def hiP (k : Int) (l : List qm) : List qm := l.filter fun q => decide (k < q.1)
def inP (k : Int) (l : List qm) : Bool := l.any fun q => decide (q.1 = k)
def kK (k x : Int) (l : List qm) : List qm := loP k l ++ (k, x) :: hiP k l
def Je (k : Int) (l : List qm) : List qm := loP k l ++ hiP k l
theorem Xx {k : Int} {l : List qm} (h : ∀ q ∈ l, q.1 < k) : loP k l = l ∧ hiP k l = [] := by
  refine ⟨List.filter_eq_self.2 fun q hq => decide_eq_true (h q hq), List.filter_eq_nil_iff.2 fun q hq => ?_⟩
  have := h q hq
  simp; omega
theorem Xz {k : Int} {l : List qm} (h : ∀ q ∈ l, k < q.1) : loP k l = [] ∧ hiP k l = l := by
  refine ⟨List.filter_eq_nil_iff.2 fun q hq => ?_, List.filter_eq_self.2 fun q hq => decide_eq_true (h q hq)⟩
  have := h q hq
  simp; omega
theorem wL {k : Int} {a b : List qm} : loP k (a ++ b) = loP k a ++ loP k b ∧ hiP k (a ++ b) = hiP k a ++ hiP k b := ⟨List.filter_append .., List.filter_append ..⟩
theorem ML {k : Int} {a b : List qm} (ha : ∀ q ∈ a, q.1 < k) (hb : ∀ q ∈ b, k < q.1) : loP k (a ++ b) = a ∧ hiP k (a ++ b) = b ∧ inP k (a ++ b) = false := by
  refine ⟨?_, ?_, ?_⟩
  · rw [wL.1, (Xx ha).1, (Xz hb).1, List.append_nil]
  · rw [wL.2, (Xx ha).2, (Xz hb).2, List.nil_append]
  · refine List.any_eq_false.2 fun q hq => ?_
    rcases List.mem_append.1 hq with h | h
    · have := ha q h; simp; omega
    · have := hb q h; simp; omega
theorem Vv {k x : Int} {a b : List qm} (ha : ∀ q ∈ a, q.1 < k) (hb : ∀ q ∈ b, k < q.1) : loP k (a ++ (k, x) :: b) = a ∧ hiP k (a ++ (k, x) :: b) = b ∧ inP k (a ++ (k, x) :: b) = true := by
  have e : (k, x) :: b = [(k, x)] ++ b := rfl
  have h0 : loP k [(k, x)] = [] ∧ hiP k [(k, x)] = [] := by simp [loP, hiP]
  refine ⟨?_, ?_, ?_⟩
  · rw [e, wL.1, wL.1, (Xx ha).1, (Xz hb).1, h0.1]; simp
  · rw [e, wL.2, wL.2, (Xx ha).2, (Xz hb).2, h0.2]; simp
  · exact List.any_eq_true.2 ⟨(k, x), by simp, by simp⟩
theorem MS {k x : Int} {a b : List qm} (hs : Srt (a ++ b)) (ha : ∀ q ∈ a, q.1 < k) (hb : ∀ q ∈ b, k < q.1) : Srt (a ++ (k, x) :: b) := by
  have h := List.pairwise_append.1 hs
  refine List.pairwise_append.2 ⟨h.1, List.pairwise_cons.2 ⟨fun q hq => hb q hq, h.2.1⟩, fun q hq y hy => ?_⟩
  rcases List.mem_cons.1 hy with rfl | hy
  · exact ha q hq
  · have h1 := ha q hq; have h2 := hb y hy; omega
theorem M7 {a b : List qm} {q : qm} (hs : Srt (a ++ q :: b)) : Srt (a ++ b) := by
  have h := List.pairwise_append.1 hs
  have h2 := List.pairwise_cons.1 h.2.1
  exact List.pairwise_append.2 ⟨h.1, h2.2, fun x hx y hy => h.2.2 x hx y (List.mem_cons_of_mem _ hy)⟩
theorem MN {a x : Int} {x' : Nd} {k : Act α} {Q : Option α → Int → List Int → List Int → Prop} (Z : Hp W T p L fre p' L' W0 rv nd) (ha : a ∈ L) (hx : 0 ≤ x ∧ x < 18446744073709551616)
    (hn : x' = ⟨x, (nd a).v, (nd a).w, (nd a).y⟩) (hr : r + 1 ≤ 96)
    (w : ∀ W', Hp W' T p L fre p' L' W0 rv (upd nd a x') → wpA T (SqT p' L') k W' (r + 1) F s Q) : wpA T (SqT p' L') (.take [(a, x)] k) W r F s Q := by
  have := w4 (j := 0) (x := x) (x' := x') Z ha (by omega) hx (by rw [hn]; simp) hr w
  rwa [Int.add_zero] at this
theorem Xh {key : Int} {K : Int → List ji → Act α} {Q : Option α → Int → List Int → List Int → Prop} (Z : xN W T fre p t p' t')
    (w : ∀ (Zs : List Fr) (u : Tr) (s' : Int), zN Zs u = t → RepZ (ndW W) (rt t) Zs (rt u) → Rep (ndW W) u → (u = .nil ∨ ∃ a c l v rr, u = .node a c l key v rr) → (∀ q ∈ loZ Zs, q.1 < key) → (∀ q ∈ hiZ Zs, key < q.1) → s' ≤ 12 → Zs.length + (ads u).length ≤ 12 →
      wpA T (SqT p' (ads t')) (K (rt u) (jO Zs)) W r F s' Q) : wpA T (SqT p' (ads t')) (JB p key K) W r F 0 Q := by
  have hf := Z.A.few
  have Hh := Z.hp
  unfold JB
  have hb := wG Hh (t := t) fun x hx => hx
  refine kH Hh (by omega) ?_
  have e : ([] : List ji) = jO [] := rfl
  rw [e]
  refine qXD Hh (t := t) (Zs := []) (m := 2049) rfl Z.A.rep (fun x hx => hx) (by omega) (by omega) Z.A.srt (fun q hq => absurd hq (List.not_mem_nil)) (fun q hq => absurd hq (List.not_mem_nil)) ?_
  intro Zs u s' h1 h2 h3 h4 h5 h6 h7
  have h1 : zN Zs u = t := h1
  have := U5 (Z := Zs) (t := u)
  rw [h1] at this
  exact w Zs u s' h1 h2 h3 h4 h5 h6 (by omega) (by omega)
theorem qVP {key x : Int} {Q : Option Bool → Int → List Int → List Int → Prop} (Z : xN W T [] p t p' t') (hk : 0 ≤ key ∧ key < 12) (hx : 0 ≤ x ∧ x < 12)
    (ok : ∀ W' t2, qG W 5 ≤ qG W' 5 → xN W' T [] p t2 p' t' → inr t2 = kK key x (inr t) → Q (some (!inP key (inr t))) 0 W' [])
    (full : (T : Int) < qG W 5 + 5 → Q none 4 W []) : wpA T (SqT p' (ads t')) (yB T p key x) W 0 [] 0 Q := by
  unfold yB
  refine Xh Z fun Zs u s' hpl RZ R hu hlo hhi hs hz => ?_
  have Hh := Z.hp
  have hLu : ∀ y ∈ ads u ++ jn Zs, y ∈ ads t := fun y hy => by rw [← hpl]; exact perm_plug.mem_iff.2 hy
  have hin : inr t = loZ Zs ++ inr u ++ hiZ Zs := by rw [← hpl, x5]
  have hnd : (ads u ++ jn Zs).Nodup := by
    have h := (List.nodup_append.1 Z.H.nd).1
    rw [← hpl] at h
    exact perm_plug.nodup_iff.1 h
  have hrb : ∃ n, RB u n ∧ RBZ Zs n (isR u) := by
    obtain ⟨m, hm⟩ := Z.A.rb
    rw [← hpl] at hm
    exact Xa hm
  rcases hu with rfl | ⟨a, c, l, v, rr, rfl⟩
  · rw [if_neg (by show ¬ (0 : Int) ≠ 0; omega)]
    have hbump := Z.H.bump
    have hL' : ∀ y ∈ ads t', y ∈ ads t ++ ads t' := fun y hy => List.mem_append.2 (.inr hy)
    have hrr := Z.rr
    have hSl : ∀ q : Int, 1 ≤ q → q ≤ 5 → SqT p' (ads t') q := fun q h1 h2 => ⟨by omega, fun y hy => by have := Z.H.mem (hL' y hy); omega⟩
    have hin2 : inr t = loZ Zs ++ hiZ Zs := by rw [hin]; simp [inr]
    obtain ⟨i1, i2, i3⟩ := ML hlo hhi
    rw [← hin2] at i1 i2 i3
    rw [i3] at ok
    refine qQt Z.H (hSl 2 (by omega) (by omega)) (hSl 5 (by omega) (by omega)) (fun q h1 h2 h3 => ⟨by omega, fun y hy => h3 y (hL' y hy)⟩) (by omega) (fun n W1 H1 f1 g5 => ?_) full
    have hnb := H1.mem (List.mem_cons_self ..)
    have hsz := H1.size
    have hnd1 := H1.nd
    rw [List.nodup_cons] at hnd1
    have hap : ∀ y ∈ ads t ++ ads t', y + 5 ≤ n ∨ n + 5 ≤ y := by
      intro y hy
      rcases H1.apart (List.mem_cons_of_mem _ hy) (List.mem_cons_self ..) with h | h
      · subst h; exact absurd hy hnd1.1
      · exact h
    have same : ∀ y ∈ ads t ++ ads t', ∀ j : Int, 0 ≤ j → j < 4 → qG W1 (y + j).toNat = qG W (y + j).toNat := by
      intro y hy j h1 h2
      have h3 := Z.H.mem hy
      have h4 := hap y hy
      exact f1 _ (by omega) (by omega) (by omega) (by omega) (by omega)
    have nsame : ∀ y ∈ ads t ++ ads t', ndW W1 y = ndW W y := by
      intro y hy
      have h0 := same y hy 0 (by omega) (by omega)
      rw [Int.add_zero] at h0
      unfold ndW
      rw [h0, same y hy 1 (by omega) (by omega), same y hy 2 (by omega) (by omega), same y hy 3 (by omega) (by omega)]
    have rsame : ∀ q : Int, 6 ≤ q → q ≤ 13 → qG W1 q.toNat = qG W q.toNat := fun q h1 h2 => f1 _ (by omega) (by omega) (by omega) (by omega) (by omega)
    have H0 : Hp W1 T p (n :: ads t) [] p' (ads t') W1 (rt t) (ndW W1) :=
      ⟨H1, by rw [rsame p (by omega) (by omega)]; exact Z.A.root, fun _ _ => ⟨rfl, rfl, rfl, rfl⟩, ⟨rfl, fun _ _ _ _ _ => rfl⟩, Z.rr, rfl⟩
    have B1 : UN W1 p' t' := ⟨by rw [rsame p' (by omega) (by omega)]; exact Z.B.root, Z.B.rep.off fun y hy => nsame y (hL' y hy), Z.B.rb, Z.B.srt, Z.B.key⟩
    have hn : n ∈ n :: ads t := List.mem_cons_self ..
    have hnt : n ∉ ads t := fun h => hnd1.1 (List.mem_append.2 (.inl h))
    refine MN H0 hn (by omega) rfl (by omega) fun W2 H2 => ?_
    refine w4 (j := 1) (x' := ⟨key, x, (ndW W1 n).w, (ndW W1 n).y⟩) H2 hn (by omega) (by omega) (by rw [xZ]; simp) (by omega) fun W3 H3 => ?_
    refine w4 (j := 2) (x' := ⟨key, x, 1, (ndW W1 n).y⟩) H3 hn (by omega) (by omega) (by rw [xZ]; simp) (by omega) fun W4 H4 => ?_
    refine w4 (j := 3) (x' := ⟨key, x, 1, 0⟩) H4 hn (by omega) (by omega) (by rw [xZ]; simp) (by omega) fun W5 H5 => ?_
    generalize hnd5 : upd (upd (upd (upd (ndW W1) n _) n _) n _) n _ = nd5 at H5
    have o5 : ∀ y, y ≠ n → nd5 y = ndW W1 y := fun y hy => by rw [← hnd5, jU hy, jU hy, jU hy, jU hy]
    have a5 : nd5 n = ⟨key, x, 1, 0⟩ := by rw [← hnd5, xZ]
    have RZ5 : RepZ nd5 (rt t) Zs (rt .nil) := RZ.off fun y hy => by
      have hy2 := hLu y (List.mem_append.2 (.inr hy))
      rw [o5 y (fun e => hnt (e ▸ hy2)), nsame y (List.mem_append.2 (.inl hy2))]
    have hndz : (jn Zs).Nodup := (List.nodup_append.1 hnd).2.1
    have hnz : n ∉ jn Zs := fun h => hnt (hLu n (List.mem_append.2 (.inr h)))
    have e : xo p (jO Zs) (jO Zs).length n (zm p (.ret true) 2049 (jO Zs)) = xo p (jO Zs ++ []) Zs.length n (zm p (.ret true) 2049 (jO Zs)) := by rw [List.append_nil, zF]
    rw [e]
    refine Jk H5 RZ5 (fun y hy => List.mem_cons_of_mem _ (hLu y (List.mem_append.2 (.inr hy)))) hndz (by omega) (by omega) fun W6 rv6 nd6 H6 RZ6 o6 => ?_
    obtain ⟨m, hm1, hm2⟩ := hrb
    have hm1 : m = 0 := hm1
    subst hm1
    simp only [ads, List.length_nil] at hz
    refine Nm (t := .node n true .nil key x .nil) (n := 0) H6 RZ6 ⟨?_, trivial, trivial⟩ ?_ ?_ rfl ⟨0, rfl, rfl, fun _ => ⟨rfl, rfl, rfl⟩, by simp⟩ hm2 (by omega) (by omega) (by omega) ?_
    · rw [o6 n hnz, a5]; rfl
    · intro y hy
      rcases List.mem_append.1 hy with h | h
      · rw [List.mem_singleton.1 h]; exact hn
      · exact List.mem_cons_of_mem _ (hLu y (List.mem_append.2 (.inr h)))
    · show (n :: jn Zs).Nodup
      exact List.nodup_cons.2 ⟨hnz, hndz⟩
    · intro W7 r7 s7 _ _ Fi
      have hu : inr (zN Zs (.node n true .nil key x .nil)) = kK key x (inr t) := by
        rw [x5]
        unfold kK
        rw [i1, i2]
        simp [inr]
      have hpm : (n :: ads t).Perm (ads (zN Zs (.node n true .nil key x .nil))) := by
        refine List.Perm.trans ?_ perm_plug.symm
        show (n :: ads t).Perm (n :: ([] ++ jn Zs))
        refine List.Perm.cons _ ?_
        rw [← hpl]
        exact perm_plug
      obtain ⟨t2, hT, hi, hb⟩ := Mr Fi hpm B1 (by
          rw [hu]; unfold kK; rw [i1, i2]
          exact MS (by rw [← hin2]; exact Z.A.srt) hlo hhi) (by
          intro q hq
          rw [hu] at hq; unfold kK at hq; rw [i1, i2] at hq
          rcases List.mem_append.1 hq with h | h
          · exact Z.A.key q (by rw [hin2]; exact List.mem_append.2 (.inl h))
          · rcases List.mem_cons.1 h with rfl | h
            · exact ⟨hk, hx⟩
            · exact Z.A.key q (by rw [hin2]; exact List.mem_append.2 (.inr h)))
      exact ok W7 t2 (by omega) hT (hi.trans hu)
  · have ha : a ∈ ads t := hLu a (by simp [ads])
    have hab := Hh.b ha
    rw [if_pos (by show a ≠ 0; omega)]
    have hin2 : inr t = (loZ Zs ++ inr l) ++ (key, v) :: (inr rr ++ hiZ Zs) := by rw [hin]; simp [inr]
    have hsr := Z.A.srt
    rw [hin2] at hsr
    have hs2 := List.pairwise_append.1 hsr
    have hs3 := List.pairwise_cons.1 hs2.2.1
    have hlo2 : ∀ q ∈ loZ Zs ++ inr l, q.1 < key := fun q hq => hs2.2.2 q hq _ (List.mem_cons_self ..)
    have hhi2 : ∀ q ∈ inr rr ++ hiZ Zs, key < q.1 := fun q hq => hs3.1 q hq
    obtain ⟨i1, i2, i3⟩ := Vv (x := v) hlo2 hhi2
    rw [← hin2] at i1 i2 i3
    rw [i3] at ok
    obtain ⟨R1, R2, R3⟩ := R
    simp only [ads, List.nodup_append, List.nodup_cons, List.mem_append, List.mem_cons, not_or] at hnd
    refine w4 (a := a) (j := 1) (x' := ⟨key, x, rt l * 2 + zf c, rt rr⟩) Hh ha (by omega) (by omega) (by show _ = (if (1 : Int) = 0 then x else (ndW W a).k) ∧ _ = (if (1 : Int) = 1 then x else (ndW W a).v) ∧ _ = (if (1 : Int) = 2 then x else (ndW W a).w) ∧ _ = (if (1 : Int) = 3 then x else (ndW W a).y); rw [R1]; simp) (by omega) fun W1 H1 => ?_
    obtain ⟨m, hm1, hm2⟩ := hrb
    have hu : inr (zN Zs (.node a c l key x rr)) = kK key x (inr t) := by
      rw [x5]
      unfold kK
      rw [i1, i2]
      simp [inr]
    have RZ1 : RepZ (upd (ndW W) a ⟨key, x, rt l * 2 + zf c, rt rr⟩) (rt t) Zs (rt (.node a c l key x rr)) := RZ.upd (by grind)
    have R1' : Rep (upd (ndW W) a ⟨key, x, rt l * 2 + zf c, rt rr⟩) (.node a c l key x rr) := ⟨xZ, R2.upd (by grind), R3.upd (by grind)⟩
    have hRR := vq RZ1 R1'
    obtain ⟨j, hj⟩ := vr (Z := Zs) (t := .node a c l key x rr) (n := m) hm1 hm2
    have Fi : Fin T p (ads t) [] p' (ads t') W W1 (zN Zs (.node a c l key x rr)) := ⟨⟨_, _, _, j, H1, hRR.1, hRR.2, hj, rfl, List.Perm.refl _⟩⟩
    have hpm : (ads t).Perm (ads (zN Zs (.node a c l key x rr))) := by rw [← hpl]; exact xJ (.refl _)
    obtain ⟨t2, hT, hi, hb⟩ := Mr Fi hpm Z.B (by
        rw [hu]; unfold kK; rw [i1, i2]
        have := M7 hsr
        exact MS this hlo2 hhi2) (by
        intro q hq
        rw [hu] at hq; unfold kK at hq; rw [i1, i2] at hq
        rcases List.mem_append.1 hq with h | h
        · exact Z.A.key q (by rw [hin2]; exact List.mem_append.2 (.inl h))
        · rcases List.mem_cons.1 h with rfl | h
          · exact ⟨hk, hx⟩
          · exact Z.A.key q (by rw [hin2]; exact List.mem_append.2 (.inr (List.mem_cons_of_mem _ h))))
    exact ok W1 t2 (by omega) hT (hi.trans hu)
end Go.Proofs.YtpohfcljfemhlaaGreat.arenaParts
namespace Go.Proofs.YtpohfcljfemhlaaGreat.arenaParts
open Go Go.Ae arenaPlays
set_option maxRecDepth 100000
variable {α : Type} {W W0 : List Int} {T : Nat} {p p' rv : Int} {L fre L' F : List Int} {nd : Int → Nd} {r : Nat} {s : Int} {Q : Option α → Int → List Int → List Int → Prop}
theorem XN {f g : Fr} {t u : Tr} (hk : f.k = g.k) (hv : f.v = g.v) (hs : f.s = g.s) (ho : inr f.o = inr g.o) (ht : inr t = inr u) : inr (fr f t) = inr (fr g u) := by
  rw [we, we, hk, hv, hs, ho, ht]
theorem Mo {s : Bool} : 1 - sdB s = sdB (!s) := by cases s <;> rfl
theorem xI {f : Fr} {Z : List Fr} : jO (f :: Z) = jO Z ++ [(f.a, sdB f.s)] := gB
theorem VA {t : Tr} (h : isR t = true) : t ≠ .nil := fun e => by subst e; cases h
theorem qJo {t : Tr} {n : Nat} (h : RB t n) (hr : isR t = true) : RB (pnt false t) (n + 1) := by
  cases t with
  | nil => cases hr
  | node a c l k v rr =>
    have hc : c = true := hr
    subst hc
    obtain ⟨j, q1, q2, q3, _⟩ := h
    have := (q3 rfl).1
    subst this
    exact ⟨n, q1, q2, by simp, fun _ => rfl⟩
theorem Gi {t : Tr} (h : t ≠ .nil) : rt t ∈ ads t := by
  cases t with
  | nil => exact absurd rfl h
  | node a c l k v r => exact List.mem_cons_self ..
theorem Zt {f : Fr} {x c : Int} {o : Tr} {k : Act α} (Z : Hp W T p L fre p' L' W0 rv nd) (R : nd f.a = ndF f x) (hL : f.a ∈ L) (ho : rt o = c) (hc : 0 ≤ c ∧ c < 2147483648) (hr : r + 1 ≤ 96)
    (w : ∀ W' nd', Hp W' T p L fre p' L' W0 rv nd' → nd' f.a = ndF { f with o := o } x → (∀ x, x ≠ f.a → nd' x = nd x) → wpA T (SqT p' L') k W' (r + 1) F s Q) : wpA T (SqT p' L') (xC f.a (1 - sdB f.s) c k) W r F s Q := by
  obtain ⟨a, co, kk, v, sd, o0⟩ := f
  dsimp only at *
  subst ho
  cases sd
  · refine kV Z hL hc hr fun W' Z' => w W' _ Z' ?_ fun x hx => jU hx
    rw [xZ, R]; rfl
  · refine kT Z hL hc hr fun W' Z' => w W' _ Z' ?_ fun x hx => jU hx
    rw [xZ, R]
    show (⟨kk, v, rt o * 2 + (rt o0 * 2 + zf co) % 2, x⟩ : Nd) = _
    rw [Yj]; rfl
def kQ (f : Fr) (b kb vb : Int) (far inn t : Tr) : Tr := fr ⟨b, f.c, kb, vb, f.s, pnt false far⟩ (fr { f with c := false, o := inn } t)
theorem UL {Zs : List Fr} {fa fk fv b kb vb : Int} {fc cb sd : Bool} {far inn t : Tr} {k : Act α} (Z : Hp W T p L fre p' L' W0 rv nd) (RZ : RepZ nd rv (⟨fa, fc, fk, fv, sd, fr ⟨b, cb, kb, vb, sd, far⟩ inn⟩ :: Zs) (rt t)) (R : Rep nd t)
    (hL : ∀ x ∈ ads t ++ jn (⟨fa, fc, fk, fv, sd, fr ⟨b, cb, kb, vb, sd, far⟩ inn⟩ :: Zs), x ∈ L) (N : Dj t (⟨fa, fc, fk, fv, sd, fr ⟨b, cb, kb, vb, sd, far⟩ inn⟩ :: Zs)) (hfar : isR far = true) (hr : r + 6 ≤ 96)
    (w : ∀ W' r' rv' nd', r' ≤ r + 6 → Hp W' T p L fre p' L' W0 rv' nd' → RepZ nd' rv' Zs b → Rep nd' (kQ ⟨fa, fc, fk, fv, sd, fr ⟨b, cb, kb, vb, sd, far⟩ inn⟩ b kb vb far inn t) → wpA T (SqT p' L') k W' r' F s Q) :
    wpA T (SqT p' L') (YF p (jO (⟨fa, fc, fk, fv, sd, fr ⟨b, cb, kb, vb, sd, far⟩ inn⟩ :: Zs)) (fa, sdB sd) b k) W r F s Q := by
  obtain ⟨f1, f2, RZ⟩ := RZ
  have f2' := zb.1 f2
  obtain ⟨b1, b2, b3⟩ := f2'
  have hmem : ∀ x, x ∈ ads (fr ⟨b, cb, kb, vb, sd, far⟩ inn) ↔ x = b ∨ x ∈ ads far ∨ x ∈ ads inn := fun x => y4
  have N' := N
  unfold Dj at N'
  simp only [jn, List.nodup_append, List.nodup_cons, List.mem_append, List.mem_cons, not_or] at N' hL
  have hno := ko.1 N'.2.1.2.1
  dsimp only at hno f1 b1 b2
  have hfa : fa ∈ L := hL fa (by simp)
  have hb : b ∈ L := hL b (by simp [hmem])
  have hbb := Z.b hb
  have hsz := Z.H.size
  have hfne := VA hfar
  have hfm := Gi hfne
  have hLf : ∀ x ∈ ads far, x ∈ L := fun x hx => hL x (by simp [hmem, hx])
  have hbf := wG Z hLf
  have dTF : (ads (fr ⟨fa, fc, fk, fv, sd, fr ⟨b, cb, kb, vb, sd, far⟩ inn⟩ t)).Nodup := by
    refine ko.2 ⟨?_, ?_, N'.2.1.2.1, N'.1, ?_⟩ <;> dsimp only <;> grind
  unfold YF
  refine Ko Z (zb.2 ⟨f1, f2, R⟩) ?_ dTF (by omega) fun W1 nd1 Z1 R1 o1 => ?_
  · intro x hx
    rw [y4] at hx
    exact hL x (by dsimp only at hx; grind)
  obtain ⟨q1, q2, q3⟩ := zb.1 R1
  obtain ⟨q4, q5, q6⟩ := zb.1 q3
  dsimp only at q1 q2 q4 q5
  rw [xh] at q1
  simp only [hmem] at N' hL
  refine XI (f := ⟨fa, fc, fk, fv, sd, inn⟩) Z1 q4 hfa ?_
  dsimp only
  refine xj (f := ⟨b, cb, kb, vb, sd, far⟩) Z1 q1 hb (by omega) fun W2 r2 nd2 h2 Z2 R2 o2 => ?_
  dsimp only at R2 o2
  have q4' : nd2 fa = ndF ⟨fa, fc, fk, fv, sd, inn⟩ (rt t) := by rw [o2 fa (by grind)]; exact q4
  refine xj (f := ⟨fa, fc, fk, fv, sd, inn⟩) Z2 q4' hfa (by omega) fun W3 r3 nd3 h3 Z3 R3 o3 => ?_
  dsimp only at R3 o3
  have R2' : nd3 b = ndF ⟨b, fc, kb, vb, sd, far⟩ fa := by rw [o3 b (by grind)]; exact R2
  refine QD (f := ⟨b, fc, kb, vb, sd, far⟩) Z3 R2' hb (by dsimp only; omega) ?_
  dsimp only
  have rfar : Rep nd3 far := q2.off fun x hx => by rw [o3 x (by grind), o2 x (by grind)]
  refine wD Z3 rfar hLf (by grind) hfne (by omega) fun W4 r4 nd4 h4 Z4 R4 o4 => ?_
  rw [xI]
  dsimp only
  have el : (jO Zs ++ [(fa, sdB sd)]).length - 1 = Zs.length := by simp [zF]
  rw [el]
  have oo : ∀ x, x ≠ fa → x ≠ b → x ≠ rt far → nd4 x = nd x := fun x h1 h2 h3 => by rw [o4 x h3, o3 x h1, o2 x h2, o1 x h1 h2]
  have o14 : ∀ x, x ≠ fa → x ≠ b → x ≠ rt far → nd4 x = nd1 x := fun x h1 h2 h3 => by rw [o4 x h3, o3 x h1, o2 x h2]
  refine Jk (x0 := fa) Z4 (RZ.off fun x hx => oo x (by grind) (by grind) (by grind)) (fun x hx => hL x (by simp [hx])) (by grind) (by omega) (by omega) fun W5 rv5 nd5 Z5 RZ5 o5 => ?_
  refine w W5 _ rv5 nd5 (by omega) Z5 RZ5 ?_
  unfold kQ
  refine zb.2 ⟨?_, ?_, zb.2 ⟨?_, ?_, ?_⟩⟩
  · dsimp only
    rw [o5 b (by grind), o4 b (by grind), R2', xh]
    unfold ndF
    dsimp only
    rw [Yx]
  · dsimp only
    exact R4.off fun x hx => o5 x (by rw [wo] at hx; grind)
  · dsimp only
    rw [o5 fa (by grind), o4 fa (by grind)]
    exact R3
  · dsimp only
    exact q5.off fun x hx => by rw [o5 x (by grind), o14 x (by grind) (by grind) (by grind)]
  · exact q6.off fun x hx => by rw [o5 x (by grind), o14 x (by grind) (by grind) (by grind)]
theorem GL {f : Fr} {b kb vb : Int} {far inn t : Tr} {cb : Bool} (h : f.o = fr ⟨b, cb, kb, vb, f.s, far⟩ inn) : inr (kQ f b kb vb far inn t) = inr (fr f t) := by
  obtain ⟨a, c, k, v, sd, o⟩ := f
  dsimp only at h
  subst h
  unfold kQ
  cases sd <;> simp [fr, inr, JA]
theorem Y3 {f : Fr} {b kb vb : Int} {far inn t : Tr} {cb : Bool} (h : f.o = fr ⟨b, cb, kb, vb, f.s, far⟩ inn) : (ads (kQ f b kb vb far inn t)).Perm (ads (fr f t)) := by
  obtain ⟨a, c, k, v, sd, o⟩ := f
  dsimp only at h
  subst h
  refine List.perm_iff_count.2 fun x => ?_
  unfold kQ
  cases sd <;> simp [fr, ads, wo, List.count_cons, List.count_append] <;> omega
theorem K4 {f : Fr} {b kb vb : Int} {far inn t : Tr} {n : Nat} (ht : RB t n) (hi : RB inn n) (hf : RB far n) (hr : isR far = true) : RB (kQ f b kb vb far inn t) (if f.c = true then n + 1 else n + 2) ∧ isR (kQ f b kb vb far inn t) = f.c := by
  refine ⟨?_, yX⟩
  have h1 : RB (fr { f with c := false, o := inn } t) (n + 1) := rbF.2 ⟨n, hi, ht, by simp, fun _ => rfl⟩
  have h2 := qJo hf hr
  refine rbF.2 ⟨n + 1, h2, h1, fun hc => ⟨?_, ?_, yX⟩, fun hc => ?_⟩
  · dsimp only at hc; rw [if_pos hc]
  · cases far <;> rfl
  · dsimp only at hc; rw [if_neg (by rw [hc]; simp)]
theorem qQI {Zs : List Fr} {fa fk fv b kb vb : Int} {fc cb sd : Bool} {far inn t : Tr} {n : Nat} {k : Act α} (Z : Hp W T p L fre p' L' W0 rv nd) (RZ : RepZ nd rv (⟨fa, fc, fk, fv, sd, fr ⟨b, cb, kb, vb, sd, far⟩ inn⟩ :: Zs) (rt t)) (R : Rep nd t)
    (hL : ∀ x ∈ ads t ++ jn (⟨fa, fc, fk, fv, sd, fr ⟨b, cb, kb, vb, sd, far⟩ inn⟩ :: Zs), x ∈ L) (N : Dj t (⟨fa, fc, fk, fv, sd, fr ⟨b, cb, kb, vb, sd, far⟩ inn⟩ :: Zs)) (hred : isR far = true ∨ isR inn = true)
    (ht : RB t n) (hi : RB inn n) (hf : RB far n) (hz : RBZ Zs (if fc = true then n + 1 else n + 2) fc) (hr : r + 11 ≤ 96)
    (w : ∀ W' r', r' ≤ r + 11 → Fin T p L fre p' L' W0 W' (zN (⟨fa, fc, fk, fv, sd, fr ⟨b, cb, kb, vb, sd, far⟩ inn⟩ :: Zs) t) → wpA T (SqT p' L') k W' r' F s Q) :
    wpA T (SqT p' L') (wW p (jO (⟨fa, fc, fk, fv, sd, fr ⟨b, cb, kb, vb, sd, far⟩ inn⟩ :: Zs)) (fa, sdB sd) b k) W r F s Q := by
  obtain ⟨f1, f2, RZ0⟩ := id RZ
  obtain ⟨b1, b2, b3⟩ := zb.1 f2
  dsimp only at b1 b2 f1
  have hmem : ∀ x, x ∈ ads (fr ⟨b, cb, kb, vb, sd, far⟩ inn) ↔ x = b ∨ x ∈ ads far ∨ x ∈ ads inn := fun x => y4
  have N' := N
  have hL' := hL
  unfold Dj at N'
  simp only [jn, List.nodup_append, List.nodup_cons, List.mem_append, List.mem_cons, not_or, hmem] at N' hL'
  have hno := ko.1 N'.2.1.2.1
  dsimp only at hno
  have hfa : fa ∈ L := hL' fa (by simp)
  have hb : b ∈ L := hL' b (by simp)
  have hsz := Z.H.size
  have hLf : ∀ x ∈ ads far, x ∈ L := fun x hx => hL' x (by simp [hx])
  have hbf := wG Z hLf
  have hLi : ∀ x ∈ ads inn, x ∈ L := fun x hx => hL' x (by simp [hx])
  unfold wW
  dsimp only
  refine QD (f := ⟨b, cb, kb, vb, sd, far⟩) Z b1 hb (by dsimp only; omega) ?_
  dsimp only
  refine vp Z b2 hLf ?_
  cases hfr : isR far with
  | true =>
    rw [if_neg (by simp)]
    refine UL Z RZ R hL N hfr (by omega) fun W' r' rv' nd' h1 Z1 RZ1 R1 => w W' r' (by omega) ⟨⟨rv', nd', zN Zs (kQ ⟨fa, fc, fk, fv, sd, fr ⟨b, cb, kb, vb, sd, far⟩ inn⟩ b kb vb far inn t), ?_⟩⟩
    have hR := vq (by rw [show rt (kQ ⟨fa, fc, fk, fv, sd, fr ⟨b, cb, kb, vb, sd, far⟩ inn⟩ b kb vb far inn t) = b from xh]; exact RZ1) R1
    have hrb := K4 (f := ⟨fa, fc, fk, fv, sd, fr ⟨b, cb, kb, vb, sd, far⟩ inn⟩) (b := b) (kb := kb) (vb := vb) ht hi hf hfr
    obtain ⟨j, hj⟩ := vr (Z := Zs) hrb.1 (by rw [hrb.2]; exact hz)
    exact ⟨j, Z1, hR.1, hR.2, hj, vz (GL (cb := cb) rfl), xJ (Y3 (cb := cb) rfl)⟩
  | false =>
    have hir : isR inn = true := by
      rcases hred with h | h
      · rw [hfr] at h; cases h
      · exact h
    rw [if_pos rfl, Mo]
    obtain ⟨d, cd, kd, vd, X, Y, hin⟩ := qQU (!sd) (VA hir)
    subst hin
    have hcd : cd = true := by rw [yX] at hir; exact hir
    subst hcd
    have hm2 : ∀ x, x ∈ ads (fr ⟨d, true, kd, vd, !sd, X⟩ Y) ↔ x = d ∨ x ∈ ads X ∨ x ∈ ads Y := fun x => y4
    obtain ⟨j, rX, rY, q3, _⟩ := rbF.1 hi
    obtain ⟨qn, qX, qY⟩ := q3 rfl
    dsimp only at rX qX
    subst qn
    simp only [hm2] at N' hL' hno
    have hno2 := ko.1 hno.2.2.2.1
    dsimp only at hno2
    have hd : d ∈ L := hL' d (by simp)
    have hdb := Z.b hd
    have RB' : Rep nd (fr ⟨b, cb, kb, vb, !sd, fr ⟨d, true, kd, vd, !sd, X⟩ Y⟩ far) := by rw [← MT]; exact f2
    have hNB : (ads (fr ⟨b, cb, kb, vb, !sd, fr ⟨d, true, kd, vd, !sd, X⟩ Y⟩ far)).Nodup := by rw [← MT]; exact N'.2.1.2.1
    have hLB : ∀ x ∈ ads (fr ⟨b, cb, kb, vb, !sd, fr ⟨d, true, kd, vd, !sd, X⟩ Y⟩ far), x ∈ L := by
      intro x hx
      rw [y4] at hx
      dsimp only at hx
      rw [hm2] at hx
      exact hL' x (by grind)
    refine Ko Z RB' hLB hNB (by omega) fun W1 nd1 Z1 R1 o1 => ?_
    obtain ⟨q1, q2, q4⟩ := zb.1 R1
    obtain ⟨q5, q6, q7⟩ := zb.1 q4
    dsimp only at q1 q2 q5 q6
    rw [xh] at q1
    dsimp only at q1
    have f1' : nd1 fa = ndF ⟨fa, fc, fk, fv, sd, fr ⟨b, cb, kb, vb, sd, far⟩ (fr ⟨d, true, kd, vd, !sd, X⟩ Y)⟩ (rt t) := by rw [o1 fa (by grind) (by grind)]; exact f1
    rw [← Mo]
    refine Zt (f := ⟨fa, fc, fk, fv, sd, fr ⟨b, cb, kb, vb, sd, far⟩ (fr ⟨d, true, kd, vd, !sd, X⟩ Y)⟩) (o := fr ⟨d, false, kd, vd, sd, fr ⟨b, true, kb, vb, !sd, Y⟩ far⟩ X) (c := d) Z1 f1' hfa xh (by omega) (by omega) fun W2 nd2 Z2 R2 o2 => ?_
    dsimp only at R2 o2
    have q1' : nd2 d = ndF ⟨d, true, kd, vd, !sd, X⟩ b := by rw [o2 d (by grind)]; exact q1
    refine xj (f := ⟨d, true, kd, vd, !sd, X⟩) Z2 q1' hd (by omega) fun W3 r3 nd3 h3 Z3 R3 o3 => ?_
    dsimp only at R3 o3
    have q5' : nd3 b = ndF ⟨b, cb, kb, vb, !sd, Y⟩ (rt far) := by rw [o3 b (by grind), o2 b (by grind)]; exact q5
    refine xj (f := ⟨b, cb, kb, vb, !sd, Y⟩) Z3 q5' hb (by omega) fun W4 r4 nd4 h4 Z4 R4 o4 => ?_
    dsimp only at R4 o4
    have oo : ∀ x, x ≠ fa → x ≠ b → x ≠ d → nd4 x = nd x := fun x h1 h2 h3 => by rw [o4 x h2, o3 x h3, o2 x h1, o1 x h2 h3]
    have o14 : ∀ x, x ≠ fa → x ≠ b → x ≠ d → nd4 x = nd1 x := fun x h1 h2 h3 => by rw [o4 x h2, o3 x h3, o2 x h1]
    have hNew : Rep nd4 (fr ⟨b, true, kb, vb, !sd, Y⟩ far) := zb.2 ⟨R4, q6.off fun x hx => o14 x (by grind) (by grind) (by grind), q7.off fun x hx => o14 x (by grind) (by grind) (by grind)⟩
    have hm3 : ∀ x, x ∈ ads (fr ⟨b, true, kb, vb, !sd, Y⟩ far) ↔ x = b ∨ x ∈ ads Y ∨ x ∈ ads far := fun x => y4
    have hm4 : ∀ x, x ∈ ads (fr ⟨d, false, kd, vd, sd, fr ⟨b, true, kb, vb, !sd, Y⟩ far⟩ X) ↔ x = d ∨ x ∈ ads (fr ⟨b, true, kb, vb, !sd, Y⟩ far) ∨ x ∈ ads X := fun x => y4
    have hnewP : (ads (fr ⟨d, false, kd, vd, sd, fr ⟨b, true, kb, vb, !sd, Y⟩ far⟩ X)).Perm (ads (fr ⟨b, cb, kb, vb, sd, far⟩ (fr ⟨d, true, kd, vd, !sd, X⟩ Y))) := by
      refine List.perm_iff_count.2 fun x => ?_
      cases sd <;> simp [fr, ads, List.count_cons, List.count_append] <;> omega
    have hnewI : inr (fr ⟨d, false, kd, vd, sd, fr ⟨b, true, kb, vb, !sd, Y⟩ far⟩ X) = inr (fr ⟨b, cb, kb, vb, sd, far⟩ (fr ⟨d, true, kd, vd, !sd, X⟩ Y)) := by
      cases sd <;> simp [fr, inr]
    have hadsZ : (ads t ++ jn (⟨fa, fc, fk, fv, sd, fr ⟨d, false, kd, vd, sd, fr ⟨b, true, kb, vb, !sd, Y⟩ far⟩ X⟩ :: Zs)).Perm (ads t ++ jn (⟨fa, fc, fk, fv, sd, fr ⟨b, cb, kb, vb, sd, far⟩ (fr ⟨d, true, kd, vd, !sd, X⟩ Y)⟩ :: Zs)) :=
      List.Perm.append_left _ (List.Perm.cons _ (List.Perm.append_right _ hnewP))
    have hway : jO (⟨fa, fc, fk, fv, sd, fr ⟨b, cb, kb, vb, sd, far⟩ (fr ⟨d, true, kd, vd, !sd, X⟩ Y)⟩ :: Zs) = jO (⟨fa, fc, fk, fv, sd, fr ⟨d, false, kd, vd, sd, fr ⟨b, true, kb, vb, !sd, Y⟩ far⟩ X⟩ :: Zs) := by
      rw [xI, xI]
    rw [hway]
    refine UL (t := t) (cb := false) (far := fr ⟨b, true, kb, vb, !sd, Y⟩ far) (inn := X) Z4 ⟨?_, ?_, ?_⟩ ?_ ?_ ?_ yX (by omega) fun W5 r5 rv5 nd5 h5 Z5 RZ5 R5 => w W5 r5 (by omega) ⟨⟨rv5, nd5, zN Zs (kQ ⟨fa, fc, fk, fv, sd, fr ⟨d, false, kd, vd, sd, fr ⟨b, true, kb, vb, !sd, Y⟩ far⟩ X⟩ d kd vd (fr ⟨b, true, kb, vb, !sd, Y⟩ far) X t), ?_⟩⟩
    · dsimp only
      rw [o4 fa (by grind), o3 fa (by grind)]
      exact R2
    · dsimp only
      refine zb.2 ⟨?_, hNew, ?_⟩
      · dsimp only
        rw [o4 d (by grind), R3]
        unfold ndF
        dsimp only
        cases sd <;> simp [xh]
      · exact q2.off fun x hx => o14 x (by grind) (by grind) (by grind)
    · exact RZ0.off fun x hx => oo x (by grind) (by grind) (by grind)
    · exact R.off fun x hx => oo x (by grind) (by grind) (by grind)
    · intro x hx
      exact hL x (hadsZ.mem_iff.1 hx)
    · exact hadsZ.nodup_iff.2 N
    · have hR := vq (by rw [show rt (kQ ⟨fa, fc, fk, fv, sd, fr ⟨d, false, kd, vd, sd, fr ⟨b, true, kb, vb, !sd, Y⟩ far⟩ X⟩ d kd vd (fr ⟨b, true, kb, vb, !sd, Y⟩ far) X t) = d from xh]; exact RZ5) R5
      have hrb := K4 (f := ⟨fa, fc, fk, fv, sd, fr ⟨d, false, kd, vd, sd, fr ⟨b, true, kb, vb, !sd, Y⟩ far⟩ X⟩) (b := d) (kb := kd) (vb := vd) (far := fr ⟨b, true, kb, vb, !sd, Y⟩ far) ht rX (rbF.2 ⟨n, rY, hf, fun _ => ⟨rfl, qY, hfr⟩, by simp⟩) yX
      obtain ⟨j, hj⟩ := vr (Z := Zs) hrb.1 (by rw [hrb.2]; exact hz)
      refine ⟨j, Z5, hR.1, hR.2, hj, vz ?_, xJ ?_⟩
      · exact (GL (cb := false) rfl).trans (XN rfl rfl rfl hnewI rfl)
      · exact (Y3 (cb := false) rfl).trans (gu rfl hnewP (.refl _))
end Go.Proofs.YtpohfcljfemhlaaGreat.arenaParts
namespace Go.Proofs.YtpohfcljfemhlaaGreat.arenaParts
open Go Go.Ae arenaPlays
set_option maxRecDepth 100000
variable {α : Type} {W W0 : List Int} {T : Nat} {p p' rv : Int} {L fre L' F : List Int} {nd : Int → Nd} {r : Nat} {s : Int} {Q : Option α → Int → List Int → List Int → Prop}
theorem VN {b kb vb : Int} {cb sd : Bool} {far inn : Tr} {x : Int} {A B : Act α} (Z : Hp W T p L fre p' L' W0 rv nd) (R : Rep nd (fr ⟨b, cb, kb, vb, sd, far⟩ inn)) (hL : ∀ x ∈ ads (fr ⟨b, cb, kb, vb, sd, far⟩ inn), x ∈ L) (hx : x = b)
    (w1 : isR far = true ∨ isR inn = true → wpA T (SqT p' L') A W r F s Q) (w2 : isR far = false → isR inn = false → wpA T (SqT p' L') B W r F s Q) :
    wpA T (SqT p' L') (jQ x 0 fun l => xA l fun rl => if rl = true then A else jQ x 1 fun rr => xA rr fun r' => if r' = true then A else B) W r F s Q := by
  subst hx
  obtain ⟨b1, b2, b3⟩ := zb.1 R
  dsimp only at b1 b2
  have hmem : ∀ y, y ∈ ads (fr ⟨x, cb, kb, vb, sd, far⟩ inn) ↔ y = x ∨ y ∈ ads far ∨ y ∈ ads inn := fun y => y4
  simp only [hmem] at hL
  have hx : x ∈ L := hL x (by simp)
  have hLf : ∀ y ∈ ads far, y ∈ L := fun y hy => hL y (by simp [hy])
  have hLi : ∀ y ∈ ads inn, y ∈ L := fun y hy => hL y (by simp [hy])
  have hbf := wG Z hLf
  have hbi := wG Z hLi
  cases sd
  · -- the hole is low: inn first
    refine qKP (f := ⟨x, cb, kb, vb, false, far⟩) Z b1 hx (by omega) ?_
    refine vp Z b3 hLi ?_
    cases hi : isR inn with
    | true => rw [if_pos rfl]; exact w1 (.inr hi)
    | false =>
      rw [if_neg (by simp)]
      refine QD (f := ⟨x, cb, kb, vb, false, far⟩) Z b1 hx (by dsimp only; omega) ?_
      refine vp Z b2 hLf ?_
      cases hf : isR far with
      | true => rw [if_pos rfl]; exact w1 (.inl hf)
      | false => rw [if_neg (by simp)]; exact w2 hf hi
  · refine QD (f := ⟨x, cb, kb, vb, true, far⟩) Z b1 hx (by dsimp only; omega) ?_
    refine vp Z b2 hLf ?_
    cases hf : isR far with
    | true => rw [if_pos rfl]; exact w1 (.inl hf)
    | false =>
      rw [if_neg (by simp)]
      refine qKP (f := ⟨x, cb, kb, vb, true, far⟩) Z b1 hx (by omega) ?_
      refine vp Z b3 hLi ?_
      cases hi : isR inn with
      | true => rw [if_pos rfl]; exact w1 (.inr hi)
      | false => rw [if_neg (by simp)]; exact w2 hf hi
theorem Ys {m : Nat} {way : List ji} {k : Act α} {root : Int} : zK root k (m + 1) way = if 0 < way.length then .step (
      jQ (zw way (way.length - 1)).1 (1 - (zw way (way.length - 1)).2) fun other => xA other fun ro =>
      if ro = true then xl (zw way (way.length - 1)).1 (zw way (way.length - 1)).2 fun _ => jZ other false (jZ (zw way (way.length - 1)).1 true (xo root way (way.length - 1) other
        (zK root k m (way.set (way.length - 1) (other, (zw way (way.length - 1)).2) ++ [zw way (way.length - 1)]))))
      else jQ other 0 fun l => xA l fun rl => if rl = true then wW root way (zw way (way.length - 1)) other k else
        jQ other 1 fun r => xA r fun rr => if rr = true then wW root way (zw way (way.length - 1)) other k else
        jZ other true (xA (zw way (way.length - 1)).1 fun ru => if ru = true then jZ (zw way (way.length - 1)).1 false k else zK root k m (way.take (way.length - 1)))) else k := rfl
theorem Ym {Zs : List Fr} {fa fk fv b kb vb : Int} {fc sd : Bool} {far inn t : Tr} {n : Nat} {k : Act α} {rec_ : Act α} {X : Int → Act α} (Z : Hp W T p L fre p' L' W0 rv nd) (RZ : RepZ nd rv (⟨fa, fc, fk, fv, sd, fr ⟨b, false, kb, vb, sd, far⟩ inn⟩ :: Zs) (rt t)) (R : Rep nd t)
    (hL : ∀ x ∈ ads t ++ jn (⟨fa, fc, fk, fv, sd, fr ⟨b, false, kb, vb, sd, far⟩ inn⟩ :: Zs), x ∈ L) (N : Dj t (⟨fa, fc, fk, fv, sd, fr ⟨b, false, kb, vb, sd, far⟩ inn⟩ :: Zs))
    (ht : RB t n) (htr : isR t = false) (hi : RB inn n) (hf : RB far n) (hz : RBZ Zs (if fc = true then n + 1 else n + 2) fc) (hr : r + 11 ≤ 96)
    (w : ∀ W' r', r' ≤ r + 11 → Fin T p L fre p' L' W0 W' (zN (⟨fa, fc, fk, fv, sd, fr ⟨b, false, kb, vb, sd, far⟩ inn⟩ :: Zs) t) → wpA T (SqT p' L') k W' r' F s Q)
    (wr : fc = false → ∀ W' r' nd', r' ≤ r + 1 → Hp W' T p L fre p' L' W0 rv nd' → RepZ nd' rv Zs fa → Rep nd' (fr ⟨fa, fc, fk, fv, sd, fr ⟨b, true, kb, vb, sd, far⟩ inn⟩ t) → RB (fr ⟨fa, fc, fk, fv, sd, fr ⟨b, true, kb, vb, sd, far⟩ inn⟩ t) (n + 1) → wpA T (SqT p' L') rec_ W' r' F s Q) :
    wpA T (SqT p' L') (jQ fa (1 - sdB sd) fun other => xA other fun ro => if ro = true then X other else jQ other 0 fun l => xA l fun rl => if rl = true then wW p (jO (⟨fa, fc, fk, fv, sd, fr ⟨b, false, kb, vb, sd, far⟩ inn⟩ :: Zs)) (fa, sdB sd) other k else
        jQ other 1 fun r => xA r fun rr => if rr = true then wW p (jO (⟨fa, fc, fk, fv, sd, fr ⟨b, false, kb, vb, sd, far⟩ inn⟩ :: Zs)) (fa, sdB sd) other k else
        jZ other true (xA fa fun ru => if ru = true then jZ fa false k else rec_)) W r F s Q := by
  obtain ⟨f1, f2, RZ0⟩ := id RZ
  obtain ⟨b1, b2, b3⟩ := zb.1 f2
  dsimp only at b1 b2 f1 f2
  have hmem : ∀ x, x ∈ ads (fr ⟨b, false, kb, vb, sd, far⟩ inn) ↔ x = b ∨ x ∈ ads far ∨ x ∈ ads inn := fun x => y4
  have N' := N
  have hL' := hL
  unfold Dj at N'
  simp only [jn, List.nodup_append, List.nodup_cons, List.mem_append, List.mem_cons, not_or, hmem] at N' hL'
  have hno := ko.1 N'.2.1.2.1
  dsimp only at hno
  have hfa : fa ∈ L := hL' fa (by simp)
  have hb : b ∈ L := hL' b (by simp)
  have hsz := Z.H.size
  have hbb := Z.b hb
  have hLo : ∀ x ∈ ads (fr ⟨b, false, kb, vb, sd, far⟩ inn), x ∈ L := fun x hx => hL' x (by rw [hmem] at hx; grind)
  refine QD (f := ⟨fa, fc, fk, fv, sd, fr ⟨b, false, kb, vb, sd, far⟩ inn⟩) Z f1 hfa (by dsimp only; rw [xh]; dsimp only; omega) ?_
  dsimp only
  refine vp Z f2 hLo ?_
  rw [yX]
  dsimp only
  rw [if_neg (by simp)]
  refine VN Z f2 hLo xh (fun hred => ?_) fun hf0 hi0 => ?_
  · rw [xh]
    exact qQI Z RZ R hL N hred ht hi hf hz hr w
  · rw [xh]
    refine xj (f := ⟨b, false, kb, vb, sd, far⟩) Z b1 hb (by omega) fun W1 r1 nd1 h1 Z1 R1 o1 => ?_
    dsimp only at R1 o1
    have f1' : nd1 fa = ndF ⟨fa, fc, fk, fv, sd, fr ⟨b, true, kb, vb, sd, far⟩ inn⟩ (rt t) := by
      rw [o1 fa (by grind), f1]
      unfold ndF
      dsimp only
      rw [xh, xh]
    have ro : Rep nd1 (fr ⟨b, true, kb, vb, sd, far⟩ inn) := zb.2 ⟨R1, b2.off fun x hx => o1 x (by grind), b3.off fun x hx => o1 x (by grind)⟩
    have rt1 : Rep nd1 t := R.off fun x hx => o1 x (by grind)
    have rz1 : RepZ nd1 rv Zs fa := RZ0.off fun x hx => o1 x (by grind)
    have hrb : RB (fr ⟨b, true, kb, vb, sd, far⟩ inn) n := rbF.2 ⟨n, hf, hi, fun _ => ⟨rfl, hf0, hi0⟩, by simp⟩
    refine XI (f := ⟨fa, fc, fk, fv, sd, fr ⟨b, true, kb, vb, sd, far⟩ inn⟩) Z1 f1' hfa ?_
    dsimp only
    cases fc with
    | false =>
      rw [if_neg (by simp)]
      exact wr rfl W1 r1 nd1 h1 Z1 rz1 (zb.2 ⟨f1', ro, rt1⟩) (rbF.2 ⟨n, hrb, ht, by simp, fun _ => rfl⟩)
    | true =>
      rw [if_pos rfl]
      refine xj (f := ⟨fa, true, fk, fv, sd, fr ⟨b, true, kb, vb, sd, far⟩ inn⟩) Z1 f1' hfa (by omega) fun W2 r2 nd2 h2 Z2 R2 o2 => w W2 r2 (by omega) ⟨⟨rv, nd2, zN Zs (fr ⟨fa, false, fk, fv, sd, fr ⟨b, true, kb, vb, sd, far⟩ inn⟩ t), ?_⟩⟩
      dsimp only at R2 o2
      have hm3 : ∀ x, x ∈ ads (fr ⟨b, true, kb, vb, sd, far⟩ inn) ↔ x = b ∨ x ∈ ads far ∨ x ∈ ads inn := fun x => y4
      have hR := vq (Z := Zs) (t := fr ⟨fa, false, fk, fv, sd, fr ⟨b, true, kb, vb, sd, far⟩ inn⟩ t) (by rw [xh]; exact rz1.off fun x hx => o2 x (by grind)) (zb.2 ⟨R2, ro.off fun x hx => o2 x (by rw [hm3] at hx; grind), rt1.off fun x hx => o2 x (by grind)⟩)
      rw [if_pos rfl] at hz
      obtain ⟨j, hj⟩ := vr (Z := Zs) (t := fr ⟨fa, false, fk, fv, sd, fr ⟨b, true, kb, vb, sd, far⟩ inn⟩ t) (n := n + 1) (rbF.2 ⟨n, hrb, ht, by simp, fun _ => rfl⟩) (by rw [yX]; exact hz.black)
      refine ⟨j, Z2, hR.1, hR.2, hj, vz ?_, xJ ?_⟩
      · exact XN rfl rfl rfl (XN rfl rfl rfl rfl rfl) rfl
      · exact gu rfl (gu rfl (.refl _) (.refl _)) (.refl _)
theorem qKU {t : Tr} {n : Nat} (h : RB t (n + 1)) : t ≠ .nil := fun e => by subst e; cases h
theorem Mz {k : Act α} : ∀ {m : Nat} {Zs : List Fr} {t : Tr} {n : Nat} {W : List Int} {rv : Int} {nd : Int → Nd} {r : Nat} {s : Int}, Hp W T p L fre p' L' W0 rv nd → RepZ nd rv Zs (rt t) → Rep nd t → (∀ x ∈ ads t ++ jn Zs, x ∈ L) → Dj t Zs → RB t n → isR t = false → RBZ Zs (n + 1) false →
    Zs.length + 1 ≤ m → s + Zs.length + 2 ≤ 2048 → r + 2 * Zs.length + 20 ≤ 96 →
    (∀ W' r' s', r' ≤ r + 2 * Zs.length + 20 → s' ≤ s + Zs.length + 2 → Fin T p L fre p' L' W0 W' (zN Zs t) → wpA T (SqT p' L') k W' r' F s' Q) → wpA T (SqT p' L') (zK p k m (jO Zs)) W r F s Q := by
  intro m
  induction m with
  | zero => intro Zs t n W rv nd r s Z RZ R hL N hn hc hz hm; omega
  | succ m ih =>
    intro Zs t n W rv nd r s Z RZ R hL N hn hc hz hm hs hr w
    rw [Ys]
    cases Zs with
    | nil =>
      rw [if_neg (by rw [zF]; simp)]
      exact w W r s (by omega) (by omega) ⟨⟨rv, nd, t, n, Z, RZ, R, hn, rfl, List.Perm.refl _⟩⟩
    | cons f Zs =>
      obtain ⟨fa, fc, fk, fv, sd, o⟩ := f
      simp only [List.length_cons] at hm hs hr w
      obtain ⟨hz1, hz2, hz3⟩ := hz
      dsimp only at hz1 hz2 hz3
      have e1 : ∀ {f : Fr} {Y : List Fr}, zw (jO (f :: Y)) ((jO (f :: Y)).length - 1) = (f.a, sdB f.s) := by
        intro f Y
        have := Mg (f := f) (Z := Y) (rest := [])
        rw [List.append_nil] at this
        rw [zF]; exact this
      have e2 : ∀ {f : Fr} {Y : List Fr}, (jO (f :: Y)).take ((jO (f :: Y)).length - 1) = jO Y := by
        intro f Y
        rw [xI, List.length_append, zF]
        exact List.take_left' (by simp [zF])
      rw [e1, e2, if_pos (by rw [zF]; simp)]
      dsimp only
      refine ⟨by omega, ?_⟩
      obtain ⟨b, cb, kb, vb, far, inn, ho⟩ := qQU sd (qKU hz1)
      subst ho
      obtain ⟨j, rf, ri, q3, q4⟩ := rbF.1 hz1
      dsimp only at rf q3 q4
      cases cb with
      | false =>
        have := q4 rfl
        have : j = n := by omega
        subst this
        refine Ym Z RZ R hL N hn hc ri rf hz3 (by omega) (fun W' r' h1 Fi => w W' r' (s + 1) (by omega) (by omega) Fi) fun hfc W1 r1 nd1 h1 Z1 RZ1 R1 rb1 => ?_
        subst hfc
        rw [if_neg (by simp)] at hz3
        have hpm : (ads (fr ⟨fa, false, fk, fv, sd, fr ⟨b, true, kb, vb, sd, far⟩ inn⟩ t)).Perm (ads (fr ⟨fa, false, fk, fv, sd, fr ⟨b, false, kb, vb, sd, far⟩ inn⟩ t)) := gu rfl (gu rfl (.refl _) (.refl _)) (.refl _)
        have hin : inr (fr ⟨fa, false, fk, fv, sd, fr ⟨b, true, kb, vb, sd, far⟩ inn⟩ t) = inr (fr ⟨fa, false, fk, fv, sd, fr ⟨b, false, kb, vb, sd, far⟩ inn⟩ t) := XN rfl rfl rfl (XN rfl rfl rfl rfl rfl) rfl
        refine ih (t := fr ⟨fa, false, fk, fv, sd, fr ⟨b, true, kb, vb, sd, far⟩ inn⟩ t) (n := j + 1) Z1 (by rw [xh]; exact RZ1) R1 ?_ ?_ rb1 yX hz3 (by omega) (by omega) (by omega) fun W' r' s' h2 h3 Fi => w W' r' s' (by omega) (by omega) ?_
        · intro x hx
          have h5 : x ∈ ads (zN (⟨fa, false, fk, fv, sd, fr ⟨b, false, kb, vb, sd, far⟩ inn⟩ :: Zs) t) := (xJ (Z := Zs) hpm).mem_iff.1 (perm_plug.mem_iff.2 hx)
          exact hL x (perm_plug.mem_iff.1 h5)
        · exact QK.2 ((xJ hpm).nodup_iff.2 (QK (Z := ⟨fa, false, fk, fv, sd, fr ⟨b, false, kb, vb, sd, far⟩ inn⟩ :: Zs).1 N))
        · obtain ⟨rv', nd', t', n', a1, a2, a3, a4, a5, a6⟩ := Fi.ex
          exact ⟨⟨rv', nd', t', n', a1, a2, a3, a4, a5.trans (vz hin), a6.trans (xJ hpm)⟩⟩
      | true =>
        obtain ⟨qj, qf, qi⟩ := q3 rfl
        have : j = n + 1 := by omega
        subst this
        have hfc : fc = false := by
          cases fc with
          | false => rfl
          | true => have := (hz2 rfl).2; rw [yX] at this; cases this
        subst hfc
        rw [if_neg (by simp)] at hz3
        obtain ⟨f1, f2, RZ0⟩ := id RZ
        dsimp only at f1 f2
        have hmem : ∀ x, x ∈ ads (fr ⟨b, true, kb, vb, sd, far⟩ inn) ↔ x = b ∨ x ∈ ads far ∨ x ∈ ads inn := fun x => y4
        have N' := N
        have hL' := hL
        unfold Dj at N'
        simp only [jn, List.nodup_append, List.nodup_cons, List.mem_append, List.mem_cons, not_or] at N' hL'
        have dTF : (ads (fr ⟨fa, false, fk, fv, sd, fr ⟨b, true, kb, vb, sd, far⟩ inn⟩ t)).Nodup := by
          refine ko.2 ⟨?_, ?_, N'.2.1.2.1, N'.1, ?_⟩ <;> dsimp only <;> grind
        have hno := ko.1 N'.2.1.2.1
        dsimp only at hno
        simp only [hmem] at N' hL'
        have hfa : fa ∈ L := hL' fa (by simp)
        have hb : b ∈ L := hL' b (by simp)
        have hsz := Z.H.size
        have hbb := Z.b hb
        have hLo : ∀ x ∈ ads (fr ⟨b, true, kb, vb, sd, far⟩ inn), x ∈ L := fun x hx => hL' x (by rw [hmem] at hx; grind)
        refine QD (f := ⟨fa, false, fk, fv, sd, fr ⟨b, true, kb, vb, sd, far⟩ inn⟩) Z f1 hfa (by dsimp only; rw [xh]; dsimp only; omega) ?_
        dsimp only
        refine vp Z f2 hLo ?_
        rw [yX]
        dsimp only
        rw [if_pos rfl]
        refine Ko Z (zb.2 ⟨f1, f2, R⟩) ?_ dTF (by omega) fun W1 nd1 Z1 R1 o1 => ?_
        · intro x hx
          rw [y4] at hx
          exact hL' x (by dsimp only at hx; rw [hmem] at hx; grind)
        rw [xh]
        obtain ⟨q1, q2, q5⟩ := zb.1 R1
        obtain ⟨q6, q7, q8⟩ := zb.1 q5
        dsimp only at q1 q2 q6 q7
        rw [xh] at q1
        refine xj (f := ⟨b, true, kb, vb, sd, far⟩) Z1 q1 hb (by omega) fun W2 r2 nd2 h2 Z2 R2 o2 => ?_
        dsimp only at R2 o2
        have q6' : nd2 fa = ndF ⟨fa, false, fk, fv, sd, inn⟩ (rt t) := by rw [o2 fa (by grind)]; exact q6
        refine xj (f := ⟨fa, false, fk, fv, sd, inn⟩) Z2 q6' hfa (by omega) fun W3 r3 nd3 h3 Z3 R3 o3 => ?_
        dsimp only at R3 o3
        have hway : (jO (⟨fa, false, fk, fv, sd, fr ⟨b, true, kb, vb, sd, far⟩ inn⟩ :: Zs)).set ((jO (⟨fa, false, fk, fv, sd, fr ⟨b, true, kb, vb, sd, far⟩ inn⟩ :: Zs)).length - 1) (b, sdB sd) ++ [(fa, sdB sd)] = jO (⟨fa, true, fk, fv, sd, inn⟩ :: ⟨b, false, kb, vb, sd, far⟩ :: Zs) := by
          rw [xI, xI, xI]
          dsimp only
          rw [List.length_append, show (jO Zs).length + [(fa, sdB sd)].length - 1 = (jO Zs).length by simp, List.set_append_right _ _ (Nat.le_refl _), Nat.sub_self]
          rfl
        rw [hway]
        have el : (jO (⟨fa, false, fk, fv, sd, fr ⟨b, true, kb, vb, sd, far⟩ inn⟩ :: Zs)).length - 1 = Zs.length := by rw [zF]; simp
        rw [el, xI]
        dsimp only
        have o03 : ∀ x, x ≠ fa → x ≠ b → nd3 x = nd x := fun x h1 h2 => by rw [o3 x h1, o2 x h2, o1 x h1 h2]
        have o13 : ∀ x, x ≠ fa → x ≠ b → nd3 x = nd1 x := fun x h1 h2 => by rw [o3 x h1, o2 x h2]
        refine Jk (x0 := fa) Z3 (RZ0.off fun x hx => o03 x (by grind) (by grind)) (fun x hx => hL' x (by simp [hx])) (by grind) (by omega) (by omega) fun W4 rv4 nd4 Z4 RZ4 o4 => ?_
        obtain ⟨m, rfl⟩ : ∃ m', m = m' + 1 := ⟨m - 1, by omega⟩
        obtain ⟨e, ce, ke, ve, fi, ii, hin⟩ := qQU sd (qKU ri)
        have hce : ce = false := by rw [hin, yX] at qi; exact qi
        subst hce
        have hinn : Rep nd4 inn := q7.off fun x hx => by rw [o4 x (by grind), o13 x (by grind) (by grind)]
        have hfar : Rep nd4 far := q2.off fun x hx => by rw [o4 x (by grind), o13 x (by grind) (by grind)]
        have ht4 : Rep nd4 t := q8.off fun x hx => by rw [o4 x (by grind), o13 x (by grind) (by grind)]
        have hfa4 : nd4 fa = ndF ⟨fa, true, fk, fv, sd, inn⟩ (rt t) := by rw [o4 fa (by grind)]; exact R3
        have hb4 : nd4 b = ndF ⟨b, false, kb, vb, sd, far⟩ fa := by rw [o4 b (by grind), o3 b (by grind)]; exact R2
        have hpm : (ads (fr ⟨b, false, kb, vb, sd, far⟩ (fr ⟨fa, true, fk, fv, sd, inn⟩ t))).Perm (ads (fr ⟨fa, false, fk, fv, sd, fr ⟨b, true, kb, vb, sd, far⟩ inn⟩ t)) := by
          refine List.perm_iff_count.2 fun x => ?_
          cases sd <;> simp [fr, ads, List.count_cons, List.count_append] <;> omega
        have hii : inr (fr ⟨b, false, kb, vb, sd, far⟩ (fr ⟨fa, true, fk, fv, sd, inn⟩ t)) = inr (fr ⟨fa, false, fk, fv, sd, fr ⟨b, true, kb, vb, sd, far⟩ inn⟩ t) := by
          cases sd <;> simp [fr, inr]
        have hdj : Dj t (⟨fa, true, fk, fv, sd, inn⟩ :: ⟨b, false, kb, vb, sd, far⟩ :: Zs) := QK.2 ((xJ (Z := Zs) hpm).nodup_iff.2 (QK (Z := ⟨fa, false, fk, fv, sd, fr ⟨b, true, kb, vb, sd, far⟩ inn⟩ :: Zs).1 N))
        have hL2 : ∀ x ∈ ads t ++ jn (⟨fa, true, fk, fv, sd, inn⟩ :: ⟨b, false, kb, vb, sd, far⟩ :: Zs), x ∈ L := by
          intro x hx
          have h5 : x ∈ ads (zN (⟨fa, false, fk, fv, sd, fr ⟨b, true, kb, vb, sd, far⟩ inn⟩ :: Zs) t) := (xJ (Z := Zs) hpm).mem_iff.1 (perm_plug (Z := ⟨fa, true, fk, fv, sd, inn⟩ :: ⟨b, false, kb, vb, sd, far⟩ :: Zs).mem_iff.2 hx)
          exact hL x (perm_plug.mem_iff.1 h5)
        subst hin
        obtain ⟨j, rf2, ri2, _, q9⟩ := rbF.1 ri
        dsimp only at rf2 q9
        have : j = n := by have := q9 rfl; omega
        subst this
        rw [Ys, e1, e2, if_pos (by rw [zF]; simp)]
        dsimp only
        refine ⟨by omega, ?_⟩
        refine Ym Z4 ⟨hfa4, hinn, hb4, hfar, RZ4⟩ ht4 hL2 hdj hn hc ri2 rf2 ?_ (by omega) (fun W' r' h1 Fi => w W' r' (s + 1 + 1) (by omega) (by omega) ?_) fun h => by cases h
        · rw [if_pos rfl]
          exact ⟨rf, by simp, by rw [if_neg (by simp)]; exact hz3⟩
        · obtain ⟨rv', nd', t', n', a1, a2, a3, a4, a5, a6⟩ := Fi.ex
          exact ⟨⟨rv', nd', t', n', a1, a2, a3, a4, a5.trans (vz (Z := Zs) hii), a6.trans (xJ (Z := Zs) hpm)⟩⟩
end Go.Proofs.YtpohfcljfemhlaaGreat.arenaParts
namespace Go.Proofs.YtpohfcljfemhlaaGreat.arenaParts
open Go Go.Ae arenaPlays
set_option maxRecDepth 100000
variable {α : Type} {W W0 : List Int} {T : Nat} {p p' rv : Int} {L fre L' F : List Int} {nd : Int → Nd} {r : Nat} {s : Int} {Q : Option α → Int → List Int → List Int → Prop} {t t' : Tr}
theorem qQh : ∀ {Y Z : List Fr} {t : Tr}, zN (Y ++ Z) t = zN Z (zN Y t) := by
  intro Y
  induction Y with
  | nil => intro Z t; rfl
  | cons f Y ih => intro Z t; exact ih
theorem qJc {f g : Fr} {Z : List Fr} (ha : g.a = f.a) (ho : g.o = f.o) : ∀ {Y : List Fr}, jn (Y ++ g :: Z) = jn (Y ++ f :: Z) := by
  intro Y
  induction Y with
  | nil => show g.a :: (ads g.o ++ jn Z) = _; rw [ha, ho]; rfl
  | cons e Y ih => show e.a :: (ads e.o ++ jn (Y ++ g :: Z)) = _; rw [ih]; rfl
theorem qJt {f g : Fr} {Z : List Fr} (ha : g.a = f.a) (hs : g.s = f.s) : ∀ {Y : List Fr}, jO (Y ++ g :: Z) = jO (Y ++ f :: Z) := by
  intro Y
  unfold jO
  simp [ha, hs]
theorem RBZ.mid {f g : Fr} {Z : List Fr} (hc : g.c = f.c) (ho : g.o = f.o) : ∀ {Y : List Fr} {n : Nat} {c : Bool}, RBZ (Y ++ f :: Z) n c → RBZ (Y ++ g :: Z) n c := by
  intro Y
  induction Y with
  | nil => intro n c h; obtain ⟨h1, h2, h3⟩ := h; refine ⟨by rw [ho]; exact h1, by rw [hc, ho]; exact h2, by rw [hc]; exact h3⟩
  | cons e Y ih => intro n c h; obtain ⟨h1, h2, h3⟩ := h; exact ⟨h1, h2, ih h3⟩
theorem RepZ.mid {nd nd2 : Int → Nd} {rv : Int} {f g : Fr} {Z : List Fr} (ha : g.a = f.a) (ho : g.o = f.o) (hn : ∀ y, nd f.a = ndF f y → nd2 f.a = ndF g y) (oth : ∀ x, x ≠ f.a → nd2 x = nd x) :
    ∀ {Y : List Fr} {x : Int}, RepZ nd rv (Y ++ f :: Z) x → (jn (Y ++ f :: Z)).Nodup → RepZ nd2 rv (Y ++ g :: Z) x := by
  intro Y
  induction Y with
  | nil =>
    intro x h N
    obtain ⟨h1, h2, h3⟩ := h
    simp only [List.nil_append, jn, List.nodup_cons, List.mem_append, not_or] at N
    refine ⟨by rw [ha]; exact hn x h1, ?_, ?_⟩
    · rw [ho]; exact h2.off fun x hx => oth x fun e => N.1.1 (e ▸ hx)
    · rw [ha]; exact h3.off fun x hx => oth x fun e => N.1.2 (e ▸ hx)
  | cons e Y ih =>
    intro x h N
    obtain ⟨h1, h2, h3⟩ := h
    have hf : f.a ∈ jn (Y ++ f :: Z) := by
      clear ih h3 N h1 h2
      induction Y with
      | nil => exact List.mem_cons_self ..
      | cons d Y ih => exact List.mem_cons_of_mem _ (List.mem_append.2 (.inr ih))
    simp only [List.cons_append, jn, List.nodup_cons, List.mem_append, not_or, List.nodup_append] at N
    exact ⟨by rw [oth e.a (fun q => N.1.2 (q ▸ hf))]; exact h1, h2.off fun x hx => oth x fun q => by subst q; exact N.2.2.2 _ hx _ hf rfl, ih h3 N.2.2.1⟩
theorem qVm : ∀ {Y : List Fr}, (∀ f ∈ Y, f.s = false) → loZ Y = [] := by
  intro Y
  induction Y with
  | nil => intro _; rfl
  | cons f Y ih =>
    intro h
    unfold loZ
    rw [h f (List.mem_cons_self ..), if_neg (by simp)]
    exact ih fun g hg => h g (List.mem_cons_of_mem _ hg)
theorem NJ {a : Int} {k : Int → Act α} (Z : Hp W T p L fre p' L' W0 rv nd) (ha : a ∈ L) (w : wpA T (SqT p' L') (k (nd a).k) W r F s Q) : wpA T (SqT p' L') (.read a k) W r F s Q := by
  have := km (j := 0) (k := k) (Q := Q) (r := r) (F := F) (s := s) Z ha (by omega) (by rw [Int.add_zero, (Z.nds a ha).1]; exact w)
  rwa [Int.add_zero] at this
theorem qZo {k : Int → List ji → Act α} {m : Nat} {a : Int} {way : List ji} : kl k (m + 1) a way = .step (jQ a 0 fun nx => if nx = 0 then k a way else kl k m nx (way ++ [(a, 0)])) := rfl
theorem qZO {fa : Fr} {Zs : List Fr} {k : Int → List ji → Act α} (Z : Hp W T p L fre p' L' W0 rv nd) : ∀ {u : Tr} {Y : List Fr} {m : Nat} {s : Int}, u ≠ .nil → RepZ nd rv (Y ++ fa :: Zs) (rt u) → Rep nd u → (∀ x ∈ ads u, x ∈ L) → (ads u).length ≤ m → s + (ads u).length ≤ 2048 → (∀ f ∈ Y, f.s = false) →
    (∀ (Y' : List Fr) (h : Int) (ch : Bool) (kh vh : Int) (hr : Tr) (s' : Int), (∀ f ∈ Y', f.s = false) → zN Y' (.node h ch .nil kh vh hr) = zN Y u → RepZ nd rv (Y' ++ fa :: Zs) h → Rep nd (.node h ch .nil kh vh hr) → s' ≤ s + (ads u).length → wpA T (SqT p' L') (k h (jO (Y' ++ fa :: Zs))) W r F s' Q) →
    wpA T (SqT p' L') (kl k m (rt u) (jO (Y ++ fa :: Zs))) W r F s Q := by
  intro u
  induction u with
  | nil => intro Y m s h; exact absurd rfl h
  | node a c l kk v rr ihl ihr =>
    intro Y m s _ RZ R hL hm hs hY w
    have hlen : (ads (.node a c l kk v rr)).length = (ads l).length + (ads rr).length + 1 := by simp [ads]
    rw [hlen] at hm hs w
    obtain ⟨m, rfl⟩ : ∃ m', m = m' + 1 := ⟨m - 1, by omega⟩
    have ha : a ∈ L := hL a (List.mem_cons_self ..)
    have hLl : ∀ x ∈ ads l, x ∈ L := fun x hx => hL x (List.mem_cons_of_mem _ (List.mem_append.2 (.inl hx)))
    have hb := wG Z hLl
    rw [qZo]
    refine ⟨by omega, ?_⟩
    show wpA T (SqT p' L') (jQ a 0 fun nx => if nx = 0 then k a (jO (Y ++ fa :: Zs)) else kl k m nx (jO (Y ++ fa :: Zs) ++ [(a, 0)])) W r F (s + 1) Q
    refine wn Z ha (by rw [R.1]; show (rt l * 2 + zf c) / 2 < _; rw [kX]; omega) ?_
    rw [R.1]
    show wpA T (SqT p' L') (if (rt l * 2 + zf c) / 2 = 0 then k a (jO (Y ++ fa :: Zs)) else kl k m ((rt l * 2 + zf c) / 2) (jO (Y ++ fa :: Zs) ++ [(a, 0)])) W r F (s + 1) Q
    rw [kX]
    cases l with
    | nil =>
      rw [if_pos (show rt .nil = 0 from rfl)]
      exact w Y a c kk v rr (s + 1) hY rfl RZ R (by omega)
    | node a2 c2 l2 k2 v2 r2 =>
      have hz : a2 ∈ L := hLl a2 (List.mem_cons_self ..)
      have hab := Z.b hz
      rw [if_neg (by show ¬ a2 = 0; omega)]
      have e : jO (Y ++ fa :: Zs) ++ [(a, 0)] = jO ((⟨a, c, kk, v, false, rr⟩ :: Y) ++ fa :: Zs) := by
        rw [List.cons_append, xI]; rfl
      rw [e]
      refine ihl (Y := ⟨a, c, kk, v, false, rr⟩ :: Y) (by simp) ⟨R.1, R.2.2, RZ⟩ R.2.1 hLl (by omega) (by omega) ?_ fun Y' h ch kh vh hr s' h1 h2 h3 h4 h5 => w Y' h ch kh vh hr s' h1 (h2.trans rfl) h3 h4 (by omega)
      intro f hf
      rcases List.mem_cons.1 hf with rfl | hf
      · rfl
      · exact hY f hf
theorem Mn {Zs : List Fr} {a kk v : Int} {c sd : Bool} {o : Tr} {n : Nat} {k : Act α} (Z : Hp W T p L fre p' L' W0 rv nd) (RZ : RepZ nd rv Zs a) (R : Rep nd (fr ⟨a, c, kk, v, sd, .nil⟩ o)) (hL : ∀ x ∈ ads (fr ⟨a, c, kk, v, sd, .nil⟩ o) ++ jn Zs, x ∈ L)
    (N : Dj (fr ⟨a, c, kk, v, sd, .nil⟩ o) Zs) (hn : RB (fr ⟨a, c, kk, v, sd, .nil⟩ o) n) (hz : RBZ Zs n c) (hm : Zs.length ≤ 12) (hs : s ≤ 1000) (hr : r + 2 * Zs.length + 22 ≤ 96)
    (w : ∀ W' r' s', r' ≤ r + 2 * Zs.length + 22 → Fin T p L fre p' L' W0 W' (zN Zs o) → wpA T (SqT p' L') (xw T a k) W' r' F s' Q) : wpA T (SqT p' L') (ZA T p a (jO Zs) (rt o) k) W r F s Q := by
  obtain ⟨b1, b2, b3⟩ := zb.1 R
  dsimp only at b1
  have hmem : ∀ x, x ∈ ads (fr ⟨a, c, kk, v, sd, .nil⟩ o) ↔ x = a ∨ x ∈ ads o := fun x => by rw [y4]; simp [ads]
  have N' := N
  have hL' := hL
  unfold Dj at N'
  simp only [List.nodup_append, List.mem_append, hmem] at N' hL'
  have hno := ko.1 N'.1
  dsimp only at hno
  have ha : a ∈ L := hL' a (by simp)
  have hLo : ∀ x ∈ ads o, x ∈ L := fun x hx => hL' x (by simp [hx])
  have hbo := wG Z hLo
  have hLz : ∀ x ∈ jn Zs, x ∈ L := fun x hx => hL' x (by simp [hx])
  unfold ZA
  refine XI (f := ⟨a, c, kk, v, sd, .nil⟩) Z b1 ha ?_
  dsimp only
  have e : xo p (jO Zs) (jO Zs).length (rt o) = xo (α := α) p (jO Zs ++ []) Zs.length (rt o) := by rw [List.append_nil, zF]
  rw [e]
  refine Jk Z RZ hLz N'.2.1 (by omega) (by omega) fun W1 rv1 nd1 Z1 RZ1 o1 => ?_
  have ro : Rep nd1 o := b3.off fun x hx => o1 x (by grind)
  have hdj : Dj o Zs := by
    unfold Dj
    refine List.nodup_append.2 ⟨hno.2.2.2.1, N'.2.1, ?_⟩
    grind
  have hL2 : ∀ x ∈ ads o ++ jn Zs, x ∈ L := fun x hx => hL' x (by rw [List.mem_append] at hx; grind)
  obtain ⟨j, q1, q2, q3, q4⟩ := rbF.1 hn
  have q1 : j = 0 := q1
  subst q1
  dsimp only at q3 q4
  cases c with
  | true =>
    rw [if_pos rfl]
    obtain ⟨h1, _, h2⟩ := q3 rfl
    subst h1
    have hR := vq RZ1 ro
    obtain ⟨m, hm⟩ := vr (Z := Zs) q2 (by rw [h2]; exact hz.black)
    exact w W1 _ s (by omega) ⟨⟨rv1, nd1, zN Zs o, m, Z1, hR.1, hR.2, hm, rfl, List.Perm.refl _⟩⟩
  | false =>
    rw [if_neg (by simp)]
    have hn1 := q4 rfl
    subst hn1
    refine vp Z1 ro hLo ?_
    cases hro : isR o with
    | true =>
      rw [if_pos rfl]
      have hne := VA hro
      refine wD Z1 ro hLo hno.2.2.2.1 hne (by omega) fun W2 r2 nd2 h2 Z2 R2 o2 => w W2 r2 s (by omega) ⟨⟨rv1, nd2, zN Zs (pnt false o), ?_⟩⟩
      have hmo := Gi hne
      have hR := vq (Z := Zs) (t := pnt false o) (by rw [Yx]; exact RZ1.off fun x hx => o2 x (by grind)) R2
      obtain ⟨m, hm⟩ := vr (Z := Zs) (qJo q2 hro) (by rw [show isR (pnt false o) = false by cases o <;> rfl]; exact hz)
      exact ⟨m, Z2, hR.1, hR.2, hm, vz JA, xJ (by rw [wo])⟩
    | false =>
      rw [if_neg (by simp)]
      exact Mz Z1 RZ1 ro hL2 hdj q2 hro hz (by omega) (by omega) (by omega) fun W2 r2 s2 h1 h2 Fi => w W2 r2 s2 (by omega) Fi
theorem Gn {Zs : List Fr} {a kk v : Int} {c : Bool} {l rr : Tr} {k : Act α} (Z : Hp W T p L fre p' L' W0 rv nd) (RZ : RepZ nd rv Zs a) (R : Rep nd (.node a c l kk v rr)) (hL : ∀ x ∈ ads (.node a c l kk v rr) ++ jn Zs, x ∈ L)
    (N : Dj (.node a c l kk v rr) Zs) (ho : l = .nil ∨ rr = .nil) (hn : ∃ m, RB (zN Zs (.node a c l kk v rr)) m) (hm : Zs.length ≤ 12) (hs : s ≤ 1000) (hr : r + 2 * Zs.length + 22 ≤ 96)
    (w : ∀ W' r' s' u, r' ≤ r + 2 * Zs.length + 22 → Fin T p L fre p' L' W0 W' u → inr u = loZ Zs ++ (inr l ++ inr rr) ++ hiZ Zs → (a :: ads u).Perm (ads (.node a c l kk v rr) ++ jn Zs) → wpA T (SqT p' L') (xw T a k) W' r' F s' Q) : wpA T (SqT p' L') (Kg T p a (jO Zs) k) W r F s Q := by
  obtain ⟨m, hm2⟩ := hn
  obtain ⟨n, hn, hz⟩ := Xa hm2
  have ha : a ∈ L := hL a (by simp [ads])
  have hLl : ∀ x ∈ ads l, x ∈ L := fun x hx => hL x (by simp [ads, hx])
  have hLr : ∀ x ∈ ads rr, x ∈ L := fun x hx => hL x (by simp [ads, hx])
  have hbl := wG Z hLl
  have hbr := wG Z hLr
  unfold Kg
  refine wn Z ha (by rw [R.1]; show (rt l * 2 + zf c) / 2 < _; rw [kX]; omega) ?_
  rw [show (nd a).w / 2 = rt l by rw [R.1]; exact kX]
  cases l with
  | nil =>
    rw [if_pos (show rt .nil = 0 from rfl)]
    refine vt Z ha (by rw [R.1]; show rt rr < _; omega) ?_
    rw [show (nd a).y = rt rr by rw [R.1]]
    refine Mn (sd := true) (c := c) (kk := kk) (v := v) (o := rr) Z RZ R hL N hn hz hm hs hr fun W' r' s' h1 Fi => w W' r' s' _ h1 Fi ?_ ?_
    · rw [x5]; simp [inr]
    · show (a :: ads (zN Zs rr)).Perm (a :: (([] ++ ads rr) ++ jn Zs))
      exact List.Perm.cons _ perm_plug
  | node a2 c2 l2 k2 v2 r2 =>
    have hrr : rr = .nil := by
      rcases ho with h | h
      · cases h
      · exact h
    subst hrr
    have ha2 := Z.b (hLl a2 (List.mem_cons_self ..))
    rw [if_neg (by show ¬ a2 = 0; omega)]
    refine Mn (sd := false) (c := c) (kk := kk) (v := v) (o := .node a2 c2 l2 k2 v2 r2) Z RZ R hL N hn hz hm hs hr fun W' r' s' h1 Fi => w W' r' s' _ h1 Fi ?_ ?_
    · rw [x5]; simp [inr]
    · show (a :: ads (zN Zs (.node a2 c2 l2 k2 v2 r2))).Perm (a :: ((ads (.node a2 c2 l2 k2 v2 r2) ++ []) ++ jn Zs))
      refine List.Perm.cons _ ?_
      rw [List.append_nil]
      exact perm_plug
theorem qKl {Zs : List Fr} {a kk v : Int} {c : Bool} {l rr : Tr} {k : Act α} (Z : Hp W T p L fre p' L' W0 rv nd) (RZ : RepZ nd rv Zs a) (R : Rep nd (.node a c l kk v rr)) (hL : ∀ x ∈ ads (.node a c l kk v rr) ++ jn Zs, x ∈ L)
    (N : Dj (.node a c l kk v rr) Zs) (hn : ∃ m, RB (zN Zs (.node a c l kk v rr)) m) (hm : Zs.length + (ads (.node a c l kk v rr)).length ≤ 12) (hs : s ≤ 900) (hr : r ≤ 10)
    (w : ∀ W' r' s' a' u, r' ≤ 80 → a' ∈ L → Fin T p L fre p' L' W0 W' u → inr u = loZ Zs ++ (inr l ++ inr rr) ++ hiZ Zs → (a' :: ads u).Perm (ads (.node a c l kk v rr) ++ jn Zs) → wpA T (SqT p' L') (xw T a' k) W' r' F s' Q) : wpA T (SqT p' L') (QS T p a (jO Zs) k) W r F s Q := by
  have ha : a ∈ L := hL a (by simp [ads])
  have hLl : ∀ x ∈ ads l, x ∈ L := fun x hx => hL x (by simp [ads, hx])
  have hLr : ∀ x ∈ ads rr, x ∈ L := fun x hx => hL x (by simp [ads, hx])
  have hbl := wG Z hLl
  have hbr := wG Z hLr
  have hab := Z.b ha
  have hlen : (ads (.node a c l kk v rr)).length = (ads l).length + (ads rr).length + 1 := by simp [ads]
  unfold QS
  refine wn Z ha (by rw [R.1]; show (rt l * 2 + zf c) / 2 < _; rw [kX]; omega) ?_
  rw [show (nd a).w / 2 = rt l by rw [R.1]; exact kX]
  by_cases hl : l = .nil
  · rw [if_pos (by rw [hl]; rfl)]
    exact Gn Z RZ R hL N (.inl hl) hn (by omega) (by omega) (by omega) fun W' r' s' u h1 Fi h2 h3 => w W' r' s' a u (by omega) ha Fi h2 h3
  have hlm := Gi hl
  have hlb := Z.b (hLl _ hlm)
  rw [if_neg (by omega)]
  refine vt Z ha (by rw [R.1]; show rt rr < _; omega) ?_
  rw [show (nd a).y = rt rr by rw [R.1]]
  by_cases hrn : rr = .nil
  · rw [if_pos (by rw [hrn]; rfl)]
    exact Gn Z RZ R hL N (.inr hrn) hn (by omega) (by omega) (by omega) fun W' r' s' u h1 Fi h2 h3 => w W' r' s' a u (by omega) ha Fi h2 h3
  have hrm := Gi hrn
  have hrb := Z.b (hLr _ hrm)
  rw [if_neg (by omega)]
  unfold Xn
  refine vt Z ha (by rw [R.1]; show rt rr < _; omega) ?_
  rw [show (nd a).y = rt rr by rw [R.1]]
  have e : jO Zs ++ [(a, 1)] = jO ([] ++ ⟨a, c, kk, v, true, l⟩ :: Zs) := by
    rw [List.nil_append, xI]; rfl
  rw [e]
  refine qZO (Y := []) Z hrn ⟨R.1, R.2.1, RZ⟩ R.2.2 hLr (by omega) (by omega) (fun f hf => absurd hf List.not_mem_nil) fun Y h ch kh vh hr s' hY hpl RZ2 R2 hs' => ?_
  have hpl : zN Y (.node h ch .nil kh vh hr) = rr := hpl
  have hwhole : zN (Y ++ ⟨a, c, kk, v, true, l⟩ :: Zs) (.node h ch .nil kh vh hr) = zN Zs (.node a c l kk v rr) := by
    rw [qQh, hpl]; rfl
  have hperm : (ads (.node h ch .nil kh vh hr) ++ jn (Y ++ ⟨a, c, kk, v, true, l⟩ :: Zs)).Perm (ads (.node a c l kk v rr) ++ jn Zs) := by
    refine perm_plug.symm.trans ?_
    rw [hwhole]
    exact perm_plug
  have hplen := U5 (Z := Y) (t := .node h ch .nil kh vh hr)
  rw [hpl] at hplen
  have hL2 : ∀ x ∈ ads (.node h ch .nil kh vh hr) ++ jn (Y ++ ⟨a, c, kk, v, true, l⟩ :: Zs), x ∈ L := fun x hx => hL x (hperm.mem_iff.1 hx)
  have N2 : (ads (.node h ch .nil kh vh hr) ++ jn (Y ++ ⟨a, c, kk, v, true, l⟩ :: Zs)).Nodup := hperm.nodup_iff.2 N
  have hh : h ∈ L := hL2 h (by simp [ads])
  have hhb := Z.b hh
  have haz : a ∈ jn (Y ++ ⟨a, c, kk, v, true, l⟩ :: Zs) := by
    have : ∀ {Y : List Fr}, a ∈ jn (Y ++ ⟨a, c, kk, v, true, l⟩ :: Zs) := by
      intro Y
      induction Y with
      | nil => exact List.mem_cons_self ..
      | cons d Y ih => exact List.mem_cons_of_mem _ (List.mem_append.2 (.inr ih))
    exact this
  have N3 := List.nodup_append.1 N2
  have hah : a ≠ h := fun q => N3.2.2 h (by simp [ads]) a haz q.symm
  have hhr : a ∉ ads hr := fun q => N3.2.2 a (by simp [ads, q]) a haz rfl
  have hkh : 0 ≤ kh ∧ kh < 18446744073709551616 := by
    have := Z.wds h.toNat
    rw [(Z.nds h hh).1, R2.1] at this
    exact this
  have hvh : 0 ≤ vh ∧ vh < 18446744073709551616 := by
    have := Z.wds (h + 1).toNat
    rw [(Z.nds h hh).2.1, R2.1] at this
    exact this
  refine NJ Z hh ?_
  rw [show (nd h).k = kh by rw [R2.1]]
  refine MN Z ha hkh rfl (by omega) fun W1 Z1 => ?_
  refine km Z1 hh (j := 1) (by omega) ?_
  rw [(Z1.nds h hh).2.1, jU (Ne.symm hah), show (nd h).v = vh by rw [R2.1]]
  refine w4 (j := 1) (x' := ⟨kh, vh, (nd a).w, (nd a).y⟩) Z1 ha (by omega) hvh (by rw [xZ]; simp) (by omega) fun W2 Z2 => ?_
  generalize hnd2 : upd (upd nd a _) a _ = nd2 at Z2
  have o2 : ∀ y, y ≠ a → nd2 y = nd y := fun y hy => by rw [← hnd2, jU hy, jU hy]
  have a2 : nd2 a = ⟨kh, vh, (nd a).w, (nd a).y⟩ := by rw [← hnd2, xZ]
  have hw : jO (Y ++ ⟨a, c, kk, v, true, l⟩ :: Zs) = jO (Y ++ ⟨a, c, kh, vh, true, l⟩ :: Zs) := qJt (f := ⟨a, c, kh, vh, true, l⟩) (g := ⟨a, c, kk, v, true, l⟩) rfl rfl
  rw [hw]
  have hZ : jn (Y ++ ⟨a, c, kh, vh, true, l⟩ :: Zs) = jn (Y ++ ⟨a, c, kk, v, true, l⟩ :: Zs) := qJc (f := ⟨a, c, kk, v, true, l⟩) (g := ⟨a, c, kh, vh, true, l⟩) rfl rfl
  have RZ3 : RepZ nd2 rv (Y ++ ⟨a, c, kh, vh, true, l⟩ :: Zs) h := by
    refine RZ2.mid (f := ⟨a, c, kk, v, true, l⟩) (g := ⟨a, c, kh, vh, true, l⟩) rfl rfl (fun y hy => ?_) o2 N3.2.1
    dsimp only at hy ⊢
    rw [a2, hy]
    rfl
  have R3 : Rep nd2 (.node h ch .nil kh vh hr) := R2.off fun x hx => o2 x fun q => by
    subst q
    simp only [ads, List.nil_append, List.mem_cons] at hx
    rcases hx with hx | hx
    · exact hah hx
    · exact hhr hx
  have hnn : ∃ m, RB (zN (Y ++ ⟨a, c, kh, vh, true, l⟩ :: Zs) (.node h ch .nil kh vh hr)) m := by
    obtain ⟨m, hm⟩ := hn
    rw [← hwhole] at hm
    obtain ⟨n, h1, h2⟩ := Xa hm
    exact vr h1 (h2.mid (f := ⟨a, c, kk, v, true, l⟩) (g := ⟨a, c, kh, vh, true, l⟩) rfl rfl)
  have hzl : (Y ++ ⟨a, c, kh, vh, true, l⟩ :: Zs).length = Y.length + Zs.length + 1 := by simp; omega
  have hal : (ads (.node h ch .nil kh vh hr)).length = (ads hr).length + 1 := by simp [ads]
  refine Gn Z2 RZ3 R3 (by rw [hZ]; exact hL2) (by unfold Dj; rw [hZ]; exact N2) (.inl rfl) hnn (by omega) (by omega) (by omega) fun W' r' s' u h1 Fi h2 h3 => w W' r' s' h u (by omega) hh Fi ?_ (h3.trans (by rw [hZ]; exact hperm))
  rw [h2]
  have hloY := qVm hY
  have hrr : inr rr = (kh, vh) :: (inr hr ++ hiZ Y) := by
    rw [← hpl, x5, hloY]; simp [inr]
  have hloA : ∀ {Y : List Fr}, (∀ f ∈ Y, f.s = false) → loZ (Y ++ ⟨a, c, kh, vh, true, l⟩ :: Zs) = loZ Zs ++ (inr l ++ [(kh, vh)]) ∧ hiZ (Y ++ ⟨a, c, kh, vh, true, l⟩ :: Zs) = hiZ Y ++ hiZ Zs := by
    intro Y
    induction Y with
    | nil => intro _; exact ⟨by simp [loZ], by simp [hiZ]⟩
    | cons d Y ih =>
      intro hY
      have hd := hY d (List.mem_cons_self ..)
      obtain ⟨i1, i2⟩ := ih fun g hg => hY g (List.mem_cons_of_mem _ hg)
      exact ⟨by simp only [List.cons_append, loZ, hd]; exact i1, by simp only [List.cons_append, hiZ, hd, i2]; simp⟩
  rw [(hloA hY).1, (hloA hY).2, hrr]
  simp [inr]
theorem qVn {key : Int} {Q : Option Bool → Int → List Int → List Int → Prop} (Z : xN W T [] p t p' t')
    (no : inP key (inr t) = false → Q (some false) 0 W [])
    (ok : ∀ W' t2 a, inP key (inr t) = true → qG W' 5 = qG W 5 → a ∉ ads t2 → a ∉ ads t' → xN W' T [a] p t2 p' t' → inr t2 = Je key (inr t) → Q (some true) 0 W' [a]) : wpA T (SqT p' (ads t')) (vF T p key) W 0 [] 0 Q := by
  unfold vF
  refine Xh Z fun Zs u s' hpl RZ R hu hlo hhi hs hz => ?_
  have Hh := Z.hp
  have hLu : ∀ y ∈ ads u ++ jn Zs, y ∈ ads t := fun y hy => by rw [← hpl]; exact perm_plug.mem_iff.2 hy
  have hin : inr t = loZ Zs ++ inr u ++ hiZ Zs := by rw [← hpl, x5]
  have hpt : (ads t).Perm (ads u ++ jn Zs) := by rw [← hpl]; exact perm_plug
  have hnd : (ads u ++ jn Zs).Nodup := hpt.nodup_iff.1 (List.nodup_append.1 Z.H.nd).1
  rcases hu with rfl | ⟨a, c, l, v, rr, rfl⟩
  · rw [if_neg (by show ¬ (0 : Int) ≠ 0; omega)]
    have hin2 : inr t = loZ Zs ++ hiZ Zs := by rw [hin]; simp [inr]
    obtain ⟨i1, i2, i3⟩ := ML hlo hhi
    rw [← hin2] at i3
    exact no i3
  · have ha : a ∈ ads t := hLu a (by simp [ads])
    have hab := Hh.b ha
    rw [if_pos (by show a ≠ 0; omega)]
    have hin2 : inr t = (loZ Zs ++ inr l) ++ (key, v) :: (inr rr ++ hiZ Zs) := by rw [hin]; simp [inr]
    have hsr := Z.A.srt
    rw [hin2] at hsr
    have hs2 := List.pairwise_append.1 hsr
    have hs3 := List.pairwise_cons.1 hs2.2.1
    obtain ⟨i1, i2, i3⟩ := Vv (x := v) (fun q hq => hs2.2.2 q hq _ (List.mem_cons_self ..)) (fun q hq => hs3.1 q hq)
    rw [← hin2] at i1 i2 i3
    show wpA T (SqT p' (ads t')) (QS T p a (jO Zs) (.ret true)) W 0 [] s' Q
    refine qKl Hh RZ R hLu hnd (by rw [hpl]; exact Z.A.rb) hz (by omega) (by omega) fun W1 r1 s1 a1 u h1 ha1 Fi hu hp1 => ?_
    obtain ⟨rv, nd, t2, n, Z1, e1, e2, e3, e4, e5⟩ := Fi.ex
    have hap : (ads t).Perm (a1 :: ads t2) := (hpt.trans hp1.symm).trans (List.Perm.cons _ e5.symm)
    have hb1 := Z1.b ha1
    have hmem : ∀ {y : Int}, y ∈ ads t ++ ads t' → 15 ≤ y ∧ y + 4 ≤ T := fun h => Z1.H.mem h
    have hndd : (a1 :: ads t2 ++ ads t').Nodup := (List.Perm.append_right _ hap).nodup_iff.1 Z1.H.nd
    have hndc := List.nodup_cons.1 (show (a1 :: (ads t2 ++ ads t')).Nodup from hndd)
    refine qJ5 Z1.H (List.mem_append.2 (.inl ha1)) ?_ (by omega) fun W2 H2 f2 => ?_
    · have hrr := Z1.rr
      refine ⟨by omega, fun y hy => ?_⟩
      rcases Z1.ne ha1 hy with h | h <;> omega
    have hsame : ∀ y ∈ ads t2 ++ ads t', ∀ j : Int, 0 ≤ j → j < 4 → qG W2 (y + j).toNat = qG W1 (y + j).toNat := by
      intro y hy j h1 h2
      have hy' : y ∈ ads t ++ ads t' := by
        rcases List.mem_append.1 hy with h | h
        · exact List.mem_append.2 (.inl (hap.mem_iff.2 (List.mem_cons_of_mem _ h)))
        · exact List.mem_append.2 (.inr h)
      have hyb := hmem hy'
      have hne : y ≠ a1 := fun e => hndc.1 (e ▸ hy)
      have hsz := Z1.H.size
      rcases Z1.H.apart hy' (List.mem_append.2 (.inl ha1)) with h | h | h
      · exact absurd h hne
      · exact f2 _ (by omega) (by omega) (by omega)
      · exact f2 _ (by omega) (by omega) (by omega)
    have hnsame : ∀ y ∈ ads t2 ++ ads t', ndW W2 y = ndW W1 y := by
      intro y hy
      have h0 := hsame y hy 0 (by omega) (by omega)
      rw [Int.add_zero] at h0
      unfold ndW
      rw [h0, hsame y hy 1 (by omega) (by omega), hsame y hy 2 (by omega) (by omega), hsame y hy 3 (by omega) (by omega)]
    have hsz := Z1.H.size
    have hrr := Z1.rr
    have rsame : ∀ q : Int, 5 ≤ q → q ≤ 13 → qG W2 q.toNat = qG W1 q.toNat := fun q h1 h2 => f2 _ (by omega) (by omega) (by omega)
    have B1 := Z1.other Z.B
    have hr2 := Z1.repW e2 fun x hx => hap.mem_iff.2 (List.mem_cons_of_mem _ hx)
    have hu2 : inr u = Je key (inr t) := by
      rw [hu]; unfold Je; rw [i1, i2]; simp
    have hi2 : inr t2 = Je key (inr t) := e4.trans hu2
    refine ok W2 t2 a1 i3 ?_ (fun h => hndc.1 (List.mem_append.2 (.inl h))) (fun h => hndc.1 (List.mem_append.2 (.inr h))) ⟨H2.perm (fun x => ?_) hndc.2, ⟨?_, ?_, ⟨n, e3⟩, ?_, ?_⟩, ⟨?_, ?_, B1.rb, B1.srt, B1.key⟩, hrr⟩ hi2
    · have := rsame 5 (by omega) (by omega)
      rw [show (5 : Int).toNat = 5 from rfl] at this
      rw [this]; exact Z1.b5
    · rw [((List.Perm.append_right (ads t') hap).erase a1).mem_iff]
      show x ∈ ads t2 ++ ads t' ↔ x ∈ (a1 :: (ads t2 ++ ads t')).erase a1
      rw [List.erase_cons_head]
    · rw [rsame p (by omega) (by omega)]; exact Z1.rv.trans e1
    · exact hr2.off fun x hx => hnsame x (List.mem_append.2 (.inl hx))
    · rw [hi2]; unfold Je; rw [i1, i2]
      exact M7 hsr
    · intro q hq
      rw [hi2] at hq; unfold Je at hq; rw [i1, i2] at hq
      rcases List.mem_append.1 hq with h | h
      · exact Z.A.key q (by rw [hin2]; exact List.mem_append.2 (.inl h))
      · exact Z.A.key q (by rw [hin2]; exact List.mem_append.2 (.inr (List.mem_cons_of_mem _ h)))
    · rw [rsame p' (by omega) (by omega)]; exact B1.root
    · exact B1.rep.off fun x hx => hnsame x (List.mem_append.2 (.inr hx))
end Go.Proofs.YtpohfcljfemhlaaGreat.arenaParts
namespace Go.Proofs.YtpohfcljfemhlaaGreat.arenaParts
open Go Go.Ae arenaPlays
set_option maxRecDepth 100000
variable {α : Type} {W W0 : List Int} {T : Nat} {p p' rv : Int} {L fre L' F : List Int} {nd : Int → Nd} {r : Nat} {s : Int} {t t' : Tr}
def Jz (k : Int) (l : List qm) : Int × Bool := match l.find? fun q => decide (q.1 = k) with
  | some q => (q.2, true)
  | none => (0, false)
def xe (lo hi : Int) (l : List qm) : List qm := l.filter fun q => decide (lo ≤ q.1 ∧ q.1 ≤ hi)
theorem Mh {k : Int} {l : List qm} (h : inP k l = false) : Jz k l = (0, false) := by
  unfold Jz
  have : l.find? (fun q => decide (q.1 = k)) = none := by
    rw [List.find?_eq_none]
    intro q hq
    have := List.any_eq_false.1 h q hq
    simpa using this
  rw [this]
theorem Uc {k x : Int} {a b : List qm} (ha : ∀ q ∈ a, q.1 < k) : Jz k (a ++ (k, x) :: b) = (x, true) := by
  unfold Jz
  have h0 : a.find? (fun q => decide (q.1 = k)) = none := by
    rw [List.find?_eq_none]
    intro q hq
    have := ha q hq
    simp; omega
  rw [List.find?_append, h0]
  simp
theorem qJN {key : Int} {Q : Option (Int × Bool) → Int → List Int → List Int → Prop} (Z : xN W T fre p t p' t') (ok : Q (some (Jz key (inr t))) 0 W []) : wpA T (SqT p' (ads t')) (xd p key) W 0 [] 0 Q := by
  unfold xd
  refine Xh Z fun Zs u s' hpl RZ R hu hlo hhi hs hz => ?_
  have Hh := Z.hp
  have hLu : ∀ y ∈ ads u ++ jn Zs, y ∈ ads t := fun y hy => by rw [← hpl]; exact perm_plug.mem_iff.2 hy
  have hin : inr t = loZ Zs ++ inr u ++ hiZ Zs := by rw [← hpl, x5]
  rcases hu with rfl | ⟨a, c, l, v, rr, rfl⟩
  · rw [if_neg (by show ¬ (0 : Int) ≠ 0; omega)]
    have hin2 : inr t = loZ Zs ++ hiZ Zs := by rw [hin]; simp [inr]
    obtain ⟨_, _, i3⟩ := ML hlo hhi
    rw [← hin2] at i3
    rw [Mh i3] at ok
    exact ok
  · have ha : a ∈ ads t := hLu a (by simp [ads])
    have hab := Hh.b ha
    rw [if_pos (by show a ≠ 0; omega)]
    have hin2 : inr t = (loZ Zs ++ inr l) ++ (key, v) :: (inr rr ++ hiZ Zs) := by rw [hin]; simp [inr]
    have hsr := Z.A.srt
    rw [hin2] at hsr
    have hs2 := List.pairwise_append.1 hsr
    have hg := Uc (x := v) (b := inr rr ++ hiZ Zs) (fun q hq => hs2.2.2 q hq (key, v) (List.mem_cons_self ..))
    rw [← hin2] at hg
    rw [hg] at ok
    refine km (a := a) (j := 1) Hh ha (by omega) ?_
    rw [(Hh.nds a ha).2.1, show (ndW W a).v = v by rw [R.1]]
    exact ok
theorem MO {lo hi a : Int} {m : Nat} {out : List qm} {k : List qm → Act α} : jM lo hi (m + 1) a out k = if a = 0 then k out else .step (.read a fun key =>
      let k2 : List qm → Act α := fun out => if key < hi then jQ a 1 fun c => jM lo hi m c out k else k out
      let k1 : List qm → Act α := fun out => if lo ≤ key ∧ key ≤ hi then .read (a + 1) fun x => k2 (out ++ [(key, x)]) else k2 out
      if lo < key then jQ a 0 fun c => jM lo hi m c out k1 else k1 out) := rfl
theorem Xu {lo hi : Int} {l : List qm} (h : ∀ q ∈ l, q.1 < lo ∨ hi < q.1) : xe lo hi l = [] := by
  refine List.filter_eq_nil_iff.2 fun q hq => ?_
  have := h q hq
  simp; omega
theorem Ve {lo hi : Int} {Q : Option α → Int → List Int → List Int → Prop} (Z : Hp W T p L fre p' L' W0 rv nd) : ∀ {u : Tr} {m : Nat} {out : List qm} {s : Int} {k : List qm → Act α}, Rep nd u → (∀ x ∈ ads u, x ∈ L) → Srt (inr u) → (ads u).length ≤ m → s + (ads u).length ≤ 2048 →
    (∀ s', s' ≤ s + (ads u).length → wpA T (SqT p' L') (k (out ++ xe lo hi (inr u))) W r F s' Q) → wpA T (SqT p' L') (jM lo hi m (rt u) out k) W r F s Q := by
  intro u
  induction u with
  | nil =>
    intro m out s k R hL hs hm hst w
    have e : jM lo hi m (rt .nil) out k = k out := by
      cases m <;> (unfold jM; rw [if_pos (show rt .nil = 0 from rfl)])
    rw [e]
    have := w s (by simp [ads])
    simpa [inr, xe] using this
  | node a c l kk v rr ihl ihr =>
    intro m out s k R hL ho hm hst w
    have hlen : (ads (.node a c l kk v rr)).length = (ads l).length + (ads rr).length + 1 := by simp [ads]
    rw [hlen] at hm hst w
    obtain ⟨m, rfl⟩ : ∃ m', m = m' + 1 := ⟨m - 1, by omega⟩
    have ha : a ∈ L := hL a (List.mem_cons_self ..)
    have hab := Z.b ha
    have hLl : ∀ x ∈ ads l, x ∈ L := fun x hx => hL x (List.mem_cons_of_mem _ (List.mem_append.2 (.inl hx)))
    have hLr : ∀ x ∈ ads rr, x ∈ L := fun x hx => hL x (List.mem_cons_of_mem _ (List.mem_append.2 (.inr hx)))
    have hbl := wG Z hLl
    have hbr := wG Z hLr
    have ho2 : Srt (inr l) ∧ Srt (inr rr) ∧ (∀ q ∈ inr l, q.1 < kk) ∧ (∀ q ∈ inr rr, kk < q.1) := by
      have h := List.pairwise_append.1 (show (inr l ++ (kk, v) :: inr rr).Pairwise _ from ho)
      have h2 := List.pairwise_cons.1 h.2.1
      exact ⟨h.1, h2.2, fun q hq => h.2.2 q hq _ (List.mem_cons_self ..), fun q hq => h2.1 q hq⟩
    have hall : xe lo hi (inr (.node a c l kk v rr)) = xe lo hi (inr l) ++ (xe lo hi [(kk, v)] ++ xe lo hi (inr rr)) := by
      show List.filter _ (inr l ++ ([(kk, v)] ++ inr rr)) = _
      rw [List.filter_append, List.filter_append]; rfl
    rw [hall] at w
    show wpA T (SqT p' L') (jM lo hi (m + 1) a out k) W r F s Q
    rw [MO, if_neg (by omega)]
    refine ⟨by omega, ?_⟩
    refine NJ Z ha ?_
    rw [show (nd a).k = kk by rw [R.1]]
    dsimp only
    have k2ok : ∀ {out2 : List qm} {s2 : Int}, s2 ≤ s + 1 + (ads l).length → out2 = out ++ (xe lo hi (inr l) ++ xe lo hi [(kk, v)]) → wpA T (SqT p' L') (if kk < hi then jQ a 1 fun c => jM lo hi m c out2 k else k out2) W r F s2 Q := by
      intro out2 s2 hs2 he
      subst he
      by_cases h : kk < hi
      · rw [if_pos h]
        refine vt Z ha (by rw [R.1]; show rt rr < _; omega) ?_
        rw [show (nd a).y = rt rr by rw [R.1]]
        refine ihr R.2.2 hLr ho2.2.1 (by omega) (by omega) fun s' h' => ?_
        have := w s' (by omega)
        simpa [List.append_assoc] using this
      · rw [if_neg h]
        have h0 : xe lo hi (inr rr) = [] := Xu fun q hq => by have := ho2.2.2.2 q hq; omega
        have := w s2 (by omega)
        rw [h0] at this
        simpa [List.append_assoc] using this
    have k1ok : ∀ {out2 : List qm} {s2 : Int}, s2 ≤ s + 1 + (ads l).length → out2 = out ++ xe lo hi (inr l) → wpA T (SqT p' L') (if lo ≤ kk ∧ kk ≤ hi then .read (a + 1) fun x => (if kk < hi then jQ a 1 fun c => jM lo hi m c (out2 ++ [(kk, x)]) k else k (out2 ++ [(kk, x)])) else (if kk < hi then jQ a 1 fun c => jM lo hi m c out2 k else k out2)) W r F s2 Q := by
      intro out2 s2 hs2 he
      by_cases h : lo ≤ kk ∧ kk ≤ hi
      · rw [if_pos h]
        refine km (j := 1) Z ha (by omega) ?_
        rw [(Z.nds a ha).2.1, show (nd a).v = v by rw [R.1]]
        have e : xe lo hi [(kk, v)] = [(kk, v)] := by simp [xe, h]
        exact k2ok hs2 (by rw [e, he, List.append_assoc])
      · rw [if_neg h]
        have e : xe lo hi [(kk, v)] = [] := Xu fun q hq => by rw [List.mem_singleton.1 hq]; show kk < lo ∨ hi < kk; omega
        exact k2ok hs2 (by rw [e, he, List.append_nil])
    by_cases h : lo < kk
    · rw [if_pos h]
      refine wn Z ha (by rw [R.1]; show (rt l * 2 + zf c) / 2 < _; rw [kX]; omega) ?_
      rw [show (nd a).w / 2 = rt l by rw [R.1]; exact kX]
      exact ihl R.2.1 hLl ho2.1 (by omega) (by omega) fun s' h' => k1ok (by omega) rfl
    · rw [if_neg h]
      have h0 : xe lo hi (inr l) = [] := Xu fun q hq => by have := ho2.2.2.1 q hq; omega
      exact k1ok (by omega) (by rw [h0, List.append_nil])
theorem YB {lo hi : Int} {Q : Option (List qm) → Int → List Int → List Int → Prop} (Z : xN W T fre p t p' t') (ok : Q (some (xe lo hi (inr t))) 0 W []) : wpA T (SqT p' (ads t')) (ja p lo hi) W 0 [] 0 Q := by
  have hf := Z.A.few
  have Hh := Z.hp
  unfold ja
  have hb := wG Hh (t := t) fun x hx => hx
  refine kH Hh (by omega) ?_
  refine Ve Hh Z.A.rep (fun x hx => hx) Z.A.srt (by omega) (by omega) fun s' _ => ?_
  rw [List.nil_append]
  exact ok
theorem xN.congr {W' : List Int} (Z : xN W T fre p t p' t') (hl : W'.length = T) (hn : ∀ z ∈ W', 0 ≤ z ∧ z < 18446744073709551616) (hat : ∀ q : Nat, 0 < q → q < T → qG W' q = qG W q) : xN W' T fre p t p' t' := by
  have hrr := Z.rr
  have hsz := Z.H.size
  have key : ∀ y ∈ ads t ++ ads t', ndW W' y = ndW W y := by
    intro y hy
    have hb := Z.H.mem hy
    unfold ndW
    rw [hat _ (by omega) (by omega), hat _ (by omega) (by omega), hat _ (by omega) (by omega), hat _ (by omega) (by omega)]
  refine ⟨Z.H.congr hl hn hat, ⟨?_, Z.A.rep.off fun y hy => key y (List.mem_append.2 (.inl hy)), Z.A.rb, Z.A.srt, Z.A.key⟩, ⟨?_, Z.B.rep.off fun y hy => key y (List.mem_append.2 (.inr hy)), Z.B.rb, Z.B.srt, Z.B.key⟩, Z.rr⟩
  · rw [hat _ (by omega) (by omega)]; exact Z.A.root
  · rw [hat _ (by omega) (by omega)]; exact Z.B.root
theorem NI {a : Int} (Z : xN W T [a] p t p' t') : kU (zy W 96) a = (0, yK W 96 [(a, qG W 2), (2, a)] []) ∧ xN (jV W [(a, qG W 2), (2, a)]) T [] p t p' t' ∧ qG W 5 ≤ qG (jV W [(a, qG W 2), (2, a)]) 5 := by
  obtain ⟨⟨sts, bs, ls, H⟩, A, B, rr⟩ := Z
  have P := H.P
  have hlo := P.lo
  have ha := H.fre a (List.mem_cons_self ..)
  have hma := P.mem ha.1
  have hg := qJs P ha.1 ha.2
  have htwo : ((2 : Int).toNat) = 2 := rfl
  rw [htwo] at hg
  have P' := P.given ha.1 ha.2
  rw [htwo] at P'
  have hstat : ∀ j, qG (sts.set a.toNat 3) j = if a.toNat = j then 3 else qG sts j := fun j => wJ sts _ j 3 (by have := P.slen; have := P.hi; omega)
  have hat : ∀ q : Nat, 0 < q → q < T → qG (jV W [(a, qG W 2), (2, a)]) q = if (2 : Int) = (q : Int) then a else if a = (q : Int) then qG W 2 else qG W q := fun q h1 h2 => xa P.len P.lo P.hi h1 h2
  have hma2 : 15 ≤ a := hma.1
  have hne : ∀ {y : Int}, y ∈ ads t ++ ads t' → y ≠ a ∧ (y + 5 ≤ a ∨ a + 5 ≤ y) ∧ 15 ≤ y ∧ y + 4 ≤ T := by
    intro y hy
    have h1 := H.own y hy
    have h2 := HY.mem ⟨sts, bs, ls, H⟩ hy
    have h3 : y ≠ a := by
      rintro rfl
      have := ha.2
      omega
    exact ⟨h3, (JT P h1.1 ha.1).resolve_left h3, h2⟩
  have key : ∀ y ∈ ads t ++ ads t', ndW (jV W [(a, qG W 2), (2, a)]) y = ndW W y := by
    intro y hy
    have h1 := hne hy
    unfold ndW
    rw [hat _ (by omega) (by omega), hat _ (by omega) (by omega), hat _ (by omega) (by omega), hat _ (by omega) (by omega)]
    rw [if_neg (by omega), if_neg (by omega), if_neg (by omega), if_neg (by omega), if_neg (by omega), if_neg (by omega), if_neg (by omega), if_neg (by omega)]
  refine ⟨hg, ⟨⟨_, _, _, P', ?_, ?_, ?_, ?_, H.nodup, List.nodup_nil, H.one⟩, ⟨?_, A.rep.off fun y hy => key y (List.mem_append.2 (.inl hy)), A.rb, A.srt, A.key⟩, ⟨?_, B.rep.off fun y hy => key y (List.mem_append.2 (.inr hy)), B.rb, B.srt, B.key⟩, rr⟩, by rw [hat 5 (by omega) (by omega), if_neg (by omega), if_neg (by omega)]; exact Int.le_refl _⟩
  · intro y hy
    have h1 := hne hy
    rw [hstat, if_neg (by omega)]
    exact H.own y hy
  · intro b hb hs
    rw [hstat] at hs
    split at hs
    · omega
    · exact H.live b hb hs
  · intro b hb hs
    rw [hstat] at hs
    have h3 := P.mem (b := b.1) (c := b.2) hb
    split at hs
    · omega
    · rename_i h
      have := H.rest b hb hs
      rw [List.mem_singleton] at this
      exact absurd (by rw [this]) h
  · intro y hy; cases hy
  · rw [hat _ (by omega) (by omega), if_neg (by omega), if_neg (by omega)]; exact A.root
  · rw [hat _ (by omega) (by omega), if_neg (by omega), if_neg (by omega)]; exact B.root
theorem VE : xN (z6 256) 256 [] 12 .nil 13 .nil := by
  obtain ⟨bs, ls, P⟩ := MZ 256
  have hbs : bs = [] := by
    have ht := P.tile
    rw [show qG (z6 256) 5 = 14 from rfl] at ht
    cases bs with
    | nil => rfl
    | cons b bs =>
      have h1 := ht.2.2.le
      have h2 := zP ht.2.1
      omega
  have hlen := P.len
  have hat : ∀ q, q ≠ 5 → qG (z6 256) q = 0 := by
    intro q hq
    unfold z6
    rw [wJ _ _ _ _ (by simp [szZ]; omega), Kn, if_neg (by omega)]
  have hr : ∀ x, qG (List.replicate 257 (0 : Int)) x = 0 := Kn 257
  have P2 := P.loose
  refine ⟨⟨_, _, _, P2, (fun y hy => by cases hy), ?_, ?_, (fun y hy => by cases hy), List.nodup_nil, List.nodup_nil, fun b hb => by rw [hbs] at hb; cases hb⟩, ⟨hat _ (by decide), trivial, ⟨0, rfl⟩, List.Pairwise.nil, fun q hq => by cases hq⟩, ⟨hat _ (by decide), trivial, ⟨0, rfl⟩, List.Pairwise.nil, fun q hq => by cases hq⟩, by omega⟩
  · intro b hb hs; rw [hr] at hs; omega
  · intro b hb hs; rw [hr] at hs; omega
end Go.Proofs.YtpohfcljfemhlaaGreat.arenaParts
namespace Go.Proofs.YtpohfcljfemhlaaGreat.arenaParts
open Go Go.Ae arenaPlays
set_option maxRecDepth 100000
variable {zs : List Int} {α : Type}
theorem qZT {p v : Int} : ∀ {l : List Cl}, p ∉ l.map (·.1) → z5 p v l = l ++ [(p, v)] := by
  intro l
  induction l with
  | nil => intro _; rfl
  | cons d l ih =>
    intro h
    rw [List.map_cons, List.mem_cons, not_or] at h
    unfold z5
    rw [if_neg (fun e => h.1 e.symm), ih h.2]; rfl
theorem Yw : ∀ {cs out : List Cl}, UnC (out ++ cs) → zD out cs = out ++ cs := by
  intro cs
  induction cs with
  | nil => intro out _; show out = _; simp
  | cons c cs ih =>
    intro out h
    have hn : c.1 ∉ out.map (·.1) := by
      unfold UnC at h
      rw [List.map_append, List.nodup_append] at h
      intro hm
      exact h.2.2 _ hm c.1 (List.mem_map.2 ⟨c, List.mem_cons_self .., rfl⟩) rfl
    show zD (z5 c.1 c.2 out) cs = _
    rw [qZT hn, ih (by rw [List.append_assoc]; exact h), List.append_assoc]; rfl
theorem OT {C : List Cl} (h : UnC C) : zD [] C = C := by
  have := Yw (cs := C) (out := []) (by simpa using h)
  simpa using this
theorem qQT {p : Int} : ∀ {C : List Cl} {w : Int}, UnC C → C.foldl (fun w c => if c.1 = p then c.2 else w) w = (jF p C).getD w := by
  intro C
  induction C with
  | nil => intro w _; rfl
  | cons c C ih =>
    intro w h
    unfold UnC at h
    rw [List.map_cons, List.nodup_cons] at h
    rw [List.foldl_cons, ih h.2, k0]
    by_cases e : c.1 = p
    · rw [if_pos e, if_pos e]
      have : jF p C = none := kR.2 (by rw [← e]; exact h.1)
      rw [this]; rfl
    · rw [if_neg e, if_neg e]
theorem Wd.nil {sz : Nat} (h : zs.length = sz) : Wd zs sz [] zs := ⟨h, fun _ _ _ => rfl⟩
abbrev Mv (K : List Cl) (nd : Int) : VM := lvV 256 K [] [] nd
theorem Yv (h : zs.length = 256) : zy zs 96 = Mv (kW zs) 0 := by
  unfold zy
  rw [h]; rfl
theorem QP (h : zs.length = 256) : Vg zs (kW zs) ∧ ∀ q : Int, 1 ≤ q → q < 256 → jF q (kW zs) ≠ none := by
  have hl : szZ zs.length = 256 := by rw [h]; rfl
  have hg : ∀ i : Nat, 0 < i → i < 256 → jF (i : Int) (kW zs) = some (qG zs i) := fun i h0 h1 => MB zs h0 (by rw [hl]; exact h1)
  refine ⟨fun p x hp => ?_, fun q h1 h2 hn => ?_⟩
  · by_cases hr : 1 ≤ p ∧ p < 256
    · have := hg p.toNat (by omega) (by omega)
      rw [show ((p.toNat : Nat) : Int) = p by omega, hp] at this
      exact Option.some.inj this
    · have hnone : jF p (kW zs) = none := kR.2 (by
        intro hm
        obtain ⟨c, hc, rfl⟩ := List.mem_map.1 hm
        obtain ⟨i, hi⟩ := List.getElem?_of_mem hc
        have hlt : i < (kW zs).length := (List.getElem?_eq_some_iff.1 hi).1
        rw [QL] at hlt
        rw [kp zs (by omega)] at hi
        cases hi
        dsimp only at hr
        omega)
      rw [hnone] at hp
      cases hp
  · have := hg q.toNat (by omega) (by omega)
    rw [show ((q.toNat : Nat) : Int) = q by omega, hn] at this
    cases this
theorem Vp (K C : List Cl) (nd : Int) : ∀ (F F0 : List Int), F.foldl freeV (lvV 256 K C F0 nd) = lvV 256 K C (F0 ++ F) nd := by
  intro F
  induction F with
  | nil => intro F0; rw [List.append_nil]; rfl
  | cons b F ih =>
    intro F0
    rw [List.foldl_cons]
    have e : freeV (lvV 256 K C F0 nd) b = lvV 256 K C (F0 ++ [b]) nd := rfl
    rw [e, ih, List.append_assoc]; rfl
theorem Kf {S : Int → Prop} {act : Act α} {Q : Option α → Int → List Int → List Int → Prop} (hz : zs.length = 256) (w : wpA 256 S act zs 0 [] 0 Q) :
    ∃ o e W' C' F', e ≠ 11 ∧ (e = 0 → o.isSome) ∧ Q o e W' F' ∧ Wd zs 256 C' W' ∧ UnC C' ∧ InC C' ∧ C'.length ≤ 96 ∧ (e = 0 → ∀ c ∈ C', S c.1) ∧ ∀ K nd, Vg zs K →
      ((∃ q, 1 ≤ q ∧ q < 256 ∧ S q ∧ jF q K = none ∧ doR (Mv K nd) act = (11, Mv K q)) ∨
        (doR (Mv K nd) act = (e, if e = 0 then lvV 256 K C' F' nd else Mv K nd) ∧ (qO act ⟨lvV 256 K [] [] 0, 0, 0⟩).1 = o)) := by
  obtain ⟨o, e, W', C', F', s', q1, q2, q3, q4, q5, q6, q7, q9, q8⟩ := Xj (by omega) w (Wd.nil hz) (Nat.le_refl 0) List.nodup_nil (fun c hc => by cases hc) (by omega)
  refine ⟨o, e, W', C', F', q1, q2, q3, q4, q5, q6, q7, fun he c hc => (q9 he c hc).resolve_left (fun h => by cases h), fun K nd hK => ?_⟩
  rcases q8 K 0 hK with ⟨C'', F'', q, s'', h1, h2, h3, h4, h5⟩ | h1
  · refine .inl ⟨q, h2, h3, h4, h5, ?_⟩
    unfold doR
    rw [show (Mv K nd).sz = 256 from rfl, show (Mv K nd).K = K from rfl, h1]
    dsimp only
    rw [if_pos rfl]
    have hr := Kh (sz := 256) (K := K) (C := []) (F := []) (nd := nd) (p := q) ⟨h2, h3⟩
    have hr : qM (Mv K nd) q = ((0, 11), Mv K q) := by
      rw [hr, show jF q ([] : List Cl) = none from rfl]
      dsimp only
      rw [h5]
    show ((qM (Mv K nd) q).1.2, (qM (Mv K nd) q).2) = _
    rw [hr]
  · refine .inr ⟨?_, by rw [h1]⟩
    unfold doR
    rw [show (Mv K nd).sz = 256 from rfl, show (Mv K nd).K = K from rfl, h1]
    dsimp only
    rw [if_neg q1]
    by_cases he : e = 0
    · rw [if_neg (by omega), if_pos he]
      have hm : jq (lvV 256 K C' F' 0).lv = C' := rfl
      have hf : xG (lvV 256 K C' F' 0).lv = F' := by show [(C', F')].reverse.flatMap (·.2) = F'; simp
      have ht := Ke (sz := 256) (K := K) (C := []) (F := []) (nd := nd) (cs := C') (by omega) (fun c hc => by have := q6 c hc; omega) (by simp; omega)
      rw [OT q5] at ht
      rw [hm, hf, ht]
      dsimp only
      rw [if_neg (by omega), Vp, List.nil_append, he]
    · rw [if_pos he, if_neg he]
theorem UG {C' : List Cl} {W' : List Int} (hz : zs.length = 256) (hw : Wd zs 256 C' W') (hu : UnC C') {q : Nat} (h0 : 0 < q) (h1 : q < 256) : qG (jV zs C') q = qG W' q := by
  rw [arenaParts.apply_at hz (by omega) (by omega) C' h0 h1, qQT hu, hw.2 q h0 h1]
theorem qJR {C' : List Cl} {W' : List Int} (hw : Wd zs 256 C' W') (hu : UnC C') (hi : InC C') (hn : ∀ z ∈ W', 0 ≤ z ∧ z < 18446744073709551616) : WdC C' := by
  intro c hc
  have h1 := hi c hc
  have h2 := hw.2 c.1.toNat (by omega) (by omega)
  rw [show ((c.1.toNat : Nat) : Int) = c.1 by omega, Gg hu hc] at h2
  have h3 := gM hn c.1.toNat
  rw [h2] at h3
  exact h3
def noT : Act α → Prop
  | .ret _ => True
  | .fail _ => True
  | .read _ k => ∀ x, noT (k x)
  | .take _ _ => False
  | .note _ _ => False
  | .step k => noT k
theorem K5 {M : VM} {p : Int} : (qM M p).2.lv = M.lv := by
  unfold qM
  repeat' split
  all_goals rfl
theorem qXf : ∀ {a : Act α} {D : DM}, noT a → (qO a D).2.M.lv = D.M.lv := by
  intro a
  induction a with
  | ret a => intro D _; rfl
  | fail e => intro D _; unfold qO; dsimp only; split <;> rfl
  | read p k ih =>
    intro D h
    unfold qO
    split
    · rfl
    · split
      · rw [ih _ (h _)]; exact K5
      · exact K5
  | take cs k ih => intro D h; cases h
  | note b k ih => intro D h; cases h
  | step k ih =>
    intro D h
    unfold qO
    split
    · rfl
    · split
      · rfl
      · exact ih h
theorem GT {p : Int} {k : Int → Act α} (h : ∀ x, noT (k x)) : noT (yH p k) := by
  intro x
  dsimp only
  split
  · trivial
  · exact h x
theorem qX5 {S : Int → Prop} {act : Act α} {x : α} {nd : Int} (hz : zs.length = 256) (hn : noT act) (w : wpA 256 S act zs 0 [] 0 fun o e _ _ => o = some x ∧ e = 0) :
    ∀ K, Vg zs K → (∃ q, 1 ≤ q ∧ q < 256 ∧ S q ∧ jF q K = none ∧ doR (Mv K nd) act = (11, Mv K q)) ∨ (doR (Mv K nd) act = (0, Mv K nd) ∧ (qO act ⟨lvV 256 K [] [] 0, 0, 0⟩).1 = some x) := by
  intro K hK
  obtain ⟨o, e, W', C', F', s', q1, q2, ⟨q3, q10⟩, q4, q5, q6, q7, q9, q8⟩ := Xj (by omega) w (Wd.nil hz) (Nat.le_refl 0) List.nodup_nil (fun c hc => by cases hc) (by omega)
  subst q10
  have hn2 := qXf (D := ⟨lvV 256 K [] [] 0, 0, 0⟩) hn
  rcases q8 K 0 hK with ⟨C'', F'', q, s'', h1, h2, h3, h4, h5⟩ | h1
  · refine .inl ⟨q, h2, h3, h4, h5, ?_⟩
    unfold doR
    rw [show (Mv K nd).sz = 256 from rfl, show (Mv K nd).K = K from rfl, h1]
    dsimp only
    rw [if_pos rfl]
    have hr := Kh (sz := 256) (K := K) (C := []) (F := []) (nd := nd) (p := q) ⟨h2, h3⟩
    have hr : qM (Mv K nd) q = ((0, 11), Mv K q) := by
      rw [hr, show jF q ([] : List Cl) = none from rfl]
      dsimp only
      rw [h5]
    show ((qM (Mv K nd) q).1.2, (qM (Mv K nd) q).2) = _
    rw [hr]
  · rw [h1] at hn2
    have hcf : C' = [] ∧ F' = [] := by
      have hn2 : [(C', F')] = [(([] : List Cl), ([] : List Int))] := hn2
      simp at hn2; exact hn2
    obtain ⟨rfl, rfl⟩ := hcf
    refine .inr ⟨?_, by rw [h1]; exact q3⟩
    unfold doR
    rw [show (Mv K nd).sz = 256 from rfl, show (Mv K nd).K = K from rfl, h1]
    dsimp only
    rw [if_neg (by omega), if_neg (by omega)]
    have hm : jq (lvV 256 K [] [] 0).lv = [] := rfl
    have hf : xG (lvV 256 K [] [] 0).lv = [] := rfl
    have ht := Ke (sz := 256) (K := K) (C := []) (F := []) (nd := nd) (cs := []) (by omega) (fun c hc => by cases hc) (by simp)
    rw [hm, hf, ht]
    rfl
end Go.Proofs.YtpohfcljfemhlaaGreat.arenaParts
namespace Go.Proofs.YtpohfcljfemhlaaGreat.arenaParts
open Go Go.Ae arenaPlays
set_option maxRecDepth 100000
variable {zs : List Int} {α : Type} {p p' : Int} {t t' : Tr}
def K7 (e : Int) (o : Option Bool) : Int × Int := if e = 0 then (2, if o = some true then 1 else 0) else (2, 0)
def Oo (e : Int) (o : Option (Int × Bool)) : Int × Int := if e = 0 then match o with | some (x, true) => (1, x) | _ => (3, 0) else (3, 0)
def qJP (e : Int) (o : Option (List qm)) : Int × Int := if e = 0 then match o with | some l => (1, (l.length : Int)) | none => (1, 0) else (1, 0)
abbrev vu (M : VM) (act : Act α) : Option α := (qO act ⟨lvV M.sz M.K [] [] 0, 0, 0⟩).1
def ww (M : VM) (root what k x : Int) : (Int × Int) × Int × VM :=
  if what = 9 then (K7 (doR M (yB M.sz root k x)).1 (vu M (yB M.sz root k x)), doR M (yB M.sz root k x))
  else if what = 10 then (Oo (doR M (xd root k)).1 (vu M (xd root k)), doR M (xd root k))
  else if what = 11 then (K7 (doR M (vF M.sz root k)).1 (vu M (vF M.sz root k)), doR M (vF M.sz root k))
  else (qJP (doR M (ja root k x)).1 (vu M (ja root k x)), doR M (ja root k x))
structure SmX (M : VM) (root what k x : Int) : Prop where
  put : what = 9 → (doR M (yB M.sz root k x)).1 = 0 → (vu M (yB M.sz root k x)).isSome
  get : what = 10 → (doR M (xd root k)).1 = 0 → (vu M (xd root k)).isSome
  del : what = 11 → (doR M (vF M.sz root k)).1 = 0 → (vu M (vF M.sz root k)).isSome
  rng : what = 12 → (doR M (ja root k x)).1 = 0 → (vu M (ja root k x)).isSome
def XW (what k x : Int) (row : List qm) : (Int × Int) × List qm :=
  if what = 9 then ((2, if inP k row = true then 0 else 1), kK k x row)
  else if what = 10 then (if (Jz k row).2 = true then (1, (Jz k row).1) else (3, 0), row)
  else if what = 11 then ((2, if inP k row = true then 1 else 0), Je k row)
  else ((1, ((xe k x row).length : Int)), row)
theorem gK {k : Int} : ∀ {l : List qm}, Srt l → (inP k l = false ∧ l = loP k l ++ hiP k l) ∨ ∃ v, inP k l = true ∧ l = loP k l ++ (k, v) :: hiP k l := by
  intro l
  induction l with
  | nil => intro _; exact .inl ⟨rfl, rfl⟩
  | cons q l ih =>
    intro h
    obtain ⟨h1, h2⟩ := List.pairwise_cons.1 h
    by_cases hlt : q.1 < k
    · have e1 : loP k (q :: l) = q :: loP k l := by unfold loP; rw [List.filter_cons, if_pos (by simpa using hlt)]
      have e2 : hiP k (q :: l) = hiP k l := by unfold hiP; rw [List.filter_cons, if_neg (by simp; omega)]
      have e3 : inP k (q :: l) = inP k l := by
        unfold inP
        rw [List.any_cons, decide_eq_false (by omega), Bool.false_or]
      rw [e1, e2, e3]
      rcases ih h2 with ⟨h3, h4⟩ | ⟨v, h3, h4⟩
      · exact .inl ⟨h3, congrArg (q :: ·) h4⟩
      · exact .inr ⟨v, h3, congrArg (q :: ·) h4⟩
    · have hall : ∀ y ∈ l, k < y.1 := fun y hy => by have := h1 y hy; omega
      by_cases heq : q.1 = k
      · obtain ⟨a, v⟩ := q
        dsimp only at heq
        subst heq
        obtain ⟨i1, i2, i3⟩ := Vv (k := a) (x := v) (a := []) (b := l) (fun q hq => by cases hq) hall
        rw [List.nil_append] at i1 i2 i3
        exact .inr ⟨v, i3, by rw [i1, i2]; rfl⟩
      · have hall2 : ∀ y ∈ q :: l, k < y.1 := by
          intro y hy
          rcases List.mem_cons.1 hy with rfl | hy
          · omega
          · exact hall y hy
        obtain ⟨i1, i2, i3⟩ := ML (k := k) (a := []) (b := q :: l) (fun q hq => by cases hq) hall2
        rw [List.nil_append] at i1 i2 i3
        exact .inl ⟨i3, by rw [i1, i2]; rfl⟩
theorem ZR {k : Int} {l : List qm} (h : Srt l) (hi : inP k l = false) : Je k l = l := by
  rcases gK (k := k) h with ⟨_, h2⟩ | ⟨v, h1, _⟩
  · exact h2.symm
  · rw [hi] at h1; cases h1
structure CallX (zs : List Int) (p : Int) (t : Tr) (p' : Int) (t' : Tr) (what k x : Int) (it : Int × Int) (e : Int) (C' : List Cl) (F' : List Int) : Prop where
  ne : e ≠ 11
  un : UnC C'
  ins : InC C'
  wd : e = 0 → WdC C'
  few : C'.length ≤ 96
  S : e = 0 → ∀ c ∈ C', SqT p' (ads t') c.1
  run : ∀ K nd, Vg zs K → SmX (Mv K nd) p what k x ∧ ((∃ q, 1 ≤ q ∧ q < 256 ∧ SqT p' (ads t') q ∧ jF q K = none ∧ ∃ it', ww (Mv K nd) p what k x = (it', 11, Mv K q)) ∨ ww (Mv K nd) p what k x = (it, e, if e = 0 then lvV 256 K C' F' nd else Mv K nd))
  out : (e = 4 ∧ (256 : Int) < qG zs 5 + 40) ∨ (e = 0 ∧ qG zs 5 ≤ qG (jV zs C') 5 ∧ it = (XW what k x (inr t)).1 ∧
    ∃ t2, inr t2 = (XW what k x (inr t)).2 ∧ ((F' = [] ∧ xN (jV zs C') 256 [] p t2 p' t') ∨ ∃ a, F' = [a] ∧ xN (jV zs C') 256 [a] p t2 p' t'))
theorem Gj {what k x : Int} (Z : xN zs 256 [] p t p' t') (hw : 9 ≤ what ∧ what ≤ 12) (hk : 0 ≤ k ∧ k < 12) (hx : 0 ≤ x ∧ x < 12) : ∃ it e C' F', CallX zs p t p' t' what k x it e C' F' := by
  have hz := Z.H.size.2.2
  have hcg : ∀ {W' : List Int} {C' : List Cl} {fr : List Int} {t2 : Tr}, Wd zs 256 C' W' → UnC C' → InC C' → xN W' 256 fr p t2 p' t' → WdC C' ∧ qG (jV zs C') 5 = qG W' 5 ∧ xN (jV zs C') 256 fr p t2 p' t' := by
    intro W' C' fr t2 h1 h2 h3 Z'
    have hc := qJR h1 h2 h3 Z'.H.nn
    exact ⟨hc, UG hz h1 h2 (by omega) (by omega), Z'.congr (by rw [yV, hz]; rfl) (yc Z.H.nn hc) fun q h0 h5 => UG hz h1 h2 h0 h5⟩
  have hsm : ∀ {β : Type} {act : Act β} {o : Option β} {e : Int} {K : List Cl} {nd : Int} {X : VM}, (e = 0 → o.isSome) →
      ((∃ q, 1 ≤ q ∧ q < 256 ∧ SqT p' (ads t') q ∧ jF q K = none ∧ doR (Mv K nd) act = (11, Mv K q)) ∨ (doR (Mv K nd) act = (e, X) ∧ (qO act ⟨lvV 256 K [] [] 0, 0, 0⟩).1 = o)) → (doR (Mv K nd) act).1 = 0 → (vu (Mv K nd) act).isSome := by
    intro β act o e K nd X ho h h0
    rcases h with ⟨q, _, _, _, _, h⟩ | ⟨h, h2⟩
    · rw [h] at h0; cases h0
    · show ((qO act ⟨lvV 256 K [] [] 0, 0, 0⟩).1).isSome
      rw [h2]
      rw [h] at h0
      exact ho h0
  have hw4 : what = 9 ∨ what = 10 ∨ what = 11 ∨ what = 12 := by omega
  rcases hw4 with rfl | rfl | rfl | rfl
  · obtain ⟨o, e, W', C', F', q1, q2, q3, q4, q5, q6, q96, q7, q8⟩ := Kf (Q := fun o e W' F' => (∃ t2, o = some (!inP k (inr t)) ∧ e = 0 ∧ F' = [] ∧ qG zs 5 ≤ qG W' 5 ∧ xN W' 256 [] p t2 p' t' ∧ inr t2 = kK k x (inr t)) ∨ (o = none ∧ e = 4 ∧ (256 : Int) < qG zs 5 + 5)) hz
      (qVP Z hk hx (fun W' t2 h1 h2 h3 => .inl ⟨t2, rfl, rfl, rfl, h1, h2, h3⟩) (fun h => .inr ⟨rfl, rfl, h⟩))
    refine ⟨K7 e o, e, C', F', q1, q5, q6, fun he => ?_, q96, q7, fun K nd hK => ⟨⟨fun _ => hsm q2 (q8 K nd hK), fun h => by omega, fun h => by omega, fun h => by omega⟩, ?_⟩, ?_⟩
    · rcases q3 with ⟨t2, _, _, _, _, Z', _⟩ | ⟨_, h, _⟩
      · exact (hcg q4 q5 q6 Z').1
      · omega
    · unfold ww
      rw [if_pos rfl, show (Mv K nd).sz = 256 from rfl]
      rcases q8 K nd hK with ⟨q, h1, h2, h3, h4, h5⟩ | ⟨h, h6⟩
      · exact .inl ⟨q, h1, h2, h3, h4, _, by rw [h5]⟩
      · refine .inr ?_
        rw [h, show vu (Mv K nd) (yB 256 p k x) = o from h6]
    · rcases q3 with ⟨t2, rfl, rfl, rfl, h1, Z', h2⟩ | ⟨_, rfl, h⟩
      · obtain ⟨_, h5, Z2⟩ := hcg q4 q5 q6 Z'
        refine .inr ⟨rfl, by omega, ?_, t2, h2, .inl ⟨rfl, Z2⟩⟩
        unfold K7 XW
        rw [if_pos rfl, if_pos rfl]
        cases inP k (inr t) <;> rfl
      · exact .inl ⟨rfl, by omega⟩
  · obtain ⟨o, e, W', C', F', q1, q2, q3, q4, q5, q6, q96, q7, q8⟩ := Kf (Q := fun o e W' F' => o = some (Jz k (inr t)) ∧ e = 0 ∧ W' = zs ∧ F' = []) hz (qJN Z ⟨rfl, rfl, rfl, rfl⟩)
    obtain ⟨rfl, rfl, rfl, rfl⟩ := q3
    obtain ⟨hc, h5, Z2⟩ := hcg q4 q5 q6 Z
    refine ⟨Oo 0 (some (Jz k (inr t))), 0, C', [], q1, q5, q6, fun _ => hc, q96, q7, fun K nd hK => ⟨⟨fun h => by omega, fun _ => hsm q2 (q8 K nd hK), fun h => by omega, fun h => by omega⟩, ?_⟩, .inr ⟨rfl, by omega, ?_, t, rfl, .inl ⟨rfl, Z2⟩⟩⟩
    · unfold ww
      rw [if_neg (by omega), if_pos rfl]
      rcases q8 K nd hK with ⟨q, h1, h2, h3, h4, h5⟩ | ⟨h, h6⟩
      · exact .inl ⟨q, h1, h2, h3, h4, _, by rw [h5]⟩
      · refine .inr ?_
        rw [h, show vu (Mv K nd) (xd p k) = _ from h6]
    · unfold Oo XW
      rw [if_pos rfl, if_neg (by omega), if_pos rfl]
      generalize Jz k (inr t) = g
      obtain ⟨y, b⟩ := g
      cases b <;> rfl
  · obtain ⟨o, e, W', C', F', q1, q2, q3, q4, q5, q6, q96, q7, q8⟩ := Kf (Q := fun o e W' F' => e = 0 ∧ ((inP k (inr t) = false ∧ o = some false ∧ W' = zs ∧ F' = []) ∨ ∃ t2 a, inP k (inr t) = true ∧ o = some true ∧ F' = [a] ∧ qG W' 5 = qG zs 5 ∧ xN W' 256 [a] p t2 p' t' ∧ inr t2 = Je k (inr t))) hz
      (qVn Z (fun h => ⟨rfl, .inl ⟨h, rfl, rfl, rfl⟩⟩) (fun W' t2 a h0 h1 _ _ h2 h3 => ⟨rfl, .inr ⟨t2, a, h0, rfl, rfl, h1, h2, h3⟩⟩))
    obtain ⟨rfl, q3⟩ := q3
    have hall : ∃ fr t2, WdC C' ∧ qG (jV zs C') 5 = qG zs 5 ∧ xN (jV zs C') 256 fr p t2 p' t' ∧ F' = fr ∧ (fr = [] ∨ ∃ a, fr = [a]) ∧ inr t2 = Je k (inr t) ∧ K7 0 o = (2, if inP k (inr t) = true then 1 else 0) := by
      rcases q3 with ⟨h0, rfl, rfl, rfl⟩ | ⟨t2, a, h0, rfl, rfl, h1, Z', h2⟩
      · obtain ⟨hc, h5, Z2⟩ := hcg q4 q5 q6 Z
        exact ⟨[], t, hc, h5, Z2, rfl, .inl rfl, (ZR Z.A.srt h0).symm, by rw [h0]; rfl⟩
      · obtain ⟨hc, h5, Z2⟩ := hcg q4 q5 q6 Z'
        exact ⟨[a], t2, hc, by omega, Z2, rfl, .inr ⟨a, rfl⟩, h2, by rw [h0]; rfl⟩
    obtain ⟨fr, t2, hc, h5, Z2, rfl, hfr, hi, hit⟩ := hall
    refine ⟨K7 0 o, 0, C', F', q1, q5, q6, fun _ => hc, q96, q7, fun K nd hK => ⟨⟨fun h => by omega, fun h => by omega, fun _ => hsm q2 (q8 K nd hK), fun h => by omega⟩, ?_⟩, .inr ⟨rfl, by omega, ?_, t2, ?_, ?_⟩⟩
    · unfold ww
      rw [if_neg (by omega), if_neg (by omega), if_pos rfl, show (Mv K nd).sz = 256 from rfl]
      rcases q8 K nd hK with ⟨q, h1, h2, h3, h4, h5⟩ | ⟨h, h6⟩
      · exact .inl ⟨q, h1, h2, h3, h4, _, by rw [h5]⟩
      · refine .inr ?_
        rw [h, show vu (Mv K nd) (vF 256 p k) = _ from h6]
    · unfold XW
      rw [if_neg (by omega), if_neg (by omega), if_pos rfl]
      exact hit
    · unfold XW
      rw [if_neg (by omega), if_neg (by omega), if_pos rfl]
      exact hi
    · rcases hfr with rfl | ⟨a, rfl⟩
      · exact .inl ⟨rfl, Z2⟩
      · exact .inr ⟨a, rfl, Z2⟩
  · obtain ⟨o, e, W', C', F', q1, q2, q3, q4, q5, q6, q96, q7, q8⟩ := Kf (Q := fun o e W' F' => o = some (xe k x (inr t)) ∧ e = 0 ∧ W' = zs ∧ F' = []) hz (YB Z ⟨rfl, rfl, rfl, rfl⟩)
    obtain ⟨rfl, rfl, rfl, rfl⟩ := q3
    obtain ⟨hc, h5, Z2⟩ := hcg q4 q5 q6 Z
    refine ⟨qJP 0 (some (xe k x (inr t))), 0, C', [], q1, q5, q6, fun _ => hc, q96, q7, fun K nd hK => ⟨⟨fun h => by omega, fun h => by omega, fun h => by omega, fun _ => hsm q2 (q8 K nd hK)⟩, ?_⟩, .inr ⟨rfl, by omega, ?_, t, rfl, .inl ⟨rfl, Z2⟩⟩⟩
    · unfold ww
      rw [if_neg (by omega), if_neg (by omega), if_neg (by omega)]
      rcases q8 K nd hK with ⟨q, h1, h2, h3, h4, h5⟩ | ⟨h, h6⟩
      · exact .inl ⟨q, h1, h2, h3, h4, _, by rw [h5]⟩
      · refine .inr ?_
        rw [h, show vu (Mv K nd) (ja p k x) = _ from h6]
    · rfl
theorem qJA {w : Int} {k : Int → Act α} (h : ∀ x, noT (k x)) : noT (Gk w k) := by
  unfold Gk
  split
  · trivial
  · exact h _
theorem Yo {a sd : Int} {k : Int → Act α} (h : ∀ x, noT (k x)) : noT (jQ a sd k) := by
  unfold jQ
  split
  · trivial
  split
  · exact GT h
  · intro w; exact qJA h
theorem ZT {lo hi : Int} : ∀ {m : Nat} {a : Int} {out : List qm} {k : List qm → Act α}, (∀ l, noT (k l)) → noT (jM lo hi m a out k) := by
  intro m
  induction m with
  | zero =>
    intro a out k h
    unfold jM
    split
    · exact h _
    · trivial
  | succ m ih =>
    intro a out k h
    rw [MO]
    split
    · exact h _
    intro key
    have k2 : ∀ out : List qm, noT (if key < hi then jQ a 1 fun c => jM lo hi m c out k else k out) := by
      intro out
      split
      · exact Yo fun c => ih h
      · exact h _
    have k1 : ∀ out : List qm, noT (if lo ≤ key ∧ key ≤ hi then .read (a + 1) fun x => (if key < hi then jQ a 1 fun c => jM lo hi m c (out ++ [(key, x)]) k else k (out ++ [(key, x)])) else (if key < hi then jQ a 1 fun c => jM lo hi m c out k else k out)) := by
      intro out
      split
      · intro x; exact k2 _
      · exact k2 _
    dsimp only
    split
    · exact Yo fun c => ih k1
    · exact k1 _
theorem N1 {lo hi : Int} {fr : List Int} (Z : xN zs 256 fr p t p' t') : doR (Mv (kW zs) 0) (ja p lo hi) = (0, Mv (kW zs) 0) ∧ (qO (ja p lo hi) ⟨lvV 256 (kW zs) [] [] 0, 0, 0⟩).1 = some (xe lo hi (inr t)) := by
  have hz := Z.H.size.2.2
  obtain ⟨k1, k2⟩ := QP hz
  rcases qX5 (act := ja p lo hi) (nd := 0) hz (GT fun a => ZT fun l => trivial) (YB Z ⟨rfl, rfl⟩) (kW zs) k1 with ⟨q, h1, h2, _, h4, _⟩ | h
  · exact absurd h4 (k2 q h1 h2)
  · exact h
theorem qKB {hi : Int} {l : List qm} (h : ∀ q ∈ l, (0 ≤ q.1 ∧ q.1 < 12) ∧ 0 ≤ q.2 ∧ q.2 < 12) (hh : 12 ≤ hi) : xe 0 hi l = l := by
  refine List.filter_eq_self.2 fun q hq => ?_
  have := h q hq
  simp; omega
end Go.Proofs.YtpohfcljfemhlaaGreat.arenaParts
namespace Go.Proofs.YtpohfcljfemhlaaGreat.arenaParts
open Go Go.Ae arenaPlays
set_option maxRecDepth 100000
variable {g h : AH} {L R : List SP} {α : Type}
theorem M5 {n : Nat} (hn : 16 ≤ n) {t d : Nat} {D : DM} {root other : Int} {up : ji} {wv : AV} {way : List ji} {sz : Nat} (H : HS g h (DrC d D :: TrC t d root wv :: zE wv way :: R)) (G : jX D sz 5) (O : OkW way) (hl1 : 1 ≤ way.length) (hl : way.length ≤ 1000000)
    (hu : (0 ≤ up.1 ∧ up.1 ≤ 2147483648) ∧ (0 ≤ up.2 ∧ up.2 ≤ 1)) (ho : 0 ≤ other ∧ other ≤ 2147483648) :
    wp (qy tab qI n (.fn 113 [] []) [.ptr t 0, .agg (yy up), .int .i64 other] h) fun _ h' => ∃ (D' : DM), (∀ k : Act α, EqR (qO (wW root way up other k) D) (qO k D')) ∧ Aft D D' sz ∧ HS g h' (DrC d D' :: TrC t d root wv :: zE wv way :: R) := by
  (refine qc (g := W113) rfl (by omega) fun k hk => ?_; show wp (S113 (qy tab qI k) _ _ _ _) _; unfold S113; try simp only [iI, uU, Int.ofNat_eq_natCast])
  obtain ⟨ua, us⟩ := up
  dsimp only at hu
  refine jk H rfl fun b0 h1 H1 => ?_
  have H1 : HS g h1 (qg b0 [.int .i64 ua, .int .i64 us] :: DrC d D :: TrC t d root wv :: zE wv way :: R) := H1
  have H1 : HS g h1 (DrC d D :: TrC t d root wv :: zE wv way :: qg b0 [.int .i64 ua, .int .i64 us] :: R) := H1.sub (.cons e_1 (.cons e_1 (.cons e_1 (.cons .here .refl))))
  clear H
  refine z9 [] (fun s h' => ∃ (o2 : Int) (D2 : DM), s = (.ptr b0 0, .int .i64 o2, .ptr t 0, ()) ∧ (0 ≤ o2 ∧ o2 ≤ 2147483648) ∧ (∀ k : Act α, EqR (qO (wW root way (ua, us) other k) D) (qO (YF root way (ua, us) o2 k) D2)) ∧ Aft D D2 sz ∧
    HS g h' (DrC d D2 :: TrC t d root wv :: zE wv way :: qg b0 [.int .i64 ua, .int .i64 us] :: R)) ?_ ?_
  · intro j hj
    with_reducible (refine qZ ?_; refine qv (by assumption) e_3 (by with_unfolding_all exact rfl) ?_; refine jC (by omega) ?_)
    refine qJ (zz (α := α) (side := 1 - us) (by omega) H1 G ho) ?_
    rintro _ h2 ⟨c, D2, rfl, E2, A2, b2, H2⟩
    refine qJ (wK (α := α) (by omega) H2 A2.good (by omega)) ?_
    rintro _ h3 ⟨rc, D3, rfl, E3, A3, H3⟩
    have E4 : ∀ k : Act α, EqR (qO (wW root way (ua, us) other k) D) (qO (if rc = false then xl other (1 - us) fun inner => xC ua (1 - us) inner (jZ inner false (jZ other true (YF root way (ua, us) inner k))) else YF root way (ua, us) other k) D3) := fun k => (E2 _).trans (E3 _)
    cases rc with
    | true =>
      with_reducible (refine jc ?_; refine qK ?_)
      exact hj _ _ ⟨other, D3, rfl, ho, fun k => E4 k, ⟨A3.good, A3.stp.trans A2.stp⟩, H3⟩
    | false =>
      with_reducible (refine ju ?_; refine qq ?_; refine qZ ?_; refine qv (by assumption) e_3 (by with_unfolding_all exact rfl) ?_; refine jC (by omega) ?_)
      refine qJ (Q2 (α := α) (side := 1 - us) (by omega) H3 A3.good ho (by omega)) ?_
      rintro _ h4 ⟨inner, D4, rfl, E5, A4, b4, H4⟩
      with_reducible (refine qZ ?_; refine qv (by assumption) e_3 (by with_unfolding_all exact rfl) ?_; refine qZ ?_; refine qv (by assumption) e_3 (by with_unfolding_all exact rfl) ?_; refine jC (by omega) ?_)
      refine qJ (Jj (α := α) (side := 1 - us) (by omega) H4 A4.good hu.1 (by omega)) ?_
      rintro _ h5 ⟨D5, E6, A5, H5⟩
      refine qJ (zU (α := α) (by omega) H5 A5.good (by omega)) ?_
      rintro _ h6 ⟨D6, E7, A6, H6⟩
      refine qJ (zU (α := α) (by omega) H6 A6.good ho) ?_
      rintro _ h7 ⟨D7, E8, A7, H7⟩
      exact hj _ _ ⟨inner, D7, rfl, by omega, fun k => (E4 k).trans ((E5 _).trans ((E6 _).trans ((E7 _).trans (E8 _)))), ⟨A7.good, A7.stp.trans (A6.stp.trans (A5.stp.trans (A4.stp.trans (A3.stp.trans A2.stp))))⟩, H7⟩
  clear H1
  rintro s h3 ⟨o2, D2, rfl, ho2, E2, A2, H3⟩
  dsimp only
  with_reducible (refine qZ ?_; refine qv (by assumption) e_3 (by with_unfolding_all exact rfl) ?_; refine qZ ?_; refine qv (by assumption) e_3 (by with_unfolding_all exact rfl) ?_)
  refine qJ (Q2 (α := α) (by omega) H3 A2.good hu.1 hu.2) ?_
  rintro _ h4 ⟨v, D4, rfl, E4, A4, b4, H4⟩
  with_reducible (refine qZ ?_; refine qv (by assumption) e_3 (by with_unfolding_all exact rfl) ?_)
  refine qJ (wK (α := α) (by omega) H4 A4.good hu.1) ?_
  rintro _ h5 ⟨ru, D5, rfl, E5, A5, H5⟩
  refine qJ (zU (α := α) (by omega) H5 A5.good ho2) ?_
  rintro _ h6 ⟨D6, E6, A6, H6⟩
  with_reducible (refine qZ ?_; refine qv (by assumption) e_3 (by with_unfolding_all exact rfl) ?_)
  refine qJ (zU (α := α) (by omega) H6 A6.good hu.1) ?_
  rintro _ h7 ⟨D7, E7, A7, H7⟩
  with_reducible (refine qZ ?_; refine qv (by assumption) e_3 (by with_unfolding_all exact rfl) ?_; refine jC (by omega) ?_)
  refine qJ (zz (α := α) (side := 1 - us) (by omega) H7 A7.good ho2) ?_
  rintro _ h8 ⟨c, D8, rfl, E8, A8, b8, H8⟩
  refine qJ (zU (α := α) (by omega) H8 A8.good (by omega)) ?_
  rintro _ h9 ⟨D9, E9, A9, H9⟩
  with_reducible (refine qC ?_; refine qZ ?_; refine qv (by assumption) e_1 (by with_unfolding_all exact rfl) ?_; refine jv (by assumption) e_2 ?_; refine jC (by omega) ?_)
  rw [show ((way.length : Nat) : Int) - ((1 : Nat) : Int) = ((way.length - 1 : Nat) : Int) by omega]
  refine qJ (Qo (α := α) (by omega) H9 A9.good O (by omega) hl ho2) ?_
  rintro _ h10 ⟨D10, E10, A10, H10⟩
  with_reducible (refine qF ?_)
  exact qz ⟨D10, fun k => (E2 k).trans ((E4 _).trans ((E5 _).trans ((E6 _).trans ((E7 _).trans ((E8 _).trans ((E9 _).trans (E10 _))))))), ⟨A10.good, A10.stp.trans (A9.stp.trans (A8.stp.trans (A7.stp.trans (A6.stp.trans (A5.stp.trans (A4.stp.trans A2.stp))))))⟩, H10.sub (.cons .here (.cons .here (.cons .here (.drop .refl))))⟩
theorem qZ2 {n : Nat} (hn : 16 ≤ n) {t d : Nat} {D : DM} {root a : Int} {wv : AV} {way : List ji} {sz : Nat} (H : HS g h (DrC d D :: TrC t d root wv :: zE wv way :: R)) (G : jX D sz 5) (O : OkW way) (hl : way.length ≤ 10000) (hs : D.stp ≤ 10000) (ha : 0 ≤ a ∧ a ≤ 2147483648) :
    wp (qy tab qI n (.fn 97 [] []) [.ptr t 0, .int .i64 a] h) fun r h' => ∃ (v : Int) (way' : List ji) (wv' : AV) (D' : DM), r = .int .i64 v ∧ (∀ k : Int → List ji → Act α, EqR (qO (Xn a way k) D) (qO (k v way') D')) ∧ jX D' sz 5 ∧ D'.stp ≤ 20000 ∧ (0 ≤ v ∧ v ≤ 2147483648) ∧ OkW way' ∧ way'.length ≤ 20000 ∧
      HS g h' (DrC d D' :: TrC t d root wv' :: zE wv' way' :: R) := by
  (refine qc (g := W97) rfl (by omega) fun k hk => ?_; show wp (S97 (qy tab qI k) _ _ _) _; unfold S97; try simp only [iI, uU, Int.ofNat_eq_natCast])
  have hs0 := G.st
  with_reducible (refine qC ?_; refine qZ ?_; refine qv (by assumption) e_1 (by with_unfolding_all exact rfl) ?_; refine qh (by with_unfolding_all exact rfl) ?_)
  refine jo (n := 1) (l := [.int .i64 a, .int .i64 ((1 : Nat) : Int)]) (sz := 2) H rfl rfl rfl rfl fun v1 h1 H1 => ?_
  refine zl (H1.sel e_3) (H1.sl .here) (by omega) (by omega) rfl fun v2 h2 H2 => ?_
  have o2 := H2.one .here
  with_reducible (refine qC ?_; refine qZ ?_)
  refine jw H2 (b := t) e_3 o2 (by simp) fun h3 H3 => ?_
  have H3 : HS g h3 (DrC d D :: TrC t d root v2 :: zE v2 (way ++ [(a, 1)]) :: R) := by
    have H4 : HS g h3 (TrC t d root v2 :: qR 140 2 (way.length + 1) v2 (way.flatMap yy ++ [.int .i64 a, .int .i64 ((1 : Nat) : Int)]) :: qR 140 2 1 v1 [.int .i64 a, .int .i64 ((1 : Nat) : Int)] :: DrC d D :: R) := H3
    unfold zE
    rw [List.flatMap_append, List.length_append]
    exact H4.sub (.cons e_3 (.cons .here (.cons .here (.drop .refl))))
  have O3 : OkW (way ++ [(a, 1)]) := O.add ha (by dsimp only; omega)
  refine qJ (zz (α := α) (by omega) H3 G ha) ?_
  rintro _ h5 ⟨c, D5, rfl, E5, A5, b5, H5⟩
  have hs5 := A5.stp
  refine z9 [] (fun s h' => ∃ (v : Int) (way' : List ji) (wv' : AV) (D' : DM), s = (.int .i64 v, ()) ∧ (∀ k : Int → List ji → Act α, EqR (qO (Xn a way k) D) (qO (k v way') D')) ∧ jX D' sz 5 ∧ D'.stp ≤ 20000 ∧ (0 ≤ v ∧ v ≤ 2147483648) ∧ OkW way' ∧ way'.length ≤ 20000 ∧
      HS g h' (DrC d D' :: TrC t d root wv' :: zE wv' way' :: R)) ?_ ?_
  rotate_left
  · rintro s h6 ⟨v, way', wv', D', rfl, E, GD, q1, q2, q3, q4, H6⟩
    dsimp only
    with_reducible (refine qF ?_)
    exact qz ⟨v, way', wv', D', rfl, E, GD, q1, q2, q3, q4, H6⟩
  intro j hj
  refine jR (fun m s h' => ∃ (a2 : Int) (way2 : List ji) (wv2 : AV) (D2 : DM), s = (.int .i64 a2, .ptr t 0, ()) ∧ (∀ k : Int → List ji → Act α, EqR (qO (Xn a way k) D) (qO (kl k m a2 way2) D2)) ∧ jX D2 sz 5 ∧ (0 ≤ a2 ∧ a2 ≤ 2147483648) ∧ OkW way2 ∧ 2049 ≤ D2.stp + m ∧ D2.stp + m ≤ 15000 ∧ way2.length + m ≤ 15000 ∧
    HS g h' (DrC d D2 :: TrC t d root wv2 :: zE wv2 way2 :: R))
    ?_ (m := 2049) (by show 2049 < 1000000000; omega) ⟨c, way ++ [(a, 1)], v2, D5, rfl, fun k => E5 _, A5.good, by omega, O3, by omega, by omega, by simp; omega, H5⟩
  clear E5 A5 b5 H H1 H2 H3 H5 G O O3 hs0 hs5
  rintro m ih s h6 hih ⟨a2, way2, wv2, D2, rfl, E, G2, hb, O, hst, hst2, hwl, H⟩
  dsimp only
  with_reducible (refine qC ?_; refine qZ ?_; refine qv (by assumption) e_1 (by with_unfolding_all exact rfl) ?_)
  refine qJ (wy (by omega) H G2) ?_
  rintro _ h7 ⟨rfl, H7⟩
  have hg2 := G2.st
  have G3 := G2.step (by omega)
  cases m with
  | zero =>
    have herr := JJ (D := D2) (by omega)
    rw [decide_eq_false herr]
    with_reducible (refine qK ?_)
    exact hj _ _ ⟨a2, way2, wv2, _, rfl, fun k => (E k).trans (by unfold kl; exact Xw (by omega)), G3.1, by omega, hb, O, by omega, H7⟩
  | succ m =>
    have E3 : ∀ k : Int → List ji → Act α, EqR (qO (Xn a way k) D) (qO (jQ a2 0 fun nx => if nx = 0 then k a2 way2 else kl k m nx (way2 ++ [(a2, 0)])) (zv D2)) := by
      intro k
      refine (E k).trans ?_
      rw [kl]
      exact wI
    by_cases herr : (zv D2).err = 0
    rotate_left
    · rw [decide_eq_false herr]
      with_reducible (refine qK ?_)
      exact hj _ _ ⟨a2, way2, wv2, _, rfl, fun k => (E3 k).trans (EqR.errs herr ⟨rfl, rfl⟩), G3.1, by omega, hb, O, by omega, H7⟩
    rw [decide_eq_true herr]
    obtain ⟨G3, hs3⟩ := G3
    generalize zv D2 = D3 at *
    with_reducible (refine qq ?_)
    refine qJ (zz (α := α) (by omega) H7 G3 hb) ?_
    rintro _ h8 ⟨nx, D8, rfl, E8, A8, b8, H8⟩
    have hs8 := A8.stp
    have E9 : ∀ k : Int → List ji → Act α, _ := fun k => (E3 k).trans (E8 _)
    by_cases hnx : nx = 0
    · refine jA hnx (qq ?_)
      exact hj _ _ ⟨a2, way2, wv2, D8, rfl, fun k => (E9 k).trans (by rw [if_pos hnx]; exact EqR.refl _), A8.good, by omega, hb, O, by omega, H8⟩
    refine ql hnx (qK ?_)
    with_reducible (refine qC ?_; refine qZ ?_; refine qv (by assumption) e_1 (by with_unfolding_all exact rfl) ?_; refine qh (by with_unfolding_all exact rfl) ?_)
    refine jo (n := 1) (l := [.int .i64 a2, .int .i64 ((0 : Nat) : Int)]) (sz := 2) H8 rfl rfl rfl rfl fun v9 h9 H9 => ?_
    refine zl (H9.sel e_3) (H9.sl .here) (by omega) (by omega) rfl fun v10 h10 H10 => ?_
    have o10 := H10.one .here
    with_reducible (refine qC ?_; refine qZ ?_)
    refine jw H10 (b := t) e_3 o10 (by simp) fun h11 H11 => ?_
    have H11 : HS g h11 (DrC d D8 :: TrC t d root v10 :: zE v10 (way2 ++ [(a2, 0)]) :: R) := by
      have H4 : HS g h11 (TrC t d root v10 :: qR 140 2 (way2.length + 1) v10 (way2.flatMap yy ++ [.int .i64 a2, .int .i64 ((0 : Nat) : Int)]) :: qR 140 2 1 v9 [.int .i64 a2, .int .i64 ((0 : Nat) : Int)] :: DrC d D8 :: R) := H11
      unfold zE
      rw [List.flatMap_append, List.length_append]
      exact H4.sub (.cons e_3 (.cons .here (.cons .here (.drop .refl))))
    exact hih m _ _ (by omega) ⟨nx, way2 ++ [(a2, 0)], v10, D8, rfl, fun k => (E9 k).trans (by rw [if_neg hnx]; exact EqR.refl _), A8.good, by omega, O.add hb (by dsimp only; omega), by omega, by omega, by simp; omega, H11⟩
end Go.Proofs.YtpohfcljfemhlaaGreat.arenaParts
namespace Go.Proofs.YtpohfcljfemhlaaGreat.arenaParts
open Go Go.Ae arenaPlays
set_option maxRecDepth 100000
variable {g h : AH} {L R : List SP} {α : Type}
theorem Vl {n : Nat} (hn : 18 ≤ n) {t d : Nat} {D : DM} {root : Int} {wv : AV} {way : List ji} {sz : Nat} (H : HS g h (DrC d D :: TrC t d root wv :: zE wv way :: R)) (G : jX D sz 5) (O : OkW way) (hl : way.length ≤ 20000) (hs : D.stp ≤ 20000) :
    wp (qy tab qI n (.fn 98 [] []) [.ptr t 0] h) fun _ h' => ∃ (D' : DM) (wv' : AV) (way' : List ji), (∀ k : Act α, EqR (qO (zK root k 2049 way) D) (qO k D')) ∧ jX D' sz 5 ∧ HS g h' (DrC d D' :: TrC t d root wv' :: zE wv' way' :: R) := by
  (refine qc (g := W98) rfl (by omega) fun k hk => ?_; show wp (S98 (qy tab qI k) _ _) _; unfold S98; try simp only [iI, uU, Int.ofNat_eq_natCast])
  have hs0 := G.st
  refine jR (fun m s h' => ∃ (way2 : List ji) (wv2 : AV) (D2 : DM), s = (.ptr t 0, ()) ∧ (∀ k : Act α, EqR (qO (zK root k 2049 way) D) (qO (zK root k m way2) D2)) ∧ jX D2 sz 5 ∧ OkW way2 ∧ way2.length + m ≤ 30000 ∧ 2049 ≤ D2.stp + m ∧ D2.stp + m ≤ 30000 ∧
    HS g h' (DrC d D2 :: TrC t d root wv2 :: zE wv2 way2 :: R))
    ?_ (m := 2049) (by show 2049 < 1000000000; omega) ⟨way, wv, D, rfl, fun k => EqR.refl _, G, O, by omega, by omega, by omega, H⟩
  clear H G O hl hs hs0
  rintro m ih s h3 hih ⟨way2, wv2, D2, rfl, E, G2, O, hl, hst, hst2, H⟩
  dsimp only
  with_reducible (refine qC ?_; refine qZ ?_; refine qv (by assumption) e_1 (by with_unfolding_all exact rfl) ?_; refine jv (by assumption) e_2 ?_)
  by_cases h2 : 0 < way2.length
  rotate_left
  · have e : ∀ k : Act α, zK root k m way2 = k := by
      intro k
      cases m <;> (unfold zK; rw [if_neg h2])
    refine y8 (by omega) ?_
    with_reducible (refine qk ?_; (try dsimp only); refine jg ?_; (try dsimp only); refine qT ?_; refine qK ?_; refine qF ?_)
    exact qz ⟨D2, _, _, fun k => (E k).trans (by rw [e]; exact EqR.refl _), G2, H⟩
  refine x6 (by omega) ?_
  with_reducible (refine qk ?_; (try dsimp only); refine qr ?_; (try dsimp only); refine qC ?_; refine qZ ?_; refine qv (by assumption) e_1 (by with_unfolding_all exact rfl) ?_)
  refine qJ (wy (by omega) H G2) ?_
  rintro _ h4 ⟨rfl, H4⟩
  have hs2 := G2.st
  have G3 := G2.step (by omega)
  cases m with
  | zero =>
    have herr := JJ (D := D2) (by omega)
    rw [decide_eq_false herr]
    with_reducible (refine qS ?_; refine qK ?_; refine qF ?_)
    refine qz ⟨_, _, _, fun k => (E k).trans ?_, G3.1, H4⟩
    unfold zK
    rw [if_pos h2]
    exact Xw (by omega)
  | succ m =>
    obtain ⟨up, hup⟩ : ∃ up, up = zw way2 (way2.length - 1) := ⟨_, rfl⟩
    have bu : (0 ≤ up.1 ∧ up.1 ≤ 2147483648) ∧ (0 ≤ up.2 ∧ up.2 ≤ 1) := by rw [hup]; exact O.nth (by omega)
    have E3 : ∀ k : Act α, EqR (qO (zK root k 2049 way) D) (qO (jQ up.1 (1 - up.2) fun other => xA other fun ro =>
      if ro = true then xl up.1 up.2 fun _ => jZ other false (jZ up.1 true (xo root way2 (way2.length - 1) other
        (zK root k m (way2.set (way2.length - 1) (other, up.2) ++ [up]))))
      else jQ other 0 fun l => xA l fun rl => if rl = true then wW root way2 up other k else
        jQ other 1 fun r => xA r fun rr => if rr = true then wW root way2 up other k else
        jZ other true (xA up.1 fun ru => if ru = true then jZ up.1 false k else zK root k m (way2.take (way2.length - 1)))) (zv D2)) := by
      intro k
      refine (E k).trans ?_
      rw [zK, if_pos h2, hup]
      exact wI
    by_cases herr : (zv D2).err = 0
    rotate_left
    · rw [decide_eq_false herr]
      with_reducible (refine qS ?_; refine qK ?_; refine qF ?_)
      exact qz ⟨_, _, _, fun k => (E3 k).trans (EqR.errs herr ⟨rfl, rfl⟩), G3.1, H4⟩
    rw [decide_eq_true herr]
    obtain ⟨G3, hs3⟩ := G3
    generalize zv D2 = D3 at *
    with_reducible (refine qS ?_; refine qq ?_; refine qk ?_; (try dsimp only); refine qC ?_; refine qZ ?_; refine qv (by assumption) e_1 (by with_unfolding_all exact rfl) ?_; refine jv (by assumption) e_2 ?_; refine qC ?_; refine qZ ?_; refine qv (by assumption) e_1 (by with_unfolding_all exact rfl) ?_; refine jC (by omega) ?_)
    rw [show ((way2.length : Nat) : Int) - ((1 : Nat) : Int) = ((way2.length - 1 : Nat) : Int) by omega]
    refine xx (l := yy up) (H4.sl e_2) (show way2.length - 1 < way2.length by omega) (by omega) (by rw [hup]; exact Mx (by omega)) ?_
    clear hup
    obtain ⟨ua, us⟩ := up
    dsimp only at bu
    refine jk H4 rfl fun b5 h5 H5 => ?_
    refine js H5 (b := b5) .here rfl (by simp [yy]) rfl fun h8 H8 => ?_
    have H8 : HS g h8 (qg b5 [.int .i64 ua, .int .i64 us] :: DrC d D3 :: TrC t d root wv2 :: zE wv2 way2 :: R) := H8
    have H8 : HS g h8 (DrC d D3 :: TrC t d root wv2 :: zE wv2 way2 :: qg b5 [.int .i64 ua, .int .i64 us] :: R) := H8.sub (.cons e_1 (.cons e_1 (.cons e_1 (.cons .here .refl))))
    clear H H4 H5
    with_reducible (refine qZ ?_; refine qv (by assumption) e_3 (by with_unfolding_all exact rfl) ?_; refine qZ ?_; refine qv (by assumption) e_3 (by with_unfolding_all exact rfl) ?_; refine jC (by omega) ?_)
    refine qJ (zz (α := α) (side := 1 - us) (by omega) H8 G3 bu.1) ?_
    rintro _ h9 ⟨other, D9, rfl, E9, A9, b9, H9⟩
    refine qJ (wK (α := α) (by omega) H9 A9.good (by omega)) ?_
    rintro _ h10 ⟨ro, D10, rfl, E10, A10, H10⟩
    have E11 : ∀ k : Act α, _ := fun k => (E3 k).trans ((E9 _).trans (E10 _))
    have q1 := A9.stp
    have q2 := A10.stp
    clear E3 E9 E10 H8 H9
    cases ro with
    | true =>
      with_reducible (refine qq ?_; refine qZ ?_; refine qv (by assumption) e_3 (by with_unfolding_all exact rfl) ?_; refine qZ ?_; refine qv (by assumption) e_3 (by with_unfolding_all exact rfl) ?_)
      refine qJ (Q2 (α := α) (by omega) H10 A10.good bu.1 bu.2) ?_
      rintro _ h11 ⟨v, D11, rfl, E12, A11, b11, H11⟩
      refine qJ (zU (α := α) (by omega) H11 A11.good (by omega)) ?_
      rintro _ h12 ⟨D12, E13, A12, H12⟩
      with_reducible (refine qZ ?_; refine qv (by assumption) e_3 (by with_unfolding_all exact rfl) ?_)
      refine qJ (zU (α := α) (by omega) H12 A12.good bu.1) ?_
      rintro _ h13 ⟨D13, E14, A13, H13⟩
      with_reducible (refine jC (by omega) ?_)
      rw [show ((way2.length : Nat) : Int) - ((1 : Nat) : Int) = ((way2.length - 1 : Nat) : Int) by omega]
      refine qJ (Qo (α := α) (by omega) H13 A13.good O (by omega) (by omega) (by omega)) ?_
      rintro _ h14 ⟨D14, E15, A14, H14⟩
      with_reducible (refine qC ?_; refine qZ ?_; refine qv (by assumption) e_1 (by with_unfolding_all exact rfl) ?_; refine jC (by omega) ?_; refine qZ ?_; refine qv (by assumption) e_3 (by with_unfolding_all exact rfl) ?_; refine qh (by with_unfolding_all exact rfl) ?_)
      rw [show ((way2.length : Nat) : Int) - ((1 : Nat) : Int) = ((way2.length - 1 : Nat) : Int) by omega]
      refine qJL (l := yy (other, us)) (H14.sel e_2) (show way2.length - 1 < way2.length by omega) rfl rfl fun h15 H15 => ?_
      rw [Mt (sz := 2) (enc := yy) (fun _ => rfl) (by omega)] at H15
      with_reducible (refine qC ?_; refine qZ ?_; refine qv (by assumption) e_2 (by with_unfolding_all exact rfl) ?_)
      refine jx H15 (b := b5) (off := 0) e_3 rfl (by omega) rfl ?_
      refine jo (n := 1) (l := [.int .i64 ua, .int .i64 us]) (sz := 2) H15 rfl rfl rfl rfl fun v16 h16 H16 => ?_
      refine zl (H16.sel e_1) (H16.sl .here) (by omega) (by omega) rfl fun v17 h17 H17 => ?_
      have o17 := H17.one .here
      with_reducible (refine qC ?_; refine qZ ?_)
      refine jw H17 (b := t) e_3 o17 (by simp) fun h18 H18 => ?_
      have H18 : HS g h18 (DrC d D14 :: TrC t d root v17 :: zE v17 (way2.set (way2.length - 1) (other, us) ++ [(ua, us)]) :: R) := by
        have H4 : HS g h18 (TrC t d root v17 :: qR 140 2 (way2.length + 1) v17 ((way2.set (way2.length - 1) (other, us)).flatMap yy ++ [.int .i64 ua, .int .i64 us]) :: qR 140 2 1 v16 [.int .i64 ua, .int .i64 us] :: DrC d D14 :: qg b5 [.int .i64 ua, .int .i64 us] :: R) := H18
        unfold zE
        rw [List.flatMap_append, List.length_append, List.length_set]
        exact H4.sub (.cons e_3 (.cons .here (.cons .here (.drop (.drop .refl)))))
      have q3 := A11.stp
      have q4 := A12.stp
      have q5 := A13.stp
      have q6 := A14.stp
      have O18 : OkW (way2.set (way2.length - 1) (other, us) ++ [(ua, us)]) := by
        refine OkW.add (fun s hs => ?_) bu.1 bu.2
        rcases List.mem_or_eq_of_mem_set hs with h1 | rfl
        · exact O s h1
        · exact ⟨by dsimp only; omega, bu.2⟩
      exact hih m _ _ (by omega) ⟨_, v17, D14, rfl, fun k => (E11 k).trans ((E12 _).trans ((E13 _).trans ((E14 _).trans (E15 _)))), A14.good, O18, by simp; omega, by omega, by omega, H18⟩
    | false =>
      with_reducible (refine qK ?_)
      refine qJ (zz (α := α) (by omega) H10 A10.good (by omega)) ?_
      rintro _ h11 ⟨l, D11, rfl, E12, A11, b11, H11⟩
      refine qJ (wK (α := α) (by omega) H11 A11.good (by omega)) ?_
      rintro _ h12 ⟨rl, D12, rfl, E13, A12, H12⟩
      have E14 : ∀ k : Act α, _ := fun k => (E11 k).trans ((E12 _).trans (E13 _))
      have q3 := A11.stp
      have q4 := A12.stp
      cases rl with
      | true =>
        with_reducible (refine qk ?_; (try dsimp only); refine jE ?_; (try dsimp only); refine qS ?_; refine qq ?_)
        refine jx H12 (b := b5) (off := 0) e_3 rfl (by omega) rfl ?_
        refine qJ (M5 (α := α) (up := (ua, us)) (by omega) H12 A12.good O (by omega) (by omega) bu (by omega)) ?_
        rintro _ h13 ⟨D13, E15, A13, H13⟩
        with_reducible (refine qF ?_)
        exact qz ⟨_, _, _, fun k => (E14 k).trans (E15 _), A13.good, H13.sub (.cons .here (.cons .here (.cons .here (.drop .refl))))⟩
      | false =>
        with_reducible (refine qk ?_; (try dsimp only); refine qo ?_; (try dsimp only))
        refine qJ (zz (α := α) (by omega) H12 A12.good (by omega)) ?_
        rintro _ h13 ⟨r, D13, rfl, E15, A13, b13, H13⟩
        refine qJ (wK (α := α) (by omega) H13 A13.good (by omega)) ?_
        rintro _ h14 ⟨rr, D14, rfl, E16, A14, H14⟩
        have E17 : ∀ k : Act α, _ := fun k => (E14 k).trans ((E15 _).trans (E16 _))
        have q5 := A13.stp
        have q6 := A14.stp
        cases rr with
        | true =>
          with_reducible (refine qT ?_; refine qq ?_)
          refine jx H14 (b := b5) (off := 0) e_3 rfl (by omega) rfl ?_
          refine qJ (M5 (α := α) (up := (ua, us)) (by omega) H14 A14.good O (by omega) (by omega) bu (by omega)) ?_
          rintro _ h15 ⟨D15, E18, A15, H15⟩
          with_reducible (refine qF ?_)
          exact qz ⟨_, _, _, fun k => (E17 k).trans (E18 _), A15.good, H15.sub (.cons .here (.cons .here (.cons .here (.drop .refl))))⟩
        | false =>
          with_reducible (refine qT ?_; refine qK ?_)
          refine qJ (zU (α := α) (by omega) H14 A14.good (by omega)) ?_
          rintro _ h15 ⟨D15, E18, A15, H15⟩
          with_reducible (refine qZ ?_; refine qv (by assumption) e_3 (by with_unfolding_all exact rfl) ?_)
          refine qJ (wK (α := α) (by omega) H15 A15.good bu.1) ?_
          rintro _ h16 ⟨ru, D16, rfl, E19, A16, H16⟩
          have E20 : ∀ k : Act α, _ := fun k => (E17 k).trans ((E18 _).trans (E19 _))
          have q7 := A15.stp
          have q8 := A16.stp
          cases ru with
          | true =>
            with_reducible (refine qq ?_; refine qZ ?_; refine qv (by assumption) e_3 (by with_unfolding_all exact rfl) ?_)
            refine qJ (zU (α := α) (by omega) H16 A16.good bu.1) ?_
            rintro _ h17 ⟨D17, E21, A17, H17⟩
            with_reducible (refine qF ?_)
            exact qz ⟨_, _, _, fun k => (E20 k).trans (E21 _), A17.good, H17.sub (.cons .here (.cons .here (.cons .here (.drop .refl))))⟩
          | false =>
            with_reducible (refine qK ?_; refine qC ?_; refine qZ ?_; refine qv (by assumption) e_1 (by with_unfolding_all exact rfl) ?_; refine jC (by omega) ?_)
            rw [show ((way2.length : Nat) : Int) - ((1 : Nat) : Int) = ((way2.length - 1 : Nat) : Int) by omega]
            refine XL (H16.sel e_2) (by omega) (show way2.length - 1 ≤ way2.length by omega) fun v17 H17 => ?_
            have o17 := H17.one .here
            with_reducible (refine qC ?_; refine qZ ?_)
            refine jw H17 (b := t) e_2 o17 (by simp) fun h18 H18 => ?_
            have hlen : (way2.take (way2.length - 1)).length = way2.length - 1 := by rw [List.length_take]; omega
            have H18 : HS g h18 (TrC t d root v17 :: zE v17 (way2.take (way2.length - 1)) :: DrC d D16 :: qg b5 [.int .i64 ua, .int .i64 us] :: R) := by
              have H19 : HS g h18 (TrC t d root v17 :: qR 140 2 (way2.length - 1) v17 ((way2.flatMap yy).take ((way2.length - 1) * 2)) :: DrC d D16 :: qg b5 [.int .i64 ua, .int .i64 us] :: R) := H18
              rw [UA] at H19
              unfold zE
              rw [hlen]
              exact H19
            exact hih m _ _ (by omega) ⟨way2.take (way2.length - 1), v17, D16, rfl, E20, A16.good, O.take, by omega, by omega, by omega, H18.sub (.cons e_2 (.cons .here (.cons .here (.drop .refl))))⟩
end Go.Proofs.YtpohfcljfemhlaaGreat.arenaParts
namespace Go.Proofs.YtpohfcljfemhlaaGreat.arenaParts
open Go Go.Ae arenaPlays
set_option maxRecDepth 100000
variable {g h : AH} {L R : List SP} {α : Type}
theorem qVM {n : Nat} (hn : 19 ≤ n) {t d : Nat} {D : DM} {root a : Int} {wv : AV} {way : List ji} {sz : Nat} (H : HS g h (DrC d D :: TrC t d root wv :: zE wv way :: R)) (G : jX D sz 5) (O : OkW way) (hl : way.length ≤ 10000) (hs : D.stp ≤ 10000) (ha : 0 ≤ a ∧ a ≤ 2147483648) :
    wp (qy tab qI n (.fn 74 [] []) [.ptr t 0, .int .i64 a] h) fun _ h' => ∃ (D' : DM) (wv' : AV) (way' : List ji), (∀ k : Act α, EqR (qO (QS sz root a way k) D) (qO k D')) ∧ jX D' sz 6 ∧ HS g h' (DrC d D' :: TrC t d root wv' :: zE wv' way' :: R) := by
  (refine qc (g := W74) rfl (by omega) fun k hk => ?_; show wp (S74 (qy tab qI k) _ _ _) _; unfold S74; try simp only [iI, uU, Int.ofNat_eq_natCast])
  refine z9 [] (fun s h' => ∃ (a2 : Int) (way2 : List ji) (wv2 : AV) (D2 : DM), s = (.int .i64 a2, .ptr t 0, ()) ∧ (∀ k : Act α, EqR (qO (QS sz root a way k) D) (qO (Kg sz root a2 way2 k) D2)) ∧ jX D2 sz 5 ∧ D2.stp ≤ 20000 ∧ (0 ≤ a2 ∧ a2 ≤ 2147483648) ∧ OkW way2 ∧ way2.length ≤ 20000 ∧
      HS g h' (DrC d D2 :: TrC t d root wv2 :: zE wv2 way2 :: R)) ?_ ?_
  · intro j hj
    refine qJ (zz (α := α) (by omega) H G ha) ?_
    rintro _ h1 ⟨l, D1, rfl, E1, A1, b1, H1⟩
    have q1 := A1.stp
    by_cases hl0 : l = 0
    · refine jP hl0 ?_
      with_reducible (refine qk ?_; (try dsimp only); refine jg ?_; (try dsimp only); refine qT ?_; refine qK ?_)
      exact hj _ _ ⟨a, way, wv, D1, rfl, fun k => (E1 _).trans (by rw [if_pos hl0]; exact EqR.refl _), A1.good, by omega, ha, O, by omega, H1⟩
    refine jt hl0 ?_
    with_reducible (refine qk ?_; (try dsimp only); refine qr ?_; (try dsimp only))
    refine qJ (zz (α := α) (by omega) H1 A1.good ha) ?_
    rintro _ h2 ⟨r, D2, rfl, E2, A2, b2, H2⟩
    have q2 := A2.stp
    have E3 : ∀ k : Act α, EqR (qO (QS sz root a way k) D) (qO (if r = 0 then Kg sz root a way k else Xn a way fun hr way2 => .read hr fun w => .take [(a, w)] (.read (hr + 1) fun x => .take [(a + 1, x)] (Kg sz root hr way2 k))) D2) := fun k => (E1 _).trans (by rw [if_neg hl0]; exact E2 _)
    by_cases hr0 : r = 0
    · refine jP hr0 ?_
      with_reducible (refine qS ?_; refine qK ?_)
      exact hj _ _ ⟨a, way, wv, D2, rfl, fun k => (E3 k).trans (by rw [if_pos hr0]; exact EqR.refl _), A2.good, by omega, ha, O, by omega, H2⟩
    refine jt hr0 ?_
    with_reducible (refine qS ?_; refine qq ?_)
    refine qJ (qZ2 (α := α) (by omega) H2 A2.good O (by omega) (by omega) ha) ?_
    rintro _ h3 ⟨hr, way3, wv3, D3, rfl, E4, G3, q3, b3, O3, l3, H3⟩
    have E5 : ∀ k : Act α, EqR (qO (QS sz root a way k) D) (qO (.read hr fun w => .take [(a, w)] (.read (hr + 1) fun x => .take [(a + 1, x)] (Kg sz root hr way3 k))) D3) := fun k => (E3 k).trans (by rw [if_neg hr0]; exact E4 _)
    clear E1 E2 E3 E4 H H1 H2
    with_reducible (refine qk ?_; (try dsimp only); refine qC ?_; refine qZ ?_; refine qv (by assumption) e_1 (by with_unfolding_all exact rfl) ?_; refine qU (by omega) ?_; refine qC ?_; refine qZ ?_; refine qv (by assumption) e_1 (by with_unfolding_all exact rfl) ?_; refine qU (by omega) ?_)
    rw [show a + ((0 : Nat) : Int) = a by omega, show hr + ((0 : Nat) : Int) = hr by omega]
    refine qJ (xO (by omega) H3 G3.g.ok) ?_
    rintro _ h4 ⟨rfl, H4⟩
    have G4 := G3.read (p := hr)
    refine qJ (xc (by omega) H4 G4.1.g.ok) ?_
    intro _ h5 H5
    have G5 := G4.1.take (cs := [(a, (zj D3 hr).1)]) (wd1 (by omega))
    refine vo H3 (b := t) e_1 rfl H4 e_1 rfl (HS.lt H3 e_1) ?_
    have q5 : (xX (zj D3 hr).2 [(a, (zj D3 hr).1)]).stp = D3.stp := stp_take.trans xK
    have E6 : ∀ k : Act α, _ := fun k => (E5 k).trans (run_read.trans run_take)
    generalize xX (zj D3 hr).2 [(a, (zj D3 hr).1)] = D5 at *
    clear H3 H4 E5
    with_reducible (refine qk ?_; (try dsimp only); refine qC ?_; refine qZ ?_; refine qv (by assumption) e_1 (by with_unfolding_all exact rfl) ?_; refine qU (by omega) ?_; refine qC ?_; refine qZ ?_; refine qv (by assumption) e_1 (by with_unfolding_all exact rfl) ?_; refine qU (by omega) ?_)
    rw [show a + ((1 : Nat) : Int) = a + 1 from rfl, show hr + ((1 : Nat) : Int) = hr + 1 from rfl]
    refine qJ (xO (by omega) H5 G5.g.ok) ?_
    rintro _ h6 ⟨rfl, H6⟩
    have G6 := G5.read (p := hr + 1)
    refine qJ (xc (by omega) H6 G6.1.g.ok) ?_
    intro _ h7 H7
    have G7 := G6.1.take (cs := [(a + 1, (zj D5 (hr + 1)).1)]) (wd1 (by omega))
    refine vo H5 (b := t) e_1 rfl H6 e_1 rfl (HS.lt H5 e_1) ?_
    have q7 : (xX (zj D5 (hr + 1)).2 [(a + 1, (zj D5 (hr + 1)).1)]).stp = D5.stp := stp_take.trans xK
    exact hj _ _ ⟨hr, way3, wv3, _, rfl, fun k => (E6 k).trans (run_read.trans run_take), G7, by omega, b3, O3, l3, H7⟩
  clear H G O hl hs ha
  rintro s h1 ⟨a2, way2, wv2, D2, rfl, E, G, hs, ha, O, hl, H⟩
  dsimp only
  refine qJ (zz (α := α) (by omega) H G ha) ?_
  rintro _ h2 ⟨o, D3, rfl, E3, A3, b3, H3⟩
  have q3 := A3.stp
  refine z9 [] (fun s h' => ∃ (only : Int) (D4 : DM), s = (.int .i64 only, .int .i64 a2, .ptr t 0, ()) ∧ (∀ k : Act α, EqR (qO (QS sz root a way k) D) (qO (ZA sz root a2 way2 only k) D4)) ∧ jX D4 sz 5 ∧ D4.stp ≤ 20000 ∧ (0 ≤ only ∧ only ≤ 2147483648) ∧
      HS g h' (DrC d D4 :: TrC t d root wv2 :: zE wv2 way2 :: R)) ?_ ?_
  · intro j hj
    by_cases ho : o = 0
    · refine jA ho (qq ?_)
      refine qJ (zz (α := α) (by omega) H3 A3.good ha) ?_
      rintro _ h4 ⟨o2, D4, rfl, E4, A4, b4, H4⟩
      have q4 := A4.stp
      exact hj _ _ ⟨o2, D4, rfl, fun k => (E k).trans ((E3 _).trans (by rw [if_pos ho]; exact E4 _)), A4.good, by omega, by omega, H4⟩
    · refine ql ho (qK ?_)
      exact hj _ _ ⟨o, D3, rfl, fun k => (E k).trans ((E3 _).trans (by rw [if_neg ho]; exact EqR.refl _)), A3.good, by omega, by omega, H3⟩
  clear E E3 A3 b3 H H3 G q3 hs
  rintro s h4 ⟨only, D4, rfl, E4, G4, q4, bo, H4⟩
  dsimp only
  refine qJ (wK (α := α) (by omega) H4 G4 ha) ?_
  rintro _ h5 ⟨wr, D5, rfl, E5, A5, H5⟩
  have q5 := A5.stp
  with_reducible (refine qC ?_; refine qZ ?_; refine qv (by assumption) e_1 (by with_unfolding_all exact rfl) ?_; refine jv (by assumption) e_2 ?_)
  refine qJ (Qo (α := α) (m := way2.length) (by omega) H5 A5.good O (by omega) (by omega) bo) ?_
  rintro _ h6 ⟨D6, E6, A6, H6⟩
  have q6 := A6.stp
  have E7 : ∀ k : Act α, _ := fun k => (E4 k).trans ((E5 _).trans (E6 _))
  clear E4 E5 E6 H4 H5
  refine z9 [] (fun s h' => ∃ (way3 : List ji) (wv3 : AV) (D7 : DM), s = (.int .i64 a2, .ptr t 0, ()) ∧ (∀ k : Act α, EqR (qO (QS sz root a way k) D) (qO (xw sz a2 k) D7)) ∧ jX D7 sz 5 ∧
      HS g h' (DrC d D7 :: TrC t d root wv3 :: zE wv3 way3 :: R)) ?_ ?_
  · intro j hj
    cases wr with
    | true =>
      refine qq ?_
      exact hj _ _ ⟨way2, wv2, D6, rfl, fun k => E7 k, A6.good, H6⟩
    | false =>
      refine qK ?_
      refine qJ (wK (α := α) (by omega) H6 A6.good bo) ?_
      rintro _ h7 ⟨ro, D7, rfl, E8, A7, H7⟩
      have q7 := A7.stp
      have E7' : ∀ k : Act α, EqR (qO (QS sz root a way k) D) (qO (xA only fun ro => if ro = true then jZ only false (xw sz a2 k) else zK root (xw sz a2 k) 2049 way2) D6) := fun k => E7 k
      have E8' : ∀ k : Act α, EqR (qO (QS sz root a way k) D) (qO (if ro = true then jZ only false (xw sz a2 k) else zK root (xw sz a2 k) 2049 way2) D7) := fun k => (E7' k).trans (E8 fun ro => if ro = true then jZ only false (xw sz a2 k) else zK root (xw sz a2 k) 2049 way2)
      clear E7 E7' E8
      cases ro with
      | true =>
        have E8 : ∀ k : Act α, EqR (qO (QS sz root a way k) D) (qO (jZ only false (xw sz a2 k)) D7) := fun k => E8' k
        refine qq ?_
        refine qJ (zU (α := α) (by omega) H7 A7.good bo) ?_
        rintro _ h8 ⟨D8, E9, A8, H8⟩
        exact hj _ _ ⟨way2, wv2, D8, rfl, fun k => (E8 k).trans (E9 _), A8.good, H8⟩
      | false =>
        have E8 : ∀ k : Act α, EqR (qO (QS sz root a way k) D) (qO (zK root (xw sz a2 k) 2049 way2) D7) := fun k => E8' k
        refine qK ?_
        refine qJ (Vl (α := α) (by omega) H7 A7.good O hl (by omega)) ?_
        rintro _ h8 ⟨D8, wv8, way8, E9, G8, H8⟩
        exact hj _ _ ⟨way8, wv8, D8, rfl, fun k => (E8 k).trans (E9 _), G8, H8⟩
  rintro s h7 ⟨way3, wv3, D7, rfl, E8, G7, H7⟩
  dsimp only
  with_reducible (refine qC ?_; refine qZ ?_; refine qv (by assumption) e_1 (by with_unfolding_all exact rfl) ?_)
  refine qJ (qQi (by omega) H7 G7) ?_
  intro _ h8 H8
  have G8 := G7.free (b := a2) (by omega)
  with_reducible (refine qF ?_)
  exact qz ⟨_, wv3, way3, fun k => (E8 k).trans (by rw [← G7.sz]; exact qJF), G8, H8⟩
end Go.Proofs.YtpohfcljfemhlaaGreat.arenaParts
namespace Go.Proofs.YtpohfcljfemhlaaGreat.arenaParts
open Go Go.Ae arenaPlays
set_option maxRecDepth 100000
variable {g h : AH} {L R : List SP}
theorem qQ6 {D : DM} {sz : Nat} (G : jX D sz 6) : jX D sz 10 := ⟨G.g, G.sz, by have := G.fr; omega, G.st⟩
theorem qJd {n : Nat} (hn : 22 ≤ n) {d br bk bf : Nat} {P0 : SP} {D : DM} {root key : Int} {sz : Nat} (H : HS g h (DrC d D :: P0 :: qg bf [.bool false] :: qg bk [.int .u64 key] :: qg br [.int .i64 root] :: R)) (G : jX D sz 5) (hs : D.stp = 0) :
    wp (qy tab qI n (.fn 73 [] [.ptr br 0, .ptr bk 0, .ptr bf 0]) [.ptr d 0] h) fun _ h2 => ∃ (o : Option Bool) (D' : DM), EqR (qO (vF sz root key) D) (o, D') ∧ jX D' sz 10 ∧ HS g h2 (DrC d D' :: P0 :: BoxF bf o :: qg bk [.int .u64 key] :: qg br [.int .i64 root] :: R) := by
  refine Xt (g := W73) rfl (by omega) fun k hk => ?_
  show wp (S73 (qy tab qI k) _ _ _ _ _) _
  unfold S73
  try simp only [iI, uU, Int.ofNat_eq_natCast]
  refine qv H e_4 rfl ?_
  refine qh (l := [.ptr d 0, .int .i64 root, .nils]) rfl ?_
  refine jk H rfl fun t h1 H1 => ?_
  have H1 : HS g h1 (DrC d D :: TrC t d root .nils :: P0 :: qg bf [.bool false] :: qg bk [.int .u64 key] :: qg br [.int .i64 root] :: R) := H1.sub (.cons e_1 (.cons .here .refl))
  refine qv H1 e_4 rfl ?_
  refine qJ (KT (α := Bool) (by omega) H1 G hs) ?_
  rintro _ h2 ⟨a, way, wv, D2, rfl, E2, G2, st2, ba, O, hwl, H2⟩
  have E2 : EqR (qO (vF sz root key) D) (qO (if a ≠ 0 then QS sz root a way (.ret true) else .ret false) D2) := E2 _
  have fin : ∀ {b : Bool} {o : Option Bool} {D' : DM} {h' : AH} {wv' : AV} {way' : List ji}, EqR (qO (vF sz root key) D) (o, D') → (o = none ∨ o = some b) → jX D' sz 10 → HS g h' (DrC d D' :: TrC t d root wv' :: zE wv' way' :: P0 :: qg bf [.bool b] :: qg bk [.int .u64 key] :: qg br [.int .i64 root] :: R) →
      ∃ (o : Option Bool) (D' : DM), EqR (qO (vF sz root key) D) (o, D') ∧ jX D' sz 10 ∧ HS g h' (DrC d D' :: P0 :: BoxF bf o :: qg bk [.int .u64 key] :: qg br [.int .i64 root] :: R) := by
    intro b o D' h' wv' way' E ho G H
    refine ⟨o, D', E, G, ?_⟩
    exact (BoxF.I ho (H.sub (L' := qg bf [.bool b] :: DrC d D' :: P0 :: qg bk [.int .u64 key] :: qg br [.int .i64 root] :: R) (.cons e_4 (.cons .here (.drop (.drop (.cons .here .refl))))))).sub (.cons e_1 (.cons e_1 (.cons .here .refl)))
  clear H H1
  by_cases ha : a = 0
  · rw [if_neg (by omega), gl] at E2
    refine jP ha ?_
    with_reducible (refine qk ?_; (try dsimp only); refine jg ?_; (try dsimp only); refine qT ?_; refine qK ?_)
    exact qz (fin E2 Yy (wP G2) H2)
  rw [if_pos ha] at E2
  refine jt ha ?_
  with_reducible (refine qk ?_; (try dsimp only); refine qr ?_; (try dsimp only))
  refine qJ (wc (by omega) H2) ?_
  rintro _ h3 ⟨rfl, rfl⟩
  by_cases he : D2.err = 0
  rotate_left
  · rw [decide_eq_false he]
    with_reducible (refine qS ?_; refine qK ?_)
    exact qz (fin (o := none) (E2.trans (EqR.err1 rfl he ⟨rfl, rfl⟩)) (.inl rfl) (wP G2) H2)
  rw [decide_eq_true he]
  with_reducible (refine qS ?_; refine qq ?_)
  refine qJ (qVM (α := Bool) (by omega) H2 G2 O (by omega) (by omega) (by omega)) ?_
  rintro _ h4 ⟨D4, wv4, way4, E4, G4, H4⟩
  have E5 := E2.trans (E4 _)
  rw [gl] at E5
  refine jw H4 (b := bf) e_4 ⟨rfl, rfl⟩ (by simp) fun h5 H5 => ?_
  have H5 : HS g h5 (qg bf [.bool true] :: DrC d D4 :: TrC t d root wv4 :: zE wv4 way4 :: P0 :: qg bk [.int .u64 key] :: qg br [.int .i64 root] :: R) := H5
  exact qz (fin (b := true) E5 Yy (qQ6 G4) (H5.sub (.cons e_1 (.cons e_1 (.cons e_1 (.cons e_1 (.cons .here .refl)))))))
theorem qZu {n : Nat} (hn : 26 ≤ n) {v : Nat} {M : VM} {root key : Int} (H : HS g h (ViewC v M :: R)) (G : jD M) (hfr : frS M.lv ≤ 40000) (hr : 6 ≤ root ∧ root < 14) :
    wp (qy tab qI n (.fn 40 [] []) [.ptr v 0, .int .i64 root, .int .u64 key] h) fun r h' => ((doG M (vF M.sz root key)).1 = 0 → ∀ b, (qO (vF M.sz root key) ⟨ofV M, 0, 0⟩).1 = some b → r = .tup [.bool b, .int .i64 0]) ∧
      ((doG M (vF M.sz root key)).1 ≠ 0 → r = .tup [.bool false, .int .i64 (doG M (vF M.sz root key)).1]) ∧ (jD (doG M (vF M.sz root key)).2 ∧ frS (doG M (vF M.sz root key)).2.lv ≤ frS M.lv + 10) ∧ HS g h' (ViewC v (doG M (vF M.sz root key)).2 :: R) := by
  (refine qc (g := W40) rfl (by omega) fun k hk => ?_; show wp (S40 (qy tab qI k) _ _ _ _) _; unfold S40; try simp only [iI, uU, Int.ofNat_eq_natCast])
  refine jT H ⟨rfl, rfl⟩ fun br h1 H1 => ?_
  refine jT H1 ⟨rfl, rfl⟩ fun bk h2 H2 => ?_
  refine jT H2 ⟨rfl, rfl⟩ fun bf h4 H4 => ?_
  refine jw H4 (b := bf) .here ⟨rfl, rfl⟩ (by simp) fun h5 H5 => ?_
  have H5 : HS g h5 (qg bf [.bool false] :: qg bk [.int .u64 key] :: qg br [.int .i64 root] :: ViewC v M :: R) := H5
  refine qv H5 e_2 rfl ?_
  have GD := gW G
  refine qJ (w7 (act := vF M.sz root key) (R1 := qg bf [.bool false] :: qg bk [.int .u64 key] :: qg br [.int .i64 root] :: R) (R2 := fun o => BoxF bf o :: qg bk [.int .u64 key] :: qg br [.int .i64 root] :: R) (by omega) (H5.sub (.cons e_3 (.cons .here (.cons .here (.cons .here .refl))))) G hfr hr ?_) ?_
  · intro m h6 d hm3 H6
    exact wp.mono (qJd (by omega) H6 GD rfl) fun v h4 hq => hq
  rintro _ h6 ⟨rfl, GG, H6⟩
  generalize (qO (vF M.sz root key) ⟨ofV M, 0, 0⟩).1 = o at *
  generalize doG M (vF M.sz root key) = X at *
  obtain ⟨e, M2⟩ := X
  dsimp only at *
  have fin : ∀ {b : Bool}, HS g h6 (qg bf [.bool b] :: ViewC v M2 :: qg bk [.int .u64 key] :: qg br [.int .i64 root] :: R) → (∀ b', o = some b' → b' = b) →
      wp (qW h6 (.ptr bf 0) fun v12 => qb (α := AV × AV × AV × Unit → AH → Go.Ae.R) (fun s13 h14 => jz s13.2.1 s13.1 (.bool false) fun v16 => some ((.tup [v16, s13.2.2.1]), h14)) fun j15 =>
        jG v12 true (qA .eql (.int .i64 e) (.int .i64 ((0 : Nat) : Int)) fun v17 => j15 (v17, v12, .int .i64 e, ()) h6) (j15 (.undef, v12, .int .i64 e, ()) h6)) fun r h' =>
      (e = 0 → ∀ b, o = some b → r = .tup [.bool b, .int .i64 0]) ∧ (e ≠ 0 → r = .tup [.bool false, .int .i64 e]) ∧ (jD M2 ∧ frS M2.lv ≤ frS M.lv + 10) ∧ HS g h' (ViewC v M2 :: R) := by
    intro b H ho
    have HR : HS g h6 (ViewC v M2 :: R) := H.sub (.cons e_1 (.drop (.drop (.drop .refl))))
    refine qv H .here rfl ?_
    cases b with
    | false =>
      refine qk ?_
      refine jg ?_
      refine qz ⟨fun he b' hb => ?_, fun _ => rfl, GG, HR⟩
      rw [ho b' hb, he]
    | true =>
      refine qk ?_
      refine qr ?_
      by_cases he : e = 0
      · refine jA he ?_
        refine qz ⟨fun he b' hb => ?_, fun h => absurd he h, GG, HR⟩
        rw [ho b' hb, he]
      · refine ql he ?_
        exact qz ⟨fun h => absurd h he, fun _ => rfl, GG, HR⟩
  cases o with
  | none =>
    have H7 := HS.exE (H6.sel (P := BoxF bf none) e_1)
    obtain ⟨b, H7⟩ := H7
    exact fin H7 (fun b' h => by cases h)
  | some b =>
    have H7 : HS g h6 (qg bf [.bool b] :: ViewC v M2 :: qg bk [.int .u64 key] :: qg br [.int .i64 root] :: R) := (H6.sel (P := BoxF bf (some b)) e_1)
    exact fin H7 (fun b' h => by cases h; rfl)
end Go.Proofs.YtpohfcljfemhlaaGreat.arenaParts
namespace Go.Proofs.YtpohfcljfemhlaaGreat
open Go Go.Ae
set_option maxRecDepth 100000
def zL (c : Int × Int) : List AV := [.int .u64 c.1, .int .u64 c.2]
theorem qZ5 (x y : Int × Int) : zB [.bas .int 0, .bas .int 1] (zL x) (zL y) = some (decide (x = y)) := by
  obtain ⟨a, b⟩ := x
  obtain ⟨a', b'⟩ := y
  show (bif ieq a a' then (bif ieq b b' then some true else some false) else some false) = _
  rw [w6, w6]
  by_cases h1 : a = a' <;> by_cases h2 : b = b' <;> simp [h1, h2]
theorem ZQ {D1 D2 : Nat → Prop} {n p q : Nat} (hn : 1 ≤ n) {a b : AV} {xs ys : List (Int × Int)} {h : AH} (S1 : Sl D1 h 2 p a (xs.flatMap zL)) (S2 : Sl D2 h 2 q b (ys.flatMap zL)) (hp : p < 100000000) :
    wp (qy tab qI n (.fn 33 [] []) [a, b] h) fun v h' => v = .bool (decide (xs = ys)) ∧ h' = h := by
  have hxl : xs.length = p := by
    have := S1.len
    rw [kz (sz := 2) zL (fun _ => rfl)] at this
    omega
  have hyl : ys.length = q := by
    have := S2.len
    rw [kz (sz := 2) zL (fun _ => rfl)] at this
    omega
  (refine qc (g := W33) rfl (by omega) fun k hk => ?_; show wp (S33 (qy tab qI k) _ _ _) _; unfold S33; try simp only [iI, uU, Int.ofNat_eq_natCast])
  refine zi S1 (zi S2 (x7 (fun hne => ?_) fun heq => ?_))
  · refine qq (qz ⟨?_, rfl⟩)
    rw [decide_eq_false]
    rintro rfl
    exact hne (by omega)
  · refine qK (jR (fun m s g => ∃ i : Nat, s = (.int .i64 (i : Int), b, a, ()) ∧ i ≤ p ∧ m = p - i ∧ g = h ∧ xs.take i = ys.take i) ?_ (m := p) (by show p < 1000000000; omega) ⟨0, rfl, by omega, by omega, rfl, rfl⟩)
    rintro m ih s g hih ⟨i, rfl, h1, rfl, rfl, h2⟩
    dsimp only
    refine zi S1 (zk (fun hlt => qq ?_) fun hge => qK (qF (qz ⟨?_, rfl⟩)))
    · have hi : i < p := by omega
      refine xx (l := zL xs[i]) S1 hi (by omega) ?_ ?_
      · rw [ym (sz := 2) zL (fun _ => rfl), List.drop_eq_getElem_cons (by omega), List.flatMap_cons]; rfl
      refine xx (l := zL ys[i]) S2 (by omega) (by omega) ?_ ?_
      · rw [ym (sz := 2) zL (fun _ => rfl), List.drop_eq_getElem_cons (by omega), List.flatMap_cons]; rfl
      refine KA (qZ5 _ _) (fun he => qK (qU (by omega) ?_)) (fun hne => qq (qF (qz ⟨?_, rfl⟩)))
      · refine hih (p - (i + 1)) _ _ (by omega) ⟨i + 1, rfl, by omega, rfl, rfl, ?_⟩
        rw [List.take_succ_eq_append_getElem (by omega), List.take_succ_eq_append_getElem (by omega), h2, he]
      · rw [decide_eq_false]
        rintro rfl
        exact hne rfl
    · rw [decide_eq_true]
      rw [List.take_of_length_le (by omega), List.take_of_length_le (by omega)] at h2
      exact h2
end Go.Proofs.YtpohfcljfemhlaaGreat
namespace Go.Proofs.YtpohfcljfemhlaaGreat
open Go Go.Ae
set_option maxRecDepth 100000
variable {g h : AH} {L R : List SP}
theorem XB {D : Nat → Prop} {sz n : Nat} {v : AV} {xs : List AV} (S : Sl D h sz n v xs) : One v := by cases S <;> exact ⟨rfl, rfl⟩
theorem gC {g' ha : AH} {b off n nx : Nat} {xs ys l : List AV} {L2 R2 : List SP} {K0 : Go.Ae.R} {Q : AV → AH → Prop} (H : HS g h L) (s : Sel L (qg b xs) R) (hx : (xs.drop off).take n = l) (H2 : HS g' ha L2) (s2 : Sel L2 (qg b ys) R2) (hx2 : (ys.drop off).take n = l) (hl : l.length = n) (h0 : 0 < n) (hlt : b < nx)
    (w : wp K0 Q) : wp (vE (.ptr b off) (some n) (.agg l) h ha nx K0) Q := by
  obtain ⟨e, A⟩ := H.obj s
  obtain ⟨e2, A2⟩ := H2.obj s2
  exact MD hl h0 (fun i hi => by rw [A.at, ← hx, List.getElem?_take_of_lt hi, List.getElem?_drop]) (fun i hi => by rw [A2.at, ← hx2, List.getElem?_take_of_lt hi, List.getElem?_drop]) hlt w
theorem vy {u x : Bool} {r : AV} {K : AV → Go.Ae.R} {Q : AV → AH → Prop} (hr : u = true → r = .bool x) (w : wp (K (.bool (u && x))) Q) : wp (jz (.bool u) r (.bool false) K) Q := by
  cases u
  · exact w
  · rw [hr rfl]; exact w
end Go.Proofs.YtpohfcljfemhlaaGreat
