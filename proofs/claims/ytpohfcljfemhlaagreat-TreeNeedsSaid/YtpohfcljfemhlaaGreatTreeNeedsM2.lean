/- Lemmas for 'quietus/quietuslaw20.TreeNeeds': A call on a draft, of which words are known or not: it goes as on the words, or asks for one of those that it may ask for; A call on a draft of a view, taken whole or not at all: the walks; Trees: what the programs calls do to a draft: the plain acts; bits of a nodes word; Trees: the walks of a nodes words: child, red, hang, paint, top, link, turn; Trees: the way down, and up again: the walks; Trees: behind a node that came: the walks of straight and raised; Trees: how deep, and what stands between two keys: the walks; A call on a draft of a view that may hold something already: the walks; Trees: Put, Get, Range, Deep: the walks; Trees: Get, Range, Deep: the walks; Trees: Deep and Range whole: the walks; TreeRuns: what its calls come to: plain; TreeRuns comes to true: its own walk, on what its calls come to; Blocks and lists of words: the plain law; The blocks of words: by the program, by the documents own text; The lists of words: by the program, by the documents own text; The blocks part the arena: the plain law of ArenaParts; Queues in a parted heap: the plain law; Trees in a parted heap: all blocks of four words: the rules; Trees with addresses: what stands in a store of nodes; colours and black heights: the plain law; Trees: the store of nodes in the words of a heap, and what reads and writes it: the plain law; Trees: what the small acts do to the store: the plain law; Trees: a turn on the store: the plain law. No condition. -/
import Derived.Test.YtpohfcljfemhlaaGreatTreeNeedsM1
import Derived.KernelRfl
namespace Go.Proofs.YtpohfcljfemhlaaGreat
open Go Go.Ae
variable {α : Type}
def Wd (zs : List Int) (sz : Nat) (C : List Cl) (W : List Int) : Prop := W.length = sz ∧ ∀ p : Nat, 0 < p → p < sz → qG W p = (jF (p : Int) C).getD (qG zs p)
def V6 (zs : List Int) (K : List Cl) : Prop := ∀ p x, jF p K = some x → x = qG zs p.toNat
def wpA (sz : Nat) (S : Int → Prop) : Act α → List Int → Nat → List Int → Int → (Option α → Int → List Int → List Int → Prop) → Prop
  | .ret a, W, _, F, _, Q => Q (some a) 0 W F
  | .fail e, W, _, F, _, Q => e ≠ 0 ∧ e ≠ 11 ∧ Q none e W F
  | .read p k, W, r, F, s, Q => (1 ≤ p ∧ p < (sz : Int) ∧ S p) ∧ wpA sz S (k (qG W p.toNat)) W r F s Q
  | .take cs k, W, r, F, s, Q => (∀ c ∈ cs, 1 ≤ c.1 ∧ c.1 < (sz : Int) ∧ S c.1) ∧ r + cs.length ≤ 96 ∧ wpA sz S k (cs.foldl zp W) (r + cs.length) F s Q
  | .note b k, W, r, F, s, Q => wpA sz S k W r (F ++ [b]) s Q
  | .step k, W, r, F, s, Q => s + 1 ≤ 2048 ∧ wpA sz S k W r F (s + 1) Q
theorem Wd.put {zs : List Int} {sz : Nat} {C : List Cl} {W : List Int} {a x : Int} (h : Wd zs sz C W) (ha : 1 ≤ a ∧ a < (sz : Int)) : Wd zs sz (zo a x C) (zp W (a, x)) := by
  refine ⟨by rw [kx]; exact h.1, fun p h0 hp => ?_⟩
  rw [wa, Jv, h.1]
  by_cases e : a = (p : Int)
  · rw [if_pos ⟨e, ha.1, by omega⟩, if_pos e.symm]; rfl
  · rw [if_neg (fun h' => e h'.1), if_neg (fun h' => e h'.symm)]
    exact h.2 p h0 hp
theorem Wd.puts {zs : List Int} {sz : Nat} : ∀ {cs C : List Cl} {W : List Int}, Wd zs sz C W → (∀ c ∈ cs, 1 ≤ c.1 ∧ c.1 < (sz : Int)) → Wd zs sz (zy C cs) (cs.foldl zp W) := by
  intro cs
  induction cs with
  | nil => intro C W h _; exact h
  | cons c cs ih => intro C W h hc; exact ih (h.put (hc c (List.mem_cons_self ..))) fun d hd => hc d (List.mem_cons_of_mem _ hd)
theorem qJ6 {p v : Int} {c : Cl} : ∀ {l : List Cl}, c ∈ zo p v l → c ∈ l ∨ c = (p, v) := by
  intro l
  induction l with
  | nil => intro h; exact .inr (List.mem_singleton.1 h)
  | cons d l ih =>
    intro h
    unfold zo at h
    split at h
    · rcases List.mem_cons.1 h with h | h
      · exact .inr h
      · exact .inl (List.mem_cons_of_mem _ h)
    · rcases List.mem_cons.1 h with h | h
      · exact .inl (by rw [h]; exact List.mem_cons_self ..)
      · exact (ih h).imp (List.mem_cons_of_mem _) id
theorem Zn {c : Cl} : ∀ {cs l : List Cl}, c ∈ zy l cs → c ∈ l ∨ ∃ d ∈ cs, d.1 = c.1 := by
  intro cs
  induction cs with
  | nil => intro l h; exact .inl h
  | cons d cs ih =>
    intro l h
    rcases ih h with h | ⟨e, he, h⟩
    · rcases qJ6 h with h | h
      · exact .inl h
      · exact .inr ⟨d, List.mem_cons_self .., by rw [h]⟩
    · exact .inr ⟨e, List.mem_cons_of_mem _ he, h⟩
def lvV (sz : Nat) (K C : List Cl) (F : List Int) (nd : Int) : VM := ⟨sz, K, 96, [(C, F)], nd⟩
theorem KH {sz : Nat} {K C : List Cl} {F : List Int} {nd : Int} {cs : List Cl} (hs : sz ≤ 256) (hi : ∀ c ∈ cs, 1 ≤ c.1 ∧ c.1 < (sz : Int)) (hl : C.length + cs.length ≤ 96) :
    jw (lvV sz K C F nd) cs = (0, lvV sz K (zy C cs) F nd) := by
  unfold jw
  rw [if_pos (show ∀ c ∈ cs, 1 ≤ c.1 ∧ c.1 < ((lvV sz K C F nd).sz : Int) from hi)]
  rw [show x5 (lvV sz K C F nd).most (lvV sz K C F nd).lv (lvV sz K C F nd).lv cs = (0, [(zy C cs, F)]) from GY (fun c hc => by have := hi c hc; omega) hl]; rfl
theorem KY {sz : Nat} {K C : List Cl} {F : List Int} {nd p : Int} (hp : 1 ≤ p ∧ p < (sz : Int)) : qM (lvV sz K C F nd) p = match jF p C with
    | some x => ((x, 0), lvV sz K C F nd)
    | none => match jF p K with
      | some x => ((x, 0), lvV sz K C F nd)
      | none => ((0, 11), lvV sz K C F p) := by
  unfold qM
  rw [if_pos (show 1 ≤ p ∧ p < ((lvV sz K C F nd).sz : Int) from hp)]
  have hL : kF p (lvV sz K C F nd).lv = jF p C := by
    show (match jF p C with | some v => some v | none => kF p []) = _
    cases jF p C <;> rfl
  rw [hL]
  rfl
theorem Xx {zs : List Int} {sz : Nat} {S : Int → Prop} (hs : sz ≤ 256) : ∀ {a : Act α} {W : List Int} {r : Nat} {C : List Cl} {F : List Int} {s : Int} {Q : Option α → Int → List Int → List Int → Prop},
    wpA sz S a W r F s Q → Wd zs sz C W → C.length ≤ r → UnC C → InC C → r ≤ 96 →
    ∃ o e W' C' F' s', e ≠ 11 ∧ (e = 0 → o.isSome) ∧ Q o e W' F' ∧ Wd zs sz C' W' ∧ UnC C' ∧ InC C' ∧ C'.length ≤ 96 ∧ (e = 0 → ∀ c ∈ C', c ∈ C ∨ S c.1) ∧ ∀ K nd, V6 zs K →
      ((∃ C'' F'' q s'', qO a ⟨lvV sz K C F nd, 0, s⟩ = (none, ⟨lvV sz K C'' F'' q, 11, s''⟩) ∧ 1 ≤ q ∧ q < (sz : Int) ∧ S q ∧ jF q K = none) ∨
      qO a ⟨lvV sz K C F nd, 0, s⟩ = (o, ⟨lvV sz K C' F' nd, e, s'⟩)) := by
  intro a
  induction a with
  | ret a =>
    intro W r C F s Q h hW hr hu hi hr2
    exact ⟨some a, 0, W, C, F, s, by omega, fun _ => rfl, h, hW, hu, hi, by omega, fun _ c hc => .inl hc, fun K nd hK => .inr rfl⟩
  | fail e =>
    intro W r C F s Q h hW hr hu hi hr2
    exact ⟨none, e, W, C, F, s, h.2.1, fun he => absurd he h.1, h.2.2, hW, hu, hi, by omega, fun he => absurd he h.1, fun K nd hK => .inr rfl⟩
  | read p k ih =>
    intro W r C F s Q h hW hr hu hi hr2
    obtain ⟨⟨p1, p2, p3⟩, h⟩ := h
    have hw := hW.2 p.toNat (by omega) (by omega)
    rw [show ((p.toNat : Nat) : Int) = p by omega] at hw
    obtain ⟨o, e, W', C', F', s', q1, q2, q3, q4, q5, q6, q7, q9, q8⟩ := ih _ h hW hr hu hi hr2
    refine ⟨o, e, W', C', F', s', q1, q2, q3, q4, q5, q6, q7, q9, fun K nd hK => ?_⟩
    rw [qO, if_neg (by simp)]
    dsimp only
    rw [KY ⟨p1, p2⟩]
    cases hc : jF p C with
    | some x =>
      rw [hc] at hw
      have hx : x = qG W p.toNat := hw.symm
      subst hx
      dsimp only
      rw [if_pos rfl]
      exact q8 K nd hK
    | none =>
      rw [hc] at hw
      cases hk : jF p K with
      | some x =>
        have hx : x = qG W p.toNat := (hK p x hk).trans hw.symm
        subst hx
        dsimp only
        rw [if_pos rfl]
        exact q8 K nd hK
      | none =>
        dsimp only
        rw [if_neg (by omega)]
        exact .inl ⟨C, F, p, s, rfl, p1, p2, p3, hk⟩
  | take cs k ih =>
    intro W r C F s Q h hW hr hu hi hr2
    obtain ⟨h1, h2, h3⟩ := h
    have hin : ∀ c ∈ cs, 1 ≤ c.1 ∧ c.1 < (sz : Int) := fun c hc => ⟨(h1 c hc).1, (h1 c hc).2.1⟩
    have hlen := JV (cs := cs) (l := C)
    obtain ⟨o, e, W', C', F', s', q1, q2, q3, q4, q5, q6, q7, q9, q8⟩ := ih h3 (hW.puts hin) (by omega) (hu.puts (cs := cs)) (hi.puts (fun c hc => by have := hin c hc; omega)) h2
    refine ⟨o, e, W', C', F', s', q1, q2, q3, q4, q5, q6, q7, fun he c hc => ?_, fun K nd hK => ?_⟩
    · rcases q9 he c hc with h | h
      · exact (Zn h).imp id fun h => by
          obtain ⟨d, hd, he⟩ := h
          rw [← he]; exact (h1 d hd).2.2
      · exact .inr h
    rw [qO, if_neg (by simp)]
    dsimp only
    rw [KH hs hin (by omega)]
    dsimp only
    rw [if_pos rfl]
    exact q8 K nd hK
  | note b k ih =>
    intro W r C F s Q h hW hr hu hi hr2
    obtain ⟨o, e, W', C', F', s', q1, q2, q3, q4, q5, q6, q7, q9, q8⟩ := ih (F := F ++ [b]) h hW hr hu hi hr2
    refine ⟨o, e, W', C', F', s', q1, q2, q3, q4, q5, q6, q7, q9, fun K nd hK => ?_⟩
    rw [qO, if_neg (by simp)]
    rcases q8 K nd hK with ⟨C'', F'', q, s'', h1, h2⟩ | h1
    · exact .inl ⟨C'', F'', q, s'', h1, h2⟩
    · exact .inr h1
  | step k ih =>
    intro W r C F s Q h hW hr hu hi hr2
    obtain ⟨o, e, W', C', F', s', q1, q2, q3, q4, q5, q6, q7, q9, q8⟩ := ih h.2 hW hr hu hi hr2
    refine ⟨o, e, W', C', F', s', q1, q2, q3, q4, q5, q6, q7, q9, fun K nd hK => ?_⟩
    rw [qO, if_neg (by simp)]
    dsimp only
    rw [if_neg (by have := h.1; omega)]
    exact q8 K nd hK
end Go.Proofs.YtpohfcljfemhlaaGreat
namespace Go.Proofs.YtpohfcljfemhlaaGreat
open Go Go.Ae
set_option maxRecDepth 100000
variable {g h : AH} {L R : List SP}
theorem Y5 : ∀ {l : List Cl} {c : Cl}, UnC l → c ∈ l → jF c.1 l = some c.2 := by
  intro l
  induction l with
  | nil => intro c _ h; cases h
  | cons d l ih =>
    intro c hu hc
    unfold UnC at hu
    rw [List.map_cons, List.nodup_cons] at hu
    unfold jF
    rcases List.mem_cons.1 hc with rfl | hc
    · rw [if_pos rfl]
    · rw [if_neg (fun h => hu.1 (by rw [h]; exact List.mem_map.2 ⟨c, hc, rfl⟩))]
      exact ih hu.2 hc
theorem Gv {n : Nat} (hn : 1 ≤ n) {v : Nat} {M : VM} (H : HS g h (ViewC v M :: R)) (O : OkV M) :
    wp (qw tab qI n (.fn 21 [] []) [.ptr v 0] h) fun r h' => HS g h' (qS 48 2 M.K.length r (M.K.flatMap jO) :: ViewC v M :: R) := by
  (refine qc (g := W21) rfl (by omega) fun k hk => ?_; show wp (S21 (qw tab qI k) _ _) _; unfold S21; try simp only [iI, uU, Int.ofNat_eq_natCast])
  obtain ⟨fv, ov, q, e, H⟩ := ViewC.E H
  have hkl := O.klen
  with_reducible (refine qC ?_; refine qZ ?_; refine qv (by assumption) .here (by with_unfolding_all exact rfl) ?_; refine jg (by assumption) e_2 ?_)
  refine Jq (ln := 0) (cp := M.K.length) (sz := 2) H rfl (by omega) (by omega) fun kv h1 H1 => ?_
  rw [Nat.zero_mul, List.take_zero] at H1
  with_reducible (refine qC ?_; refine qZ ?_; refine qv (by assumption) e_1 (by with_unfolding_all exact rfl) ?_; refine jg (by assumption) e_3 ?_)
  refine jh (fun m s h' => ∃ (i : Nat) (kv : AV), s = (.int .i64 (i : Int), .int .i64 (M.K.length : Int), ov, kv, .ptr v 0, ()) ∧ i ≤ M.K.length ∧ m = M.K.length - i ∧
    HS g h' (qS 48 2 i kv ((M.K.take i).flatMap jO) :: qg v [fv, ov, .ptr q 0, .int .i64 M.need] :: qS e 2 M.sz fv ((xq M.sz M.K).flatMap wG) ::
      qS 3 1 M.K.length ov (M.K.map fun c => .int .i64 c.1) :: LgC q M.most M.lv :: R))
    ?_ (m := M.K.length) (by show _ < 1000000000; omega) ⟨0, kv, rfl, by omega, by omega, by rw [List.take_zero]; exact H1⟩
  clear H H1
  rintro m ih s h2 hih ⟨i, kv, rfl, hi, rfl, H⟩
  dsimp only
  by_cases hlt : i < M.K.length
  · have hci : M.K[i]? = some M.K[i] := List.getElem?_eq_getElem hlt
    have hin := O.ins M.K[i] (List.getElem_mem hlt)
    have hg := Y5 O.un (List.getElem_mem hlt)
    have hnext : M.K.take (i + 1) = M.K.take i ++ [M.K[i]] := List.take_succ_eq_append_getElem hlt
    generalize hc : M.K[i] = c at *
    obtain ⟨p, x⟩ := c
    dsimp only at hin hg
    obtain ⟨p, rfl⟩ : ∃ j : Nat, p = (j : Int) := ⟨p.toNat, by omega⟩
    with_reducible (refine xg (by omega) ?_; refine qx ?_)
    refine xe (H.sl e_3) (x := .int .i64 (p : Int)) (by rw [List.getElem?_map, hci]; rfl) ?_
    with_reducible (refine qC ?_; refine qZ ?_; refine qv (by assumption) e_1 (by with_unfolding_all exact rfl) ?_)
    have hf : yS M.K p = (x, true) := by unfold yS; rw [hg]
    refine xF (x := .int .u64 x) (H.sl e_2) (by omega) (by omega) (by rw [yT (sz := 2) wG (fun _ => rfl) _ _ _ (by omega), gB (by omega), hf]; rfl) ?_
    with_reducible (refine ql (by with_unfolding_all exact rfl) ?_)
    refine jp (n := 1) (l := [.int .i64 (p : Int), .int .u64 x]) (sz := 2) H rfl rfl rfl rfl fun v5 h5 H5 => ?_
    refine z4 (H5.sel e_1) (H5.sl .here) (by omega) (by omega) rfl fun v6 h6 H6 => ?_
    with_reducible (refine qU (by omega) ?_)
    refine hih (M.K.length - (i + 1)) _ _ (by omega) ⟨i + 1, v6, rfl, by omega, rfl, ?_⟩
    rw [hnext, List.flatMap_append]
    exact H6.sub (.cons .here (.drop .refl))
  · obtain rfl : i = M.K.length := by omega
    with_reducible (refine zB (by omega) ?_; refine qK ?_; refine qE ?_)
    rw [List.take_length] at H
    have H2 : HS g h2 (qg v [fv, ov, .ptr q 0, .int .i64 M.need] :: qS e 2 M.sz fv ((xq M.sz M.K).flatMap wG) :: qS 3 1 M.K.length ov (M.K.map fun c => .int .i64 c.1) :: LgC q M.most M.lv ::
      qS 48 2 M.K.length kv (M.K.flatMap jO) :: R) := H.sub (.cons e_1 (.cons e_1 (.cons e_1 (.cons e_1 .refl))))
    exact qz ((ViewC.I H2).sub (.cons e_1 .refl))
def doR {α : Type} (M : VM) (act : Act α) : Int × VM :=
  if (qO act ⟨lvV M.sz M.K [] [] 0, 0, 0⟩).2.err = 11 then ((qM M (qO act ⟨lvV M.sz M.K [] [] 0, 0, 0⟩).2.M.need).1.2, (qM M (qO act ⟨lvV M.sz M.K [] [] 0, 0, 0⟩).2.M.need).2)
  else if (qO act ⟨lvV M.sz M.K [] [] 0, 0, 0⟩).2.err ≠ 0 then ((qO act ⟨lvV M.sz M.K [] [] 0, 0, 0⟩).2.err, M)
  else if (jw M (jY (qO act ⟨lvV M.sz M.K [] [] 0, 0, 0⟩).2.M.lv)).1 ≠ 0 then jw M (jY (qO act ⟨lvV M.sz M.K [] [] 0, 0, 0⟩).2.M.lv)
  else (0, (zE (qO act ⟨lvV M.sz M.K [] [] 0, 0, 0⟩).2.M.lv).foldl freeV (jw M (jY (qO act ⟨lvV M.sz M.K [] [] 0, 0, 0⟩).2.M.lv)).2)
theorem Jd : ∀ {lv : List LvM} {out : List Cl}, (lv.foldl (fun out x => zy x.1 out) out).length ≤ out.length + xK lv := by
  intro lv
  induction lv with
  | nil => intro out; exact Nat.le_refl _
  | cons x r ih =>
    intro out
    have h1 := ih (out := zy x.1 out)
    have h2 := JV (cs := out) (l := x.1)
    rw [xj]
    show (r.foldl _ (zy x.1 out)).length ≤ _
    omega
theorem NJ : ∀ {lv : List LvM}, (zE lv).length = frS lv := by
  intro lv
  induction lv with
  | nil => rfl
  | cons x r ih =>
    unfold zE at ih ⊢
    rw [List.reverse_cons, List.flatMap_append, List.length_append, ih, yM]
    simp
    omega
end Go.Proofs.YtpohfcljfemhlaaGreat
namespace Go.Proofs.YtpohfcljfemhlaaGreat.arenaParts
open Go Go.Ae arenaPlays
set_option maxRecDepth 100000
theorem bvi {a : Int} (h : 0 ≤ a ∧ a < 18446744073709551616) : (BitVec.ofInt 64 a).toNat = a.toNat := by
  rw [BitVec.toNat_ofInt, show ((2 ^ 64 : Nat) : Int) = 18446744073709551616 from rfl, Int.emod_eq_of_lt h.1 h.2]
theorem KF {a : Int} {K : AV → Go.Ae.R} {Q : AV → AH → Prop} (h : 0 ≤ a ∧ a < 18446744073709551616) (w : wp (K (.int .u64 (a % 2))) Q) : wp (qB .and (.int .u64 a) (.int .u64 ((1 : Nat) : Int)) K) Q := by
  rw [y0]
  simp only [vE]
  have e : ((BitVec.ofInt IntKind.u64.bits a &&& BitVec.ofInt IntKind.u64.bits ((1 : Nat) : Int)).toNat : Int) = a % 2 := by
    show (((BitVec.ofInt 64 a &&& BitVec.ofInt 64 ((1 : Nat) : Int)).toNat : Nat) : Int) = a % 2
    rw [BitVec.toNat_and, bvi h, bvi (by omega), show (((1 : Nat) : Int)).toNat = 1 from rfl, Nat.and_one_is_mod]
    omega
  rw [e, wD, show a % 2 % 18446744073709551616 = a % 2 by omega]
  exact w
theorem qKm {a b : Int} {K : AV → Go.Ae.R} {Q : AV → AH → Prop} (h : 0 ≤ a ∧ a * 2 < 18446744073709551616) (hb : 0 ≤ b ∧ b < 2) (w : wp (K (.int .u64 (a * 2 + b))) Q) : wp (qB .or (.int .u64 (a * 2)) (.int .u64 b) K) Q := by
  rw [y0]
  simp only [vE]
  have e : ((BitVec.ofInt IntKind.u64.bits (a * 2) ||| BitVec.ofInt IntKind.u64.bits b).toNat : Int) = a * 2 + b := by
    show (((BitVec.ofInt 64 (a * 2) ||| BitVec.ofInt 64 b).toNat : Nat) : Int) = a * 2 + b
    rw [BitVec.toNat_or, bvi (by omega), bvi (by omega), show (a * 2).toNat = 2 ^ 1 * a.toNat by omega, ← Nat.two_pow_add_eq_or_of_lt (by omega)]
    omega
  rw [e, wD, show (a * 2 + b) % 18446744073709551616 = a * 2 + b by omega]
  exact w
def wg (w : Int) : Int := if w % 2 = 1 then w - 1 else w + 1
theorem qZa {a : Int} {K : AV → Go.Ae.R} {Q : AV → AH → Prop} (h : 0 ≤ a ∧ a < 18446744073709551616) (w : wp (K (.int .u64 (wg a))) Q) : wp (qB .xor (.int .u64 a) (.int .u64 ((1 : Nat) : Int)) K) Q := by
  rw [y0]
  simp only [vE]
  have e : ((BitVec.ofInt IntKind.u64.bits a ^^^ BitVec.ofInt IntKind.u64.bits ((1 : Nat) : Int)).toNat : Int) = wg a := by
    show (((BitVec.ofInt 64 a ^^^ BitVec.ofInt 64 ((1 : Nat) : Int)).toNat : Nat) : Int) = wg a
    rw [BitVec.toNat_xor, bvi h, bvi (by omega), show (((1 : Nat) : Int)).toNat = 1 from rfl]
    have h1 := Nat.xor_div_two (a := a.toNat) (b := 1)
    have h0 : (1 : Nat) / 2 = 0 := rfl
    rw [h0, Nat.xor_zero] at h1
    have h2 : (a.toNat ^^^ 1) % 2 = (a.toNat % 2) ^^^ 1 := by
      have := Nat.xor_mod_two_pow (a := a.toNat) (b := 1) (n := 1)
      rwa [show 2 ^ 1 = 2 from rfl, show 1 % 2 = 1 from rfl] at this
    rcases Nat.mod_two_eq_zero_or_one a.toNat with h3 | h3 <;> rw [h3] at h2
    all_goals simp only [Nat.zero_xor, Nat.xor_self] at h2
    all_goals unfold wg
    all_goals split <;> omega
  rw [e, wD, show wg a % 18446744073709551616 = wg a by unfold wg; split <;> omega]
  exact w
theorem qJb {a : Int} (h : 0 ≤ a ∧ a < 18446744073709551616) : 0 ≤ wg a ∧ wg a < 18446744073709551616 := by unfold wg; split <;> omega
theorem qZO {a : Int} {q : IntKind} {K : AV → Go.Ae.R} {Q : AV → AH → Prop} (h : 0 ≤ a ∧ a * 2 < 18446744073709551616) (w : wp (K (.int .u64 (a * 2))) Q) : wp (xl .shl (.int .u64 a) (.int q ((1 : Nat) : Int)) K) Q := by
  refine Zb (by omega) ?_
  rw [show (2 : Int) ^ (min (((1 : Nat) : Int)).toNat IntKind.u64.bits) = 2 from rfl, MD (by omega)]
  exact w
theorem qZ6 {a : Int} {q : IntKind} {K : AV → Go.Ae.R} {Q : AV → AH → Prop} (w : wp (K (.int .u64 (a / 2))) Q) : wp (xl .shr (.int .u64 a) (.int q ((1 : Nat) : Int)) K) Q := by
  refine qK1 (by omega) ?_
  rw [show (2 : Int) ^ (min (((1 : Nat) : Int)).toNat IntKind.u64.bits) = 2 from rfl, Int.fdiv_eq_ediv_of_nonneg _ (by omega)]
  exact w
variable {α : Type}
abbrev jd := Int × Int
def Y4 (w : Int) (k : Int → Act α) : Act α := if 2147483648 ≤ w then .fail 2 else k w
def qu (at_ side : Int) (k : Int → Act α) : Act α := if at_ = 0 then .fail 2 else if side = 1 then yR (at_ + 3) k else .read (at_ + 2) fun w => Y4 (w / 2) k
def xk (at_ : Int) (k : Bool → Act α) : Act α := if at_ = 0 then k false else .read (at_ + 2) fun w => k (decide (w % 2 = 1))
def xy (at_ side c : Int) (k : Act α) : Act α := if side = 1 then .take [(at_ + 3, c)] k else .read (at_ + 2) fun w => .take [(at_ + 2, c * 2 + w % 2)] k
def jZ (at_ : Int) (red : Bool) (k : Act α) : Act α := if at_ = 0 then .fail 2 else .read (at_ + 2) fun w => if decide (w % 2 = 1) = red then k else .take [(at_ + 2, wg w)] k
def zg (way : List jd) (n : Nat) : jd := (way[n]?).getD (0, 0)
def xr (root : Int) (way : List jd) (n : Nat) (at_ : Int) (k : Act α) : Act α := match n with
  | 0 => .take [(root, at_)] k
  | m + 1 => xy (zg way m).1 (zg way m).2 at_ k
def xm (at_ side : Int) (k : Int → Act α) : Act α := qu at_ (1 - side) fun up => qu up side fun c => xy at_ (1 - side) c (xy up side at_ (k up))
def vA (key : Int) (k : Int → List jd → Act α) : Nat → Int → List jd → Act α
  | 0, a, way => if a = 0 then k 0 way else .fail 2
  | m + 1, a, way => if a = 0 then k 0 way else .step (.read a fun here => if here = key then k a way else
      qu a (if here < key then 1 else 0) fun c => vA key k m c (way ++ [(a, if here < key then 1 else 0)]))
def JY (root key : Int) (k : Int → List jd → Act α) : Act α := yR root fun a => vA key k 2049 a []
def xc (root : Int) (way : List jd) (up grand : jd) (k : Act α) : Act α :=
  let c := xm grand.1 (1 - grand.2) fun a => jZ a false (jZ grand.1 true (xr root way (way.length - 2) a k))
  if up.2 = grand.2 then c else xm up.1 grand.2 fun u => xy grand.1 grand.2 u c
def zm (root : Int) (k : Act α) : Nat → List jd → Act α
  | 0, way => if 2 ≤ way.length then .fail 2 else yR root fun a => jZ a false k
  | m + 1, way => if 2 ≤ way.length then .step (xk (zg way (way.length - 1)).1 fun r => if r = false then k else
        qu (zg way (way.length - 2)).1 (1 - (zg way (way.length - 2)).2) fun uncle => xk uncle fun ru =>
        if ru = false then xc root way (zg way (way.length - 1)) (zg way (way.length - 2)) k else
        jZ (zg way (way.length - 1)).1 false (jZ uncle false (jZ (zg way (way.length - 2)).1 true (zm root k m (way.take (way.length - 2))))))
      else yR root fun a => jZ a false k
def yg (sz : Nat) (root key x : Int) : Act Bool := JY root key fun a way =>
  if a ≠ 0 then .take [(a + 1, x)] (.ret false) else
    Jo sz 4 fun n => .take [(n, key)] (.take [(n + 1, x)] (.take [(n + 2, 1)] (.take [(n + 3, 0)] (xr root way way.length n (zm root (.ret true) 2049 way)))))
def xT (root key : Int) : Act (Int × Bool) := JY root key fun a _ => if a ≠ 0 then .read (a + 1) fun x => .ret (x, true) else .ret (0, false)
def kC (k : Int → List jd → Act α) : Nat → Int → List jd → Act α
  | 0, _, _ => .fail 2
  | m + 1, a, way => .step (qu a 0 fun nx => if nx = 0 then k a way else kC k m nx (way ++ [(a, 0)]))
def YB (a : Int) (way : List jd) (k : Int → List jd → Act α) : Act α := qu a 1 fun c => kC k 2049 c (way ++ [(a, 1)])
def YU (root : Int) (way : List jd) (up : jd) (other : Int) (k : Act α) : Act α :=
  xm up.1 up.2 fun _ => xk up.1 fun ru => jZ other ru (jZ up.1 false (qu other (1 - up.2) fun c => jZ c false (xr root way (way.length - 1) other k)))
def wy (root : Int) (way : List jd) (up : jd) (other : Int) (k : Act α) : Act α :=
  qu other (1 - up.2) fun c => xk c fun rc => if rc = false then xm other (1 - up.2) fun inner => xy up.1 (1 - up.2) inner (jZ inner false (jZ other true (YU root way up inner k)))
    else YU root way up other k
def zX (root : Int) (k : Act α) : Nat → List jd → Act α
  | 0, way => if 0 < way.length then .fail 2 else k
  | m + 1, way => if 0 < way.length then .step (
      qu (zg way (way.length - 1)).1 (1 - (zg way (way.length - 1)).2) fun other => xk other fun ro =>
      if ro = true then xm (zg way (way.length - 1)).1 (zg way (way.length - 1)).2 fun _ => jZ other false (jZ (zg way (way.length - 1)).1 true (xr root way (way.length - 1) other
        (zX root k m (way.set (way.length - 1) (other, (zg way (way.length - 1)).2) ++ [zg way (way.length - 1)]))))
      else qu other 0 fun l => xk l fun rl => if rl = true then wy root way (zg way (way.length - 1)) other k else
        qu other 1 fun r => xk r fun rr => if rr = true then wy root way (zg way (way.length - 1)) other k else
        jZ other true (xk (zg way (way.length - 1)).1 fun ru => if ru = true then jZ (zg way (way.length - 1)).1 false k else zX root k m (way.take (way.length - 1)))) else k
def O4 (sz : Nat) (root a : Int) (way : List jd) (only : Int) (k : Act α) : Act α :=
  xk a fun wasRed => xr root way way.length only (if wasRed = true then xx sz a k else xk only fun ro => if ro = true then jZ only false (xx sz a k) else zX root (xx sz a k) 2049 way)
def KJ (sz : Nat) (root a : Int) (way : List jd) (k : Act α) : Act α := qu a 0 fun o => if o = 0 then qu a 1 fun o => O4 sz root a way o k else O4 sz root a way o k
def Qc (sz : Nat) (root a : Int) (way : List jd) (k : Act α) : Act α :=
  qu a 0 fun l => if l = 0 then KJ sz root a way k else qu a 1 fun r => if r = 0 then KJ sz root a way k else
    YB a way fun hr way2 => .read hr fun w => .take [(a, w)] (.read (hr + 1) fun x => .take [(a + 1, x)] (KJ sz root hr way2 k))
def vw (sz : Nat) (root key : Int) : Act Bool := JY root key fun a way => if a ≠ 0 then Qc sz root a way (.ret true) else .ret false
abbrev qm := Int × Int
def jM (lo hi : Int) : Nat → Int → List qm → (List qm → Act α) → Act α
  | 0, a, out, k => if a = 0 then k out else .fail 2
  | m + 1, a, out, k => if a = 0 then k out else .step (.read a fun key =>
      let k2 : List qm → Act α := fun out => if key < hi then qu a 1 fun c => jM lo hi m c out k else k out
      let k1 : List qm → Act α := fun out => if lo ≤ key ∧ key ≤ hi then .read (a + 1) fun x => k2 (out ++ [(key, x)]) else k2 out
      if lo < key then qu a 0 fun c => jM lo hi m c out k1 else k1 out)
def jT (root lo hi : Int) : Act (List qm) := yR root fun a => jM lo hi 2049 a [] fun out => .ret out
def QC : Nat → Int → (Int → Act α) → Act α
  | 0, a, k => if a = 0 then k 0 else .fail 2
  | m + 1, a, k => if a = 0 then k 0 else .step (qu a 0 fun l => QC m l fun x => qu a 1 fun r => QC m r fun y => k (1 + max x y))
def wC (root : Int) : Act Int := yR root fun a => QC 2049 a fun n => .ret n
end Go.Proofs.YtpohfcljfemhlaaGreat.arenaParts
namespace Go.Proofs.YtpohfcljfemhlaaGreat.arenaParts
open Go Go.Ae arenaPlays
set_option maxRecDepth 100000
variable {g h : AH} {L R : List SP} {α : Type}
theorem xX {D : DM} {p : Int} : (zq D p).2.stp = D.stp := by unfold zq; split <;> rfl
theorem Xp {D : DM} {e : Int} : (xi D e).stp = D.stp := by unfold xi; split <;> rfl
theorem stp_name {D : DM} {w : Int} : (yG D w).2.stp = D.stp := by
  unfold yG
  split
  · exact Xp
  · rfl
theorem GB {D : DM} {p : Int} : (y4 D p).2.stp = D.stp := stp_name.trans xX
theorem stp_take {D : DM} {cs : List Cl} : (z6 D cs).stp = D.stp := by unfold z6; split <;> rfl
theorem Nj {D : DM} {x : Int} : (yZ D x).2.stp = D.stp := by unfold yZ; split <;> rfl
theorem ZE {w : Int} {k : Int → Act α} {D : DM} : EqR (qO (Y4 w k) D) (qO (k (yG D w).1) (yG D w).2) := by
  unfold Y4 yG
  split
  · exact kI (by omega)
  · exact EqR.refl _
theorem OT {D : DM} {sz f : Nat} {w : Int} (G : jX D sz f) (hw : 0 ≤ w) : jX (yG D w).2 sz f ∧ 0 ≤ (yG D w).1 ∧ (yG D w).1 < 2147483648 := by
  unfold yG
  split
  · exact ⟨G.fail, by show (0 : Int) ≤ 0 ∧ (0 : Int) < 2147483648; omega⟩
  · exact ⟨G, by dsimp only; omega⟩
theorem wd1 {a x : Int} (h : 0 ≤ x ∧ x < 18446744073709551616) : WdC [(a, x)] := .one1 h
abbrev TrC (t d : Nat) (root : Int) (wv : AV) : SP := qg t [.ptr d 0, .int .i64 root, wv]
structure Aft (D D' : DM) (sz : Nat) : Prop where
  good : jX D' sz 5
  stp : D'.stp = D.stp
theorem U2 {D : DM} {p : Int} (h : (zq D p).2.err ≠ 0) : (zq D p).1 = 0 := by
  unfold zq at h ⊢
  split at h
  · rename_i h0
    rw [if_pos h0]
    exact OD h
  · rename_i h0
    rw [if_neg h0]
theorem Uq {D : DM} {w : Int} (hw : D.err ≠ 0 → w = 0) (h : (yG D w).2.err ≠ 0) : (yG D w).1 = 0 := by
  unfold yG at h ⊢
  split at h
  · rename_i h0
    rw [if_pos h0]
  · rename_i h0
    rw [if_neg h0]
    exact hw h
theorem GZ {D : DM} {p : Int} (h : (y4 D p).2.err ≠ 0) : (y4 D p).1 = 0 := Uq U2 h
theorem M5 {D : DM} {e : Int} (h : D.err ≠ 0) : (xi D e).err ≠ 0 := by unfold xi; rw [if_neg h]; exact h
theorem Xk {D : DM} {p : Int} (h : D.err ≠ 0) : (zq D p).2.err ≠ 0 := by unfold zq; rw [if_neg h]; exact h
theorem Ml {D : DM} {w : Int} (h : D.err ≠ 0) : (yG D w).2.err ≠ 0 := by
  unfold yG
  split
  · exact M5 h
  · exact h
theorem UV {D : DM} {p : Int} (h : D.err ≠ 0) : (y4 D p).2.err ≠ 0 := Ml (Xk h)
theorem zj {n : Nat} (hn : 13 ≤ n) {t d : Nat} {D : DM} {root at_ side : Int} {wv : AV} {sz : Nat} (H : HS g h (DrC d D :: TrC t d root wv :: R)) (G : jX D sz 5) (hb : 0 ≤ at_ ∧ at_ ≤ 2147483648) :
    wp (qw tab qI n (.fn 85 [] []) [.ptr t 0, .int .i64 at_, .int .i64 side] h) fun r h' => ∃ (v : Int) (D' : DM), r = .int .i64 v ∧ (∀ k : Int → Act α, EqR (qO (qu at_ side k) D) (qO (k v) D')) ∧ Aft D D' sz ∧ ((0 ≤ v ∧ v < 2147483648) ∧ (D'.err ≠ 0 → v = 0) ∧ (D.err ≠ 0 → D'.err ≠ 0)) ∧ HS g h' (DrC d D' :: TrC t d root wv :: R) := by
  (refine qc (g := W85) rfl (by omega) fun k hk => ?_; show wp (S85 (qw tab qI k) _ _ _ _) _; unfold S85; try simp only [iI, uU, Int.ofNat_eq_natCast])
  by_cases h0 : at_ = 0
  · refine jk h0 (qx ?_)
    with_reducible (refine qC ?_; refine qZ ?_; refine qv (by assumption) e_1 (by with_unfolding_all exact rfl) ?_)
    refine qJ (vz (by omega) H) ?_
    intro _ h1 H1
    exact qz ⟨0, _, rfl, fun k => by unfold qu; rw [if_pos h0]; exact kI (by omega), ⟨G.fail, Xp⟩, ⟨by omega, fun _ => rfl, M5⟩, H1⟩
  refine qp h0 (qK ?_)
  by_cases h1 : side = 1
  · refine jk h1 (qx ?_)
    with_reducible (refine qC ?_; refine qZ ?_; refine qv (by assumption) e_1 (by with_unfolding_all exact rfl) ?_; refine qU (by omega) ?_)
    rw [show at_ + ((3 : Nat) : Int) = at_ + 3 from rfl]
    refine qJ (GR (by omega) H G) ?_
    rintro _ h2 ⟨rfl, H2⟩
    exact qz ⟨_, _, rfl, fun k => by unfold qu; rw [if_neg h0, if_pos h1]; exact GH, ⟨G.place.1, GB⟩, ⟨G.place.2, GZ, UV⟩, H2⟩
  refine qp h1 (qK ?_)
  with_reducible (refine qk ?_; (try dsimp only); refine qC ?_; refine qZ ?_; refine qv (by assumption) e_1 (by with_unfolding_all exact rfl) ?_; refine qC ?_; refine qZ ?_; refine qv (by assumption) e_1 (by with_unfolding_all exact rfl) ?_; refine qU (by omega) ?_)
  rw [show at_ + ((2 : Nat) : Int) = at_ + 2 from rfl]
  refine qJ (xN (by omega) H G.g.ok) ?_
  rintro _ h2 ⟨rfl, H2⟩
  have G2 := G.read (p := at_ + 2)
  refine qZ6 ?_
  refine qJ (U7 (by omega) (by omega) H2) ?_
  rintro _ h3 ⟨rfl, H3⟩
  have G3 := OT G2.1 (w := (zq D (at_ + 2)).1 / 2) (by omega)
  refine vS H (b := t) e_1 rfl H2 e_1 rfl (HS.lt H e_1) ?_
  exact qz ⟨_, _, rfl, fun k => by unfold qu; rw [if_neg h0, if_neg h1]; exact run_read.trans ZE, ⟨G3.1, stp_name.trans xX⟩, ⟨G3.2, Uq fun he => by rw [U2 he]; rfl, fun he => Ml (Xk he)⟩, H3⟩
theorem wQ {n : Nat} (hn : 13 ≤ n) {t d : Nat} {D : DM} {root at_ : Int} {wv : AV} {sz : Nat} (H : HS g h (DrC d D :: TrC t d root wv :: R)) (G : jX D sz 5) (hb : 0 ≤ at_ ∧ at_ ≤ 2147483648) :
    wp (qw tab qI n (.fn 90 [] []) [.ptr t 0, .int .i64 at_] h) fun r h' => ∃ (v : Bool) (D' : DM), r = .bool v ∧ (∀ k : Bool → Act α, EqR (qO (xk at_ k) D) (qO (k v) D')) ∧ Aft D D' sz ∧ HS g h' (DrC d D' :: TrC t d root wv :: R) := by
  (refine qc (g := W90) rfl (by omega) fun k hk => ?_; show wp (S90 (qw tab qI k) _ _ _) _; unfold S90; try simp only [iI, uU, Int.ofNat_eq_natCast])
  by_cases h0 : at_ = 0
  · refine jE h0 ?_
    with_reducible (refine qk ?_; (try dsimp only); refine jy ?_; (try dsimp only); refine qb ?_)
    exact qz ⟨false, D, rfl, fun k => by unfold xk; rw [if_pos h0]; exact EqR.refl _, ⟨G, rfl⟩, H⟩
  refine jo h0 ?_
  with_reducible (refine qk ?_; (try dsimp only); refine qh ?_; (try dsimp only); refine qC ?_; refine qZ ?_; refine qv (by assumption) e_1 (by with_unfolding_all exact rfl) ?_; refine qU (by omega) ?_)
  rw [show at_ + ((2 : Nat) : Int) = at_ + 2 from rfl]
  refine qJ (xN (by omega) H G.g.ok) ?_
  rintro _ h2 ⟨rfl, H2⟩
  have G2 := G.read (p := at_ + 2)
  refine KF (by omega) ?_
  refine kw ?_
  with_reducible (refine qR ?_)
  exact qz ⟨_, _, rfl, fun k => by unfold xk; rw [if_neg h0]; exact run_read, ⟨G2.1, xX⟩, H2⟩
theorem JG {n : Nat} (hn : 13 ≤ n) {t d : Nat} {D : DM} {root at_ side c : Int} {wv : AV} {sz : Nat} (H : HS g h (DrC d D :: TrC t d root wv :: R)) (G : jX D sz 5) (hb : 0 ≤ at_ ∧ at_ ≤ 2147483648) (hc : 0 ≤ c ∧ c ≤ 2147483648) :
    wp (qw tab qI n (.fn 89 [] []) [.ptr t 0, .int .i64 at_, .int .i64 side, .int .i64 c] h) fun _ h' => ∃ (D' : DM), (∀ k : Act α, EqR (qO (xy at_ side c k) D) (qO k D')) ∧ Aft D D' sz ∧ HS g h' (DrC d D' :: TrC t d root wv :: R) := by
  (refine qc (g := W89) rfl (by omega) fun k hk => ?_; show wp (S89 (qw tab qI k) _ _ _ _ _) _; unfold S89; try simp only [iI, uU, Int.ofNat_eq_natCast])
  by_cases h1 : side = 1
  · refine jk h1 (qx ?_)
    with_reducible (refine qC ?_; refine qZ ?_; refine qv (by assumption) e_1 (by with_unfolding_all exact rfl) ?_; refine qU (by omega) ?_)
    rw [show at_ + ((3 : Nat) : Int) = at_ + 3 from rfl]
    refine qJ (Ja (by omega) (by omega) H G.g.ok) ?_
    intro _ h2 H2
    exact qz ⟨_, fun k => by unfold xy; rw [if_pos h1]; exact run_take, ⟨G.take (wd1 (by omega)), stp_take⟩, H2⟩
  refine qp h1 (qK ?_)
  with_reducible (refine qk ?_; (try dsimp only); refine qC ?_; refine qZ ?_; refine qv (by assumption) e_1 (by with_unfolding_all exact rfl) ?_; refine qU (by omega) ?_; refine xJ (by omega) ?_)
  refine qZO (by omega) ?_
  with_reducible (refine qC ?_; refine qZ ?_; refine qv (by assumption) e_1 (by with_unfolding_all exact rfl) ?_; refine qU (by omega) ?_)
  rw [show at_ + ((2 : Nat) : Int) = at_ + 2 from rfl]
  refine qJ (xN (by omega) H G.g.ok) ?_
  rintro _ h2 ⟨rfl, H2⟩
  have G2 := G.read (p := at_ + 2)
  refine KF (by omega) (qKm (by omega) (by omega) ?_)
  refine qJ (xR (by omega) H2 G2.1.g.ok) ?_
  intro _ h3 H3
  refine vS H (b := t) e_1 rfl H2 e_1 rfl (HS.lt H e_1) ?_
  exact qz ⟨_, fun k => by unfold xy; rw [if_neg h1]; exact run_read.trans run_take, ⟨G2.1.take (wd1 (by omega)), stp_take.trans xX⟩, H3⟩
theorem qKi {a b : Bool} {K : AV → Go.Ae.R} {Q : AV → AH → Prop} (w : wp (K (.bool (!decide (a = b)))) Q) : wp (pEq .bool true (.bool a) (.bool b) K) Q := by
  cases a <;> cases b <;> exact w
theorem zN {n : Nat} (hn : 13 ≤ n) {t d : Nat} {D : DM} {root at_ : Int} {red : Bool} {wv : AV} {sz : Nat} (H : HS g h (DrC d D :: TrC t d root wv :: R)) (G : jX D sz 5) (hb : 0 ≤ at_ ∧ at_ ≤ 2147483648) :
    wp (qw tab qI n (.fn 92 [] []) [.ptr t 0, .int .i64 at_, .bool red] h) fun _ h' => ∃ (D' : DM), (∀ k : Act α, EqR (qO (jZ at_ red k) D) (qO k D')) ∧ Aft D D' sz ∧ HS g h' (DrC d D' :: TrC t d root wv :: R) := by
  (refine qc (g := W92) rfl (by omega) fun k hk => ?_; show wp (S92 (qw tab qI k) _ _ _ _) _; unfold S92; try simp only [iI, uU, Int.ofNat_eq_natCast])
  by_cases h0 : at_ = 0
  · refine jk h0 (qx ?_)
    with_reducible (refine qC ?_; refine qZ ?_; refine qv (by assumption) e_1 (by with_unfolding_all exact rfl) ?_)
    refine qJ (vz (by omega) H) ?_
    intro _ h1 H1
    exact qz ⟨_, fun k => by unfold jZ; rw [if_pos h0]; exact kI (by omega), ⟨G.fail, Xp⟩, H1⟩
  refine qp h0 (qK ?_)
  with_reducible (refine qC ?_; refine qZ ?_; refine qv (by assumption) e_1 (by with_unfolding_all exact rfl) ?_; refine qU (by omega) ?_)
  rw [show at_ + ((2 : Nat) : Int) = at_ + 2 from rfl]
  refine qJ (xN (by omega) H G.g.ok) ?_
  rintro _ h2 ⟨rfl, H2⟩
  have G2 := G.read (p := at_ + 2)
  refine KF (by omega) (kw (qKi ?_))
  by_cases h1 : decide ((zq D (at_ + 2)).1 % 2 = 1) = red
  · rw [show decide ((zq D (at_ + 2)).1 % 2 = ((1 : Nat) : Int)) = red from h1, decide_eq_true rfl]
    refine qK (qz ⟨_, fun k => ?_, ⟨G2.1, xX⟩, H2⟩)
    unfold jZ
    rw [if_neg h0]
    refine run_read.trans ?_
    rw [if_pos h1]
    exact EqR.refl _
  · rw [decide_eq_false (show ¬ decide ((zq D (at_ + 2)).1 % 2 = ((1 : Nat) : Int)) = red from h1)]
    refine qx ?_
    with_reducible (refine qC ?_; refine qZ ?_; refine qv (by assumption) e_1 (by with_unfolding_all exact rfl) ?_; refine qU (by omega) ?_)
    rw [show at_ + ((2 : Nat) : Int) = at_ + 2 from rfl]
    refine qZa (by omega) ?_
    refine qJ (xR (by omega) H2 G2.1.g.ok) ?_
    intro _ h3 H3
    refine qz ⟨_, fun k => ?_, ⟨G2.1.take (wd1 (qJb (by omega))), stp_take.trans xX⟩, H3⟩
    unfold jZ
    rw [if_neg h0]
    refine run_read.trans ?_
    rw [if_neg h1]
    exact run_take
theorem KM {n : Nat} (hn : 13 ≤ n) {t d : Nat} {D : DM} {root : Int} {wv : AV} {sz : Nat} (H : HS g h (DrC d D :: TrC t d root wv :: R)) (G : jX D sz 5) :
    wp (qw tab qI n (.fn 61 [] []) [.ptr t 0] h) fun r h' => ∃ (v : Int) (D' : DM), r = .int .i64 v ∧ (∀ k : Int → Act α, EqR (qO (yR root k) D) (qO (k v) D')) ∧ Aft D D' sz ∧ ((0 ≤ v ∧ v < 2147483648) ∧ (D'.err ≠ 0 → v = 0) ∧ (D.err ≠ 0 → D'.err ≠ 0)) ∧ HS g h' (DrC d D' :: TrC t d root wv :: R) := by
  (refine qc (g := W61) rfl (by omega) fun k hk => ?_; show wp (S61 (qw tab qI k) _ _) _; unfold S61; try simp only [iI, uU, Int.ofNat_eq_natCast])
  with_reducible (refine qC ?_; refine qZ ?_; refine qv (by assumption) e_1 (by with_unfolding_all exact rfl) ?_; refine qC ?_; refine qZ ?_; refine qv (by assumption) e_1 (by with_unfolding_all exact rfl) ?_)
  refine qJ (GR (by omega) H G) ?_
  rintro _ h2 ⟨rfl, H2⟩
  exact qz ⟨_, _, rfl, fun k => GH, ⟨G.place.1, GB⟩, ⟨G.place.2, GZ, UV⟩, H2⟩
theorem Qe {n : Nat} (hn : 14 ≤ n) {t d : Nat} {D : DM} {root at_ side : Int} {wv : AV} {sz : Nat} (H : HS g h (DrC d D :: TrC t d root wv :: R)) (G : jX D sz 5) (hb : 0 ≤ at_ ∧ at_ ≤ 2147483648) (hs : 0 ≤ side ∧ side ≤ 1) :
    wp (qw tab qI n (.fn 111 [] []) [.ptr t 0, .int .i64 at_, .int .i64 side] h) fun r h' => ∃ (v : Int) (D' : DM), r = .int .i64 v ∧ (∀ k : Int → Act α, EqR (qO (xm at_ side k) D) (qO (k v) D')) ∧ Aft D D' sz ∧ (0 ≤ v ∧ v < 2147483648) ∧ HS g h' (DrC d D' :: TrC t d root wv :: R) := by
  (refine qc (g := W111) rfl (by omega) fun k hk => ?_; show wp (S111 (qw tab qI k) _ _ _ _) _; unfold S111; try simp only [iI, uU, Int.ofNat_eq_natCast])
  refine jD (by omega) ?_
  rw [show ((1 : Nat) : Int) - side = 1 - side from rfl]
  refine qJ (zj (α := α) (by omega) H G hb) ?_
  rintro _ h1 ⟨up, D1, rfl, E1, A1, b1, H1⟩
  refine jD (by omega) ?_
  rw [show ((1 : Nat) : Int) - side = 1 - side from rfl]
  refine qJ (zj (α := α) (by omega) H1 A1.good (by omega)) ?_
  rintro _ h2 ⟨c, D2, rfl, E2, A2, b2, H2⟩
  refine qJ (JG (α := α) (by omega) H2 A2.good hb (by omega)) ?_
  rintro _ h3 ⟨D3, E3, A3, H3⟩
  refine qJ (JG (α := α) (by omega) H3 A3.good (by omega) hb) ?_
  rintro _ h4 ⟨D4, E4, A4, H4⟩
  exact qz ⟨up, D4, rfl, fun k => (E1 _).trans ((E2 _).trans ((E3 _).trans (E4 _))), ⟨A4.good, A4.stp.trans (A3.stp.trans (A2.stp.trans A1.stp))⟩, b1.1, H4⟩
def yw (s : jd) : List AV := [.int .i64 s.1, .int .i64 s.2]
def OkW (way : List jd) : Prop := ∀ s ∈ way, (0 ≤ s.1 ∧ s.1 ≤ 2147483648) ∧ (0 ≤ s.2 ∧ s.2 ≤ 1)
abbrev zC (wv : AV) (way : List jd) : SP := qS 140 2 way.length wv (way.flatMap yw)
theorem OkW.nil : OkW [] := fun s hs => by cases hs
theorem OkW.add {way : List jd} {s : jd} (O : OkW way) (h1 : 0 ≤ s.1 ∧ s.1 ≤ 2147483648) (h2 : 0 ≤ s.2 ∧ s.2 ≤ 1) : OkW (way ++ [s]) := by
  intro x hx
  rcases List.mem_append.1 hx with hx | hx
  · exact O x hx
  · rw [List.mem_singleton.1 hx]; exact ⟨h1, h2⟩
theorem OkW.nth {way : List jd} {n : Nat} (O : OkW way) (hn : n < way.length) : (0 ≤ (zg way n).1 ∧ (zg way n).1 ≤ 2147483648) ∧ (0 ≤ (zg way n).2 ∧ (zg way n).2 ≤ 1) := by
  unfold zg
  rw [List.getElem?_eq_getElem hn]
  exact O _ (List.getElem_mem hn)
theorem Xf {way : List jd} {n f : Nat} (hn : n < way.length) (hf : f < 2) : (way.flatMap yw)[n * 2 + f]? = (yw (zg way n))[f]? := by
  rw [yT (sz := 2) yw (fun _ => rfl) _ _ _ hf]
  unfold zg
  rw [List.getElem?_eq_getElem hn]; rfl
theorem MU {way : List jd} {n : Nat} (hn : n < way.length) : ((way.flatMap yw).drop (n * 2)).take 2 = yw (zg way n) := by
  unfold zg
  exact k0 (sz := 2) (fun _ => rfl) (by rw [List.getElem?_eq_getElem hn]; rfl)
theorem JE {n : Nat} (hn : 14 ≤ n) {t d m : Nat} {D : DM} {root a : Int} {wv : AV} {way : List jd} {sz : Nat} (H : HS g h (DrC d D :: TrC t d root wv :: zC wv way :: R)) (G : jX D sz 5) (O : OkW way) (hm : m ≤ way.length) (hl : way.length ≤ 1000000) (ha : 0 ≤ a ∧ a ≤ 2147483648) :
    wp (qw tab qI n (.fn 57 [] []) [.ptr t 0, .int .i64 (m : Int), .int .i64 a] h) fun _ h' => ∃ (D' : DM), (∀ k : Act α, EqR (qO (xr root way m a k) D) (qO k D')) ∧ Aft D D' sz ∧ HS g h' (DrC d D' :: TrC t d root wv :: zC wv way :: R) := by
  (refine qc (g := W57) rfl (by omega) fun k hk => ?_; show wp (S57 (qw tab qI k) _ _ _ _) _; unfold S57; try simp only [iI, uU, Int.ofNat_eq_natCast])
  cases m with
  | zero =>
    with_reducible (refine jk (by omega) ?_; refine qx ?_; refine qC ?_; refine qZ ?_; refine qv (by assumption) e_1 (by with_unfolding_all exact rfl) ?_; refine qC ?_; refine qZ ?_; refine qv (by assumption) e_1 (by with_unfolding_all exact rfl) ?_)
    refine qJ (Ja (by omega) (by omega) H G.g.ok) ?_
    intro _ h2 H2
    exact qz ⟨_, fun k => run_take, ⟨G.take (wd1 (by omega)), stp_take⟩, H2⟩
  | succ m =>
    with_reducible (refine qp (by omega) ?_; refine qK ?_; refine qC ?_; refine qZ ?_; refine qv (by assumption) e_1 (by with_unfolding_all exact rfl) ?_; refine jD (by omega) ?_)
    rw [show ((m + 1 : Nat) : Int) - ((1 : Nat) : Int) = (m : Int) by omega]
    refine xF (H.sl e_2) (by omega) (show m < way.length by omega) (Xf (by omega) (by omega)) ?_
    with_reducible (refine qC ?_; refine qZ ?_; refine qv (by assumption) e_1 (by with_unfolding_all exact rfl) ?_; refine jD (by omega) ?_)
    rw [show ((m + 1 : Nat) : Int) - ((1 : Nat) : Int) = (m : Int) by omega]
    refine xF (H.sl e_2) (by omega) (show m < way.length by omega) (Xf (by omega) (by omega)) ?_
    have hw := O.nth (n := m) (by omega)
    refine qJ (JG (α := α) (by omega) H G hw.1 ha) ?_
    rintro _ h3 ⟨D3, E3, A3, H3⟩
    exact qz ⟨D3, fun k => E3 k, A3, H3⟩
end Go.Proofs.YtpohfcljfemhlaaGreat.arenaParts
namespace Go.Proofs.YtpohfcljfemhlaaGreat.arenaParts
open Go Go.Ae arenaPlays
set_option maxRecDepth 100000
variable {g h : AH} {L R : List SP} {α : Type}
theorem Jj {D : DM} (h : 2048 ≤ D.stp) : (zx D).err ≠ 0 := by
  unfold zx xi
  rw [if_pos (by omega)]
  split
  · show (2 : Int) ≠ 0; omega
  · assumption
theorem XW {D : DM} {a : Act α} (h : 2048 ≤ D.stp) : EqR (qO (.fail 2) D) (qO a (zx D)) := by
  have e3 : zx D = xi { D with stp := D.stp + 1 } 2 := by unfold zx; rw [if_pos (by omega)]
  rw [e3]
  refine EqR.trans ?_ (kI (α := α) (e := 2) (D := { D with stp := D.stp + 1 }) (by omega))
  unfold qO
  refine ⟨rfl, ?_, ?_⟩
  · dsimp only
    split <;> rfl
  · dsimp only
    split <;> rfl
theorem Kk {n : Nat} (hn : 15 ≤ n) {t d : Nat} {D : DM} {root key : Int} {wv0 : AV} {sz : Nat} (H : HS g h (DrC d D :: TrC t d root wv0 :: R)) (G : jX D sz 5) (hs : D.stp = 0) :
    wp (qw tab qI n (.fn 52 [] []) [.ptr t 0, .int .u64 key] h) fun r h' => ∃ (a : Int) (way : List jd) (wv : AV) (D' : DM), r = .int .i64 a ∧ (∀ k : Int → List jd → Act α, EqR (qO (JY root key k) D) (qO (k a way) D')) ∧ jX D' sz 5 ∧ D'.stp ≤ 3000 ∧
      (0 ≤ a ∧ a < 2147483648) ∧ OkW way ∧ way.length ≤ 3000 ∧ HS g h' (DrC d D' :: TrC t d root wv :: zC wv way :: R) := by
  (refine qc (g := W52) rfl (by omega) fun k hk => ?_; show wp (S52 (qw tab qI k) _ _ _) _; unfold S52; try simp only [iI, uU, Int.ofNat_eq_natCast])
  with_reducible (refine qC ?_; refine qZ ?_)
  refine jB H (b := t) e_1 ⟨rfl, rfl⟩ (by simp) fun h1 H1 => ?_
  have H1 : HS g h1 (TrC t d root .nils :: DrC d D :: R) := H1
  have H1 := (H1.nils (e := 140) (sz := 2)).sub (L' := DrC d D :: TrC t d root .nils :: zC .nils [] :: R) (.cons e_2 (.cons e_1 (.cons .here .refl)))
  refine qJ (KM (α := α) (by omega) H1 G) ?_
  rintro _ h2 ⟨a, D1, rfl, E1, A1, b1, H2⟩
  have hs1 := A1.stp
  refine jh (fun m s h' => ∃ (a : Int) (way : List jd) (wv : AV) (D2 : DM), s = (.int .i64 a, .int .u64 key, .ptr t 0, ()) ∧ (∀ k : Int → List jd → Act α, EqR (qO (JY root key k) D) (qO (vA key k m a way) D2)) ∧ jX D2 sz 5 ∧ (0 ≤ a ∧ a < 2147483648) ∧ OkW way ∧ D2.stp + m = 2049 ∧ (way.length : Int) ≤ D2.stp ∧
    HS g h' (DrC d D2 :: TrC t d root wv :: zC wv way :: R))
    ?_ (m := 2049) (by show 2049 < 1000000000; omega) ⟨a, [], .nils, D1, rfl, fun k => E1 _, A1.good, b1.1, OkW.nil, by omega, by simp; omega, H2⟩
  clear E1 A1 b1 H H1 H2 hs1
  rintro m ih s h3 hih ⟨a, way, wv, D2, rfl, E, G2, hb, O, hst, hal, H⟩
  dsimp only
  by_cases ha : a = 0
  · refine jE ha ?_
    with_reducible (refine qk ?_; (try dsimp only); refine jy ?_; (try dsimp only); refine qb ?_; refine qK ?_; refine qE ?_)
    refine qz ⟨0, way, wv, D2, rfl, fun k => (E k).trans ?_, G2, by omega, by omega, O, by omega, H⟩
    cases m <;> (unfold vA; rw [if_pos ha]; exact EqR.refl _)
  refine jo ha ?_
  with_reducible (refine qk ?_; (try dsimp only); refine qh ?_; (try dsimp only); refine qC ?_; refine qZ ?_; refine qv (by assumption) e_1 (by with_unfolding_all exact rfl) ?_)
  refine qJ (wP (by omega) H G2) ?_
  rintro _ h4 ⟨rfl, H4⟩
  have G3 := G2.step (by omega)
  cases m with
  | zero =>
    have herr := Jj (D := D2) (by omega)
    rw [decide_eq_false herr]
    with_reducible (refine qR ?_; refine qK ?_; refine qE ?_)
    refine qz ⟨0, way, wv, _, rfl, fun k => (E k).trans ?_, G3.1, by omega, by omega, O, by omega, H4⟩
    unfold vA
    rw [if_neg ha]
    exact XW (by omega)
  | succ m =>
    have E3 : ∀ k : Int → List jd → Act α, EqR (qO (JY root key k) D) (qO (.read a fun here => if here = key then k a way else qu a (if here < key then 1 else 0) fun c => vA key k m c (way ++ [(a, if here < key then 1 else 0)])) (zx D2)) := by
      intro k
      refine (E k).trans ?_
      rw [vA, if_neg ha]
      exact wI
    by_cases herr : (zx D2).err = 0
    rotate_left
    · rw [decide_eq_false herr]
      with_reducible (refine qR ?_; refine qK ?_; refine qE ?_)
      exact qz ⟨0, way, wv, _, rfl, fun k => (E3 k).trans (EqR.errs herr ⟨rfl, rfl⟩), G3.1, by omega, by omega, O, by omega, H4⟩
    rw [decide_eq_true herr]
    obtain ⟨G3, hs3⟩ := G3
    generalize zx D2 = D3 at *
    with_reducible (refine qR ?_; refine qx ?_; refine qC ?_; refine qZ ?_; refine qv (by assumption) e_1 (by with_unfolding_all exact rfl) ?_; refine qU (by omega) ?_)
    rw [show a + ((0 : Nat) : Int) = a by omega]
    refine qJ (xN (by omega) H4 G3.g.ok) ?_
    rintro _ h5 ⟨rfl, H5⟩
    have G4 := G3.read (p := a)
    have E4 : ∀ k : Int → List jd → Act α, _ := fun k => (E3 k).trans run_read
    have hs4 : (zq D3 a).2.stp = D3.stp := xX
    generalize zq D3 a = q4 at *
    obtain ⟨x, D4⟩ := q4
    obtain ⟨G4, b5, b6⟩ := G4
    dsimp only at *
    by_cases hk : x = key
    · refine jk hk ?_
      with_reducible (refine qx ?_; refine qE ?_)
      refine qz ⟨a, way, wv, D4, rfl, fun k => (E4 k).trans ?_, G4, by omega, by omega, O, by omega, H5⟩
      rw [if_pos hk]
      exact EqR.refl _
    refine qp hk (qK ?_)
    obtain ⟨side, hside⟩ : ∃ side : Int, side = if x < key then 1 else 0 := ⟨_, rfl⟩
    have hsb : 0 ≤ side ∧ side ≤ 1 := by rw [hside]; split <;> omega
    have E5 : ∀ k : Int → List jd → Act α, EqR (qO (JY root key k) D) (qO (qu a side fun c => vA key k m c (way ++ [(a, side)])) D4) := by
      intro k
      refine (E4 k).trans ?_
      rw [if_neg hk, ← hside]
      exact EqR.refl _
    refine z9 [] (fun s h' => s = (.int .i64 side, .int .i64 a, .int .u64 key, .ptr t 0, ()) ∧ h' = h5) ?_ ?_
    · intro j hj
      by_cases hlt : x < key
      · rw [if_pos hlt] at hside
        refine vO hlt (qx ?_)
        exact hj _ _ ⟨by rw [hside]; rfl, rfl⟩
      · rw [if_neg hlt] at hside
        refine wb hlt (qK ?_)
        exact hj _ _ ⟨by rw [hside]; rfl, rfl⟩
    clear hside E E3 E4
    rintro s h5 ⟨rfl, rfl⟩
    dsimp only
    with_reducible (refine qC ?_; refine qZ ?_; refine qv (by assumption) e_1 (by with_unfolding_all exact rfl) ?_; refine ql (by with_unfolding_all exact rfl) ?_)
    refine jp (n := 1) (l := [.int .i64 a, .int .i64 side]) (sz := 2) H5 rfl rfl rfl rfl fun v6 h6 H6 => ?_
    refine z4 (H6.sel e_3) (H6.sl .here) (by omega) (by omega) rfl fun v7 h7 H7 => ?_
    have o7 := H7.one .here
    with_reducible (refine qC ?_; refine qZ ?_)
    refine jB H7 (b := t) e_3 o7 (by simp) fun h8 H8 => ?_
    have H8 : HS g h8 (DrC d D4 :: TrC t d root v7 :: zC v7 (way ++ [(a, side)]) :: R) := by
      have H9 : HS g h8 (TrC t d root v7 :: qS 140 2 (way.length + 1) v7 (way.flatMap yw ++ [.int .i64 a, .int .i64 side]) :: qS 140 2 1 v6 [.int .i64 a, .int .i64 side] :: DrC d D4 :: R) := H8
      unfold zC
      rw [List.flatMap_append, List.length_append]
      exact H9.sub (.cons e_3 (.cons .here (.cons .here (.drop .refl))))
    refine qJ (zj (α := α) (by omega) H8 G4 (by omega)) ?_
    rintro _ h9 ⟨c, D5, rfl, E6, A6, b6, H9⟩
    have hs6 := A6.stp
    exact hih m _ _ (by omega) ⟨c, way ++ [(a, side)], v7, D5, rfl, fun k => (E5 k).trans (E6 _), A6.good, b6.1, O.add (by dsimp only; omega) hsb, by omega, by simp; omega, H9⟩
end Go.Proofs.YtpohfcljfemhlaaGreat.arenaParts
namespace Go.Proofs.YtpohfcljfemhlaaGreat.arenaParts
open Go Go.Ae arenaPlays
set_option maxRecDepth 100000
variable {g h : AH} {L R : List SP} {α : Type}
theorem qJ9 {D : Nat → Prop} {sz n i : Nat} {v : AV} {xs : List AV} {k : IntKind} {K : AV → Go.Ae.R} {Q : AV → AH → Prop} (S : Sl D h sz n v xs) (hi : i < n)
    (w : ∀ b off, b < h.nx → (∀ {D' : Nat → Prop} {h' : AH} {xs' : List AV}, Sl D' h' sz n v xs' → ∀ j, j < sz → h'.at b (off + j) = xs'[i * sz + j]?) → wp (K (.ptr b off)) Q) : wp (jA v (.int k (i : Int)) sz K) Q := by
  cases S with
  | nils => omega
  | empt a => omega
  | tail b o o' i => omega
  | mk hd hb hr hl ha =>
    refine Qr hi (w _ _ hb ?_)
    intro D' h' xs' S' j hj
    cases S' with
    | mk hd' hb' hr' hl' ha' =>
      rw [Nat.add_assoc, ha' _ (by
        have : i * sz + sz ≤ n * sz := by rw [← Nat.succ_mul]; exact Nat.mul_le_mul_right sz hi
        omega)]
theorem UH : ∀ (l : List jd) (i : Nat), (l.flatMap yw).take (i * 2) = (l.take i).flatMap yw := by
  intro l
  induction l with
  | nil => intro i; simp
  | cons s l ih =>
    intro i
    cases i with
    | zero => simp
    | succ i =>
      rw [List.flatMap_cons, List.take_succ_cons, List.flatMap_cons, ← ih, show (i + 1) * 2 = (yw s).length + i * 2 by show _ = 2 + i * 2; omega, List.take_length_add_append]
theorem Kl {n : Nat} (hn : 15 ≤ n) {t d : Nat} {D : DM} {root : Int} {up grand : jd} {wv : AV} {way : List jd} {sz : Nat} (H : HS g h (DrC d D :: TrC t d root wv :: zC wv way :: R)) (G : jX D sz 5) (O : OkW way) (hl2 : 2 ≤ way.length) (hl : way.length ≤ 1000000)
    (hu : (0 ≤ up.1 ∧ up.1 ≤ 2147483648) ∧ (0 ≤ up.2 ∧ up.2 ≤ 1)) (hg : (0 ≤ grand.1 ∧ grand.1 ≤ 2147483648) ∧ (0 ≤ grand.2 ∧ grand.2 ≤ 1)) :
    wp (qw tab qI n (.fn 91 [] []) [.ptr t 0, .agg (yw up), .agg (yw grand)] h) fun _ h' => ∃ (D' : DM), (∀ k : Act α, EqR (qO (xc root way up grand k) D) (qO k D')) ∧ Aft D D' sz ∧ HS g h' (DrC d D' :: TrC t d root wv :: zC wv way :: R) := by
  (refine qc (g := W91) rfl (by omega) fun k hk => ?_; show wp (S91 (qw tab qI k) _ _ _ _) _; unfold S91; try simp only [iI, uU, Int.ofNat_eq_natCast])
  obtain ⟨ua, us⟩ := up
  obtain ⟨ga, gs⟩ := grand
  dsimp only at hu hg
  refine jx H rfl fun b0 h1 H1 => ?_
  refine jx H1 rfl fun b1 h2 H2 => ?_
  have H2 : HS g h2 (qg b1 [.int .i64 ga, .int .i64 gs] :: qg b0 [.int .i64 ua, .int .i64 us] :: DrC d D :: TrC t d root wv :: zC wv way :: R) := H2
  have H2 : HS g h2 (DrC d D :: TrC t d root wv :: zC wv way :: qg b1 [.int .i64 ga, .int .i64 gs] :: qg b0 [.int .i64 ua, .int .i64 us] :: R) := H2.sub (.cons e_2 (.cons e_2 (.cons e_2 (.cons .here (.cons .here .refl)))))
  clear H H1
  refine z9 [] (fun s h' => ∃ D2 : DM, s = (.ptr b1 0, .ptr t 0, ()) ∧ (∀ k : Act α, EqR (qO (xc root way (ua, us) (ga, gs) k) D) (qO (xm ga (1 - gs) fun a => jZ a false (jZ ga true (xr root way (way.length - 2) a k))) D2)) ∧ Aft D D2 sz ∧
    HS g h' (DrC d D2 :: TrC t d root wv :: zC wv way :: qg b1 [.int .i64 ga, .int .i64 gs] :: qg b0 [.int .i64 ua, .int .i64 us] :: R)) ?_ ?_
  · intro j hj
    with_reducible (refine qZ ?_; refine qv (by assumption) e_4 (by with_unfolding_all exact rfl) ?_; refine qZ ?_; refine qv (by assumption) e_3 (by with_unfolding_all exact rfl) ?_)
    by_cases he : us = gs
    · refine jE he (qK ?_)
      exact hj _ _ ⟨D, rfl, fun k => by unfold xc; rw [if_pos he]; exact EqR.refl _, ⟨G, rfl⟩, H2⟩
    · refine jo he (qx ?_)
      with_reducible (refine qk ?_; (try dsimp only); refine qZ ?_; refine qv (by assumption) e_3 (by with_unfolding_all exact rfl) ?_; refine qZ ?_; refine qv (by assumption) e_3 (by with_unfolding_all exact rfl) ?_; refine qZ ?_; refine qv (by assumption) e_4 (by with_unfolding_all exact rfl) ?_; refine qZ ?_; refine qv (by assumption) e_3 (by with_unfolding_all exact rfl) ?_)
      refine qJ (Qe (α := α) (by omega) H2 G hu.1 hg.2) ?_
      rintro _ h3 ⟨v, D3, rfl, E3, A3, b3, H3⟩
      refine qJ (JG (α := α) (by omega) H3 A3.good hg.1 (by omega)) ?_
      rintro _ h4 ⟨D4, E4, A4, H4⟩
      with_reducible (refine vS (by assumption) e_3 (by with_unfolding_all exact rfl) (by assumption) e_3 (by with_unfolding_all exact rfl) (HS.lt (by assumption) e_3) ?_; refine vS (by assumption) e_3 (by with_unfolding_all exact rfl) (by assumption) e_3 (by with_unfolding_all exact rfl) (HS.lt (by assumption) e_3) ?_)
      exact hj _ _ ⟨D4, rfl, fun k => by unfold xc; rw [if_neg he]; exact (E3 _).trans (E4 _), ⟨A4.good, A4.stp.trans A3.stp⟩, H4⟩
  clear H2
  rintro s h3 ⟨D2, rfl, E2, A2, H3⟩
  dsimp only
  with_reducible (refine qZ ?_; refine qv (by assumption) e_3 (by with_unfolding_all exact rfl) ?_; refine qZ ?_; refine qv (by assumption) e_3 (by with_unfolding_all exact rfl) ?_; refine jD (by omega) ?_)
  refine qJ (Qe (α := α) (by omega) H3 A2.good hg.1 (side := 1 - gs) (by omega)) ?_
  rintro _ h4 ⟨v, D4, rfl, E4, A4, b4, H4⟩
  refine qJ (zN (α := α) (by omega) H4 A4.good (by omega)) ?_
  rintro _ h5 ⟨D5, E5, A5, H5⟩
  with_reducible (refine qZ ?_; refine qv (by assumption) e_3 (by with_unfolding_all exact rfl) ?_)
  refine qJ (zN (α := α) (by omega) H5 A5.good hg.1) ?_
  rintro _ h6 ⟨D6, E6, A6, H6⟩
  with_reducible (refine qC ?_; refine qZ ?_; refine qv (by assumption) e_1 (by with_unfolding_all exact rfl) ?_; refine jg (by assumption) e_2 ?_; refine jD (by omega) ?_)
  rw [show ((way.length : Nat) : Int) - ((2 : Nat) : Int) = ((way.length - 2 : Nat) : Int) by omega]
  refine qJ (JE (α := α) (by omega) H6 A6.good O (by omega) hl (by omega)) ?_
  rintro _ h7 ⟨D7, E7, A7, H7⟩
  with_reducible (refine qE ?_)
  exact qz ⟨D7, fun k => (E2 k).trans ((E4 _).trans ((E5 _).trans ((E6 _).trans (E7 _)))), ⟨A7.good, A7.stp.trans (A6.stp.trans (A5.stp.trans (A4.stp.trans A2.stp)))⟩, H7.sub (.cons .here (.cons .here (.cons .here (.drop (.drop .refl)))))⟩
theorem OkW.take {way : List jd} {n : Nat} (O : OkW way) : OkW (way.take n) := fun s hs => O s (List.mem_of_mem_take hs)
theorem NS {n : Nat} (hn : 17 ≤ n) {t d : Nat} {D : DM} {root : Int} {wv : AV} {way : List jd} {sz : Nat} (H : HS g h (DrC d D :: TrC t d root wv :: zC wv way :: R)) (G : jX D sz 5) (O : OkW way) (hl : way.length ≤ 10000) (hs : D.stp ≤ 10000) :
    wp (qw tab qI n (.fn 58 [] []) [.ptr t 0] h) fun _ h' => ∃ (D' : DM) (wv' : AV) (way' : List jd), (∀ k : Act α, EqR (qO (zm root k 2049 way) D) (qO k D')) ∧ jX D' sz 5 ∧ HS g h' (DrC d D' :: TrC t d root wv' :: zC wv' way' :: R) := by
  (refine qc (g := W58) rfl (by omega) fun k hk => ?_; show wp (S58 (qw tab qI k) _ _) _; unfold S58; try simp only [iI, uU, Int.ofNat_eq_natCast])
  have hs0 := G.st
  refine jh (fun m s h' => ∃ (way2 : List jd) (wv2 : AV) (D2 : DM), s = (.ptr t 0, ()) ∧ (∀ k : Act α, EqR (qO (zm root k 2049 way) D) (qO (zm root k m way2) D2)) ∧ jX D2 sz 5 ∧ OkW way2 ∧ way2.length ≤ 10000 ∧ 2049 ≤ D2.stp + m ∧ D2.stp + m ≤ 20000 ∧
    HS g h' (DrC d D2 :: TrC t d root wv2 :: zC wv2 way2 :: R))
    ?_ (m := 2049) (by show 2049 < 1000000000; omega) ⟨way, wv, D, rfl, fun k => EqR.refl _, G, O, hl, by omega, by omega, H⟩
  clear H G O hl hs hs0
  rintro m ih s h3 hih ⟨way2, wv2, D2, rfl, E, G2, O, hl, hst, hst2, H⟩
  dsimp only
  with_reducible (refine qC ?_; refine qZ ?_; refine qv (by assumption) e_1 (by with_unfolding_all exact rfl) ?_; refine jg (by assumption) e_2 ?_)
  by_cases h2 : 2 ≤ way2.length
  rotate_left
  · have e : ∀ k : Act α, zm root k m way2 = yR root fun a => jZ a false k := by
      intro k
      cases m <;> (unfold zm; rw [if_neg h2])
    refine zh (by omega) ?_
    with_reducible (refine qk ?_; (try dsimp only); refine jy ?_; (try dsimp only); refine qb ?_; refine qK ?_; refine qC ?_; refine qZ ?_; refine qv (by assumption) e_1 (by with_unfolding_all exact rfl) ?_; refine jg (by assumption) e_2 ?_; refine xg (by omega) ?_; refine qk ?_; (try dsimp only); refine qh ?_; (try dsimp only); refine qC ?_; refine qZ ?_; refine qv (by assumption) e_1 (by with_unfolding_all exact rfl) ?_)
    refine qJ (w8 (by omega) H) ?_
    rintro _ h4 ⟨rfl, rfl⟩
    by_cases he : D2.err = 0
    · rw [decide_eq_true he]
      with_reducible (refine qR ?_; refine qx ?_)
      refine qJ (KM (α := α) (by omega) H G2) ?_
      rintro _ h5 ⟨a, D5, rfl, E5, A5, b5, H5⟩
      refine qJ (zN (α := α) (by omega) H5 A5.good (by omega)) ?_
      rintro _ h6 ⟨D6, E6, A6, H6⟩
      with_reducible (refine qE ?_)
      exact qz ⟨D6, _, _, fun k => (E k).trans (by rw [e]; exact (E5 _).trans (E6 _)), A6.good, H6⟩
    · rw [decide_eq_false he]
      with_reducible (refine qR ?_; refine qK ?_; refine qE ?_)
      exact qz ⟨D2, _, _, fun k => (E k).trans (EqR.errs he ⟨rfl, rfl⟩), G2, H⟩
  refine zl (by omega) ?_
  with_reducible (refine qk ?_; (try dsimp only); refine qh ?_; (try dsimp only); refine qC ?_; refine qZ ?_; refine qv (by assumption) e_1 (by with_unfolding_all exact rfl) ?_)
  refine qJ (wP (by omega) H G2) ?_
  rintro _ h4 ⟨rfl, H4⟩
  have hs2 := G2.st
  have G3 := G2.step (by omega)
  cases m with
  | zero =>
    have herr := Jj (D := D2) (by omega)
    rw [decide_eq_false herr]
    with_reducible (refine qR ?_; refine qK ?_; refine qC ?_; refine qZ ?_; refine qv (by assumption) e_1 (by with_unfolding_all exact rfl) ?_; refine jg (by assumption) e_2 ?_; refine zB (by omega) ?_; refine qk ?_; (try dsimp only); refine jy ?_; (try dsimp only); refine qb ?_; refine qK ?_; refine qE ?_)
    refine qz ⟨_, _, _, fun k => (E k).trans ?_, G3.1, H4⟩
    unfold zm
    rw [if_pos h2]
    exact XW (by omega)
  | succ m =>
    obtain ⟨up, hup⟩ : ∃ up, up = zg way2 (way2.length - 1) := ⟨_, rfl⟩
    obtain ⟨gr, hgr⟩ : ∃ gr, gr = zg way2 (way2.length - 2) := ⟨_, rfl⟩
    have bu : (0 ≤ up.1 ∧ up.1 ≤ 2147483648) ∧ (0 ≤ up.2 ∧ up.2 ≤ 1) := by rw [hup]; exact O.nth (by omega)
    have bg : (0 ≤ gr.1 ∧ gr.1 ≤ 2147483648) ∧ (0 ≤ gr.2 ∧ gr.2 ≤ 1) := by rw [hgr]; exact O.nth (by omega)
    have E3 : ∀ k : Act α, EqR (qO (zm root k 2049 way) D) (qO (xk up.1 fun r => if r = false then k else
        qu gr.1 (1 - gr.2) fun uncle => xk uncle fun ru => if ru = false then xc root way2 up gr k else
        jZ up.1 false (jZ uncle false (jZ gr.1 true (zm root k m (way2.take (way2.length - 2)))))) (zx D2)) := by
      intro k
      refine (E k).trans ?_
      rw [zm, if_pos h2, hup, hgr]
      exact wI
    by_cases herr : (zx D2).err = 0
    rotate_left
    · rw [decide_eq_false herr]
      with_reducible (refine qR ?_; refine qK ?_; refine qC ?_; refine qZ ?_; refine qv (by assumption) e_1 (by with_unfolding_all exact rfl) ?_; refine jg (by assumption) e_2 ?_; refine zB (by omega) ?_; refine qk ?_; (try dsimp only); refine jy ?_; (try dsimp only); refine qb ?_; refine qK ?_; refine qE ?_)
      exact qz ⟨_, _, _, fun k => (E3 k).trans (EqR.errs herr ⟨rfl, rfl⟩), G3.1, H4⟩
    rw [decide_eq_true herr]
    obtain ⟨G3, hs3⟩ := G3
    generalize zx D2 = D3 at *
    with_reducible (refine qR ?_; refine qx ?_; refine qC ?_; refine qZ ?_; refine qv (by assumption) e_1 (by with_unfolding_all exact rfl) ?_; refine jg (by assumption) e_2 ?_; refine qk ?_; (try dsimp only); refine qC ?_; refine qZ ?_; refine qv (by assumption) e_1 (by with_unfolding_all exact rfl) ?_; refine jD (by omega) ?_)
    rw [show ((way2.length : Nat) : Int) - ((1 : Nat) : Int) = ((way2.length - 1 : Nat) : Int) by omega]
    refine z7 (l := yw up) (H4.sl e_2) (show way2.length - 1 < way2.length by omega) (by omega) (by rw [hup]; exact MU (by omega)) ?_
    with_reducible (refine qC ?_; refine qZ ?_; refine qv (by assumption) e_1 (by with_unfolding_all exact rfl) ?_; refine jD (by omega) ?_)
    rw [show ((way2.length : Nat) : Int) - ((2 : Nat) : Int) = ((way2.length - 2 : Nat) : Int) by omega]
    refine qJ9 (H4.sl e_2) (show way2.length - 2 < way2.length by omega) fun b2 off hb2 hA => ?_
    have hA2 : ∀ {D' : Nat → Prop} {h' : AH}, Sl D' h' 2 way2.length wv2 (way2.flatMap yw) → ∀ j, j < 2 → h'.at b2 (off + j) = (yw gr)[j]? := by
      intro D' h' S' j hj
      rw [hA S' j hj, Xf (by omega) hj, hgr]
    clear hup hgr hA
    refine YQ (l := yw gr) rfl (by omega) (hA2 (H4.sl e_2)) ?_
    obtain ⟨ua, us⟩ := up
    obtain ⟨ga, gs⟩ := gr
    dsimp only at bu bg
    refine jx H4 rfl fun b5 h5 H5 => ?_
    refine jx H5 rfl fun b6 h6 H6 => ?_
    refine js H6 (b := b5) e_1 rfl (by simp [yw]) rfl fun h7 H7 => ?_
    refine js H7 (b := b6) e_1 rfl (by simp [yw]) rfl fun h8 H8 => ?_
    refine ME rfl (by omega) (hA2 (H6.sl e_4)) (hA2 (H7.sl e_4)) hb2 ?_
    refine vS H6 (b := t) e_3 rfl H7 e_3 rfl (HS.lt H4 e_1) ?_
    have H8 : HS g h8 (qg b6 [.int .i64 ga, .int .i64 gs] :: qg b5 [.int .i64 ua, .int .i64 us] :: DrC d D3 :: TrC t d root wv2 :: zC wv2 way2 :: R) := H8
    have H8 : HS g h8 (DrC d D3 :: TrC t d root wv2 :: zC wv2 way2 :: qg b6 [.int .i64 ga, .int .i64 gs] :: qg b5 [.int .i64 ua, .int .i64 us] :: R) := H8.sub (.cons e_2 (.cons e_2 (.cons e_2 (.cons .here (.cons .here .refl)))))
    clear H H4 H5 H6 H7
    with_reducible (refine qZ ?_; refine qv (by assumption) e_4 (by with_unfolding_all exact rfl) ?_)
    refine qJ (wQ (α := α) (by omega) H8 G3 bu.1) ?_
    rintro _ h9 ⟨r, D9, rfl, E9, A9, H9⟩
    cases r with
    | false =>
      with_reducible (refine jl ?_; refine qx ?_; refine qE ?_)
      exact qz ⟨_, _, _, fun k => (E3 k).trans (E9 _), A9.good, H9.sub (.cons .here (.cons .here (.cons .here (.drop (.drop .refl)))))⟩
    | true =>
      with_reducible (refine jb ?_; refine qK ?_; refine qZ ?_; refine qv (by assumption) e_3 (by with_unfolding_all exact rfl) ?_; refine qZ ?_; refine qv (by assumption) e_3 (by with_unfolding_all exact rfl) ?_; refine jD (by omega) ?_)
      refine qJ (zj (α := α) (by omega) H9 A9.good bg.1) ?_
      rintro _ h10 ⟨uncle, D10, rfl, E10, A10, b10, H10⟩
      refine qJ (wQ (α := α) (by omega) H10 A10.good (by omega)) ?_
      rintro _ h11 ⟨ru, D11, rfl, E11, A11, H11⟩
      have E12 : ∀ k : Act α, _ := fun k => (E3 k).trans ((E9 _).trans ((E10 _).trans (E11 _)))
      cases ru with
      | false =>
        with_reducible (refine jl ?_; refine qx ?_)
        refine jW H11 (b := b5) (off := 0) e_4 rfl (by omega) rfl ?_
        refine jW H11 (b := b6) (off := 0) e_3 rfl (by omega) rfl ?_
        refine qJ (Kl (α := α) (up := (ua, us)) (grand := (ga, gs)) (by omega) H11 A11.good O h2 (by omega) bu bg) ?_
        rintro _ h12 ⟨D12, E13, A12, H12⟩
        with_reducible (refine qE ?_)
        exact qz ⟨_, _, _, fun k => (E12 k).trans (E13 _), A12.good, H12.sub (.cons .here (.cons .here (.cons .here (.drop (.drop .refl)))))⟩
      | true =>
        with_reducible (refine jb ?_; refine qK ?_; refine qZ ?_; refine qv (by assumption) e_4 (by with_unfolding_all exact rfl) ?_)
        refine qJ (zN (α := α) (by omega) H11 A11.good bu.1) ?_
        rintro _ h12 ⟨D12, E13, A12, H12⟩
        refine qJ (zN (α := α) (by omega) H12 A12.good (by omega)) ?_
        rintro _ h13 ⟨D13, E14, A13, H13⟩
        with_reducible (refine qZ ?_; refine qv (by assumption) e_3 (by with_unfolding_all exact rfl) ?_)
        refine qJ (zN (α := α) (by omega) H13 A13.good bg.1) ?_
        rintro _ h14 ⟨D14, E15, A14, H14⟩
        with_reducible (refine qC ?_; refine qZ ?_; refine qv (by assumption) e_1 (by with_unfolding_all exact rfl) ?_; refine jD (by omega) ?_)
        rw [show ((way2.length : Nat) : Int) - ((2 : Nat) : Int) = ((way2.length - 2 : Nat) : Int) by omega]
        refine XV (H14.sel e_2) (by omega) (show way2.length - 2 ≤ way2.length by omega) fun v15 H15 => ?_
        have o15 := H15.one .here
        with_reducible (refine qC ?_; refine qZ ?_)
        refine jB H15 (b := t) e_2 o15 (by simp) fun h16 H16 => ?_
        have ht : (way2.flatMap yw).take ((way2.length - 2) * 2) = (way2.take (way2.length - 2)).flatMap yw := UH _ _
        have hlen : (way2.take (way2.length - 2)).length = way2.length - 2 := by rw [List.length_take]; omega
        have H16 : HS g h16 (TrC t d root v15 :: zC v15 (way2.take (way2.length - 2)) :: DrC d D14 :: qg b6 [.int .i64 ga, .int .i64 gs] :: qg b5 [.int .i64 ua, .int .i64 us] :: R) := by
          have H17 : HS g h16 (TrC t d root v15 :: qS 140 2 (way2.length - 2) v15 ((way2.flatMap yw).take ((way2.length - 2) * 2)) :: DrC d D14 :: qg b6 [.int .i64 ga, .int .i64 gs] :: qg b5 [.int .i64 ua, .int .i64 us] :: R) := H16
          rw [ht] at H17
          unfold zC
          rw [hlen]
          exact H17
        have q1 := A9.stp
        have q2 := A10.stp
        have q3 := A11.stp
        have q4 := A12.stp
        have q5 := A13.stp
        have q6 := A14.stp
        exact hih m _ _ (by omega) ⟨way2.take (way2.length - 2), v15, D14, rfl, fun k => (E12 k).trans ((E13 _).trans ((E14 _).trans (E15 _))), A14.good, O.take, by omega, by omega, by omega, H16.sub (.cons e_2 (.cons .here (.cons .here (.drop (.drop .refl)))))⟩
end Go.Proofs.YtpohfcljfemhlaaGreat.arenaParts
namespace Go.Proofs.YtpohfcljfemhlaaGreat.arenaParts
open Go Go.Ae arenaPlays
set_option maxRecDepth 100000
variable {α : Type}
structure Stp (D : DM) (a : Int) (m : Nat) : Prop where
  e0 : D.err ≠ 0 → a = 0
  e1 : D.err = 0 → D.stp ≤ 2048
  e2 : D.stp ≤ 2049
  fu : D.err = 0 → 2049 ≤ D.stp + m
  mm : m ≤ 2049
structure Stq (D D' : DM) : Prop where
  le : D.stp ≤ D'.stp
  e1 : D'.err = 0 → D'.stp ≤ 2048
  e2 : D'.stp ≤ 2049
  st : D.err ≠ 0 → D'.err ≠ 0
theorem Stp.q {D : DM} {a : Int} {m : Nat} (S : Stp D a m) : Stq D D := ⟨Int.le_refl _, S.e1, S.e2, fun h => h⟩
theorem Stq.aft {D0 D D' : DM} (q : Stq D0 D) (h : D'.stp = D.stp) (hs : D.err ≠ 0 → D'.err ≠ 0) : Stq D0 D' := by
  have := q.le
  refine ⟨by omega, fun he => ?_, by have := q.e2; omega, fun h0 => hs (q.st h0)⟩
  by_cases h0 : D.err = 0
  · have := q.e1 h0; omega
  · exact absurd he (hs h0)
theorem Stq.trans {D0 D D' : DM} (q : Stq D0 D) (q2 : Stq D D') : Stq D0 D' := ⟨Int.le_trans q.le q2.le, q2.e1, q2.e2, fun h => q2.st (q.st h)⟩
theorem Stp.step {D : DM} {a : Int} {m : Nat} (S : Stp D a m) (h0 : D.err = 0) : Stq D (zx D) ∧ (zx D).stp = D.stp + 1 := by
  have h1 := S.e1 h0
  unfold zx xi
  rw [if_pos (show ({ D with stp := D.stp + 1 } : DM).err = 0 from h0)]
  split
  · exact ⟨⟨by dsimp only; omega, fun h => absurd h (by show (2 : Int) ≠ 0; omega), by dsimp only; omega, fun h => absurd h0 h⟩, rfl⟩
  · exact ⟨⟨by dsimp only; omega, fun _ => by dsimp only; omega, by dsimp only; omega, fun h => absurd h0 h⟩, rfl⟩
theorem Stq.p {D0 D : DM} {a : Int} {m : Nat} (q : Stq D0 D) (h0 : D.err ≠ 0 → a = 0) (hf : 2049 ≤ D0.stp + m) (hm : m ≤ 2049) : Stp D a m := ⟨h0, q.e1, q.e2, fun _ => by have := q.le; omega, hm⟩
theorem qZo : ∀ {m n : Nat} (hn : 15 + m ≤ n) {g h : AH} {R : List SP} {t d : Nat} {D : DM} {root a : Int} {wv : AV} {sz : Nat} (H : HS g h (DrC d D :: TrC t d root wv :: R)) (G : jX D sz 5) (hb : 0 ≤ a ∧ a < 2147483648) (S : Stp D a m),
    wp (qw tab qI n (.fn 60 [] []) [.ptr t 0, .int .i64 a] h) fun r h' => ∃ (v : Int) (D' : DM), r = .int .i64 v ∧ (∀ k : Int → Act α, EqR (qO (QC m a k) D) (qO (k v) D')) ∧ jX D' sz 5 ∧ Stq D D' ∧ (0 ≤ v ∧ v ≤ m) ∧ HS g h' (DrC d D' :: TrC t d root wv :: R) := by
  intro m
  induction m with
  | zero =>
    intro n hn g h R t d D root a wv sz H G hb S
    have ha : a = 0 := by
      by_cases h0 : D.err = 0
      · have := S.e1 h0; have := S.fu h0; omega
      · exact S.e0 h0
    (refine qc (g := W60) rfl (by omega) fun k hk => ?_; show wp (S60 (qw tab qI k) _ _ _) _; unfold S60; try simp only [iI, uU, Int.ofNat_eq_natCast])
    refine jk ha ?_
    with_reducible (refine qk ?_; (try dsimp only); refine jt ?_; (try dsimp only); refine qR ?_; refine qx ?_)
    exact qz ⟨0, D, rfl, fun k => by unfold QC; rw [if_pos ha]; exact EqR.refl _, G, S.q, by omega, H⟩
  | succ m ih =>
    intro n hn g h R t d D root a wv sz H G hb S
    (refine qc (g := W60) rfl (by omega) fun k hk => ?_; show wp (S60 (qw tab qI k) _ _ _) _; unfold S60; try simp only [iI, uU, Int.ofNat_eq_natCast])
    by_cases ha : a = 0
    · refine jk ha ?_
      with_reducible (refine qk ?_; (try dsimp only); refine jt ?_; (try dsimp only); refine qR ?_; refine qx ?_)
      exact qz ⟨0, D, rfl, fun k => by unfold QC; rw [if_pos ha]; exact EqR.refl _, G, S.q, by omega, H⟩
    have h0 : D.err = 0 := by
      by_cases h0 : D.err = 0
      · exact h0
      · exact absurd (S.e0 h0) ha
    have hf := S.fu h0
    have hmm := S.mm
    refine qp ha ?_
    with_reducible (refine qk ?_; (try dsimp only); refine jJ ?_; (try dsimp only); refine qC ?_; refine qZ ?_; refine qv (by assumption) e_1 (by with_unfolding_all exact rfl) ?_)
    refine qJ (wP (by omega) H G) ?_
    rintro _ h4 ⟨rfl, H4⟩
    have hgs := G.st
    have hse := S.e2
    have G3 := G.step (by omega)
    have S3 := S.step h0
    have E3 : ∀ k : Int → Act α, EqR (qO (QC (m + 1) a k) D) (qO (qu a 0 fun l => QC m l fun x => qu a 1 fun r => QC m r fun y => k (1 + max x y)) (zx D)) := by
      intro k
      rw [QC, if_neg ha]
      exact wI
    by_cases herr : (zx D).err = 0
    rotate_left
    · rw [decide_eq_false herr]
      with_reducible (refine jl ?_; refine qb ?_; refine qx ?_)
      exact qz ⟨0, _, rfl, fun k => (E3 k).trans (EqR.errs herr ⟨rfl, rfl⟩), G3.1, S3.1, by omega, H4⟩
    rw [decide_eq_true herr]
    obtain ⟨G3, hs3⟩ := G3
    obtain ⟨Q3, _⟩ := S3
    generalize zx D = D3 at *
    with_reducible (refine jb ?_; refine qb ?_; refine qK ?_)
    refine qJ (zj (α := α) (by omega) H4 G3 (by omega)) ?_
    rintro _ h5 ⟨l, D5, rfl, E5, A5, b5, H5⟩
    have Q5 := Q3.aft A5.stp b5.2.2
    have hs5 := A5.stp
    refine qJ (ih (by omega) H5 A5.good b5.1 ⟨b5.2.1, Q5.e1, Q5.e2, fun _ => by omega, by omega⟩) ?_
    rintro _ h6 ⟨x, D6, rfl, E6, G6, Q6, b6, H6⟩
    have Q6' := Q5.trans Q6
    refine qJ (zj (α := α) (by omega) H6 G6 (by omega)) ?_
    rintro _ h7 ⟨r, D7, rfl, E7, A7, b7, H7⟩
    have Q7 := Q6'.aft A7.stp b7.2.2
    have hs7 := A7.stp
    have hl6 := Q6.le
    refine qJ (ih (by omega) H7 A7.good b7.1 ⟨b7.2.1, Q7.e1, Q7.e2, fun _ => by omega, by omega⟩) ?_
    rintro _ h8 ⟨y, D8, rfl, E8, G8, Q8, b8, H8⟩
    have Q8' := Q7.trans Q8
    refine yH (qU (by omega) ?_)
    exact qz ⟨_, D8, rfl, fun k => (E3 k).trans ((E5 _).trans ((E6 _).trans ((E7 _).trans (E8 _)))), G8, Q8', by omega, H8⟩
def encP (p : qm) : List AV := [.int .u64 p.1, .int .u64 p.2]
abbrev Qx (ov : AV) (out : List qm) : SP := qS 78 2 out.length ov (out.flatMap encP)
def bk2 (lo hi : Int) (m : Nat) (a key : Int) (k : List qm → Act α) (out : List qm) : Act α := if key < hi then qu a 1 fun c => jM lo hi m c out k else k out
def bk1 (lo hi : Int) (m : Nat) (a key : Int) (k : List qm → Act α) (out : List qm) : Act α := if lo ≤ key ∧ key ≤ hi then .read (a + 1) fun x => bk2 lo hi m a key k (out ++ [(key, x)]) else bk2 lo hi m a key k out
theorem qQo {lo hi : Int} {m : Nat} {a : Int} {out : List qm} {k : List qm → Act α} : jM lo hi (m + 1) a out k = if a = 0 then k out else .step (.read a fun key => if lo < key then qu a 0 fun c => jM lo hi m c out (bk1 lo hi m a key k) else bk1 lo hi m a key k out) := rfl
theorem VZ : ∀ {m n : Nat} (hn : 15 + m ≤ n) {g h : AH} {R : List SP} {t d : Nat} {D : DM} {root a lo hi : Int} {wv ov : AV} {out : List qm} {sz : Nat} (H : HS g h (DrC d D :: TrC t d root wv :: Qx ov out :: R)) (G : jX D sz 5) (hb : 0 ≤ a ∧ a < 2147483648) (S : Stp D a m) (hol : (out.length : Int) ≤ 10000 + D.stp),
    wp (qw tab qI n (.fn 63 [] []) [.ptr t 0, .int .i64 a, .int .u64 lo, .int .u64 hi, ov] h) fun r h' => ∃ (out' : List qm) (D' : DM), (∀ k : List qm → Act α, EqR (qO (jM lo hi m a out k) D) (qO (k out') D')) ∧ jX D' sz 5 ∧ Stq D D' ∧ (out'.length : Int) + D.stp ≤ out.length + D'.stp ∧
      HS g h' (DrC d D' :: TrC t d root wv :: Qx r out' :: R) := by
  intro m
  induction m with
  | zero =>
    intro n hn g h R t d D root a lo hi wv ov out sz H G hb S hol
    have ha : a = 0 := by
      by_cases h0 : D.err = 0
      · have := S.e1 h0; have := S.fu h0; omega
      · exact S.e0 h0
    (refine qc (g := W63) rfl (by omega) fun k hk => ?_; show wp (S63 (qw tab qI k) _ _ _ _ _ _) _; unfold S63; try simp only [iI, uU, Int.ofNat_eq_natCast])
    refine jk ha ?_
    with_reducible (refine qk ?_; (try dsimp only); refine jt ?_; (try dsimp only); refine qR ?_; refine qx ?_)
    exact qz ⟨out, D, fun k => by unfold jM; rw [if_pos ha]; exact EqR.refl _, G, S.q, by omega, H⟩
  | succ m ih =>
    intro n hn g h R t d D root a lo hi wv ov out sz H G hb S hol
    (refine qc (g := W63) rfl (by omega) fun k hk => ?_; show wp (S63 (qw tab qI k) _ _ _ _ _ _) _; unfold S63; try simp only [iI, uU, Int.ofNat_eq_natCast])
    by_cases ha : a = 0
    · refine jk ha ?_
      with_reducible (refine qk ?_; (try dsimp only); refine jt ?_; (try dsimp only); refine qR ?_; refine qx ?_)
      exact qz ⟨out, D, fun k => by rw [qQo, if_pos ha]; exact EqR.refl _, G, S.q, by omega, H⟩
    have h0 : D.err = 0 := by
      by_cases h0 : D.err = 0
      · exact h0
      · exact absurd (S.e0 h0) ha
    have hf := S.fu h0
    have hmm := S.mm
    refine qp ha ?_
    with_reducible (refine qk ?_; (try dsimp only); refine jJ ?_; (try dsimp only); refine qC ?_; refine qZ ?_; refine qv (by assumption) e_1 (by with_unfolding_all exact rfl) ?_)
    refine qJ (wP (by omega) H G) ?_
    rintro _ h4 ⟨rfl, H4⟩
    have hgs := G.st
    have hse := S.e2
    have G3 := G.step (by omega)
    have S3 := S.step h0
    have E3 : ∀ k : List qm → Act α, EqR (qO (jM lo hi (m + 1) a out k) D) (qO (.read a fun key => if lo < key then qu a 0 fun c => jM lo hi m c out (bk1 lo hi m a key k) else bk1 lo hi m a key k out) (zx D)) := by
      intro k
      rw [qQo, if_neg ha]
      exact wI
    by_cases herr : (zx D).err = 0
    rotate_left
    · rw [decide_eq_false herr]
      with_reducible (refine jl ?_; refine qb ?_; refine qx ?_)
      exact qz ⟨out, _, fun k => (E3 k).trans (EqR.errs herr ⟨rfl, rfl⟩), G3.1, S3.1, by omega, H4⟩
    rw [decide_eq_true herr]
    obtain ⟨G3, hs3⟩ := G3
    obtain ⟨Q3, _⟩ := S3
    generalize zx D = D3 at *
    with_reducible (refine jb ?_; refine qb ?_; refine qK ?_; refine qC ?_; refine qZ ?_; refine qv (by assumption) e_1 (by with_unfolding_all exact rfl) ?_; refine qU (by omega) ?_)
    rw [show a + ((0 : Nat) : Int) = a by omega]
    refine qJ (xN (by omega) H4 G3.g.ok) ?_
    rintro _ h5 ⟨rfl, H5⟩
    have G4 := G3.read (p := a)
    have E4 : ∀ k : List qm → Act α, _ := fun k => (E3 k).trans run_read
    have hs4 : (zq D3 a).2.stp = D3.stp := xX
    have Q4 := Q3.aft (D' := (zq D3 a).2) xX Xk
    generalize zq D3 a = q4 at *
    obtain ⟨key, D4⟩ := q4
    obtain ⟨G4, b3, b4⟩ := G4
    dsimp only at *
    clear E3 H H4 G3 Q3
    refine z9 [] (fun s h' => ∃ (out2 : List qm) (ov2 : AV) (D2 : DM), s = (.int .u64 key, ov2, .int .u64 hi, .int .u64 lo, .int .i64 a, .ptr t 0, ()) ∧ (∀ k : List qm → Act α, EqR (qO (jM lo hi (m + 1) a out k) D) (qO (bk1 lo hi m a key k out2) D2)) ∧ jX D2 sz 5 ∧ Stq D D2 ∧ D.stp + 1 ≤ D2.stp ∧ (out2.length : Int) + D.stp + 1 ≤ out.length + D2.stp ∧
      HS g h' (DrC d D2 :: TrC t d root wv :: Qx ov2 out2 :: R)) ?_ ?_
    · intro j hj
      by_cases hlk : lo < key
      · refine xg hlk (qx ?_)
        refine qJ (zj (α := α) (by omega) H5 G4 (by omega)) ?_
        rintro _ h6 ⟨c, D6, rfl, E6, A6, b6, H6⟩
        have Q6 := Q4.aft A6.stp b6.2.2
        have hs6 := A6.stp
        have hq6 := Q6.e2
        refine qJ (ih (by omega) H6 A6.good b6.1 ⟨b6.2.1, Q6.e1, Q6.e2, fun _ => by omega, by omega⟩ (by omega)) ?_
        rintro ov7 h7 ⟨out7, D7, E7, G7, Q7, l7, H7⟩
        have hl7 := Q7.le
        exact hj _ _ ⟨out7, ov7, D7, rfl, fun k => (E4 k).trans (by rw [if_pos hlk]; exact (E6 _).trans (E7 _)), G7, Q6.trans Q7, by omega, by omega, H7⟩
      · refine zB hlk (qK ?_)
        exact hj _ _ ⟨out, ov, D4, rfl, fun k => (E4 k).trans (by rw [if_neg hlk]; exact EqR.refl _), G4, Q4, by omega, by omega, H5⟩
    clear E4 H5 G4 Q4 hs4
    rintro s h6 ⟨out2, ov2, D2, rfl, E6, G6, Q6, l6, l6b, H6⟩
    dsimp only
    have hq6 := Q6.e2
    refine z9 [] (fun s h' => ∃ (out2 : List qm) (ov2 : AV) (D2 : DM), s = (.int .u64 key, ov2, .int .u64 hi, .int .u64 lo, .int .i64 a, .ptr t 0, ()) ∧ (∀ k : List qm → Act α, EqR (qO (jM lo hi (m + 1) a out k) D) (qO (bk2 lo hi m a key k out2) D2)) ∧ jX D2 sz 5 ∧ Stq D D2 ∧ D.stp + 1 ≤ D2.stp ∧ (out2.length : Int) + D.stp ≤ out.length + D2.stp ∧
      HS g h' (DrC d D2 :: TrC t d root wv :: Qx ov2 out2 :: R)) ?_ ?_
    · intro j hj
      by_cases hin : lo ≤ key ∧ key ≤ hi
      · refine yQ hin.1 ?_
        with_reducible (refine qk ?_; (try dsimp only); refine qh ?_; (try dsimp only); refine yQ (by omega) ?_; refine qR ?_; refine qx ?_; refine qC ?_; refine qZ ?_; refine qv (by assumption) e_1 (by with_unfolding_all exact rfl) ?_; refine qU (by omega) ?_)
        rw [show a + ((1 : Nat) : Int) = a + 1 from rfl]
        refine qJ (xN (by omega) H6 G6.g.ok) ?_
        rintro _ h7 ⟨rfl, H7⟩
        have G7 := G6.read (p := a + 1)
        have E7 : ∀ k : List qm → Act α, _ := fun k => (E6 k).trans (by unfold bk1; rw [if_pos hin]; exact run_read)
        have Q7 := Q6.aft (D' := (zq D2 (a + 1)).2) xX Xk
        have hs7 : (zq D2 (a + 1)).2.stp = D2.stp := xX
        generalize zq D2 (a + 1) = q7 at *
        obtain ⟨x, D7⟩ := q7
        obtain ⟨G7, b5, b6⟩ := G7
        dsimp only at *
        with_reducible (refine ql (by with_unfolding_all exact rfl) ?_)
        refine jp (n := 1) (l := [.int .u64 key, .int .u64 x]) (sz := 2) H7 rfl rfl rfl rfl fun v8 h8 H8 => ?_
        refine z4 (H8.sel e_3) (H8.sl .here) (by omega) (by omega) rfl fun v9 h9 H9 => ?_
        refine hj _ _ ⟨out2 ++ [(key, x)], v9, D7, rfl, E7, G7, Q7, by omega, by simp; omega, ?_⟩
        unfold Qx
        rw [List.flatMap_append, List.length_append]
        exact H9.sub (.cons e_2 (.cons e_2 (.cons .here (.drop .refl))))
      · have E7 : ∀ k : List qm → Act α, EqR (qO (jM lo hi (m + 1) a out k) D) (qO (bk2 lo hi m a key k out2) D2) := fun k => (E6 k).trans (by unfold bk1; rw [if_neg hin]; exact EqR.refl _)
        by_cases hlo : lo ≤ key
        · refine yQ hlo ?_
          with_reducible (refine qk ?_; (try dsimp only); refine qh ?_; (try dsimp only); refine gl (by omega) ?_; refine qR ?_; refine qK ?_)
          exact hj _ _ ⟨out2, ov2, D2, rfl, E7, G6, Q6, by omega, by omega, H6⟩
        · refine gl hlo ?_
          with_reducible (refine qk ?_; (try dsimp only); refine jy ?_; (try dsimp only); refine qb ?_; refine qK ?_)
          exact hj _ _ ⟨out2, ov2, D2, rfl, E7, G6, Q6, by omega, by omega, H6⟩
    clear E6 H6 G6 Q6 l6 l6b hq6
    rintro s h7 ⟨out3, ov3, D3, rfl, E7, G7, Q7, l7, l7b, H7⟩
    dsimp only
    have hq7 := Q7.e2
    by_cases hkh : key < hi
    · refine xg hkh ?_
      with_reducible (refine qx ?_)
      refine qJ (zj (α := α) (by omega) H7 G7 (by omega)) ?_
      rintro _ h8 ⟨c, D8, rfl, E8, A8, b8, H8⟩
      have Q8 := Q7.aft A8.stp b8.2.2
      have hs8 := A8.stp
      have hq8 := Q8.e2
      refine qJ (ih (by omega) H8 A8.good b8.1 ⟨b8.2.1, Q8.e1, Q8.e2, fun _ => by omega, by omega⟩ (by omega)) ?_
      rintro ov9 h9 ⟨out9, D9, E9, G9, Q9, l9, H9⟩
      with_reducible (refine qE ?_)
      exact qz ⟨out9, D9, fun k => (E7 k).trans (by unfold bk2; rw [if_pos hkh]; exact (E8 _).trans (E9 _)), G9, Q8.trans Q9, by omega, H9⟩
    · refine zB hkh ?_
      with_reducible (refine qK ?_; refine qE ?_)
      exact qz ⟨out3, D3, fun k => (E7 k).trans (by unfold bk2; rw [if_neg hkh]; exact EqR.refl _), G7, Q7, by omega, H7⟩
end Go.Proofs.YtpohfcljfemhlaaGreat.arenaParts
namespace Go.Proofs.YtpohfcljfemhlaaGreat
open Go Go.Ae
set_option maxRecDepth 100000
variable {g h : AH} {L R : List SP}
def knw (V : VM) (c : Cl) : VM := (gg V c.1 c.2).2
def ofV (M : VM) : VM := M.K.foldl knw ((jY M.lv).foldl knw (lvV M.sz [] [] [] 0))
theorem JJ : ∀ {l : List Cl} {V : VM}, OkV V → OkV (l.foldl knw V) := by
  intro l
  induction l with
  | nil => intro V O; exact O
  | cons c l ih => intro V O; exact ih (qQc O)
theorem qXf {V : VM} {p x : Int} : (gg V p x).2.sz = V.sz := by
  unfold gg
  repeat' split
  all_goals rfl
theorem knws_sz : ∀ {l : List Cl} {V : VM}, (l.foldl knw V).sz = V.sz := by
  intro l
  induction l with
  | nil => intro V; rfl
  | cons c l ih => intro V; exact ih.trans qXf
theorem knws_lv : ∀ {l : List Cl} {V : VM}, (l.foldl knw V).lv = V.lv := by
  intro l
  induction l with
  | nil => intro V; rfl
  | cons c l ih =>
    intro V
    refine ih.trans ?_
    unfold knw gg
    repeat' split
    all_goals rfl
theorem qK9 {V : VM} {c : Cl} (W : WdV V) (h : 0 ≤ c.2 ∧ c.2 < 18446744073709551616) : WdV (knw V c) := by
  unfold knw gg
  split
  · split
    · exact W
    · refine ⟨fun d hd => ?_, W.l⟩
      rcases List.mem_append.1 hd with h1 | h1
      · exact W.k d h1
      · rw [List.mem_singleton.1 h1]; exact h
  · exact W
theorem Me : ∀ {l : List Cl} {V : VM}, WdV V → WdC l → WdV (l.foldl knw V) := by
  intro l
  induction l with
  | nil => intro V W _; exact W
  | cons c l ih => intro V W h; exact ih (qK9 W (h c (List.mem_cons_self ..))) fun d hd => h d (List.mem_cons_of_mem _ hd)
theorem qKE : ∀ {cs l : List Cl}, WdC l → WdC cs → WdC (zy l cs) := by
  intro cs
  induction cs with
  | nil => intro l h _; exact h
  | cons c cs ih => intro l h1 h2; exact ih (l := zo c.1 c.2 l) (h1.put (h2 c (List.mem_cons_self ..))) fun d hd => h2 d (List.mem_cons_of_mem _ hd)
theorem Yx : ∀ {lv : List LvM} {out : List Cl}, WdC out → (∀ x ∈ lv, WdC x.1) → WdC (lv.foldl (fun out x => zy x.1 out) out) := by
  intro lv
  induction lv with
  | nil => intro out h _; exact h
  | cons x r ih => intro out h1 h2; exact ih (qKE (h2 x (List.mem_cons_self ..)) h1) fun y hy => h2 y (List.mem_cons_of_mem _ hy)
theorem Qa {M : VM} (O : OkV M) : OkV (lvV M.sz [] [] [] 0) :=
  ⟨O.lo, O.hi, G1 (show (96 : Nat) ≤ 96 by omega), (fun c hc => by cases hc), List.nodup_nil, fun x hx => by rw [List.mem_singleton.1 hx]; show (0 : Nat) < 100000; omega⟩
theorem qXb {M : VM} (G : jC M) : jC (ofV M) :=
  ⟨JJ (JJ (Qa G.ok)), Me (Me ⟨fun c hc => (by cases hc), fun x hx c hc => (by rw [List.mem_singleton.1 hx] at hc; cases hc)⟩ (Yx (fun c hc => by cases hc) G.wd.l)) G.wd.k⟩
theorem of_sz {M : VM} : (ofV M).sz = M.sz := knws_sz.trans knws_sz
theorem of_lv {M : VM} : (ofV M).lv = [([], [])] := knws_lv.trans knws_lv
theorem gD {M : VM} (G : jC M) : jX ⟨ofV M, 0, 0⟩ M.sz 5 := ⟨qXb G, of_sz, by show frS (ofV M).lv ≤ 5; rw [of_lv]; simp [frS], by dsimp only; omega⟩
theorem qXd {n : Nat} (hn : 11 ≤ n) {v : Nat} {M : VM} (H : HS g h (ViewC v M :: R)) (O : OkV M) :
    wp (qw tab qI n (.fn 80 [] []) [.ptr v 0] h) fun r h' => ∃ q, r = .ptr q 0 ∧ HS g h' (ViewC q (ofV M) :: ViewC v M :: R) := by
  (refine qc (g := W80) rfl (by omega) fun k hk => ?_; show wp (S80 (qw tab qI k) _ _) _; unfold S80; try simp only [iI, uU, Int.ofNat_eq_natCast])
  have hlo := O.lo
  have hhi := O.hi
  have hkl := O.klen
  refine qJ (kV (by omega) H) ?_
  rintro _ h1 ⟨rfl, rfl⟩
  refine qJ (KG (by omega) H) ?_
  rintro _ h2 ⟨q, rfl, H2⟩
  have e0 : V4 (M.sz : Int) ((96 : Nat) : Int) = lvV M.sz [] [] [] 0 := by
    unfold V4 lvV
    rw [show szZ (M.sz : Int) = M.sz by unfold szZ; omega]
    rfl
  rw [e0] at H2
  refine qJ (xf (by omega) (H2.sel e_1) O) fun cv h3 H3 => ?_
  have hO0 := Qa O
  have hml : (jY M.lv).length < 100000 := by
    have h1 := Jd (lv := M.lv) (out := [])
    have h2 := O.lvs.held
    have h3 := O.lvs.le
    show ((M.lv.foldl (fun out x => zy x.1 out) []).length) < _
    simp only [List.length_nil] at h1
    omega
  unfold ofV
  generalize jY M.lv = C at *
  refine jg H3 .here ?_
  refine jh (fun m s h' => ∃ i : Nat, s = (.int .i64 (i : Int), .int .i64 (C.length : Int), cv, .ptr q 0, .ptr v 0, ()) ∧ i ≤ C.length ∧ m = C.length - i ∧
    HS g h' (ViewC q ((C.take i).foldl knw (lvV M.sz [] [] [] 0)) :: qS 48 2 C.length cv (C.flatMap jO) :: ViewC v M :: R))
    ?_ (m := C.length) (by show _ < 1000000000; omega) ⟨0, rfl, by omega, by omega, by rw [List.take_zero]; exact H3.sub (.cons e_2 (.cons .here (.cons .here .refl)))⟩
  clear H H2 H3
  rintro m ih s h4 hih ⟨i, rfl, hi, rfl, H⟩
  dsimp only
  by_cases hlt : i < C.length
  · have hci : C[i]? = some C[i] := List.getElem?_eq_getElem hlt
    have hnext : (C.take (i + 1)).foldl knw (lvV M.sz [] [] [] 0) = knw ((C.take i).foldl knw (lvV M.sz [] [] [] 0)) C[i] := by rw [List.take_succ_eq_append_getElem hlt, List.foldl_append]; rfl
    have hrow : ((C.flatMap jO).drop (i * 2)).take 2 = jO C[i] := k0 (sz := 2) (fun _ => rfl) hci
    generalize C[i] = c at *
    obtain ⟨p, x⟩ := c
    with_reducible (refine xg (by omega) ?_; refine qx ?_)
    refine z7 (H.sl e_1) hlt (by omega) hrow ?_
    refine jx H rfl fun b h7 H7 => ?_
    refine js H7 (b := b) .here rfl (by simp [jO]) rfl fun h8 H8 => ?_
    have H8 : HS g h8 (qg b [.int .i64 p, .int .u64 x] :: ViewC q ((C.take i).foldl knw (lvV M.sz [] [] [] 0)) :: qS 48 2 C.length cv (C.flatMap jO) :: ViewC v M :: R) := H8
    with_reducible (refine qZ ?_; refine qv (by assumption) .here (by with_unfolding_all exact rfl) ?_; refine qZ ?_; refine qv (by assumption) .here (by with_unfolding_all exact rfl) ?_)
    refine qJ (Qs (by omega) (H8.sel e_1) (JJ hO0)) ?_
    rintro _ h9 ⟨_, H9⟩
    with_reducible (refine qU (by omega) ?_)
    refine hih (C.length - (i + 1)) _ _ (by omega) ⟨i + 1, rfl, by omega, rfl, ?_⟩
    rw [hnext]
    exact H9.sub (.cons .here (.drop .refl))
  obtain rfl : i = C.length := by omega
  clear hih
  rw [List.take_length] at H
  refine zB (by omega) (qK ?_)
  have hO1 : OkV (C.foldl knw (lvV M.sz [] [] [] 0)) := JJ hO0
  generalize C.foldl knw (lvV M.sz [] [] [] 0) = V1 at *
  refine qJ (Gv (by omega) (H.sel e_2) O) fun kv h5 H5 => ?_
  refine jg H5 .here ?_
  refine jh (fun m s h' => ∃ i : Nat, s = (.int .i64 (i : Int), .int .i64 (M.K.length : Int), kv, .ptr q 0, ()) ∧ i ≤ M.K.length ∧ m = M.K.length - i ∧
    HS g h' (ViewC q ((M.K.take i).foldl knw V1) :: qS 48 2 M.K.length kv (M.K.flatMap jO) :: ViewC v M :: R))
    ?_ (m := M.K.length) (by show _ < 1000000000; omega) ⟨0, rfl, by omega, by omega, by rw [List.take_zero]; exact H5.sub (.cons e_2 (.cons .here (.cons .here (.drop .refl))))⟩
  clear H H5
  rintro m ih s h6 hih ⟨i, rfl, hi, rfl, H⟩
  dsimp only
  by_cases hlt : i < M.K.length
  · have hci : M.K[i]? = some M.K[i] := List.getElem?_eq_getElem hlt
    have hnext : (M.K.take (i + 1)).foldl knw V1 = knw ((M.K.take i).foldl knw V1) M.K[i] := by rw [List.take_succ_eq_append_getElem hlt, List.foldl_append]; rfl
    have hrow : ((M.K.flatMap jO).drop (i * 2)).take 2 = jO M.K[i] := k0 (sz := 2) (fun _ => rfl) hci
    generalize M.K[i] = c at *
    obtain ⟨p, x⟩ := c
    with_reducible (refine xg (by omega) ?_; refine qx ?_)
    refine z7 (H.sl e_1) hlt (by omega) hrow ?_
    refine jx H rfl fun b h7 H7 => ?_
    refine js H7 (b := b) .here rfl (by simp [jO]) rfl fun h8 H8 => ?_
    have H8 : HS g h8 (qg b [.int .i64 p, .int .u64 x] :: ViewC q ((M.K.take i).foldl knw V1) :: qS 48 2 M.K.length kv (M.K.flatMap jO) :: ViewC v M :: R) := H8
    with_reducible (refine qZ ?_; refine qv (by assumption) .here (by with_unfolding_all exact rfl) ?_; refine qZ ?_; refine qv (by assumption) .here (by with_unfolding_all exact rfl) ?_)
    refine qJ (Qs (by omega) (H8.sel e_1) (JJ hO1)) ?_
    rintro _ h9 ⟨_, H9⟩
    with_reducible (refine qU (by omega) ?_)
    refine hih (M.K.length - (i + 1)) _ _ (by omega) ⟨i + 1, rfl, by omega, rfl, ?_⟩
    rw [hnext]
    exact H9.sub (.cons .here (.drop .refl))
  · obtain rfl : i = M.K.length := by omega
    rw [List.take_length] at H
    with_reducible (refine zB (by omega) ?_; refine qK ?_; refine qE ?_)
    exact qz ⟨q, rfl, H.sub (.cons .here (.drop .refl))⟩
def doG {α : Type} (M : VM) (act : Act α) : Int × VM :=
  if (qO act ⟨ofV M, 0, 0⟩).2.err = 11 then ((qM M (qO act ⟨ofV M, 0, 0⟩).2.M.need).1.2, (qM M (qO act ⟨ofV M, 0, 0⟩).2.M.need).2)
  else if (qO act ⟨ofV M, 0, 0⟩).2.err ≠ 0 then ((qO act ⟨ofV M, 0, 0⟩).2.err, M)
  else if (jw M (jY (qO act ⟨ofV M, 0, 0⟩).2.M.lv)).1 ≠ 0 then jw M (jY (qO act ⟨ofV M, 0, 0⟩).2.M.lv)
  else (0, (zE (qO act ⟨ofV M, 0, 0⟩).2.M.lv).foldl freeV (jw M (jY (qO act ⟨ofV M, 0, 0⟩).2.M.lv)).2)
theorem ZK {lv : List LvM} {b : Int} : frS (Qv lv b) ≤ frS lv + 1 := by
  cases lv with
  | nil => exact Nat.le_succ _
  | cons y r =>
    show frS ((y.1, y.2 ++ [b]) :: r) ≤ _
    rw [yM, yM, List.length_append]
    show y.2.length + 1 + frS r ≤ _
    omega
theorem we {α : Type} {n : Nat} (hn : 13 ≤ n) {v : Nat} {M : VM} {root : Int} {clo : AV} {act : Act α} {R1 : List SP} {R2 : Option α → List SP} (H : HS g h (ViewC v M :: R1)) (G : jC M) (hfr : frS M.lv ≤ 40000) (hr : 6 ≤ root ∧ root < 14)
    (hc : ∀ m h1 d, n = m + 1 → HS g h1 (DrC d ⟨ofV M, 0, 0⟩ :: ViewC v M :: R1) → wp (qw tab qI m clo [.ptr d 0] h1) fun _ h2 => ∃ (o : Option α) (D' : DM), EqR (qO act ⟨ofV M, 0, 0⟩) (o, D') ∧ jX D' M.sz 10 ∧ HS g h2 (DrC d D' :: ViewC v M :: R2 o)) :
    wp (qw tab qI n (.fn 50 [] []) [.ptr v 0, .int .i64 root, clo] h) fun r h' => r = .int .i64 (doG M act).1 ∧ (jC (doG M act).2 ∧ frS (doG M act).2.lv ≤ frS M.lv + 10) ∧ HS g h' (ViewC v (doG M act).2 :: R2 (qO act ⟨ofV M, 0, 0⟩).1) := by
  (refine qc (g := W50) rfl (by omega) fun k hk => ?_; show wp (S50 (qw tab qI k) _ _ _ _) _; unfold S50; try simp only [iI, uU, Int.ofNat_eq_natCast])
  with_reducible (refine zB (by omega) ?_; refine qk ?_; (try dsimp only); refine jJ ?_; (try dsimp only); refine zh (by omega) ?_; refine qb ?_; refine qK ?_)
  refine qJ (qXd (by omega) H G.ok) ?_
  rintro _ h1 ⟨q, rfl, H1⟩
  refine ql (l := [.ptr q 0, .int .i64 ((0 : Nat) : Int), .int .i64 ((0 : Nat) : Int)]) rfl ?_
  refine jx H1 rfl fun d h2 H2 => ?_
  have H2 := DrC.I (D := ⟨ofV M, 0, 0⟩) H2
  refine qJ (hc k h2 d hk H2) ?_
  rintro _ h3 ⟨o, D, ⟨e1, e2, e3⟩, GD, H3⟩
  clear H1 H2
  have hD : doG M act = if D.err = 11 then ((qM M D.M.need).1.2, (qM M D.M.need).2) else if D.err ≠ 0 then (D.err, M) else if (jw M (jY D.M.lv)).1 ≠ 0 then jw M (jY D.M.lv) else (0, (zE D.M.lv).foldl freeV (jw M (jY D.M.lv)).2) := by
    unfold doG
    rw [e2, e3]
  rw [e1]
  dsimp only at e1 ⊢
  generalize doG M act = X at *
  clear e1 e2 e3 hc
  have H30 := H3
  obtain ⟨q, H3⟩ := DrC.E H3
  with_reducible (refine qC ?_; refine qZ ?_; refine qv (by assumption) .here (by with_unfolding_all exact rfl) ?_)
  by_cases c1 : D.err = 11
  · rw [if_pos c1] at hD
    subst hD
    with_reducible (refine jk (by omega) ?_; refine qx ?_; refine qC ?_; refine qZ ?_; refine qv (by assumption) .here (by with_unfolding_all exact rfl) ?_)
    refine qJ (Uu (by omega) (H3.sel e_1)) ?_
    rintro _ h3 ⟨rfl, rfl⟩
    refine qJ (gH (by omega) (H3.sel e_2) G.ok) ?_
    rintro _ h4 ⟨rfl, H4⟩
    with_reducible (refine qy (by with_unfolding_all exact rfl) ?_; refine qy (by with_unfolding_all exact rfl) ?_)
    exact qz ⟨rfl, ⟨G.read, by dsimp only; rw [ze]; omega⟩, H4.sub (.cons .here (.drop (.drop .refl)))⟩
  rw [if_neg c1] at hD
  with_reducible (refine qp (by omega) ?_; refine qK ?_; refine qC ?_; refine qZ ?_; refine qv (by assumption) .here (by with_unfolding_all exact rfl) ?_)
  by_cases c2 : D.err = 0
  rotate_left
  · rw [if_pos c2] at hD
    subst hD
    with_reducible (refine jo (by omega) ?_; refine qx ?_; refine qC ?_; refine qZ ?_; refine qv (by assumption) .here (by with_unfolding_all exact rfl) ?_)
    exact qz ⟨rfl, ⟨G, by dsimp only; omega⟩, H3.sub (.cons e_2 (.drop (.drop .refl)))⟩
  rw [if_neg (by omega)] at hD
  with_reducible (refine jE (by omega) ?_; refine qK ?_; refine qC ?_; refine qZ ?_; refine qv (by assumption) .here (by with_unfolding_all exact rfl) ?_)
  refine qJ (xf (by omega) (H3.sel e_1) GD.g.ok) fun cv h4 H4 => ?_
  have hml : (jY D.M.lv).length < 100000 := by
    have h1 := Jd (lv := D.M.lv) (out := [])
    have h2 := GD.g.ok.lvs.held
    have h3 := GD.g.ok.lvs.le
    show ((D.M.lv.foldl (fun out x => zy x.1 out) []).length) < _
    simp only [List.length_nil] at h1
    omega
  have hfl := NJ (lv := D.M.lv)
  have hff := GD.fr
  refine qJ (kz (by omega) (H4.sub (L' := ViewC v M :: qS 48 2 (jY D.M.lv).length cv ((jY D.M.lv).flatMap jO) :: ViewC q D.M :: qg d [.ptr q 0, .int .i64 D.err, .int .i64 D.stp] :: R2 o) (.cons e_3 (.cons .here (.cons .here (.cons .here .refl))))) G.ok (Rd.own .here) hml) ?_
  rintro _ h5 ⟨rfl, H5⟩
  by_cases c3 : (jw M (jY D.M.lv)).1 = 0
  rotate_left
  · rw [if_pos c3] at hD
    subst hD
    refine jo c3 ?_
    with_reducible (refine qx ?_)
    exact qz ⟨rfl, ⟨G.take (Yx (fun c hc => by cases hc) GD.g.wd.l), by rw [xM]; omega⟩, H5.sub (.cons .here (.drop (.drop (.drop .refl))))⟩
  rw [if_neg (by omega)] at hD
  subst hD
  refine jE c3 ?_
  with_reducible (refine qK ?_; refine qC ?_; refine qZ ?_; refine qv (by assumption) e_3 (by with_unfolding_all exact rfl) ?_)
  refine qJ (vp (by omega) (H5.sel e_2) GD.g.ok) fun fv h6 H6 => ?_
  refine jg H6 .here ?_
  have hO := G.take (cs := jY D.M.lv) (Yx (fun c hc => by cases hc) GD.g.wd.l)
  have hfr0 : frS (jw M (jY D.M.lv)).2.lv = frS M.lv := by rw [xM]
  generalize (jw M (jY D.M.lv)).2 = M1 at *
  generalize zE D.M.lv = F at *
  refine jh (fun m s h' => ∃ i : Nat, s = (.int .i64 (i : Int), .int .i64 (F.length : Int), fv, .ptr v 0, ()) ∧ i ≤ F.length ∧ m = F.length - i ∧ jC ((F.take i).foldl freeV M1) ∧ frS ((F.take i).foldl freeV M1).lv ≤ frS M.lv + i ∧
    HS g h' (ViewC v ((F.take i).foldl freeV M1) :: qS 3 1 F.length fv (F.map (.int .i64)) :: R2 o))
    ?_ (m := F.length) (by show _ < 1000000000; omega) ⟨0, rfl, by omega, by omega, hO, by rw [List.take_zero]; show frS M1.lv ≤ _; omega, by rw [List.take_zero]; exact H6.sub (.cons e_2 (.cons .here (.drop (.drop (.drop .refl)))))⟩
  clear H3 H30 H4 H5 H6
  rintro m ih s h7 hih ⟨i, rfl, hi, rfl, hOi, hfi, H⟩
  dsimp only
  by_cases hlt : i < F.length
  · have hnext : (F.take (i + 1)).foldl freeV M1 = freeV ((F.take i).foldl freeV M1) F[i] := by rw [List.take_succ_eq_append_getElem hlt, List.foldl_append]; rfl
    with_reducible (refine xg (by omega) ?_; refine qx ?_)
    refine xe (H.sl e_1) (x := .int .i64 F[i]) (by rw [List.getElem?_map, List.getElem?_eq_getElem hlt]; rfl) ?_
    refine qJ (Um (by omega) H hOi.ok) ?_
    intro _ h8 H8
    with_reducible (refine qU (by omega) ?_)
    refine hih (F.length - (i + 1)) _ _ (by omega) ⟨i + 1, rfl, by omega, rfl, ?_, ?_, ?_⟩
    · rw [hnext]
      exact hOi.freeV (by omega)
    · rw [hnext]
      have := ZK (lv := ((F.take i).foldl freeV M1).lv) (b := F[i])
      show frS (Qv _ _) ≤ _
      omega
    · rw [hnext]; exact H8
  · obtain rfl : i = F.length := by omega
    with_reducible (refine zB (by omega) ?_; refine qK ?_; refine qE ?_)
    rw [List.take_length] at H hOi hfi
    exact qz ⟨rfl, ⟨hOi, Nat.le_trans hfi (by omega)⟩, H.sub (.cons .here (.drop .refl))⟩
end Go.Proofs.YtpohfcljfemhlaaGreat
namespace Go.Proofs.YtpohfcljfemhlaaGreat.arenaParts
open Go Go.Ae arenaPlays
set_option maxRecDepth 100000
variable {g h : AH} {L R : List SP}
theorem g9 {α : Type} {a : α} {D : DM} : qO (.ret a) D = (if D.err = 0 then some a else none, D) := by unfold qO; rfl
theorem wk {D : DM} {sz : Nat} (G : jX D sz 5) : jX D sz 10 := ⟨G.g, G.sz, by have := G.fr; omega, G.st⟩
def BoxF (b : Nat) (o : Option Bool) : SP := match o with
  | some x => qg b [.bool x]
  | none => .ex fun x : Bool => qg b [.bool x]
theorem BoxF.I {b : Nat} {x : Bool} {o : Option Bool} (ho : o = none ∨ o = some x) (H : HS g h (qg b [.bool x] :: R)) : HS g h (BoxF b o :: R) := by
  rcases ho with rfl | rfl
  · exact HS.exI x H
  · exact H
theorem YO {α : Type} {p : Prop} [Decidable p] {x : α} : (if p then some x else none) = none ∨ (if p then some x else none) = some x := by
  split
  · exact .inr rfl
  · exact .inl rfl
theorem qQs {n : Nat} (hn : 20 ≤ n) {d br bk bx bf : Nat} {P0 : SP} {D : DM} {root key x : Int} {sz : Nat} (H : HS g h (DrC d D :: P0 :: qg bf [.bool false] :: qg bx [.int .u64 x] :: qg bk [.int .u64 key] :: qg br [.int .i64 root] :: R)) (G : jX D sz 5) (hs : D.stp = 0) (hx : 0 ≤ x ∧ x < 18446744073709551616) (hky : 0 ≤ key ∧ key < 18446744073709551616) :
    wp (qw tab qI n (.fn 51 [] [.ptr br 0, .ptr bk 0, .ptr bx 0, .ptr bf 0]) [.ptr d 0] h) fun _ h2 => ∃ (o : Option Bool) (D' : DM), EqR (qO (yg sz root key x) D) (o, D') ∧ jX D' sz 10 ∧ HS g h2 (DrC d D' :: P0 :: BoxF bf o :: qg bx [.int .u64 x] :: qg bk [.int .u64 key] :: qg br [.int .i64 root] :: R) := by
  refine YJ (g := W51) rfl (by omega) fun k hk => ?_
  show wp (S51 (qw tab qI k) _ _ _ _ _ _) _
  unfold S51
  try simp only [iI, uU, Int.ofNat_eq_natCast]
  refine qv H e_5 rfl ?_
  refine ql (l := [.ptr d 0, .int .i64 root, .nils]) rfl ?_
  refine jx H rfl fun t h1 H1 => ?_
  have H1 : HS g h1 (DrC d D :: TrC t d root .nils :: P0 :: qg bf [.bool false] :: qg bx [.int .u64 x] :: qg bk [.int .u64 key] :: qg br [.int .i64 root] :: R) := H1.sub (.cons e_1 (.cons .here .refl))
  refine qv H1 e_5 rfl ?_
  refine qJ (Kk (α := Bool) (by omega) H1 G hs) ?_
  rintro _ h2 ⟨a, way, wv, D2, rfl, E2, G2, st2, ba, O, hwl, H2⟩
  have E2 : EqR (qO (yg sz root key x) D) (qO (if a ≠ 0 then .take [(a + 1, x)] (.ret false) else
    Jo sz 4 fun n => .take [(n, key)] (.take [(n + 1, x)] (.take [(n + 2, 1)] (.take [(n + 3, 0)] (xr root way way.length n (zm root (.ret true) 2049 way)))))) D2) := E2 _
  have fin : ∀ {b : Bool} {o : Option Bool} {D' : DM} {h' : AH} {wv' : AV} {way' : List jd}, EqR (qO (yg sz root key x) D) (o, D') → (o = none ∨ o = some b) → jX D' sz 5 → HS g h' (DrC d D' :: TrC t d root wv' :: zC wv' way' :: P0 :: qg bf [.bool b] :: qg bx [.int .u64 x] :: qg bk [.int .u64 key] :: qg br [.int .i64 root] :: R) →
      ∃ (o : Option Bool) (D' : DM), EqR (qO (yg sz root key x) D) (o, D') ∧ jX D' sz 10 ∧ HS g h' (DrC d D' :: P0 :: BoxF bf o :: qg bx [.int .u64 x] :: qg bk [.int .u64 key] :: qg br [.int .i64 root] :: R) := by
    intro b o D' h' wv' way' E ho G H
    refine ⟨o, D', E, wk G, ?_⟩
    exact (BoxF.I ho (H.sub (L' := qg bf [.bool b] :: DrC d D' :: P0 :: qg bx [.int .u64 x] :: qg bk [.int .u64 key] :: qg br [.int .i64 root] :: R) (.cons e_4 (.cons .here (.drop (.drop (.cons .here .refl))))))).sub (.cons e_1 (.cons e_1 (.cons .here .refl)))
  clear H H1
  refine qJ (w8 (by omega) H2) ?_
  rintro _ h3 ⟨rfl, rfl⟩
  by_cases he : D2.err = 0
  rotate_left
  · rw [decide_eq_false he]
    with_reducible (refine jl ?_; refine qx ?_)
    exact qz (fin (o := none) (E2.trans (EqR.err1 rfl he ⟨rfl, rfl⟩)) (.inl rfl) G2 H2)
  rw [decide_eq_true he]
  with_reducible (refine jb ?_; refine qK ?_)
  by_cases ha : a = 0
  rotate_left
  · rw [if_pos ha] at E2
    refine jo ha (qx ?_)
    with_reducible (refine qU (by omega) ?_; refine qv (by assumption) e_5 (by with_unfolding_all exact rfl) ?_)
    rw [show a + ((1 : Nat) : Int) = a + 1 from rfl]
    refine qJ (xR (by omega) H2 G2.g.ok) ?_
    intro _ h4 H4
    exact qz (fin ((E2.trans run_take).trans (by rw [g9]; exact EqR.refl _)) YO (G2.take (wd1 hx)) H4)
  rw [if_neg (by omega)] at E2
  refine jE ha (qK ?_)
  refine qJ (OY (by omega) H2 G2) ?_
  rintro _ h3 ⟨rfl, H3⟩
  have G3 := G2.alloc (n := 4)
  have E3 := E2.trans (by rw [← G2.sz]; exact OF)
  have hs3 : (yZ D2 4).2.stp = D2.stp := Nj
  rw [show ((4 : Nat) : Int) = 4 from rfl] at *
  generalize yZ D2 4 = q3 at *
  obtain ⟨n1, D3⟩ := q3
  obtain ⟨G3, b3, b4⟩ := G3
  dsimp only at *
  refine qU (by omega) ?_
  rw [show n1 + ((0 : Nat) : Int) = n1 by omega]
  refine qv H3 e_6 rfl ?_
  refine qJ (xR (by omega) H3 G3.g.ok) ?_
  intro _ h4 H4
  have G4 := G3.take (cs := [(n1, key)]) (wd1 hky)
  have E4 := E3.trans run_take
  refine qU (by omega) ?_
  rw [show n1 + ((1 : Nat) : Int) = n1 + 1 from rfl]
  refine qv H4 e_5 rfl ?_
  refine qJ (xR (by omega) H4 G4.g.ok) ?_
  intro _ h5 H5
  have G5 := G4.take (cs := [(n1 + 1, x)]) (wd1 hx)
  have E5 := E4.trans run_take
  refine qU (by omega) ?_
  rw [show n1 + ((2 : Nat) : Int) = n1 + 2 from rfl]
  refine qJ (xR (x := ((1 : Nat) : Int)) (by omega) H5 G5.g.ok) ?_
  intro _ h6 H6
  have G6 := G5.take (cs := [(n1 + 2, 1)]) (wd1 (by omega))
  have E6 := E5.trans run_take
  refine qU (by omega) ?_
  rw [show n1 + ((3 : Nat) : Int) = n1 + 3 from rfl]
  have H6 : HS g h6 (DrC d (z6 (z6 (z6 D3 [(n1, key)]) [(n1 + 1, x)]) [(n1 + 2, 1)]) :: TrC t d root wv :: zC wv way :: P0 :: qg bf [.bool false] :: qg bx [.int .u64 x] :: qg bk [.int .u64 key] :: qg br [.int .i64 root] :: R) := H6
  refine qJ (Ja (x := ((0 : Nat) : Int)) (by omega) (by omega) H6 G6.g.ok) ?_
  intro _ h7 H7
  have G7 := G6.take (cs := [(n1 + 3, 0)]) (wd1 (by omega))
  have E7 := E6.trans run_take
  have H7 : HS g h7 (DrC d (z6 (z6 (z6 (z6 D3 [(n1, key)]) [(n1 + 1, x)]) [(n1 + 2, 1)]) [(n1 + 3, 0)]) :: TrC t d root wv :: zC wv way :: P0 :: qg bf [.bool false] :: qg bx [.int .u64 x] :: qg bk [.int .u64 key] :: qg br [.int .i64 root] :: R) := H7
  have hs7 : (z6 (z6 (z6 (z6 D3 [(n1, key)]) [(n1 + 1, x)]) [(n1 + 2, 1)]) [(n1 + 3, 0)]).stp = D3.stp := stp_take.trans (stp_take.trans (stp_take.trans stp_take))
  generalize z6 (z6 (z6 (z6 D3 [(n1, key)]) [(n1 + 1, x)]) [(n1 + 2, 1)]) [(n1 + 3, 0)] = D7 at *
  with_reducible (refine qC ?_; refine qZ ?_; refine qv (by assumption) e_1 (by with_unfolding_all exact rfl) ?_; refine jg (by assumption) e_2 ?_)
  refine qJ (JE (α := Bool) (m := way.length) (by omega) H7 G7 O (by omega) (by omega) (by omega)) ?_
  rintro _ h8 ⟨D8, E8, A8, H8⟩
  have hs8 := A8.stp
  refine qJ (NS (α := Bool) (by omega) H8 A8.good O (by omega) (by omega)) ?_
  rintro _ h9 ⟨D9, wv9, way9, E9, G9, H9⟩
  have E9 := E7.trans ((E8 _).trans (E9 (.ret true)))
  rw [g9] at E9
  refine jB H9 (b := bf) e_4 ⟨rfl, rfl⟩ (by simp) fun h10 H10 => ?_
  have H10 : HS g h10 (qg bf [.bool true] :: DrC d D9 :: TrC t d root wv9 :: zC wv9 way9 :: P0 :: qg bx [.int .u64 x] :: qg bk [.int .u64 key] :: qg br [.int .i64 root] :: R) := H10
  exact qz (fin (b := true) E9 YO G9 (H10.sub (.cons e_1 (.cons e_1 (.cons e_1 (.cons e_1 (.cons .here .refl)))))))
theorem MR {n : Nat} (hn : 23 ≤ n) {v : Nat} {M : VM} {root key x : Int} (H : HS g h (ViewC v M :: R)) (G : jC M) (hfr : frS M.lv ≤ 40000) (hr : 6 ≤ root ∧ root < 14) (hx : 0 ≤ x ∧ x < 18446744073709551616) (hky : 0 ≤ key ∧ key < 18446744073709551616) :
    wp (qw tab qI n (.fn 26 [] []) [.ptr v 0, .int .i64 root, .int .u64 key, .int .u64 x] h) fun r h' => ((doG M (yg M.sz root key x)).1 = 0 → ∀ b, (qO (yg M.sz root key x) ⟨ofV M, 0, 0⟩).1 = some b → r = .tup [.bool b, .int .i64 0]) ∧
      ((doG M (yg M.sz root key x)).1 ≠ 0 → r = .tup [.bool false, .int .i64 (doG M (yg M.sz root key x)).1]) ∧ (jC (doG M (yg M.sz root key x)).2 ∧ frS (doG M (yg M.sz root key x)).2.lv ≤ frS M.lv + 10) ∧ HS g h' (ViewC v (doG M (yg M.sz root key x)).2 :: R) := by
  (refine qc (g := W26) rfl (by omega) fun k hk => ?_; show wp (S26 (qw tab qI k) _ _ _ _ _) _; unfold S26; try simp only [iI, uU, Int.ofNat_eq_natCast])
  refine jP H ⟨rfl, rfl⟩ fun br h1 H1 => ?_
  refine jP H1 ⟨rfl, rfl⟩ fun bk h2 H2 => ?_
  refine jP H2 ⟨rfl, rfl⟩ fun bx h3 H3 => ?_
  refine jP H3 ⟨rfl, rfl⟩ fun bf h4 H4 => ?_
  refine jB H4 (b := bf) .here ⟨rfl, rfl⟩ (by simp) fun h5 H5 => ?_
  have H5 : HS g h5 (qg bf [.bool false] :: qg bx [.int .u64 x] :: qg bk [.int .u64 key] :: qg br [.int .i64 root] :: ViewC v M :: R) := H5
  refine qv H5 e_3 rfl ?_
  have GD := gD G
  refine qJ (we (act := yg M.sz root key x) (R1 := qg bf [.bool false] :: qg bx [.int .u64 x] :: qg bk [.int .u64 key] :: qg br [.int .i64 root] :: R) (R2 := fun o => BoxF bf o :: qg bx [.int .u64 x] :: qg bk [.int .u64 key] :: qg br [.int .i64 root] :: R) (by omega) (H5.sub (.cons e_4 (.cons .here (.cons .here (.cons .here (.cons .here .refl)))))) G hfr hr ?_) ?_
  · intro m h6 d hm3 H6
    exact wp.mono (qQs (by omega) H6 GD rfl hx hky) fun v h4 hq => hq
  rintro _ h6 ⟨rfl, GG, H6⟩
  generalize (qO (yg M.sz root key x) ⟨ofV M, 0, 0⟩).1 = o at *
  generalize doG M (yg M.sz root key x) = X at *
  obtain ⟨e, M2⟩ := X
  dsimp only at *
  have fin : ∀ {b : Bool}, HS g h6 (qg bf [.bool b] :: ViewC v M2 :: qg bx [.int .u64 x] :: qg bk [.int .u64 key] :: qg br [.int .i64 root] :: R) → (∀ b', o = some b' → b' = b) →
      wp (qW h6 (.ptr bf 0) fun v12 => qT (α := AV × AV × AV × Unit → AH → Go.Ae.R) (fun s13 h14 => jz s13.2.1 s13.1 (.bool false) fun v16 => some ((.tup [v16, s13.2.2.1]), h14)) fun j15 =>
        jG v12 true (qB .eql (.int .i64 e) (.int .i64 ((0 : Nat) : Int)) fun v17 => j15 (v17, v12, .int .i64 e, ()) h6) (j15 (.undef, v12, .int .i64 e, ()) h6)) fun r h' =>
      (e = 0 → ∀ b, o = some b → r = .tup [.bool b, .int .i64 0]) ∧ (e ≠ 0 → r = .tup [.bool false, .int .i64 e]) ∧ (jC M2 ∧ frS M2.lv ≤ frS M.lv + 10) ∧ HS g h' (ViewC v M2 :: R) := by
    intro b H ho
    have HR : HS g h6 (ViewC v M2 :: R) := H.sub (.cons e_1 (.drop (.drop (.drop (.drop .refl)))))
    refine qv H .here rfl ?_
    cases b with
    | false =>
      refine qk ?_
      refine jy ?_
      refine qz ⟨fun he b' hb => ?_, fun _ => rfl, GG, HR⟩
      rw [ho b' hb, he]
    | true =>
      refine qk ?_
      refine qh ?_
      by_cases he : e = 0
      · refine jk he ?_
        refine qz ⟨fun he b' hb => ?_, fun h => absurd he h, GG, HR⟩
        rw [ho b' hb, he]
      · refine qp he ?_
        exact qz ⟨fun h => absurd h he, fun _ => rfl, GG, HR⟩
  cases o with
  | none =>
    have H7 := HS.exE (H6.sel (P := BoxF bf none) e_1)
    obtain ⟨b, H7⟩ := H7
    exact fin H7 (fun b' h => by cases h)
  | some b =>
    have H7 : HS g h6 (qg bf [.bool b] :: ViewC v M2 :: qg bx [.int .u64 x] :: qg bk [.int .u64 key] :: qg br [.int .i64 root] :: R) := (H6.sel (P := BoxF bf (some b)) e_1)
    exact fin H7 (fun b' h => by cases h; rfl)
end Go.Proofs.YtpohfcljfemhlaaGreat.arenaParts
namespace Go.Proofs.YtpohfcljfemhlaaGreat.arenaParts
open Go Go.Ae arenaPlays
set_option maxRecDepth 100000
variable {g h : AH} {L R : List SP}
def BoxG (bx bt : Nat) (o : Option (Int × Bool)) : SP := match o with
  | some (x, t) => .all [qg bt [.bool t], qg bx [.int .u64 x]]
  | none => .ex fun x : Int => .ex fun t : Bool => .all [qg bt [.bool t], qg bx [.int .u64 x]]
theorem BoxG.I {bx bt : Nat} {x : Int} {t : Bool} {o : Option (Int × Bool)} (ho : o = none ∨ o = some (x, t)) (H : HS g h (qg bt [.bool t] :: qg bx [.int .u64 x] :: R)) : HS g h (BoxG bx bt o :: R) := by
  rcases ho with rfl | rfl
  · exact HS.exI x (HS.exI t (HS.allI H))
  · exact HS.allI H
theorem UD {n : Nat} (hn : 20 ≤ n) {d br bk bx bt : Nat} {P0 : SP} {D : DM} {root key : Int} {sz : Nat} (H : HS g h (DrC d D :: P0 :: qg bt [.bool false] :: qg bx [.int .u64 0] :: qg bk [.int .u64 key] :: qg br [.int .i64 root] :: R)) (G : jX D sz 5) (hs : D.stp = 0) :
    wp (qw tab qI n (.fn 64 [] [.ptr br 0, .ptr bk 0, .ptr bx 0, .ptr bt 0]) [.ptr d 0] h) fun _ h2 => ∃ (o : Option (Int × Bool)) (D' : DM), EqR (qO (xT root key) D) (o, D') ∧ jX D' sz 10 ∧ HS g h2 (DrC d D' :: P0 :: BoxG bx bt o :: qg bk [.int .u64 key] :: qg br [.int .i64 root] :: R) := by
  refine YJ (g := W64) rfl (by omega) fun k hk => ?_
  show wp (S64 (qw tab qI k) _ _ _ _ _ _) _
  unfold S64
  try simp only [iI, uU, Int.ofNat_eq_natCast]
  refine qv H e_5 rfl ?_
  refine ql (l := [.ptr d 0, .int .i64 root, .nils]) rfl ?_
  refine jx H rfl fun t h1 H1 => ?_
  have H1 : HS g h1 (DrC d D :: TrC t d root .nils :: P0 :: qg bt [.bool false] :: qg bx [.int .u64 0] :: qg bk [.int .u64 key] :: qg br [.int .i64 root] :: R) := H1.sub (.cons e_1 (.cons .here .refl))
  refine qv H1 e_5 rfl ?_
  refine qJ (Kk (α := Int × Bool) (by omega) H1 G hs) ?_
  rintro _ h2 ⟨a, way, wv, D2, rfl, E2, G2, st2, ba, O, hwl, H2⟩
  have E2 : EqR (qO (xT root key) D) (qO (if a ≠ 0 then .read (a + 1) fun x => .ret (x, true) else .ret (0, false)) D2) := E2 _
  have fin : ∀ {x : Int} {b : Bool} {o : Option (Int × Bool)} {D' : DM} {h' : AH} {wv' : AV} {way' : List jd}, EqR (qO (xT root key) D) (o, D') → (o = none ∨ o = some (x, b)) → jX D' sz 5 → HS g h' (DrC d D' :: TrC t d root wv' :: zC wv' way' :: P0 :: qg bt [.bool b] :: qg bx [.int .u64 x] :: qg bk [.int .u64 key] :: qg br [.int .i64 root] :: R) →
      ∃ (o : Option (Int × Bool)) (D' : DM), EqR (qO (xT root key) D) (o, D') ∧ jX D' sz 10 ∧ HS g h' (DrC d D' :: P0 :: BoxG bx bt o :: qg bk [.int .u64 key] :: qg br [.int .i64 root] :: R) := by
    intro x b o D' h' wv' way' E ho G H
    refine ⟨o, D', E, wk G, ?_⟩
    exact (BoxG.I ho (H.sub (L' := qg bt [.bool b] :: qg bx [.int .u64 x] :: DrC d D' :: P0 :: qg bk [.int .u64 key] :: qg br [.int .i64 root] :: R) (.cons e_4 (.cons e_4 (.cons .here (.drop (.drop (.cons .here .refl)))))))).sub (.cons e_1 (.cons e_1 (.cons .here .refl)))
  clear H H1
  by_cases ha : a = 0
  · rw [if_neg (by omega), g9] at E2
    refine jE ha (qK ?_)
    exact qz (fin E2 YO G2 H2)
  rw [if_pos ha] at E2
  refine jo ha (qx ?_)
  refine qU (by omega) ?_
  rw [show a + ((1 : Nat) : Int) = a + 1 from rfl]
  refine qJ (xN (by omega) H2 G2.g.ok) ?_
  rintro _ h3 ⟨rfl, H3⟩
  have G3 := G2.read (p := a + 1)
  have E3 := E2.trans run_read
  generalize zq D2 (a + 1) = q3 at *
  obtain ⟨x, D3⟩ := q3
  obtain ⟨G3, _, _⟩ := G3
  dsimp only at *
  rw [g9] at E3
  refine jB H3 (b := bx) e_5 ⟨rfl, rfl⟩ (by simp) fun h4 H4 => ?_
  refine jB H4 (b := bt) e_5 ⟨rfl, rfl⟩ (by simp) fun h5 H5 => ?_
  have H5 : HS g h5 (qg bt [.bool true] :: qg bx [.int .u64 x] :: DrC d D3 :: TrC t d root wv :: zC wv way :: P0 :: qg bk [.int .u64 key] :: qg br [.int .i64 root] :: R) := H5
  exact qz (fin (x := x) (b := true) E3 YO G3 (H5.sub (.cons e_2 (.cons e_2 (.cons e_2 (.cons e_2 (.cons .here (.cons .here .refl))))))))
theorem MB {n : Nat} (hn : 23 ≤ n) {v : Nat} {M : VM} {root key : Int} (H : HS g h (ViewC v M :: R)) (G : jC M) (hfr : frS M.lv ≤ 40000) (hr : 6 ≤ root ∧ root < 14) {x : Int} {b : Bool} (h0 : (doG M (xT root key)).1 = 0) (hl : (qO (xT root key) ⟨ofV M, 0, 0⟩).1 = some (x, b)) :
    wp (qw tab qI n (.fn 29 [] []) [.ptr v 0, .int .i64 root, .int .u64 key] h) fun r h' => r = .tup [.int .u64 x, .bool b, .int .i64 0] ∧ (jC (doG M (xT root key)).2 ∧ frS (doG M (xT root key)).2.lv ≤ frS M.lv + 10) ∧ HS g h' (ViewC v (doG M (xT root key)).2 :: R) := by
  (refine qc (g := W29) rfl (by omega) fun k hk => ?_; show wp (S29 (qw tab qI k) _ _ _ _) _; unfold S29; try simp only [iI, uU, Int.ofNat_eq_natCast])
  refine jP H ⟨rfl, rfl⟩ fun br h1 H1 => ?_
  refine jP H1 ⟨rfl, rfl⟩ fun bk h2 H2 => ?_
  refine jP H2 ⟨rfl, rfl⟩ fun bx h3 H3 => ?_
  refine jP H3 ⟨rfl, rfl⟩ fun bt h4 H4 => ?_
  refine jB H4 (b := bx) e_1 ⟨rfl, rfl⟩ (by simp) fun h5 H5 => ?_
  refine jB H5 (b := bt) e_1 ⟨rfl, rfl⟩ (by simp) fun h6 H6 => ?_
  have H6 : HS g h6 (qg bt [.bool false] :: qg bx [.int .u64 0] :: qg bk [.int .u64 key] :: qg br [.int .i64 root] :: ViewC v M :: R) := H6
  refine qv H6 e_3 rfl ?_
  have GD := gD G
  refine qJ (we (act := xT root key) (R1 := qg bt [.bool false] :: qg bx [.int .u64 0] :: qg bk [.int .u64 key] :: qg br [.int .i64 root] :: R) (R2 := fun o => BoxG bx bt o :: qg bk [.int .u64 key] :: qg br [.int .i64 root] :: R) (by omega) (H6.sub (.cons e_4 (.cons .here (.cons .here (.cons .here (.cons .here .refl)))))) G hfr hr ?_) ?_
  · intro m h7 d hm3 H7
    exact wp.mono (UD (by omega) H7 GD rfl) fun v h4 hq => hq
  rintro _ h7 ⟨rfl, GG, H7⟩
  rw [h0, hl] at *
  with_reducible (refine jE (by omega) ?_; refine qK ?_)
  have H8 : HS g h7 (qg bt [.bool b] :: qg bx [.int .u64 x] :: ViewC v (doG M (xT root key)).2 :: qg bk [.int .u64 key] :: qg br [.int .i64 root] :: R) := HS.allE (H7.sel (P := BoxG bx bt (some (x, b))) e_1)
  refine qv H8 e_1 rfl (qv H8 .here rfl (qz ⟨rfl, GG, H8.sub (.cons e_2 (.drop (.drop (.drop (.drop .refl)))))⟩))
def BoxN (b : Nat) (o : Option Int) : SP := match o with
  | some x => qg b [.int .i64 x]
  | none => .ex fun x : Int => qg b [.int .i64 x]
theorem BoxN.I {b : Nat} {x : Int} {o : Option Int} (ho : o = none ∨ o = some x) (H : HS g h (qg b [.int .i64 x] :: R)) : HS g h (BoxN b o :: R) := by
  rcases ho with rfl | rfl
  · exact HS.exI x H
  · exact H
theorem Nu {n : Nat} (hn : 2080 ≤ n) {d br bn : Nat} {P0 : SP} {D : DM} {root : Int} {sz : Nat} (H : HS g h (DrC d D :: P0 :: qg bn [.int .i64 0] :: qg br [.int .i64 root] :: R)) (G : jX D sz 5) (hs : D.stp = 0) :
    wp (qw tab qI n (.fn 59 [] [.ptr br 0, .ptr bn 0]) [.ptr d 0] h) fun _ h2 => ∃ (o : Option Int) (D' : DM), EqR (qO (wC root) D) (o, D') ∧ jX D' sz 10 ∧ HS g h2 (DrC d D' :: P0 :: BoxN bn o :: qg br [.int .i64 root] :: R) := by
  refine YJ (g := W59) rfl (by omega) fun k hk => ?_
  show wp (S59 (qw tab qI k) _ _ _ _) _
  unfold S59
  try simp only [iI, uU, Int.ofNat_eq_natCast]
  refine qv H e_3 rfl ?_
  refine ql (l := [.ptr d 0, .int .i64 root, .nils]) rfl ?_
  refine jx H rfl fun t h1 H1 => ?_
  have H1 : HS g h1 (DrC d D :: TrC t d root .nils :: P0 :: qg bn [.int .i64 0] :: qg br [.int .i64 root] :: R) := H1.sub (.cons e_1 (.cons .here .refl))
  refine qJ (KM (α := Int) (by omega) H1 G) ?_
  rintro _ h2 ⟨a, D2, rfl, E2, A2, b2, H2⟩
  have hs2 := A2.stp
  refine qJ (qZo (α := Int) (m := 2049) (by omega) H2 A2.good b2.1 ⟨b2.2.1, fun _ => by omega, by omega, fun _ => by omega, by omega⟩) ?_
  rintro _ h3 ⟨x, D3, rfl, E3, G3, Q3, b3, H3⟩
  have E4 : EqR (qO (wC root) D) (qO (.ret x) D3) := (E2 _).trans (E3 _)
  rw [g9] at E4
  refine jB H3 (b := bn) e_3 ⟨rfl, rfl⟩ (by simp) fun h4 H4 => ?_
  have H4 : HS g h4 (qg bn [.int .i64 x] :: DrC d D3 :: TrC t d root .nils :: P0 :: qg br [.int .i64 root] :: R) := H4
  exact qz ⟨_, D3, E4, wk G3, (BoxN.I YO (H4.sub (L' := qg bn [.int .i64 x] :: DrC d D3 :: P0 :: qg br [.int .i64 root] :: R) (.cons .here (.cons .here (.drop .refl))))).sub (.cons e_1 (.cons e_1 (.cons .here .refl)))⟩
end Go.Proofs.YtpohfcljfemhlaaGreat.arenaParts
namespace Go.Proofs.YtpohfcljfemhlaaGreat.arenaParts
open Go Go.Ae arenaPlays
set_option maxRecDepth 100000
variable {g h : AH} {L R : List SP}
theorem qX0 {n : Nat} (hn : 1 ≤ n) {v root : AV} {x : Int} {clo : AV} (hr : x < 6) :
    wp (qw tab qI n (.fn 50 [] []) [v, .int .i64 x, clo] h) fun r h' => r = .int .i64 2 ∧ h' = h := by
  (refine qc (g := W50) rfl (by omega) fun k hk => ?_; show wp (S50 (qw tab qI k) _ _ _ _) _; unfold S50; try simp only [iI, uU, Int.ofNat_eq_natCast])
  with_reducible (refine xg (by omega) ?_; refine qk ?_; (try dsimp only); refine jt ?_; (try dsimp only); refine qR ?_; refine qx ?_)
  exact qz ⟨rfl, rfl⟩
theorem OW {n : Nat} (hn : 3 ≤ n) {v : AV} {x : Int} (H : HS g h R) (hr : x < 6) :
    wp (qw tab qI n (.fn 27 [] []) [v, .int .i64 x] h) fun r h' => r = .tup [.int .i64 0, .int .i64 2] ∧ HS g h' R := by
  (refine qc (g := W27) rfl (by omega) fun k hk => ?_; show wp (S27 (qw tab qI k) _ _ _) _; unfold S27; try simp only [iI, uU, Int.ofNat_eq_natCast])
  refine jP H ⟨rfl, rfl⟩ fun br h1 H1 => ?_
  refine jP H1 ⟨rfl, rfl⟩ fun bn h2 H2 => ?_
  refine jB H2 (b := bn) .here ⟨rfl, rfl⟩ (by simp) fun h3 H3 => ?_
  have H3 : HS g h3 (qg bn [.int .i64 0] :: qg br [.int .i64 x] :: R) := H3
  refine qv H3 e_1 rfl ?_
  refine qJ (qX0 (root := .nils) (by omega) hr) ?_
  rintro _ h4 ⟨rfl, rfl⟩
  with_reducible (refine jo (by omega) ?_; refine qx ?_)
  exact qz ⟨rfl, H3.drop.drop⟩
theorem ZC {n : Nat} (hn : 2090 ≤ n) {v : Nat} {M : VM} {root x : Int} (H : HS g h (ViewC v M :: R)) (G : jC M) (hfr : frS M.lv ≤ 40000) (hr : 6 ≤ root ∧ root < 14) (h0 : (doG M (wC root)).1 = 0) (hl : (qO (wC root) ⟨ofV M, 0, 0⟩).1 = some x) :
    wp (qw tab qI n (.fn 27 [] []) [.ptr v 0, .int .i64 root] h) fun r h' => r = .tup [.int .i64 x, .int .i64 0] ∧ (jC (doG M (wC root)).2 ∧ frS (doG M (wC root)).2.lv ≤ frS M.lv + 10) ∧ HS g h' (ViewC v (doG M (wC root)).2 :: R) := by
  (refine qc (g := W27) rfl (by omega) fun k hk => ?_; show wp (S27 (qw tab qI k) _ _ _) _; unfold S27; try simp only [iI, uU, Int.ofNat_eq_natCast])
  refine jP H ⟨rfl, rfl⟩ fun br h1 H1 => ?_
  refine jP H1 ⟨rfl, rfl⟩ fun bn h2 H2 => ?_
  refine jB H2 (b := bn) .here ⟨rfl, rfl⟩ (by simp) fun h3 H3 => ?_
  have H3 : HS g h3 (qg bn [.int .i64 0] :: qg br [.int .i64 root] :: ViewC v M :: R) := H3
  refine qv H3 e_1 rfl ?_
  have GD := gD G
  refine qJ (we (act := wC root) (R1 := qg bn [.int .i64 0] :: qg br [.int .i64 root] :: R) (R2 := fun o => BoxN bn o :: qg br [.int .i64 root] :: R) (by omega) (H3.sub (.cons e_2 (.cons .here (.cons .here .refl)))) G hfr hr ?_) ?_
  · intro m h7 d hm3 H7
    exact wp.mono (Nu (by omega) H7 GD rfl) fun v h4 hq => hq
  rintro _ h7 ⟨rfl, GG, H7⟩
  rw [h0, hl] at *
  refine jE rfl (qK ?_)
  have H8 : HS g h7 (qg bn [.int .i64 x] :: ViewC v (doG M (wC root)).2 :: qg br [.int .i64 root] :: R) := H7.sel (P := BoxN bn (some x)) e_1
  refine qv H8 .here rfl ?_
  exact qz ⟨rfl, GG, H8.sub (.cons e_1 (.drop (.drop .refl)))⟩
def Nw (bo : Nat) (o : Option (List qm)) : SP := match o with
  | some l => .ex fun ov : AV => .all [qg bo [ov], Qx ov l]
  | none => .ex fun ov : AV => qg bo [ov]
theorem Xh {n : Nat} (hn : 2080 ≤ n) {d br bl bh bo : Nat} {P0 : SP} {D : DM} {root lo hi : Int} {sz : Nat} (H : HS g h (DrC d D :: P0 :: qg bo [.nils] :: qg bh [.int .u64 hi] :: qg bl [.int .u64 lo] :: qg br [.int .i64 root] :: R)) (G : jX D sz 5) (hs : D.stp = 0) :
    wp (qw tab qI n (.fn 62 [] [.ptr br 0, .ptr bl 0, .ptr bh 0, .ptr bo 0]) [.ptr d 0] h) fun _ h2 => ∃ (o : Option (List qm)) (D' : DM), EqR (qO (jT root lo hi) D) (o, D') ∧ jX D' sz 10 ∧ HS g h2 (DrC d D' :: P0 :: Nw bo o :: qg bh [.int .u64 hi] :: qg bl [.int .u64 lo] :: qg br [.int .i64 root] :: R) := by
  refine YJ (g := W62) rfl (by omega) fun k hk => ?_
  show wp (S62 (qw tab qI k) _ _ _ _ _ _) _
  unfold S62
  try simp only [iI, uU, Int.ofNat_eq_natCast]
  refine qv H e_5 rfl ?_
  refine ql (l := [.ptr d 0, .int .i64 root, .nils]) rfl ?_
  refine jx H rfl fun t h1 H1 => ?_
  have H1 : HS g h1 (DrC d D :: TrC t d root .nils :: P0 :: qg bo [.nils] :: qg bh [.int .u64 hi] :: qg bl [.int .u64 lo] :: qg br [.int .i64 root] :: R) := H1.sub (.cons e_1 (.cons .here .refl))
  refine qk ?_
  refine qJ (KM (α := List qm) (by omega) H1 G) ?_
  rintro _ h2 ⟨a, D2, rfl, E2, A2, b2, H2⟩
  have hs2 := A2.stp
  refine qv H2 e_5 rfl (qv H2 e_4 rfl ?_)
  have H3 := (H2.nils (e := 78) (sz := 2)).sub (L' := DrC d D2 :: TrC t d root .nils :: Qx .nils [] :: P0 :: qg bo [.nils] :: qg bh [.int .u64 hi] :: qg bl [.int .u64 lo] :: qg br [.int .i64 root] :: R) (.cons e_1 (.cons e_1 (.cons .here .refl)))
  refine qJ (VZ (α := List qm) (m := 2049) (by omega) H3 A2.good b2.1 ⟨b2.2.1, fun _ => by omega, by omega, fun _ => by omega, by omega⟩ (by simp; omega)) ?_
  rintro ov h4 ⟨l, D4, E4, G4, Q4, l4, H4⟩
  have E5 : EqR (qO (jT root lo hi) D) (qO (.ret l) D4) := (E2 _).trans (E4 _)
  rw [g9] at E5
  have o4 := H4.one (e := 78) (sz := 2) (n := l.length) (xs := l.flatMap encP) e_2
  refine jB H4 (b := bo) e_4 o4 (by simp) fun h5 H5 => ?_
  refine vS H1 (b := bh) e_4 rfl H2 e_4 rfl (HS.lt H1 e_4) ?_
  refine vS H1 (b := bl) e_5 rfl H2 e_5 rfl (HS.lt H1 e_5) ?_
  have H5 : HS g h5 (qg bo [ov] :: DrC d D4 :: TrC t d root .nils :: Qx ov l :: P0 :: qg bh [.int .u64 hi] :: qg bl [.int .u64 lo] :: qg br [.int .i64 root] :: R) := H5
  refine qz ⟨_, D4, E5, wk G4, ?_⟩
  by_cases he : D4.err = 0
  · rw [if_pos he]
    have H6 : HS g h5 (Nw bo (some l) :: DrC d D4 :: P0 :: qg bh [.int .u64 hi] :: qg bl [.int .u64 lo] :: qg br [.int .i64 root] :: R) := HS.exI ov (HS.allI (A := [qg bo [ov], Qx ov l]) (H5.sub (L' := qg bo [ov] :: Qx ov l :: DrC d D4 :: P0 :: qg bh [.int .u64 hi] :: qg bl [.int .u64 lo] :: qg br [.int .i64 root] :: R) (.cons .here (.cons e_2 (.cons .here (.drop .refl))))))
    exact H6.sub (.cons e_1 (.cons e_1 (.cons .here .refl)))
  · rw [if_neg he]
    have H6 : HS g h5 (Nw bo none :: DrC d D4 :: P0 :: qg bh [.int .u64 hi] :: qg bl [.int .u64 lo] :: qg br [.int .i64 root] :: R) := HS.exI ov (H5.sub (L' := qg bo [ov] :: DrC d D4 :: P0 :: qg bh [.int .u64 hi] :: qg bl [.int .u64 lo] :: qg br [.int .i64 root] :: R) (.cons .here (.cons .here (.drop (.drop .refl)))))
    exact H6.sub (.cons e_1 (.cons e_1 (.cons .here .refl)))
theorem Jn {n : Nat} (hn : 2090 ≤ n) {v : Nat} {M : VM} {root lo hi : Int} {l : List qm} (H : HS g h (ViewC v M :: R)) (G : jC M) (hfr : frS M.lv ≤ 40000) (hr : 6 ≤ root ∧ root < 14) (h0 : (doG M (jT root lo hi)).1 = 0) (hl : (qO (jT root lo hi) ⟨ofV M, 0, 0⟩).1 = some l) :
    wp (qw tab qI n (.fn 28 [] []) [.ptr v 0, .int .i64 root, .int .u64 lo, .int .u64 hi] h) fun r h' => ∃ ov, r = .tup [ov, .int .i64 0] ∧ (jC (doG M (jT root lo hi)).2 ∧ frS (doG M (jT root lo hi)).2.lv ≤ frS M.lv + 10) ∧ HS g h' (Qx ov l :: ViewC v (doG M (jT root lo hi)).2 :: R) := by
  (refine qc (g := W28) rfl (by omega) fun k hk => ?_; show wp (S28 (qw tab qI k) _ _ _ _ _) _; unfold S28; try simp only [iI, uU, Int.ofNat_eq_natCast])
  refine jP H ⟨rfl, rfl⟩ fun br h1 H1 => ?_
  refine jP H1 ⟨rfl, rfl⟩ fun bl h2 H2 => ?_
  refine jP H2 ⟨rfl, rfl⟩ fun bh h3 H3 => ?_
  refine jP H3 ⟨rfl, rfl⟩ fun bo h4 H4 => ?_
  refine qv H4 e_3 rfl ?_
  have GD := gD G
  refine qJ (we (act := jT root lo hi) (R1 := qg bo [.nils] :: qg bh [.int .u64 hi] :: qg bl [.int .u64 lo] :: qg br [.int .i64 root] :: R) (R2 := fun o => Nw bo o :: qg bh [.int .u64 hi] :: qg bl [.int .u64 lo] :: qg br [.int .i64 root] :: R) (by omega) (H4.sub (.cons e_4 (.cons .here (.cons .here (.cons .here (.cons .here .refl)))))) G hfr hr ?_) ?_
  · intro m h7 d hm3 H7
    exact wp.mono (Xh (by omega) H7 GD rfl) fun v h4 hq => hq
  rintro _ h7 ⟨rfl, GG, H7⟩
  rw [h0, hl] at *
  with_reducible (refine jE (by omega) ?_; refine qK ?_)
  obtain ⟨ov, H8⟩ := HS.exE (H7.sel (P := Nw bo (some l)) e_1)
  have H8 : HS g h7 (qg bo [ov] :: Qx ov l :: ViewC v (doG M (jT root lo hi)).2 :: qg bh [.int .u64 hi] :: qg bl [.int .u64 lo] :: qg br [.int .i64 root] :: R) := HS.allE H8
  refine qv H8 .here rfl ?_
  exact qz ⟨ov, rfl, GG, H8.sub (.cons e_1 (.cons e_1 (.drop (.drop (.drop (.drop .refl))))))⟩
end Go.Proofs.YtpohfcljfemhlaaGreat.arenaParts
namespace Go.Proofs.YtpohfcljfemhlaaGreat.arenaParts
open Go Go.Ae arenaPlays
set_option maxRecDepth 100000
def Ms : Nat → VM
  | 0 => zk (zr ((200 : Nat) : Int)) ((96 : Nat) : Int)
  | i + 1 => (doG (Ms i) (yg (Ms i).sz ((6 : Nat) : Int) ((i + 1 : Nat) : Int) (((i + 1 : Nat) : Int) + ((10 : Nat) : Int)))).2
def Ka (i : Nat) : Bool :=
  decide ((doG (Ms i) (yg (Ms i).sz ((6 : Nat) : Int) ((i + 1 : Nat) : Int) (((i + 1 : Nat) : Int) + ((10 : Nat) : Int)))).1 = 0) &&
  decide ((qO (yg (Ms i).sz ((6 : Nat) : Int) ((i + 1 : Nat) : Int) (((i + 1 : Nat) : Int) + ((10 : Nat) : Int))) ⟨ofV (Ms i), 0, 0⟩).1 = some true)
theorem Nx : (Ka 0 && Ka 1 && Ka 2 && Ka 3 && Ka 4 && Ka 5 && Ka 6) = true := by kernel_rfl
def Ms8 : VM := (doG (Ms 7) (wC ((6 : Nat) : Int))).2
def Ms9 : VM := (doG Ms8 (jT ((6 : Nat) : Int) ((3 : Nat) : Int) ((5 : Nat) : Int))).2
def qKf : Bool :=
  decide ((doG (Ms 7) (wC ((6 : Nat) : Int))).1 = 0) && decide ((qO (wC ((6 : Nat) : Int)) ⟨ofV (Ms 7), 0, 0⟩).1 = some 4) &&
  (decide ((doG Ms8 (jT ((6 : Nat) : Int) ((3 : Nat) : Int) ((5 : Nat) : Int))).1 = 0) && decide ((qO (jT ((6 : Nat) : Int) ((3 : Nat) : Int) ((5 : Nat) : Int)) ⟨ofV Ms8, 0, 0⟩).1 = some [(3, 13), (4, 14), (5, 15)])) &&
  (decide ((doG Ms9 (xT ((6 : Nat) : Int) ((6 : Nat) : Int))).1 = 0) && decide ((qO (xT ((6 : Nat) : Int) ((6 : Nat) : Int)) ⟨ofV Ms9, 0, 0⟩).1 = some (16, true)))
theorem OE : qKf = true := by kernel_rfl
end Go.Proofs.YtpohfcljfemhlaaGreat.arenaParts
namespace Go.Proofs.YtpohfcljfemhlaaGreat.treeRuns
open Go Go.Ae arenaPlays arenaParts
set_option maxRecDepth 100000
theorem qXr {i : Nat} (hi : i < 7) : (doG (Ms i) (yg (Ms i).sz ((6 : Nat) : Int) ((i + 1 : Nat) : Int) (((i + 1 : Nat) : Int) + ((10 : Nat) : Int)))).1 = 0 ∧
    (qO (yg (Ms i).sz ((6 : Nat) : Int) ((i + 1 : Nat) : Int) (((i + 1 : Nat) : Int) + ((10 : Nat) : Int))) ⟨ofV (Ms i), 0, 0⟩).1 = some true := by
  have h := Nx
  simp only [Bool.and_eq_true] at h
  have hb : Ka i = true := by
    obtain ⟨⟨⟨⟨⟨⟨h0, h1⟩, h2⟩, h3⟩, h4⟩, h5⟩, h6⟩ := h
    have : i = 0 ∨ i = 1 ∨ i = 2 ∨ i = 3 ∨ i = 4 ∨ i = 5 ∨ i = 6 := by omega
    rcases this with rfl | rfl | rfl | rfl | rfl | rfl | rfl
    · exact h0
    · exact h1
    · exact h2
    · exact h3
    · exact h4
    · exact h5
    · exact h6
  unfold Ka at hb
  rw [Bool.and_eq_true] at hb
  exact ⟨of_decide_eq_true hb.1, of_decide_eq_true hb.2⟩
theorem law {n : Nat} (hn : 2500 ≤ n) : wp (qw tab qI n (.fn 6 [] []) [] AH.empty) fun v _ => v = .bool true := by
  have HR := OE
  unfold qKf at HR
  simp only [Bool.and_eq_true, decide_eq_true_eq] at HR
  obtain ⟨⟨⟨d1, d2⟩, r1, r2⟩, g1, g2⟩ := HR
  have e8 : (doG (Ms 7) (wC ((6 : Nat) : Int))).2 = Ms8 := by unfold Ms8; rfl
  have e9 : (doG Ms8 (jT ((6 : Nat) : Int) ((3 : Nat) : Int) ((5 : Nat) : Int))).2 = Ms9 := by unfold Ms9; rfl
  generalize Ms8 = M8 at *
  generalize Ms9 = M9 at *
  (refine qc (g := W6) rfl (by omega) fun k hk => ?_; show wp (S6 (qw tab qI k) _) _; unfold S6; try simp only [iI, uU, Int.ofNat_eq_natCast])
  refine qJ (Y8 (by omega) (HS.nil AH.empty)) ?_
  rintro wv h1 ⟨e1, H⟩
  have H : HS AH.empty h1 (qS e1 1 (zr ((200 : Nat) : Int)).length wv ((zr ((200 : Nat) : Int)).map (.int .u64)) :: []) := H
  refine qJ (ww (zs := zr ((200 : Nat) : Int)) (m := ((96 : Nat) : Int)) (by omega) H (H.rd .here)) ?_
  rintro _ h2 ⟨v, rfl, H2⟩
  have G0 : jC (zk (zr ((200 : Nat) : Int)) ((96 : Nat) : Int)) := gZ (by decide)
  refine QZ ?_
  with_reducible (refine qK ?_)
  refine jh (fun m s h' => ∃ i : Nat, s = (.int .u64 ((i + 1 : Nat) : Int), .ptr v 0, ()) ∧ i ≤ 7 ∧ m = 7 - i ∧ jC (Ms i) ∧ frS (Ms i).lv ≤ 10 * i ∧ HS AH.empty h' (ViewC v (Ms i) :: []))
    ?_ (m := 7) (by show 7 < 1000000000; omega) ⟨0, rfl, by omega, by omega, G0, Nat.le_refl _, H2.sub (.cons .here (.drop .refl))⟩
  clear H H2 G0
  rintro m ih s h3 hih ⟨i, rfl, hi, rfl, G, hfr, H⟩
  dsimp only
  by_cases hlt : i < 7
  · obtain ⟨f1, f2⟩ := qXr hlt
    refine yQ (by omega) (qx ?_)
    refine x9 (by omega) ?_
    refine qJ (MR (by omega) H G (by omega) (by omega) (by omega) (by omega)) ?_
    rintro r h4 ⟨q1, _, GG, H4⟩
    obtain rfl := q1 f1 true f2
    with_reducible (refine qy (by with_unfolding_all exact rfl) ?_; refine qy (by with_unfolding_all exact rfl) ?_; refine jb ?_; refine qk ?_; (try dsimp only); refine jJ ?_; (try dsimp only); refine jE (by omega) ?_; refine qb ?_; refine qK ?_; refine x9 (by omega) ?_)
    refine hih (7 - (i + 1)) _ _ (by omega) ⟨i + 1, ?_, by omega, rfl, GG.1, ?_, H4⟩
    · congr 2
    · have := GG.2
      show frS (doG (Ms i) _).2.lv ≤ _
      omega
  obtain rfl : i = 7 := by omega
  clear hih
  refine gl (by omega) (qK ?_)
  refine qJ (ZC (by omega) H G (by omega) (by omega) d1 d2) ?_
  rintro _ h4 ⟨rfl, GG, H4⟩
  rw [e8] at GG H4
  have G8 : jC M8 := GG.1
  have f8 : frS M8.lv ≤ 100 := Nat.le_trans GG.2 (by omega)
  clear d1 d2 e8 GG G hfr
  with_reducible (refine qy (by with_unfolding_all exact rfl) ?_; refine qy (by with_unfolding_all exact rfl) ?_)
  refine qJ (Jn (by omega) H4 G8 (by omega) (by omega) r1 r2) ?_
  rintro _ h5 ⟨ov, rfl, GG, H5⟩
  rw [e9] at GG H5
  have H5 : HS AH.empty h5 (ViewC v M9 :: Qx ov [(3, 13), (4, 14), (5, 15)] :: []) := H5.sub (.cons e_1 (.cons .here .refl))
  have G9 : jC M9 := GG.1
  have f9 : frS M9.lv ≤ 200 := Nat.le_trans GG.2 (by omega)
  clear r1 r2 e9 GG G8
  with_reducible (refine qy (by with_unfolding_all exact rfl) ?_; refine qy (by with_unfolding_all exact rfl) ?_)
  refine qJ (MB (by omega) H5 G9 (by omega) (by omega) g1 g2) ?_
  rintro _ h6 ⟨rfl, _, H6⟩
  with_reducible (refine qy (by with_unfolding_all exact rfl) ?_; refine qy (by with_unfolding_all exact rfl) ?_; refine qy (by with_unfolding_all exact rfl) ?_)
  refine qJ (OW (by omega) H6 (by omega)) ?_
  rintro _ h7 ⟨rfl, H7⟩
  with_reducible (refine qy (by with_unfolding_all exact rfl) ?_; refine qy (by with_unfolding_all exact rfl) ?_; refine jk (by omega) ?_; refine qk ?_; (try dsimp only); refine qh ?_; (try dsimp only); refine zl (by omega) ?_; refine qR ?_; refine qk ?_; (try dsimp only); refine qh ?_; (try dsimp only); refine yQ (by omega) ?_; refine qR ?_; refine qk ?_; (try dsimp only); refine qh ?_; (try dsimp only); refine jk (by omega) ?_; refine qR ?_; refine qk ?_; (try dsimp only); refine qh ?_; (try dsimp only); refine jg (by assumption) e_1 ?_)
  refine z7 (l := [.int .u64 5, .int .u64 15]) (H7.sl (e := 78) (sz := 2) (n := 3) (xs := [(3, 13), (4, 14), ((5 : Int), (15 : Int))].flatMap encP) e_1) (i := 2) (by omega) (by omega) rfl ?_
  with_reducible (refine ql (by with_unfolding_all exact rfl) ?_)
  refine JW (p := True) rfl (fun _ => ?_) (fun h => absurd trivial h)
  skip
  exact qz rfl
theorem told : Ae.isTrue (qw tab qI 3000 (.fn 6 [] []) [] AH.empty) = true := by
  obtain ⟨v, h', e, rfl⟩ := law (n := 3000) (by omega)
  rw [e]; rfl
end Go.Proofs.YtpohfcljfemhlaaGreat.treeRuns
namespace Go.Proofs.YtpohfcljfemhlaaGreat
open Go Go.Ae
abbrev Yd : Type := Int × Int × Bool
theorem zU {x : Int} (h : 1 ≤ x ∧ x ≤ 4) : 2 ≤ jf x := by unfold jf; repeat' split <;> omega
def hd (ws : List Int) (a : Int) : Int × Bool := xW (qG ws a.toNat)
def Xi (ws : List Int) (e : Int) : Nat → Int → List Yd → Option (List Yd)
  | 0, _, _ => none
  | m + 1, a, acc => if e ≤ a then some acc else
      if (hd ws a).1 = 0 ∨ e < a + 1 + jf (hd ws a).1 then none
      else Xi ws e m (a + 1 + jf (hd ws a).1) (acc ++ [(a + 1, (hd ws a).1, (hd ws a).2)])
theorem UT {ws : List Int} {e : Int} {m : Nat} {a : Int} {acc : List Yd} : Xi ws e (m + 1) a acc = if e ≤ a then some acc else
      if (hd ws a).1 = 0 ∨ e < a + 1 + jf (hd ws a).1 then none
      else Xi ws e m (a + 1 + jf (hd ws a).1) (acc ++ [(a + 1, (hd ws a).1, (hd ws a).2)]) := rfl
def XB (ws : List Int) : Option (List Yd) :=
  if ws.length < 32 ∨ 256 < ws.length ∨ qG ws 5 < 14 ∨ (ws.length : Int) < qG ws 5 then none else Xi ws (qG ws 5) 301 14 []
def Nb (ws : List Int) (bs : List Yd) (c : Int) : Nat → Int → List Int → Option (List Int)
  | 0, _, _ => none
  | m + 1, w, acc => if w = 0 then some acc else if (w, c, false) ∈ bs ∧ w ∉ acc then Nb ws bs c m (qG ws w.toNat) (acc ++ [w]) else none
theorem ZW {ws : List Int} {bs : List Yd} {c : Int} {m : Nat} {w : Int} {acc : List Int} : Nb ws bs c (m + 1) w acc = if w = 0 then some acc else if (w, c, false) ∈ bs ∧ w ∉ acc then Nb ws bs c m (qG ws w.toNat) (acc ++ [w]) else none := rfl
def GC (ws : List Int) (bs : List Yd) : Nat → Int → List (List Int) → Option (List (List Int))
  | 0, _, ls => some ls
  | k + 1, c, ls => (Nb ws bs c 301 (qG ws c.toNat) []).bind fun r => GC ws bs k (c + 1) (ls ++ [r])
def Vf (ws : List Int) : Option (List (List Int)) := (XB ws).bind fun bs => GC ws bs 4 1 []
end Go.Proofs.YtpohfcljfemhlaaGreat
namespace Go.Proofs.YtpohfcljfemhlaaGreat
open Go Go.Ae
set_option maxRecDepth 100000
variable {g h : AH} {L R : List SP}
theorem YD {zs : List Int} {i : Nat} (hi : i < zs.length) : (zs.map (AV.int .u64))[i]? = some (.int .u64 (qG zs i)) := by
  unfold qG
  rw [List.getElem?_map, List.getElem?_eq_getElem hi]; rfl
theorem wS {zs : List Int} (hz : ∀ z ∈ zs, 0 ≤ z ∧ z < 18446744073709551616) (i : Nat) : 0 ≤ qG zs i ∧ qG zs i < 18446744073709551616 := by
  unfold qG
  cases h : zs[i]? with
  | none => simp
  | some z => exact hz z (List.mem_of_getElem? h)
end Go.Proofs.YtpohfcljfemhlaaGreat
namespace Go.Proofs.YtpohfcljfemhlaaGreat
open Go Go.Ae
set_option maxRecDepth 100000
variable {g h : AH} {L R : List SP}
def RowI (v : AV) (l : List Int) : SP := qS 3 1 l.length v (l.map (.int .i64))
def LlC (v : AV) (ls : List (List Int)) : SP := .ex fun rs : List AV => .all [.pur (rs.length = ls.length), qS 52 1 ls.length v rs, .all (List.zipWith RowI rs ls)]
theorem LlC.E {v : AV} {ls : List (List Int)} (H : HS g h (LlC v ls :: R)) : ∃ rs : List AV, rs.length = ls.length ∧ HS g h (qS 52 1 ls.length v rs :: .all (List.zipWith RowI rs ls) :: R) := by
  obtain ⟨rs, H⟩ := H.exE
  obtain ⟨e, H⟩ := HS.purE (H.allE)
  exact ⟨rs, e, H⟩
theorem LlC.I {v : AV} {ls : List (List Int)} {rs : List AV} (e : rs.length = ls.length) (H : HS g h (qS 52 1 ls.length v rs :: .all (List.zipWith RowI rs ls) :: R)) : HS g h (LlC v ls :: R) :=
  HS.exI rs (HS.allI (HS.purI e H))
theorem qZ0 {acc : List Int} {n : Nat} (hd : acc.Nodup) (hr : ∀ x ∈ acc, 15 ≤ x ∧ x < (n : Int)) (hn : n ≤ 256) : acc.length ≤ 256 := by
  have := Yw n acc hd fun x hx => by have := hr x hx; omega
  omega
end Go.Proofs.YtpohfcljfemhlaaGreat
namespace Go.Proofs.YtpohfcljfemhlaaGreat.arenaParts
open Go Go.Ae arenaPlays
set_option maxRecDepth 100000
abbrev Bk : Type := Int × Int
def Tile (e : Int) : Int → List Bk → Prop
  | a, [] => a = e
  | a, b :: bs => b.1 = a + 1 ∧ (1 ≤ b.2 ∧ b.2 ≤ 4) ∧ Tile e (a + 1 + jf b.2) bs
theorem Tile.le {e : Int} : ∀ {bs : List Bk} {a : Int}, Tile e a bs → a + 3 * (bs.length : Int) ≤ e := by
  intro bs
  induction bs with
  | nil => intro a h; have h : a = e := h; subst h; simp
  | cons b bs ih =>
    intro a h
    obtain ⟨h1, h2, h3⟩ := h
    have := ih h3
    have := zU h2
    simp
    omega
theorem Tile.mem {e : Int} : ∀ {bs : List Bk} {a : Int}, Tile e a bs → ∀ b ∈ bs, a + 1 ≤ b.1 ∧ (1 ≤ b.2 ∧ b.2 ≤ 4) ∧ b.1 + jf b.2 ≤ e := by
  intro bs
  induction bs with
  | nil => intro a _ b hb; cases hb
  | cons b bs ih =>
    intro a h x hx
    obtain ⟨h1, h2, h3⟩ := h
    have h4 := h3.le
    have h5 := zU h2
    rcases List.mem_cons.1 hx with rfl | hx
    · exact ⟨by omega, h2, by omega⟩
    · have := ih h3 x hx
      exact ⟨by omega, this.2⟩
theorem Tile.far {e : Int} : ∀ {bs : List Bk} {a : Int}, Tile e a bs → ∀ b ∈ bs, ∀ b' ∈ bs, b = b' ∨ b.1 + 3 ≤ b'.1 ∨ b'.1 + 3 ≤ b.1 := by
  intro bs
  induction bs with
  | nil => intro a _ b hb; cases hb
  | cons b bs ih =>
    intro a h x hx y hy
    obtain ⟨h1, h2, h3⟩ := h
    have h5 := zU h2
    rcases List.mem_cons.1 hx with rfl | hx
    · rcases List.mem_cons.1 hy with rfl | hy
      · exact .inl rfl
      · have := h3.mem y hy
        exact .inr (.inl (by omega))
    · skip
      rcases List.mem_cons.1 hy with rfl | hy
      · have := h3.mem x (by assumption)
        exact .inr (.inr (by omega))
      · exact ih h3 x (by assumption) y hy
theorem Tile.snoc {e c : Int} (hc : 1 ≤ c ∧ c ≤ 4) : ∀ {bs : List Bk} {a : Int}, Tile e a bs → Tile (e + 1 + jf c) a (bs ++ [(e + 1, c)]) := by
  intro bs
  induction bs with
  | nil => intro a h; have h : a = e := h; subst h; exact ⟨rfl, hc, rfl⟩
  | cons b bs ih => intro a h; exact ⟨h.1, h.2.1, ih h.2.2⟩
theorem Tile.nodup {e : Int} : ∀ {bs : List Bk} {a : Int}, Tile e a bs → (bs.map (·.1)).Nodup := by
  intro bs
  induction bs with
  | nil => intro a _; exact List.nodup_nil
  | cons b bs ih =>
    intro a h
    obtain ⟨h1, h2, h3⟩ := h
    rw [List.map_cons, List.nodup_cons]
    refine ⟨?_, ih h3⟩
    intro hm
    obtain ⟨x, hx, he⟩ := List.mem_map.1 hm
    have := h3.mem x hx
    have := zU h2
    omega
def Chain (zs : List Int) : Int → List Int → Prop
  | w, [] => w = 0
  | w, x :: l => w = x ∧ Chain zs (qG zs x.toNat) l
theorem Chain.keep {zs zt : List Int} : ∀ {l : List Int} {w : Int}, Chain zs w l → (∀ x ∈ l, qG zt x.toNat = qG zs x.toNat) → Chain zt w l := by
  intro l
  induction l with
  | nil => intro w h _; exact h
  | cons x l ih =>
    intro w h hk
    refine ⟨h.1, ?_⟩
    rw [hk x (List.mem_cons_self ..)]
    exact ih h.2 fun y hy => hk y (List.mem_cons_of_mem _ hy)
structure je (dt : Prop) (zs sts : List Int) (T : Nat) (bs : List Bk) (ls : Int → List Int) : Prop where
  len : zs.length = T
  lo : 32 ≤ T
  hi : T ≤ 256
  nn : ∀ z ∈ zs, 0 ≤ z ∧ z < 18446744073709551616
  slen : sts.length = 257
  tile : Tile (qG zs 5) 14 bs
  bump : qG zs 5 ≤ T
  hdr : ∀ b ∈ bs, qG zs (b.1 - 1).toNat = b.2 + (if qG sts b.1.toNat = 1 then 8 else 0)
  known : ∀ x : Nat, qG sts x ≠ 0 → ∃ c, ((x : Int), c) ∈ bs
  st : ∀ b ∈ bs, 1 ≤ qG sts b.1.toNat ∧ qG sts b.1.toNat ≤ 3
  data : dt → ∀ p : Nat, 14 ≤ p → p < T → (∀ c, ((p : Int) + 1, c) ∉ bs) → qG zs p = 0 ∨ 13 ≤ qG zs p
  chain : ∀ c : Int, 1 ≤ c → c ≤ 4 → Chain zs (qG zs c.toNat) (ls c)
  listed : ∀ c : Int, 1 ≤ c → c ≤ 4 → ∀ x, x ∈ ls c ↔ (x, c) ∈ bs ∧ qG sts x.toNat = 3
  nodup : ∀ c : Int, (ls c).Nodup
def PS (zs sts : List Int) (T : Nat) : Prop := ∃ bs ls, je True zs sts T bs ls
theorem wK (l : List Int) (i j : Nat) (v : Int) (hi : i < l.length) : qG (l.set i v) j = if i = j then v else qG l j := by
  unfold qG
  rw [List.getElem?_set]
  by_cases h : i = j
  · rw [if_pos h, if_pos h, if_pos hi]; rfl
  · rw [if_neg h, if_neg h]
theorem qZ5 (cs : List Cl) (p : Nat) (hp : 0 < p) : ∀ (l : List Int), p < l.length → qG (cs.foldl zp l) p = cs.foldl (fun w c => if c.1 = (p : Int) then c.2 else w) (qG l p) := by
  induction cs with
  | nil => intro l _; rfl
  | cons c cs ih =>
    intro l hl
    rw [List.foldl_cons, List.foldl_cons, ih _ (by rw [kx]; exact hl), wa]
    congr 1
    by_cases h : c.1 = (p : Int)
    · rw [if_pos h, if_pos ⟨h, by omega, by omega⟩]
    · rw [if_neg h, if_neg (fun h' => h h'.1)]
theorem apply_at {zs : List Int} {T : Nat} (h1 : zs.length = T) (h2 : 32 ≤ T) (h3 : T ≤ 256) (cs : List Cl) {p : Nat} (hp : 0 < p) (hT : p < T) :
    qG (jK zs cs) p = cs.foldl (fun w c => if c.1 = (p : Int) then c.2 else w) (qG zs p) := by
  have hl : szZ zs.length = T := by rw [h1]; exact QP h2 h3
  unfold jK
  rw [qZ5 cs p hp _ (by rw [Je, hl]; exact hT), qXp zs hp (by omega)]
theorem Vw {zs : List Int} {T : Nat} (h1 : zs.length = T) (h2 : 32 ≤ T) (h3 : T ≤ 256) {p : Nat} (hp : 0 < p) (hT : p < T) : qG (jK zs []) p = qG zs p := apply_at h1 h2 h3 [] hp hT
theorem Jl {zs : List Int} {T : Nat} (h1 : zs.length = T) (h2 : 32 ≤ T) (h3 : T ≤ 256) {a x : Int} {p : Nat} (hp : 0 < p) (hT : p < T) :
    qG (jK zs [(a, x)]) p = if a = (p : Int) then x else qG zs p := apply_at h1 h2 h3 [(a, x)] hp hT
theorem xS {zs : List Int} {T : Nat} (h1 : zs.length = T) (h2 : 32 ≤ T) (h3 : T ≤ 256) {a x b y : Int} {p : Nat} (hp : 0 < p) (hT : p < T) :
    qG (jK zs [(a, x), (b, y)]) p = if b = (p : Int) then y else if a = (p : Int) then x else qG zs p := apply_at h1 h2 h3 [(a, x), (b, y)] hp hT
variable {dt : Prop} {zs sts : List Int} {T : Nat} {bs : List Bk} {ls : Int → List Int}
theorem je.mem (P : je dt zs sts T bs ls) {b c : Int} (h : (b, c) ∈ bs) : 15 ≤ b ∧ b + 2 ≤ T ∧ 1 ≤ c ∧ c ≤ 4 := by
  have h1 := P.tile.mem _ h
  have h2 := P.bump
  dsimp only at h1
  have := zU h1.2.1
  exact ⟨by omega, by omega, h1.2.1⟩
theorem je.uniq (P : je dt zs sts T bs ls) {b c c' : Int} (h : (b, c) ∈ bs) (h' : (b, c') ∈ bs) : c = c' := by
  rcases P.tile.far _ h _ h' with h | h | h
  · cases h; rfl
  · dsimp only at h; omega
  · dsimp only at h; omega
theorem je.apart (P : je dt zs sts T bs ls) {b c b' c' : Int} (h : (b, c) ∈ bs) (h' : (b', c') ∈ bs) : b = b' ∨ b + 3 ≤ b' ∨ b' + 3 ≤ b := by
  rcases P.tile.far _ h _ h' with h | h | h
  · cases h; exact .inl rfl
  · exact .inr (.inl h)
  · exact .inr (.inr h)
theorem je.low (P : je dt zs sts T bs ls) : 14 ≤ qG zs 5 := by have := P.tile.le; omega
theorem je.head (P : je dt zs sts T bs ls) {c : Int} (h1 : 1 ≤ c) (h2 : c ≤ 4) : qG zs c.toNat = 0 ∨ ((qG zs c.toNat, c) ∈ bs ∧ qG sts (qG zs c.toNat).toNat = 3) := by
  have hc := P.chain c h1 h2
  have hl := P.listed c h1 h2
  cases h : ls c with
  | nil => rw [h] at hc; exact .inl hc
  | cons x l =>
    rw [h] at hc hl
    have he : qG zs c.toNat = x := hc.1
    rw [he]
    exact .inr ((hl x).1 (List.mem_cons_self ..))
theorem je.same (P : je dt zs sts T bs ls) : je dt (jK zs []) sts T bs ls := by
  have hlo := P.lo
  have hl : szZ zs.length = T := by rw [P.len]; exact QP P.lo P.hi
  have hat : ∀ p : Nat, 0 < p → p < T → qG (jK zs []) p = qG zs p := fun p h0 hp => Vw P.len P.lo P.hi h0 hp
  have h5 := hat 5 (by omega) (by omega)
  refine ⟨by rw [yX, hl], P.lo, P.hi, yl P.nn (fun c hc => by cases hc), P.slen, by rw [h5]; exact P.tile, by rw [h5]; exact P.bump, ?_, P.known, P.st, ?_, ?_, P.listed, P.nodup⟩
  · rintro ⟨b, c⟩ hb
    have := P.mem hb
    rw [hat _ (by dsimp only; omega) (by dsimp only; omega)]
    exact P.hdr _ hb
  · intro hd p h1 h2 h3
    rw [hat _ (by omega) h2]
    exact P.data hd p h1 h2 h3
  · intro c h1 h2
    rw [hat _ (by omega) (by omega)]
    refine (P.chain c h1 h2).keep fun x hx => ?_
    have hm := P.mem ((P.listed c h1 h2 x).1 hx).1
    exact hat _ (by omega) (by omega)
theorem je.freed (P : je dt zs sts T bs ls) {b c : Int} (hb : (b, c) ∈ bs) (hs : qG sts b.toNat = 1) : je dt (jK zs [(b - 1, c)]) (sts.set b.toNat 2) T bs ls := by
  have hm := P.mem hb
  have hlo := P.lo
  have hhi := P.hi
  have hsl := P.slen
  have hl : szZ zs.length = T := by rw [P.len]; exact QP P.lo P.hi
  have hat : ∀ p : Nat, 0 < p → p < T → qG (jK zs [(b - 1, c)]) p = if b - 1 = (p : Int) then c else qG zs p := fun p h0 hp => Jl P.len P.lo P.hi h0 hp
  have hst : ∀ j, qG (sts.set b.toNat 2) j = if b.toNat = j then 2 else qG sts j := fun j => wK sts _ j 2 (by omega)
  have h5 : qG (jK zs [(b - 1, c)]) 5 = qG zs 5 := by rw [hat 5 (by omega) (by omega), if_neg (by omega)]
  refine ⟨by rw [yX, hl], P.lo, P.hi, yl P.nn (fun d hd => by rw [List.mem_singleton] at hd; subst hd; dsimp only; omega), by rw [List.length_set]; exact P.slen, by rw [h5]; exact P.tile, by rw [h5]; exact P.bump, ?_, ?_, ?_, ?_, ?_, ?_, P.nodup⟩
  · rintro ⟨b', c'⟩ hb'
    have hm' := P.mem hb'
    have hf := P.apart hb hb'
    have hh := P.hdr _ hb'
    dsimp only at hh ⊢
    rw [hat _ (by omega) (by omega), hst]
    by_cases e : b = b'
    · subst e
      have := P.uniq hb hb'
      subst this
      rw [if_pos (by omega), if_pos rfl, if_neg (by omega)]; omega
    · rw [if_neg (by omega), if_neg (show ¬ b.toNat = b'.toNat by omega)]; exact hh
  · intro x hx
    rw [hst] at hx
    by_cases e : b.toNat = x
    · exact ⟨c, by rw [show (x : Int) = b by omega]; exact hb⟩
    · rw [if_neg e] at hx; exact P.known x hx
  · rintro ⟨b', c'⟩ hb'
    have := P.st _ hb'
    rw [hst]
    dsimp only at this ⊢
    split <;> omega
  · intro hd p h1 h2 h3
    rw [hat _ (by omega) h2, if_neg (fun e => h3 c (by rw [show (p : Int) + 1 = b by omega]; exact hb))]
    exact P.data hd p h1 h2 h3
  · intro c' h1 h2
    rw [hat _ (by omega) (by omega), if_neg (by omega)]
    refine (P.chain c' h1 h2).keep fun x hx => ?_
    have hx := ((P.listed c' h1 h2 x).1 hx).1
    have hm' := P.mem hx
    have hf := P.apart hb hx
    rw [hat _ (by omega) (by omega), if_neg (by omega)]
  · intro c' h1 h2 x
    rw [P.listed c' h1 h2 x, hst]
    constructor
    · rintro ⟨h3, h4⟩
      have := P.mem h3
      rw [if_neg (fun e => by rw [e] at hs; omega)]
      exact ⟨h3, h4⟩
    · rintro ⟨h3, h4⟩
      split at h4
      · omega
      · exact ⟨h3, h4⟩
theorem je.given (P : je dt zs sts T bs ls) {b c : Int} (hb : (b, c) ∈ bs) (hs : qG sts b.toNat = 2) :
    je dt (jK zs [(b, qG zs c.toNat), (c, b)]) (sts.set b.toNat 3) T bs (fun d => if d = c then b :: ls c else ls d) := by
  have hm := P.mem hb
  have hlo := P.lo
  have hhi := P.hi
  have hsl := P.slen
  have hl : szZ zs.length = T := by rw [P.len]; exact QP P.lo P.hi
  have hat : ∀ p : Nat, 0 < p → p < T → qG (jK zs [(b, qG zs c.toNat), (c, b)]) p = if c = (p : Int) then b else if b = (p : Int) then qG zs c.toNat else qG zs p := fun p h0 hp => xS P.len P.lo P.hi h0 hp
  have hst : ∀ j, qG (sts.set b.toNat 3) j = if b.toNat = j then 3 else qG sts j := fun j => wK sts _ j 3 (by omega)
  have hwc := P.head hm.2.2.1 hm.2.2.2
  have hwb := wS P.nn c.toNat
  have hch := P.chain c hm.2.2.1 hm.2.2.2
  generalize hw : qG zs c.toNat = w at *
  have hw0 : w = 0 ∨ 15 ≤ w := by
    rcases hwc with h | h
    · exact .inl h
    · exact .inr (P.mem h.1).1
  have h5 : qG (jK zs [(b, w), (c, b)]) 5 = qG zs 5 := by rw [hat 5 (by omega) (by omega), if_neg (by omega), if_neg (by omega)]
  have hnb : ∀ {c' x : Int}, 1 ≤ c' → c' ≤ 4 → x ∈ ls c' → x ≠ b ∧ (x, c') ∈ bs ∧ 15 ≤ x ∧ x + 2 ≤ T := by
    intro c' x h1 h2 hx
    have h3 := (P.listed c' h1 h2 x).1 hx
    have h4 := P.mem h3.1
    refine ⟨?_, h3.1, h4.1, h4.2.1⟩
    rintro rfl
    omega
  refine ⟨by rw [yX, hl], P.lo, P.hi, yl P.nn (fun d hd => by
    rcases List.mem_cons.1 hd with rfl | hd
    · exact hwb
    · rw [List.mem_singleton] at hd; subst hd; dsimp only; omega), by rw [List.length_set]; exact P.slen, by rw [h5]; exact P.tile, by rw [h5]; exact P.bump, ?_, ?_, ?_, ?_, ?_, ?_, ?_⟩
  · rintro ⟨b', c'⟩ hb'
    have hm' := P.mem hb'
    have hf := P.apart hb hb'
    have hh := P.hdr _ hb'
    dsimp only at hh ⊢
    rw [hat _ (by omega) (by omega), hst, if_neg (by omega), if_neg (by omega), hh]
    by_cases e : b = b'
    · subst e
      rw [hs, if_neg (by omega), if_pos rfl, if_neg (by omega)]
    · rw [if_neg (show ¬ b.toNat = b'.toNat by omega)]
  · intro x hx
    rw [hst] at hx
    by_cases e : b.toNat = x
    · exact ⟨c, by rw [show (x : Int) = b by omega]; exact hb⟩
    · rw [if_neg e] at hx; exact P.known x hx
  · rintro ⟨b', c'⟩ hb'
    have := P.st _ hb'
    rw [hst]
    dsimp only at this ⊢
    split <;> omega
  · intro hd p h1 h2 h3
    rw [hat _ (by omega) h2, if_neg (by omega)]
    split
    · omega
    · exact P.data hd p h1 h2 h3
  · intro c' h1 h2
    have key : ∀ x ∈ ls c', qG (jK zs [(b, w), (c, b)]) x.toNat = qG zs x.toNat := by
      intro x hx
      have h3 := hnb h1 h2 hx
      rw [hat _ (by omega) (by omega), if_neg (by omega), if_neg (by omega)]
    rw [hat _ (by omega) (by omega)]
    by_cases e : c' = c
    · subst e
      rw [if_pos (by omega), if_pos rfl]
      refine ⟨rfl, ?_⟩
      rw [hat _ (by omega) (by omega), if_neg (by omega), if_pos (by omega)]
      exact hch.keep key
    · rw [if_neg (by omega), if_neg (by omega), if_neg e]
      exact (P.chain c' h1 h2).keep key
  · intro c' h1 h2 x
    rw [hst]
    by_cases e : c' = c
    · subst e
      rw [if_pos rfl, List.mem_cons, P.listed c' h1 h2 x]
      constructor
      · rintro (rfl | ⟨h3, h4⟩)
        · exact ⟨hb, by rw [if_pos rfl]⟩
        · refine ⟨h3, ?_⟩
          split
          · rfl
          · exact h4
      · rintro ⟨h3, h4⟩
        have := P.mem h3
        by_cases e2 : x = b
        · exact .inl e2
        · rw [if_neg (by omega)] at h4
          exact .inr ⟨h3, h4⟩
    · rw [if_neg e, P.listed c' h1 h2 x]
      constructor
      · rintro ⟨h3, h4⟩
        refine ⟨h3, ?_⟩
        split
        · rfl
        · exact h4
      · rintro ⟨h3, h4⟩
        have := P.mem h3
        by_cases e2 : x = b
        · subst e2
          exact absurd (P.uniq h3 hb) e
        · rw [if_neg (by omega)] at h4
          exact ⟨h3, h4⟩
  · intro c'
    try dsimp only
    split
    · rw [List.nodup_cons]
      refine ⟨fun h => (hnb hm.2.2.1 hm.2.2.2 h).1 rfl, P.nodup c⟩
    · exact P.nodup c'
theorem je.again (P : je dt zs sts T bs ls) {b c : Int} {l : List Int} (hc : 1 ≤ c ∧ c ≤ 4) (hl0 : ls c = b :: l) :
    je dt (jK zs [(c, qG zs b.toNat), (b - 1, c + 8)]) (sts.set b.toNat 1) T bs (fun d => if d = c then l else ls d) := by
  have hbl := (P.listed c hc.1 hc.2 b).1 (by rw [hl0]; exact List.mem_cons_self ..)
  have hb := hbl.1
  have hs := hbl.2
  have hm := P.mem hb
  have hlo := P.lo
  have hhi := P.hi
  have hsl := P.slen
  have hl : szZ zs.length = T := by rw [P.len]; exact QP P.lo P.hi
  have hat : ∀ p : Nat, 0 < p → p < T → qG (jK zs [(c, qG zs b.toNat), (b - 1, c + 8)]) p = if b - 1 = (p : Int) then c + 8 else if c = (p : Int) then qG zs b.toNat else qG zs p := fun p h0 hp => xS P.len P.lo P.hi h0 hp
  have hst : ∀ j, qG (sts.set b.toNat 1) j = if b.toNat = j then 1 else qG sts j := fun j => wK sts _ j 1 (by omega)
  have hwb := wS P.nn b.toNat
  have hch := P.chain c hc.1 hc.2
  rw [hl0] at hch
  have hch2 : Chain zs (qG zs b.toNat) l := hch.2
  have hnd := P.nodup c
  rw [hl0, List.nodup_cons] at hnd
  generalize hw : qG zs b.toNat = w at *
  have h5 : qG (jK zs [(c, w), (b - 1, c + 8)]) 5 = qG zs 5 := by rw [hat 5 (by omega) (by omega), if_neg (by omega), if_neg (by omega)]
  refine ⟨by rw [yX, hl], P.lo, P.hi, yl P.nn (fun d hd => by
    rcases List.mem_cons.1 hd with rfl | hd
    · exact hwb
    · rw [List.mem_singleton] at hd; subst hd; dsimp only; omega), by rw [List.length_set]; exact P.slen, by rw [h5]; exact P.tile, by rw [h5]; exact P.bump, ?_, ?_, ?_, ?_, ?_, ?_, ?_⟩
  · rintro ⟨b', c'⟩ hb'
    have hm' := P.mem hb'
    have hf := P.apart hb hb'
    have hh := P.hdr _ hb'
    dsimp only at hh ⊢
    rw [hat _ (by omega) (by omega), hst]
    by_cases e : b = b'
    · subst e
      have := P.uniq hb hb'
      subst this
      rw [if_pos (by omega), if_pos rfl, if_pos rfl]
    · rw [if_neg (by omega), if_neg (by omega), if_neg (show ¬ b.toNat = b'.toNat by omega)]; exact hh
  · intro x hx
    rw [hst] at hx
    by_cases e : b.toNat = x
    · exact ⟨c, by rw [show (x : Int) = b by omega]; exact hb⟩
    · rw [if_neg e] at hx; exact P.known x hx
  · rintro ⟨b', c'⟩ hb'
    have := P.st _ hb'
    rw [hst]
    dsimp only at this ⊢
    split <;> omega
  · intro hd p h1 h2 h3
    rw [hat _ (by omega) h2, if_neg (fun e => h3 c (by rw [show (p : Int) + 1 = b by omega]; exact hb)), if_neg (by omega)]
    exact P.data hd p h1 h2 h3
  · intro c' h1 h2
    have key : ∀ x ∈ ls c', qG (jK zs [(c, w), (b - 1, c + 8)]) x.toNat = qG zs x.toNat := by
      intro x hx
      have hx := ((P.listed c' h1 h2 x).1 hx).1
      have hm' := P.mem hx
      have hf := P.apart hb hx
      rw [hat _ (by omega) (by omega), if_neg (by omega), if_neg (by omega)]
    rw [hat _ (by omega) (by omega), if_neg (by omega)]
    by_cases e : c' = c
    · subst e
      rw [if_pos (by omega), if_pos rfl]
      exact hch2.keep fun x hx => key x (by rw [hl0]; exact List.mem_cons_of_mem _ hx)
    · rw [if_neg (by omega), if_neg e]
      exact (P.chain c' h1 h2).keep key
  · intro c' h1 h2 x
    rw [hst]
    by_cases e : c' = c
    · subst e
      rw [if_pos rfl]
      have hx := P.listed c' h1 h2 x
      rw [hl0, List.mem_cons] at hx
      constructor
      · intro h3
        have h4 := hx.1 (.inr h3)
        have := P.mem h4.1
        refine ⟨h4.1, ?_⟩
        rw [if_neg]
        · exact h4.2
        · intro e2
          have : b = x := by omega
          subst this
          exact hnd.1 h3
      · rintro ⟨h3, h4⟩
        split at h4
        · omega
        · rename_i hne
          rcases hx.2 ⟨h3, h4⟩ with rfl | h
          · exact absurd rfl hne
          · exact h
    · rw [if_neg e, P.listed c' h1 h2 x]
      constructor
      · rintro ⟨h3, h4⟩
        have := P.mem h3
        refine ⟨h3, ?_⟩
        rw [if_neg]
        · exact h4
        · intro e2
          have : b = x := by omega
          subst this
          exact absurd (P.uniq h3 hb) e
      · rintro ⟨h3, h4⟩
        split at h4
        · omega
        · exact ⟨h3, h4⟩
  · intro c'
    try dsimp only
    split
    · exact hnd.2
    · exact P.nodup c'
theorem je.grown (P : je dt zs sts T bs ls) {c e : Int} (hc : 1 ≤ c ∧ c ≤ 4) (he : qG zs 5 = e) (hT : e + 1 + jf c ≤ T) :
    je dt (jK zs [(5, e + 1 + jf c), (e, c + 8)]) (sts.set (e + 1).toNat 1) T (bs ++ [(e + 1, c)]) ls := by
  have hlo := P.lo
  have hhi := P.hi
  have hsl := P.slen
  have he14 := P.low
  rw [he] at he14
  have hs := zU hc
  have hl : szZ zs.length = T := by rw [P.len]; exact QP P.lo P.hi
  have hat : ∀ p : Nat, 0 < p → p < T → qG (jK zs [(5, e + 1 + jf c), (e, c + 8)]) p = if e = (p : Int) then c + 8 else if 5 = (p : Int) then e + 1 + jf c else qG zs p := fun p h0 hp => xS P.len P.lo P.hi h0 hp
  have hst : ∀ j, qG (sts.set (e + 1).toNat 1) j = if (e + 1).toNat = j then 1 else qG sts j := fun j => wK sts _ j 1 (by omega)
  have h5 : qG (jK zs [(5, e + 1 + jf c), (e, c + 8)]) 5 = e + 1 + jf c := by rw [hat 5 (by omega) (by omega), if_neg (by omega), if_pos (by omega)]
  have hme : ∀ {b c' : Int}, (b, c') ∈ bs → 15 ≤ b ∧ b + 2 ≤ e ∧ 1 ≤ c' ∧ c' ≤ 4 := by
    intro b c' h
    have h1 := P.tile.mem _ h
    rw [he] at h1
    dsimp only at h1
    have := zU h1.2.1
    exact ⟨by omega, by omega, h1.2.1⟩
  refine ⟨by rw [yX, hl], P.lo, P.hi, yl P.nn (fun d hd => by
    rcases List.mem_cons.1 hd with rfl | hd
    · dsimp only; omega
    · rw [List.mem_singleton] at hd; subst hd; dsimp only; omega), by rw [List.length_set]; exact P.slen, by rw [h5]; exact Tile.snoc hc (he ▸ P.tile), by rw [h5]; exact hT, ?_, ?_, ?_, ?_, ?_, ?_, P.nodup⟩
  · rintro ⟨b', c'⟩ hb'
    rcases List.mem_append.1 hb' with hb' | hb'
    · have hm' := hme hb'
      have hh := P.hdr _ hb'
      dsimp only at hh ⊢
      rw [hat _ (by omega) (by omega), hst, if_neg (by omega), if_neg (by omega), if_neg (show ¬ (e + 1).toNat = b'.toNat by omega)]; exact hh
    · rw [List.mem_singleton] at hb'
      cases hb'
      dsimp only
      rw [hat _ (by omega) (by omega), hst, if_pos (by omega), if_pos rfl, if_pos rfl]
  · intro x hx
    rw [hst] at hx
    by_cases e2 : (e + 1).toNat = x
    · exact ⟨c, List.mem_append.2 (.inr (by rw [show (x : Int) = e + 1 by omega]; exact List.mem_singleton.2 rfl))⟩
    · rw [if_neg e2] at hx
      obtain ⟨d, hd⟩ := P.known x hx
      exact ⟨d, List.mem_append.2 (.inl hd)⟩
  · rintro ⟨b', c'⟩ hb'
    rw [hst]
    rcases List.mem_append.1 hb' with hb' | hb'
    · have := P.st _ hb'
      dsimp only at this ⊢
      split <;> omega
    · rw [List.mem_singleton] at hb'
      cases hb'
      dsimp only
      rw [if_pos rfl]; omega
  · intro hd p h1 h2 h3
    rw [hat _ (by omega) h2, if_neg (fun e2 => h3 c (List.mem_append.2 (.inr (by rw [show (p : Int) + 1 = e + 1 by omega]; exact List.mem_singleton.2 rfl)))), if_neg (by omega)]
    exact P.data hd p h1 h2 fun d hd => h3 d (List.mem_append.2 (.inl hd))
  · intro c' h1 h2
    rw [hat _ (by omega) (by omega), if_neg (by omega), if_neg (by omega)]
    refine (P.chain c' h1 h2).keep fun x hx => ?_
    have hm' := hme ((P.listed c' h1 h2 x).1 hx).1
    rw [hat _ (by omega) (by omega), if_neg (by omega), if_neg (by omega)]
  · intro c' h1 h2 x
    rw [P.listed c' h1 h2 x, hst, List.mem_append, List.mem_singleton]
    constructor
    · rintro ⟨h3, h4⟩
      have := hme h3
      rw [if_neg (by omega)]
      exact ⟨.inl h3, h4⟩
    · rintro ⟨h3 | h3, h4⟩
      · have := hme h3
        rw [if_neg (by omega)] at h4
        exact ⟨h3, h4⟩
      · cases h3
        rw [if_pos rfl] at h4
        omega
theorem Xm {c : Int} (hc : 1 ≤ c ∧ c ≤ 4) : xW c = (c, false) := by unfold xW; rw [if_pos hc]
theorem QR {c : Int} (hc : 1 ≤ c ∧ c ≤ 4) : xW (c + 8) = (c, true) := by
  unfold xW
  rw [if_neg (by omega), if_pos (by omega), show c + 8 - 8 = c by omega]
theorem je.szz (P : je dt zs sts T bs ls) : szZ zs.length = T := by rw [P.len]; exact QP P.lo P.hi
theorem je.ask_blk (P : je dt zs sts T bs ls) {m b c : Int} (hb : (b, c) ∈ bs) : zQ (yK zs m [] []) b = ((c, decide (qG sts b.toNat = 1), 0), yK zs m [] []) := by
  have hm := P.mem hb
  have hl := P.szz
  have hh := P.hdr _ hb
  dsimp only at hh
  have ha := qXN (zs := zs) (m := m) (C := []) (F := []) (p := (b - 1).toNat) (w := qG zs (b - 1).toNat) (by omega) (by omega) rfl
  rw [show (((b - 1).toNat : Nat) : Int) + 1 = b by omega, hh] at ha
  rw [ha]
  by_cases h1 : qG sts b.toNat = 1
  · rw [if_pos h1, QR hm.2.2, if_neg (by dsimp only; omega), decide_eq_true h1]
  · rw [if_neg h1, Int.add_zero, Xm hm.2.2, if_neg (by dsimp only; omega), decide_eq_false h1]
theorem je.st_no (P : je dt zs sts T bs ls) {b : Int} (h0 : 0 ≤ b) (hb : ∀ c, (b, c) ∉ bs) : qG sts b.toNat = 0 := by
  by_cases h : qG sts b.toNat = 0
  · exact h
  · obtain ⟨c, hc⟩ := P.known _ h
    rw [show ((b.toNat : Nat) : Int) = b by omega] at hc
    exact absurd hc (hb c)
theorem qZE {n : Nat} (h : n ≤ 9) : n ≤ (max 0 (min (96 : Int) 96)).toNat := by omega
theorem qVb {T : Nat} {a x b y : Int} (h : 1 ≤ a ∧ a < (T : Int)) (h' : 1 ≤ b ∧ b < (T : Int)) : ∀ d ∈ [((a, x) : Cl), (b, y)], 1 ≤ d.1 ∧ d.1 < (T : Int) := by
  intro d hd
  rcases List.mem_cons.1 hd with rfl | hd
  · exact h
  · rw [List.mem_singleton] at hd; subst hd; exact h'
theorem qXh {a x b y : Int} (h : a ≠ b) : zy [] [(a, x), (b, y)] = [(a, x), (b, y)] := by
  show zo b y [(a, x)] = _
  unfold zo
  rw [if_neg (by dsimp only; omega)]; rfl
theorem Gf (n i : Nat) : qG (List.replicate n (0 : Int)) i = 0 := by
  unfold qG
  rw [List.getElem?_replicate]
  split <;> rfl
theorem VK (w : Int) : PS (zr w) (List.replicate 257 0) (szZ w) := by
  have hb := Jt w
  have hat : ∀ p, qG (zr w) p = if 5 = p then 14 else 0 := by
    intro p
    unfold zr
    rw [wK _ _ _ _ (by simp; omega), Gf]
  have h5 : qG (zr w) 5 = 14 := by rw [hat, if_pos rfl]
  refine ⟨[], fun _ => [], Vc w, hb.1, hb.2, UZ w, by simp, h5.symm, by rw [h5]; omega, (fun b hb => by cases hb), ?_, (fun b hb => by cases hb), ?_, ?_, ?_, fun _ => List.nodup_nil⟩
  · intro x hx
    exact absurd (Gf 257 x) hx
  · intro hd p h1 h2 h3
    rw [hat, if_neg (by omega)]
    exact .inl rfl
  · intro c h1 h2
    show qG _ _ = 0
    rw [hat, if_neg (by omega)]
  · intro c h1 h2 x
    constructor
    · intro h; cases h
    · rintro ⟨h, _⟩; cases h
def kM (sts : List Int) (b : Bk) : Yd := (b.1, b.2, decide (qG sts b.1.toNat = 1))
theorem Zj {e : Int} : ∀ {bs : List Bk} {a : Int} {m : Nat} {acc : List Yd}, Tile e a bs → 14 ≤ a → (∀ b ∈ bs, qG zs (b.1 - 1).toNat = b.2 + (if qG sts b.1.toNat = 1 then 8 else 0)) → bs.length < m →
    Xi zs e m a acc = some (acc ++ bs.map (kM sts)) := by
  intro bs
  induction bs with
  | nil =>
    intro a m acc h _ _ hm
    obtain ⟨m, rfl⟩ : ∃ k, m = k + 1 := ⟨m - 1, by simp at hm; omega⟩
    have h : a = e := h
    subst h
    rw [UT, if_pos (Int.le_refl _)]; simp
  | cons b bs ih =>
    intro a m acc h ha hh hm
    obtain ⟨m, rfl⟩ : ∃ k, m = k + 1 := ⟨m - 1, by simp at hm; omega⟩
    obtain ⟨h1, h2, h3⟩ := h
    have h4 := h3.le
    have h5 := zU h2
    have hb := hh b (List.mem_cons_self ..)
    rw [h1, show a + 1 - 1 = a by omega] at hb
    have hd1 : hd zs a = (b.2, decide (qG sts b.1.toNat = 1)) := by
      unfold hd
      rw [hb, h1]
      by_cases hs : qG sts (a + 1).toNat = 1
      · rw [if_pos hs, QR h2, decide_eq_true hs]
      · rw [if_neg hs, Int.add_zero, Xm h2, decide_eq_false hs]
    rw [UT, if_neg (by omega), hd1]
    dsimp only
    rw [if_neg (by omega), ih h3 (by omega) (fun x hx => hh x (List.mem_cons_of_mem _ hx)) (by simp at hm; omega)]
    rw [List.append_assoc]
    congr 2
    show (a + 1, b.2, _) :: _ = kM sts b :: _
    unfold kM
    rw [h1]; rfl
theorem je.blocks (P : je dt zs sts T bs ls) : XB zs = some (bs.map (kM sts)) := by
  have hlo := P.lo
  have hhi := P.hi
  have hlow := P.low
  have hb := P.bump
  have hle := P.tile.le
  unfold XB
  rw [if_neg (by rw [P.len]; omega), Zj P.tile (by omega) P.hdr (by omega), List.nil_append]
theorem qVM {Bs : List Yd} {c : Int} : ∀ {l : List Int} {w : Int} {m : Nat} {acc : List Int}, Chain zs w l → (∀ x ∈ l, x ≠ 0 ∧ (x, c, false) ∈ Bs) → (acc ++ l).Nodup → l.length < m → Nb zs Bs c m w acc = some (acc ++ l) := by
  intro l
  induction l with
  | nil =>
    intro w m acc h _ _ hm
    obtain ⟨m, rfl⟩ : ∃ k, m = k + 1 := ⟨m - 1, by simp at hm; omega⟩
    have h : w = 0 := h
    subst h
    rw [ZW, if_pos rfl, List.append_nil]
  | cons x l ih =>
    intro w m acc h hx hn hm
    obtain ⟨m, rfl⟩ : ∃ k, m = k + 1 := ⟨m - 1, by simp at hm; omega⟩
    obtain ⟨h1, h2⟩ := h
    have hx1 := hx x (List.mem_cons_self ..)
    have e : acc ++ x :: l = (acc ++ [x]) ++ l := by simp
    have hni : x ∉ acc := by
      rw [List.nodup_append] at hn
      intro h
      exact hn.2.2 x h x (List.mem_cons_self ..) rfl
    rw [ZW, h1, if_neg hx1.1, if_pos ⟨hx1.2, hni⟩, e]
    exact ih h2 (fun y hy => hx y (List.mem_cons_of_mem _ hy)) (e ▸ hn) (by simp at hm; omega)
theorem je.lists (P : je dt zs sts T bs ls) : Vf zs = some [ls 1, ls 2, ls 3, ls 4] := by
  have key : ∀ c : Int, 1 ≤ c → c ≤ 4 → Nb zs (bs.map (kM sts)) c 301 (qG zs c.toNat) [] = some (ls c) := by
    intro c h1 h2
    have hb : ∀ x ∈ ls c, (x, c) ∈ bs ∧ qG sts x.toNat = 3 := fun x hx => (P.listed c h1 h2 x).1 hx
    have hn : (ls c).length ≤ 256 := qZ0 (n := T) (P.nodup c) (fun x hx => by have := P.mem (hb x hx).1; omega) P.hi
    rw [qVM (P.chain c h1 h2) (fun x hx => ?_) (by rw [List.nil_append]; exact P.nodup c) (by omega), List.nil_append]
    have h3 := hb x hx
    have h4 := P.mem h3.1
    refine ⟨by omega, List.mem_map.2 ⟨_, h3.1, ?_⟩⟩
    unfold kM
    dsimp only
    rw [h3.2]; rfl
  unfold Vf
  rw [P.blocks, Option.bind_some]
  unfold GC
  rw [key 1 (by omega) (by omega), Option.bind_some]
  unfold GC
  rw [show (1 : Int) + 1 = 2 from rfl, key 2 (by omega) (by omega), Option.bind_some]
  unfold GC
  rw [show (2 : Int) + 1 = 3 from rfl, key 3 (by omega) (by omega), Option.bind_some]
  unfold GC
  rw [show (3 : Int) + 1 = 4 from rfl, key 4 (by omega) (by omega), Option.bind_some]
  rfl
theorem qZs {α : Type} [BEq α] [LawfulBEq α] : ∀ {l1 l2 : List α}, l1.Nodup → (∀ x ∈ l1, x ∈ l2) → l1.length ≤ l2.length := by
  intro l1
  induction l1 with
  | nil => intro l2 _ _; simp
  | cons a l ih =>
    intro l2 hn hs
    rw [List.nodup_cons] at hn
    have ha := hs a (List.mem_cons_self ..)
    have h1 := ih (l2 := l2.erase a) hn.2 (fun x hx => by
      have hne : x ≠ a := by rintro rfl; exact hn.1 hx
      exact (List.mem_erase_of_ne hne).2 (hs x (List.mem_cons_of_mem _ hx)))
    have h2 := List.length_erase_of_mem ha
    have h3 := List.length_pos_of_mem ha
    simp only [List.length_cons]
    omega
end Go.Proofs.YtpohfcljfemhlaaGreat.arenaParts
namespace Go.Proofs.YtpohfcljfemhlaaGreat.arenaParts
open Go Go.Ae arenaPlays
set_option maxRecDepth 100000
variable {dt : Prop} {W sts : List Int} {T : Nat} {bs : List Bk} {ls : Int → List Int}
theorem Tile.far2 {e : Int} : ∀ {bs : List Bk} {a : Int}, Tile e a bs → ∀ b ∈ bs, ∀ b' ∈ bs, b = b' ∨ b.1 + jf b.2 + 1 ≤ b'.1 ∨ b'.1 + jf b'.2 + 1 ≤ b.1 := by
  intro bs
  induction bs with
  | nil => intro a _ b hb; cases hb
  | cons b bs ih =>
    intro a h x hx y hy
    obtain ⟨h1, h2, h3⟩ := h
    rcases List.mem_cons.1 hx with rfl | hx
    · rcases List.mem_cons.1 hy with rfl | hy
      · exact .inl rfl
      · have := h3.mem y hy
        exact .inr (.inl (by omega))
    · rcases List.mem_cons.1 hy with rfl | hy
      · have := h3.mem x (by assumption)
        exact .inr (.inr (by omega))
      · exact ih h3 x (by assumption) y hy
theorem je.congr (P : je dt W sts T bs ls) {W' : List Int} (hl : W'.length = T) (hn : ∀ z ∈ W', 0 ≤ z ∧ z < 18446744073709551616) (hat : ∀ p : Nat, 0 < p → p < T → qG W' p = qG W p) : je dt W' sts T bs ls := by
  have hlo := P.lo
  have h5 := hat 5 (by omega) (by omega)
  refine ⟨hl, P.lo, P.hi, hn, P.slen, by rw [h5]; exact P.tile, by rw [h5]; exact P.bump, ?_, P.known, P.st, ?_, ?_, P.listed, P.nodup⟩
  · rintro ⟨b, c⟩ hb
    have := P.mem hb
    rw [hat _ (by dsimp only; omega) (by dsimp only; omega)]
    exact P.hdr _ hb
  · intro hd p h1 h2 h3
    rw [hat _ (by omega) h2]
    exact P.data hd p h1 h2 h3
  · intro c h1 h2
    rw [hat _ (by omega) (by omega)]
    refine (P.chain c h1 h2).keep fun x hx => ?_
    have hm := P.mem ((P.listed c h1 h2 x).1 hx).1
    exact hat _ (by omega) (by omega)
theorem je.loose (P : je dt W sts T bs ls) : je False W sts T bs ls := ⟨P.len, P.lo, P.hi, P.nn, P.slen, P.tile, P.bump, P.hdr, P.known, P.st, fun h => h.elim, P.chain, P.listed, P.nodup⟩
theorem je.write (P : je False W sts T bs ls) {p x : Int} (hx : 0 ≤ x ∧ x < 18446744073709551616) (hp : (6 ≤ p ∧ p ≤ 13) ∨ ∃ b c, (b, c) ∈ bs ∧ qG sts b.toNat = 1 ∧ b ≤ p ∧ p < b + jf c) :
    je False (zp W (p, x)) sts T bs ls := by
  have hlo := P.lo
  have hhi := P.hi
  have hbu := P.bump
  have hpr : 6 ≤ p ∧ p < T := by
    rcases hp with h | ⟨b, c, hb, _, h1, h2⟩
    · omega
    · have := P.tile.mem _ hb
      have := P.mem hb
      dsimp only at *
      omega
  have hat : ∀ q : Nat, qG (zp W (p, x)) q = if p = (q : Int) then x else qG W q := by
    intro q
    rw [wa, P.len]
    by_cases e : p = (q : Int)
    · rw [if_pos ⟨e, by dsimp only; omega, by dsimp only; omega⟩, if_pos e]
    · rw [if_neg (fun h => e h.1), if_neg e]
  have hnb : ∀ {b c : Int}, (b, c) ∈ bs → p ≠ b - 1 := by
    intro b c hb
    have hm := P.mem hb
    have hz := zU hm.2.2
    rcases hp with h | ⟨b', c', hb', _, h1, h2⟩
    · omega
    · rcases P.tile.far2 _ hb _ hb' with h | h | h
      · cases h; omega
      · dsimp only at h; omega
      · dsimp only at h; omega
  have hnx : ∀ {b c : Int}, (b, c) ∈ bs → qG sts b.toNat ≠ 1 → p ≠ b := by
    intro b c hb hs
    have hm := P.mem hb
    have hz := zU hm.2.2
    rcases hp with h | ⟨b', c', hb', hs', h1, h2⟩
    · omega
    · rcases P.tile.far2 _ hb _ hb' with h | h | h
      · cases h; exact absurd hs' hs
      · dsimp only at h; omega
      · dsimp only at h; omega
  have h5 : qG (zp W (p, x)) 5 = qG W 5 := by rw [hat, if_neg (by omega)]
  refine ⟨by rw [kx]; exact P.len, P.lo, P.hi, KI P.nn hx, P.slen, by rw [h5]; exact P.tile, by rw [h5]; exact P.bump, ?_, P.known, P.st, fun h => h.elim, ?_, P.listed, P.nodup⟩
  · rintro ⟨b, c⟩ hb
    have hm := P.mem hb
    have hn := hnb hb
    rw [hat, if_neg (by dsimp only; omega)]
    exact P.hdr _ hb
  · intro c h1 h2
    rw [hat, if_neg (by omega)]
    refine (P.chain c h1 h2).keep fun y hy => ?_
    have hl := (P.listed c h1 h2 y).1 hy
    have hm := P.mem hl.1
    have hn := hnx hl.1 (by omega)
    rw [hat, if_neg (by omega)]
theorem qQ4 (P : je dt W sts T bs ls) {b c : Int} (hb : (b, c) ∈ bs) (hs : qG sts b.toNat = 2) : kS (zk W 96) b = (0, yK W 96 [(b, qG W c.toNat), (c, b)] []) := by
  have hl := P.szz
  have hm := P.mem hb
  have ha := P.ask_blk (m := 96) hb
  have hr := UP (zs := W) (m := 96) (C := []) (F := []) (i := c.toNat) (by omega) (by rw [hl]; omega)
  rw [show ((c.toNat : Nat) : Int) = c by omega] at hr
  have hr : qM (yK W 96 [] []) c = ((qG W c.toNat, 0), yK W 96 [] []) := hr
  have ht := ZL (zs := W) (m := 96) (C := []) (F := []) (cs := [(b, qG W c.toNat), (c, b)]) (by rw [hl]; exact qVb (by omega) (by omega)) (qZE (by simp))
  rw [qXh (by omega)] at ht
  rw [VU]
  have h1 : ¬ qG sts b.toNat = 1 := by omega
  unfold kS
  simp only [ha, h1, decide_false, if_true, Bool.false_eq_true, if_false, hr, ht]
structure HQ (W sts : List Int) (T : Nat) (bs : List Bk) (ls : Int → List Int) (L fr : List Int) : Prop where
  P : je False W sts T bs ls
  own : ∀ y ∈ L, (y, 1) ∈ bs ∧ qG sts y.toNat = 1
  live : ∀ b ∈ bs, qG sts b.1.toNat = 1 → b.1 ∈ L
  rest : ∀ b ∈ bs, qG sts b.1.toNat = 2 → b.1 ∈ fr
  fre : ∀ y ∈ fr, (y, 1) ∈ bs ∧ qG sts y.toNat = 2
  nodup : L.Nodup
  fnd : fr.Nodup
  one : ∀ b ∈ bs, b.2 = 1
def HX (W : List Int) (T : Nat) (L fr : List Int) : Prop := ∃ sts bs ls, HQ W sts T bs ls L fr
variable {L fr F : List Int} {r : Nat} {s : Int} {α : Type}
theorem HX.perm {L' : List Int} (H : HX W T L fr) (h : ∀ x, x ∈ L' ↔ x ∈ L) (nd : L'.Nodup) : HX W T L' fr := by
  obtain ⟨sts, bs, ls, H⟩ := H
  exact ⟨sts, bs, ls, H.P, fun y hy => H.own y ((h y).1 hy), fun b hb hs => (h _).2 (H.live b hb hs), H.rest, H.fre, nd, H.fnd, H.one⟩
theorem HX.mem (H : HX W T L fr) {y : Int} (hy : y ∈ L) : 15 ≤ y ∧ y + 2 ≤ T := by
  obtain ⟨sts, bs, ls, H⟩ := H
  have := H.P.mem (H.own y hy).1
  exact ⟨this.1, this.2.1⟩
theorem HX.apart (H : HX W T L fr) {y z : Int} (hy : y ∈ L) (hz : z ∈ L) : y = z ∨ y + 3 ≤ z ∨ z + 3 ≤ y := by
  obtain ⟨sts, bs, ls, H⟩ := H
  exact H.P.apart (H.own y hy).1 (H.own z hz).1
theorem HX.size (H : HX W T L fr) : 32 ≤ T ∧ T ≤ 256 ∧ W.length = T := by
  obtain ⟨sts, bs, ls, H⟩ := H
  exact ⟨H.P.lo, H.P.hi, H.P.len⟩
theorem HX.nd (H : HX W T L fr) : L.Nodup := by
  obtain ⟨sts, bs, ls, H⟩ := H
  exact H.nodup
theorem HX.nn (H : HX W T L fr) : ∀ z ∈ W, 0 ≤ z ∧ z < 18446744073709551616 := by
  obtain ⟨sts, bs, ls, H⟩ := H
  exact H.P.nn
theorem HX.congr (H : HX W T L fr) {W' : List Int} (hl : W'.length = T) (hn : ∀ z ∈ W', 0 ≤ z ∧ z < 18446744073709551616) (hat : ∀ p : Nat, 0 < p → p < T → qG W' p = qG W p) : HX W' T L fr := by
  obtain ⟨sts, bs, ls, H⟩ := H
  exact ⟨sts, bs, ls, H.P.congr hl hn hat, H.own, H.live, H.rest, H.fre, H.nodup, H.fnd, H.one⟩
theorem HX.write (H : HX W T L fr) {p x : Int} (hx : 0 ≤ x ∧ x < 18446744073709551616) (hp : (6 ≤ p ∧ p ≤ 13) ∨ ∃ y ∈ L, p = y ∨ p = y + 1) : HX (zp W (p, x)) T L fr := by
  obtain ⟨sts, bs, ls, H⟩ := H
  refine ⟨sts, bs, ls, H.P.write hx ?_, H.own, H.live, H.rest, H.fre, H.nodup, H.fnd, H.one⟩
  rcases hp with h | ⟨y, hy, h⟩
  · exact .inl h
  · have := H.own y hy
    have e : jf 1 = 2 := rfl
    exact .inr ⟨y, 1, this.1, this.2, by omega, by rw [e]; omega⟩
variable {S : Int → Prop} {Q : Option α → Int → List Int → List Int → Prop}
theorem wm {p : Int} {k : Int → Act α} (h1 : 1 ≤ p) (h2 : p < (T : Int)) (hS : S p) (w : wpA T S (k (qG W p.toNat)) W r F s Q) : wpA T S (.read p k) W r F s Q := ⟨⟨h1, h2, hS⟩, w⟩
theorem UW {p : Int} {k : Int → Act α} (h1 : 1 ≤ p) (h2 : p < (T : Int)) (hS : S p) (hw : qG W p.toNat < 2147483648) (w : wpA T S (k (qG W p.toNat)) W r F s Q) : wpA T S (yR p k) W r F s Q := by
  refine wm h1 h2 hS ?_
  rw [if_neg (by omega)]
  exact w
theorem wR (P : je dt W sts T bs ls) {a x b y : Int} {p : Nat} (hp : 0 < p) (hT : p < T) : qG ([(a, x), (b, y)].foldl zp W) p = qG (jK W [(a, x), (b, y)]) p := by
  rw [xS P.len P.lo P.hi hp hT]
  show qG (zp (zp W (a, x)) (b, y)) p = _
  rw [wa, wa, kx, P.len]
  by_cases e : b = (p : Int)
  · rw [if_pos ⟨e, by dsimp only; omega, by dsimp only; omega⟩, if_pos e]
  · rw [if_neg (fun h => e h.1), if_neg e]
    by_cases e2 : a = (p : Int)
    · rw [if_pos ⟨e2, by dsimp only; omega, by dsimp only; omega⟩, if_pos e2]
    · rw [if_neg (fun h => e2 h.1), if_neg e2]
theorem UN (P : je dt W sts T bs ls) {a x : Int} {p : Nat} (hp : 0 < p) (hT : p < T) : qG ([(a, x)].foldl zp W) p = qG (jK W [(a, x)]) p := by
  rw [Jl P.len P.lo P.hi hp hT]
  show qG (zp W (a, x)) p = _
  rw [wa, P.len]
  by_cases e2 : a = (p : Int)
  · rw [if_pos ⟨e2, by dsimp only; omega, by dsimp only; omega⟩, if_pos e2]
  · rw [if_neg (fun h => e2 h.1), if_neg e2]
theorem KC {cs : List Cl} (h : ∀ z ∈ W, 0 ≤ z ∧ z < 18446744073709551616) (hc : WdC cs) : ∀ z ∈ cs.foldl zp W, 0 ≤ z ∧ z < 18446744073709551616 := by
  induction cs generalizing W with
  | nil => exact h
  | cons c cs ih => exact ih (KI h (hc c (List.mem_cons_self ..))) fun d hd => hc d (List.mem_cons_of_mem _ hd)
end Go.Proofs.YtpohfcljfemhlaaGreat.arenaParts
namespace Go.Proofs.YtpohfcljfemhlaaGreat.arenaParts
open Go Go.Ae arenaPlays
set_option maxRecDepth 100000
variable {dt : Prop} {W sts : List Int} {T : Nat} {bs : List Bk} {ls : Int → List Int}
structure HT (W sts : List Int) (T : Nat) (bs : List Bk) (ls : Int → List Int) (L fr : List Int) : Prop where
  P : je False W sts T bs ls
  own : ∀ y ∈ L, (y, 2) ∈ bs ∧ qG sts y.toNat = 1
  live : ∀ b ∈ bs, qG sts b.1.toNat = 1 → b.1 ∈ L
  rest : ∀ b ∈ bs, qG sts b.1.toNat = 2 → b.1 ∈ fr
  fre : ∀ y ∈ fr, (y, 2) ∈ bs ∧ qG sts y.toNat = 2
  nodup : L.Nodup
  fnd : fr.Nodup
  one : ∀ b ∈ bs, b.2 = 2
def HY (W : List Int) (T : Nat) (L fr : List Int) : Prop := ∃ sts bs ls, HT W sts T bs ls L fr
variable {L fr F : List Int} {r : Nat} {s : Int} {α : Type}
theorem HY.perm {L' : List Int} (H : HY W T L fr) (h : ∀ x, x ∈ L' ↔ x ∈ L) (nd : L'.Nodup) : HY W T L' fr := by
  obtain ⟨sts, bs, ls, H⟩ := H
  exact ⟨sts, bs, ls, H.P, fun y hy => H.own y ((h y).1 hy), fun b hb hs => (h _).2 (H.live b hb hs), H.rest, H.fre, nd, H.fnd, H.one⟩
theorem JR (P : je dt W sts T bs ls) {y z : Int} (hy : (y, 2) ∈ bs) (hz : (z, 2) ∈ bs) : y = z ∨ y + 5 ≤ z ∨ z + 5 ≤ y := by
  have e : jf 2 = 4 := rfl
  rcases P.tile.far2 _ hy _ hz with h | h | h
  · exact .inl (by rw [Prod.mk.injEq] at h; exact h.1)
  · dsimp only at h; exact .inr (.inl (by omega))
  · dsimp only at h; exact .inr (.inr (by omega))
theorem HY.mem (H : HY W T L fr) {y : Int} (hy : y ∈ L) : 15 ≤ y ∧ y + 4 ≤ T := by
  obtain ⟨sts, bs, ls, H⟩ := H
  have h1 := H.P.mem (H.own y hy).1
  have h2 := H.P.tile.mem _ (H.own y hy).1
  have h3 := H.P.bump
  have e : jf 2 = 4 := rfl
  dsimp only at h2
  exact ⟨h1.1, by omega⟩
theorem HY.apart (H : HY W T L fr) {y z : Int} (hy : y ∈ L) (hz : z ∈ L) : y = z ∨ y + 5 ≤ z ∨ z + 5 ≤ y := by
  obtain ⟨sts, bs, ls, H⟩ := H
  exact JR H.P (H.own y hy).1 (H.own z hz).1
theorem HY.size (H : HY W T L fr) : 32 ≤ T ∧ T ≤ 256 ∧ W.length = T := by
  obtain ⟨sts, bs, ls, H⟩ := H
  exact ⟨H.P.lo, H.P.hi, H.P.len⟩
theorem HY.nd (H : HY W T L fr) : L.Nodup := by
  obtain ⟨sts, bs, ls, H⟩ := H
  exact H.nodup
theorem HY.nn (H : HY W T L fr) : ∀ z ∈ W, 0 ≤ z ∧ z < 18446744073709551616 := by
  obtain ⟨sts, bs, ls, H⟩ := H
  exact H.P.nn
theorem HY.congr (H : HY W T L fr) {W' : List Int} (hl : W'.length = T) (hn : ∀ z ∈ W', 0 ≤ z ∧ z < 18446744073709551616) (hat : ∀ p : Nat, 0 < p → p < T → qG W' p = qG W p) : HY W' T L fr := by
  obtain ⟨sts, bs, ls, H⟩ := H
  exact ⟨sts, bs, ls, H.P.congr hl hn hat, H.own, H.live, H.rest, H.fre, H.nodup, H.fnd, H.one⟩
theorem HY.write (H : HY W T L fr) {p x : Int} (hx : 0 ≤ x ∧ x < 18446744073709551616) (hp : (6 ≤ p ∧ p ≤ 13) ∨ ∃ y ∈ L, y ≤ p ∧ p ≤ y + 3) : HY (zp W (p, x)) T L fr := by
  obtain ⟨sts, bs, ls, H⟩ := H
  refine ⟨sts, bs, ls, H.P.write hx ?_, H.own, H.live, H.rest, H.fre, H.nodup, H.fnd, H.one⟩
  rcases hp with h | ⟨y, hy, h⟩
  · exact .inl h
  · have := H.own y hy
    have e : jf 2 = 4 := rfl
    exact .inr ⟨y, 2, this.1, this.2, by omega, by rw [e]; omega⟩
variable {S : Int → Prop} {Q : Option α → Int → List Int → List Int → Prop}
theorem K4 {p x : Int} {k : Act α} (H : HY W T L fr) (hx : 0 ≤ x ∧ x < 18446744073709551616) (hp : (6 ≤ p ∧ p ≤ 13) ∨ ∃ y ∈ L, y ≤ p ∧ p ≤ y + 3) (hS : S p) (hr : r + 1 ≤ 96)
    (w : HY (zp W (p, x)) T L fr → (∀ q : Nat, qG (zp W (p, x)) q = if p = (q : Int) then x else qG W q) → wpA T S k (zp W (p, x)) (r + 1) F s Q) : wpA T S (.take [(p, x)] k) W r F s Q := by
  have hsz := H.size
  have hpr : 6 ≤ p ∧ p < T := by
    rcases hp with h | ⟨y, hy, h⟩
    · omega
    · have := H.mem hy
      omega
  refine ⟨fun c hc => by rw [List.mem_singleton] at hc; subst hc; exact ⟨by dsimp only; omega, hpr.2, hS⟩, hr, w (H.write hx hp) fun q => ?_⟩
  rw [wa, hsz.2.2]
  by_cases e : p = (q : Int)
  · rw [if_pos ⟨e, by dsimp only; omega, by dsimp only; omega⟩, if_pos e]
  · rw [if_neg (fun h => e h.1), if_neg e]
theorem ZR {k : Int → Act α} (H : HY W T L fr) (hS1 : S 2) (hS5 : S 5) (hS : ∀ p : Int, 14 ≤ p → p < T → (∀ y ∈ L, p < y ∨ y + 3 < p) → S p) (hr : r + 2 ≤ 96)
    (ok : ∀ n W', HY W' T (n :: L) fr → (∀ p : Nat, 0 < p → p < T → p ≠ 2 → p ≠ 5 → (p : Int) + 1 ≠ n → qG W' p = qG W p) → (qG W 5 ≤ qG W' 5 ∧ qG W' 5 ≤ qG W 5 + 5) → wpA T S (k n) W' (r + 2) F s Q)
    (full : (T : Int) < qG W 5 + 5 → Q none 4 W F) : wpA T S (Jo T 4 k) W r F s Q := by
  obtain ⟨sts, bs, ls, H⟩ := H
  have P := H.P
  have hlo := P.lo
  have hhi := P.hi
  have hc : jc 4 = 2 := rfl
  have hz : jf 2 = 4 := rfl
  unfold Jo
  rw [hc, if_neg (by omega), hz]
  refine wm (by omega) (by omega) hS1 ?_
  have hch := P.chain 2 (by omega) (by omega)
  have hlow := P.low
  have hbump := P.bump
  have hone : ((2 : Int).toNat) = 2 := rfl
  rw [hone] at hch ⊢
  have hLb : ∀ y ∈ L, y + 4 ≤ qG W 5 := by
    intro y hy
    have := P.tile.mem _ (H.own y hy).1
    dsimp only at this
    rw [hz] at this
    omega
  cases hls : ls 2 with
  | nil =>
    rw [hls] at hch
    have h0 : qG W 2 = 0 := hch
    rw [if_pos h0]
    refine wm (by omega) (by omega) hS5 ?_
    rw [show ((5 : Int).toNat) = 5 from rfl]
    obtain ⟨e, he⟩ : ∃ e, qG W 5 = e := ⟨_, rfl⟩
    rw [he] at hlow hbump full ok hLb ⊢
    by_cases hT : e + 1 + 4 ≤ T
    · rw [if_neg (by omega)]
      have P' := P.grown (c := 2) (by omega) he (by rw [hz]; omega)
      rw [hz] at P'
      have hno : ∀ d, (e + 1, d) ∉ bs := by
        intro d hd
        have h1 := P.tile.mem _ hd
        rw [he] at h1
        dsimp only at h1
        have := zU h1.2.1
        omega
      have hst0 := P.st_no (show (0 : Int) ≤ e + 1 by omega) hno
      have hstat : ∀ j, qG (sts.set (e + 1).toNat 1) j = if (e + 1).toNat = j then 1 else qG sts j := fun j => wK sts _ j 1 (by have := P.slen; omega)
      have hwd : WdC [(5, e + 1 + 4), (e, (2 : Int) + 8)] := .two ⟨by dsimp only; omega, by dsimp only; omega⟩ ⟨by dsimp only; omega, by dsimp only; omega⟩
      have P2 := P'.congr (W' := [(5, e + 1 + 4), (e, (2 : Int) + 8)].foldl zp W) (by rw [vn]; exact P.len) (KC P.nn hwd) (fun p h1 h2 => wR P h1 h2)
      refine ⟨?_, by simpa using hr, ok (e + 1) _ ⟨_, _, _, P2, ?_, ?_, ?_, ?_, ?_, H.fnd, ?_⟩ ?_ ?_⟩
      · intro c hc
        rcases List.mem_cons.1 hc with rfl | hc
        · exact ⟨by dsimp only; omega, by dsimp only; omega, hS5⟩
        · rw [List.mem_singleton] at hc; subst hc
          exact ⟨by dsimp only; omega, by dsimp only; omega, hS e (by omega) (by omega) (fun y hy => by have := hLb y hy; omega)⟩
      · intro y hy
        rw [hstat]
        rcases List.mem_cons.1 hy with rfl | hy
        · exact ⟨List.mem_append.2 (.inr (List.mem_singleton.2 rfl)), by rw [if_pos rfl]⟩
        · have h1 := H.own y hy
          have h2 := hLb y hy
          have h3 := P.mem h1.1
          rw [if_neg (by omega)]
          exact ⟨List.mem_append.2 (.inl h1.1), h1.2⟩
      · intro b hb hs
        rw [hstat] at hs
        rcases List.mem_append.1 hb with hb | hb
        · obtain ⟨b, c⟩ := b
          have h3 := P.mem hb
          have h1 := P.tile.mem _ hb
          have h4 := zU h3.2.2
          rw [he] at h1
          dsimp only at hs h1 ⊢
          rw [if_neg (by omega)] at hs
          exact List.mem_cons_of_mem _ (H.live _ hb hs)
        · rw [List.mem_singleton] at hb
          subst hb
          exact List.mem_cons_self ..
      · intro b hb hs
        rw [hstat] at hs
        rcases List.mem_append.1 hb with hb | hb
        · obtain ⟨b, c⟩ := b
          dsimp only at hs ⊢
          split at hs
          · omega
          · exact H.rest _ hb hs
        · rw [List.mem_singleton] at hb
          subst hb
          dsimp only at hs
          rw [if_pos rfl] at hs
          omega
      · intro y hy
        have h1 := H.fre y hy
        have h3 := P.mem h1.1
        rw [hstat]
        refine ⟨List.mem_append.2 (.inl h1.1), ?_⟩
        rw [if_neg (fun h => by rw [h] at hst0; omega)]
        exact h1.2
      · rw [List.nodup_cons]
        exact ⟨fun h => by have := hLb _ h; omega, H.nodup⟩
      · intro b hb
        rcases List.mem_append.1 hb with hb | hb
        · exact H.one b hb
        · rw [List.mem_singleton] at hb; subst hb; rfl
      · intro p h1 h2 h3 h4 h5
        rw [wR P h1 h2, xS P.len P.lo P.hi h1 h2, if_neg (by omega), if_neg (by omega)]
      · rw [wR P (by omega) (by omega), xS P.len P.lo P.hi (by omega) (by omega), if_neg (by omega), if_pos (by omega)]
        omega
    · rw [if_pos (by omega)]
      exact ⟨by omega, by omega, full (by omega)⟩
  | cons b l =>
    rw [hls] at hch
    have h0 : qG W 2 = b := hch.1
    have hbl := (P.listed 2 (by omega) (by omega) b).1 (by rw [hls]; exact List.mem_cons_self ..)
    have hm := P.mem hbl.1
    have hbL : b ∉ L := fun h => by have := (H.own b h).2; omega
    have hapb : ∀ y ∈ L, b + 5 ≤ y ∨ y + 5 ≤ b := by
      intro y hy
      rcases JR P hbl.1 (H.own y hy).1 with h | h
      · subst h; exact absurd hy hbL
      · exact h
    rw [h0, if_neg (by omega), if_neg (by omega)]
    refine wm (by omega) (by omega) (hS b (by omega) (by omega) (fun y hy => by have := hapb y hy; omega)) ?_
    have P' := P.again (c := 2) (by omega) hls
    have hwb := wS P.nn b.toNat
    generalize hw : qG W b.toNat = w at *
    have hstat : ∀ j, qG (sts.set b.toNat 1) j = if b.toNat = j then 1 else qG sts j := fun j => wK sts _ j 1 (by have := P.slen; omega)
    have hwd : WdC [((2 : Int), w), (b - 1, (2 : Int) + 8)] := .two hwb ⟨by dsimp only; omega, by dsimp only; omega⟩
    have P2 := P'.congr (W' := [((2 : Int), w), (b - 1, (2 : Int) + 8)].foldl zp W) (by rw [vn]; exact P.len) (KC P.nn hwd) (fun p h1 h2 => wR P h1 h2)
    refine ⟨?_, by simpa using hr, ok b _ ⟨_, _, _, P2, ?_, ?_, ?_, ?_, ?_, H.fnd, H.one⟩ ?_ ?_⟩
    · intro c hc
      rcases List.mem_cons.1 hc with rfl | hc
      · exact ⟨by dsimp only; omega, by dsimp only; omega, hS1⟩
      · rw [List.mem_singleton] at hc; subst hc
        exact ⟨by dsimp only; omega, by dsimp only; omega, hS (b - 1) (by omega) (by omega) (fun y hy => by have := hapb y hy; omega)⟩
    · intro y hy
      rw [hstat]
      rcases List.mem_cons.1 hy with rfl | hy
      · exact ⟨hbl.1, by rw [if_pos rfl]⟩
      · have h1 := H.own y hy
        have h2 := hapb y hy
        have h3 := P.mem h1.1
        rw [if_neg (by omega)]
        exact h1
    · intro d hd hs
      rw [hstat] at hs
      obtain ⟨d, c⟩ := d
      have h3 := P.mem hd
      dsimp only at hs ⊢
      by_cases e : d = b
      · subst e; exact List.mem_cons_self ..
      · rw [if_neg (by omega)] at hs
        exact List.mem_cons_of_mem _ (H.live _ hd hs)
    · intro d hd hs
      rw [hstat] at hs
      split at hs
      · omega
      · exact H.rest _ hd hs
    · intro y hy
      have h1 := H.fre y hy
      have h3 := P.mem h1.1
      rw [hstat, if_neg (fun h => by
        have : y = b := by omega
        subst this
        have := h1.2
        have := hbl.2
        omega)]
      exact h1
    · rw [List.nodup_cons]
      exact ⟨hbL, H.nodup⟩
    · intro p h1 h2 h3 h4 h5
      rw [wR P h1 h2, xS P.len P.lo P.hi h1 h2, if_neg (by omega), if_neg (by omega)]
    · rw [wR P (by omega) (by omega), xS P.len P.lo P.hi (by omega) (by omega), if_neg (by omega), if_neg (by omega)]
      omega
theorem qX7 {y : Int} {k : Act α} (H : HY W T L fr) (hy : y ∈ L) (hS : S (y - 1)) (hr : r + 1 ≤ 96)
    (ok : ∀ W', HY W' T (L.erase y) (y :: fr) → (∀ p : Nat, 0 < p → p < T → (p : Int) + 1 ≠ y → qG W' p = qG W p) → wpA T S k W' (r + 1) (F ++ [y]) s Q) : wpA T S (xx T y k) W r F s Q := by
  obtain ⟨sts, bs, ls, H⟩ := H
  have P := H.P
  have hlo := P.lo
  have hhi := P.hi
  have ho := H.own y hy
  have hm := P.mem ho.1
  have hh := P.hdr _ ho.1
  dsimp only at hh
  rw [if_pos ho.2] at hh
  unfold xx
  rw [if_neg (by omega)]
  refine wm (by omega) (by omega) hS ?_
  rw [hh, QR (by omega)]
  dsimp only
  rw [if_neg (by omega), if_pos rfl]
  have P' := P.freed ho.1 ho.2
  have hstat : ∀ j, qG (sts.set y.toNat 2) j = if y.toNat = j then 2 else qG sts j := fun j => wK sts _ j 2 (by have := P.slen; omega)
  have hwd : WdC [(y - 1, (2 : Int))] := .one1 ⟨by dsimp only; omega, by dsimp only; omega⟩
  have P2 := P'.congr (W' := [(y - 1, (2 : Int))].foldl zp W) (by rw [vn]; exact P.len) (KC P.nn hwd) (fun p h1 h2 => UN P h1 h2)
  refine ⟨?_, by simpa using hr, ok _ ⟨_, _, _, P2, ?_, ?_, ?_, ?_, H.nodup.erase _, ?_, H.one⟩ ?_⟩
  · intro c hc
    rw [List.mem_singleton] at hc; subst hc
    exact ⟨by dsimp only; omega, by dsimp only; omega, hS⟩
  · intro z hz
    have hne : z ≠ y := fun h => by subst h; exact H.nodup.not_mem_erase hz
    have h1 := H.own z (List.mem_of_mem_erase hz)
    have h3 := P.mem h1.1
    rw [hstat, if_neg (by omega)]
    exact h1
  · intro d hd hs
    rw [hstat] at hs
    split at hs
    · omega
    · rename_i hne
      exact (List.mem_erase_of_ne (fun h => hne (by rw [h]))).2 (H.live _ hd hs)
  · intro d hd hs
    rw [hstat] at hs
    have h3 := P.mem (b := d.1) (c := d.2) hd
    split at hs
    · rename_i he
      have : d.1 = y := by omega
      rw [this]
      exact List.mem_cons_self ..
    · exact List.mem_cons_of_mem _ (H.rest _ hd hs)
  · intro z hz
    rw [hstat]
    rcases List.mem_cons.1 hz with rfl | hz
    · exact ⟨ho.1, by rw [if_pos rfl]⟩
    · have h1 := H.fre z hz
      have h3 := P.mem h1.1
      rw [if_neg (fun h => by
        have : z = y := by omega
        subst this
        have := h1.2
        have := ho.2
        omega)]
      exact h1
  · rw [List.nodup_cons]
    refine ⟨fun h => ?_, H.fnd⟩
    have := (H.fre y h).2
    have := ho.2
    omega
  · intro p h1 h2 h3
    rw [UN P h1 h2, Jl P.len P.lo P.hi h1 h2, if_neg (by omega)]
end Go.Proofs.YtpohfcljfemhlaaGreat.arenaParts
namespace Go.Proofs.YtpohfcljfemhlaaGreat.arenaParts
open Go Go.Ae arenaPlays
set_option maxRecDepth 100000
structure Nd where
  k : Int
  v : Int
  w : Int
  y : Int
inductive Tr where
  | nil
  | node (a : Int) (c : Bool) (l : Tr) (k v : Int) (r : Tr)
def rt : Tr → Int
  | .nil => 0
  | .node a _ _ _ _ _ => a
def isR : Tr → Bool
  | .nil => false
  | .node _ c _ _ _ _ => c
def zb (c : Bool) : Int := if c then 1 else 0
theorem O8 (c : Bool) : 0 ≤ zb c ∧ zb c ≤ 1 := by cases c <;> decide
def Rep (nd : Int → Nd) : Tr → Prop
  | .nil => True
  | .node a c l k v r => nd a = ⟨k, v, rt l * 2 + zb c, rt r⟩ ∧ Rep nd l ∧ Rep nd r
def ads : Tr → List Int
  | .nil => []
  | .node a _ l _ _ r => a :: (ads l ++ ads r)
def inr : Tr → List qm
  | .nil => []
  | .node _ _ l k v r => inr l ++ (k, v) :: inr r
def RB : Tr → Nat → Prop
  | .nil, n => n = 0
  | .node _ c l _ _ r, n => ∃ m, RB l m ∧ RB r m ∧ (c = true → n = m ∧ isR l = false ∧ isR r = false) ∧ (c = false → n = m + 1)
structure Fr where
  a : Int
  c : Bool
  k : Int
  v : Int
  s : Bool
  o : Tr
def fr (f : Fr) (t : Tr) : Tr := if f.s = true then .node f.a f.c f.o f.k f.v t else .node f.a f.c t f.k f.v f.o
def zF : List Fr → Tr → Tr
  | [], t => t
  | f :: Z, t => zF Z (fr f t)
def ndF (f : Fr) (x : Int) : Nd := if f.s = true then ⟨f.k, f.v, rt f.o * 2 + zb f.c, x⟩ else ⟨f.k, f.v, x * 2 + zb f.c, rt f.o⟩
def RepZ (nd : Int → Nd) (rv : Int) : List Fr → Int → Prop
  | [], x => rv = x
  | f :: Z, x => nd f.a = ndF f x ∧ Rep nd f.o ∧ RepZ nd rv Z f.a
def ji : List Fr → List Int
  | [] => []
  | f :: Z => f.a :: (ads f.o ++ ji Z)
def loZ : List Fr → List qm
  | [] => []
  | f :: Z => if f.s = true then loZ Z ++ (inr f.o ++ [(f.k, f.v)]) else loZ Z
def hiZ : List Fr → List qm
  | [] => []
  | f :: Z => if f.s = true then hiZ Z else (f.k, f.v) :: (inr f.o ++ hiZ Z)
def RBZ : List Fr → Nat → Bool → Prop
  | [], _, _ => True
  | f :: Z, n, c => RB f.o n ∧ (f.c = true → c = false ∧ isR f.o = false) ∧ RBZ Z (if f.c = true then n else n + 1) f.c
theorem RBZ.black : ∀ {Z : List Fr} {n : Nat} {c : Bool}, RBZ Z n c → RBZ Z n false := by
  intro Z n c h
  cases Z with
  | nil => exact trivial
  | cons f Z => exact ⟨h.1, fun hc => ⟨rfl, (h.2.1 hc).2⟩, h.2.2⟩
def upd (nd : Int → Nd) (a : Int) (x : Nd) : Int → Nd := fun b => if b = a then x else nd b
theorem z5 {nd : Int → Nd} {a : Int} {x : Nd} : upd nd a x a = x := if_pos rfl
theorem jU {nd : Int → Nd} {a b : Int} {x : Nd} (h : b ≠ a) : upd nd a x b = nd b := if_neg h
theorem Rep.upd {nd : Int → Nd} {a : Int} {x : Nd} : ∀ {t : Tr}, Rep nd t → a ∉ ads t → Rep (upd nd a x) t := by
  intro t
  induction t with
  | nil => intro _ _; exact trivial
  | node b c l k v r ihl ihr =>
    intro h ha
    simp only [ads, List.mem_cons, List.mem_append, not_or] at ha
    exact ⟨(jU (fun e => ha.1 e.symm)).trans h.1, ihl h.2.1 ha.2.1, ihr h.2.2 ha.2.2⟩
theorem RepZ.upd {nd : Int → Nd} {rv a : Int} {x : Nd} : ∀ {Z : List Fr} {h : Int}, RepZ nd rv Z h → a ∉ ji Z → RepZ (upd nd a x) rv Z h := by
  intro Z
  induction Z with
  | nil => intro h hz _; exact hz
  | cons f Z ih =>
    intro h hz ha
    simp only [ji, List.mem_cons, List.mem_append, not_or] at ha
    exact ⟨(jU (fun e => ha.1 e.symm)).trans hz.1, hz.2.1.upd ha.2.1, ih hz.2.2 ha.2.2⟩
theorem zS {nd : Int → Nd} {f : Fr} {t : Tr} : Rep nd (fr f t) ↔ nd f.a = ndF f (rt t) ∧ Rep nd f.o ∧ Rep nd t := by
  unfold fr ndF
  by_cases h : f.s = true
  · rw [if_pos h, if_pos h]; exact Iff.rfl
  · rw [if_neg h, if_neg h]
    show (_ ∧ _ ∧ _) ↔ _
    exact ⟨fun q => ⟨q.1, q.2.2, q.2.1⟩, fun q => ⟨q.1, q.2.2, q.2.1⟩⟩
theorem xh {f : Fr} {t : Tr} : rt (fr f t) = f.a := by unfold fr; split <;> rfl
theorem vV {nd : Int → Nd} {rv : Int} : ∀ {Z : List Fr} {t : Tr}, RepZ nd rv Z (rt t) → Rep nd t → rv = rt (zF Z t) ∧ Rep nd (zF Z t) := by
  intro Z
  induction Z with
  | nil => intro t h1 h2; exact ⟨h1, h2⟩
  | cons f Z ih =>
    intro t h1 h2
    exact ih (by rw [xh]; exact h1.2.2) (zS.2 ⟨h1.1, h1.2.1, h2⟩)
theorem w4 {f : Fr} {t : Tr} : inr (fr f t) = (if f.s = true then inr f.o ++ (f.k, f.v) :: inr t else inr t ++ (f.k, f.v) :: inr f.o) := by
  unfold fr
  split <;> rfl
theorem x6 : ∀ {Z : List Fr} {t : Tr}, inr (zF Z t) = loZ Z ++ inr t ++ hiZ Z := by
  intro Z
  induction Z with
  | nil => intro t; simp [zF, loZ, hiZ]
  | cons f Z ih =>
    intro t
    show inr (zF Z (fr f t)) = (if f.s = true then loZ Z ++ (inr f.o ++ [(f.k, f.v)]) else loZ Z) ++ inr t ++ (if f.s = true then hiZ Z else (f.k, f.v) :: (inr f.o ++ hiZ Z))
    rw [ih, w4]
    by_cases h : f.s = true
    · rw [if_pos h, if_pos h, if_pos h]; simp
    · rw [if_neg h, if_neg h, if_neg h]; simp
theorem qKb {f : Fr} {t : Tr} {n : Nat} (ho : RB f.o n) (ht : RB t n) (hc : f.c = true → isR t = false ∧ isR f.o = false) : RB (fr f t) (if f.c = true then n else n + 1) := by
  unfold fr
  by_cases h : f.s = true
  · rw [if_pos h]
    refine ⟨n, ho, ht, fun c => ?_, fun c => ?_⟩
    · rw [if_pos c]; exact ⟨rfl, (hc c).2, (hc c).1⟩
    · rw [if_neg (by rw [c]; simp)]
  · rw [if_neg h]
    refine ⟨n, ht, ho, fun c => ?_, fun c => ?_⟩
    · rw [if_pos c]; exact ⟨rfl, (hc c).1, (hc c).2⟩
    · rw [if_neg (by rw [c]; simp)]
theorem yJ {f : Fr} {t : Tr} : isR (fr f t) = f.c := by unfold fr; split <;> rfl
theorem vi : ∀ {Z : List Fr} {t : Tr} {n : Nat}, RB t n → RBZ Z n (isR t) → ∃ m, RB (zF Z t) m := by
  intro Z
  induction Z with
  | nil => intro t n h _; exact ⟨n, h⟩
  | cons f Z ih =>
    intro t n h hz
    refine ih (n := if f.c = true then n else n + 1) (qKb hz.1 h hz.2.1) ?_
    rw [yJ]
    exact hz.2.2
def jR (Z : List Fr) : List jd := (Z.map fun f => (f.a, if f.s = true then (1 : Int) else 0)).reverse
end Go.Proofs.YtpohfcljfemhlaaGreat.arenaParts
namespace Go.Proofs.YtpohfcljfemhlaaGreat.arenaParts
open Go Go.Ae arenaPlays
set_option maxRecDepth 100000
def SqT (p' : Int) (L' : List Int) (q : Int) : Prop := q ≠ p' ∧ ∀ y ∈ L', q < y ∨ y + 3 < q
structure Hp (W : List Int) (T : Nat) (p : Int) (L fr : List Int) (p' : Int) (L' W0 : List Int) (rv : Int) (nd : Int → Nd) : Prop where
  H : HY W T (L ++ L') fr
  rv : qG W p.toNat = rv
  nds : ∀ a ∈ L, qG W a.toNat = (nd a).k ∧ qG W (a + 1).toNat = (nd a).v ∧ qG W (a + 2).toNat = (nd a).w ∧ qG W (a + 3).toNat = (nd a).y
  oth : qG W p'.toNat = qG W0 p'.toNat ∧ ∀ y ∈ L', ∀ j : Int, 0 ≤ j → j < 4 → qG W (y + j).toNat = qG W0 (y + j).toNat
  rr : 6 ≤ p ∧ p ≤ 13 ∧ 6 ≤ p' ∧ p' ≤ 13 ∧ p ≠ p'
  b5 : qG W 5 = qG W0 5
variable {α : Type} {W W0 : List Int} {T : Nat} {p p' rv : Int} {L fr L' F : List Int} {nd : Int → Nd} {r : Nat} {s : Int} {Q : Option α → Int → List Int → List Int → Prop}
theorem Hp.b (Z : Hp W T p L fr p' L' W0 rv nd) {a : Int} (ha : a ∈ L) : 15 ≤ a ∧ a + 4 ≤ T := Z.H.mem (List.mem_append.2 (.inl ha))
theorem Hp.ne (Z : Hp W T p L fr p' L' W0 rv nd) {a y : Int} (ha : a ∈ L) (hy : y ∈ L') : a + 5 ≤ y ∨ y + 5 ≤ a := by
  rcases Z.H.apart (List.mem_append.2 (.inl ha)) (List.mem_append.2 (.inr hy)) with h | h | h
  · exact absurd h ((List.nodup_append.1 Z.H.nd).2.2 a ha y hy)
  · exact .inl h
  · exact .inr h
theorem Hp.sq (Z : Hp W T p L fr p' L' W0 rv nd) {a j : Int} (ha : a ∈ L) (hj : 0 ≤ j ∧ j < 4) : SqT p' L' (a + j) := by
  have hb := Z.b ha
  have hr := Z.rr
  refine ⟨by omega, fun y hy => ?_⟩
  rcases Z.ne ha hy with h | h
  · exact .inl (by omega)
  · exact .inr (by omega)
theorem Hp.sqr (Z : Hp W T p L fr p' L' W0 rv nd) : SqT p' L' p := by
  have hr := Z.rr
  refine ⟨hr.2.2.2.2, fun y hy => ?_⟩
  have := Z.H.mem (List.mem_append.2 (.inr hy))
  exact .inl (by omega)
theorem Hp.wds (Z : Hp W T p L fr p' L' W0 rv nd) (q : Nat) : 0 ≤ qG W q ∧ qG W q < 18446744073709551616 := wS Z.H.nn q
theorem wu {a j x : Int} {x' : Nd} {k : Act α} (Z : Hp W T p L fr p' L' W0 rv nd) (ha : a ∈ L) (hj : 0 ≤ j ∧ j < 4) (hx : 0 ≤ x ∧ x < 18446744073709551616)
    (hn : x'.k = (if j = 0 then x else (nd a).k) ∧ x'.v = (if j = 1 then x else (nd a).v) ∧ x'.w = (if j = 2 then x else (nd a).w) ∧ x'.y = (if j = 3 then x else (nd a).y)) (hr : r + 1 ≤ 96)
    (w : ∀ W', Hp W' T p L fr p' L' W0 rv (upd nd a x') → wpA T (SqT p' L') k W' (r + 1) F s Q) : wpA T (SqT p' L') (.take [(a + j, x)] k) W r F s Q := by
  have hb := Z.b ha
  have hrr := Z.rr
  refine K4 Z.H hx (.inr ⟨a, List.mem_append.2 (.inl ha), by omega⟩) (Z.sq ha hj) hr fun H' hat => w _ ⟨H', ?_, ?_, ?_, Z.rr, by rw [hat, if_neg (by omega)]; exact Z.b5⟩
  · rw [hat, if_neg (by omega)]; exact Z.rv
  · intro b hb'
    have hbb := Z.b hb'
    have h0 := Z.nds b hb'
    by_cases e : b = a
    · subst e
      rw [z5]
      obtain ⟨n1, n2, n3, n4⟩ := hn
      rw [n1, n2, n3, n4, hat, hat, hat, hat]
      refine ⟨?_, ?_, ?_, ?_⟩
      · by_cases h : j = 0
        · rw [if_pos (by omega), if_pos h]
        · rw [if_neg (by omega), if_neg h]; exact h0.1
      · by_cases h : j = 1
        · rw [if_pos (by omega), if_pos h]
        · rw [if_neg (by omega), if_neg h]; exact h0.2.1
      · by_cases h : j = 2
        · rw [if_pos (by omega), if_pos h]
        · rw [if_neg (by omega), if_neg h]; exact h0.2.2.1
      · by_cases h : j = 3
        · rw [if_pos (by omega), if_pos h]
        · rw [if_neg (by omega), if_neg h]; exact h0.2.2.2
    · rw [jU e]
      rcases Z.H.apart (List.mem_append.2 (.inl ha)) (List.mem_append.2 (.inl hb')) with h | h | h
      · exact absurd h.symm e
      · rw [hat, hat, hat, hat, if_neg (by omega), if_neg (by omega), if_neg (by omega), if_neg (by omega)]; exact h0
      · rw [hat, hat, hat, hat, if_neg (by omega), if_neg (by omega), if_neg (by omega), if_neg (by omega)]; exact h0
  · refine ⟨by rw [hat, if_neg (by omega)]; exact Z.oth.1, fun y hy i h1 h2 => ?_⟩
    have hyb := Z.H.mem (List.mem_append.2 (.inr hy))
    rcases Z.ne ha hy with h | h
    · rw [hat, if_neg (by omega)]; exact Z.oth.2 y hy i h1 h2
    · rw [hat, if_neg (by omega)]; exact Z.oth.2 y hy i h1 h2
theorem qZM {x : Int} {k : Act α} (Z : Hp W T p L fr p' L' W0 rv nd) (hx : 0 ≤ x ∧ x < 18446744073709551616) (hr : r + 1 ≤ 96)
    (w : ∀ W', Hp W' T p L fr p' L' W0 x nd → wpA T (SqT p' L') k W' (r + 1) F s Q) : wpA T (SqT p' L') (.take [(p, x)] k) W r F s Q := by
  have hrr := Z.rr
  refine K4 Z.H hx (.inl ⟨hrr.1, hrr.2.1⟩) Z.sqr hr fun H' hat => w _ ⟨H', ?_, ?_, ?_, Z.rr, by rw [hat, if_neg (by omega)]; exact Z.b5⟩
  · rw [hat, if_pos (by omega)]
  · intro b hb
    have hbb := Z.b hb
    rw [hat, hat, hat, hat, if_neg (by omega), if_neg (by omega), if_neg (by omega), if_neg (by omega)]
    exact Z.nds b hb
  · refine ⟨by rw [hat, if_neg (by omega)]; exact Z.oth.1, fun y hy i h1 h2 => ?_⟩
    have hyb := Z.H.mem (List.mem_append.2 (.inr hy))
    rw [hat, if_neg (by omega)]
    exact Z.oth.2 y hy i h1 h2
end Go.Proofs.YtpohfcljfemhlaaGreat.arenaParts
namespace Go.Proofs.YtpohfcljfemhlaaGreat.arenaParts
open Go Go.Ae arenaPlays
set_option maxRecDepth 100000
variable {α : Type} {W W0 : List Int} {T : Nat} {p p' rv : Int} {L fr L' F : List Int} {nd : Int → Nd} {r : Nat} {s : Int} {Q : Option α → Int → List Int → List Int → Prop}
theorem ko {a j : Int} {k : Int → Act α} (Z : Hp W T p L fr p' L' W0 rv nd) (ha : a ∈ L) (hj : 0 ≤ j ∧ j < 4) (w : wpA T (SqT p' L') (k (qG W (a + j).toNat)) W r F s Q) : wpA T (SqT p' L') (.read (a + j) k) W r F s Q := by
  have hb := Z.b ha
  exact wm (by omega) (by omega) (Z.sq ha hj) w
theorem wo {a : Int} {k : Int → Act α} (Z : Hp W T p L fr p' L' W0 rv nd) (ha : a ∈ L) (hc : (nd a).w / 2 < 2147483648) (w : wpA T (SqT p' L') (k ((nd a).w / 2)) W r F s Q) : wpA T (SqT p' L') (qu a 0 k) W r F s Q := by
  have hb := Z.b ha
  unfold qu
  rw [if_neg (by omega), if_neg (by omega)]
  refine ko Z ha (by omega) ?_
  rw [(Z.nds a ha).2.2.1]
  unfold Y4
  rw [if_neg (by omega)]
  exact w
theorem vH {a : Int} {k : Int → Act α} (Z : Hp W T p L fr p' L' W0 rv nd) (ha : a ∈ L) (hc : (nd a).y < 2147483648) (w : wpA T (SqT p' L') (k (nd a).y) W r F s Q) : wpA T (SqT p' L') (qu a 1 k) W r F s Q := by
  have hb := Z.b ha
  unfold qu
  rw [if_neg (by omega), if_pos rfl]
  refine UW (by omega) (by omega) (Z.sq ha (by omega)) ?_ ?_
  · rw [(Z.nds a ha).2.2.2]; exact hc
  · rw [(Z.nds a ha).2.2.2]; exact w
theorem qJe {a : Int} {k : Bool → Act α} (Z : Hp W T p L fr p' L' W0 rv nd) (ha : a ∈ L) (w : wpA T (SqT p' L') (k (decide ((nd a).w % 2 = 1))) W r F s Q) : wpA T (SqT p' L') (xk a k) W r F s Q := by
  have hb := Z.b ha
  unfold xk
  rw [if_neg (by omega)]
  refine ko Z ha (by omega) ?_
  rw [(Z.nds a ha).2.2.1]
  exact w
theorem qKM {k : Bool → Act α} (w : wpA T (SqT p' L') (k false) W r F s Q) : wpA T (SqT p' L') (xk 0 k) W r F s Q := by
  unfold xk
  rw [if_pos rfl]
  exact w
theorem kr {a c : Int} {k : Act α} (Z : Hp W T p L fr p' L' W0 rv nd) (ha : a ∈ L) (hc : 0 ≤ c ∧ c < 2147483648) (hr : r + 1 ≤ 96) (w : ∀ W', Hp W' T p L fr p' L' W0 rv (upd nd a ⟨(nd a).k, (nd a).v, (nd a).w, c⟩) → wpA T (SqT p' L') k W' (r + 1) F s Q) :
    wpA T (SqT p' L') (xy a 1 c k) W r F s Q := by
  unfold xy
  rw [if_pos rfl]
  exact wu (x' := ⟨(nd a).k, (nd a).v, (nd a).w, c⟩) Z ha (by omega) (by omega) ⟨by simp, by simp, by simp, by simp⟩ hr w
theorem kP {a c : Int} {k : Act α} (Z : Hp W T p L fr p' L' W0 rv nd) (ha : a ∈ L) (hc : 0 ≤ c ∧ c < 2147483648) (hr : r + 1 ≤ 96) (w : ∀ W', Hp W' T p L fr p' L' W0 rv (upd nd a ⟨(nd a).k, (nd a).v, c * 2 + (nd a).w % 2, (nd a).y⟩) → wpA T (SqT p' L') k W' (r + 1) F s Q) :
    wpA T (SqT p' L') (xy a 0 c k) W r F s Q := by
  unfold xy
  rw [if_neg (by omega)]
  refine ko Z ha (by omega) ?_
  rw [(Z.nds a ha).2.2.1]
  exact wu (x' := ⟨(nd a).k, (nd a).v, c * 2 + (nd a).w % 2, (nd a).y⟩) Z ha (by omega) (by omega) ⟨by simp, by simp, by simp, by simp⟩ hr w
theorem ZM {x : Int} {c red : Bool} (h : ¬ decide ((x * 2 + zb c) % 2 = 1) = red) : wg (x * 2 + zb c) = x * 2 + zb red := by
  unfold wg
  cases c <;> cases red <;> simp [zb] at h ⊢ <;> omega
theorem Ou {x : Int} {c red : Bool} (h : decide ((x * 2 + zb c) % 2 = 1) = red) : c = red := by
  cases c <;> cases red <;> simp [zb] at h ⊢ <;> omega
theorem XR {a x : Int} {c red : Bool} {k : Act α} (Z : Hp W T p L fr p' L' W0 rv nd) (ha : a ∈ L) (hw : (nd a).w = x * 2 + zb c) (hr : r + 1 ≤ 96)
    (w : ∀ W' r', r' ≤ r + 1 → Hp W' T p L fr p' L' W0 rv (upd nd a ⟨(nd a).k, (nd a).v, x * 2 + zb red, (nd a).y⟩) → wpA T (SqT p' L') k W' r' F s Q) : wpA T (SqT p' L') (jZ a red k) W r F s Q := by
  have hb := Z.b ha
  unfold jZ
  rw [if_neg (by omega)]
  refine ko Z ha (by omega) ?_
  have hw2 := (Z.nds a ha).2.2.1
  have hwb := Z.wds (a + 2).toNat
  rw [hw2, hw] at hwb
  rw [hw2, hw]
  by_cases h : decide ((x * 2 + zb c) % 2 = 1) = red
  · rw [if_pos h]
    refine w W r (by omega) ?_
    have e : upd nd a ⟨(nd a).k, (nd a).v, x * 2 + zb red, (nd a).y⟩ = nd := by
      funext b
      unfold upd
      split
      · rename_i hb; rw [hb, ← Ou h, ← hw]
      · rfl
    rw [e]
    exact Z
  · rw [if_neg h]
    have hf := qJb hwb
    rw [ZM h] at hf ⊢
    exact wu (x' := ⟨(nd a).k, (nd a).v, x * 2 + zb red, (nd a).y⟩) Z ha (by omega) hf ⟨by simp, by simp, by simp, by simp⟩ hr fun W' => w W' (r + 1) (Nat.le_refl _)
end Go.Proofs.YtpohfcljfemhlaaGreat.arenaParts
namespace Go.Proofs.YtpohfcljfemhlaaGreat.arenaParts
open Go Go.Ae arenaPlays
set_option maxRecDepth 100000
variable {α : Type} {W W0 : List Int} {T : Nat} {p p' rv : Int} {L fr L' F : List Int} {nd : Int → Nd} {r : Nat} {s : Int} {Q : Option α → Int → List Int → List Int → Prop}
theorem wX (Z : Hp W T p L fr p' L' W0 rv nd) : ∀ {t : Tr}, (∀ x ∈ ads t, x ∈ L) → 0 ≤ rt t ∧ rt t < 256 := by
  intro t h
  cases t with
  | nil => show (0 : Int) ≤ 0 ∧ (0 : Int) < 256; omega
  | node a c l k v rr =>
    have := Z.b (h a (List.mem_cons_self ..))
    have := Z.H.size
    show 0 ≤ a ∧ a < 256
    omega
theorem kJ {x : Int} {c : Bool} : (x * 2 + zb c) / 2 = x := by have := O8 c; omega
theorem Xn {x : Int} {c : Bool} : (x * 2 + zb c) % 2 = zb c := by have := O8 c; omega
theorem Rep.off {nd nd' : Int → Nd} : ∀ {t : Tr}, Rep nd t → (∀ x ∈ ads t, nd' x = nd x) → Rep nd' t := by
  intro t
  induction t with
  | nil => intro _ _; exact trivial
  | node a c l k v rr ihl ihr =>
    intro h e
    exact ⟨(e a (List.mem_cons_self ..)).trans h.1, ihl h.2.1 fun x hx => e x (List.mem_cons_of_mem _ (List.mem_append.2 (.inl hx))), ihr h.2.2 fun x hx => e x (List.mem_cons_of_mem _ (List.mem_append.2 (.inr hx)))⟩
theorem RepZ.off {nd nd' : Int → Nd} {rv : Int} : ∀ {Z : List Fr} {h : Int}, RepZ nd rv Z h → (∀ x ∈ ji Z, nd' x = nd x) → RepZ nd' rv Z h := by
  intro Z
  induction Z with
  | nil => intro h hz _; exact hz
  | cons f Z ih =>
    intro h hz e
    exact ⟨(e f.a (List.mem_cons_self ..)).trans hz.1, hz.2.1.off fun x hx => e x (List.mem_cons_of_mem _ (List.mem_append.2 (.inl hx))), ih hz.2.2 fun x hx => e x (List.mem_cons_of_mem _ (List.mem_append.2 (.inr hx)))⟩
theorem Qh {a b k v kb vb : Int} {c cb : Bool} {l rl rr : Tr} {K : Int → Act α} (Z : Hp W T p L fr p' L' W0 rv nd) (R : Rep nd (.node a c l k v (.node b cb rl kb vb rr))) (hL : ∀ x ∈ ads (.node a c l k v (.node b cb rl kb vb rr)), x ∈ L)
    (N : (ads (.node a c l k v (.node b cb rl kb vb rr))).Nodup) (hr : r + 2 ≤ 96)
    (w : ∀ W' nd', Hp W' T p L fr p' L' W0 rv nd' → Rep nd' (.node b cb (.node a c l k v rl) kb vb rr) → (∀ x, x ≠ a → x ≠ b → nd' x = nd x) → wpA T (SqT p' L') (K b) W' (r + 2) F s Q) :
    wpA T (SqT p' L') (xm a 0 K) W r F s Q := by
  obtain ⟨R1, R2, R3, R4, R5⟩ := R
  simp only [ads, List.nodup_cons, List.mem_cons, List.mem_append, List.nodup_append, not_or] at N
  have ha : a ∈ L := hL a (by simp [ads])
  have hb : b ∈ L := hL b (by simp [ads])
  have bl := wX Z (t := rl) fun x hx => hL x (by simp [ads]; exact .inr (.inr (.inr (.inl hx))))
  have bbb := Z.b hb
  have bba := Z.b ha
  have hsz := Z.H.size
  have hab : a ≠ b := N.1.2.1
  unfold xm
  rw [show (1 : Int) - 0 = 1 from rfl]
  refine vH Z ha (by rw [R1]; show b < _; omega) ?_
  rw [R1]
  show wpA T (SqT p' L') (qu b 0 fun c => xy a 1 c (xy b 0 a (K b))) W r F s Q
  refine wo Z hb (by rw [R3]; show (rt rl * 2 + zb cb) / 2 < _; rw [kJ]; omega) ?_
  rw [R3]
  show wpA T (SqT p' L') (xy a 1 ((rt rl * 2 + zb cb) / 2) (xy b 0 a (K b))) W r F s Q
  rw [kJ]
  refine kr Z ha (by omega) (by omega) fun W1 Z1 => ?_
  refine kP Z1 hb (by omega) (by omega) fun W2 Z2 => ?_
  refine w W2 _ Z2 ⟨?_, ⟨?_, ?_, ?_⟩, ?_⟩ ?_
  · rw [z5, jU (Ne.symm hab), R3]
    show (⟨kb, vb, a * 2 + (rt rl * 2 + zb cb) % 2, rt rr⟩ : Nd) = _
    rw [Xn]; rfl
  · rw [jU hab, z5, R1]
  · exact R2.off fun x hx => by
      rw [jU (N.2.2.2 x hx b (.inl rfl)), jU (fun e => by subst e; exact N.1.1 hx)]
  · exact R4.off fun x hx => by
      rw [jU (fun e => by subst e; exact N.2.2.1.1.1 hx), jU (fun e => by subst e; exact N.1.2.2.1 hx)]
  · exact R5.off fun x hx => by
      rw [jU (fun e => by subst e; exact N.2.2.1.1.2 hx), jU (fun e => by subst e; exact N.1.2.2.2 hx)]
  · intro x h1 h2
    rw [jU h2, jU h1]
theorem JZ {a b k v kb vb : Int} {c cb : Bool} {ll lr rr : Tr} {K : Int → Act α} (Z : Hp W T p L fr p' L' W0 rv nd) (R : Rep nd (.node a c (.node b cb ll kb vb lr) k v rr)) (hL : ∀ x ∈ ads (.node a c (.node b cb ll kb vb lr) k v rr), x ∈ L)
    (N : (ads (.node a c (.node b cb ll kb vb lr) k v rr)).Nodup) (hr : r + 2 ≤ 96)
    (w : ∀ W' nd', Hp W' T p L fr p' L' W0 rv nd' → Rep nd' (.node b cb ll kb vb (.node a c lr k v rr)) → (∀ x, x ≠ a → x ≠ b → nd' x = nd x) → wpA T (SqT p' L') (K b) W' (r + 2) F s Q) :
    wpA T (SqT p' L') (xm a 1 K) W r F s Q := by
  obtain ⟨R1, ⟨R3, R4, R5⟩, R2⟩ := R
  simp only [ads, List.nodup_cons, List.mem_cons, List.mem_append, List.nodup_append, not_or] at N
  have ha : a ∈ L := hL a (by simp [ads])
  have hb : b ∈ L := hL b (by simp [ads])
  have bl := wX Z (t := lr) fun x hx => hL x (List.mem_cons_of_mem _ (List.mem_append.2 (.inl (List.mem_cons_of_mem _ (List.mem_append.2 (.inr hx))))))
  have bbb := Z.b hb
  have bba := Z.b ha
  have hsz := Z.H.size
  have hab : a ≠ b := N.1.1.1
  unfold xm
  rw [show (1 : Int) - 1 = 0 from rfl]
  refine wo Z ha (by rw [R1]; show (b * 2 + zb c) / 2 < _; rw [kJ]; omega) ?_
  rw [R1]
  show wpA T (SqT p' L') (qu ((b * 2 + zb c) / 2) 1 fun c' => xy a 0 c' (xy ((b * 2 + zb c) / 2) 1 a (K ((b * 2 + zb c) / 2)))) W r F s Q
  rw [kJ]
  refine vH Z hb (by rw [R3]; show rt lr < _; omega) ?_
  rw [R3]
  show wpA T (SqT p' L') (xy a 0 (rt lr) (xy b 1 a (K b))) W r F s Q
  refine kP Z ha (by omega) (by omega) fun W1 Z1 => ?_
  refine kr Z1 hb (by omega) (by omega) fun W2 Z2 => ?_
  refine w W2 _ Z2 ⟨?_, ?_, ?_, ?_, ?_⟩ ?_
  · rw [z5, jU (Ne.symm hab), R3]; rfl
  · exact R4.off fun x hx => by
      rw [jU (fun e => by subst e; exact N.2.1.1.1 hx), jU (fun e => by subst e; exact N.1.1.2.1 hx)]
  · rw [jU hab, z5, R1]
    show (⟨k, v, rt lr * 2 + (b * 2 + zb c) % 2, rt rr⟩ : Nd) = _
    rw [Xn]
  · exact R5.off fun x hx => by
      rw [jU (fun e => by subst e; exact N.2.1.1.2 hx), jU (fun e => by subst e; exact N.1.1.2.2 hx)]
  · exact R2.off fun x hx => by
      rw [jU (fun e => N.2.2.2 b (.inl rfl) x hx e.symm), jU (fun e => by subst e; exact N.1.2 hx)]
  · intro x h1 h2
    rw [jU h2, jU h1]
end Go.Proofs.YtpohfcljfemhlaaGreat.arenaParts
