/- The abstract executor of the program's form in Lean, shown sound: steps of a run; a law's run. -/
import Derived.Test.YtaepnpodenmmoaaAe6
namespace Go.Ae
open Go

/-- the answer comes, and it is so -/
def wp (r : R) (Q : AV → AH → Prop) : Prop := ∃ v h, r = some (v, h) ∧ Q v h

variable {Q Q' : AV → AH → Prop} {h h' : AH} {k : IntKind} {a b : Int} {K : AV → R}

theorem wp.mono {r : R} (w : wp r Q) (hq : ∀ v h, Q v h → Q' v h) : wp r Q' := by
  obtain ⟨v, h, e, q⟩ := w
  exact ⟨v, h, e, hq v h q⟩
theorem ww_ret {v : AV} {g : AH} (q : Q v g) : wp (some (v, g)) Q := ⟨_, _, rfl, q⟩

/-! ### numbers -/
theorem ilt_dec (a b : Int) : ilt a b = decide (a < b) := ilt_eq a b
theorem ieq_dec (a b : Int) : ieq a b = decide (a = b) := by
  rw [ieq_eq]
  by_cases h : a = b
  · subst h; simp
  · simp [h]
theorem pInt_k (op : BinOp) (a b : Int) (K : AV → R) : pInt op (.int k a) (.int k b) K = ob (aint op k a b) K := by
  rw [pInt_eq]; simp
theorem ww_lss (w : wp (K (.bool (decide (a < b)))) Q) : wp (pInt .lss (.int k a) (.int k b) K) Q := by
  rw [pInt_k]; simpa only [aint, ilt_dec] using w
theorem ww_leq (w : wp (K (.bool (decide (a ≤ b)))) Q) : wp (pInt .leq (.int k a) (.int k b) K) Q := by
  rw [pInt_k]; simp only [aint, ilt_dec]
  rw [show (!decide (b < a)) = decide (a ≤ b) by rw [← decide_not]; exact decide_eq_decide.2 (by omega)]; exact w
theorem ww_gtr (w : wp (K (.bool (decide (b < a)))) Q) : wp (pInt .gtr (.int k a) (.int k b) K) Q := by
  rw [pInt_k]; simpa only [aint, ilt_dec] using w
theorem ww_geq (w : wp (K (.bool (decide (b ≤ a)))) Q) : wp (pInt .geq (.int k a) (.int k b) K) Q := by
  rw [pInt_k]; simp only [aint, ilt_dec]
  rw [show (!decide (a < b)) = decide (b ≤ a) by rw [← decide_not]; exact decide_eq_decide.2 (by omega)]; exact w
theorem ww_eql (w : wp (K (.bool (decide (a = b)))) Q) : wp (pInt .eql (.int k a) (.int k b) K) Q := by
  rw [pInt_k]; simpa only [aint, ieq_dec] using w
theorem ww_neq (w : wp (K (.bool (decide (¬ a = b)))) Q) : wp (pInt .neq (.int k a) (.int k b) K) Q := by
  rw [pInt_k]; simp only [aint, ieq_dec]
  rw [← decide_not]; exact w
theorem wrapI {n : Int} (h : -9223372036854775808 ≤ n ∧ n ≤ 9223372036854775807) : awrap .i64 n = n := by
  rw [awrap_eq, wrap_i64]
  split <;> omega
theorem wrapU {n : Int} (h : 0 ≤ n ∧ n ≤ 18446744073709551615) : awrap .u64 n = n := by
  rw [awrap_eq, wrap_u64]; omega
theorem wrap8 {n : Int} (h : 0 ≤ n ∧ n ≤ 255) : awrap .u8 n = n := by
  rw [awrap_eq, wrap_u8]; omega
theorem ww_add (w : wp (K (.int k (awrap k (a + b)))) Q) : wp (pInt .add (.int k a) (.int k b) K) Q := by rw [pInt_k]; exact w
theorem ww_sub (w : wp (K (.int k (awrap k (a - b)))) Q) : wp (pInt .sub (.int k a) (.int k b) K) Q := by rw [pInt_k]; exact w
theorem ww_mul (w : wp (K (.int k (awrap k (a * b)))) Q) : wp (pInt .mul (.int k a) (.int k b) K) Q := by rw [pInt_k]; exact w
theorem ww_addI (h : -9223372036854775808 ≤ a + b ∧ a + b ≤ 9223372036854775807) (w : wp (K (.int .i64 (a + b))) Q) : wp (pInt .add (.int .i64 a) (.int .i64 b) K) Q := ww_add (by rw [wrapI h]; exact w)
theorem ww_subI (h : -9223372036854775808 ≤ a - b ∧ a - b ≤ 9223372036854775807) (w : wp (K (.int .i64 (a - b))) Q) : wp (pInt .sub (.int .i64 a) (.int .i64 b) K) Q := ww_sub (by rw [wrapI h]; exact w)
theorem ww_mulI (h : -9223372036854775808 ≤ a * b ∧ a * b ≤ 9223372036854775807) (w : wp (K (.int .i64 (a * b))) Q) : wp (pInt .mul (.int .i64 a) (.int .i64 b) K) Q := ww_mul (by rw [wrapI h]; exact w)
theorem ww_addU (h : 0 ≤ a + b ∧ a + b ≤ 18446744073709551615) (w : wp (K (.int .u64 (a + b))) Q) : wp (pInt .add (.int .u64 a) (.int .u64 b) K) Q := ww_add (by rw [wrapU h]; exact w)
theorem ww_subU (h : 0 ≤ a - b ∧ a - b ≤ 18446744073709551615) (w : wp (K (.int .u64 (a - b))) Q) : wp (pInt .sub (.int .u64 a) (.int .u64 b) K) Q := ww_sub (by rw [wrapU h]; exact w)
theorem ww_rem (h : b ≠ 0) (w : wp (K (.int k (a.tmod b))) Q) : wp (pInt .rem (.int k a) (.int k b) K) Q := by
  rw [pInt_k]; simp only [aint, ieq_dec, decide_eq_false h, cond_false]; exact w
theorem ww_quo (h : b ≠ 0) (w : wp (K (.int k (awrap k (a.tdiv b)))) Q) : wp (pInt .quo (.int k a) (.int k b) K) Q := by
  rw [pInt_k]; simp only [aint, ieq_dec, decide_eq_false h, cond_false]; exact w
theorem ww_convI {d : IntKind} (w : wp (K (.int d (awrap d a))) Q) : wp (pConvI d (.int k a) K) Q := w
theorem ww_convII (h : -9223372036854775808 ≤ a ∧ a ≤ 9223372036854775807) (w : wp (K (.int .i64 a)) Q) : wp (pConvI .i64 (.int k a) K) Q := ww_convI (by rw [wrapI h]; exact w)
theorem ww_convIU (h : 0 ≤ a ∧ a ≤ 18446744073709551615) (w : wp (K (.int .u64 a)) Q) : wp (pConvI .u64 (.int k a) K) Q := ww_convI (by rw [wrapU h]; exact w)
theorem ww_shl {q : IntKind} (h : 0 ≤ b) (w : wp (K (.int k (awrap k (a * 2 ^ (min b.toNat k.bits))))) Q) : wp (pShift .shl (.int k a) (.int q b) K) Q := by
  unfold pShift
  simp only [ashift, ilt_dec, decide_eq_false (show ¬ b < 0 by omega), cond_false]
  exact w
theorem ww_shr {q : IntKind} (h : 0 ≤ b) (w : wp (K (.int k (a.fdiv (2 ^ (min b.toNat k.bits))))) Q) : wp (pShift .shr (.int k a) (.int q b) K) Q := by
  unfold pShift
  simp only [ashift, ilt_dec, decide_eq_false (show ¬ b < 0 by omega), cond_false]
  exact w
theorem ww_not {t : Bool} (w : wp (K (.bool (!t))) Q) : wp (pUn .not (.bool t) K) Q := w
theorem ww_notT (w : wp (K (.bool false)) Q) : wp (pUn .not (.bool true) K) Q := w
theorem ww_notF (w : wp (K (.bool true)) Q) : wp (pUn .not (.bool false) K) Q := w
theorem ww_negI (h : -9223372036854775807 ≤ a ∧ a ≤ 9223372036854775807) (w : wp (K (.int .i64 (-a))) Q) : wp (pUn .neg (.int .i64 a) K) Q := by
  show wp (K (.int .i64 (awrap .i64 (0 - a)))) Q
  rw [wrapI (by omega), Int.zero_sub]; exact w
theorem ww_min (w : wp (K (.int k (min a b))) Q) : wp (pMM false [.int k a, .int k b] K) Q := by
  unfold pMM
  simp only [isInt, cond_true, mmL, mm2, beq_self_eq_true, cond_false, Option.bind_some, ilt_dec]
  rw [show (bif decide (b < a) then b else a) = min a b by by_cases h : b < a <;> simp [h] <;> omega]; exact w
theorem ww_max (w : wp (K (.int k (max a b))) Q) : wp (pMM true [.int k a, .int k b] K) Q := by
  unfold pMM
  simp only [isInt, cond_true, mmL, mm2, beq_self_eq_true, Option.bind_some, ilt_dec]
  rw [show (bif decide (a < b) then b else a) = max a b by by_cases h : a < b <;> simp [h] <;> omega]; exact w

/-! where ways part at a comparison -/
theorem bool_split {p : Prop} [Decidable p] {K : AV → R} (h1 : p → wp (K (.bool true)) Q) (h2 : ¬ p → wp (K (.bool false)) Q) : wp (K (.bool (decide p))) Q := by
  by_cases hp : p
  · rw [decide_eq_true hp]; exact h1 hp
  · rw [decide_eq_false hp]; exact h2 hp
theorem ww_lssC (h1 : a < b → wp (K (.bool true)) Q) (h2 : ¬ a < b → wp (K (.bool false)) Q) : wp (pInt .lss (.int k a) (.int k b) K) Q := ww_lss (bool_split h1 h2)
theorem ww_leqC (h1 : a ≤ b → wp (K (.bool true)) Q) (h2 : ¬ a ≤ b → wp (K (.bool false)) Q) : wp (pInt .leq (.int k a) (.int k b) K) Q := ww_leq (bool_split h1 h2)
theorem ww_gtrC (h1 : b < a → wp (K (.bool true)) Q) (h2 : ¬ b < a → wp (K (.bool false)) Q) : wp (pInt .gtr (.int k a) (.int k b) K) Q := ww_gtr (bool_split h1 h2)
theorem ww_geqC (h1 : b ≤ a → wp (K (.bool true)) Q) (h2 : ¬ b ≤ a → wp (K (.bool false)) Q) : wp (pInt .geq (.int k a) (.int k b) K) Q := ww_geq (bool_split h1 h2)
theorem ww_eqlC (h1 : a = b → wp (K (.bool true)) Q) (h2 : ¬ a = b → wp (K (.bool false)) Q) : wp (pInt .eql (.int k a) (.int k b) K) Q := ww_eql (bool_split h1 h2)
theorem ww_neqC (h1 : ¬ a = b → wp (K (.bool true)) Q) (h2 : a = b → wp (K (.bool false)) Q) : wp (pInt .neq (.int k a) (.int k b) K) Q := ww_neq (bool_split h1 fun h => h2 (Decidable.byContradiction h))

/-! ### ways -/
variable {x y : R} {p : Prop} [Decidable p] {u v : AV}
theorem ww_cond (h1 : p → wp x Q) (h2 : ¬ p → wp y Q) : wp (pCond (.bool (decide p)) x y) Q := by
  rw [pCond_eq]
  by_cases hp : p
  · simpa [hp] using h1 hp
  · simpa [hp] using h2 hp
theorem ww_condB {t : Bool} (h1 : t = true → wp x Q) (h2 : t = false → wp y Q) : wp (pCond (.bool t) x y) Q := by
  cases t
  · exact h2 rfl
  · exact h1 rfl
theorem ww_condT (w : wp x Q) : wp (pCond (.bool true) x y) Q := w
theorem ww_condF (w : wp y Q) : wp (pCond (.bool false) x y) Q := w
theorem ww_want (h1 : p → wp x Q) (h2 : ¬ p → wp y Q) : wp (pWant (.bool (decide p)) true x y) Q := by
  rw [pWant_eq]
  by_cases hp : p
  · simpa [hp] using h1 hp
  · simpa [hp] using h2 hp
theorem ww_wantN (h1 : ¬ p → wp x Q) (h2 : p → wp y Q) : wp (pWant (.bool (decide p)) false x y) Q := by
  rw [pWant_eq]
  by_cases hp : p
  · simpa [hp] using h2 hp
  · simpa [hp] using h1 hp
theorem ww_wantB {t s : Bool} (h1 : t = s → wp x Q) (h2 : t = !s → wp y Q) : wp (pWant (.bool t) s x y) Q := by
  rw [pWant_eq]
  cases t <;> cases s
  · exact h1 rfl
  · exact h2 rfl
  · exact h2 rfl
  · exact h1 rfl
theorem ww_wantTT (w : wp x Q) : wp (pWant (.bool true) true x y) Q := w
theorem ww_wantTF (w : wp y Q) : wp (pWant (.bool true) false x y) Q := w
theorem ww_wantFT (w : wp y Q) : wp (pWant (.bool false) true x y) Q := w
theorem ww_wantFF (w : wp x Q) : wp (pWant (.bool false) false x y) Q := w
theorem ww_wantU {s : Bool} (w : wp y Q) : wp (pWant .undef s x y) Q := w
theorem ww_pickT (w : wp (K u) Q) : wp (pPick (.bool true) u v K) Q := w
theorem ww_pickF (w : wp (K v) Q) : wp (pPick (.bool false) u v K) Q := w
theorem ww_pick (h1 : p → wp (K u) Q) (h2 : ¬ p → wp (K v) Q) : wp (pPick (.bool (decide p)) u v K) Q := by
  by_cases hp : p
  · rw [decide_eq_true hp]; exact h1 hp
  · rw [decide_eq_false hp]; exact h2 hp
theorem ww_pickB {t : Bool} (h1 : t = true → wp (K u) Q) (h2 : t = false → wp (K v) Q) : wp (pPick (.bool t) u v K) Q := by
  cases t
  · exact h2 rfl
  · exact h1 rfl
theorem ww_joinS {α : Type} {j : α} {f : α → R} (w : wp (f j) Q) : wp (joinC j f) Q := w
/-- where ways meet: what is known there -/
theorem ww_join {σ : Type} {j : σ → AH → R} {f : (σ → AH → R) → R} (Inv : σ → AH → Prop) (hf : ∀ j' : σ → AH → R, (∀ s h, Inv s h → wp (j' s h) Q) → wp (f j') Q) (hj : ∀ s h, Inv s h → wp (j s h) Q) : wp (joinC j f) Q := hf j hj
theorem ww_joinD {σ : Type} {j : σ → AH → List Nat → R} {f : (σ → AH → List Nat → R) → R} (ds : List Nat) (Inv : σ → AH → Prop) (hf : ∀ j' : σ → AH → List Nat → R, (∀ s h, Inv s h → wp (j' s h ds) Q) → wp (f j') Q)
    (hj : ∀ s h, Inv s h → wp (j s h ds) Q) : wp (joinC j f) Q := hf j hj
theorem ww_leave {K : AH → R} (w : wp (K h) Q) : wp (pLeave [] h K) Q := w

/-! ### loops -/
theorem ww_loop {σ : Type} {f : (σ → AH → List Nat → R) → σ → AH → List Nat → R} {d : List Nat} (Inv : Nat → σ → AH → Prop)
    (step : ∀ m ih s h, (∀ m' s' h', m' < m → Inv m' s' h' → wp (ih s' h' d) Q) → Inv m s h → wp (f ih s h d) Q) : ∀ {N m : Nat} {s : σ} {h : AH}, m < N → Inv m s h → wp (loopC N f s h d) Q := by
  intro N
  induction N with
  | zero => intro m s h hm; omega
  | succ N ih =>
    intro m s h hm hi
    show wp (f (loopC N f) s h d) Q
    exact step m _ s h (fun m' s' h' hlt hi' => ih (by omega) hi') hi

/-! ### calls -/
theorem ww_call {c : CV} {f : AV} {as : List AV} {K : AV → AH → R} (w : wp (c f as h) Q') (hk : ∀ v h', Q' v h' → wp (K v h') Q) : wp (pCall c f as h K) Q := by
  obtain ⟨v, h', e, q⟩ := w
  rw [pCall_eq, e]
  exact hk v h' q
theorem callT_fn {tab : BT} {rt : List RT} {n : Nat} {f : FuncId} {as : List AV} {g : WF} (hg : tab.get f = some g) : callT tab rt (n + 1) (.fn f [] []) as h = g (callT tab rt n) as h := by
  show Option.rec (motive := fun _ => R) none (fun g => g (callT tab rt n) ([] ++ as ++ []) h) (tab.get f) = _
  rw [hg, List.nil_append, List.append_nil]
theorem callT_fc {tab : BT} {rt : List RT} {n : Nat} {f : FuncId} {a1 a2 as : List AV} {g : WF} (hg : tab.get f = some g) : callT tab rt (n + 1) (.fn f a1 a2) as h = g (callT tab rt n) (a1 ++ as ++ a2) h := by
  show Option.rec (motive := fun _ => R) none (fun g => g (callT tab rt n) (a1 ++ as ++ a2) h) (tab.get f) = _
  rw [hg]

end Go.Ae

namespace Go.Ae
open Go

/-- the closed sentence z answers true; all else by c -/
def withRun (z : Nat) (c : CV) : CV := fun v as h => match v, as with
  | .fn f [] [], [] => if f = z then some (.bool true, h) else c v as h
  | _, _ => c v as h

theorem withRun_z {z : Nat} {c : CV} {h : AH} : withRun z c (.fn z [] []) [] h = some (.bool true, h) := if_pos rfl
theorem withRun_ne {z f : Nat} {c : CV} {as : List AV} {h : AH} (hf : f ≠ z) : withRun z c (.fn f [] []) as h = c (.fn f [] []) as h := by
  cases as with
  | nil => exact if_neg hf
  | cons a as => rfl
theorem withRun_fc {z f : Nat} {c : CV} {a1 a2 as : List AV} {h : AH} (hf : f ≠ z) : withRun z c (.fn f a1 a2) as h = c (.fn f a1 a2) as h := by
  cases a1 <;> cases a2 <;> cases as <;> first | rfl | exact if_neg hf

theorem ww_fn {tab : BT} {rt : List RT} {n : Nat} {f : FuncId} {as : List AV} {g : WF} {h : AH} {Q : AV → AH → Prop} (hg : tab.get f = some g) (hn : 1 ≤ n) (w : ∀ k, n = k + 1 → wp (g (callT tab rt k) as h) Q) : wp (callT tab rt n (.fn f [] []) as h) Q := by
  obtain ⟨k, rfl⟩ : ∃ k, n = k + 1 := ⟨n - 1, by omega⟩
  rw [callT_fn hg]; exact w k rfl
theorem ww_fc {tab : BT} {rt : List RT} {n : Nat} {f : FuncId} {a1 a2 as : List AV} {g : WF} {h : AH} {Q : AV → AH → Prop} (hg : tab.get f = some g) (hn : 1 ≤ n) (w : ∀ k, n = k + 1 → wp (g (callT tab rt k) (a1 ++ as ++ a2) h) Q) : wp (callT tab rt n (.fn f a1 a2) as h) Q := by
  obtain ⟨k, rfl⟩ : ∃ k, n = k + 1 := ⟨n - 1, by omega⟩
  rw [callT_fc hg]; exact w k rfl
theorem ww_callZ {z : Nat} {c : CV} {f : FuncId} {as : List AV} {h : AH} {Q Q' : AV → AH → Prop} {K : AV → AH → R} (hf : f ≠ z) (w : wp (c (.fn f [] []) as h) Q') (hk : ∀ v h', Q' v h' → wp (K v h') Q) : wp (pCall (withRun z c) (.fn f [] []) as h K) Q :=
  ww_call (by rw [withRun_ne hf]; exact w) hk
/-- what a law calls first -/
theorem ww_run {z : Nat} {c : CV} {h : AH} {Q : AV → AH → Prop} {K : AV → AH → R} (hk : wp (K (.bool true) h) Q) : wp (pCall (withRun z c) (.fn z [] []) [] h K) Q :=
  ww_call (Q' := fun v h' => v = .bool true ∧ h' = h) ⟨_, _, withRun_z, rfl, rfl⟩ (by rintro v h' ⟨rfl, rfl⟩; exact hk)

theorem below_ext {P : Program} {m : Mp} {D : Nat → Prop} {h : AH} {w w' : World} (R : Rel P m D h w) (B : RowKit.Below w.heap.size w w') : Ext m D h w m D h w' ∧ Rel P m D h w' := by
  refine ⟨⟨fun _ x => x, fun _ _ => rfl, B.size, fun c hc hn => ⟨B.block c hc, hn⟩, Nat.le_refl _, fun _ _ hn => ⟨rfl, hn⟩, B.os, B.tape, B.output, fun b => ⟨.inl, fun hb => hb.elim id fun hb => by omega⟩, fun _ _ h1 h2 => ⟨h1, h2⟩⟩, ?_, R.inj, R.lt, R.inp⟩
  intro b hb
  obtain ⟨x, hx, hr, hd⟩ := R.blk b hb
  refine ⟨x, hx, ?_, hd⟩
  cases x with
  | dead => trivial
  | inp t => exact hr.congr (fun _ _ => rfl) hd (B.block _ hr.insideI)
  | _ => exact hr.congr (fun _ _ => rfl) hd (B.block _ (BlkR.inside (by exact True.intro) hr))

theorem withRun_ok {P : Program} {c : CV} (hc : CSound P c) {z : Nat} (henter : ∀ (as : Array Value) (W : World), (callFunc z as).run P W = .ok (.enter z as) W)
    (hrun : ∀ (w : World) (n : Nat), CallsIn Fence.wide n P z #[] w fun e w' => e = .returned (.bool true) ∧ RowKit.Below w.heap.size w w') : CSound P (withRun z c) := by
  intro vf as h r e m D w R hv ha
  unfold withRun at e
  split at e
  · rename_i f
    split at e
    · rename_i hf
      subst hf
      cases e
      refine ⟨henter, fun n => CallsIn.mono (hrun w n) ?_⟩
      rintro ee w' ⟨rfl, B⟩
      obtain ⟨X, R'⟩ := below_ext R B
      exact ⟨m, D, rfl, X, R', trivial⟩
    · exact hc _ _ _ _ e m D w R hv ha
  · exact hc _ _ _ _ e m D w R hv ha

/-- A LAW's RUN on the caller's cells. -/
theorem open_law {P : Program} {tab : BT} {rt : List RT} (hm : P.follows .mixedOrders = true) (ht : TabOk P tab rt) {z : Nat} {gz : WF} (hz : tab.get z = some gz)
    (hrun : ∀ (w : World) (n : Nat), CallsIn Fence.wide n P z #[] w fun e w' => e = .returned (.bool true) ∧ RowKit.Below w.heap.size w w')
    {f : FuncId} {g : WF} (hg : tab.get f = some g) {k : Nat} {as : List AV} {w : World} {h : AH} (M : Mirror w h) (ha : inDs (CellBlk w) as)
    (e : wp (g (withRun z (callT tab rt k)) as h) fun v _ => v = .bool true) (n : Nat) : CallsIn Fence.wide n P f (cvs idMap as).toArray w fun e w' => e = .returned (.bool true) ∧ RowKit.Below w.heap.size w w' := by
  obtain ⟨v, h', e, rfl⟩ := e
  have hc := withRun_ok (table_ok hm ht k) (ht.enter z gz hz) hrun
  obtain ⟨pl, e⟩ := ht.w f g hg _ _ _ _ e
  refine CallsIn.mono (enter_ok hc (draw_ok hm hc) e M.rel ha n) ?_
  rintro ee w' ⟨m', D', rfl, X, R', _⟩
  exact ⟨rfl, X.os, X.tape, X.output, X.size, fun k hk => (X.keep k hk (fun ⟨b, hb, hl, _⟩ => M.noLive hb hl)).1⟩

theorem WTs1 {P : Program} {h : AH} {d : Nat} {t0 : TypeId} {l : List AV} (H : WTs P h d [t0] l) : ∃ a0, l = [a0] ∧ WTV P h d t0 a0 := by
  cases l with
  | nil => exact H.elim
  | cons a0 l =>
  obtain ⟨h0, H⟩ := H
  cases l with
  | cons _ _ => exact H.elim
  | nil => exact ⟨a0, rfl, h0⟩
theorem WTs2 {P : Program} {h : AH} {d : Nat} {t0 t1 : TypeId} {l : List AV} (H : WTs P h d [t0, t1] l) : ∃ a0 a1, l = [a0, a1] ∧ WTV P h d t0 a0 ∧ WTV P h d t1 a1 := by
  cases l with
  | nil => exact H.elim
  | cons a0 l =>
  obtain ⟨h0, H⟩ := H
  cases l with
  | nil => exact H.elim
  | cons a1 l =>
  obtain ⟨h1, H⟩ := H
  cases l with
  | cons _ _ => exact H.elim
  | nil => exact ⟨a0, a1, rfl, h0, h1⟩
theorem WTs3 {P : Program} {h : AH} {d : Nat} {t0 t1 t2 : TypeId} {l : List AV} (H : WTs P h d [t0, t1, t2] l) : ∃ a0 a1 a2, l = [a0, a1, a2] ∧ WTV P h d t0 a0 ∧ WTV P h d t1 a1 ∧ WTV P h d t2 a2 := by
  cases l with
  | nil => exact H.elim
  | cons a0 l =>
  obtain ⟨h0, H⟩ := H
  cases l with
  | nil => exact H.elim
  | cons a1 l =>
  obtain ⟨h1, H⟩ := H
  cases l with
  | nil => exact H.elim
  | cons a2 l =>
  obtain ⟨h2, H⟩ := H
  cases l with
  | cons _ _ => exact H.elim
  | nil => exact ⟨a0, a1, a2, rfl, h0, h1, h2⟩
theorem WTs4 {P : Program} {h : AH} {d : Nat} {t0 t1 t2 t3 : TypeId} {l : List AV} (H : WTs P h d [t0, t1, t2, t3] l) : ∃ a0 a1 a2 a3, l = [a0, a1, a2, a3] ∧ WTV P h d t0 a0 ∧ WTV P h d t1 a1 ∧ WTV P h d t2 a2 ∧ WTV P h d t3 a3 := by
  cases l with
  | nil => exact H.elim
  | cons a0 l =>
  obtain ⟨h0, H⟩ := H
  cases l with
  | nil => exact H.elim
  | cons a1 l =>
  obtain ⟨h1, H⟩ := H
  cases l with
  | nil => exact H.elim
  | cons a2 l =>
  obtain ⟨h2, H⟩ := H
  cases l with
  | nil => exact H.elim
  | cons a3 l =>
  obtain ⟨h3, H⟩ := H
  cases l with
  | cons _ _ => exact H.elim
  | nil => exact ⟨a0, a1, a2, a3, rfl, h0, h1, h2, h3⟩
theorem WTs5 {P : Program} {h : AH} {d : Nat} {t0 t1 t2 t3 t4 : TypeId} {l : List AV} (H : WTs P h d [t0, t1, t2, t3, t4] l) : ∃ a0 a1 a2 a3 a4, l = [a0, a1, a2, a3, a4] ∧ WTV P h d t0 a0 ∧ WTV P h d t1 a1 ∧ WTV P h d t2 a2 ∧ WTV P h d t3 a3 ∧ WTV P h d t4 a4 := by
  cases l with
  | nil => exact H.elim
  | cons a0 l =>
  obtain ⟨h0, H⟩ := H
  cases l with
  | nil => exact H.elim
  | cons a1 l =>
  obtain ⟨h1, H⟩ := H
  cases l with
  | nil => exact H.elim
  | cons a2 l =>
  obtain ⟨h2, H⟩ := H
  cases l with
  | nil => exact H.elim
  | cons a3 l =>
  obtain ⟨h3, H⟩ := H
  cases l with
  | nil => exact H.elim
  | cons a4 l =>
  obtain ⟨h4, H⟩ := H
  cases l with
  | cons _ _ => exact H.elim
  | nil => exact ⟨a0, a1, a2, a3, a4, rfl, h0, h1, h2, h3, h4⟩
theorem WTs6 {P : Program} {h : AH} {d : Nat} {t0 t1 t2 t3 t4 t5 : TypeId} {l : List AV} (H : WTs P h d [t0, t1, t2, t3, t4, t5] l) : ∃ a0 a1 a2 a3 a4 a5, l = [a0, a1, a2, a3, a4, a5] ∧ WTV P h d t0 a0 ∧ WTV P h d t1 a1 ∧ WTV P h d t2 a2 ∧ WTV P h d t3 a3 ∧ WTV P h d t4 a4 ∧ WTV P h d t5 a5 := by
  cases l with
  | nil => exact H.elim
  | cons a0 l =>
  obtain ⟨h0, H⟩ := H
  cases l with
  | nil => exact H.elim
  | cons a1 l =>
  obtain ⟨h1, H⟩ := H
  cases l with
  | nil => exact H.elim
  | cons a2 l =>
  obtain ⟨h2, H⟩ := H
  cases l with
  | nil => exact H.elim
  | cons a3 l =>
  obtain ⟨h3, H⟩ := H
  cases l with
  | nil => exact H.elim
  | cons a4 l =>
  obtain ⟨h4, H⟩ := H
  cases l with
  | nil => exact H.elim
  | cons a5 l =>
  obtain ⟨h5, H⟩ := H
  cases l with
  | cons _ _ => exact H.elim
  | nil => exact ⟨a0, a1, a2, a3, a4, a5, rfl, h0, h1, h2, h3, h4, h5⟩
theorem WTs7 {P : Program} {h : AH} {d : Nat} {t0 t1 t2 t3 t4 t5 t6 : TypeId} {l : List AV} (H : WTs P h d [t0, t1, t2, t3, t4, t5, t6] l) : ∃ a0 a1 a2 a3 a4 a5 a6, l = [a0, a1, a2, a3, a4, a5, a6] ∧ WTV P h d t0 a0 ∧ WTV P h d t1 a1 ∧ WTV P h d t2 a2 ∧ WTV P h d t3 a3 ∧ WTV P h d t4 a4 ∧ WTV P h d t5 a5 ∧ WTV P h d t6 a6 := by
  cases l with
  | nil => exact H.elim
  | cons a0 l =>
  obtain ⟨h0, H⟩ := H
  cases l with
  | nil => exact H.elim
  | cons a1 l =>
  obtain ⟨h1, H⟩ := H
  cases l with
  | nil => exact H.elim
  | cons a2 l =>
  obtain ⟨h2, H⟩ := H
  cases l with
  | nil => exact H.elim
  | cons a3 l =>
  obtain ⟨h3, H⟩ := H
  cases l with
  | nil => exact H.elim
  | cons a4 l =>
  obtain ⟨h4, H⟩ := H
  cases l with
  | nil => exact H.elim
  | cons a5 l =>
  obtain ⟨h5, H⟩ := H
  cases l with
  | nil => exact H.elim
  | cons a6 l =>
  obtain ⟨h6, H⟩ := H
  cases l with
  | cons _ _ => exact H.elim
  | nil => exact ⟨a0, a1, a2, a3, a4, a5, a6, rfl, h0, h1, h2, h3, h4, h5, h6⟩
theorem len_4 {α : Type} {l : List α} (h : l.length = 4) : ∃ a0 a1 a2 a3, l = [a0, a1, a2, a3] := by
  match l, h with
  | [a0, a1, a2, a3], _ => exact ⟨a0, a1, a2, a3, rfl⟩
theorem len_5 {α : Type} {l : List α} (h : l.length = 5) : ∃ a0 a1 a2 a3 a4, l = [a0, a1, a2, a3, a4] := by
  match l, h with
  | [a0, a1, a2, a3, a4], _ => exact ⟨a0, a1, a2, a3, a4, rfl⟩
theorem len_6 {α : Type} {l : List α} (h : l.length = 6) : ∃ a0 a1 a2 a3 a4 a5, l = [a0, a1, a2, a3, a4, a5] := by
  match l, h with
  | [a0, a1, a2, a3, a4, a5], _ => exact ⟨a0, a1, a2, a3, a4, a5, rfl⟩
theorem len_7 {α : Type} {l : List α} (h : l.length = 7) : ∃ a0 a1 a2 a3 a4 a5 a6, l = [a0, a1, a2, a3, a4, a5, a6] := by
  match l, h with
  | [a0, a1, a2, a3, a4, a5, a6], _ => exact ⟨a0, a1, a2, a3, a4, a5, a6, rfl⟩

end Go.Ae
