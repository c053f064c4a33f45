/- Blocks of words: by the program. -/
import Derived.Test.YtkfpddegilellaaGreatDoorVwV
namespace Go.Proofs.YtkfpddegilellaaGreatDoor
open Go Go.Ae
set_option maxRecDepth 100000

variable {g h : AH} {L R : List SP}

def sizeA (x : Int) : Int := if x = 1 then 2 else if x = 2 then 4 else if x = 3 then 8 else if x = 4 then 16 else 0
def classA (x : Int) : Int := if x < 1 then 0 else if x ≤ 2 then 1 else if x ≤ 4 then 2 else if x ≤ 8 then 3 else if x ≤ 16 then 4 else 0
theorem sizeA_b (x : Int) : 0 ≤ sizeA x ∧ sizeA x ≤ 16 := by unfold sizeA; repeat' split <;> omega
theorem classA_b (x : Int) : 0 ≤ classA x ∧ classA x ≤ 4 := by unfold classA; repeat' split <;> omega

/-- words are never below 0 -/
structure WdV (M : VM) : Prop where
  k : ∀ c ∈ M.K, 0 ≤ c.2 ∧ c.2 < 18446744073709551616
  l : ∀ x ∈ M.lv, ∀ c ∈ x.1, 0 ≤ c.2 ∧ c.2 < 18446744073709551616
theorem getC_prop {P : Int → Prop} {p x : Int} : ∀ {l : List Cl}, (∀ c ∈ l, P c.2) → getC p l = some x → P x := by
  intro l
  induction l with
  | nil => intro _ h; cases h
  | cons c l ih =>
    intro h e
    unfold getC at e
    split at e
    · cases e; exact h c (List.mem_cons_self ..)
    · exact ih (fun d hd => h d (List.mem_cons_of_mem _ hd)) e
theorem getL_prop {P : Int → Prop} {p x : Int} : ∀ {lv : List LvM}, (∀ y ∈ lv, ∀ c ∈ y.1, P c.2) → getL p lv = some x → P x := by
  intro lv
  induction lv with
  | nil => intro _ h; cases h
  | cons y r ih =>
    intro h e
    unfold getL at e
    split at e
    · rename_i v hv
      cases e; exact getC_prop (h y (List.mem_cons_self ..)) hv
    · exact ih (fun z hz => h z (List.mem_cons_of_mem _ hz)) e
theorem WdV.read {M : VM} {p : Int} (W : WdV M) : 0 ≤ (readV M p).1.1 ∧ (readV M p).1.1 < 18446744073709551616 := by
  unfold readV
  split
  · split
    · rename_i x hx
      exact getL_prop (P := fun x => 0 ≤ x ∧ x < 18446744073709551616) W.l hx
    · split
      · rename_i x hx
        exact getC_prop (P := fun x => 0 ≤ x ∧ x < 18446744073709551616) W.k hx
      · show (0 : Int) ≤ 0 ∧ (0 : Int) < 18446744073709551616; omega
  · show (0 : Int) ≤ 0 ∧ (0 : Int) < 18446744073709551616; omega
theorem WdV.read2 {M : VM} {p : Int} (W : WdV M) : WdV (readV M p).2 := by
  unfold readV
  repeat' split
  all_goals exact ⟨W.k, W.l⟩
def WdC (cs : List Cl) : Prop := ∀ c ∈ cs, 0 ≤ c.2 ∧ c.2 < 18446744073709551616
theorem WdC.put {l : List Cl} {p v : Int} (h : WdC l) (hv : 0 ≤ v ∧ v < 18446744073709551616) : WdC (putC p v l) := by
  induction l with
  | nil => intro c hc; simp [putC] at hc; subst hc; exact hv
  | cons a l ih =>
    unfold putC
    split
    · intro c hc
      rcases List.mem_cons.1 hc with rfl | hc
      · exact hv
      · exact h c (List.mem_cons_of_mem _ hc)
    · intro c hc
      rcases List.mem_cons.1 hc with rfl | hc
      · exact h _ (List.mem_cons_self ..)
      · exact ih (fun c hc => h c (List.mem_cons_of_mem _ hc)) c hc
theorem WdC.puts : ∀ {cs l : List Cl}, WdC l → WdC cs → WdC (putsC l cs) := by
  intro cs
  induction cs with
  | nil => intro l h _; exact h
  | cons c cs ih => intro l h hc; exact ih (h.put (hc c (List.mem_cons_self ..))) fun d hd => hc d (List.mem_cons_of_mem _ hd)
theorem takeL_wd {most : Nat} {was : List LvM} (hw : ∀ x ∈ was, WdC x.1) : ∀ {cs : List Cl} {lv : List LvM}, WdC cs → (∀ x ∈ lv, WdC x.1) → ∀ x ∈ (takeL most was lv cs).2, WdC x.1 := by
  intro cs
  induction cs with
  | nil => intro lv _ h; exact h
  | cons c cs ih =>
    intro lv hc h
    rw [takeL_cons]
    split
    · refine ih (fun d hd => hc d (List.mem_cons_of_mem _ hd)) ?_
      cases lv with
      | nil => exact h
      | cons y r =>
        unfold putL
        dsimp only
        split
        · exact h
        · split
          · exact h
          · intro x hx
            rcases List.mem_cons.1 hx with rfl | hx
            · exact (show WdC y.1 from h y (List.mem_cons_self ..)).put (hc c (List.mem_cons_self ..))
            · exact h x (List.mem_cons_of_mem _ hx)
    · exact hw
theorem WdV.take {M : VM} {cs : List Cl} (W : WdV M) (hc : WdC cs) : WdV (takeV M cs).2 := by
  unfold takeV
  split
  · exact ⟨W.k, takeL_wd W.l hc W.l⟩
  · exact W

/-! ### what is done on a view -/
def againV (M : VM) (c b : Int) : (Int × Int) × VM :=
  if 2147483648 ≤ b then ((0, 2), M) else
  if (readV M b).1.2 = 0 then
    (if (takeV (readV M b).2 [(c, (readV M b).1.1), (b - 1, c + 8)]).1 = 0 then ((b, 0), (takeV (readV M b).2 [(c, (readV M b).1.1), (b - 1, c + 8)]).2)
      else ((0, (takeV (readV M b).2 [(c, (readV M b).1.1), (b - 1, c + 8)]).1), (takeV (readV M b).2 [(c, (readV M b).1.1), (b - 1, c + 8)]).2))
  else ((0, (readV M b).1.2), (readV M b).2)
def grownV (M : VM) (c : Int) : (Int × Int) × VM :=
  if (readV M 5).1.2 = 0 then
    (if (readV M 5).1.1 < 14 ∨ 2147483648 ≤ (readV M 5).1.1 ∨ (M.sz : Int) < (readV M 5).1.1 + 1 + sizeA c then ((0, 4), (readV M 5).2)
      else if (takeV (readV M 5).2 [(5, (readV M 5).1.1 + 1 + sizeA c), ((readV M 5).1.1, c + 8)]).1 = 0 then (((readV M 5).1.1 + 1, 0), (takeV (readV M 5).2 [(5, (readV M 5).1.1 + 1 + sizeA c), ((readV M 5).1.1, c + 8)]).2)
      else ((0, (takeV (readV M 5).2 [(5, (readV M 5).1.1 + 1 + sizeA c), ((readV M 5).1.1, c + 8)]).1), (takeV (readV M 5).2 [(5, (readV M 5).1.1 + 1 + sizeA c), ((readV M 5).1.1, c + 8)]).2))
  else ((0, (readV M 5).1.2), (readV M 5).2)
def allocV (M : VM) (n : Int) : (Int × Int) × VM :=
  if classA n = 0 then ((0, 3), M) else
  if (readV M (classA n)).1.2 = 0 then
    (if (readV M (classA n)).1.1 = 0 then grownV (readV M (classA n)).2 (classA n) else againV (readV M (classA n)).2 (classA n) (readV M (classA n)).1.1)
  else ((0, (readV M (classA n)).1.2), (readV M (classA n)).2)
def headA (w : Int) : Int × Bool := if 1 ≤ w ∧ w ≤ 4 then (w, false) else if 9 ≤ w ∧ w ≤ 12 then (w - 8, true) else (0, false)
def askV (M : VM) (b : Int) : (Int × Bool × Int) × VM :=
  if b ≤ 14 ∨ M.sz ≤ b then ((0, false, 2), M) else
  if (readV M (b - 1)).1.2 = 0 then
    (if (headA (readV M (b - 1)).1.1).1 = 0 then ((0, false, 2), (readV M (b - 1)).2) else (((headA (readV M (b - 1)).1.1).1, (headA (readV M (b - 1)).1.1).2, 0), (readV M (b - 1)).2))
  else ((0, false, (readV M (b - 1)).1.2), (readV M (b - 1)).2)
def freeA (M : VM) (b : Int) : Int × VM :=
  if (askV M b).1.2.2 = 0 then
    (if (askV M b).1.2.1 = true then
      (if (takeV (askV M b).2 [(b - 1, (askV M b).1.1)]).1 = 0 then (0, freeV (takeV (askV M b).2 [(b - 1, (askV M b).1.1)]).2 b) else takeV (askV M b).2 [(b - 1, (askV M b).1.1)])
    else (2, (askV M b).2))
  else ((askV M b).1.2.2, (askV M b).2)
def giveA (M : VM) (b : Int) : Int × VM :=
  if (askV M b).1.2.2 = 0 then
    (if (askV M b).1.2.1 = true then (2, (askV M b).2) else
      if (readV (askV M b).2 (askV M b).1.1).1.2 = 0 then takeV (readV (askV M b).2 (askV M b).1.1).2 [(b, (readV (askV M b).2 (askV M b).1.1).1.1), ((askV M b).1.1, b)]
      else ((readV (askV M b).2 (askV M b).1.1).1.2, (readV (askV M b).2 (askV M b).1.1).2))
  else ((askV M b).1.2.2, (askV M b).2)

theorem readV_sz {M : VM} {p : Int} : (readV M p).2.sz = M.sz := by
  unfold readV
  repeat' split
  all_goals rfl
theorem headA_b (w : Int) : 0 ≤ (headA w).1 ∧ (headA w).1 ≤ 4 := by
  unfold headA
  repeat' split
  all_goals dsimp only
  all_goals omega
theorem askV_b (M : VM) (b : Int) : 0 ≤ (askV M b).1.1 ∧ (askV M b).1.1 ≤ 4 ∧ ((askV M b).1.2.2 = 0 → 14 < b ∧ b < M.sz) := by
  unfold askV
  split
  · exact ⟨Int.le_refl 0, by show (0 : Int) ≤ 4; omega, fun h => by cases h⟩
  · split
    · split
      · exact ⟨Int.le_refl 0, by show (0 : Int) ≤ 4; omega, fun h => by cases h⟩
      · have := headA_b (readV M (b - 1)).1.1
        exact ⟨this.1, this.2, fun _ => by omega⟩
    · exact ⟨Int.le_refl 0, by show (0 : Int) ≤ 4; omega, fun _ => by omega⟩
theorem askV_ok {M : VM} {b : Int} (O : OkV M) : OkV (askV M b).2 := by
  unfold askV
  split
  · exact O
  · split
    · split <;> exact readV_ok O
    · exact readV_ok O
theorem askV_wd {M : VM} {b : Int} (O : WdV M) : WdV (askV M b).2 := by
  unfold askV
  split
  · exact O
  · split
    · split <;> exact O.read2
    · exact O.read2
theorem freeV_ok {M : VM} {b : Int} (O : OkV M) (hf : ∀ x ∈ M.lv, x.2.length + 1 < 100000) : OkV (freeV M b) := by
  refine ⟨O.lo, O.hi, freeL_ok O.lvs, O.ins, O.un, ?_⟩
  show ∀ x ∈ freeL M.lv b, x.2.length < 100000
  cases hl : M.lv with
  | nil => intro x hx; cases hx
  | cons y r =>
    rw [hl] at hf
    intro x hx
    rcases List.mem_cons.1 hx with rfl | hx
    · have := hf y (List.mem_cons_self ..); simpa using this
    · have := hf x (List.mem_cons_of_mem _ hx); omega

/-! ### the walks -/
theorem asize_ok {n : Nat} (hn : 1 ≤ n) {x : Int} : wp (callT tab rtab n (.fn 21 [] []) [.int .i64 x] h) fun v h' => v = .int .i64 (sizeA x) ∧ h' = h := by
  (refine ww_fn (g := W21) rfl (by omega) fun k hk => ?_; show wp (S21 (callT tab rtab k) _ _) _; unfold S21; try simp only [Int.ofNat_eq_natCast])
  repeat' (first | with_reducible refine ww_condT ?_ | with_reducible refine ww_condF ?_ | (with_reducible refine ww_wantTT ?_; try dsimp only) | (with_reducible refine ww_wantTF ?_; try dsimp only) | (with_reducible refine ww_wantFT ?_; try dsimp only) | (with_reducible refine ww_wantFF ?_; try dsimp only) | (with_reducible refine ww_wantU ?_; try dsimp only) | with_reducible refine ww_pickT ?_ | with_reducible refine ww_pickF ?_ | (with_reducible refine ww_joinS ?_; try dsimp only) | with_reducible refine ww_leave ?_ | with_reducible refine ww_notT ?_ | with_reducible refine ww_notF ?_ | with_reducible refine ww_addI (by omega) ?_ | with_reducible refine ww_subI (by omega) ?_ | with_reducible refine ww_addU (by omega) ?_ | with_reducible refine ww_subU (by omega) ?_ | with_reducible refine ww_min ?_ | with_reducible refine ww_max ?_ | with_reducible refine ww_lssC (fun hc => ?_) (fun hc => ?_) | with_reducible refine ww_leqC (fun hc => ?_) (fun hc => ?_) | with_reducible refine ww_gtrC (fun hc => ?_) (fun hc => ?_) | with_reducible refine ww_geqC (fun hc => ?_) (fun hc => ?_) | with_reducible refine ww_eqlC (fun hc => ?_) (fun hc => ?_) | with_reducible refine ww_neqC (fun hc => ?_) (fun hc => ?_) | with_reducible refine ww_condB (fun hc => ?_) (fun hc => ?_))
  · refine ww_ret ⟨?_, rfl⟩
    unfold sizeA; congr 1; repeat' split <;> omega
  · refine ww_ret ⟨?_, rfl⟩
    unfold sizeA; congr 1; repeat' split <;> omega
  · refine ww_shl (by omega) ?_
    refine ww_ret ⟨?_, rfl⟩
    rcases (show x = 1 ∨ x = 2 ∨ x = 3 ∨ x = 4 by omega) with rfl | rfl | rfl | rfl <;> rfl
theorem aclass_ok {n : Nat} (hn : 2 ≤ n) {x : Int} : wp (callT tab rtab n (.fn 173 [] []) [.int .i64 x] h) fun v h' => v = .int .i64 (classA x) ∧ h' = h := by
  (refine ww_fn (g := W173) rfl (by omega) fun k hk => ?_; show wp (S173 (callT tab rtab k) _ _) _; unfold S173; try simp only [Int.ofNat_eq_natCast])
  repeat' (first | with_reducible refine ww_condT ?_ | with_reducible refine ww_condF ?_ | (with_reducible refine ww_wantTT ?_; try dsimp only) | (with_reducible refine ww_wantTF ?_; try dsimp only) | (with_reducible refine ww_wantFT ?_; try dsimp only) | (with_reducible refine ww_wantFF ?_; try dsimp only) | (with_reducible refine ww_wantU ?_; try dsimp only) | with_reducible refine ww_pickT ?_ | with_reducible refine ww_pickF ?_ | (with_reducible refine ww_joinS ?_; try dsimp only) | with_reducible refine ww_leave ?_ | with_reducible refine ww_notT ?_ | with_reducible refine ww_notF ?_ | with_reducible refine ww_addI (by omega) ?_ | with_reducible refine ww_subI (by omega) ?_ | with_reducible refine ww_addU (by omega) ?_ | with_reducible refine ww_subU (by omega) ?_ | with_reducible refine ww_min ?_ | with_reducible refine ww_max ?_ | with_reducible refine ww_lssC (fun hc => ?_) (fun hc => ?_) | with_reducible refine ww_leqC (fun hc => ?_) (fun hc => ?_) | with_reducible refine ww_gtrC (fun hc => ?_) (fun hc => ?_) | with_reducible refine ww_geqC (fun hc => ?_) (fun hc => ?_) | with_reducible refine ww_eqlC (fun hc => ?_) (fun hc => ?_) | with_reducible refine ww_neqC (fun hc => ?_) (fun hc => ?_) | with_reducible refine ww_condB (fun hc => ?_) (fun hc => ?_))
  · refine ww_ret ⟨?_, rfl⟩
    unfold classA; congr 1; repeat' split <;> omega
  · refine ww_iter (fun m s g => ∃ i : Int, s = (.int .i64 i, .int .i64 x, ()) ∧ 1 ≤ i ∧ i ≤ 5 ∧ (m : Int) = 5 - i ∧ g = h ∧ (1 < i → 2 < x) ∧ (2 < i → 4 < x) ∧ (3 < i → 8 < x) ∧ (4 < i → 16 < x)) ?_ (m := 4) (by decide) ⟨1, rfl, by omega, by omega, by omega, rfl, by omega, by omega, by omega, by omega⟩
    rintro m ih s g hih ⟨i, rfl, h1, h2, h3, rfl, h4, h5, h6, h7⟩
    dsimp only
    repeat' (first | with_reducible refine ww_condT ?_ | with_reducible refine ww_condF ?_ | (with_reducible refine ww_wantTT ?_; try dsimp only) | (with_reducible refine ww_wantTF ?_; try dsimp only) | (with_reducible refine ww_wantFT ?_; try dsimp only) | (with_reducible refine ww_wantFF ?_; try dsimp only) | (with_reducible refine ww_wantU ?_; try dsimp only) | with_reducible refine ww_pickT ?_ | with_reducible refine ww_pickF ?_ | (with_reducible refine ww_joinS ?_; try dsimp only) | with_reducible refine ww_leave ?_ | with_reducible refine ww_notT ?_ | with_reducible refine ww_notF ?_ | with_reducible refine ww_addI (by omega) ?_ | with_reducible refine ww_subI (by omega) ?_ | with_reducible refine ww_addU (by omega) ?_ | with_reducible refine ww_subU (by omega) ?_ | with_reducible refine ww_min ?_ | with_reducible refine ww_max ?_ | with_reducible refine ww_lssC (fun hc => ?_) (fun hc => ?_) | with_reducible refine ww_leqC (fun hc => ?_) (fun hc => ?_) | with_reducible refine ww_gtrC (fun hc => ?_) (fun hc => ?_) | with_reducible refine ww_geqC (fun hc => ?_) (fun hc => ?_) | with_reducible refine ww_eqlC (fun hc => ?_) (fun hc => ?_) | with_reducible refine ww_neqC (fun hc => ?_) (fun hc => ?_) | with_reducible refine ww_condB (fun hc => ?_) (fun hc => ?_))
    · refine ww_call (asize_ok (by omega)) ?_
      rintro v g' ⟨rfl, rfl⟩
      repeat' (first | with_reducible refine ww_condT ?_ | with_reducible refine ww_condF ?_ | (with_reducible refine ww_wantTT ?_; try dsimp only) | (with_reducible refine ww_wantTF ?_; try dsimp only) | (with_reducible refine ww_wantFT ?_; try dsimp only) | (with_reducible refine ww_wantFF ?_; try dsimp only) | (with_reducible refine ww_wantU ?_; try dsimp only) | with_reducible refine ww_pickT ?_ | with_reducible refine ww_pickF ?_ | (with_reducible refine ww_joinS ?_; try dsimp only) | with_reducible refine ww_leave ?_ | with_reducible refine ww_notT ?_ | with_reducible refine ww_notF ?_ | with_reducible refine ww_addI (by omega) ?_ | with_reducible refine ww_subI (by omega) ?_ | with_reducible refine ww_addU (by omega) ?_ | with_reducible refine ww_subU (by omega) ?_ | with_reducible refine ww_min ?_ | with_reducible refine ww_max ?_ | with_reducible refine ww_lssC (fun hc => ?_) (fun hc => ?_) | with_reducible refine ww_leqC (fun hc => ?_) (fun hc => ?_) | with_reducible refine ww_gtrC (fun hc => ?_) (fun hc => ?_) | with_reducible refine ww_geqC (fun hc => ?_) (fun hc => ?_) | with_reducible refine ww_eqlC (fun hc => ?_) (fun hc => ?_) | with_reducible refine ww_neqC (fun hc => ?_) (fun hc => ?_) | with_reducible refine ww_condB (fun hc => ?_) (fun hc => ?_))
      · refine ww_ret ⟨?_, rfl⟩
        unfold sizeA at *; unfold classA; congr 1; repeat' split <;> omega
      · refine hih (m - 1) _ _ (by omega) ⟨i + 1, rfl, by omega, by omega, by omega, rfl, ?_, ?_, ?_, ?_⟩ <;> (unfold sizeA at *; repeat' split at * <;> omega)
    · refine ww_ret ⟨?_, rfl⟩
      unfold classA; congr 1; repeat' split <;> omega
theorem ahead_ok {n : Nat} (hn : 1 ≤ n) {c : Int} (hc : 0 ≤ c ∧ c ≤ 4) : wp (callT tab rtab n (.fn 33 [] []) [.int .i64 c] h) fun v h' => v = .int .i64 c ∧ h' = h := by
  (refine ww_fn (g := W33) rfl (by omega) fun k hk => ?_; show wp (S33 (callT tab rtab k) _ _) _; unfold S33; try simp only [Int.ofNat_eq_natCast])
  with_reducible (refine ww_addI (by omega) ?_)
  exact ww_ret ⟨by congr 1; omega, rfl⟩
theorem aheader_ok {n : Nat} (hn : 1 ≤ n) {w : Int} : wp (callT tab rtab n (.fn 32 [] []) [.int .u64 w] h) fun v h' => v = .tup [.int .i64 (headA w).1, .bool (headA w).2] ∧ h' = h := by
  (refine ww_fn (g := W32) rfl (by omega) fun k hk => ?_; show wp (S32 (callT tab rtab k) _ _) _; unfold S32; try simp only [Int.ofNat_eq_natCast])
  unfold headA
  by_cases h1 : 1 ≤ w ∧ w ≤ 4
  · rw [if_pos h1]
    with_reducible (refine ww_geqT (by omega) ?_; refine ww_joinS ?_; (try dsimp only); refine ww_wantTT ?_; (try dsimp only); refine ww_leqT (by omega) ?_; refine ww_pickT ?_; refine ww_condT ?_; refine ww_convII (by omega) ?_)
    exact ww_ret ⟨rfl, rfl⟩
  · rw [if_neg h1]
    by_cases h2 : 9 ≤ w ∧ w ≤ 12
    · rw [if_pos h2]
      with_reducible (refine ww_geqT (by omega) ?_; refine ww_joinS ?_; (try dsimp only); refine ww_wantTT ?_; (try dsimp only); refine ww_leqF (by omega) ?_; refine ww_pickT ?_; refine ww_condF ?_; refine ww_geqT (by omega) ?_; refine ww_joinS ?_; (try dsimp only); refine ww_wantTT ?_; (try dsimp only); refine ww_leqT (by omega) ?_; refine ww_pickT ?_; refine ww_condT ?_; refine ww_subU (by omega) ?_; refine ww_convII (by omega) ?_)
      exact ww_ret ⟨rfl, rfl⟩
    · rw [if_neg h2]
      repeat' (first | with_reducible refine ww_condT ?_ | with_reducible refine ww_condF ?_ | (with_reducible refine ww_wantTT ?_; try dsimp only) | (with_reducible refine ww_wantTF ?_; try dsimp only) | (with_reducible refine ww_wantFT ?_; try dsimp only) | (with_reducible refine ww_wantFF ?_; try dsimp only) | (with_reducible refine ww_wantU ?_; try dsimp only) | with_reducible refine ww_pickT ?_ | with_reducible refine ww_pickF ?_ | (with_reducible refine ww_joinS ?_; try dsimp only) | with_reducible refine ww_leave ?_ | with_reducible refine ww_notT ?_ | with_reducible refine ww_notF ?_ | with_reducible refine ww_addI (by omega) ?_ | with_reducible refine ww_subI (by omega) ?_ | with_reducible refine ww_addU (by omega) ?_ | with_reducible refine ww_subU (by omega) ?_ | with_reducible refine ww_min ?_ | with_reducible refine ww_max ?_ | with_reducible refine ww_eqlT (by omega) ?_ | with_reducible refine ww_eqlF (by omega) ?_ | with_reducible refine ww_neqT (by omega) ?_ | with_reducible refine ww_neqF (by omega) ?_ | with_reducible refine ww_lssT (by omega) ?_ | with_reducible refine ww_lssF (by omega) ?_ | with_reducible refine ww_leqT (by omega) ?_ | with_reducible refine ww_leqF (by omega) ?_ | with_reducible refine ww_gtrT (by omega) ?_ | with_reducible refine ww_gtrF (by omega) ?_ | with_reducible refine ww_geqT (by omega) ?_ | with_reducible refine ww_geqF (by omega) ?_ | with_reducible refine ww_lssC (fun hc => ?_) (fun hc => ?_) | with_reducible refine ww_leqC (fun hc => ?_) (fun hc => ?_) | with_reducible refine ww_gtrC (fun hc => ?_) (fun hc => ?_) | with_reducible refine ww_geqC (fun hc => ?_) (fun hc => ?_) | with_reducible refine ww_eqlC (fun hc => ?_) (fun hc => ?_) | with_reducible refine ww_neqC (fun hc => ?_) (fun hc => ?_) | with_reducible refine ww_condB (fun hc => ?_) (fun hc => ?_))
      all_goals exact ww_ret ⟨rfl, rfl⟩

theorem aasked_ok {n : Nat} (hn : 10 ≤ n) {v : Nat} {M : VM} {b : Int} (H : HS g h (ViewC v M :: R)) (O : OkV M) :
    wp (callT tab rtab n (.fn 55 [] []) [.ptr v 0, .int .i64 b] h) fun r h' => r = .tup [.int .i64 (askV M b).1.1, .bool (askV M b).1.2.1, .int .i64 (askV M b).1.2.2] ∧ HS g h' (ViewC v (askV M b).2 :: R) := by
  (refine ww_fn (g := W55) rfl (by omega) fun k hk => ?_; show wp (S55 (callT tab rtab k) _ _ _) _; unfold S55; try simp only [Int.ofNat_eq_natCast])
  unfold askV
  by_cases h1 : b ≤ 14
  · rw [if_pos (.inl h1)]
    with_reducible (refine ww_leqT (by omega) ?_; refine ww_joinS ?_; (try dsimp only); refine ww_wantTF ?_; (try dsimp only); refine ww_pickT ?_; refine ww_condT ?_)
    exact ww_ret ⟨rfl, H⟩
  · with_reducible (refine ww_leqF (by omega) ?_; refine ww_joinS ?_; (try dsimp only); refine ww_wantFF ?_; (try dsimp only))
    refine ww_call (vsize_ok (by omega) H) ?_
    rintro _ _ ⟨rfl, rfl⟩
    by_cases h2 : (M.sz : Int) ≤ b
    · rw [if_pos (.inr h2)]
      with_reducible (refine ww_geqT (by omega) ?_; refine ww_pickF ?_; refine ww_condT ?_)
      exact ww_ret ⟨rfl, H⟩
    · rw [if_neg (by omega)]
      with_reducible (refine ww_geqF (by omega) ?_; refine ww_pickF ?_; refine ww_condF ?_)
      have := O.hi
      refine ww_subI (by omega) (ww_call (vread_ok (by omega) H O) ?_)
      rintro _ h3 ⟨rfl, H3⟩
      simp only [show ((1 : Nat) : Int) = 1 from rfl] at H3 ⊢
      with_reducible (refine ww_extract (by with_unfolding_all exact rfl) ?_; refine ww_extract (by with_unfolding_all exact rfl) ?_)
      by_cases h4 : (readV M (b - 1)).1.2 = 0
      · rw [if_pos h4]
        with_reducible (refine ww_neqF (by omega) ?_; refine ww_condF ?_)
        refine ww_call (aheader_ok (by omega)) ?_
        rintro _ _ ⟨rfl, rfl⟩
        with_reducible (refine ww_extract (by with_unfolding_all exact rfl) ?_; refine ww_extract (by with_unfolding_all exact rfl) ?_)
        by_cases h5 : (headA (readV M (b - 1)).1.1).1 = 0
        · rw [if_pos h5]
          with_reducible (refine ww_eqlT (by omega) ?_; refine ww_condT ?_)
          exact ww_ret ⟨rfl, H3⟩
        · rw [if_neg h5]
          with_reducible (refine ww_eqlF (by omega) ?_; refine ww_condF ?_)
          exact ww_ret ⟨rfl, H3⟩
      · rw [if_neg h4]
        with_reducible (refine ww_neqT (by omega) ?_; refine ww_condT ?_)
        exact ww_ret ⟨rfl, H3⟩

theorem afree_ok {n : Nat} (hn : 11 ≤ n) {v : Nat} {M : VM} {b : Int} (H : HS g h (ViewC v M :: R)) (O : OkV M) :
    wp (callT tab rtab n (.fn 123 [] []) [.ptr v 0, .int .i64 b] h) fun r h' => r = .int .i64 (freeA M b).1 ∧ HS g h' (ViewC v (freeA M b).2 :: R) := by
  (refine ww_fn (g := W123) rfl (by omega) fun k hk => ?_; show wp (S123 (callT tab rtab k) _ _ _) _; unfold S123; try simp only [Int.ofNat_eq_natCast])
  refine ww_call (aasked_ok (by omega) H O) ?_
  rintro _ h1 ⟨rfl, H1⟩
  have hb := askV_b M b
  have hO := askV_ok (b := b) O
  have := O.hi
  unfold freeA
  with_reducible (refine ww_extract (by with_unfolding_all exact rfl) ?_; refine ww_extract (by with_unfolding_all exact rfl) ?_; refine ww_extract (by with_unfolding_all exact rfl) ?_; refine ww_joinS ?_; (try dsimp only))
  by_cases h2 : (askV M b).1.2.2 = 0
  · rw [if_pos h2]
    with_reducible (refine ww_eqlT (by omega) ?_; refine ww_joinS ?_; (try dsimp only); refine ww_wantTT ?_; (try dsimp only))
    cases h3 : (askV M b).1.2.1
    · rw [if_neg (by simp)]
      with_reducible (refine ww_notF ?_; refine ww_pickT ?_; refine ww_condT ?_; refine ww_joinS ?_; (try dsimp only); refine ww_eqlF (by omega) ?_; refine ww_condF ?_; refine ww_joinS ?_; (try dsimp only); refine ww_eqlF (by omega) ?_; refine ww_condF ?_; refine ww_leave ?_)
      exact ww_ret ⟨rfl, H1⟩
    · rw [if_pos rfl]
      with_reducible (refine ww_notT ?_; refine ww_pickT ?_; refine ww_condF ?_; refine ww_joinS ?_; (try dsimp only); refine ww_eqlT (by omega) ?_; refine ww_condT ?_; refine ww_subI (by omega) ?_; refine ww_convIU (by omega) ?_; refine ww_build (by with_unfolding_all exact rfl) ?_)
      simp only [show ((1 : Nat) : Int) = 1 from rfl]
      refine (ww_buildSH (n := 1) (l := [.int .i64 (b - 1), .int .u64 (askV M b).1.1]) (sz := 2) H1 rfl rfl rfl rfl fun v3 h3 H3 => ?_)
      refine ww_call (vtake_ok (cs := [(b - 1, (askV M b).1.1)]) (by omega) (H3.sel (.there .here)) hO (.own .here) (by simp)) ?_
      rintro _ h4 ⟨rfl, H4⟩
      by_cases h5 : (takeV (askV M b).2 [(b - 1, (askV M b).1.1)]).1 = 0
      · rw [if_pos h5]
        with_reducible (refine ww_joinS ?_; (try dsimp only); refine ww_eqlT (by omega) ?_; refine ww_condT ?_)
        refine ww_call (vfree_ok (by omega) H4 (takeV_ok hO)) ?_
        intro _ h6 H6
        with_reducible (refine ww_leave ?_)
        exact ww_ret ⟨by rw [h5], H6.sub (.cons .here (.drop (.refl)))⟩
      · rw [if_neg h5]
        with_reducible (refine ww_joinS ?_; (try dsimp only); refine ww_eqlF (by omega) ?_; refine ww_condF ?_; refine ww_leave ?_)
        exact ww_ret ⟨rfl, H4.sub (.cons .here (.drop (.refl)))⟩
  · rw [if_neg h2]
    with_reducible (refine ww_eqlF (by omega) ?_; refine ww_joinS ?_; (try dsimp only); refine ww_wantFT ?_; (try dsimp only); refine ww_pickF ?_; refine ww_condF ?_; refine ww_joinS ?_; (try dsimp only); refine ww_eqlF (by omega) ?_; refine ww_condF ?_; refine ww_joinS ?_; (try dsimp only); refine ww_eqlF (by omega) ?_; refine ww_condF ?_; refine ww_leave ?_)
    exact ww_ret ⟨rfl, H1⟩

theorem agive_ok {n : Nat} (hn : 11 ≤ n) {v : Nat} {M : VM} {b : Int} (H : HS g h (ViewC v M :: R)) (O : OkV M) :
    wp (callT tab rtab n (.fn 41 [] []) [.ptr v 0, .int .i64 b] h) fun r h' => r = .int .i64 (giveA M b).1 ∧ HS g h' (ViewC v (giveA M b).2 :: R) := by
  (refine ww_fn (g := W41) rfl (by omega) fun k hk => ?_; show wp (S41 (callT tab rtab k) _ _ _) _; unfold S41; try simp only [Int.ofNat_eq_natCast])
  refine ww_call (aasked_ok (by omega) H O) ?_
  rintro _ h1 ⟨rfl, H1⟩
  have hb := askV_b M b
  have hO := askV_ok (b := b) O
  have := O.hi
  unfold giveA
  with_reducible (refine ww_extract (by with_unfolding_all exact rfl) ?_; refine ww_extract (by with_unfolding_all exact rfl) ?_; refine ww_extract (by with_unfolding_all exact rfl) ?_; refine ww_joinS ?_; (try dsimp only))
  by_cases h2 : (askV M b).1.2.2 = 0
  · rw [if_pos h2]
    with_reducible (refine ww_eqlT (by omega) ?_; refine ww_joinS ?_; (try dsimp only); refine ww_wantTT ?_; (try dsimp only); refine ww_pickT ?_)
    cases h3 : (askV M b).1.2.1
    · rw [if_neg (by simp)]
      with_reducible (refine ww_condF ?_; refine ww_neqF (by omega) ?_; refine ww_condF ?_)
      refine ww_call (ahead_ok (by omega) (by omega)) ?_
      rintro _ _ ⟨rfl, rfl⟩
      refine ww_call (vread_ok (by omega) H1 hO) ?_
      rintro _ h4 ⟨rfl, H4⟩
      with_reducible (refine ww_extract (by with_unfolding_all exact rfl) ?_; refine ww_extract (by with_unfolding_all exact rfl) ?_)
      by_cases h5 : (readV (askV M b).2 (askV M b).1.1).1.2 = 0
      · rw [if_pos h5]
        with_reducible (refine ww_neqF (by omega) ?_; refine ww_condF ?_; refine ww_build (by with_unfolding_all exact rfl) ?_)
        refine ww_call (ahead_ok (by omega) (by omega)) ?_
        rintro _ _ ⟨rfl, rfl⟩
        refine ww_convIU (by omega) ?_
        refine ww_build rfl (ww_buildSH (n := 2) (l := [.int .i64 b, .int .u64 (readV (askV M b).2 (askV M b).1.1).1.1, .int .i64 (askV M b).1.1, .int .u64 b]) (sz := 2) H4 rfl rfl rfl rfl fun v5 h5 H5 => ?_)
        refine ww_call (vtake_ok (cs := [(b, (readV (askV M b).2 (askV M b).1.1).1.1), ((askV M b).1.1, b)]) (by omega) (H5.sel (.there .here)) (readV_ok hO) (.own .here) (by simp)) ?_
        rintro _ h6 ⟨rfl, H6⟩
        with_reducible (refine ww_leave ?_)
        exact ww_ret ⟨rfl, H6.sub (.cons .here (.drop (.refl)))⟩
      · rw [if_neg h5]
        with_reducible (refine ww_neqT (by omega) ?_; refine ww_condT ?_; refine ww_leave ?_)
        exact ww_ret ⟨rfl, H4⟩
    · rw [if_pos rfl]
      with_reducible (refine ww_condT ?_; refine ww_neqT (by omega) ?_; refine ww_condT ?_; refine ww_leave ?_)
      exact ww_ret ⟨rfl, H1⟩
  · rw [if_neg h2]
    with_reducible (refine ww_eqlF (by omega) ?_; refine ww_joinS ?_; (try dsimp only); refine ww_wantFT ?_; (try dsimp only); refine ww_pickF ?_; refine ww_condF ?_; refine ww_neqT (by omega) ?_; refine ww_condT ?_; refine ww_leave ?_)
    exact ww_ret ⟨rfl, H1⟩

theorem aagain_ok {n : Nat} (hn : 10 ≤ n) {v : Nat} {M : VM} {c b : Int} (H : HS g h (ViewC v M :: R)) (O : OkV M) (hc : 1 ≤ c ∧ c ≤ 4) (hb : 0 ≤ b) :
    wp (callT tab rtab n (.fn 174 [] []) [.ptr v 0, .int .i64 c, .int .u64 b] h) fun r h' => r = .tup [.int .i64 (againV M c b).1.1, .int .i64 (againV M c b).1.2] ∧ HS g h' (ViewC v (againV M c b).2 :: R) := by
  (refine ww_fn (g := W174) rfl (by omega) fun k hk => ?_; show wp (S174 (callT tab rtab k) _ _ _ _) _; unfold S174; try simp only [Int.ofNat_eq_natCast])
  unfold againV
  by_cases h1 : 2147483648 ≤ b
  · rw [if_pos h1]
    with_reducible (refine ww_geqT (by omega) ?_; refine ww_condT ?_)
    exact ww_ret ⟨rfl, H⟩
  · rw [if_neg h1]
    with_reducible (refine ww_geqF (by omega) ?_; refine ww_condF ?_; refine ww_convII (by omega) ?_)
    refine ww_call (vread_ok (by omega) H O) ?_
    rintro _ h3 ⟨rfl, H3⟩
    with_reducible (refine ww_extract (by with_unfolding_all exact rfl) ?_; refine ww_extract (by with_unfolding_all exact rfl) ?_; refine ww_joinS ?_; (try dsimp only))
    by_cases h4 : (readV M b).1.2 = 0
    · rw [if_pos h4]
      with_reducible (refine ww_eqlT (by omega) ?_; refine ww_condT ?_)
      refine ww_call (ahead_ok (by omega) (by omega)) ?_
      rintro _ _ ⟨rfl, rfl⟩
      refine ww_build rfl (ww_subI (by omega) (ww_addI (by omega) (ww_convIU (by omega) (ww_build rfl ?_))))
      refine ww_buildSH (n := 2) (l := [.int .i64 c, .int .u64 (readV M b).1.1, .int .i64 (b - 1), .int .u64 (c + 8)]) (sz := 2) H3 rfl rfl rfl rfl fun v5 h5 H5 => ?_
      refine ww_call (vtake_ok (cs := [(c, (readV M b).1.1), (b - 1, c + 8)]) (by omega) (H5.sel (.there .here)) (readV_ok O) (.own .here) (by simp)) ?_
      rintro _ h6 ⟨rfl, H6⟩
      by_cases h7 : (takeV (readV M b).2 [(c, (readV M b).1.1), (b - 1, c + 8)]).1 = 0
      · rw [if_pos h7]
        with_reducible (refine ww_neqF (by omega) ?_; refine ww_condF ?_; refine ww_leave ?_)
        exact ww_ret ⟨rfl, H6.sub (.cons .here (.drop (.refl)))⟩
      · rw [if_neg h7]
        with_reducible (refine ww_neqT (by omega) ?_; refine ww_condT ?_; refine ww_leave ?_)
        exact ww_ret ⟨rfl, H6.sub (.cons .here (.drop (.refl)))⟩
    · rw [if_neg h4]
      with_reducible (refine ww_eqlF (by omega) ?_; refine ww_condF ?_; refine ww_neqT (by omega) ?_; refine ww_condT ?_; refine ww_leave ?_)
      exact ww_ret ⟨rfl, H3⟩

theorem agrown_ok {n : Nat} (hn : 10 ≤ n) {v : Nat} {M : VM} {c : Int} (H : HS g h (ViewC v M :: R)) (O : OkV M) (W : WdV M) (hc : 1 ≤ c ∧ c ≤ 4) :
    wp (callT tab rtab n (.fn 175 [] []) [.ptr v 0, .int .i64 c] h) fun r h' => r = .tup [.int .i64 (grownV M c).1.1, .int .i64 (grownV M c).1.2] ∧ HS g h' (ViewC v (grownV M c).2 :: R) := by
  (refine ww_fn (g := W175) rfl (by omega) fun k hk => ?_; show wp (S175 (callT tab rtab k) _ _ _) _; unfold S175; try simp only [Int.ofNat_eq_natCast])
  unfold grownV
  refine ww_call (vread_ok (by omega) H O) ?_
  rintro _ h3 ⟨rfl, H3⟩
  have hw := W.read (p := 5)
  simp only [show ((5 : Nat) : Int) = 5 from rfl] at H3 ⊢
  have hs := sizeA_b c
  have hO := O.hi
  with_reducible (refine ww_extract (by with_unfolding_all exact rfl) ?_; refine ww_extract (by with_unfolding_all exact rfl) ?_)
  by_cases h4 : (readV M 5).1.2 = 0
  · rw [if_pos h4]
    with_reducible (refine ww_neqF (by omega) ?_; refine ww_condF ?_)
    have hsz : (readV M 5).2.sz = M.sz := readV_sz
    by_cases h5 : (readV M 5).1.1 < 14 ∨ 2147483648 ≤ (readV M 5).1.1 ∨ (M.sz : Int) < (readV M 5).1.1 + 1 + sizeA c
    · rw [if_pos h5]
      by_cases h6 : (readV M 5).1.1 < 14
      · with_reducible (refine ww_lssT (by omega) ?_; refine ww_joinS ?_; (try dsimp only); refine ww_wantTF ?_; (try dsimp only); refine ww_pickT ?_; refine ww_joinS ?_; (try dsimp only); refine ww_wantTF ?_; (try dsimp only); refine ww_pickT ?_; refine ww_condT ?_)
        exact ww_ret ⟨rfl, H3⟩
      · by_cases h7 : 2147483648 ≤ (readV M 5).1.1
        · with_reducible (refine ww_lssF (by omega) ?_; refine ww_joinS ?_; (try dsimp only); refine ww_wantFF ?_; (try dsimp only); refine ww_geqT (by omega) ?_; refine ww_pickF ?_; refine ww_joinS ?_; (try dsimp only); refine ww_wantTF ?_; (try dsimp only); refine ww_pickT ?_; refine ww_condT ?_)
          exact ww_ret ⟨rfl, H3⟩
        · with_reducible (refine ww_lssF (by omega) ?_; refine ww_joinS ?_; (try dsimp only); refine ww_wantFF ?_; (try dsimp only); refine ww_geqF (by omega) ?_; refine ww_pickF ?_; refine ww_joinS ?_; (try dsimp only); refine ww_wantFF ?_; (try dsimp only); refine ww_convII (by omega) ?_; refine ww_addI (by omega) ?_)
          refine ww_call (asize_ok (by omega)) ?_
          rintro _ _ ⟨rfl, rfl⟩
          with_reducible (refine ww_addI (by omega) ?_)
          refine ww_call (vsize_ok (by omega) H3) ?_
          rintro _ _ ⟨rfl, rfl⟩
          rw [hsz]
          with_reducible (refine ww_gtrT (by omega) ?_; refine ww_pickF ?_; refine ww_condT ?_)
          exact ww_ret ⟨rfl, H3⟩
    · rw [if_neg h5]
      with_reducible (refine ww_lssF (by omega) ?_; refine ww_joinS ?_; (try dsimp only); refine ww_wantFF ?_; (try dsimp only); refine ww_geqF (by omega) ?_; refine ww_pickF ?_; refine ww_joinS ?_; (try dsimp only); refine ww_wantFF ?_; (try dsimp only); refine ww_convII (by omega) ?_; refine ww_addI (by omega) ?_)
      refine ww_call (asize_ok (by omega)) ?_
      rintro _ _ ⟨rfl, rfl⟩
      with_reducible (refine ww_addI (by omega) ?_)
      refine ww_call (vsize_ok (by omega) H3) ?_
      rintro _ _ ⟨rfl, rfl⟩
      rw [hsz]
      with_reducible (refine ww_gtrF (by omega) ?_; refine ww_pickF ?_; refine ww_condF ?_; refine ww_convII (by omega) ?_; refine ww_addI (by omega) ?_)
      refine ww_call (asize_ok (by omega)) ?_
      rintro _ _ ⟨rfl, rfl⟩
      refine ww_addI (by omega) (ww_convIU (by omega) (ww_build rfl (ww_addI (by omega) (ww_convIU (by omega) (ww_build rfl ?_)))))
      refine ww_buildSH (n := 2) (l := [.int .i64 5, .int .u64 ((readV M 5).1.1 + 1 + sizeA c), .int .i64 (readV M 5).1.1, .int .u64 (c + 8)]) (sz := 2) H3 rfl rfl rfl rfl fun v5 h5 H5 => ?_
      refine ww_call (vtake_ok (cs := [(5, (readV M 5).1.1 + 1 + sizeA c), ((readV M 5).1.1, c + 8)]) (by omega) (H5.sel (.there .here)) (readV_ok O) (.own .here) (by simp)) ?_
      rintro _ h6 ⟨rfl, H6⟩
      by_cases h7 : (takeV (readV M 5).2 [(5, (readV M 5).1.1 + 1 + sizeA c), ((readV M 5).1.1, c + 8)]).1 = 0
      · rw [if_pos h7]
        with_reducible (refine ww_neqF (by omega) ?_; refine ww_condF ?_; refine ww_addI (by omega) ?_)
        exact ww_ret ⟨rfl, H6.sub (.cons .here (.drop (.refl)))⟩
      · rw [if_neg h7]
        with_reducible (refine ww_neqT (by omega) ?_; refine ww_condT ?_)
        exact ww_ret ⟨rfl, H6.sub (.cons .here (.drop (.refl)))⟩
  · rw [if_neg h4]
    with_reducible (refine ww_neqT (by omega) ?_; refine ww_condT ?_)
    exact ww_ret ⟨rfl, H3⟩

theorem aalloc_ok {n : Nat} (hn : 11 ≤ n) {v : Nat} {M : VM} {x : Int} (H : HS g h (ViewC v M :: R)) (O : OkV M) (W : WdV M) :
    wp (callT tab rtab n (.fn 122 [] []) [.ptr v 0, .int .i64 x] h) fun r h' => r = .tup [.int .i64 (allocV M x).1.1, .int .i64 (allocV M x).1.2] ∧ HS g h' (ViewC v (allocV M x).2 :: R) := by
  (refine ww_fn (g := W122) rfl (by omega) fun k hk => ?_; show wp (S122 (callT tab rtab k) _ _ _) _; unfold S122; try simp only [Int.ofNat_eq_natCast])
  refine ww_call (aclass_ok (by omega)) ?_
  rintro _ _ ⟨rfl, rfl⟩
  have hc := classA_b x
  unfold allocV
  by_cases h1 : classA x = 0
  · rw [if_pos h1]
    with_reducible (refine ww_eqlT (by omega) ?_; refine ww_condT ?_)
    exact ww_ret ⟨rfl, H⟩
  · rw [if_neg h1]
    with_reducible (refine ww_eqlF (by omega) ?_; refine ww_condF ?_)
    refine ww_call (ahead_ok (by omega) hc) ?_
    rintro _ _ ⟨rfl, rfl⟩
    refine ww_call (vread_ok (by omega) H O) ?_
    rintro _ h3 ⟨rfl, H3⟩
    have hw := W.read (p := classA x)
    with_reducible (refine ww_extract (by with_unfolding_all exact rfl) ?_; refine ww_extract (by with_unfolding_all exact rfl) ?_)
    by_cases h4 : (readV M (classA x)).1.2 = 0
    · rw [if_pos h4]
      by_cases h5 : (readV M (classA x)).1.1 = 0
      · rw [if_pos h5]
        with_reducible (refine ww_neqF (by omega) ?_; refine ww_condF ?_; refine ww_neqF (by omega) ?_; refine ww_condF ?_)
        refine ww_call (agrown_ok (by omega) H3 (readV_ok O) W.read2 (by omega)) ?_
        rintro _ h6 ⟨rfl, H6⟩
        with_reducible (refine ww_extract (by with_unfolding_all exact rfl) ?_; refine ww_extract (by with_unfolding_all exact rfl) ?_)
        exact ww_ret ⟨rfl, H6⟩
      · rw [if_neg h5]
        with_reducible (refine ww_neqF (by omega) ?_; refine ww_condF ?_; refine ww_neqT (by omega) ?_; refine ww_condT ?_)
        refine ww_call (aagain_ok (by omega) H3 (readV_ok O) (by omega) hw.1) ?_
        rintro _ h6 ⟨rfl, H6⟩
        with_reducible (refine ww_extract (by with_unfolding_all exact rfl) ?_; refine ww_extract (by with_unfolding_all exact rfl) ?_)
        exact ww_ret ⟨rfl, H6⟩
    · rw [if_neg h4]
      with_reducible (refine ww_neqT (by omega) ?_; refine ww_condT ?_)
      exact ww_ret ⟨rfl, H3⟩

def freshA (n : Int) : List Int := (List.replicate (szZ n) (0 : Int)).set 5 14
theorem freshA_len (n : Int) : (freshA n).length = szZ n := by simp [freshA]
theorem afresh_ok {n : Nat} (hn : 1 ≤ n) {x : Int} (H : HS g h R) : wp (callT tab rtab n (.fn 6 [] []) [.int .i64 x] h) fun v h' => ∃ e, HS g h' (SliC e 1 (szZ x) v ((freshA x).map (.int .u64)) :: R) := by
  (refine ww_fn (g := W6) rfl (by omega) fun k hk => ?_; show wp (S6 (callT tab rtab k) _ _) _; unfold S6; try simp only [Int.ofNat_eq_natCast])
  have hb := szZ_b x
  refine ww_min (ww_max ?_)
  rw [show max ((32 : Nat) : Int) (min x ((256 : Nat) : Int)) = ((szZ x : Nat) : Int) by unfold szZ; omega]
  refine ww_makeN H (by omega) fun v h2 H2 => ?_
  refine ww_slI (i := 5) H2 (by omega) ⟨rfl, rfl⟩ fun h3 H3 => ?_
  unfold freshA
  rw [List.map_set, List.map_replicate]
  exact ww_ret ⟨_, H3⟩
end Go.Proofs.YtkfpddegilellaaGreatDoor
