/- Lemmas for 'quietus/quietuslaw21.InterpWays': Blocks of words: by the program; Blocks of words: by the documents own text; Numbers brought into bounds; Are two lists of numbers the same?; Are two lists of ... No condition. -/
import Derived.Test.YtdlfmpmpmkffjaaGreatDoorInterpWaysM1
import Derived.Test.YtdlfmpmpmkffjaaGreatDoorInterpWaysAe7
import Derived.Test.YtdlfmpmpmkffjaaGreatDoorInterpWaysT
import Derived.KernelRfl
import Derived.Lib.ItoaLen
namespace Go.Proofs.YtdlfmpmpmkffjaaGreatDoor
open Go Go.Ae
set_option maxRecDepth 100000
variable {g h : AH} {L R : List SP}
def x7 (x : Int) : Int := if x = 1 then 2 else if x = 2 then 4 else if x = 3 then 8 else if x = 4 then 16 else 0
def zh (x : Int) : Int := if x < 1 then 0 else if x ≤ 2 then 1 else if x ≤ 4 then 2 else if x ≤ 8 then 3 else if x ≤ 16 then 4 else 0
theorem GM (x : Int) : 0 ≤ x7 x ∧ x7 x ≤ 16 := by unfold x7; repeat' split <;> omega
theorem KR (x : Int) : 0 ≤ zh x ∧ zh x ≤ 4 := by unfold zh; repeat' split <;> omega
structure WdV (M : VM) : Prop where
  k : ∀ c ∈ M.K, 0 ≤ c.2 ∧ c.2 < 18446744073709551616
  l : ∀ x ∈ M.lv, ∀ c ∈ x.1, 0 ≤ c.2 ∧ c.2 < 18446744073709551616
theorem YN {P : Int → Prop} {p x : Int} : ∀ {l : List Cl}, (∀ c ∈ l, P c.2) → jf p l = some x → P x := by
 intro l
 induction l with
 | nil => intro _ h; cases h
 | cons c l ih =>
  intro h e
  unfold jf at e
  split at e
  ·cases e; exact h c (List.mem_cons_self ..)
  ·exact ih (fun d hd => h d (List.mem_cons_of_mem _ hd)) e
theorem Oj {P : Int → Prop} {p x : Int} : ∀ {lv : List LvM}, (∀ y ∈ lv, ∀ c ∈ y.1, P c.2) → gU p lv = some x → P x := by
 intro lv
 induction lv with
 | nil => intro _ h; cases h
 | cons y r ih =>
  intro h e
  unfold gU at e
  split at e
  ·rename_i v hv
   cases e; exact YN (h y (List.mem_cons_self ..)) hv
  ·exact ih (fun z hz => h z (List.mem_cons_of_mem _ hz)) e
theorem WdV.read {M : VM} {p : Int} (W : WdV M) : 0 ≤ (qf M p).1.1 ∧ (qf M p).1.1 < 18446744073709551616 := by
 unfold qf
 split
 ·split
  ·rename_i x hx
   exact Oj (P := fun x => 0 ≤ x ∧ x < 18446744073709551616) W.l hx
  ·split
   ·rename_i x hx
    exact YN (P := fun x => 0 ≤ x ∧ x < 18446744073709551616) W.k hx
   ·show (0 : Int) ≤ 0 ∧ (0 : Int) < 18446744073709551616; omega
 ·show (0 : Int) ≤ 0 ∧ (0 : Int) < 18446744073709551616; omega
theorem WdV.read2 {M : VM} {p : Int} (W : WdV M) : WdV (qf M p).2 := by
 unfold qf
 repeat' split
 all_goals exact ⟨W.k, W.l⟩
def WdC (cs : List Cl) : Prop := ∀ c ∈ cs, 0 ≤ c.2 ∧ c.2 < 18446744073709551616
theorem WdC.put {l : List Cl} {p v : Int} (h : WdC l) (hv : 0 ≤ v ∧ v < 18446744073709551616) : WdC (zb p v l) := by
 induction l with
 | nil => intro c hc; simp [zb] at hc; subst hc; exact hv
 | cons a l ih =>
  unfold zb
  split
  ·intro c hc
   rcases List.mem_cons.1 hc with rfl | hc
   ·exact hv
   ·exact h c (List.mem_cons_of_mem _ hc)
  ·intro c hc
   rcases List.mem_cons.1 hc with rfl | hc
   ·exact h _ (List.mem_cons_self ..)
   ·exact ih (fun c hc => h c (List.mem_cons_of_mem _ hc)) c hc
theorem WdC.puts : ∀ {cs l : List Cl}, WdC l → WdC cs → WdC (je l cs) := by
 intro cs
 induction cs with
 | nil => intro l h _; exact h
 | cons c cs ih => intro l h hc; exact ih (h.put (hc c (List.mem_cons_self ..))) fun d hd => hc d (List.mem_cons_of_mem _ hd)
theorem qQm {most : Nat} {was : List LvM} (hw : ∀ x ∈ was, WdC x.1) : ∀ {cs : List Cl} {lv : List LvM}, WdC cs → (∀ x ∈ lv, WdC x.1) → ∀ x ∈ (xB most was lv cs).2, WdC x.1 := by
 intro cs
 induction cs with
 | nil => intro lv _ h; exact h
 | cons c cs ih =>
  intro lv hc h
  rw [xD]
  split
  ·refine ih (fun d hd => hc d (List.mem_cons_of_mem _ hd)) ?_
   cases lv with
   | nil => exact h
   | cons y r =>
    unfold xH
    dsimp only
    split
    ·exact h
    ·split
     ·exact h
     ·intro x hx
      rcases List.mem_cons.1 hx with rfl | hx
      ·exact (show WdC y.1 from h y (List.mem_cons_self ..)).put (hc c (List.mem_cons_self ..))
      ·exact h x (List.mem_cons_of_mem _ hx)
  ·exact hw
theorem WdV.take {M : VM} {cs : List Cl} (W : WdV M) (hc : WdC cs) : WdV (ji M cs).2 := by
 unfold ji
 split
 ·exact ⟨W.k, qQm W.l hc W.l⟩
 ·exact W
def z7 (M : VM) (c b : Int) : (Int × Int) × VM :=
 if 2147483648 ≤ b then ((0, 2), M) else
 if (qf M b).1.2 = 0 then
  (if (ji (qf M b).2 [(c, (qf M b).1.1), (b - 1, c + 8)]).1 = 0 then ((b, 0), (ji (qf M b).2 [(c, (qf M b).1.1), (b - 1, c + 8)]).2)
   else ((0, (ji (qf M b).2 [(c, (qf M b).1.1), (b - 1, c + 8)]).1), (ji (qf M b).2 [(c, (qf M b).1.1), (b - 1, c + 8)]).2))
 else ((0, (qf M b).1.2), (qf M b).2)
def xQ (M : VM) (c : Int) : (Int × Int) × VM :=
 if (qf M 5).1.2 = 0 then
  (if (qf M 5).1.1 < 14 ∨ 2147483648 ≤ (qf M 5).1.1 ∨ (M.sz : Int) < (qf M 5).1.1 + 1 + x7 c then ((0, 4), (qf M 5).2)
   else if (ji (qf M 5).2 [(5, (qf M 5).1.1 + 1 + x7 c), ((qf M 5).1.1, c + 8)]).1 = 0 then (((qf M 5).1.1 + 1, 0), (ji (qf M 5).2 [(5, (qf M 5).1.1 + 1 + x7 c), ((qf M 5).1.1, c + 8)]).2)
   else ((0, (ji (qf M 5).2 [(5, (qf M 5).1.1 + 1 + x7 c), ((qf M 5).1.1, c + 8)]).1), (ji (qf M 5).2 [(5, (qf M 5).1.1 + 1 + x7 c), ((qf M 5).1.1, c + 8)]).2))
 else ((0, (qf M 5).1.2), (qf M 5).2)
def zz (M : VM) (n : Int) : (Int × Int) × VM :=
 if zh n = 0 then ((0, 3), M) else
 if (qf M (zh n)).1.2 = 0 then
  (if (qf M (zh n)).1.1 = 0 then xQ (qf M (zh n)).2 (zh n) else z7 (qf M (zh n)).2 (zh n) (qf M (zh n)).1.1)
 else ((0, (qf M (zh n)).1.2), (qf M (zh n)).2)
def kX (w : Int) : Int × Bool := if 1 ≤ w ∧ w ≤ 4 then (w, false) else if 9 ≤ w ∧ w ≤ 12 then (w - 8, true) else (0, false)
def zU (M : VM) (b : Int) : (Int × Bool × Int) × VM :=
 if b ≤ 14 ∨ M.sz ≤ b then ((0, false, 2), M) else
 if (qf M (b - 1)).1.2 = 0 then
  (if (kX (qf M (b - 1)).1.1).1 = 0 then ((0, false, 2), (qf M (b - 1)).2) else (((kX (qf M (b - 1)).1.1).1, (kX (qf M (b - 1)).1.1).2, 0), (qf M (b - 1)).2))
 else ((0, false, (qf M (b - 1)).1.2), (qf M (b - 1)).2)
def freeA (M : VM) (b : Int) : Int × VM :=
 if (zU M b).1.2.2 = 0 then
  (if (zU M b).1.2.1 = true then
   (if (ji (zU M b).2 [(b - 1, (zU M b).1.1)]).1 = 0 then (0, freeV (ji (zU M b).2 [(b - 1, (zU M b).1.1)]).2 b) else ji (zU M b).2 [(b - 1, (zU M b).1.1)])
  else (2, (zU M b).2))
 else ((zU M b).1.2.2, (zU M b).2)
theorem qQM {M : VM} {p : Int} : (qf M p).2.sz = M.sz := by
 unfold qf
 repeat' split
 all_goals rfl
theorem qX9 (w : Int) : 0 ≤ (kX w).1 ∧ (kX w).1 ≤ 4 := by
 unfold kX
 repeat' split
 all_goals dsimp only
 all_goals omega
theorem qJd (M : VM) (b : Int) : 0 ≤ (zU M b).1.1 ∧ (zU M b).1.1 ≤ 4 ∧ ((zU M b).1.2.2 = 0 → 14 < b ∧ b < M.sz) := by
 unfold zU
 split
 ·exact ⟨Int.le_refl 0, by show (0 : Int) ≤ 4; omega, fun h => by cases h⟩
 ·split
  ·split
   ·exact ⟨Int.le_refl 0, by show (0 : Int) ≤ 4; omega, fun h => by cases h⟩
   ·have := qX9 (qf M (b - 1)).1.1
    exact ⟨this.1, this.2, fun _ => by omega⟩
  ·exact ⟨Int.le_refl 0, by show (0 : Int) ≤ 4; omega, fun _ => by omega⟩
theorem J5 {M : VM} {b : Int} (O : OkV M) : OkV (zU M b).2 := by
 unfold zU
 split
 ·exact O
 ·split
  ·split <;> exact xg O
  ·exact xg O
theorem qXI {M : VM} {b : Int} (O : WdV M) : WdV (zU M b).2 := by
 unfold zU
 split
 ·exact O
 ·split
  ·split <;> exact O.read2
  ·exact O.read2
theorem qQr {M : VM} {b : Int} (O : OkV M) (hf : ∀ x ∈ M.lv, x.2.length + 1 < 100000) : OkV (freeV M b) := by
 refine ⟨O.lo, O.hi, Of O.lvs, O.ins, O.un, ?_⟩
 show ∀ x ∈ wT M.lv b, x.2.length < 100000
 cases hl : M.lv with
 | nil => intro x hx; cases hx
 | cons y r =>
  rw [hl] at hf
  intro x hx
  rcases List.mem_cons.1 hx with rfl | hx
  ·have := hf y (List.mem_cons_self ..); simpa using this
  ·have := hf x (List.mem_cons_of_mem _ hx); omega
theorem Qt {n : Nat} (hn : 1 ≤ n) {x : Int} : wp (callT tab qc n (.fn 240 [] []) [.int .i64 x] h) fun v h' => v = .int .i64 (x7 x) ∧ h' = h := by
 (refine qr (g := W240) rfl (by omega) fun k hk => ?_; show wp (S240 (callT tab qc k) _ _) _; unfold S240; try simp only [iI, uU, Int.ofNat_eq_natCast])
 repeat' (first | with_reducible refine qY ?_ | with_reducible refine qQ ?_ | (with_reducible refine jG ?_; try dsimp only) | (with_reducible refine jD ?_; try dsimp only) | (with_reducible refine jV ?_; try dsimp only) | (with_reducible refine ql ?_; try dsimp only) | (with_reducible refine zR ?_; try dsimp only) | with_reducible refine qe ?_ | with_reducible refine qd ?_ | (with_reducible refine qW ?_; try dsimp only) | with_reducible refine qM ?_ | with_reducible refine zv ?_ | with_reducible refine zM ?_ | with_reducible refine qh (by omega) ?_ | with_reducible refine zQ (by omega) ?_ | with_reducible refine ye (by omega) ?_ | with_reducible refine yB (by omega) ?_ | with_reducible refine yj ?_ | with_reducible refine yY ?_ | with_reducible refine zO (fun hc => ?_) (fun hc => ?_) | with_reducible refine gZ (fun hc => ?_) (fun hc => ?_) | with_reducible refine yV (fun hc => ?_) (fun hc => ?_) | with_reducible refine vH (fun hc => ?_) (fun hc => ?_) | with_reducible refine vI (fun hc => ?_) (fun hc => ?_) | with_reducible refine xx (fun hc => ?_) (fun hc => ?_) | with_reducible refine yT (fun hc => ?_) (fun hc => ?_))
 ·refine qk ⟨?_, rfl⟩
  unfold x7; congr 1; repeat' split <;> omega
 ·refine qk ⟨?_, rfl⟩
  unfold x7; congr 1; repeat' split <;> omega
 ·refine U3 (by omega) ?_
  refine qk ⟨?_, rfl⟩
  rcases (show x = 1 ∨ x = 2 ∨ x = 3 ∨ x = 4 by omega) with rfl | rfl | rfl | rfl <;> rfl
theorem Nm {n : Nat} (hn : 2 ≤ n) {x : Int} : wp (callT tab qc n (.fn 195 [] []) [.int .i64 x] h) fun v h' => v = .int .i64 (zh x) ∧ h' = h := by
 (refine qr (g := W195) rfl (by omega) fun k hk => ?_; show wp (S195 (callT tab qc k) _ _) _; unfold S195; try simp only [iI, uU, Int.ofNat_eq_natCast])
 repeat' (first | with_reducible refine qY ?_ | with_reducible refine qQ ?_ | (with_reducible refine jG ?_; try dsimp only) | (with_reducible refine jD ?_; try dsimp only) | (with_reducible refine jV ?_; try dsimp only) | (with_reducible refine ql ?_; try dsimp only) | (with_reducible refine zR ?_; try dsimp only) | with_reducible refine qe ?_ | with_reducible refine qd ?_ | (with_reducible refine qW ?_; try dsimp only) | with_reducible refine qM ?_ | with_reducible refine zv ?_ | with_reducible refine zM ?_ | with_reducible refine qh (by omega) ?_ | with_reducible refine zQ (by omega) ?_ | with_reducible refine ye (by omega) ?_ | with_reducible refine yB (by omega) ?_ | with_reducible refine yj ?_ | with_reducible refine yY ?_ | with_reducible refine zO (fun hc => ?_) (fun hc => ?_) | with_reducible refine gZ (fun hc => ?_) (fun hc => ?_) | with_reducible refine yV (fun hc => ?_) (fun hc => ?_) | with_reducible refine vH (fun hc => ?_) (fun hc => ?_) | with_reducible refine vI (fun hc => ?_) (fun hc => ?_) | with_reducible refine xx (fun hc => ?_) (fun hc => ?_) | with_reducible refine yT (fun hc => ?_) (fun hc => ?_))
 ·refine qk ⟨?_, rfl⟩
  unfold zh; congr 1; repeat' split <;> omega
 ·refine zW (fun m s g => ∃ i : Int, s = (.int .i64 i, .int .i64 x, ()) ∧ 1 ≤ i ∧ i ≤ 5 ∧ (m : Int) = 5 - i ∧ g = h ∧ (1 < i → 2 < x) ∧ (2 < i → 4 < x) ∧ (3 < i → 8 < x) ∧ (4 < i → 16 < x)) ?_ (m := 4) (by decide) ⟨1, rfl, by omega, by omega, by omega, rfl, by omega, by omega, by omega, by omega⟩
  rintro m ih s g hih ⟨i, rfl, h1, h2, h3, rfl, h4, h5, h6, h7⟩
  dsimp only
  repeat' (first | with_reducible refine qY ?_ | with_reducible refine qQ ?_ | (with_reducible refine jG ?_; try dsimp only) | (with_reducible refine jD ?_; try dsimp only) | (with_reducible refine jV ?_; try dsimp only) | (with_reducible refine ql ?_; try dsimp only) | (with_reducible refine zR ?_; try dsimp only) | with_reducible refine qe ?_ | with_reducible refine qd ?_ | (with_reducible refine qW ?_; try dsimp only) | with_reducible refine qM ?_ | with_reducible refine zv ?_ | with_reducible refine zM ?_ | with_reducible refine qh (by omega) ?_ | with_reducible refine zQ (by omega) ?_ | with_reducible refine ye (by omega) ?_ | with_reducible refine yB (by omega) ?_ | with_reducible refine yj ?_ | with_reducible refine yY ?_ | with_reducible refine zO (fun hc => ?_) (fun hc => ?_) | with_reducible refine gZ (fun hc => ?_) (fun hc => ?_) | with_reducible refine yV (fun hc => ?_) (fun hc => ?_) | with_reducible refine vH (fun hc => ?_) (fun hc => ?_) | with_reducible refine vI (fun hc => ?_) (fun hc => ?_) | with_reducible refine xx (fun hc => ?_) (fun hc => ?_) | with_reducible refine yT (fun hc => ?_) (fun hc => ?_))
  ·refine qx (Qt (by omega)) ?_
   rintro v g' ⟨rfl, rfl⟩
   repeat' (first | with_reducible refine qY ?_ | with_reducible refine qQ ?_ | (with_reducible refine jG ?_; try dsimp only) | (with_reducible refine jD ?_; try dsimp only) | (with_reducible refine jV ?_; try dsimp only) | (with_reducible refine ql ?_; try dsimp only) | (with_reducible refine zR ?_; try dsimp only) | with_reducible refine qe ?_ | with_reducible refine qd ?_ | (with_reducible refine qW ?_; try dsimp only) | with_reducible refine qM ?_ | with_reducible refine zv ?_ | with_reducible refine zM ?_ | with_reducible refine qh (by omega) ?_ | with_reducible refine zQ (by omega) ?_ | with_reducible refine ye (by omega) ?_ | with_reducible refine yB (by omega) ?_ | with_reducible refine yj ?_ | with_reducible refine yY ?_ | with_reducible refine zO (fun hc => ?_) (fun hc => ?_) | with_reducible refine gZ (fun hc => ?_) (fun hc => ?_) | with_reducible refine yV (fun hc => ?_) (fun hc => ?_) | with_reducible refine vH (fun hc => ?_) (fun hc => ?_) | with_reducible refine vI (fun hc => ?_) (fun hc => ?_) | with_reducible refine xx (fun hc => ?_) (fun hc => ?_) | with_reducible refine yT (fun hc => ?_) (fun hc => ?_))
   ·refine qk ⟨?_, rfl⟩
    unfold x7 at *; unfold zh; congr 1; repeat' split <;> omega
   ·refine hih (m - 1) _ _ (by omega) ⟨i + 1, rfl, by omega, by omega, by omega, rfl, ?_, ?_, ?_, ?_⟩ <;> (unfold x7 at *; repeat' split at * <;> omega)
  ·refine qk ⟨?_, rfl⟩
   unfold zh; congr 1; repeat' split <;> omega
theorem UZ {n : Nat} (hn : 1 ≤ n) {c : Int} (hc : 0 ≤ c ∧ c ≤ 4) : wp (callT tab qc n (.fn 110 [] []) [.int .i64 c] h) fun v h' => v = .int .i64 c ∧ h' = h := by
 (refine qr (g := W110) rfl (by omega) fun k hk => ?_; show wp (S110 (callT tab qc k) _ _) _; unfold S110; try simp only [iI, uU, Int.ofNat_eq_natCast])
 with_reducible (refine qh (by omega) ?_)
 exact qk ⟨by congr 1; omega, rfl⟩
theorem VD {n : Nat} (hn : 1 ≤ n) {w : Int} : wp (callT tab qc n (.fn 156 [] []) [.int .u64 w] h) fun v h' => v = .tup [.int .i64 (kX w).1, .bool (kX w).2] ∧ h' = h := by
 (refine qr (g := W156) rfl (by omega) fun k hk => ?_; show wp (S156 (callT tab qc k) _ _) _; unfold S156; try simp only [iI, uU, Int.ofNat_eq_natCast])
 unfold kX
 by_cases h1 : 1 ≤ w ∧ w ≤ 4
 ·rw [if_pos h1]
  with_reducible (refine zT (by omega) ?_; refine qW ?_; (try dsimp only); refine jG ?_; (try dsimp only); refine kS (by omega) ?_; refine qe ?_; refine qY ?_; refine zn (by omega) ?_)
  exact qk ⟨rfl, rfl⟩
 ·rw [if_neg h1]
  by_cases h2 : 9 ≤ w ∧ w ≤ 12
  ·rw [if_pos h2]
   with_reducible (refine zT (by omega) ?_; refine qW ?_; (try dsimp only); refine jG ?_; (try dsimp only); refine Qs (by omega) ?_; refine qe ?_; refine qQ ?_; refine zT (by omega) ?_; refine qW ?_; (try dsimp only); refine jG ?_; (try dsimp only); refine kS (by omega) ?_; refine qe ?_; refine qY ?_; refine yB (by omega) ?_; refine zn (by omega) ?_)
   exact qk ⟨rfl, rfl⟩
  ·rw [if_neg h2]
   repeat' (first | with_reducible refine qY ?_ | with_reducible refine qQ ?_ | (with_reducible refine jG ?_; try dsimp only) | (with_reducible refine jD ?_; try dsimp only) | (with_reducible refine jV ?_; try dsimp only) | (with_reducible refine ql ?_; try dsimp only) | (with_reducible refine zR ?_; try dsimp only) | with_reducible refine qe ?_ | with_reducible refine qd ?_ | (with_reducible refine qW ?_; try dsimp only) | with_reducible refine qM ?_ | with_reducible refine zv ?_ | with_reducible refine zM ?_ | with_reducible refine qh (by omega) ?_ | with_reducible refine zQ (by omega) ?_ | with_reducible refine ye (by omega) ?_ | with_reducible refine yB (by omega) ?_ | with_reducible refine yj ?_ | with_reducible refine yY ?_ | with_reducible refine qO (by omega) ?_ | with_reducible refine qK (by omega) ?_ | with_reducible refine zA (by omega) ?_ | with_reducible refine zw (by omega) ?_ | with_reducible refine xj (by omega) ?_ | with_reducible refine ze (by omega) ?_ | with_reducible refine kS (by omega) ?_ | with_reducible refine Qs (by omega) ?_ | with_reducible refine yZ (by omega) ?_ | with_reducible refine xh (by omega) ?_ | with_reducible refine zT (by omega) ?_ | with_reducible refine zS (by omega) ?_ | with_reducible refine zO (fun hc => ?_) (fun hc => ?_) | with_reducible refine gZ (fun hc => ?_) (fun hc => ?_) | with_reducible refine yV (fun hc => ?_) (fun hc => ?_) | with_reducible refine vH (fun hc => ?_) (fun hc => ?_) | with_reducible refine vI (fun hc => ?_) (fun hc => ?_) | with_reducible refine xx (fun hc => ?_) (fun hc => ?_) | with_reducible refine yT (fun hc => ?_) (fun hc => ?_))
   all_goals exact qk ⟨rfl, rfl⟩
theorem Oq {n : Nat} (hn : 10 ≤ n) {v : Nat} {M : VM} {b : Int} (H : HS g h (ViewC v M :: R)) (O : OkV M) :
  wp (callT tab qc n (.fn 108 [] []) [.ptr v 0, .int .i64 b] h) fun r h' => r = .tup [.int .i64 (zU M b).1.1, .bool (zU M b).1.2.1, .int .i64 (zU M b).1.2.2] ∧ HS g h' (ViewC v (zU M b).2 :: R) := by
 (refine qr (g := W108) rfl (by omega) fun k hk => ?_; show wp (S108 (callT tab qc k) _ _ _) _; unfold S108; try simp only [iI, uU, Int.ofNat_eq_natCast])
 unfold zU
 by_cases h1 : b ≤ 14
 ·rw [if_pos (.inl h1)]
  with_reducible (refine kS (by omega) ?_; refine qW ?_; (try dsimp only); refine jD ?_; (try dsimp only); refine qe ?_; refine qY ?_)
  exact qk ⟨rfl, H⟩
 ·with_reducible (refine Qs (by omega) ?_; refine qW ?_; (try dsimp only); refine ql ?_; (try dsimp only))
  refine qx (Qu (by omega) H) ?_
  rintro _ _ ⟨rfl, rfl⟩
  by_cases h2 : (M.sz : Int) ≤ b
  ·rw [if_pos (.inr h2)]
   with_reducible (refine zT (by omega) ?_; refine qd ?_; refine qY ?_)
   exact qk ⟨rfl, H⟩
  ·rw [if_neg (by omega)]
   with_reducible (refine zS (by omega) ?_; refine qd ?_; refine qQ ?_)
   have := O.hi
   refine zQ (by omega) (qx (kg (by omega) H O) ?_)
   rintro _ h3 ⟨rfl, H3⟩
   simp only [show ((1 : Nat) : Int) = 1 from rfl] at H3 ⊢
   with_reducible (refine qH rfl ?_; refine qH rfl ?_)
   by_cases h4 : (qf M (b - 1)).1.2 = 0
   ·rw [if_pos h4]
    with_reducible (refine zw (by omega) ?_; refine qQ ?_)
    refine qx (VD (by omega)) ?_
    rintro _ _ ⟨rfl, rfl⟩
    with_reducible (refine qH rfl ?_; refine qH rfl ?_)
    by_cases h5 : (kX (qf M (b - 1)).1.1).1 = 0
    ·rw [if_pos h5]
     with_reducible (refine qO (by omega) ?_; refine qY ?_)
     exact qk ⟨rfl, H3⟩
    ·rw [if_neg h5]
     with_reducible (refine qK (by omega) ?_; refine qQ ?_)
     exact qk ⟨rfl, H3⟩
   ·rw [if_neg h4]
    with_reducible (refine zA (by omega) ?_; refine qY ?_)
    exact qk ⟨rfl, H3⟩
theorem Z6 {n : Nat} (hn : 11 ≤ n) {v : Nat} {M : VM} {b : Int} (H : HS g h (ViewC v M :: R)) (O : OkV M) :
  wp (callT tab qc n (.fn 130 [] []) [.ptr v 0, .int .i64 b] h) fun r h' => r = .int .i64 (freeA M b).1 ∧ HS g h' (ViewC v (freeA M b).2 :: R) := by
 (refine qr (g := W130) rfl (by omega) fun k hk => ?_; show wp (S130 (callT tab qc k) _ _ _) _; unfold S130; try simp only [iI, uU, Int.ofNat_eq_natCast])
 refine qx (Oq (by omega) H O) ?_
 rintro _ h1 ⟨rfl, H1⟩
 have hb := qJd M b
 have hO := J5 (b := b) O
 have := O.hi
 unfold freeA
 with_reducible (refine qH rfl ?_; refine qH rfl ?_; refine qH rfl ?_; refine qW ?_; (try dsimp only))
 by_cases h2 : (zU M b).1.2.2 = 0
 ·rw [if_pos h2]
  with_reducible (refine qO (by omega) ?_; refine qW ?_; (try dsimp only); refine jG ?_; (try dsimp only))
  cases h3 : (zU M b).1.2.1
  ·rw [if_neg (by simp)]
   with_reducible (refine zM ?_; refine qe ?_; refine qY ?_; refine qW ?_; (try dsimp only); refine qK (by omega) ?_; refine qQ ?_; refine qW ?_; (try dsimp only); refine qK (by omega) ?_; refine qQ ?_; refine qM ?_)
   exact qk ⟨rfl, H1⟩
  ·rw [if_pos rfl]
   with_reducible (refine zv ?_; refine qe ?_; refine qQ ?_; refine qW ?_; (try dsimp only); refine qO (by omega) ?_; refine qY ?_; refine zQ (by omega) ?_; refine xy (by omega) ?_; refine qt rfl ?_)
   simp only [show ((1 : Nat) : Int) = 1 from rfl]
   refine (jK (n := 1) (l := [.int .i64 (b - 1), .int .u64 (zU M b).1.1]) (sz := 2) H1 rfl rfl rfl rfl fun v3 h3 H3 => ?_)
   refine qx (Xo (cs := [(b - 1, (zU M b).1.1)]) (by omega) (H3.sel e_1) hO (.own .here) (by simp)) ?_
   rintro _ h4 ⟨rfl, H4⟩
   by_cases h5 : (ji (zU M b).2 [(b - 1, (zU M b).1.1)]).1 = 0
   ·rw [if_pos h5]
    with_reducible (refine qW ?_; (try dsimp only); refine qO (by omega) ?_; refine qY ?_)
    refine qx (Oh (by omega) H4 (Kd hO)) ?_
    intro _ h6 H6
    refine qM ?_
    exact qk ⟨by rw [h5], H6.sub (.cons .here (.drop (.refl)))⟩
   ·rw [if_neg h5]
    with_reducible (refine qW ?_; (try dsimp only); refine qK (by omega) ?_; refine qQ ?_; refine qM ?_)
    exact qk ⟨rfl, H4.sub (.cons .here (.drop (.refl)))⟩
 ·rw [if_neg h2]
  with_reducible (refine qK (by omega) ?_; refine qW ?_; (try dsimp only); refine jV ?_; (try dsimp only); refine qd ?_; refine qQ ?_; refine qW ?_; (try dsimp only); refine qK (by omega) ?_; refine qQ ?_; refine qW ?_; (try dsimp only); refine qK (by omega) ?_; refine qQ ?_; refine qM ?_)
  exact qk ⟨rfl, H1⟩
theorem NL {n : Nat} (hn : 10 ≤ n) {v : Nat} {M : VM} {c b : Int} (H : HS g h (ViewC v M :: R)) (O : OkV M) (hc : 1 ≤ c ∧ c ≤ 4) (hb : 0 ≤ b) :
  wp (callT tab qc n (.fn 196 [] []) [.ptr v 0, .int .i64 c, .int .u64 b] h) fun r h' => r = .tup [.int .i64 (z7 M c b).1.1, .int .i64 (z7 M c b).1.2] ∧ HS g h' (ViewC v (z7 M c b).2 :: R) := by
 (refine qr (g := W196) rfl (by omega) fun k hk => ?_; show wp (S196 (callT tab qc k) _ _ _ _) _; unfold S196; try simp only [iI, uU, Int.ofNat_eq_natCast])
 unfold z7
 by_cases h1 : 2147483648 ≤ b
 ·rw [if_pos h1]
  with_reducible (refine zT (by omega) ?_; refine qY ?_)
  exact qk ⟨rfl, H⟩
 ·rw [if_neg h1]
  with_reducible (refine zS (by omega) ?_; refine qQ ?_; refine zn (by omega) ?_)
  refine qx (kg (by omega) H O) ?_
  rintro _ h3 ⟨rfl, H3⟩
  with_reducible (refine qH rfl ?_; refine qH rfl ?_; refine qW ?_; (try dsimp only))
  by_cases h4 : (qf M b).1.2 = 0
  ·rw [if_pos h4]
   with_reducible (refine qO (by omega) ?_; refine qY ?_)
   refine qx (UZ (by omega) (by omega)) ?_
   rintro _ _ ⟨rfl, rfl⟩
   refine qt rfl (zQ (by omega) (qh (by omega) (xy (by omega) (qt rfl ?_))))
   refine jK (n := 2) (l := [.int .i64 c, .int .u64 (qf M b).1.1, .int .i64 (b - 1), .int .u64 (c + 8)]) (sz := 2) H3 rfl rfl rfl rfl fun v5 h5 H5 => ?_
   refine qx (Xo (cs := [(c, (qf M b).1.1), (b - 1, c + 8)]) (by omega) (H5.sel e_1) (xg O) (.own .here) (by simp)) ?_
   rintro _ h6 ⟨rfl, H6⟩
   by_cases h7 : (ji (qf M b).2 [(c, (qf M b).1.1), (b - 1, c + 8)]).1 = 0
   ·rw [if_pos h7]
    with_reducible (refine zw (by omega) ?_; refine qQ ?_; refine qM ?_)
    exact qk ⟨rfl, H6.sub (.cons .here (.drop (.refl)))⟩
   ·rw [if_neg h7]
    with_reducible (refine zA (by omega) ?_; refine qY ?_; refine qM ?_)
    exact qk ⟨rfl, H6.sub (.cons .here (.drop (.refl)))⟩
  ·rw [if_neg h4]
   with_reducible (refine qK (by omega) ?_; refine qQ ?_; refine zA (by omega) ?_; refine qY ?_; refine qM ?_)
   exact qk ⟨rfl, H3⟩
theorem NA {n : Nat} (hn : 10 ≤ n) {v : Nat} {M : VM} {c : Int} (H : HS g h (ViewC v M :: R)) (O : OkV M) (W : WdV M) (hc : 1 ≤ c ∧ c ≤ 4) :
  wp (callT tab qc n (.fn 197 [] []) [.ptr v 0, .int .i64 c] h) fun r h' => r = .tup [.int .i64 (xQ M c).1.1, .int .i64 (xQ M c).1.2] ∧ HS g h' (ViewC v (xQ M c).2 :: R) := by
 (refine qr (g := W197) rfl (by omega) fun k hk => ?_; show wp (S197 (callT tab qc k) _ _ _) _; unfold S197; try simp only [iI, uU, Int.ofNat_eq_natCast])
 unfold xQ
 refine qx (kg (by omega) H O) ?_
 rintro _ h3 ⟨rfl, H3⟩
 have hw := W.read (p := 5)
 simp only [show ((5 : Nat) : Int) = 5 from rfl] at H3 ⊢
 have hs := GM c
 have hO := O.hi
 with_reducible (refine qH rfl ?_; refine qH rfl ?_)
 by_cases h4 : (qf M 5).1.2 = 0
 ·rw [if_pos h4]
  with_reducible (refine zw (by omega) ?_; refine qQ ?_)
  have hsz : (qf M 5).2.sz = M.sz := qQM
  by_cases h5 : (qf M 5).1.1 < 14 ∨ 2147483648 ≤ (qf M 5).1.1 ∨ (M.sz : Int) < (qf M 5).1.1 + 1 + x7 c
  ·rw [if_pos h5]
   by_cases h6 : (qf M 5).1.1 < 14
   ·with_reducible (refine xj (by omega) ?_; refine qW ?_; (try dsimp only); refine jD ?_; (try dsimp only); refine qe ?_; refine qW ?_; (try dsimp only); refine jD ?_; (try dsimp only); refine qe ?_; refine qY ?_)
    exact qk ⟨rfl, H3⟩
   ·by_cases h7 : 2147483648 ≤ (qf M 5).1.1
    ·with_reducible (refine ze (by omega) ?_; refine qW ?_; (try dsimp only); refine ql ?_; (try dsimp only); refine zT (by omega) ?_; refine qd ?_; refine qW ?_; (try dsimp only); refine jD ?_; (try dsimp only); refine qe ?_; refine qY ?_)
     exact qk ⟨rfl, H3⟩
    ·with_reducible (refine ze (by omega) ?_; refine qW ?_; (try dsimp only); refine ql ?_; (try dsimp only); refine zS (by omega) ?_; refine qd ?_; refine qW ?_; (try dsimp only); refine ql ?_; (try dsimp only); refine zn (by omega) ?_; refine qh (by omega) ?_)
     refine qx (Qt (by omega)) ?_
     rintro _ _ ⟨rfl, rfl⟩
     with_reducible (refine qh (by omega) ?_)
     refine qx (Qu (by omega) H3) ?_
     rintro _ _ ⟨rfl, rfl⟩
     rw [hsz]
     with_reducible (refine yZ (by omega) ?_; refine qd ?_; refine qY ?_)
     exact qk ⟨rfl, H3⟩
  ·rw [if_neg h5]
   with_reducible (refine ze (by omega) ?_; refine qW ?_; (try dsimp only); refine ql ?_; (try dsimp only); refine zS (by omega) ?_; refine qd ?_; refine qW ?_; (try dsimp only); refine ql ?_; (try dsimp only); refine zn (by omega) ?_; refine qh (by omega) ?_)
   refine qx (Qt (by omega)) ?_
   rintro _ _ ⟨rfl, rfl⟩
   with_reducible (refine qh (by omega) ?_)
   refine qx (Qu (by omega) H3) ?_
   rintro _ _ ⟨rfl, rfl⟩
   rw [hsz]
   with_reducible (refine xh (by omega) ?_; refine qd ?_; refine qQ ?_; refine zn (by omega) ?_; refine qh (by omega) ?_)
   refine qx (Qt (by omega)) ?_
   rintro _ _ ⟨rfl, rfl⟩
   refine qh (by omega) (xy (by omega) (qt rfl (qh (by omega) (xy (by omega) (qt rfl ?_)))))
   refine jK (n := 2) (l := [.int .i64 5, .int .u64 ((qf M 5).1.1 + 1 + x7 c), .int .i64 (qf M 5).1.1, .int .u64 (c + 8)]) (sz := 2) H3 rfl rfl rfl rfl fun v5 h5 H5 => ?_
   refine qx (Xo (cs := [(5, (qf M 5).1.1 + 1 + x7 c), ((qf M 5).1.1, c + 8)]) (by omega) (H5.sel e_1) (xg O) (.own .here) (by simp)) ?_
   rintro _ h6 ⟨rfl, H6⟩
   by_cases h7 : (ji (qf M 5).2 [(5, (qf M 5).1.1 + 1 + x7 c), ((qf M 5).1.1, c + 8)]).1 = 0
   ·rw [if_pos h7]
    with_reducible (refine zw (by omega) ?_; refine qQ ?_; refine qh (by omega) ?_)
    exact qk ⟨rfl, H6.sub (.cons .here (.drop (.refl)))⟩
   ·rw [if_neg h7]
    with_reducible (refine zA (by omega) ?_; refine qY ?_)
    exact qk ⟨rfl, H6.sub (.cons .here (.drop (.refl)))⟩
 ·rw [if_neg h4]
  with_reducible (refine zA (by omega) ?_; refine qY ?_)
  exact qk ⟨rfl, H3⟩
theorem Og {n : Nat} (hn : 11 ≤ n) {v : Nat} {M : VM} {x : Int} (H : HS g h (ViewC v M :: R)) (O : OkV M) (W : WdV M) :
  wp (callT tab qc n (.fn 129 [] []) [.ptr v 0, .int .i64 x] h) fun r h' => r = .tup [.int .i64 (zz M x).1.1, .int .i64 (zz M x).1.2] ∧ HS g h' (ViewC v (zz M x).2 :: R) := by
 (refine qr (g := W129) rfl (by omega) fun k hk => ?_; show wp (S129 (callT tab qc k) _ _ _) _; unfold S129; try simp only [iI, uU, Int.ofNat_eq_natCast])
 refine qx (Nm (by omega)) ?_
 rintro _ _ ⟨rfl, rfl⟩
 have hc := KR x
 unfold zz
 by_cases h1 : zh x = 0
 ·rw [if_pos h1]
  with_reducible (refine qO (by omega) ?_; refine qY ?_)
  exact qk ⟨rfl, H⟩
 ·rw [if_neg h1]
  with_reducible (refine qK (by omega) ?_; refine qQ ?_)
  refine qx (UZ (by omega) hc) ?_
  rintro _ _ ⟨rfl, rfl⟩
  refine qx (kg (by omega) H O) ?_
  rintro _ h3 ⟨rfl, H3⟩
  have hw := W.read (p := zh x)
  with_reducible (refine qH rfl ?_; refine qH rfl ?_)
  by_cases h4 : (qf M (zh x)).1.2 = 0
  ·rw [if_pos h4]
   by_cases h5 : (qf M (zh x)).1.1 = 0
   ·rw [if_pos h5]
    with_reducible (refine zw (by omega) ?_; refine qQ ?_; refine zw (by omega) ?_; refine qQ ?_)
    refine qx (NA (by omega) H3 (xg O) W.read2 (by omega)) ?_
    rintro _ h6 ⟨rfl, H6⟩
    with_reducible (refine qH rfl ?_; refine qH rfl ?_)
    exact qk ⟨rfl, H6⟩
   ·rw [if_neg h5]
    with_reducible (refine zw (by omega) ?_; refine qQ ?_; refine zA (by omega) ?_; refine qY ?_)
    refine qx (NL (by omega) H3 (xg O) (by omega) hw.1) ?_
    rintro _ h6 ⟨rfl, H6⟩
    with_reducible (refine qH rfl ?_; refine qH rfl ?_)
    exact qk ⟨rfl, H6⟩
  ·rw [if_neg h4]
   with_reducible (refine zA (by omega) ?_; refine qY ?_)
   exact qk ⟨rfl, H3⟩
end Go.Proofs.YtdlfmpmpmkffjaaGreatDoor
namespace Go.Proofs.YtdlfmpmpmkffjaaGreatDoor
open Go Go.Ae
set_option maxRecDepth 100000
variable {g h : AH} {L R : List SP}
end Go.Proofs.YtdlfmpmpmkffjaaGreatDoor
namespace Go.Proofs.YtdlfmpmpmkffjaaGreatDoor
open Go Go.Ae
set_option maxRecDepth 100000
def js (x lo hi : Int) : Int := lo + (if x.tmod (hi - lo + 1) < 0 then x.tmod (hi - lo + 1) + (hi - lo + 1) else x.tmod (hi - lo + 1))
theorem kB (x : Int) {m : Int} (hm : 0 < m) : -m < x.tmod m ∧ x.tmod m < m := by
 refine ⟨?_, Int.tmod_lt_of_pos x hm⟩
 have := Int.tmod_lt_of_pos (-x) hm
 rw [Int.neg_tmod] at this
 omega
theorem zV (x : Int) {lo hi : Int} (h : lo ≤ hi) : lo ≤ js x lo hi ∧ js x lo hi ≤ hi := by
 have := kB x (show 0 < hi - lo + 1 by omega)
 unfold js
 split <;> omega
theorem yS {n : Nat} (hn : 1 ≤ n) {x lo hi : Int} {h : AH} (h1 : lo ≤ hi) (h2 : -1000000000 ≤ lo) (h3 : hi ≤ 1000000000) :
  wp (callT tab qc n (.fn 56 [] []) [.int .i64 x, .int .i64 lo, .int .i64 hi] h) fun v h' => v = .int .i64 (js x lo hi) ∧ h' = h := by
 (refine qr (g := W56) rfl (by omega) fun k hk => ?_; show wp (S56 (callT tab qc k) _ _ _ _) _; unfold S56; try simp only [iI, uU, Int.ofNat_eq_natCast])
 simp only [show ((1 : Nat) : Int) = 1 from rfl, show ((0 : Nat) : Int) = 0 from rfl]
 have hb := kB x (show 0 < hi - lo + 1 by omega)
 unfold js
 repeat' (first | (first | with_reducible refine qY ?_ | with_reducible refine qQ ?_ | (with_reducible refine jG ?_; try dsimp only) | (with_reducible refine jD ?_; try dsimp only) | (with_reducible refine jV ?_; try dsimp only) | (with_reducible refine ql ?_; try dsimp only) | (with_reducible refine zR ?_; try dsimp only) | with_reducible refine qe ?_ | with_reducible refine qd ?_ | (with_reducible refine qW ?_; try dsimp only) | with_reducible refine qM ?_ | with_reducible refine zv ?_ | with_reducible refine zM ?_ | with_reducible refine qh (by omega) ?_ | with_reducible refine zQ (by omega) ?_ | with_reducible refine ye (by omega) ?_ | with_reducible refine yB (by omega) ?_ | with_reducible refine yj ?_ | with_reducible refine yY ?_) | with_reducible refine wu (by omega) ?_ | (first | with_reducible refine zO (fun hc => ?_) (fun hc => ?_) | with_reducible refine gZ (fun hc => ?_) (fun hc => ?_) | with_reducible refine yV (fun hc => ?_) (fun hc => ?_) | with_reducible refine vH (fun hc => ?_) (fun hc => ?_) | with_reducible refine vI (fun hc => ?_) (fun hc => ?_) | with_reducible refine xx (fun hc => ?_) (fun hc => ?_) | with_reducible refine yT (fun hc => ?_) (fun hc => ?_)))
 all_goals refine qk ⟨?_, rfl⟩
 all_goals congr 1
 all_goals (first | rw [if_pos (by omega)] | rw [if_neg (by omega)])
 all_goals omega
end Go.Proofs.YtdlfmpmpmkffjaaGreatDoor
namespace Go.Proofs.YtdlfmpmpmkffjaaGreatDoor
open Go Go.Ae
set_option maxRecDepth 100000
theorem Zp {D1 D2 : Nat → Prop} {n p q : Nat} (hn : 1 ≤ n) {a b : AV} {xs ys : List Int} {h : AH} (S1 : Sl D1 h 1 p a (xs.map (.int .i64))) (S2 : Sl D2 h 1 q b (ys.map (.int .i64))) (hp : p < 1000000000) :
  wp (callT tab qc n (.fn 32 [] []) [a, b] h) fun v h' => v = .bool (decide (xs = ys)) ∧ h' = h := by
 have hxl : xs.length = p := by simpa using S1.len
 have hyl : ys.length = q := by simpa using S2.len
 (refine qr (g := W32) rfl (by omega) fun k hk => ?_; show wp (S32 (callT tab qc k) _ _ _) _; unfold S32; try simp only [iI, uU, Int.ofNat_eq_natCast])
 refine zF S1 (zF S2 (xx (fun hne => ?_) fun heq => ?_))
 ·refine qY (qk ⟨?_, rfl⟩)
  rw [decide_eq_false]
  rintro rfl
  exact hne (by omega)
 ·refine qQ (zW (fun m s g => ∃ i : Nat, s = (.int .i64 (i : Int), b, a, ()) ∧ i ≤ p ∧ m = p - i ∧ g = h ∧ xs.take i = ys.take i) ?_ (m := p) (by show p < 1000000000; omega) ⟨0, rfl, by omega, by omega, rfl, rfl⟩)
  rintro m ih s g hih ⟨i, rfl, h1, rfl, rfl, h2⟩
  dsimp only
  refine zF S1 (zO (fun hlt => qY ?_) fun hge => qQ (qM (qk ⟨?_, rfl⟩)))
  ·have hi : i < p := by omega
   refine ju S1 (x := .int .i64 xs[i]) (by rw [List.getElem?_map, List.getElem?_eq_getElem (by omega)]; rfl) ?_
   refine ju S2 (x := .int .i64 ys[i]) (by rw [List.getElem?_map, List.getElem?_eq_getElem (by omega)]; rfl) ?_
   refine xx (fun hne => qY (qM (qk ⟨?_, rfl⟩))) fun he => qQ (qh (by omega) ?_)
   ·rw [decide_eq_false]
    rintro rfl
    exact hne rfl
   ·refine hih (p - (i + 1)) _ _ (by omega) ⟨i + 1, rfl, by omega, rfl, rfl, ?_⟩
    rw [List.take_succ_eq_append_getElem (by omega), List.take_succ_eq_append_getElem (by omega), h2, he]
  ·rw [decide_eq_true]
   rw [List.take_of_length_le (by omega), List.take_of_length_le (by omega)] at h2
   exact h2
end Go.Proofs.YtdlfmpmpmkffjaaGreatDoor
namespace Go.Proofs.YtdlfmpmpmkffjaaGreatDoor
open Go Go.Ae
set_option maxRecDepth 100000
theorem ZI {D1 D2 : Nat → Prop} {n p q : Nat} (hn : 1 ≤ n) {a b : AV} {xs ys : List Int} {h : AH} (S1 : Sl D1 h 1 p a (xs.map (.int .u64))) (S2 : Sl D2 h 1 q b (ys.map (.int .u64))) (hp : p < 1000000000) :
  wp (callT tab qc n (.fn 46 [] []) [a, b] h) fun v h' => v = .bool (decide (xs = ys)) ∧ h' = h := by
 have hxl : xs.length = p := by simpa using S1.len
 have hyl : ys.length = q := by simpa using S2.len
 (refine qr (g := W46) rfl (by omega) fun k hk => ?_; show wp (S46 (callT tab qc k) _ _ _) _; unfold S46; try simp only [iI, uU, Int.ofNat_eq_natCast])
 refine zF S1 (zF S2 (xx (fun hne => ?_) fun heq => ?_))
 ·refine qY (qk ⟨?_, rfl⟩)
  rw [decide_eq_false]
  rintro rfl
  exact hne (by omega)
 ·refine qQ (zW (fun m s g => ∃ i : Nat, s = (.int .i64 (i : Int), b, a, ()) ∧ i ≤ p ∧ m = p - i ∧ g = h ∧ xs.take i = ys.take i) ?_ (m := p) (by show p < 1000000000; omega) ⟨0, rfl, by omega, by omega, rfl, rfl⟩)
  rintro m ih s g hih ⟨i, rfl, h1, rfl, rfl, h2⟩
  dsimp only
  refine zF S1 (zO (fun hlt => qY ?_) fun hge => qQ (qM (qk ⟨?_, rfl⟩)))
  ·have hi : i < p := by omega
   refine ju S1 (x := .int .u64 xs[i]) (by rw [List.getElem?_map, List.getElem?_eq_getElem (by omega)]; rfl) ?_
   refine ju S2 (x := .int .u64 ys[i]) (by rw [List.getElem?_map, List.getElem?_eq_getElem (by omega)]; rfl) ?_
   refine xx (fun hne => qY (qM (qk ⟨?_, rfl⟩))) fun he => qQ (qh (by omega) ?_)
   ·rw [decide_eq_false]
    rintro rfl
    exact hne rfl
   ·refine hih (p - (i + 1)) _ _ (by omega) ⟨i + 1, rfl, by omega, rfl, rfl, ?_⟩
    rw [List.take_succ_eq_append_getElem (by omega), List.take_succ_eq_append_getElem (by omega), h2, he]
  ·rw [decide_eq_true]
   rw [List.take_of_length_le (by omega), List.take_of_length_le (by omega)] at h2
   exact h2
end Go.Proofs.YtdlfmpmpmkffjaaGreatDoor
namespace Go.Proofs.YtdlfmpmpmkffjaaGreatDoor
open Go Go.Ae
set_option maxRecDepth 100000
theorem qZD {l : List ES} {a b : List AV} {K : AV → Go.Ae.R} {Q : AV → AH → Prop} {neg : Bool} {p : Prop} [Decidable p] (e : zf l a b = some (decide p)) (h1 : p → wp (K (.bool (!neg))) Q) (h2 : ¬ p → wp (K (.bool neg)) Q) : wp (YF l neg (.agg a) (.agg b) K) Q := by
 unfold YF
 simp only [e, ob]
 by_cases h : p
 ·have := h1 h
  simpa [h] using this
 ·have := h2 h
  simpa [h] using this
theorem qZ8 (x y : Cl) : zf [.bas .int 0, .bas .int 1] (zE x) (zE y) = some (decide (x = y)) := by
 obtain ⟨a, b⟩ := x
 obtain ⟨a', b'⟩ := y
 show (bif ieq a a' then (bif ieq b b' then some true else some false) else some false) = _
 rw [Qb, Qb]
 by_cases h1 : a = a' <;> by_cases h2 : b = b' <;> simp [h1, h2]
theorem Zl {D1 D2 : Nat → Prop} {n p q : Nat} (hn : 1 ≤ n) {a b : AV} {xs ys : List Cl} {h : AH} (S1 : Sl D1 h 2 p a (xs.flatMap zE)) (S2 : Sl D2 h 2 q b (ys.flatMap zE)) (hp : p < 100000000) :
  wp (callT tab qc n (.fn 30 [] []) [a, b] h) fun v h' => v = .bool (decide (xs = ys)) ∧ h' = h := by
 have hxl : xs.length = p := by
  have := S1.len
  rw [kJ (sz := 2) zE (fun _ => rfl)] at this
  omega
 have hyl : ys.length = q := by
  have := S2.len
  rw [kJ (sz := 2) zE (fun _ => rfl)] at this
  omega
 (refine qr (g := W30) rfl (by omega) fun k hk => ?_; show wp (S30 (callT tab qc k) _ _ _) _; unfold S30; try simp only [iI, uU, Int.ofNat_eq_natCast])
 refine zF S1 (zF S2 (xx (fun hne => ?_) fun heq => ?_))
 ·refine qY (qk ⟨?_, rfl⟩)
  rw [decide_eq_false]
  rintro rfl
  exact hne (by omega)
 ·refine qQ (zW (fun m s g => ∃ i : Nat, s = (.int .i64 (i : Int), b, a, ()) ∧ i ≤ p ∧ m = p - i ∧ g = h ∧ xs.take i = ys.take i) ?_ (m := p) (by show p < 1000000000; omega) ⟨0, rfl, by omega, by omega, rfl, rfl⟩)
  rintro m ih s g hih ⟨i, rfl, h1, rfl, rfl, h2⟩
  dsimp only
  refine zF S1 (zO (fun hlt => qY ?_) fun hge => qQ (qM (qk ⟨?_, rfl⟩)))
  ·have hi : i < p := by omega
   refine xY (l := zE xs[i]) S1 hi (by omega) ?_ ?_
   ·rw [gv (sz := 2) zE (fun _ => rfl), List.drop_eq_getElem_cons (by omega), List.flatMap_cons]; rfl
   refine xY (l := zE ys[i]) S2 (by omega) (by omega) ?_ ?_
   ·rw [gv (sz := 2) zE (fun _ => rfl), List.drop_eq_getElem_cons (by omega), List.flatMap_cons]; rfl
   refine qZD (qZ8 _ _) (fun he => qQ (qh (by omega) ?_)) (fun hne => qY (qM (qk ⟨?_, rfl⟩)))
   ·refine hih (p - (i + 1)) _ _ (by omega) ⟨i + 1, rfl, by omega, rfl, rfl, ?_⟩
    rw [List.take_succ_eq_append_getElem (by omega), List.take_succ_eq_append_getElem (by omega), h2, he]
   ·rw [decide_eq_false]
    rintro rfl
    exact hne rfl
  ·rw [decide_eq_true]
   rw [List.take_of_length_le (by omega), List.take_of_length_le (by omega)] at h2
   exact h2
end Go.Proofs.YtdlfmpmpmkffjaaGreatDoor
namespace Go.Proofs.YtdlfmpmpmkffjaaGreatDoor
open Go Go.Ae
set_option maxRecDepth 100000
variable {g h : AH} {L R : List SP}
def AskP (M M' : VM) : Prop := M'.sz = M.sz ∧ M'.K = M.K ∧ M'.most = M.most ∧ (M'.need = M.need ∨ M'.lv = M.lv ∧ 1 ≤ M'.need ∧ M'.need < M.sz ∧ jf M'.need M.K = none)
theorem AskP.refl (M : VM) : AskP M M := ⟨rfl, rfl, rfl, .inl rfl⟩
theorem Ml {M : VM} {p : Int} (h : (qf M p).1.2 = 0) : (qf M p).2 = M := by
 unfold qf at h ⊢
 split
 ·rename_i h1
  rw [if_pos h1] at h
  split
  ·rfl
  ·rename_i h2
   rw [h2] at h
   dsimp only at h ⊢
   split
   ·rfl
   ·rename_i h3
    rw [h3] at h
    cases h
 ·rfl
theorem frS_put {most : Nat} {lv : List LvM} {p v : Int} : frS (xH most lv p v).2 = frS lv := by
 cases lv with
 | nil => rfl
 | cons x r =>
  obtain ⟨c, hc⟩ := JM (most := most) (x := x) (r := r) (p := p) (v := v)
  rw [hc, gM, gM]
theorem OQ {most : Nat} {was : List LvM} : ∀ {cs : List Cl} {lv : List LvM}, frS lv = frS was → frS (xB most was lv cs).2 = frS was := by
 intro cs
 induction cs with
 | nil => intro lv h; exact h
 | cons c cs ih =>
  intro lv h
  rw [xD]
  split
  ·exact ih (frS_put.trans h)
  ·rfl
theorem vR {M : VM} {cs : List Cl} : frS (ji M cs).2.lv = frS M.lv := by
 unfold ji
 split
 ·exact OQ rfl
 ·rfl
theorem xk {M : VM} {p : Int} : frS (qf M p).2.lv = frS M.lv := by
 unfold qf
 repeat' split
 all_goals rfl
theorem Qn {M : VM} {b : Int} : frS (zU M b).2.lv = frS M.lv := by
 unfold zU
 repeat' split
 all_goals first | rfl | exact xk
theorem N3 {lv : List LvM} {b : Int} : frS (wT lv b) ≤ frS lv + 1 := by
 cases lv with
 | nil => simp [wT]
 | cons x r =>
  show frS ((x.1, x.2 ++ [b]) :: r) ≤ _
  rw [gM, gM, List.length_append]; simp; omega
theorem qKM : ∀ {lv : List LvM} {x : LvM}, x ∈ lv → x.2.length ≤ frS lv := by
 intro l
 induction l with
 | nil => intro x hx; cases hx
 | cons y r ih =>
  intro x hx
  rw [gM]
  rcases List.mem_cons.1 hx with rfl | hx
  ·omega
  ·have := ih hx; omega
structure jm (M : VM) : Prop where
  ok : OkV M
  wd : WdV M
theorem jm.read {M : VM} {p : Int} (G : jm M) : jm (qf M p).2 := ⟨xg G.ok, G.wd.read2⟩
theorem jm.take {M : VM} {cs : List Cl} (G : jm M) (h : WdC cs) : jm (ji M cs).2 := ⟨Kd G.ok, G.wd.take h⟩
theorem jm.ask {M : VM} {b : Int} (G : jm M) : jm (zU M b).2 := ⟨J5 G.ok, qXI G.wd⟩
theorem WdC.two {a b : Cl} (ha : 0 ≤ a.2 ∧ a.2 < 18446744073709551616) (hb : 0 ≤ b.2 ∧ b.2 < 18446744073709551616) : WdC [a, b] := by
 intro c hc
 rcases List.mem_cons.1 hc with rfl | hc
 ·exact ha
 ·rw [List.mem_singleton] at hc; subst hc; exact hb
theorem WdC.one1 {a : Cl} (ha : 0 ≤ a.2 ∧ a.2 < 18446744073709551616) : WdC [a] := by
 intro c hc
 rw [List.mem_singleton] at hc; subst hc; exact ha
theorem jm.freeV {M : VM} {b : Int} (G : jm M) (hf : frS M.lv < 90000) : jm (freeV M b) := by
 refine ⟨qQr G.ok fun x hx => by have := qKM hx; omega, G.wd.k, ?_⟩
 show ∀ x ∈ wT M.lv b, ∀ c ∈ x.1, 0 ≤ c.2 ∧ c.2 < 18446744073709551616
 have := G.wd.l
 cases hl : M.lv with
 | nil => intro x hx; cases hx
 | cons y r =>
  rw [hl] at this
  intro x hx
  rcases List.mem_cons.1 hx with rfl | hx
  ·exact this y (List.mem_cons_self ..)
  ·exact this x (List.mem_cons_of_mem _ hx)
theorem jm.free {M : VM} {b : Int} (G : jm M) (hf : frS M.lv < 90000) : jm (freeA M b).2 ∧ frS (freeA M b).2.lv ≤ frS M.lv + 1 := by
 have hb := qJd M b
 have hc : WdC [(b - 1, (zU M b).1.1)] := .one1 ⟨hb.1, by dsimp only; omega⟩
 unfold freeA
 repeat' split
 ·refine ⟨(G.ask.take hc).freeV (by rw [vR, Qn]; exact hf), ?_⟩
  have := N3 (lv := (ji (zU M b).2 [(b - 1, (zU M b).1.1)]).2.lv) (b := b)
  rw [vR, Qn] at this
  exact this
 ·exact ⟨G.ask.take hc, by rw [vR, Qn]; omega⟩
 ·exact ⟨G.ask, by rw [Qn]; omega⟩
 ·exact ⟨G.ask, by rw [Qn]; omega⟩
theorem jm.again {M : VM} {c b : Int} (G : jm M) (hc : 0 ≤ c ∧ c ≤ 4) : jm (z7 M c b).2 ∧ frS (z7 M c b).2.lv = frS M.lv := by
 have ht : WdC [(c, (qf M b).1.1), (b - 1, c + 8)] := .two G.wd.read ⟨by dsimp only; omega, by dsimp only; omega⟩
 unfold z7
 repeat' split
 ·exact ⟨G, rfl⟩
 ·exact ⟨G.read.take ht, by rw [vR, xk]⟩
 ·exact ⟨G.read.take ht, by rw [vR, xk]⟩
 ·exact ⟨G.read, xk⟩
theorem jm.grown {M : VM} {c : Int} (G : jm M) (hc : 0 ≤ c ∧ c ≤ 4) : jm (xQ M c).2 ∧ frS (xQ M c).2.lv = frS M.lv := by
 have hs := GM c
 have hw := G.wd.read (p := 5)
 unfold xQ
 split
 ·split
  ·exact ⟨G.read, xk⟩
  ·rename_i h1
   have ht : WdC [(5, (qf M 5).1.1 + 1 + x7 c), ((qf M 5).1.1, c + 8)] := .two ⟨by dsimp only; omega, by dsimp only; omega⟩ ⟨by dsimp only; omega, by dsimp only; omega⟩
   split
   ·exact ⟨G.read.take ht, by rw [vR, xk]⟩
   ·exact ⟨G.read.take ht, by rw [vR, xk]⟩
 ·exact ⟨G.read, xk⟩
theorem jm.alloc {M : VM} {x : Int} (G : jm M) : jm (zz M x).2 ∧ frS (zz M x).2.lv = frS M.lv := by
 have hc := KR x
 unfold zz
 repeat' split
 ·exact ⟨G, rfl⟩
 ·exact ⟨(G.read.grown hc).1, by rw [(G.read.grown hc).2, xk]⟩
 ·exact ⟨(G.read.again hc).1, by rw [(G.read.again hc).2, xk]⟩
 ·exact ⟨G.read, xk⟩
theorem jm.openG {M : VM} (G : jm M) : jm (zP M).2 ∧ frS (zP M).2.lv = frS M.lv := by
 have e : (xq M.lv).2 = M.lv ∨ (xq M.lv).2 = ([], []) :: M.lv := by unfold xq; split <;> simp
 refine ⟨⟨⟨G.ok.lo, G.ok.hi, OU G.ok.lvs, G.ok.ins, G.ok.un, ?_⟩, G.wd.k, ?_⟩, ?_⟩
 ·show ∀ x ∈ (xq M.lv).2, _
  rcases e with e | e
  ·rw [e]; exact G.ok.fr
  ·rw [e]; intro x hx
   rcases List.mem_cons.1 hx with rfl | hx
   ·simp
   ·exact G.ok.fr x hx
 ·show ∀ x ∈ (xq M.lv).2, _
  rcases e with e | e
  ·rw [e]; exact G.wd.l
  ·rw [e]; intro x hx
   rcases List.mem_cons.1 hx with rfl | hx
   ·intro c hc; cases hc
   ·exact G.wd.l x hx
 ·show frS (xq M.lv).2 = _
  rcases e with e | e
  ·rw [e]
  ·rw [e, gM]; simp
theorem jm.dropG {M : VM} (G : jm M) : jm (zy M).2 ∧ frS (zy M).2.lv ≤ frS M.lv := by
 have e : (xl M.lv).2 = M.lv ∨ (xl M.lv).2 = M.lv.tail := by unfold xl; split <;> simp
 have hs : ∀ x ∈ (xl M.lv).2, x ∈ M.lv := by
  rcases e with e | e
  ·rw [e]; exact fun x hx => hx
  ·rw [e]; exact fun x hx => List.mem_of_mem_tail hx
 refine ⟨⟨⟨G.ok.lo, G.ok.hi, ZM G.ok.lvs, G.ok.ins, G.ok.un, fun x hx => G.ok.fr x (hs x hx)⟩, G.wd.k, fun x hx => G.wd.l x (hs x hx)⟩, ?_⟩
 show frS (xl M.lv).2 ≤ _
 rcases e with e | e
 ·rw [e]; exact Nat.le_refl _
 ·rw [e]
  cases M.lv with
  | nil => exact Nat.le_refl _
  | cons x r => rw [gM]; show frS r ≤ _; omega
theorem jm.keepG {M : VM} (G : jm M) (hf : frS M.lv < 90000) : jm (xX M).2 ∧ frS (xX M).2.lv = frS M.lv := by
 have hd := ZT G.ok.lvs
 have hfr := fun x (hx : x ∈ (xL M.lv).2) => qKM hx
 obtain ⟨sz, K, most, lv, need⟩ := M
 rcases lv with _ | ⟨x, _ | ⟨y, r⟩⟩
 ·exact ⟨G, rfl⟩
 ·exact ⟨G, rfl⟩
 ·have e := qJh (x := x) (y := y) (r := r)
  refine ⟨⟨⟨G.ok.lo, G.ok.hi, hd, G.ok.ins, G.ok.un, fun z hz => ?_⟩, G.wd.k, fun z hz => ?_⟩, e⟩
  ·have := hfr z hz
   rw [e] at this
   have hf : frS (x :: y :: r) < 90000 := hf
   omega
  ·have hl := G.wd.l
   have hx : WdC x.1 := hl x (by simp)
   have hy : WdC y.1 := hl y (by simp)
   have hz : z ∈ (je y.1 x.1, y.2 ++ x.2) :: r := hz
   rcases List.mem_cons.1 hz with rfl | hz
   ·exact hy.puts hx
   ·exact hl z (by simp [hz])
end Go.Proofs.YtdlfmpmpmkffjaaGreatDoor
namespace Go.Proofs.YtdlfmpmpmkffjaaGreatDoor
open Go Go.Ae
set_option maxRecDepth 100000
variable {g h : AH} {L R : List SP}
abbrev ItT : Type := Int × Int
def itS (x : ItT) : List UInt8 := if x.1 = 1 then Lib.decDigits x.2.toNat else if x.1 = 2 then (if x.2 = 1 then [121, 101, 115] else [110, 111]) else [110, 111, 110, 101]
def gp (x : ItT) : AV := if x.1 = 1 then .iface 26 (.int .u64 x.2) else if x.1 = 2 then .iface 4 (.bool (decide (x.2 = 1))) else .iface 263 (.agg [])
def Zr (x : ItT) : Prop := 0 ≤ x.2 ∧ x.2 < 18446744073709551616
def txtM (l : List ItT) : List UInt8 := Lib.join (l.map itS) [32]
theorem k8 (x : ItT) : One (gp x) := by unfold gp; (repeat' split) <;> exact ⟨rfl, rfl⟩
theorem X9 (l : List ItT) : qu (l.map gp) = true := by
 unfold qu
 rw [List.all_eq_true]
 intro v hv
 obtain ⟨x, _, rfl⟩ := List.mem_map.1 hv
 exact (k8 x).2
theorem Ye {s : List UInt8} {k1 k2 : IntKind} {lo hi : Nat} {K : AV → Go.Ae.R} {Q : AV → AH → Prop} (h1 : lo ≤ hi) (h2 : hi ≤ s.length) (w : wp (K (.str ((s.drop lo).take (hi - lo)))) Q) : wp (gG (.str s) (some (.int k1 (lo : Int))) (some (.int k2 (hi : Int))) K) Q := by
 unfold gG
 simp only [vX h2, vX h1, ob, vN]
 rw [yc (by rw [List.length_drop]; omega)]
 exact w
theorem OD {n : Nat} (hn : 1 ≤ n) {i : Nat} (hi : i < 100) : wp (callT tab qc n (.fn 204 [] []) [.int .i64 (i : Int)] h) fun r h' => r = .str (Lib.decDigits i) ∧ h' = h := by
 (refine qr (g := W204) rfl (by omega) fun k hk => ?_; show wp (S204 (callT tab qc k) _ _) _; unfold S204; try simp only [iI, uU, Int.ofNat_eq_natCast])
 by_cases h1 : i < 10
 ·refine xj (by omega) (qY ?_)
  refine qh (by omega) ?_
  rw [show (i : Int) + ((1 : Nat) : Int) = ((i + 1 : Nat) : Int) by omega]
  refine Ye (by omega) (by show i + 1 ≤ 36; omega) (qk ⟨?_, rfl⟩)
  rw [← Lib.digits36_piece h1]
  congr 2
 ·refine ze (by omega) (qQ ?_)
  refine Gy (by omega) (Gy (by omega) (qh (by omega) ?_))
  rw [show (i : Int) * ((2 : Nat) : Int) + ((2 : Nat) : Int) = ((i * 2 + 2 : Nat) : Int) by omega, show (i : Int) * ((2 : Nat) : Int) = ((i * 2 : Nat) : Int) by omega]
  refine Ye (by omega) (by show i * 2 + 2 ≤ 200; omega) (qk ⟨?_, rfl⟩)
  rw [← Lib.smalls_piece h1 hi]
  congr 2
theorem nd_ok {n : Nat} (hn : 1 ≤ n) {u : Nat} (h1 : 1 ≤ u) (h2 : u < 18446744073709551616) : wp (callT tab qc n (.fn 205 [] []) [.int .u64 (u : Int)] h) fun r h' => r = .int .i64 (Lib.nDigits u : Int) ∧ h' = h := by
 refine qr (g := W205) rfl (by omega) fun k hk => ?_
 show wp (xNd _ [.int .u64 (.ofNat u)] h) _
 unfold xNd
 dsimp only
 rw [Nat.ble_eq_true_of_le h1, Nat.ble_eq_true_of_le (show u + 1 ≤ 18446744073709551616 by omega)]
 exact ⟨_, _, rfl, rfl, rfl⟩
theorem Oo : ∀ (bs : List UInt8), OX (bs.map fun c => .int .u8 (.ofNat c.toNat)) = some bs := by
 intro bs
 induction bs with
 | nil => rfl
 | cons b bs ih =>
  rw [List.map_cons]
  unfold OX
  rw [ih, Nat.ble_eq_true_of_le (show b.toNat + 1 ≤ 256 from b.toNat_lt)]
  simp
theorem fb_ok {n : Nat} (hn : 1 ≤ n) {b u nd : Nat} {bs : List UInt8} {ys : List AV} (H : HS g h (qU b ((bs.map fun c => .int .u8 (.ofNat c.toNat)) ++ ys) :: R)) (hb : bs.length = nd) (h1 : u < 10 ^ nd) (h2 : u < 18446744073709551616) (h3 : nd ≤ 100) (hys : qu ys = true) :
  wp (callT tab qc n (.fn 206 [] []) [.slice b 0 nd 24 false, .int .u64 (u : Int)] h) fun r h' => HS g h' (qU b (dgs nd u ++ ys) :: R) := by
 refine qr (g := W206) rfl (by omega) fun k hk => ?_
 show wp (xFb _ [.slice b 0 nd 24 false, .int .u64 (.ofNat u)] h) _
 obtain ⟨D, ⟨hD, e, A⟩, hb2, kk⟩ := H.act
 obtain ⟨c, c1, c2, c3⟩ := A.blk
 unfold xFb
 simp only [c1, c2]
 rw [List.take_append_of_le_length (by simp; omega), List.take_of_length_le (by simp; omega), Oo]
 simp only []
 rw [show Nat.beq bs.length nd = true from by rw [hb]; exact Nat.beq_refl _, Nat.ble_eq_true_of_le (show u + 1 ≤ 10 ^ nd by omega), Nat.ble_eq_true_of_le (show u + 1 ≤ 18446744073709551616 by omega), Nat.ble_eq_true_of_le h3]
 simp only [Bool.and_self, cond_true]
 rw [List.drop_append_of_le_length (by simp; omega), List.drop_of_length_le (by simp; omega), List.nil_append]
 refine ⟨_, _, rfl, kk _ (qU b (dgs nd u ++ ys)) D ⟨by simp, fun a ha hn => AH.get_put_ne h _ fun e => hn ((hD a).2 e.symm)⟩ ⟨hD, e, by simpa using A.lt, CT.ofList _, AH.get_put_same .., CT.ofList_ok _, CT.full_ofList _⟩ fun a ha => ⟨.inl ha, by simpa using (hb2 a ha).2⟩⟩
theorem Um : ∀ (xs : List (List UInt8)), JI (xs.map .str) = some xs := by
 intro xs
 induction xs with
 | nil => rfl
 | cons x xs ih => rw [List.map_cons]; unfold JI; rw [ih]; rfl
theorem qXF {n : Nat} (hn : 1 ≤ n) {b m : Nat} {e : TypeId} {xs : List (List UInt8)} {sep : List UInt8} (H : HS g h (Cell b (xs.map .str) e false :: R)) (hm : xs.length = m) (h1 : m ≤ 1000000) (h2 : (Lib.join xs sep).length ≤ 1000000) :
  wp (callT tab qc n (.fn 55 [] []) [.slice b 0 m m false, .str sep] h) fun r h' => r = .str (Lib.join xs sep) ∧ h' = h := by
 refine qr (g := W55) rfl (by omega) fun k hk => ?_
 show wp (Ko _ [.slice b 0 m m false, .str sep] h) _
 obtain ⟨D, hD, A⟩ := H.p .here
 obtain ⟨c, c1, c2, c3⟩ := A.blk
 unfold Ko
 simp only [c1, c2, List.drop_zero]
 rw [List.take_of_length_le (by simp; omega), Um]
 simp only []
 rw [show Nat.beq xs.length m = true from by rw [hm]; exact Nat.beq_refl _, Nat.ble_eq_true_of_le (Nat.le_refl m), Nat.ble_eq_true_of_le h1, Nat.ble_eq_true_of_le h2]
 exact ⟨_, _, rfl, rfl, rfl⟩
theorem Mo (nd u : Nat) : ge (dgs nd u) = some ((List.range nd).map fun t => Lib.dg u (nd - 1 - t)) := by
 unfold dgs
 have key : ∀ l : List Nat, ge (l.map fun t => AV.int .u8 (.ofNat (Lib.dg u (nd - 1 - t)).toNat)) = some (l.map fun t => Lib.dg u (nd - 1 - t)) := by
  intro l
  induction l with
  | nil => rfl
  | cons a l ih => rw [List.map_cons]; unfold ge; rw [ih]; simp
 exact key _
theorem Np {n : Nat} (hn : 2 ≤ n) {u : Nat} (h2 : u < 18446744073709551616) (H : HS g h R) : wp (callT tab qc n (.fn 137 [] []) [.int .u64 (u : Int), .int .i64 10] h) fun r h' => r = .str (Lib.decDigits u) ∧ HS g h' R := by
 (refine qr (g := W137) rfl (by omega) fun k hk => ?_; show wp (S137 (callT tab qc k) _ _ _) _; unfold S137; try simp only [iI, uU, Int.ofNat_eq_natCast])
 refine qO rfl (qY ?_)
 by_cases h1 : u < 100
 ·refine xj (by omega) (qY ?_)
  refine zn (by omega) ?_
  refine qx (OD (by omega) h1) ?_
  rintro _ _ ⟨rfl, rfl⟩
  exact qk ⟨rfl, H⟩
 ·refine ze (by omega) (qQ ?_)
  refine jJ H rfl fun b h3 H3 => ?_
  have hnd := Lib.nDigits_le20 u h2
  have hpos := Lib.nDigits_pos u
  have hlt := Lib.lt_pow_nDigits u
  have hdec := Lib.decDigits_eq u
  refine qx (nd_ok (by omega) (by omega) h2) ?_
  generalize Lib.nDigits u = nd at *
  have H4 : HS g h3 (qU b (((List.replicate nd (0 : UInt8)).map fun c => .int .u8 (.ofNat c.toNat)) ++ List.replicate (24 - nd) (.int .u8 (.ofNat 0))) :: R) := by
   have e : (List.replicate nd (0 : UInt8)).map (fun c => AV.int .u8 (.ofNat c.toNat)) ++ List.replicate (24 - nd) (AV.int .u8 (.ofNat 0)) = List.replicate 24 (AV.int .u8 (.ofNat 0)) := by
    rw [List.map_replicate]
    show List.replicate nd (AV.int .u8 (.ofNat 0)) ++ _ = _
    rw [List.replicate_append_replicate, show nd + (24 - nd) = 24 by omega]
   rw [e]; exact H3
  rintro _ _ ⟨rfl, rfl⟩
  have hcut : ∀ (K : AV → Go.Ae.R) (Q : AV → AH → Prop), wp (K (.slice b 0 nd 24 false)) Q → wp (yy 24 1 (.ptr b 0) none (some (.int .i64 (nd : Int))) K) Q := by
   intro K Q w
   unfold yy
   simp only [vX (show nd ≤ 24 by omega), ob, show xf none nd 0 = some 0 from rfl]
   exact w
  refine hcut _ _ ?_
  refine qx (fb_ok (by omega) H4 (by simp) hlt h2 (by omega) (by unfold qu; rw [List.all_eq_true]; intro y hy; rw [List.eq_of_mem_replicate hy]; rfl)) ?_
  intro _ h5 H5
  refine hcut _ _ ?_
  obtain ⟨e, A⟩ := H5.obj .here
  unfold Gw
  dsimp only
  rw [Yg A (by simp [wD]), List.drop_zero, List.take_append_of_le_length (by rw [wD]; exact Nat.le_refl _), List.take_of_length_le (by rw [wD]; exact Nat.le_refl _)]
  simp only [ob, Mo]
  exact qk ⟨by rw [hdec], H5.drop⟩
theorem VJ {n : Nat} (hn : 3 ≤ n) {u : Int} (h0 : 0 ≤ u) (h2 : u < 18446744073709551616) (H : HS g h R) : wp (callT tab qc n (.fn 89 [] []) [.int .u64 u, .int .i64 10] h) fun r h' => r = .str (Lib.decDigits u.toNat) ∧ HS g h' R := by
 (refine qr (g := W89) rfl (by omega) fun k hk => ?_; show wp (S89 (callT tab qc k) _ _ _) _; unfold S89; try simp only [iI, uU, Int.ofNat_eq_natCast])
 obtain ⟨m, rfl⟩ : ∃ m : Nat, u = m := ⟨u.toNat, by omega⟩
 refine qx (Np (by omega) (u := m) (by omega) H) ?_
 rintro _ h3 ⟨rfl, H3⟩
 exact qk ⟨rfl, H3⟩
theorem V7 {t : TypeId} {z x : AV} {K : AV → Go.Ae.R} {Q : AV → AH → Prop} (w : wp (K (.tup [x, .bool true])) Q) : wp (xc t z (.iface t x) K) Q := by
 show wp (bif Nat.beq t t then _ else _) Q
 rw [Nat.beq_refl]; exact w
theorem G1 {t u : TypeId} {z x : AV} {K : AV → Go.Ae.R} {Q : AV → AH → Prop} (h : Nat.beq u t = false) (w : wp (K (.tup [z, .bool false])) Q) : wp (xc t z (.iface u x) K) Q := by
 show wp (bif Nat.beq u t then _ else _) Q
 rw [h]; exact w
theorem qKB {n : Nat} (hn : 4 ≤ n) {x : ItT} (hx : Zr x) (H : HS g h R) : wp (callT tab qc n (.fn 54 [] []) [gp x] h) fun r h' => r = .str (itS x) ∧ HS g h' R := by
 (refine qr (g := W54) rfl (by omega) fun k hk => ?_; show wp (S54 (callT tab qc k) _ _) _; unfold S54; try simp only [iI, uU, Int.ofNat_eq_natCast])
 unfold gp itS
 by_cases h1 : x.1 = 1
 ·rw [if_pos h1, if_pos h1]
  refine V7 ?_
  refine qH rfl (qH rfl (qY ?_))
  refine qx (VJ (by omega) hx.1 hx.2 H) ?_
  rintro _ h3 ⟨rfl, H3⟩
  exact qk ⟨rfl, H3⟩
 ·rw [if_neg h1, if_neg h1]
  by_cases h2 : x.1 = 2
  ·rw [if_pos h2, if_pos h2]
   refine G1 rfl ?_
   refine qH rfl (qH rfl (qQ ?_))
   refine V7 ?_
   refine qH rfl (qH rfl (qY ?_))
   by_cases h3 : x.2 = 1
   ·rw [decide_eq_true h3, if_pos h3]
    exact qY (qk ⟨rfl, H⟩)
   ·rw [decide_eq_false h3, if_neg h3]
    exact qQ (qk ⟨rfl, H⟩)
  ·rw [if_neg h2, if_neg h2]
   refine G1 rfl ?_
   refine qH rfl (qH rfl (qQ ?_))
   refine G1 rfl ?_
   exact qH rfl (qH rfl (qQ (qk ⟨rfl, H⟩)))
theorem qX2 (x : ItT) (hx : Zr x) : (itS x).length ≤ 20 := by
 unfold itS
 have h1 := hx.1
 have h2 := hx.2
 split
 ·rw [Lib.decDigits_length]; exact Lib.nDigits_le20 _ (by omega)
 ·split
  ·split <;> decide
  ·decide
theorem qQ1 {m : Nat} : ∀ (xs : List (List UInt8)), (∀ x ∈ xs, x.length ≤ m) → (Lib.join xs [32]).length ≤ xs.length * (m + 1) := by
 intro xs hx
 cases xs with
 | nil => simp [Lib.join_nil]
 | cons x r =>
  rw [Lib.join_cons, List.length_append]
  have h1 := hx x (List.mem_cons_self ..)
  have h2 : ∀ r : List (List UInt8), (∀ x ∈ r, x.length ≤ m) → (Lib.joinTail [32] r).length ≤ r.length * (m + 1) := by
   intro r
   induction r with
   | nil => intro _; simp [Lib.joinTail]
   | cons y r ih =>
    intro h
    have a := h y (List.mem_cons_self ..)
    have b := ih fun z hz => h z (List.mem_cons_of_mem _ hz)
    unfold Lib.joinTail at *
    simp only [List.map_cons, List.flatten_cons, List.length_append, List.length_cons, List.length_nil, Nat.add_mul]
    omega
  have h3 := h2 r fun z hz => hx z (List.mem_cons_of_mem _ hz)
  rw [List.length_cons, Nat.add_mul]
  omega
theorem qXH {l : List ItT} (hl : l.length ≤ 1000) (hi : ∀ x ∈ l, Zr x) : (txtM l).length ≤ 1000000 := by
 unfold txtM
 have := qQ1 (m := 20) (l.map itS) (fun y hy => by obtain ⟨x, hx, rfl⟩ := List.mem_map.1 hy; exact qX2 x (hi x hx))
 rw [List.length_map] at this
 omega
theorem qQC {e : TypeId} {z : AV} {n : Nat} {k1 k2 : IntKind} {K2 : AV → AH → Go.Ae.R} {Q : AV → AH → Prop} (H : HS g h L) (h2 : n ≤ 1073741824)
  (w : ∀ b h', HS g h' (Cell b (List.replicate n z) e false :: L) → wp (K2 (.slice b 0 n n false) h') Q) : wp (y8 h e [z] (.int k1 (n : Int)) (.int k2 (n : Int)) K2) Q := by
 refine GE (Nat.le_refl n) h2 fun b h' hb A F => w b h' (H.add (D' := fun a => a = b) F.none ⟨fun a => Iff.rfl, by rw [Yk] at A; exact A⟩ ?_)
 rintro a rfl; exact ⟨hb, A.lt⟩
def SlaC (o : Nat) (l : List ItT) : SP := .ex fun sv => .all [qU o [sv], qb 20 1 l.length sv (l.map gp)]
theorem SlaC.E {o : Nat} {l : List ItT} (H : HS g h (SlaC o l :: R)) : ∃ sv, HS g h (qU o [sv] :: qb 20 1 l.length sv (l.map gp) :: R) := by
 obtain ⟨sv, H⟩ := H.exE
 exact ⟨sv, H.allE⟩
theorem SlaC.I {o : Nat} {l : List ItT} {sv : AV} (H : HS g h (qU o [sv] :: qb 20 1 l.length sv (l.map gp) :: R)) : HS g h (SlaC o l :: R) := HS.exI sv H.allI
theorem Mc {n : Nat} (hn : 5 ≤ n) {o : Nat} {l : List ItT} (H : HS g h (SlaC o l :: R)) (hl : l.length ≤ 1000) (hi : ∀ x ∈ l, Zr x) :
  wp (callT tab qc n (.fn 17 [] []) [.ptr o 0] h) fun r h' => r = .str (txtM l) ∧ HS g h' (SlaC o l :: R) := by
 (refine qr (g := W17) rfl (by omega) fun k hk => ?_; show wp (S17 (callT tab qc k) _ _) _; unfold S17; try simp only [iI, uU, Int.ofNat_eq_natCast])
 obtain ⟨sv, H⟩ := SlaC.E H
 with_reducible (refine qL ?_; refine qV ?_; refine qv (by assumption) .here rfl ?_; refine jb (by assumption) e_1 ?_)
 refine qQC (n := l.length) H (by omega) fun b h2 H2 => ?_
 with_reducible (refine qL ?_; refine qV ?_; refine qv (by assumption) e_1 rfl ?_; refine jb (by assumption) e_2 ?_)
 refine zW (fun m s h' => ∃ i : Nat, s = (.int .i64 (i : Int), .int .i64 (l.length : Int), sv, .slice b 0 l.length l.length false, ()) ∧ i ≤ l.length ∧ m = l.length - i ∧
  HS g h' (Cell b (((l.take i).map fun x => .str (itS x)) ++ List.replicate (l.length - i) (.str [])) 9 false :: qU o [sv] :: qb 20 1 l.length sv (l.map gp) :: R))
  ?_ (m := l.length) (by show _ < 1000000000; omega) ⟨0, rfl, by omega, by omega, H2⟩
 clear H H2
 rintro m ih s h3 hih ⟨i, rfl, h1, rfl, H⟩
 dsimp only
 by_cases hlt : i < l.length
 ·refine xj (by omega) (qY ?_)
  refine ju (H.sl e_2) (x := gp l[i]) (by rw [List.getElem?_map, List.getElem?_eq_getElem hlt]; rfl) ?_
  refine qx (qKB (by omega) (hi _ (List.getElem_mem hlt)) H) ?_
  rintro _ h4 ⟨rfl, H4⟩
  refine Qp (k := .i64) hlt ?_
  refine ZN H4 rfl (by simp; omega) rfl fun h5 H5 => ?_
  refine qh (by omega) (hih (l.length - (i + 1)) _ _ (by omega) ⟨i + 1, rfl, by omega, rfl, ?_⟩)
  have e : wZ (((l.take i).map fun x => AV.str (itS x)) ++ List.replicate (l.length - i) (.str [])) (0 + i * 1) (AV.str (itS l[i])).cells = ((l.take (i + 1)).map fun x => AV.str (itS x)) ++ List.replicate (l.length - (i + 1)) (.str []) := by
   rw [Nat.zero_add, Nat.mul_one]
   show wZ _ i [AV.str (itS l[i])] = _
   rw [Qe (by simp; omega), List.take_add_one, List.getElem?_eq_getElem hlt, List.map_append, show l.length - i = (l.length - (i + 1)) + 1 by omega, List.replicate_succ, List.set_append_right _ _ (by simp; omega)]
   have hz : i - ((l.take i).map fun x => AV.str (itS x)).length = 0 := by simp; omega
   rw [hz, List.set_cons_zero, List.append_assoc]; rfl
  rw [e] at H5
  exact H5
 ·obtain rfl : i = l.length := by omega
  refine ze (by omega) (qQ ?_)
  rw [Nat.sub_self, List.take_length, List.replicate_zero, List.append_nil] at H
  have H2 : HS g h3 (Cell b ((l.map itS).map .str) 9 false :: qU o [sv] :: qb 20 1 l.length sv (l.map gp) :: R) := by
   rw [List.map_map]; exact H
  refine qx (qXF (by omega) H2 (by simp) (by omega) (qXH hl hi)) ?_
  rintro _ _ ⟨rfl, rfl⟩
  exact qM (qk ⟨rfl, SlaC.I H.drop⟩)
end Go.Proofs.YtdlfmpmpmkffjaaGreatDoor
namespace Go.Proofs.YtdlfmpmpmkffjaaGreatDoor
open Go Go.Ae
structure PtM where
  op : Int
  pc : Int
  regs : List Int
  told : Nat
structure IM where
  regs : List Int
  out : List ItT
  pc : Int
  opn : List PtM
structure SM where
  e : Int
  nx : Int
  blk : Bool
  s : IM
  v : VM
def setR (s : IM) (i v : Int) : IM := { s with regs := s.regs.set i.toNat v }
def xw (b off : Int) : Int × Int := if 2147483648 ≤ b ∨ 2147483648 ≤ b + off ∨ b + off < 6 then (0, 2) else (b + off, 0)
def QM (p : Prop) [Decidable p] : Int := if p then 1 else 0
def jI (s : IM) (V : VM) (x : qI) : Int × IM × VM :=
 if x.1 = 8 then
  (if (xw (qa s.regs x.2.2.1) x.2.2.2.1).2 = 0 then
   (if (qf V (xw (qa s.regs x.2.2.1) x.2.2.2.1).1).1.2 = 0 then (0, setR s x.2.1 (qf V (xw (qa s.regs x.2.2.1) x.2.2.2.1).1).1.1, (qf V (xw (qa s.regs x.2.2.1) x.2.2.2.1).1).2)
    else ((qf V (xw (qa s.regs x.2.2.1) x.2.2.2.1).1).1.2, s, (qf V (xw (qa s.regs x.2.2.1) x.2.2.2.1).1).2))
  else (2, s, V))
 else if x.1 = 9 then
  (if (xw (qa s.regs x.2.1) x.2.2.2.1).2 = 0 then ((ji V [((xw (qa s.regs x.2.1) x.2.2.2.1).1, qa s.regs x.2.2.1)]).1, s, (ji V [((xw (qa s.regs x.2.1) x.2.2.2.1).1, qa s.regs x.2.2.1)]).2)
  else (2, s, V))
 else if x.1 = 10 then
  (if 2147483648 ≤ qa s.regs x.2.2.1 then (3, s, V)
  else if (zz V (qa s.regs x.2.2.1)).1.2 = 0 then (0, setR s x.2.1 (zz V (qa s.regs x.2.2.1)).1.1, (zz V (qa s.regs x.2.2.1)).2)
  else ((zz V (qa s.regs x.2.2.1)).1.2, s, (zz V (qa s.regs x.2.2.1)).2))
 else
  (if 2147483648 ≤ qa s.regs x.2.1 then (2, s, V) else ((freeA V (qa s.regs x.2.1)).1, s, (freeA V (qa s.regs x.2.1)).2))
def jN (op at_ nx : Int) (s : IM) (V : VM) : SM :=
 if (zP V).1 = 0 then ⟨0, nx, false, { s with opn := ⟨op, at_, s.regs, s.out.length⟩ :: s.opn }, (zP V).2⟩ else ⟨(zP V).1, nx, false, s, (zP V).2⟩
def vn (s : IM) (p : PtM) : IM := { s with regs := p.regs, out := s.out.take p.told }
def yE (mt : List Int) : List PtM → IM → VM → SM
 | [], s, V => ⟨0, s.pc, true, { s with opn := [] }, V⟩
 | p :: o, s, V =>
  if (zy V).1 = 0 then
   (if p.op = 17 then jN 18 (qa mt p.pc) (qa mt p.pc + 1) { vn s p with opn := o } (zy V).2
   else yE mt o s (zy V).2)
  else ⟨(zy V).1, s.pc + 1, false, { s with opn := o }, (zy V).2⟩
def Q7 (o : List PtM) : PtM := (o.head?).getD ⟨0, 0, [0, 0, 0, 0, 0, 0, 0, 0], 0⟩
def g9 (mt : List Int) (s : IM) (V : VM) (op : Int) : SM :=
 if op = 14 ∨ op = 17 then jN op s.pc (s.pc + 1) s V
 else if op = 15 ∨ op = 19 then ⟨(xX V).1, s.pc + 1, false, { s with opn := s.opn.tail }, (xX V).2⟩
 else if op = 18 then ⟨(xX V).1, qa mt s.pc + 1, false, { s with opn := s.opn.tail }, (xX V).2⟩
 else if op = 16 then ⟨(zy V).1, qa mt s.pc + 1, false, { vn s (Q7 s.opn) with opn := s.opn.tail }, (zy V).2⟩
 else yE mt s.opn s V
def doM (mt : List Int) (s : IM) (V : VM) (x : qI) : SM :=
 if x.1 = 1 then ⟨0, s.pc + 1, false, setR s x.2.1 x.2.2.2.2, V⟩
 else if x.1 = 2 then ⟨0, s.pc + 1, false, setR s x.2.1 (qa s.regs x.2.2.1), V⟩
 else if x.1 = 3 then ⟨0, s.pc + 1, false, setR s x.2.1 (zL .u64 (qa s.regs x.2.2.1 + qa s.regs x.2.2.2.1)), V⟩
 else if x.1 = 4 then ⟨0, s.pc + 1, false, setR s x.2.1 (zL .u64 (qa s.regs x.2.2.1 - qa s.regs x.2.2.2.1)), V⟩
 else if x.1 = 5 then ⟨0, s.pc + 1, false, setR s x.2.1 (zL .u64 (qa s.regs x.2.2.1 * qa s.regs x.2.2.2.1)), V⟩
 else if x.1 = 6 then ⟨0, s.pc + 1, false, setR s x.2.1 (QM (qa s.regs x.2.2.1 < qa s.regs x.2.2.2.1)), V⟩
 else if x.1 = 7 then ⟨0, s.pc + 1, false, setR s x.2.1 (QM (qa s.regs x.2.2.1 = qa s.regs x.2.2.2.1)), V⟩
 else if x.1 = 12 then ⟨0, x.2.2.2.1, false, s, V⟩
 else if x.1 = 13 then ⟨0, if qa s.regs x.2.1 = 0 then x.2.2.2.1 else s.pc + 1, false, s, V⟩
 else if x.1 = 21 then (if 16 ≤ s.out.length then ⟨5, s.pc + 1, false, s, V⟩ else ⟨0, s.pc + 1, false, { s with out := s.out ++ [(1, qa s.regs x.2.1)] }, V⟩)
 else if x.1 = 22 then ⟨13, s.pc + 1, false, s, V⟩
 else if x.1 = 8 ∨ x.1 = 9 ∨ x.1 = 10 ∨ x.1 = 11 then ⟨(jI s V x).1, s.pc + 1, false, (jI s V x).2.1, (jI s V x).2.2⟩
 else g9 mt s V x.1
structure RM where
  kind : Int
  err : Int
  left : Nat
  s : IM
  v : VM
def jB (l : List qI) (mt : List Int) : Nat → IM → VM → RM
 | 0, s, V => if s.pc = l.length then ⟨2, 0, 0, s, V⟩ else ⟨4, 6, 0, s, V⟩
 | n + 1, s, V =>
  if s.pc = l.length then ⟨2, 0, n + 1, s, V⟩
  else if (doM mt s V (qA l s.pc)).e = 0 then
   (if (doM mt s V (qA l s.pc)).blk = true then ⟨3, 0, n, { (doM mt s V (qA l s.pc)).s with pc := (doM mt s V (qA l s.pc)).nx }, (doM mt s V (qA l s.pc)).v⟩
   else jB l mt n { (doM mt s V (qA l s.pc)).s with pc := (doM mt s V (qA l s.pc)).nx } (doM mt s V (qA l s.pc)).v)
  else if (doM mt s V (qA l s.pc)).e = 11 then ⟨1, 0, n + 1, (doM mt s V (qA l s.pc)).s, (doM mt s V (qA l s.pc)).v⟩
  else ⟨4, (doM mt s V (qA l s.pc)).e, n + 1, (doM mt s V (qA l s.pc)).s, (doM mt s V (qA l s.pc)).v⟩
theorem yr {l : List qI} {mt : List Int} {s : IM} {V : VM} : jB l mt 0 s V = if s.pc = l.length then ⟨2, 0, 0, s, V⟩ else ⟨4, 6, 0, s, V⟩ := rfl
theorem yF {l : List qI} {mt : List Int} {n : Nat} {s : IM} {V : VM} : jB l mt (n + 1) s V = if s.pc = l.length then ⟨2, 0, n + 1, s, V⟩
  else if (doM mt s V (qA l s.pc)).e = 0 then
   (if (doM mt s V (qA l s.pc)).blk = true then ⟨3, 0, n, { (doM mt s V (qA l s.pc)).s with pc := (doM mt s V (qA l s.pc)).nx }, (doM mt s V (qA l s.pc)).v⟩
   else jB l mt n { (doM mt s V (qA l s.pc)).s with pc := (doM mt s V (qA l s.pc)).nx } (doM mt s V (qA l s.pc)).v)
  else if (doM mt s V (qA l s.pc)).e = 11 then ⟨1, 0, n + 1, (doM mt s V (qA l s.pc)).s, (doM mt s V (qA l s.pc)).v⟩
  else ⟨4, (doM mt s V (qA l s.pc)).e, n + 1, (doM mt s V (qA l s.pc)).s, (doM mt s V (qA l s.pc)).v⟩ := rfl
theorem wK {l : List qI} {mt : List Int} {s : IM} {V : VM} (h0 : s.pc = l.length) : ∀ n, jB l mt n s V = ⟨2, 0, n, s, V⟩ := by
 intro n
 cases n with
 | zero => rw [yr, if_pos h0]
 | succ n => rw [yF, if_pos h0]
def qj (l : List qI) : Nat → List Int
 | 0 => []
 | i + 1 => jg (qj l i) i (qA l i).1
theorem jt {l : List qI} {i : Nat} (h : i < l.length) : qA l (i : Int) = l[i] := by
 unfold qA
 rw [Int.toNat_natCast, List.getElem?_eq_getElem h]; rfl
theorem jw {l : List qI} {i : Nat} : qj l (i + 1) = jg (qj l i) i (qA l i).1 := rfl
theorem qQI {l : List qI} : ∀ (d i : Nat) {st' : List Int}, i + d = l.length → goM l (l.drop i) i (qj l i) = .inr st' → (∀ j, i ≤ j → j < l.length → jH l (qj l j) (qA l j) = 0) ∧ qj l l.length = st' := by
 intro d
 induction d with
 | zero =>
  intro i st' hi h
  obtain rfl : i = l.length := by omega
  rw [List.drop_length] at h
  cases h
  exact ⟨fun j h1 h2 => by omega, rfl⟩
 | succ d ih =>
  intro i st' hi h
  have hlt : i < l.length := by omega
  rw [w6 hlt] at h
  split at h
  ·rename_i hw
   obtain ⟨a, b⟩ := ih (i + 1) (st' := st') (by omega) (by rw [jw, jt hlt]; exact h)
   refine ⟨fun j h1 h2 => ?_, b⟩
   by_cases hj : j = i
   ·subst hj; rw [jt hlt]; exact hw
   ·exact a j (by omega) h2
  ·cases h
theorem JF {l : List qI} : ∀ (d i : Nat), i + d = l.length → ∀ k, i + k < l.length → (xP (l.drop i) i (qj l i))[k]? = some (jZ (qj l (i + k))) := by
 intro d
 induction d with
 | zero => intro i hi k hk; omega
 | succ d ih =>
  intro i hi k hk
  have hlt : i < l.length := by omega
  rw [Gz hlt]
  cases k with
  | zero => rfl
  | succ k =>
   rw [List.getElem?_cons_succ]
   have := ih (i + 1) (by omega) k (by omega)
   rw [jw, jt hlt] at this
   rw [show i + (k + 1) = i + 1 + k by omega]
   exact this
structure Fit (l : List qI) : Prop where
  pos : 0 < l.length
  le : l.length ≤ 40
  ok : ∀ j, j < l.length → jH l (qj l j) (qA l j) = 0
  nil : qj l l.length = []
  reg : ∀ j, j < l.length → (xP l 0 [])[j]? = some (jZ (qj l j))
  jump : ∀ j, j < l.length → ¬ gH l (xP l 0 []) j (qA l j)
theorem Nf {l : List qI} {a : List Int} : ∀ (d i : Nat), i + d = l.length → (wc l a (l.drop i) i).2 = 0 → ∀ j, i ≤ j → j < l.length → ¬ gH l a j (qA l j) := by
 intro d
 induction d with
 | zero => intro i hi _ j h1 h2; omega
 | succ d ih =>
  intro i hi h j h1 h2
  have hlt : i < l.length := by omega
  rw [wC hlt] at h
  split at h
  ·cases h
  ·rename_i hn
   by_cases hj : j = i
   ·subst hj; rw [jt hlt]; exact hn
   ·exact ih (i + 1) (by omega) h j (by omega) h2
theorem yb {l : List qI} (h : (xG l).2 = 0) : Fit l := by
 have hg := X8 h
 obtain ⟨a, b⟩ := qQI (l := l) l.length 0 (st' := []) (by omega) hg
 unfold xG at h
 split at h
 ·cases h
 ·rename_i h0
  rw [hg] at h
  dsimp only at h
  rw [if_pos rfl] at h
  exact ⟨by omega, by omega, fun j hj => a j (Nat.zero_le _) hj, b, fun j hj => by
   have := JF (l := l) l.length 0 (by omega) j (by omega)
   rw [Nat.zero_add] at this
   exact this, fun j hj => Nf l.length 0 (by omega) h j (Nat.zero_le _) hj⟩
def Rises (i : Nat) (st : List Int) : Prop := StOk i st ∧ st.Pairwise (· < ·)
theorem JK {l : List qI} : ∀ i, Rises i (qj l i) := by
 intro i
 induction i with
 | zero => exact ⟨StOk.nil, List.Pairwise.nil⟩
 | succ i ih =>
  refine ⟨ih.1.behind, ?_⟩
  rw [jw]
  have hd : (qj l i).dropLast.Pairwise (· < ·) := ih.2.sublist (List.dropLast_sublist _)
  have hp : ∀ st : List Int, StOk i st → st.Pairwise (· < ·) → (st ++ [(i : Int)]).Pairwise (· < ·) := by
   intro st h1 h2
   rw [List.pairwise_append]
   refine ⟨h2, List.pairwise_singleton .., fun a ha b hb => ?_⟩
   rw [List.mem_singleton] at hb
   subst hb
   exact (h1 a ha).2
  unfold jg
  repeat' split
  ·exact hp _ ih.1.dropLast hd
  ·exact hp _ ih.1 ih.2
  ·exact hd
  ·exact ih.2
theorem GQ {l : List qI} : ∀ (i k p : Nat), (qj l i)[k]? = some (p : Int) → qj l (p + 1) = (qj l i).take (k + 1) := by
 intro i
 induction i with
 | zero => intro k p h; simp [qj] at h
 | succ i ih =>
  intro k p h
  have key : ∀ st : List Int, (∀ k p : Nat, st[k]? = some (p : Int) → qj l (p + 1) = st.take (k + 1)) → qj l (i + 1) = st ++ [(i : Int)] → qj l (p + 1) = (qj l (i + 1)).take (k + 1) := by
   intro st hst he
   rw [he] at h ⊢
   by_cases hk : k < st.length
   ·rw [List.getElem?_append_left hk] at h
    rw [hst k p h, List.take_append_of_le_length (by omega)]
   ·have hk2 : k = st.length := by
     have := (List.getElem?_eq_some_iff.1 h).1
     simp at this; omega
    subst hk2
    rw [List.getElem?_append_right (Nat.le_refl _), Nat.sub_self] at h
    simp at h
    have : p = i := by omega
    subst this
    rw [he, List.take_of_length_le (by simp)]
  have hdrop : ∀ k p : Nat, (qj l i).dropLast[k]? = some (p : Int) → qj l (p + 1) = (qj l i).dropLast.take (k + 1) := by
   intro k p h
   have hk := (List.getElem?_eq_some_iff.1 h).1
   have hk2 : k + 1 ≤ (qj l i).length - 1 := by have := hk; simp at this; omega
   have h2 : (qj l i)[k]? = some (p : Int) := by
    rw [List.getElem?_dropLast] at h
    split at h
    ·exact h
    ·cases h
   rw [ih k p h2, List.dropLast_eq_take, List.take_take, Nat.min_eq_left hk2]
  by_cases hb : zC (qA l i).1 = true ∨ (qA l i).1 = 18
  ·by_cases he : 0 < jc (qA l i).1
   ·exact key _ hdrop (by rw [jw]; unfold jg; rw [if_pos hb, if_pos he])
   ·exact key _ ih (by rw [jw]; unfold jg; rw [if_pos hb, if_neg he])
  ·by_cases he : 0 < jc (qA l i).1
   ·have e : qj l (i + 1) = (qj l i).dropLast := by rw [jw]; unfold jg; rw [if_neg hb, if_pos he]
    rw [e] at h ⊢
    exact hdrop k p h
   ·have e : qj l (i + 1) = qj l i := by rw [jw]; unfold jg; rw [if_neg hb, if_neg he]
    rw [e] at h ⊢
    exact ih k p h
theorem xn {l : List qI} {i : Nat} (h : qj l i ≠ []) : ∃ p : Nat, jZ (qj l i) = p ∧ p < i ∧ (qj l i)[(qj l i).length - 1]? = some (p : Int) ∧ qj l (p + 1) = qj l i := by
 have hb := (JK (l := l) i).1.inmost h
 obtain ⟨p, hp⟩ : ∃ p : Nat, jZ (qj l i) = p := ⟨(jZ (qj l i)).toNat, by omega⟩
 have hl : 0 < (qj l i).length := List.length_pos_iff.2 h
 have hk : (qj l i)[(qj l i).length - 1]? = some (p : Int) := by
  rw [← hp]
  unfold jZ
  rw [← List.getLast?_eq_getElem?, List.getLast?_eq_some_getLast h]; rfl
 refine ⟨p, hp, by omega, hk, ?_⟩
 rw [GQ i _ p hk, List.take_of_length_le (by omega)]
theorem qQb {l : List qI} {i j : Nat} (h : jZ (qj l i) = jZ (qj l j)) : qj l i = qj l j := by
 by_cases hi : qj l i = []
 ·by_cases hj : qj l j = []
  ·rw [hi, hj]
  ·obtain ⟨p, h1, _⟩ := xn hj
   rw [hi, Qq, h1] at h; omega
 ·obtain ⟨p, h1, _, _, h2⟩ := xn hi
  by_cases hj : qj l j = []
  ·rw [hj, Qq, h1] at h; omega
  ·obtain ⟨q, h3, _, _, h4⟩ := xn hj
   have : p = q := by omega
   subst this
   rw [← h2, ← h4]
def mt1 (l : List qI) (A : List Int) : Nat → List Int
 | 0 => List.replicate l.length (-1)
 | i + 1 => if 0 < jc (qA l i).1 then (mt1 l A i).set (qa A i).toNat i else mt1 l A i
def mt2 (l : List qI) (A : List Int) : Nat → List Int
 | 0 => mt1 l A l.length
 | i + 1 => if (qA l i).1 = 16 then (mt2 l A i).set i (qa (mt2 l A i) (qa A i)) else mt2 l A i
def qB (l : List qI) : List Int := mt2 l (xP l 0 []) l.length
theorem qKO {l : List qI} {A : List Int} {i : Nat} : mt1 l A (i + 1) = if 0 < jc (qA l i).1 then (mt1 l A i).set (qa A i).toNat i else mt1 l A i := rfl
theorem Zw {l : List qI} {A : List Int} {i : Nat} : mt2 l A (i + 1) = if (qA l i).1 = 16 then (mt2 l A i).set i (qa (mt2 l A i) (qa A i)) else mt2 l A i := rfl
theorem GU {l : List qI} {A : List Int} : ∀ i, (mt1 l A i).length = l.length := by
 intro i
 induction i with
 | zero => simp [mt1]
 | succ i ih => rw [qKO]; split <;> simp [ih]
theorem Gv {l : List qI} {A : List Int} : ∀ i, (mt2 l A i).length = l.length := by
 intro i
 induction i with
 | zero => exact GU _
 | succ i ih => rw [Zw]; split <;> simp [ih]
theorem NC (l : List qI) : (qB l).length = l.length := Gv _
theorem vJ {l : List qI} (F : Fit l) {j : Nat} (h : j < l.length) : qa (xP l 0 []) (j : Int) = jZ (qj l j) := by
 unfold qa
 rw [Int.toNat_natCast, F.reg j h]; rfl
theorem qQE {l : List qI} {p : Nat} : ∀ (d i : Nat), p < i → (p : Int) ∉ qj l i → (p : Int) ∉ qj l (i + d) := by
 intro d
 induction d with
 | zero => intro i _ h; exact h
 | succ d ih =>
  intro i hp h
  have h2 := ih i hp h
  rw [show i + (d + 1) = i + d + 1 by omega, jw]
  have hd : (p : Int) ∉ (qj l (i + d)).dropLast := fun hm => h2 ((List.dropLast_sublist _).subset hm)
  unfold jg
  repeat' split
  all_goals first | exact hd | exact h2 | skip
  ·intro hm
   rcases List.mem_append.1 hm with hm | hm
   ·exact hd hm
   ·rw [List.mem_singleton] at hm; omega
  ·intro hm
   rcases List.mem_append.1 hm with hm | hm
   ·exact h2 hm
   ·rw [List.mem_singleton] at hm; omega
theorem Jt {st : List Int} {p : Int} (h : st.Pairwise (· < ·)) (hn : st ≠ []) (hp : jZ st = p) : p ∉ st.dropLast := by
 have e : st = st.dropLast ++ [p] := by
  have := List.dropLast_concat_getLast hn
  rw [show st.getLast hn = p by rw [← hp]; unfold jZ; rw [List.getLast?_eq_some_getLast hn]; rfl] at this
  exact this.symm
 rw [e, List.pairwise_append] at h
 intro hm
 have := h.2.2 p hm p (List.mem_singleton_self _)
 omega
theorem qQ6 {l : List qI} {p j : Nat} (he : 0 < jc (qA l j).1) (hn : qj l j ≠ []) (hp : jZ (qj l j) = p) : (p : Int) ∉ qj l (j + 1) := by
 have h1 := Jt (JK (l := l) j).2 hn hp
 have h2 := (JK (l := l) j).1.inmost hn
 rw [jw]
 unfold jg
 rw [if_pos he]
 split
 ·intro hm
  rcases List.mem_append.1 hm with hm | hm
  ·exact h1 hm
  ·rw [List.mem_singleton] at hm; omega
 ·exact h1
theorem zc {l : List qI} {st : List Int} {x : qI} (h : jH l st x = 0) : xm x = true ∧ (0 < jc x.1 → opM l st = jc x.1) ∧ (x.1 = 16 → opM l st = 14) ∧ (zC x.1 = true → st.length < 5) := by
 have h0 := zY h
 unfold jH at h
 rw [if_neg (by rw [h0.1]; simp)] at h
 split at h
 ·cases h
 ·rename_i h2
  split at h
  ·cases h
  ·rename_i h3
   refine ⟨h0.1, fun he => ?_, fun he => ?_, h0.2.2⟩
   ·exact Classical.not_not.1 fun hh => h2 ⟨he, hh⟩
   ·exact Classical.not_not.1 fun hh => h3 ⟨he, hh⟩
theorem X5 {l : List qI} {i : Nat} {p : Nat} (hn : qj l i ≠ []) (hp : jZ (qj l i) = p) : opM l (qj l i) = (qA l p).1 := by
 unfold opM
 rw [if_neg hn, hp]
theorem J1 {l : List qI} (F : Fit l) {p : Nat} (hp : p < l.length) (ho : (qA l p).1 = 14 ∨ (qA l p).1 = 17 ∨ (qA l p).1 = 18) :
  ∃ e : Nat, p < e ∧ e < l.length ∧ jc (qA l e).1 = (qA l p).1 ∧ qj l e ≠ [] ∧ jZ (qj l e) = p ∧
   ∀ j, j < l.length → 0 < jc (qA l j).1 → jZ (qj l j) = p → j = e := by
 have hin : (p : Int) ∈ qj l (p + 1) := by
  rw [jw]
  unfold jg
  rw [if_pos (by unfold zC; rcases ho with h | h | h <;> rw [h] <;> decide)]
  exact List.mem_append_right _ (List.mem_singleton_self _)
 have key : ∀ d i, p < i → i + d = l.length → (p : Int) ∈ qj l i → ∃ e, i ≤ e ∧ e < l.length ∧ (p : Int) ∈ qj l e ∧ (p : Int) ∉ qj l (e + 1) := by
  intro d
  induction d with
  | zero =>
   intro i _ hi hm
   obtain rfl : i = l.length := by omega
   rw [F.nil] at hm; cases hm
  | succ d ih =>
   intro i hpi hi hm
   by_cases h : (p : Int) ∈ qj l (i + 1)
   ·obtain ⟨e, h1, h2⟩ := ih (i + 1) (by omega) (by omega) h
    exact ⟨e, by omega, h2⟩
   ·exact ⟨i, Nat.le_refl _, by omega, hm, h⟩
 obtain ⟨e, h1, h2, h3, h4⟩ := key (l.length - (p + 1)) (p + 1) (by omega) (by omega) hin
 have hne : qj l e ≠ [] := fun h => by rw [h] at h3; cases h3
 have hend : 0 < jc (qA l e).1 := by
  apply Classical.not_not.1
  intro hn
  apply h4
  rw [jw]
  unfold jg
  rw [if_neg hn]
  split
  ·exact List.mem_append_left _ h3
  ·exact h3
 have hinm : jZ (qj l e) = p := by
  apply Classical.not_not.1
  intro hn
  apply h4
  have hd : (p : Int) ∈ (qj l e).dropLast := by
   have hd := List.dropLast_concat_getLast hne
   rw [← hd] at h3
   rcases List.mem_append.1 h3 with h | h
   ·exact h
   ·rw [List.mem_singleton] at h
    exfalso
    apply hn
    unfold jZ
    rw [List.getLast?_eq_some_getLast hne, h]; rfl
  rw [jw]
  unfold jg
  rw [if_pos hend]
  split
  ·exact List.mem_append_left _ hd
  ·exact hd
 have hw := (zc (F.ok e h2)).2.1 hend
 rw [X5 hne hinm] at hw
 refine ⟨e, by omega, h2, hw.symm, hne, hinm, fun j hj hje hjp => ?_⟩
 have hjn : qj l j ≠ [] := (zY (F.ok j hj)).2.1 (.inl hje)
 have hpj : p < j := by
  have := (JK (l := l) j).1.inmost hjn; omega
 rcases Nat.lt_trichotomy j e with h | h | h
 ·exfalso
  have := qQE (l := l) (e - (j + 1)) (j + 1) (by omega) (qQ6 hje hjn hjp)
  rw [show j + 1 + (e - (j + 1)) = e by omega] at this
  exact this h3
 ·exact h
 ·exfalso
  have h5 := qQE (l := l) (j - (e + 1)) (e + 1) (by omega) h4
  rw [show e + 1 + (j - (e + 1)) = j by omega] at h5
  apply h5
  rw [← hjp]
  unfold jZ
  rw [List.getLast?_eq_some_getLast hjn]
  exact List.getLast_mem hjn
theorem Oe {l : List qI} (F : Fit l) {p e : Nat} (hp : p < l.length) (he : e < l.length) (hee : 0 < jc (qA l e).1) (hi : jZ (qj l e) = p)
  (hu : ∀ j, j < l.length → 0 < jc (qA l j).1 → jZ (qj l j) = p → j = e) : ∀ i, e < i → i ≤ l.length → (mt1 l (xP l 0 []) i)[p]? = some (e : Int) := by
 intro i
 induction i with
 | zero => intro h; omega
 | succ i ih =>
  intro h1 h2
  rw [qKO]
  by_cases hie : i = e
  ·subst hie
   rw [if_pos hee, vJ F he, hi, Int.toNat_natCast, List.getElem?_set_self (by rw [GU]; exact hp)]
  ·split
   ·rename_i hx
    rw [vJ F (by omega), List.getElem?_set_ne]
    ·exact ih (by omega) (by omega)
    ·intro hh
     have hjn : qj l i ≠ [] := (zY (F.ok i (by omega))).2.1 (.inl hx)
     have := (JK (l := l) i).1.inmost hjn
     exact hie (hu i (by omega) hx (by omega))
   ·exact ih (by omega) (by omega)
theorem OL {l : List qI} (F : Fit l) {p : Nat} (hp : (qA l p).1 ≠ 16) : ∀ i, (mt2 l (xP l 0 []) i)[p]? = (mt1 l (xP l 0 []) l.length)[p]? := by
 intro i
 induction i with
 | zero => rfl
 | succ i ih =>
  rw [Zw]
  split
  ·rename_i hx
   rw [List.getElem?_set_ne, ih]
   rintro rfl
   exact hp hx
  ·exact ih
theorem qQf {l : List qI} (F : Fit l) {u : Nat} (hu : u < l.length) (ho : (qA l u).1 = 16) : ∀ i, u < i → (mt2 l (xP l 0 []) i)[u]? = some (qa (mt2 l (xP l 0 []) u) (jZ (qj l u))) := by
 intro i
 induction i with
 | zero => intro h; omega
 | succ i ih =>
  intro h
  rw [Zw]
  by_cases hi : i = u
  ·subst hi
   rw [if_pos ho, List.getElem?_set_self (by rw [Gv]; exact hu), vJ F hu]
  ·split
   ·rw [List.getElem?_set_ne hi]; exact ih (by omega)
   ·exact ih (by omega)
theorem yH {l : List qI} (F : Fit l) {p : Nat} (hp : p < l.length) (ho : (qA l p).1 = 14 ∨ (qA l p).1 = 17 ∨ (qA l p).1 = 18) :
  ∃ e : Nat, qa (qB l) (p : Int) = e ∧ p < e ∧ e < l.length ∧ jc (qA l e).1 = (qA l p).1 ∧ qj l e = qj l (p + 1) := by
 obtain ⟨e, h1, h2, h3, h4, h5, h6⟩ := J1 F hp ho
 refine ⟨e, ?_, h1, h2, h3, ?_⟩
 ·unfold qa qB
  rw [Int.toNat_natCast, OL F (by rcases ho with h | h | h <;> rw [h] <;> decide), Oe F hp h2 (by rw [h3]; rcases ho with h | h | h <;> rw [h] <;> decide) h5 h6 l.length h2 (Nat.le_refl _)]; rfl
 ·obtain ⟨q, g1, _, _, g2⟩ := xn h4
  have : q = p := by omega
  subst this
  exact g2.symm
theorem gT {l : List qI} (F : Fit l) {u : Nat} (hu : u < l.length) (ho : (qA l u).1 = 16) :
  ∃ e : Nat, qa (qB l) (u : Int) = e ∧ e < l.length ∧ (qA l e).1 = 15 ∧ qj l e = qj l u ∧ qj l u ≠ [] := by
 have hn : qj l u ≠ [] := (zY (F.ok u hu)).2.1 (.inr ho)
 obtain ⟨q, g1, g2, _, g3⟩ := xn hn
 have hw := (zc (F.ok u hu)).2.2.1 ho
 rw [X5 hn g1] at hw
 obtain ⟨e, h1, h2, h3, h4, h5, h6⟩ := J1 F (p := q) (by omega) (.inl hw)
 have e0 : qa (mt2 l (xP l 0 []) u) (q : Int) = e := by
  unfold qa
  rw [Int.toNat_natCast, OL F (by rw [hw]; decide), Oe F (by omega) h2 (by rw [h3, hw]; decide) h5 h6 l.length h2 (Nat.le_refl _)]; rfl
 refine ⟨e, ?_, h2, ?_, ?_, hn⟩
 ·unfold qB
  rw [qa, Int.toNat_natCast, qQf F hu ho l.length hu, g1, e0]; rfl
 ·rw [hw] at h3
  unfold jc at h3
  repeat' split at h3
  all_goals first | assumption | omega
 ·obtain ⟨q2, k1, _, _, k2⟩ := xn h4
  have : q2 = q := by omega
  subst this
  rw [← k2, g3]
end Go.Proofs.YtdlfmpmpmkffjaaGreatDoor
namespace Go.Proofs.YtdlfmpmpmkffjaaGreatDoor
open Go Go.Ae
structure kA (M M' : VM) : Prop where
  sz : M'.sz = M.sz
  K : M'.K = M.K
  most : M'.most = M.most
  len : M'.lv.length = M.lv.length
def w8 (M M' : VM) : Prop := M'.lv = M.lv ∧ 1 ≤ M'.need ∧ M'.need < M.sz ∧ jf M'.need M.K = none
theorem kA.refl (M : VM) : kA M M := ⟨rfl, rfl, rfl, rfl⟩
theorem kA.trans {M N Q : VM} (a : kA M N) (b : kA N Q) : kA M Q := ⟨b.sz.trans a.sz, b.K.trans a.K, b.most.trans a.most, b.len.trans a.len⟩
theorem zu (M : VM) (p : Int) : kA M (qf M p).2 := by
 unfold qf
 repeat' split
 all_goals exact ⟨rfl, rfl, rfl, rfl⟩
theorem wY {M : VM} {p : Int} (h : (qf M p).1.2 = 11) : w8 M (qf M p).2 := by
 unfold qf at h ⊢
 split
 ·rename_i h1
  rw [if_pos h1] at h
  split
  ·rename_i h2; rw [h2] at h; cases h
  ·rename_i h2
   rw [h2] at h
   dsimp only at h ⊢
   split
   ·rename_i h3; rw [h3] at h; cases h
   ·rename_i h3; exact ⟨rfl, h1.1, h1.2, h3⟩
 ·rename_i h1
  rw [if_neg h1] at h; cases h
theorem qKA {most : Nat} {lv : List LvM} {p v : Int} : (xH most lv p v).1 = 0 ∨ (xH most lv p v).1 = 2 ∨ (xH most lv p v).1 = 5 := by
 unfold xH
 repeat' split
 all_goals simp
theorem Nv {most : Nat} {was : List LvM} : ∀ {cs : List Cl} {lv : List LvM}, (xB most was lv cs).1 = 0 ∨ (xB most was lv cs).1 = 2 ∨ (xB most was lv cs).1 = 5 := by
 intro cs
 induction cs with
 | nil => intro lv; exact .inl rfl
 | cons c cs ih =>
  intro lv
  rw [xD]
  split
  ·exact ih
  ·exact qKA
theorem ZD {M : VM} {cs : List Cl} : (ji M cs).1 = 0 ∨ (ji M cs).1 = 2 ∨ (ji M cs).1 = 5 := by
 unfold ji
 split
 ·exact Nv
 ·exact .inr (.inl rfl)
theorem J3 {M : VM} {cs : List Cl} (h : (ji M cs).1 = 11) : False := by
 have := ZD (M := M) (cs := cs); omega
theorem vw {M : VM} {cs : List Cl} (O : OkV M) : kA M (ji M cs).2 := by
 unfold ji
 split
 ·exact ⟨rfl, rfl, rfl, (KM O.lvs O.lvs rfl).2⟩
 ·exact .refl M
theorem OE (M : VM) (b : Int) : kA M (zU M b).2 := by
 unfold zU
 repeat' split
 all_goals first | exact .refl M | exact zu M _
theorem Zq {M : VM} {b : Int} (h : (zU M b).1.2.2 = 11) : w8 M (zU M b).2 := by
 unfold zU at h ⊢
 split
 ·rename_i h1; rw [if_pos h1] at h; cases h
 ·rename_i h1
  rw [if_neg h1] at h
  split
  ·rename_i h2
   rw [if_pos h2] at h
   split
   ·rename_i h3; rw [if_pos h3] at h; cases h
   ·rename_i h3; rw [if_neg h3] at h; cases h
  ·rename_i h2
   rw [if_neg h2] at h
   exact wY h
theorem freeL_len {lv : List LvM} {b : Int} : (wT lv b).length = lv.length := by cases lv <;> rfl
theorem M0 {M : VM} {b : Int} (O : OkV M) : kA M (freeA M b).2 := by
 have ha := OE M b
 unfold freeA
 repeat' split
 ·have ht := ha.trans (vw (cs := [(b - 1, (zU M b).1.1)]) (J5 (b := b) O))
  exact ⟨ht.sz, ht.K, ht.most, freeL_len.trans ht.len⟩
 ·exact ha.trans (vw (J5 O))
 ·exact ha
 ·exact ha
theorem Ni {M : VM} {b : Int} (h : (freeA M b).1 = 11) : w8 M (freeA M b).2 := by
 unfold freeA at h ⊢
 split
 ·rename_i h1
  rw [if_pos h1] at h
  split
  ·rename_i h2
   rw [if_pos h2] at h
   split
   ·rename_i h3; rw [if_pos h3] at h; cases h
   ·rename_i h3; rw [if_neg h3] at h; exact (J3 h).elim
  ·rename_i h2; rw [if_neg h2] at h; cases h
 ·rename_i h1
  rw [if_neg h1] at h
  exact Zq h
theorem U0 {M : VM} {c b : Int} (O : OkV M) : kA M (z7 M c b).2 := by
 unfold z7
 repeat' split
 ·exact .refl M
 ·exact (zu M _).trans (vw (xg O))
 ·exact (zu M _).trans (vw (xg O))
 ·exact zu M _
theorem Vy {M : VM} {c b : Int} (h : (z7 M c b).1.2 = 11) : w8 M (z7 M c b).2 := by
 unfold z7 at h ⊢
 split
 ·rename_i h1; rw [if_pos h1] at h; cases h
 ·rename_i h1
  rw [if_neg h1] at h
  split
  ·rename_i h2
   rw [if_pos h2] at h
   split
   ·rename_i h3; rw [if_pos h3] at h; cases h
   ·rename_i h3; rw [if_neg h3] at h; exact (J3 h).elim
  ·rename_i h2
   rw [if_neg h2] at h
   exact wY h
theorem VU {M : VM} {c : Int} (O : OkV M) : kA M (xQ M c).2 := by
 unfold xQ
 repeat' split
 ·exact zu M _
 ·exact (zu M _).trans (vw (xg O))
 ·exact (zu M _).trans (vw (xg O))
 ·exact zu M _
theorem Up {M : VM} {c : Int} (h : (xQ M c).1.2 = 11) : w8 M (xQ M c).2 := by
 unfold xQ at h ⊢
 split
 ·rename_i h1
  rw [if_pos h1] at h
  split
  ·rename_i h2; rw [if_pos h2] at h; cases h
  ·rename_i h2
   rw [if_neg h2] at h
   split
   ·rename_i h3; rw [if_pos h3] at h; cases h
   ·rename_i h3; rw [if_neg h3] at h; exact (J3 h).elim
 ·rename_i h1
  rw [if_neg h1] at h
  exact wY h
theorem Xs {M : VM} {x : Int} (O : OkV M) : kA M (zz M x).2 := by
 unfold zz
 repeat' split
 ·exact .refl M
 ·exact (zu M _).trans (VU (xg O))
 ·exact (zu M _).trans (U0 (xg O))
 ·exact zu M _
theorem Uo {M : VM} {x : Int} (h : (zz M x).1.2 = 11) : w8 M (zz M x).2 := by
 unfold zz at h ⊢
 split
 ·rename_i h1; rw [if_pos h1] at h; cases h
 ·rename_i h1
  rw [if_neg h1] at h
  split
  ·rename_i h2
   rw [if_pos h2] at h
   have e := Ml h2
   split
   ·rename_i h3
    rw [if_pos h3, e] at h
    rw [e]; exact Up h
   ·rename_i h3
    rw [if_neg h3, e] at h
    rw [e]; exact Vy h
  ·rename_i h2
   rw [if_neg h2] at h
   exact wY h
theorem MZ {M : VM} {x : Int} (W : WdV M) (h : (zz M x).1.2 = 0) : 0 ≤ (zz M x).1.1 ∧ (zz M x).1.1 ≤ 2147483648 := by
 have hs := GM (zh x)
 unfold zz at h ⊢
 split
 ·rename_i h1; rw [if_pos h1] at h; cases h
 ·rename_i h1
  rw [if_neg h1] at h
  split
  ·rename_i h2
   rw [if_pos h2] at h
   have hr := W.read (p := zh x)
   split
   ·rename_i h3
    rw [if_pos h3] at h
    have hr2 := (W.read2 (p := zh x)).read (p := 5)
    unfold xQ at h ⊢
    split
    ·rename_i h4
     rw [if_pos h4] at h
     split
     ·rename_i h5; rw [if_pos h5] at h; cases h
     ·rename_i h5
      split
      ·dsimp only; omega
      ·show (0 : Int) ≤ 0 ∧ (0 : Int) ≤ 2147483648; omega
    ·show (0 : Int) ≤ 0 ∧ (0 : Int) ≤ 2147483648; omega
   ·rename_i h3
    rw [if_neg h3] at h
    unfold z7 at h ⊢
    split
    ·rename_i h4; rw [if_pos h4] at h; cases h
    ·split
     ·split
      ·dsimp only; omega
      ·show (0 : Int) ≤ 0 ∧ (0 : Int) ≤ 2147483648; omega
     ·show (0 : Int) ≤ 0 ∧ (0 : Int) ≤ 2147483648; omega
  ·show (0 : Int) ≤ 0 ∧ (0 : Int) ≤ 2147483648; omega
structure wF (r : List Int) : Prop where
  len : r.length = 8
  bd : ∀ z ∈ r, 0 ≤ z ∧ z < 18446744073709551616
theorem wF.at {r : List Int} (h : wF r) (i : Int) : 0 ≤ qa r i ∧ qa r i < 18446744073709551616 := by
 unfold qa
 cases hi : r[i.toNat]? with
 | none => show (0 : Int) ≤ 0 ∧ (0 : Int) < 18446744073709551616; omega
 | some z => exact h.bd z (List.mem_of_getElem? hi)
theorem wF.set {r : List Int} {i v : Int} (h : wF r) (hv : 0 ≤ v ∧ v < 18446744073709551616) : wF (r.set i.toNat v) :=
 ⟨by rw [List.length_set]; exact h.len, fun z hz => by
  rcases List.mem_or_eq_of_mem_set hz with hz | rfl
  ·exact h.bd z hz
  ·exact hv⟩
structure PtOk (l : List qI) (p : PtM) : Prop where
  regs : wF p.regs
  pc : ∃ k : Nat, p.pc = k ∧ k < l.length
  op : (p.op = 14 ∨ p.op = 17 ∨ p.op = 18) ∧ (qA l p.pc).1 = p.op
def ToldD : Nat → List PtM → Prop
 | _, [] => True
 | n, p :: r => p.told ≤ n ∧ ToldD p.told r
theorem ToldD.mono : ∀ {o : List PtM} {n n' : Nat}, n ≤ n' → ToldD n o → ToldD n' o := by
 intro o
 cases o with
 | nil => intro _ _ _ _; trivial
 | cons p r => intro n n' h h2; exact ⟨Nat.le_trans h2.1 h, h2.2⟩
structure GB (s : IM) : Prop where
  regs : wF s.regs
  out : s.out.length ≤ 16
  its : ∀ x ∈ s.out, Zr x
structure GI (l : List qI) (s : IM) (V : VM) : Prop where
  gb : GB s
  pc : ∃ k : Nat, s.pc = k ∧ k ≤ l.length
  pts : ∀ p ∈ s.opn, PtOk l p
  told : ToldD s.out.length s.opn
  stk : s.opn.map (·.pc) = (qj l s.pc.toNat).reverse
  lv : V.lv.length = s.opn.length + 1
  good : jm V
theorem OF (z : Int) : 0 ≤ zL .u64 z ∧ zL .u64 z < 18446744073709551616 := by
  cases z with
  | ofNat a => show (0 : Int) ≤ Int.ofNat (a % 18446744073709551616) ∧ Int.ofNat (a % 18446744073709551616) < 18446744073709551616
               rw [Int.ofNat_eq_natCast]; omega
  | negSucc a => show (0 : Int) ≤ Int.ofNat (18446744073709551615 - a % 18446744073709551616) ∧ Int.ofNat (18446744073709551615 - a % 18446744073709551616) < 18446744073709551616
                 rw [Int.ofNat_eq_natCast]; omega
theorem MS (p : Prop) [Decidable p] : 0 ≤ QM p ∧ QM p < 18446744073709551616 := by unfold QM; split <;> omega
theorem GB.setR {s : IM} {i v : Int} (h : GB s) (hv : 0 ≤ v ∧ v < 18446744073709551616) : GB (setR s i v) := ⟨h.regs.set hv, h.out, h.its⟩
structure JQ (l : List qI) (s : IM) (V : VM) (r : SM) : Prop where
  gb : GB r.s
  good : jm r.v
  fr : frS r.v.lv ≤ frS V.lv + 1
  sz : r.v.sz = V.sz
  K : r.v.K = V.K
  most : r.v.most = V.most
  next : r.e = 0 → r.blk = false → GI l { r.s with pc := r.nx } r.v
  need : r.e = 11 → r.s = s ∧ w8 V r.v
  bl : r.blk = true → r.e = 0
theorem Vq {l : List qI} {i : Nat} (h1 : zC (qA l i).1 = false) (h2 : (qA l i).1 ≠ 18) (h3 : jc (qA l i).1 = 0) : qj l (i + 1) = qj l i := by
 rw [jw]
 unfold jg
 rw [if_neg (by rw [h1]; simp [h2]), if_neg (by omega)]
theorem GI.plain {l : List qI} {s s' : IM} {V V' : VM} {i : Nat} (G : GI l s V) (hi : s.pc = i) (hlt : i < l.length) (h1 : zC (qA l i).1 = false) (h2 : (qA l i).1 ≠ 18) (h3 : jc (qA l i).1 = 0)
  (gb : GB s') (ho : s'.opn = s.opn) (hl : s.out.length ≤ s'.out.length) (hv : V'.lv.length = V.lv.length) (hg : jm V') : GI l { s' with pc := s.pc + 1 } V' := by
 refine ⟨⟨gb.regs, gb.out, gb.its⟩, ⟨i + 1, by show s.pc + 1 = _; omega, by omega⟩, by show ∀ p ∈ s'.opn, _; rw [ho]; exact G.pts, by show ToldD s'.out.length s'.opn; rw [ho]; exact G.told.mono hl, ?_, by show V'.lv.length = s'.opn.length + 1; rw [ho, hv]; exact G.lv, hg⟩
 show s'.opn.map _ = (qj l (s.pc + 1).toNat).reverse
 rw [ho, hi, show ((i : Int) + 1).toNat = i + 1 by omega, Vq h1 h2 h3, G.stk, hi, Int.toNat_natCast]
theorem Xd {l : List qI} {s : IM} {V : VM} {op : Int} {p : Nat} {st : List Int} (gb : GB s) (hp : p < l.length) (ho : (op = 14 ∨ op = 17 ∨ op = 18) ∧ (qA l (p : Int)).1 = op) (pts : ∀ p ∈ s.opn, PtOk l p) (told : ToldD s.out.length s.opn)
  (hst : s.opn.map (·.pc) = st.reverse) (hs2 : qj l (p + 1) = st ++ [(p : Int)]) (lv : V.lv.length = s.opn.length + 1) (hd : s.opn.length < 5) (G : jm V) :
  (jN op p ((p : Int) + 1) s V).e = 0 ∧ (jN op p ((p : Int) + 1) s V).blk = false ∧ (jN op p ((p : Int) + 1) s V).nx = (p : Int) + 1 ∧ GI l { (jN op p ((p : Int) + 1) s V).s with pc := (p : Int) + 1 } (jN op p ((p : Int) + 1) s V).v ∧
   (jN op p ((p : Int) + 1) s V).v = (zP V).2 := by
 have h0 : (zP V).1 = 0 ∧ (zP V).2.lv = ([], []) :: V.lv := by
  unfold zP xq
  rw [if_neg (by omega)]
  exact ⟨rfl, rfl⟩
 unfold jN
 rw [if_pos h0.1]
 refine ⟨rfl, rfl, rfl, ⟨⟨gb.regs, gb.out, gb.its⟩, ⟨p + 1, rfl, by omega⟩, ?_, ⟨Nat.le_refl _, told⟩, ?_, ?_, G.openG.1⟩, rfl⟩
 ·intro q hq
  rcases List.mem_cons.1 hq with rfl | hq
  ·exact ⟨gb.regs, ⟨p, rfl, hp⟩, ho⟩
  ·exact pts q hq
 ·show (p : Int) :: s.opn.map _ = (qj l ((p : Int) + 1).toNat).reverse
  rw [hst, show ((p : Int) + 1).toNat = p + 1 by omega, hs2, List.reverse_append]; rfl
 ·show (zP V).2.lv.length = _
  rw [h0.2, List.length_cons, lv]; rfl
theorem Gj {V : VM} (h : 2 ≤ V.lv.length) : (zy V).1 = 0 ∧ (zy V).2.lv = V.lv.tail := by
 unfold zy xl
 rw [if_neg (by omega)]
 exact ⟨rfl, rfl⟩
theorem YR {V : VM} (h : 2 ≤ V.lv.length) : (xX V).1 = 0 ∧ (xX V).2.lv.length + 1 = V.lv.length := by
 unfold xX
 match hl : V.lv, h with
 | [], h => simp at h
 | [x], h => simp at h
 | x :: y :: r, _ => exact ⟨rfl, by simp [xL]⟩
theorem ToldD.tail {n : Nat} {p : PtM} {o : List PtM} (h : ToldD n (p :: o)) : ToldD n o := h.2.mono h.1
theorem JQ.plain {l : List qI} {s s' : IM} {V V' : VM} {i : Nat} {e : Int} (G : GI l s V) (hi : s.pc = i) (hlt : i < l.length) (h1 : zC (qA l i).1 = false) (h2 : (qA l i).1 ≠ 18) (h3 : jc (qA l i).1 = 0)
  (gb : GB s') (ho : s'.opn = s.opn) (hl : s.out.length ≤ s'.out.length) (hk : kA V V') (hg : jm V') (hf : frS V'.lv ≤ frS V.lv + 1) (hn : e = 11 → s' = s ∧ w8 V V') : JQ l s V ⟨e, s.pc + 1, false, s', V'⟩ :=
 ⟨gb, hg, hf, hk.sz, hk.K, hk.most, fun _ _ => G.plain hi hlt h1 h2 h3 gb ho hl hk.len hg, hn, fun h => (by cases h)⟩
theorem Vh {l : List qI} (F : Fit l) {i : Nat} (hlt : i < l.length) (ho : (qA l i).1 = 12 ∨ (qA l i).1 = 13) : ∃ c : Nat, (qA l i).2.2.2.1 = c ∧ c ≤ l.length ∧ qj l c = qj l i := by
 have hm := (zc (F.ok i hlt)).1
 have hj := F.jump i hlt
 generalize qA l i = x at *
 have hc : 0 ≤ x.2.2.2.1 ∧ x.2.2.2.1 ≤ 40 := by
  unfold xm jE yG at hm
  simp only [Bool.and_eq_true, decide_eq_true_eq] at hm
  have := hm.1.2
  rcases ho with h | h
  ·rw [if_neg (by omega), if_neg (by omega), if_neg (by omega), if_neg (by omega), if_pos h] at this
   exact this
  ·rw [if_neg (by omega), if_neg (by omega), if_neg (by omega), if_neg (by omega), if_neg (by omega), if_pos h] at this
   exact this
 obtain ⟨c, hcc⟩ : ∃ c : Nat, x.2.2.2.1 = c := ⟨x.2.2.2.1.toNat, by omega⟩
 refine ⟨c, hcc, ?_⟩
 unfold gH at hj
 rw [hcc] at hj
 have hle : c ≤ l.length := by
  rcases Nat.lt_or_ge l.length c with h | h
  ·exact absurd ⟨ho, .inl (by omega)⟩ hj
  ·exact h
 refine ⟨hle, ?_⟩
 by_cases he : c = l.length
 ·subst he
  rw [F.nil]
  have : qa (xP l 0 []) (i : Int) = -1 := Classical.not_not.1 fun h => hj ⟨ho, .inr (.inl ⟨rfl, h⟩)⟩
  rw [vJ F hlt] at this
  exact (Classical.not_not.1 fun h => by
   have := (JK (l := l) i).1.inmost (fun h' => h h'.symm)
   omega : [] = qj l i)
 ·have : qa (xP l 0 []) (c : Int) = qa (xP l 0 []) (i : Int) := Classical.not_not.1 fun h => hj ⟨ho, .inr (.inr ⟨by omega, h⟩)⟩
  rw [vJ F hlt, vJ F (by omega)] at this
  exact qQb this
theorem Xr {l : List qI} (F : Fit l) : ∀ i, i ≤ l.length → (qj l i).length ≤ 5 := by
 intro i
 induction i with
 | zero => intro _; simp [qj]
 | succ i ih =>
  intro h
  have h1 := ih (by omega)
  have hw := zc (F.ok i (by omega))
  rw [jw]
  unfold jg
  repeat' split
  ·rename_i hb he
   have hne : qj l i ≠ [] := (zY (F.ok i (by omega))).2.1 (.inl he)
   have := List.length_pos_iff.2 hne
   simp; omega
  ·rename_i hb he
   rcases hb with hb | hb
   ·have := hw.2.2.2 hb; simp; omega
   ·exact absurd (by rw [hb]; decide) he
  ·simp; omega
  ·exact h1
theorem kK {o : List PtM} {p : PtM} {st : List Int} (h : (p :: o).map (·.pc) = st.reverse) : st = st.dropLast ++ [p.pc] ∧ o.map (·.pc) = st.dropLast.reverse := by
 have e : st = o.reverse.map (·.pc) ++ [p.pc] := by
  have := congrArg List.reverse h
  rw [List.reverse_reverse] at this
  rw [← this, List.map_cons, List.reverse_cons, List.map_reverse]
 have e2 : st.dropLast = o.reverse.map (·.pc) := by rw [e, List.dropLast_concat]
 refine ⟨by rw [e2]; exact e, ?_⟩
 rw [e2, List.map_reverse, List.reverse_reverse]
def PreP (l : List qI) (st : List Int) : Prop := ∀ k p : Nat, st[k]? = some (p : Int) → qj l (p + 1) = st.take (k + 1)
theorem PreP.dropLast {l : List qI} {st : List Int} (h : PreP l st) : PreP l st.dropLast := by
 intro k p hk
 have h1 := (List.getElem?_eq_some_iff.1 hk).1
 have h2 : k + 1 ≤ st.length - 1 := by have := h1; simp at this; omega
 rw [List.getElem?_dropLast] at hk
 split at hk
 ·rw [h k p hk, List.dropLast_eq_take, List.take_take, Nat.min_eq_left h2]
 ·cases hk
theorem GB.back {l : List qI} {s : IM} {p : PtM} (g : GB s) (h : PtOk l p) : GB (vn s p) := ⟨h.regs, by
 show (s.out.take p.told).length ≤ 16
 have := g.out
 simp; omega, fun x hx => g.its x (List.mem_of_mem_take hx)⟩
theorem qQp {l : List qI} {st : List Int} (hp : PreP l st) {o : List PtM} {p : PtM} {q : Nat} (h : (p :: o).map (·.pc) = st.reverse) (hq : p.pc = q) : qj l (q + 1) = st := by
 have e := (kK h).1
 have hl : st.length = st.dropLast.length + 1 := by
  have := congrArg List.length e
  simpa using this
 have := hp st.dropLast.length q (by rw [e, hq]; simp)
 rw [this, List.take_of_length_le (by omega)]
theorem VV {l : List qI} (F : Fit l) {s0 : IM} {V0 : VM} : ∀ (o : List PtM) (s : IM) (V : VM) (st : List Int), PreP l st → o.map (·.pc) = st.reverse → GB s → (∀ p ∈ o, PtOk l p) → ToldD s.out.length o → V.lv.length = o.length + 1 → jm V →
  frS V.lv ≤ frS V0.lv → V.sz = V0.sz → V.K = V0.K → V.most = V0.most → JQ l s0 V0 (yE (qB l) o s V) := by
 intro o
 induction o with
 | nil =>
  intro s V st hp hm gb _ _ hlv G hf h1 h2 h3
  exact ⟨⟨gb.regs, gb.out, gb.its⟩, G, by show frS V.lv ≤ _; omega, h1, h2, h3, fun _ h => (by cases h), fun h => (by cases h), fun _ => rfl⟩
 | cons p o ih =>
  intro s V st hp hm gb pts told hlv G hf h1 h2 h3
  have hd := Gj (V := V) (by rw [hlv]; simp)
  have hdG := G.dropG
  have hlv2 : (zy V).2.lv.length = o.length + 1 := by rw [hd.2, List.length_tail, hlv]; simp
  have hmt := kK hm
  unfold yE
  rw [if_pos hd.1]
  split
  ·rename_i hop
   have P := pts p (List.mem_cons_self ..)
   obtain ⟨q, hq, hql⟩ := P.pc
   have hqo : (qA l (q : Int)).1 = 17 := by rw [← hq, P.op.2, hop]
   obtain ⟨e, e1, e2, e3, e4, e5⟩ := yH F hql (.inr (.inl hqo))
   have hst := qQp hp hm hq
   have heo : (qA l (e : Int)).1 = 18 := by
    rw [hqo] at e4
    unfold jc at e4
    repeat' split at e4
    all_goals first | assumption | omega
   have hst2 : qj l (e + 1) = st.dropLast ++ [(e : Int)] := by
    rw [jw, e5, hst]
    unfold jg
    rw [if_pos (.inr heo), if_pos (by rw [heo]; decide)]
   have h5 := Xr F e (by omega)
   rw [e5, hst] at h5
   have hl5 : st.length = st.dropLast.length + 1 := by
    have := congrArg List.length hmt.1
    simpa using this
   have hol : o.length = st.dropLast.length := by
    have := congrArg List.length hmt.2
    simpa using this
   have gb2 : GB { vn s p with opn := o } := ⟨(gb.back P).regs, (gb.back P).out, (gb.back P).its⟩
   have told2 : ToldD (s.out.take p.told).length o := by
    rw [List.length_take, Nat.min_eq_left told.1]; exact told.2
   have key := Xd (l := l) (s := { vn s p with opn := o }) (V := (zy V).2) (op := 18) (p := e) (st := st.dropLast) gb2 e3 ⟨.inr (.inr rfl), heo⟩ (fun r hr => pts r (List.mem_cons_of_mem _ hr)) told2 hmt.2 hst2 hlv2 (by show o.length < 5; omega) hdG.1
   rw [hq, e1]
   obtain ⟨k1, k2, k3, k4, k5⟩ := key
   have hoG := hdG.1.openG
   refine ⟨k4.gb |> fun g => ⟨g.regs, g.out, g.its⟩, k4.good, ?_, ?_, ?_, ?_, fun _ _ => ?_, fun h => (by rw [k1] at h; cases h), fun h => (by rw [k2] at h; cases h)⟩
   ·rw [k5, hoG.2]; have := hdG.2; omega
   ·rw [k5]; exact h1
   ·rw [k5]; exact h2
   ·rw [k5]; exact h3
   ·rw [k3]; exact k4
  ·exact ih s (zy V).2 st.dropLast hp.dropLast hmt.2 gb (fun r hr => pts r (List.mem_cons_of_mem _ hr)) told.tail hlv2 hdG.1 (by have := hdG.2; omega) h1 h2 h3
theorem VG {l : List qI} {s : IM} {V : VM} {x : qI} (G : GI l s V) (hf : frS V.lv < 10000) :
  GB (jI s V x).2.1 ∧ (jI s V x).2.1.opn = s.opn ∧ (jI s V x).2.1.out = s.out ∧ (jI s V x).2.1.pc = s.pc ∧ kA V (jI s V x).2.2 ∧ jm (jI s V x).2.2 ∧ frS (jI s V x).2.2.lv ≤ frS V.lv + 1 ∧
   ((jI s V x).1 = 11 → (jI s V x).2.1 = s ∧ w8 V (jI s V x).2.2) := by
 have gb := G.gb
 have good := G.good
 have hr := fun i => gb.regs.at i
 have same : ∀ e : Int, e ≠ 11 → GB s ∧ s.opn = s.opn ∧ s.out = s.out ∧ s.pc = s.pc ∧ kA V V ∧ jm V ∧ frS V.lv ≤ frS V.lv + 1 ∧ (e = 11 → s = s ∧ w8 V V) :=
  fun e he => ⟨gb, rfl, rfl, rfl, .refl V, good, by omega, fun h => absurd h he⟩
 unfold jI
 split
 ·split
  ·split
   ·refine ⟨gb.setR ?_, rfl, rfl, rfl, zu V _, good.read, by rw [xk]; omega, fun h => by cases h⟩
    exact good.wd.read
   ·exact ⟨gb, rfl, rfl, rfl, zu V _, good.read, by rw [xk]; omega, fun h => ⟨rfl, wY h⟩⟩
  ·exact same 2 (by omega)
 ·split
  ·split
   ·exact ⟨gb, rfl, rfl, rfl, vw good.ok, good.take (WdC.one1 (hr _)), by rw [vR]; omega, fun h => (J3 h).elim⟩
   ·exact same 2 (by omega)
  ·split
   ·split
    ·exact same 3 (by omega)
    ·split
     ·rename_i h0
      have hb := MZ (x := qa s.regs x.2.2.1) good.wd h0
      exact ⟨gb.setR (by omega), rfl, rfl, rfl, Xs good.ok, (good.alloc).1, by rw [(good.alloc).2]; omega, fun h => by cases h⟩
     ·exact ⟨gb, rfl, rfl, rfl, Xs good.ok, (good.alloc).1, by rw [(good.alloc).2]; omega, fun h => ⟨rfl, Uo h⟩⟩
   ·split
    ·exact same 2 (by omega)
    ·exact ⟨gb, rfl, rfl, rfl, M0 good.ok, (good.free (by omega)).1, (good.free (by omega)).2, fun h => ⟨rfl, Ni h⟩⟩
theorem XZ {l : List qI} {s : IM} {V : VM} (G : GI l s V) : s.opn.length = (qj l s.pc.toNat).length := by
 have := congrArg List.length G.stk
 simpa using this
theorem gi {l : List qI} (F : Fit l) {s : IM} {V : VM} (G : GI l s V) {i : Nat} (hi : s.pc = i) (hlt : i < l.length) (hf : frS V.lv < 10000) (hN : 0 ≤ (qA l i).2.2.2.2 ∧ (qA l i).2.2.2.2 < 18446744073709551616) (hx : (qA l i).1 ≠ 23) :
  JQ l s V (doM (qB l) s V (qA l i)) := by
 have hw := zc (F.ok i hlt)
 have hwo := zY (F.ok i hlt)
 have hop : 1 ≤ (qA l i).1 ∧ (qA l i).1 ≤ 23 := by
  have := hw.1
  unfold xm at this
  simp only [Bool.and_eq_true, decide_eq_true_eq] at this
  exact this.1.1.1.1
 have hbe : zC (qA l i).1 = decide ((qA l i).1 = 14 ∨ (qA l i).1 = 17) := rfl
 have hend : jc (qA l i).1 = if (qA l i).1 = 15 then 14 else if (qA l i).1 = 18 then 17 else if (qA l i).1 = 19 then 18 else 0 := rfl
 have hjmp := fun h => Vh F hlt h
 have hstk := G.stk
 rw [hi, Int.toNat_natCast] at hstk
 have hol := XZ G
 rw [hi, Int.toNat_natCast] at hol
 have hr := fun i => G.gb.regs.at i
 have hmb := fun h => yH F hlt h
 have hmu := fun h => gT F hlt h
 have hss : qj l (i + 1) = jg (qj l i) i (qA l i).1 := jw
 have plain : (qA l i).1 ≠ 14 → (qA l i).1 ≠ 17 → (qA l i).1 ≠ 15 → (qA l i).1 ≠ 18 → (qA l i).1 ≠ 19 → zC (qA l i).1 = false ∧ (qA l i).1 ≠ 18 ∧ jc (qA l i).1 = 0 := by
  intro a b c d e
  refine ⟨by rw [hbe]; exact decide_eq_false (by omega), d, ?_⟩
  rw [hend, if_neg c, if_neg d, if_neg e]
 have keep : ∀ {s' : IM} {V' : VM} {e : Int}, (qA l i).1 ≠ 14 → (qA l i).1 ≠ 17 → (qA l i).1 ≠ 15 → (qA l i).1 ≠ 18 → (qA l i).1 ≠ 19 → GB s' → s'.opn = s.opn → s.out.length ≤ s'.out.length → kA V V' → jm V' → frS V'.lv ≤ frS V.lv + 1 →
   (e = 11 → s' = s ∧ w8 V V') → JQ l s V ⟨e, s.pc + 1, false, s', V'⟩ := fun a b c d e gb ho hl hk hg hf hn =>
  JQ.plain G hi hlt (plain a b c d e).1 (plain a b c d e).2.1 (plain a b c d e).2.2 gb ho hl hk hg hf hn
 generalize hxe : qA l i = x at *
 obtain ⟨sregs, sout, spc, sopn⟩ := s
 dsimp only at hi hstk hol hr keep ⊢
 unfold doM
 have reg : ∀ v : Int, x.1 ≠ 14 → x.1 ≠ 17 → x.1 ≠ 15 → x.1 ≠ 18 → x.1 ≠ 19 → 0 ≤ v ∧ v < 18446744073709551616 → JQ l ⟨sregs, sout, spc, sopn⟩ V ⟨0, spc + 1, false, setR ⟨sregs, sout, spc, sopn⟩ x.2.1 v, V⟩ :=
  fun v a b c d e hv => keep a b c d e (G.gb.setR hv) rfl (Nat.le_refl _) (.refl V) G.good (by omega) fun h => by cases h
 have jump : ∀ n : Int, (x.1 = 12 ∨ x.1 = 13) → (n = x.2.2.2.1 ∨ n = spc + 1) → JQ l ⟨sregs, sout, spc, sopn⟩ V ⟨0, n, false, ⟨sregs, sout, spc, sopn⟩, V⟩ := by
  intro n ho hn
  rcases hn with rfl | rfl
  ·obtain ⟨c, c1, c2, c3⟩ := hjmp ho
   refine ⟨G.gb, G.good, Nat.le_succ _, rfl, rfl, rfl, fun _ _ => ⟨⟨G.gb.regs, G.gb.out, G.gb.its⟩, ⟨c, c1, c2⟩, G.pts, G.told, ?_, G.lv, G.good⟩, fun h => (by cases h), fun h => (by cases h)⟩
   show sopn.map _ = (qj l x.2.2.2.1.toNat).reverse
   rw [c1, Int.toNat_natCast, c3]; exact hstk
  ·exact keep (by omega) (by omega) (by omega) (by omega) (by omega) G.gb rfl (Nat.le_refl _) (.refl V) G.good (by omega) fun h => by cases h
 by_cases c1 : x.1 = 1
 ·rw [if_pos c1]; exact reg _ (by omega) (by omega) (by omega) (by omega) (by omega) hN
 rw [if_neg c1]
 by_cases c2 : x.1 = 2
 ·rw [if_pos c2]; exact reg _ (by omega) (by omega) (by omega) (by omega) (by omega) (hr _)
 rw [if_neg c2]
 by_cases c3 : x.1 = 3
 ·rw [if_pos c3]; exact reg _ (by omega) (by omega) (by omega) (by omega) (by omega) (OF _)
 rw [if_neg c3]
 by_cases c4 : x.1 = 4
 ·rw [if_pos c4]; exact reg _ (by omega) (by omega) (by omega) (by omega) (by omega) (OF _)
 rw [if_neg c4]
 by_cases c5 : x.1 = 5
 ·rw [if_pos c5]; exact reg _ (by omega) (by omega) (by omega) (by omega) (by omega) (OF _)
 rw [if_neg c5]
 by_cases c6 : x.1 = 6
 ·rw [if_pos c6]; exact reg _ (by omega) (by omega) (by omega) (by omega) (by omega) (MS _)
 rw [if_neg c6]
 by_cases c7 : x.1 = 7
 ·rw [if_pos c7]; exact reg _ (by omega) (by omega) (by omega) (by omega) (by omega) (MS _)
 rw [if_neg c7]
 by_cases c12 : x.1 = 12
 ·rw [if_pos c12]; exact jump _ (.inl c12) (.inl rfl)
 rw [if_neg c12]
 by_cases c13 : x.1 = 13
 ·rw [if_pos c13]
  by_cases cz : qa sregs x.2.1 = 0
  ·rw [if_pos cz]; exact jump _ (.inr c13) (.inl rfl)
  ·rw [if_neg cz]; exact jump _ (.inr c13) (.inr rfl)
 rw [if_neg c13]
 by_cases c21 : x.1 = 21
 ·rw [if_pos c21]
  have hk : ∀ e : Int, e ≠ 11 → JQ l ⟨sregs, sout, spc, sopn⟩ V ⟨e, spc + 1, false, ⟨sregs, sout, spc, sopn⟩, V⟩ := fun e he =>
   keep (by omega) (by omega) (by omega) (by omega) (by omega) G.gb rfl (Nat.le_refl _) (.refl V) G.good (Nat.le_succ _) fun h => absurd h he
  by_cases hlen : 16 ≤ sout.length
  ·rw [if_pos hlen]; exact hk 5 (by omega)
  ·rw [if_neg hlen]
   refine keep (by omega) (by omega) (by omega) (by omega) (by omega) ⟨G.gb.regs, ?_, ?_⟩ rfl ?_ (.refl V) G.good (Nat.le_succ _) fun h => by cases h
   ·show (sout ++ [_]).length ≤ 16; simp; omega
   ·intro y hy
    rcases List.mem_append.1 hy with hy | hy
    ·exact G.gb.its y hy
    ·rw [List.mem_singleton] at hy; subst hy; exact hr _
   ·show sout.length ≤ (sout ++ [_]).length; simp
 rw [if_neg c21]
 by_cases c22 : x.1 = 22
 ·rw [if_pos c22]
  exact keep (by omega) (by omega) (by omega) (by omega) (by omega) G.gb rfl (Nat.le_refl _) (.refl V) G.good (Nat.le_succ _) fun h => by cases h
 rw [if_neg c22]
 by_cases c8 : x.1 = 8 ∨ x.1 = 9 ∨ x.1 = 10 ∨ x.1 = 11
 ·rw [if_pos c8]
  obtain ⟨t1, t2, t3, t4, t5, t6, t7, t8⟩ := VG (x := x) G hf
  exact keep (by omega) (by omega) (by omega) (by omega) (by omega) t1 t2 (by rw [t3]; exact Nat.le_refl _) t5 t6 t7 t8
 rw [if_neg c8]
 unfold g9
 by_cases h : x.1 = 14 ∨ x.1 = 17
 ·rw [if_pos h]
  dsimp only
  subst hi
  have hb : zC x.1 = true := by rw [hbe]; exact decide_eq_true h
  have he : ¬ 0 < jc x.1 := by rw [hend, if_neg (by omega), if_neg (by omega), if_neg (by omega)]; omega
  have key := Xd (l := l) (s := ⟨sregs, sout, (i : Int), sopn⟩) (V := V) (op := x.1) (p := i) (st := qj l i) G.gb hlt ⟨by omega, by rw [hxe]⟩ G.pts G.told hstk (by rw [hss]; unfold jg; rw [if_pos (.inl hb), if_neg he]) G.lv (by show sopn.length < 5; rw [hol]; exact hw.2.2.2 hb) G.good
  obtain ⟨k1, k2, k3, k4, k5⟩ := key
  have hoG := G.good.openG
  refine ⟨k4.gb |> fun g => ⟨g.regs, g.out, g.its⟩, k4.good, ?_, ?_, ?_, ?_, fun _ _ => ?_, fun h => (by rw [k1] at h; cases h), fun h => (by rw [k2] at h; cases h)⟩
  ·rw [k5, hoG.2]; omega
  ·rw [k5]; rfl
  ·rw [k5]; rfl
  ·rw [k5]; rfl
  ·rw [k3]; exact k4
 rw [if_neg h]
 clear h
 by_cases h : x.1 = 15 ∨ x.1 = 19
 ·rw [if_pos h]
  have he : 0 < jc x.1 := by rw [hend]; rcases h with h | h <;> rw [h] <;> decide
  have hne := hwo.2.1 (.inl he)
  match sopn, hol, hstk, G with
  | [], hol, _, _ => exact absurd (List.eq_nil_of_length_eq_zero hol.symm) hne
  | p :: o, hol, hstk, G =>
   have hk := YR (V := V) (by rw [G.lv]; simp)
   have hkG := G.good.keepG (by omega)
   have hlv := G.lv
   refine ⟨⟨G.gb.regs, G.gb.out, G.gb.its⟩, hkG.1, by rw [hkG.2]; omega, rfl, rfl, rfl, fun _ _ => ⟨⟨G.gb.regs, G.gb.out, G.gb.its⟩, ⟨i + 1, by show spc + 1 = _; omega, by omega⟩, fun q hq => G.pts q (List.mem_cons_of_mem _ hq), G.told.tail, ?_, ?_, hkG.1⟩, fun h0 => (by
    dsimp only at h0; rw [hk.1] at h0; cases h0), fun h => (by cases h)⟩
   ·show o.map _ = (qj l (spc + 1).toNat).reverse
    rw [hi, show ((i : Int) + 1).toNat = i + 1 by omega, hss]
    unfold jg
    rw [if_neg (by rw [hbe]; simp; omega), if_pos he]
    exact (kK hstk).2
   ·show (xX V).2.lv.length = o.length + 1
    have := hk.2
    simp at hlv
    omega
 rw [if_neg h]
 clear h
 by_cases h : x.1 = 18
 ·rw [if_pos h]
  have he : 0 < jc x.1 := by rw [hend]; rw [h]; decide
  have hne := hwo.2.1 (.inl he)
  obtain ⟨e, e1, e2, e3, e4, e5⟩ := hmb (.inr (.inr h))
  have heo : (qA l (e : Int)).1 = 19 := by
   rw [h] at e4
   unfold jc at e4
   repeat' split at e4
   all_goals first | assumption | omega
  match sopn, hol, hstk, G with
  | [], hol, _, _ => exact absurd (List.eq_nil_of_length_eq_zero hol.symm) hne
  | p :: o, hol, hstk, G =>
   have hk := YR (V := V) (by rw [G.lv]; simp)
   have hkG := G.good.keepG (by omega)
   have hlv := G.lv
   refine ⟨⟨G.gb.regs, G.gb.out, G.gb.its⟩, hkG.1, by rw [hkG.2]; omega, rfl, rfl, rfl, fun _ _ => ⟨⟨G.gb.regs, G.gb.out, G.gb.its⟩, ⟨e + 1, by show qa (qB l) spc + 1 = _; rw [hi, e1]; omega, by omega⟩, fun q hq => G.pts q (List.mem_cons_of_mem _ hq), G.told.tail, ?_, ?_, hkG.1⟩, fun h0 => (by
    dsimp only at h0; rw [hk.1] at h0; cases h0), fun h => (by cases h)⟩
   ·show o.map _ = (qj l (qa (qB l) spc + 1).toNat).reverse
    rw [hi, e1, show ((e : Int) + 1).toNat = e + 1 by omega, jw, e5, hss]
    unfold jg
    rw [if_neg (by rw [heo]; decide), if_pos (by rw [heo]; decide), if_pos (.inr h), if_pos he, List.dropLast_concat]
    exact (kK hstk).2
   ·show (xX V).2.lv.length = o.length + 1
    have := hk.2
    simp at hlv
    omega
 rw [if_neg h]
 clear h
 by_cases h : x.1 = 16
 ·rw [if_pos h]
  obtain ⟨e, e1, e2, e3, e4, hne⟩ := hmu h
  match sopn, hol, hstk, G with
  | [], hol, _, _ => exact absurd (List.eq_nil_of_length_eq_zero hol.symm) hne
  | p :: o, hol, hstk, G =>
   have hk := Gj (V := V) (by rw [G.lv]; simp)
   have hkG := G.good.dropG
   have hlv := G.lv
   have P := G.pts p (List.mem_cons_self ..)
   have told := G.told
   have gb2 := G.gb.back P
   refine ⟨⟨gb2.regs, gb2.out, gb2.its⟩, hkG.1, by have := hkG.2; dsimp only; omega, rfl, rfl, rfl, fun _ _ => ⟨⟨gb2.regs, gb2.out, gb2.its⟩, ⟨e + 1, by show qa (qB l) spc + 1 = _; rw [hi, e1]; omega, by omega⟩, fun q hq => G.pts q (List.mem_cons_of_mem _ hq), ?_, ?_, ?_, hkG.1⟩, fun h0 => (by
    dsimp only at h0; rw [hk.1] at h0; cases h0), fun h => (by cases h)⟩
   ·show ToldD (sout.take p.told).length o
    rw [List.length_take, Nat.min_eq_left told.1]; exact told.2
   ·show o.map _ = (qj l (qa (qB l) spc + 1).toNat).reverse
    rw [hi, e1, show ((e : Int) + 1).toNat = e + 1 by omega, jw, e4]
    unfold jg
    rw [if_neg (by rw [e3]; decide), if_pos (by rw [e3]; decide)]
    exact (kK hstk).2
   ·show (zy V).2.lv.length = o.length + 1
    rw [hk.2, List.length_tail, hlv]; simp
 ·rw [if_neg h]
  exact VV F sopn _ V (qj l i) (GQ i) hstk G.gb G.pts G.told G.lv G.good (Nat.le_refl _) rfl rfl rfl
end Go.Proofs.YtdlfmpmpmkffjaaGreatDoor
namespace Go.Proofs.YtdlfmpmpmkffjaaGreatDoor
open Go Go.Ae
set_option maxRecDepth 100000
variable {g h : AH} {L R : List SP}
theorem GP {b off n sz a : Nat} {k : IntKind} {K : AV → Go.Ae.R} {Q : AV → AH → Prop} (ha : a < n) (w : wp (K (.ptr b (off + a * sz))) Q) : wp (yU (.ptr b off) (.int k (a : Int)) n sz K) Q := by
 unfold yU
 show wp (bif Nat.ble (a + 1) n then _ else none) Q
 rw [Nat.ble_eq_true_of_le (show a + 1 ≤ n from ha)]
 exact w
theorem Ot {z : Int} (h0 : 0 ≤ z) : ∃ a : Nat, z.tmod ((8 : Nat) : Int) = a ∧ a < 8 ∧ (z < 8 → z = a) := by
 refine ⟨(z % 8).toNat, ?_, by omega, fun h => by omega⟩
 rw [Int.tmod_eq_emod_of_nonneg h0]; omega
def Zg (r : List Int) : List AV := [.int .u64 (qa r 0), .int .u64 (qa r 1), .int .u64 (qa r 2), .int .u64 (qa r 3), .int .u64 (qa r 4), .int .u64 (qa r 5), .int .u64 (qa r 6), .int .u64 (qa r 7)]
def xR (p : PtM) : List AV := [.int .i64 p.op, .int .i64 p.pc, .int .u64 (qa p.regs 0), .int .u64 (qa p.regs 1), .int .u64 (qa p.regs 2), .int .u64 (qa p.regs 3), .int .u64 (qa p.regs 4), .int .u64 (qa p.regs 5), .int .u64 (qa p.regs 6), .int .u64 (qa p.regs 7), .int .i64 (p.told : Int)]
def yf (c mv ov : AV) (v o : Nat) (bad err fin left nx pc : Int) (r : List Int) : List AV :=
 [c, .ptr v 0, mv, .int .i64 bad, .int .i64 err, .int .i64 fin, .int .u64 (qa r 0), .int .u64 (qa r 1), .int .u64 (qa r 2), .int .u64 (qa r 3), .int .u64 (qa r 4), .int .u64 (qa r 5), .int .u64 (qa r 6), .int .u64 (qa r 7),
  .ptr o 0, .int .i64 pc, .int .i64 nx, .int .i64 left, ov]
section
variable {c mv ov : AV} {v o : Nat} {bad err fin left nx pc : Int} {r : List Int}
theorem QE {a : Nat} (ha : a < 8) : (yf c mv ov v o bad err fin left nx pc r)[6 + a * 1]? = some (.int .u64 (qa r (a : Int))) := by
 rcases (show a = 0 ∨ a = 1 ∨ a = 2 ∨ a = 3 ∨ a = 4 ∨ a = 5 ∨ a = 6 ∨ a = 7 by omega) with rfl | rfl | rfl | rfl | rfl | rfl | rfl | rfl <;> rfl
theorem NX {i k : Nat} {z : Int} (hi : i < r.length) : qa (r.set i z) (k : Int) = if i = k then z else qa r (k : Int) := by
 unfold qa
 rw [Int.toNat_natCast, List.getElem?_set]
 split
 ·rename_i h; subst h; simp [hi]
 ·rfl
theorem qZ1 {a : Nat} {z : Int} (hr : r.length = 8) (ha : a < 8) : (yf c mv ov v o bad err fin left nx pc r).set (6 + a * 1) (.int .u64 z) = yf c mv ov v o bad err fin left nx pc (r.set a z) := by
 have hs := fun k : Nat => NX (r := r) (i := a) (k := k) (z := z) (by omega)
 have e0 := hs 0; have e1 := hs 1; have e2 := hs 2; have e3 := hs 3; have e4 := hs 4; have e5 := hs 5; have e6 := hs 6; have e7 := hs 7
 simp only [Int.ofNat_eq_natCast, show ((0 : Nat) : Int) = 0 from rfl, show ((1 : Nat) : Int) = 1 from rfl, show ((2 : Nat) : Int) = 2 from rfl, show ((3 : Nat) : Int) = 3 from rfl, show ((4 : Nat) : Int) = 4 from rfl, show ((5 : Nat) : Int) = 5 from rfl, show ((6 : Nat) : Int) = 6 from rfl, show ((7 : Nat) : Int) = 7 from rfl] at e0 e1 e2 e3 e4 e5 e6 e7
 unfold yf
 rw [e0, e1, e2, e3, e4, e5, e6, e7]
 rcases (show a = 0 ∨ a = 1 ∨ a = 2 ∨ a = 3 ∨ a = 4 ∨ a = 5 ∨ a = 6 ∨ a = 7 by omega) with rfl | rfl | rfl | rfl | rfl | rfl | rfl | rfl <;> rfl
end
theorem OZ {r : List Int} (h : r.length = 8) : Zg r = r.map (.int .u64) := by
 match r, h with
 | [a, b, c, d, e, f, g, i], _ => rfl
def IntC (x v : Nat) (l : List qI) (bad : Int) (mt : List Int) (s : IM) (err fin left nx : Int) : SP := .ex fun c => .ex fun mv => .ex fun ov => .ex fun o => .all
 [qU x (yf c mv ov v o bad err fin left nx s.pc s.regs), qb 28 5 l.length c (l.flatMap jj), qb 3 1 mt.length mv (mt.map (.int .i64)), SlaC o s.out, qb 195 11 s.opn.length ov (s.opn.reverse.flatMap xR)]
section
variable {x v : Nat} {l : List qI} {bad : Int} {mt : List Int} {s : IM} {err fin left nx : Int}
theorem IntC.E (H : HS g h (IntC x v l bad mt s err fin left nx :: R)) : ∃ c mv ov o, HS g h (qU x (yf c mv ov v o bad err fin left nx s.pc s.regs) :: qb 28 5 l.length c (l.flatMap jj) :: qb 3 1 mt.length mv (mt.map (.int .i64)) :: SlaC o s.out ::
  qb 195 11 s.opn.length ov (s.opn.reverse.flatMap xR) :: R) := by
 obtain ⟨c, H⟩ := H.exE
 obtain ⟨mv, H⟩ := H.exE
 obtain ⟨ov, H⟩ := H.exE
 obtain ⟨o, H⟩ := H.exE
 exact ⟨c, mv, ov, o, H.allE⟩
theorem IntC.I {c mv ov : AV} {o : Nat} (H : HS g h (qU x (yf c mv ov v o bad err fin left nx s.pc s.regs) :: qb 28 5 l.length c (l.flatMap jj) :: qb 3 1 mt.length mv (mt.map (.int .i64)) :: SlaC o s.out ::
  qb 195 11 s.opn.length ov (s.opn.reverse.flatMap xR) :: R)) : HS g h (IntC x v l bad mt s err fin left nx :: R) :=
 HS.exI c (HS.exI mv (HS.exI ov (HS.exI o H.allI)))
theorem qXL {n o : Nat} (hn : 1 ≤ n) {l : List ItT} (H : HS g h (SlaC o l :: R)) : wp (callT tab qc n (.fn 200 [] []) [.ptr o 0] h) fun r h' => r = .int .i64 (l.length : Int) ∧ h' = h := by
 (refine qr (g := W200) rfl (by omega) fun k hk => ?_; show wp (S200 (callT tab qc k) _ _) _; unfold S200; try simp only [iI, uU, Int.ofNat_eq_natCast])
 obtain ⟨sv, H⟩ := SlaC.E H
 with_reducible (refine qL ?_; refine qV ?_; refine qv (by assumption) .here rfl ?_; refine jb (by assumption) e_1 ?_)
 exact qk ⟨rfl, rfl⟩
theorem qX6 {n o : Nat} (hn : 1 ≤ n) {l : List ItT} {x : ItT} (H : HS g h (SlaC o l :: R)) (hl : l.length ≤ 16) :
  wp (callT tab qc n (.fn 112 [] []) [.ptr o 0, gp x] h) fun r h' => r = .bool (decide (l.length < 16)) ∧ HS g h' (SlaC o (if l.length < 16 then l ++ [x] else l) :: R) := by
 (refine qr (g := W112) rfl (by omega) fun k hk => ?_; show wp (S112 (callT tab qc k) _ _ _) _; unfold S112; try simp only [iI, uU, Int.ofNat_eq_natCast])
 obtain ⟨sv, H⟩ := SlaC.E H
 by_cases h1 : l.length < 16
 ·rw [if_pos h1, decide_eq_true h1]
  with_reducible (refine qL ?_; refine qV ?_; refine qv (by assumption) .here rfl ?_; refine jb (by assumption) e_1 ?_; refine zS (by omega) ?_; refine qQ ?_; refine qL ?_; refine qV ?_; refine qv (by assumption) .here rfl ?_)
  refine jK (n := 1) (l := [gp x]) (sz := 1) H rfl rfl (by
   have e := (k8 x).1
   simp only [vt, e, yC]; rfl) (x8 (k8 x)) fun v2 h2 H2 => ?_
  refine zl (H2.sel e_2) (H2.sl .here) (by omega) (by omega) (x8 (k8 x)) fun v3 h3 H3 => ?_
  have o3 := H3.one .here
  refine qL ?_; refine qV ?_
  refine jM H3 (b := o) e_2 o3 (by simp) fun h4 H4 => ?_
  refine qk ⟨rfl, SlaC.I (sv := v3) ?_⟩
  rw [List.length_append, List.map_append]
  exact H4.sub (.cons .here (.cons .here (.drop .refl)))
 ·rw [if_neg h1, decide_eq_false h1]
  with_reducible (refine qL ?_; refine qV ?_; refine qv (by assumption) .here rfl ?_; refine jb (by assumption) e_1 ?_; refine zT (by omega) ?_; refine qY ?_)
  exact qk ⟨rfl, SlaC.I H⟩
theorem qXA {n o : Nat} (hn : 2 ≤ n) {l : List ItT} {u : Int} (H : HS g h (SlaC o l :: R)) (hl : l.length ≤ 16) :
  wp (callT tab qc n (.fn 84 [] []) [.ptr o 0, .int .u64 u] h) fun r h' => r = .bool (decide (l.length < 16)) ∧ HS g h' (SlaC o (if l.length < 16 then l ++ [(1, u)] else l) :: R) := by
 (refine qr (g := W84) rfl (by omega) fun k hk => ?_; show wp (S84 (callT tab qc k) _ _ _) _; unfold S84; try simp only [iI, uU, Int.ofNat_eq_natCast])
 refine qx (qX6 (x := (1, u)) (by omega) H hl) ?_
 rintro _ h2 ⟨rfl, H2⟩
 exact qk ⟨rfl, H2⟩
theorem Yp {n m : Nat} (hn : 1 ≤ n) {e : TypeId} {v : AV} {xs : List AV} (H : HS g h L) (s : Sel L (qb e 1 m v xs) R) (ha : qu xs = true) (hm : m ≤ 1000000) :
  wp (callT tab qc n (.fn 88 [] []) [v] h) fun r h' => HS g h' (qb 20 1 m r xs :: L) := by
 (refine qr (g := W88) rfl (by omega) fun k hk => ?_; show wp (S88 (callT tab qc k) _ _) _; unfold S88; try simp only [iI, uU, Int.ofNat_eq_natCast])
 refine Ma H s (fun h1 h2 => ?_) ?_
 ·subst h1 h2
  have hx : xs = [] := List.eq_nil_of_length_eq_zero (by simpa using H.sl_len s)
  subst hx
  exact qY (qk H.nils)
 ·refine qQ ?_
  refine jK (n := 0) (l := []) (sz := 1) H rfl rfl rfl rfl fun v2 h2 H2 => ?_
  refine zl H2 (H2.sl (.there s)) (by omega) (by omega) ha fun v3 h3 H3 => ?_
  rw [Nat.zero_add, List.nil_append] at H3
  exact qk H3
theorem Zc {n o : Nat} (hn : 2 ≤ n) {l : List ItT} (H : HS g h (SlaC o l :: R)) (hl : l.length ≤ 16) :
  wp (callT tab qc n (.fn 53 [] []) [.ptr o 0] h) fun r h' => ∃ p, r = .ptr p 0 ∧ HS g h' (SlaC p l :: SlaC o l :: R) := by
 (refine qr (g := W53) rfl (by omega) fun k hk => ?_; show wp (S53 (callT tab qc k) _ _) _; unfold S53; try simp only [iI, uU, Int.ofNat_eq_natCast])
 obtain ⟨sv, H⟩ := SlaC.E H
 with_reducible (refine qL ?_; refine qV ?_; refine qv (by assumption) .here rfl ?_)
 refine qx (Yp (by omega) H e_1 (X9 l) (by omega)) ?_
 intro cv h2 H2
 have oc := H2.one .here
 refine qt (l := [cv]) (by simp only [vt, oc.1]; rfl) ?_
 refine jJ H2 (x8 oc) fun p h3 H3 => qk ⟨p, rfl, ?_⟩
 have H4 := SlaC.I (o := p) (l := l) (sv := cv) (R := qU o [sv] :: qb 20 1 l.length sv (l.map gp) :: R) H3
 exact HS.unsel e_1 (SlaC.I (o := o) (l := l) (sv := sv) (R := SlaC p l :: R) (H4.sub (.cons e_1 (.cons e_1 (.cons .here .refl)))))
theorem qZu {n o m : Nat} (hn : 2 ≤ n) {l : List ItT} (H : HS g h (SlaC o l :: R)) (hl : l.length ≤ 16) (hm : m ≤ l.length) :
  wp (callT tab qc n (.fn 202 [] []) [.ptr o 0, .int .i64 (m : Int)] h) fun _ h' => HS g h' (SlaC o (l.take m) :: R) := by
 (refine qr (g := W202) rfl (by omega) fun k hk => ?_; show wp (S202 (callT tab qc k) _ _ _) _; unfold S202; try simp only [iI, uU, Int.ofNat_eq_natCast])
 obtain ⟨sv, H⟩ := SlaC.E H
 with_reducible (refine qL ?_; refine qV ?_; refine qv (by assumption) .here rfl ?_; refine qL ?_; refine qV ?_; refine qv (by assumption) .here rfl ?_; refine jb (by assumption) e_1 ?_; refine yj ?_; refine yY ?_)
 rw [show max ((0 : Nat) : Int) (min (m : Int) (l.length : Int)) = (m : Int) by omega]
 refine kP (H.sel e_1) (by omega) hm fun v2 H2 => ?_
 rw [Nat.mul_one, ← List.map_take] at H2
 refine qx (Yp (by omega) H2 .here (X9 _) (by omega)) ?_
 intro cv h3 H3
 have oc := H3.one .here
 refine qL ?_; refine qV ?_
 refine jM H3 (b := o) e_2 oc (by simp) fun h4 H4 => ?_
 refine qk (SlaC.I (sv := cv) ?_)
 rw [show (l.take m).length = m by simp; omega]
 exact H4.sub (.cons .here (.cons .here (.drop .refl)))
theorem Yi {n : Nat} (hn : 1 ≤ n) {p : Prop} [Decidable p] : wp (callT tab qc n (.fn 83 [] []) [.bool (decide p)] h) fun r h' => r = .int .u64 (QM p) ∧ h' = h := by
 (refine qr (g := W83) rfl (by omega) fun k hk => ?_; show wp (S83 (callT tab qc k) _ _) _; unfold S83; try simp only [iI, uU, Int.ofNat_eq_natCast])
 unfold QM
 by_cases hp : p
 ·rw [decide_eq_true hp, if_pos hp]
  exact qY (qk ⟨rfl, rfl⟩)
 ·rw [decide_eq_false hp, if_neg hp]
  exact qQ (qk ⟨rfl, rfl⟩)
theorem K6 {n : Nat} (hn : 1 ≤ n) {e : Int} (H : HS g h (IntC x v l bad mt s err fin left nx :: R)) :
  wp (callT tab qc n (.fn 50 [] []) [.ptr x 0, .int .i64 e] h) fun _ h' => HS g h' (IntC x v l bad mt s e 4 left nx :: R) := by
 (refine qr (g := W50) rfl (by omega) fun k hk => ?_; show wp (S50 (callT tab qc k) _ _ _) _; unfold S50; try simp only [iI, uU, Int.ofNat_eq_natCast])
 obtain ⟨c, mv, ov, o, H⟩ := IntC.E H
 unfold yf at H
 refine qL ?_; refine qV ?_
 refine jM H (b := x) .here ⟨rfl, rfl⟩ (by simp) fun h1 H1 => ?_
 refine qL ?_; refine qV ?_
 refine jM H1 (b := x) .here ⟨rfl, rfl⟩ (by simp) fun h2 H2 => ?_
 exact qk (IntC.I H2)
theorem Ym {n : Nat} (hn : 3 ≤ n) (H : HS g h (IntC x v l bad mt s err fin left nx :: R)) (hl : s.out.length ≤ 16) :
  wp (callT tab qc n (.fn 16 [] []) [.ptr x 0] h) fun r h' => ∃ p, r = .ptr p 0 ∧ HS g h' (SlaC p s.out :: IntC x v l bad mt s err fin left nx :: R) := by
 (refine qr (g := W16) rfl (by omega) fun k hk => ?_; show wp (S16 (callT tab qc k) _ _) _; unfold S16; try simp only [iI, uU, Int.ofNat_eq_natCast])
 obtain ⟨c, mv, ov, o, H⟩ := IntC.E H
 unfold yf at H
 with_reducible (refine qL ?_; refine qV ?_; refine qv (by assumption) .here rfl ?_)
 refine qx (Zc (by omega) (H.sel (P := SlaC o s.out) e_3) hl) ?_
 rintro _ h2 ⟨p, rfl, H2⟩
 refine qk ⟨p, rfl, ?_⟩
 exact HS.unsel e_1 (IntC.I (c := c) (mv := mv) (ov := ov) (o := o) (R := SlaC p s.out :: R) (H2.sub (.cons e_2 (.cons e_2 (.cons e_2 (.cons e_1 (.cons e_1 .refl)))))))
theorem Y1 {n : Nat} (hn : 1 ≤ n) {b off : Int} (hb : 0 ≤ b ∧ b < 18446744073709551616) (ho : 0 ≤ off ∧ off ≤ 100) : wp (callT tab qc n (.fn 127 [] []) [.int .u64 b, .int .i64 off] h) fun r h' => r = .tup [.int .i64 (xw b off).1, .int .i64 (xw b off).2] ∧ h' = h := by
 (refine qr (g := W127) rfl (by omega) fun k hk => ?_; show wp (S127 (callT tab qc k) _ _ _) _; unfold S127; try simp only [iI, uU, Int.ofNat_eq_natCast])
 unfold xw
 by_cases h1 : 2147483648 ≤ b
 ·rw [if_pos (.inl h1)]
  with_reducible (refine zT (by omega) ?_; refine qW ?_; (try dsimp only); refine jD ?_; (try dsimp only); refine qe ?_; refine qW ?_; (try dsimp only); refine jD ?_; (try dsimp only); refine qe ?_; refine qY ?_)
  exact qk ⟨rfl, rfl⟩
 ·refine zS (by omega) ?_
  with_reducible (refine qW ?_; (try dsimp only); refine ql ?_; (try dsimp only); refine zn (by omega) ?_; refine qh (by omega) ?_)
  by_cases h2 : 2147483648 ≤ b + off
  ·rw [if_pos (.inr (.inl h2))]
   refine zT (by omega) ?_
   with_reducible (refine qd ?_; refine qW ?_; (try dsimp only); refine jD ?_; (try dsimp only); refine qe ?_; refine qY ?_)
   exact qk ⟨rfl, rfl⟩
  ·refine zS (by omega) ?_
   with_reducible (refine qd ?_; refine qW ?_; (try dsimp only); refine ql ?_; (try dsimp only); refine zn (by omega) ?_; refine qh (by omega) ?_)
   by_cases h3 : b + off < 6
   ·rw [if_pos (.inr (.inr h3))]
    refine xj (by omega) ?_
    refine qd ?_; refine qY ?_
    exact qk ⟨rfl, rfl⟩
   ·rw [if_neg (by omega)]
    refine ze (by omega) ?_
    with_reducible (refine qd ?_; refine qQ ?_; refine zn (by omega) ?_; refine qh (by omega) ?_)
    exact qk ⟨rfl, rfl⟩
theorem qJP {most : Nat} {lv : List LvM} {p z : Int} (h : ¬ (xH most lv p z).1 = 0) : (xH most lv p z).2 = lv := by
 cases lv with
 | nil => rfl
 | cons y r =>
  unfold xH at h ⊢
  dsimp only at h ⊢
  split
  ·rfl
  ·rename_i h1
   rw [if_neg h1] at h
   split
   ·rfl
   ·rename_i h2
    rw [if_neg h2] at h
    exact absurd rfl h
theorem NV {n : Nat} (hn : 6 ≤ n) {v : Nat} {M : VM} {p z : Int} (H : HS g h (ViewC v M :: R)) (O : OkV M) :
  wp (callT tab qc n (.fn 128 [] []) [.ptr v 0, .int .i64 p, .int .u64 z] h) fun r h' => r = .int .i64 (ji M [(p, z)]).1 ∧ HS g h' (ViewC v (ji M [(p, z)]).2 :: R) := by
 (refine qr (g := W128) rfl (by omega) fun k hk => ?_; show wp (S128 (callT tab qc k) _ _ _ _) _; unfold S128; try simp only [iI, uU, Int.ofNat_eq_natCast])
 refine qx (Gr (by omega) H) ?_
 rintro _ _ ⟨rfl, rfl⟩
 by_cases hp : 1 ≤ p ∧ p < M.sz
 ·rw [decide_eq_true hp]
  obtain ⟨fv, ov, q, e, H⟩ := ViewC.E H
  with_reducible (refine zv ?_; refine qQ ?_; refine qL ?_; refine qV ?_; refine qv (by assumption) .here rfl ?_)
  refine qx (Mw (by omega) (H.sel (P := LgC q M.most M.lv) e_3) O.lvs) ?_
  rintro _ h2 ⟨rfl, H2⟩
  have e2 : ji M [(p, z)] = ((xH M.most M.lv p z).1, { M with lv := (xH M.most M.lv p z).2 }) := by
   unfold ji
   rw [if_pos (by intro c hc; rw [List.mem_singleton] at hc; subst hc; exact hp), xD]
   split
   ·rename_i h0; rw [h0]; rfl
   ·rename_i h0
    have hx := qJP h0
    rw [hx]
  rw [e2]
  exact qk ⟨rfl, ViewC.I (M := { M with lv := (xH M.most M.lv p z).2 }) (fv := fv) (ov := ov) (q := q) (e := e) (H2.sub (.cons e_1 (.cons e_1 (.cons e_1 (.refl)))))⟩
 ·rw [decide_eq_false hp]
  have e2 : ji M [(p, z)] = (2, M) := by
   unfold ji
   rw [if_neg (fun hh => hp (hh (p, z) (List.mem_singleton_self _)))]
  rw [e2]
  refine zM ?_; refine qY ?_
  exact qk ⟨rfl, H⟩
end
end Go.Proofs.YtdlfmpmpmkffjaaGreatDoor
namespace Go.Proofs.YtdlfmpmpmkffjaaGreatDoor
open Go Go.Ae
set_option maxRecDepth 100000
variable {g h : AH} {L R : List SP}
section
variable {x v : Nat} {l : List qI} {bad : Int} {mt : List Int} {s : IM} {err fin left nx : Int}
theorem On (o : List PtM) : (o.reverse.flatMap xR).length = o.length * 11 := by rw [kJ (sz := 11) _ (fun _ => rfl), List.length_reverse]
theorem Ol (p : PtM) : qu (xR p) = true := rfl
theorem GZ (p : PtM) (o : List PtM) : (p :: o).reverse.flatMap xR = o.reverse.flatMap xR ++ xR p := by
 rw [List.reverse_cons, List.flatMap_append]; simp
theorem kD {n : Nat} (hn : 1 ≤ n) {p : PtM} {o : List PtM} (ho : s.opn = p :: o) (hlo : o.length ≤ 100) (H : HS g h (IntC x v l bad mt s err fin left nx :: R)) :
  wp (callT tab qc n (.fn 132 [] []) [.ptr x 0] h) fun r h' => r = .agg (xR p) ∧ HS g h' (IntC x v l bad mt { s with opn := o } err fin left nx :: R) := by
 (refine qr (g := W132) rfl (by omega) fun k hk => ?_; show wp (S132 (callT tab qc k) _ _) _; unfold S132; try simp only [iI, uU, Int.ofNat_eq_natCast])
 obtain ⟨c, mv, ov, q, H⟩ := IntC.E H
 rw [ho, GZ, List.length_cons] at H
 have hol := On o
 generalize hA : o.reverse.flatMap xR = A at *
 unfold yf at H
 refine jJ H rfl fun b0 h1 H1 => ?_
 clear H
 with_reducible (refine qL ?_; refine qV ?_; refine qv (by assumption) e_1 rfl ?_; refine qL ?_; refine qV ?_; refine qv (by assumption) e_1 rfl ?_; refine jb (by assumption) e_5 ?_; refine zQ (by omega) ?_)
 rw [show ((o.length + 1 : Nat) : Int) - ((1 : Nat) : Int) = (o.length : Int) by omega]
 refine xY (l := xR p) (H1.sl e_5) (i := o.length) (by omega) (by omega) (by
  rw [List.drop_append_of_le_length (by omega), List.drop_of_length_le (by omega), List.nil_append]; rfl) ?_
 refine jJ H1 rfl fun b2 h3 H3 => jF H3 .here rfl (by show 0 + 11 ≤ 11; omega) rfl fun h4 H4 => ?_
 have H5 : HS g h4 (qU b2 (xR p) :: qU b0 [.int .i64 ((0 : Nat) : Int), .int .i64 ((0 : Nat) : Int), .int .u64 ((0 : Nat) : Int), .int .u64 ((0 : Nat) : Int), .int .u64 ((0 : Nat) : Int), .int .u64 ((0 : Nat) : Int), .int .u64 ((0 : Nat) : Int), .int .u64 ((0 : Nat) : Int), .int .u64 ((0 : Nat) : Int), .int .u64 ((0 : Nat) : Int), .int .i64 ((0 : Nat) : Int)] ::
  qU x (yf c mv ov v q bad err fin left nx s.pc s.regs) :: qb 28 5 l.length c (l.flatMap jj) :: qb 3 1 mt.length mv (mt.map (.int .i64)) :: SlaC q s.out ::
  qb 195 11 (o.length + 1) ov (A ++ xR p) :: R) := H4
 clear H1 H3 H4
 unfold yf at H5
 with_reducible (refine qL ?_; refine qV ?_; refine qv (by assumption) e_2 rfl ?_; refine qL ?_; refine qV ?_; refine qv (by assumption) e_2 rfl ?_; refine jb (by assumption) e_6 ?_; refine zQ (by omega) ?_)
 rw [show ((o.length + 1 : Nat) : Int) - ((1 : Nat) : Int) = (o.length : Int) by omega]
 refine kP (hi := o.length) (H5.sel e_6) (by omega) (by omega) fun v6 H6 => ?_
 rw [List.take_append_of_le_length (by omega), List.take_of_length_le (by omega)] at H6
 have o6 := H6.one .here
 clear H5
 refine qL ?_; refine qV ?_
 refine jM H6 (b := x) e_3 o6 (by simp) fun h7 H7 => ?_
 refine qo H7 (b := b2) (off := 0) e_2 rfl (by omega) (l := xR p) rfl ?_
 refine jF H7 (b := b0) e_3 rfl (by show 0 + 11 ≤ 11; omega) rfl fun h8 H8 => ?_
 have H8 : HS g h8 (qU b0 (xR p) :: qU x (yf c mv v6 v q bad err fin left nx s.pc s.regs) :: qb 195 11 o.length v6 A :: qU b2 (xR p) ::
  qb 28 5 l.length c (l.flatMap jj) :: qb 3 1 mt.length mv (mt.map (.int .i64)) :: SlaC q s.out :: R) := H8
 refine qo H8 (b := b0) (off := 0) .here rfl (by omega) (l := xR p) rfl ?_
 refine qk ⟨rfl, IntC.I (s := { s with opn := o }) (c := c) (mv := mv) (ov := v6) (o := q) ?_⟩
 show HS g h8 (qU x (yf c mv v6 v q bad err fin left nx s.pc s.regs) :: qb 28 5 l.length c (l.flatMap jj) :: qb 3 1 mt.length mv (mt.map (.int .i64)) :: SlaC q s.out ::
  qb 195 11 o.length v6 (o.reverse.flatMap xR) :: R)
 rw [hA]
 exact H8.sub (.cons e_1 (.cons e_3 (.cons e_3 (.cons e_3 (.cons e_1 (.drop (.drop .refl)))))))
theorem UW {n : Nat} (hn : 3 ≤ n) {p : PtM} (ht : p.told ≤ s.out.length) (hl : s.out.length ≤ 16) (H : HS g h (IntC x v l bad mt s err fin left nx :: R)) :
  wp (callT tab qc n (.fn 134 [] []) [.ptr x 0, .agg (xR p)] h) fun _ h' => HS g h' (IntC x v l bad mt (vn s p) err fin left nx :: R) := by
 (refine qr (g := W134) rfl (by omega) fun k hk => ?_; show wp (S134 (callT tab qc k) _ _ _) _; unfold S134; try simp only [iI, uU, Int.ofNat_eq_natCast])
 refine jJ H (Ol p) fun b0 h1 H1 => ?_
 obtain ⟨c, mv, ov, q, H2⟩ := IntC.E (H1.sel (P := IntC x v l bad mt s err fin left nx) e_1)
 clear H H1
 refine qV ?_
 refine qo H2 (b := b0) (off := 2) e_5 rfl (by omega) (l := Zg p.regs) rfl ?_
 refine qL (qV ?_)
 refine jF H2 (b := x) .here rfl (by show 6 + 8 ≤ 19; omega) rfl fun h3 H3 => ?_
 have H3 : HS g h3 (qU x (yf c mv ov v q bad err fin left nx s.pc p.regs) :: qb 28 5 l.length c (l.flatMap jj) :: qb 3 1 mt.length mv (mt.map (.int .i64)) :: SlaC q s.out ::
  qb 195 11 s.opn.length ov (s.opn.reverse.flatMap xR) :: qU b0 (xR p) :: R) := H3
 clear H2
 have H4 := H3
 unfold yf xR at H4
 with_reducible (refine qL ?_; refine qV ?_; refine qv (by assumption) .here rfl ?_; refine qV ?_; refine qv (by assumption) e_5 rfl ?_)
 refine qx (qZu (by omega) (H3.sel (P := SlaC q s.out) e_3) hl ht) ?_
 intro _ h5 H5
 clear H4 H3
 exact qk (IntC.I (s := vn s p) (c := c) (mv := mv) (ov := ov) (o := q) (H5.sub (.cons e_1 (.cons e_1 (.cons e_1 (.cons .here (.cons .here (.drop .refl))))))))
theorem Y2 {n : Nat} (hn : 5 ≤ n) {op at_ nx0 : Int} {V : VM} (O : OkV V) (hlo : s.opn.length ≤ 100) (H : HS g h (IntC x v l bad mt s err fin left nx :: ViewC v V :: R)) :
  wp (callT tab qc n (.fn 131 [] []) [.ptr x 0, .int .i64 op, .int .i64 at_] h) fun r h' => r = .int .i64 (jN op at_ nx0 s V).e ∧ HS g h' (IntC x v l bad mt (jN op at_ nx0 s V).s err fin left nx :: ViewC v (jN op at_ nx0 s V).v :: R) := by
 (refine qr (g := W131) rfl (by omega) fun k hk => ?_; show wp (S131 (callT tab qc k) _ _ _ _) _; unfold S131; try simp only [iI, uU, Int.ofNat_eq_natCast])
 obtain ⟨c, mv, ov, q, H⟩ := IntC.E H
 unfold yf at H
 with_reducible (refine qL ?_; refine qV ?_; refine qv (by assumption) .here rfl ?_)
 refine qx (qQH (by omega) (H.sel (P := ViewC v V) e_5) O) ?_
 rintro _ h2 ⟨rfl, H2⟩
 have H2 : HS g h2 (ViewC v (zP V).2 :: qU x (yf c mv ov v q bad err fin left nx s.pc s.regs) :: qb 28 5 l.length c (l.flatMap jj) :: qb 3 1 mt.length mv (mt.map (.int .i64)) :: SlaC q s.out ::
  qb 195 11 s.opn.length ov (s.opn.reverse.flatMap xR) :: R) := H2
 clear H
 unfold jN
 by_cases h0 : (zP V).1 = 0
 ·rw [if_pos h0]
  refine zw h0 (qQ ?_)
  have H3 := H2
  unfold yf at H3
  refine qW ?_
  try dsimp only
  refine qL (qV ?_)
  refine qv H2 (b := x) e_1 rfl ?_
  refine qL (qV ?_)
  refine qo H2 (b := x) (off := 6) e_1 rfl (by omega) (l := Zg s.regs) rfl ?_
  refine qL (qV ?_)
  refine qv H2 (b := x) e_1 rfl ?_
  refine qx (qXL (by omega) (H2.sel (P := SlaC q s.out) e_4)) ?_
  rintro _ _ ⟨rfl, rfl⟩
  refine qt (l := xR ⟨op, at_, s.regs, s.out.length⟩) rfl ?_
  refine jK (n := 1) (l := xR ⟨op, at_, s.regs, s.out.length⟩) (sz := 11) H2 rfl rfl rfl rfl fun v4 h4 H4 => ?_
  refine zl (H4.sel e_6) (H4.sl .here) (by omega) (by omega) rfl fun v5 h5 H5 => ?_
  have o5 := H5.one .here
  refine qL (qV ?_)
  refine jM H5 (b := x) e_3 o5 (by show 18 < 19; omega) fun h6 H6 => ?_
  refine zj H2 (b := x) e_1 rfl H2 e_1 rfl rfl (by omega) (HS.lt H2 e_1) ?_
  refine gW H2 (b := x) e_1 rfl H2 e_1 rfl (HS.lt H2 e_1) ?_
  refine qk ⟨rfl, IntC.I (s := { s with opn := ⟨op, at_, s.regs, s.out.length⟩ :: s.opn }) (c := c) (mv := mv) (ov := v5) (o := q) ?_⟩
  show HS g h6 (qU x (yf c mv v5 v q bad err fin left nx s.pc s.regs) :: qb 28 5 l.length c (l.flatMap jj) :: qb 3 1 mt.length mv (mt.map (.int .i64)) :: SlaC q s.out ::
   qb 195 11 (s.opn.length + 1) v5 ((⟨op, at_, s.regs, s.out.length⟩ :: s.opn).reverse.flatMap xR) :: ViewC v (zP V).2 :: R)
  rw [GZ]
  exact H6.sub (.cons .here (.cons e_3 (.cons e_3 (.cons e_3 (.cons .here (.drop .refl))))))
 ·rw [if_neg h0]
  refine zA h0 (qY ?_)
  exact qk ⟨rfl, IntC.I (s := s) (c := c) (mv := mv) (ov := ov) (o := q) (H2.sub (.cons e_1 (.cons e_1 (.cons e_1 (.cons e_1 (.cons e_1 .refl))))))⟩
end
end Go.Proofs.YtdlfmpmpmkffjaaGreatDoor
namespace Go.Proofs.YtdlfmpmpmkffjaaGreatDoor
open Go Go.Ae
set_option maxRecDepth 100000
variable {g h : AH} {L R : List SP}
section
variable {x v : Nat} {l : List qI} {bad : Int} {mt : List Int} {s : IM} {err fin left nx : Int}
def MtAt (mt : List Int) (p : Int) : Prop := ∃ k : Nat, p = k ∧ ∃ z : Int, mt[k]? = some z ∧ -1 ≤ z ∧ z ≤ 1000
theorem MtAt.num {mt : List Int} {p z : Int} {k : Nat} (h1 : p = k) (h2 : mt[k]? = some z) : qa mt p = z := by
 unfold qa; rw [h1, Int.toNat_natCast, h2]; rfl
theorem MtAt.idx {mt : List Int} {k : Nat} {z : Int} (h : mt[k]? = some z) : (mt.map (AV.int .i64))[k]? = some (.int .i64 z) ∧ k < mt.length := by
 refine ⟨by rw [List.getElem?_map, h]; rfl, (List.getElem?_eq_some_iff.1 h).1⟩
theorem OJ {n : Nat} (hn : 8 ≤ n) {V : VM} (G : jm V) (hlo : s.opn.length ≤ 100) (hout : s.out.length ≤ 16) (told : ToldD s.out.length s.opn) (hm : ∀ p ∈ s.opn, p.op = 17 → MtAt mt p.pc) (hpc : 0 ≤ s.pc ∧ s.pc ≤ 100)
  (H : HS g h (IntC x v l bad mt s err 0 left (s.pc + 1) :: ViewC v V :: R)) :
  wp (callT tab qc n (.fn 136 [] []) [.ptr x 0] h) fun r h' => r = .int .i64 (yE mt s.opn s V).e ∧
   HS g h' (IntC x v l bad mt (yE mt s.opn s V).s err (if (yE mt s.opn s V).blk = true then 3 else 0) left (yE mt s.opn s V).nx :: ViewC v (yE mt s.opn s V).v :: R) := by
 (refine qr (g := W136) rfl (by omega) fun k hk => ?_; show wp (S136 (callT tab qc k) _ _) _; unfold S136; try simp only [iI, uU, Int.ofNat_eq_natCast])
 generalize hD : yE mt s.opn s V = D
 have hs : s = { s with opn := s.opn } := rfl
 refine zW (fun m st h' => ∃ (o : List PtM) (V' : VM), st = (.ptr x 0, ()) ∧ m = o.length ∧ o.length ≤ 100 ∧ HS g h' (IntC x v l bad mt { s with opn := o } err 0 left (s.pc + 1) :: ViewC v V' :: R) ∧ jm V' ∧ ToldD s.out.length o ∧ (∀ p ∈ o, p.op = 17 → MtAt mt p.pc) ∧ yE mt o s V' = D)
  ?_ (m := s.opn.length) (by show _ < 1000000000; omega) ⟨s.opn, V, rfl, rfl, hlo, H, G, told, hm, hD⟩
 clear H G told hm hD hlo hs
 rintro m ih st h2 hih ⟨o, V, rfl, rfl, hlo, H, G, told, hm, hD⟩
 dsimp only
 obtain ⟨c, mv, ov, q, H1⟩ := IntC.E H
 have H1 : HS g h2 (qU x (yf c mv ov v q bad err 0 left (s.pc + 1) s.pc s.regs) :: qb 28 5 l.length c (l.flatMap jj) :: qb 3 1 mt.length mv (mt.map (.int .i64)) :: SlaC q s.out ::
  qb 195 11 o.length ov (o.reverse.flatMap xR) :: ViewC v V :: R) := H1
 refine qL (qV (qv H1 (b := x) .here rfl ?_))
 refine jb H1 e_4 ?_
 cases o with
 | nil =>
  refine xh (by simp) (qQ ?_)
  refine qL (qV (qv H1 (b := x) .here rfl ?_))
  refine qL (qV ?_)
  refine jM H1 (b := x) .here ⟨rfl, rfl⟩ (by show 16 < 19; omega) fun h3 H3 => ?_
  refine qL (qV ?_)
  refine jM H3 (b := x) .here ⟨rfl, rfl⟩ (by show 5 < 19; omega) fun h4 H4 => ?_
  subst hD
  exact qM (qk ⟨rfl, IntC.I (s := { s with opn := [] }) (c := c) (mv := mv) (ov := ov) (o := q) H4⟩)
 | cons p o =>
  refine yZ (by rw [List.length_cons]; omega) (qY ?_)
  refine qx (kD (s := { s with opn := p :: o }) (p := p) (o := o) (by omega) rfl (by simp at hlo; omega) H) ?_
  rintro _ h3 ⟨rfl, H3⟩
  clear H H1
  refine jJ H3 rfl fun b h4 H4 => jF H4 .here rfl (by show 0 + 11 ≤ 11; omega) rfl fun h5 H5 => ?_
  have H5 : HS g h5 (qU b (xR p) :: IntC x v l bad mt { s with opn := o } err 0 left (s.pc + 1) :: ViewC v V :: R) := H5
  clear H3 H4
  obtain ⟨c, mv, ov, q, H6⟩ := IntC.E (H5.sel (P := IntC x v l bad mt { s with opn := o } err 0 left (s.pc + 1)) e_1)
  have H6 : HS g h5 (qU x (yf c mv ov v q bad err 0 left (s.pc + 1) s.pc s.regs) :: qb 28 5 l.length c (l.flatMap jj) :: qb 3 1 mt.length mv (mt.map (.int .i64)) :: SlaC q s.out ::
   qb 195 11 o.length ov (o.reverse.flatMap xR) :: qU b (xR p) :: ViewC v V :: R) := H6
  refine qL (qV (qv H6 (b := x) .here rfl ?_))
  clear H6
  refine qx (Ku (by omega) (H5.sel (P := ViewC v V) e_2) G.ok) ?_
  rintro _ h6 ⟨rfl, H6⟩
  have GD := G.dropG
  clear H5
  unfold yE at hD
  by_cases h0 : (zy V).1 = 0
  ·rw [if_pos h0] at hD
   refine zw h0 (qQ ?_)
   refine qV (qv H6 (b := b) e_1 rfl ?_)
   by_cases h17 : p.op = 17
   ·rw [if_pos h17] at hD
    refine qO h17 (qY ?_)
    refine qo H6 (b := b) (off := 0) e_1 rfl (by omega) (l := xR p) rfl ?_
    have H7 := H6.sub (L' := IntC x v l bad mt { s with opn := o } err 0 left (s.pc + 1) :: ViewC v (zy V).2 :: qU b (xR p) :: R) (.cons e_2 (.cons .here (.cons .here .refl)))
    refine qx (UW (s := { s with opn := o }) (p := p) (by omega) told.1 hout H7) ?_
    intro _ h8 H8
    clear H6 H7
    obtain ⟨c, mv, ov, q, H9⟩ := IntC.E H8
    have H9 : HS g h8 (qU x (yf c mv ov v q bad err 0 left (s.pc + 1) s.pc p.regs) :: qb 28 5 l.length c (l.flatMap jj) :: qb 3 1 mt.length mv (mt.map (.int .i64)) :: SlaC q (s.out.take p.told) ::
     qb 195 11 o.length ov (o.reverse.flatMap xR) :: ViewC v (zy V).2 :: qU b (xR p) :: R) := H9
    clear H8
    obtain ⟨kk, hk1, z, hk2, hk3, hk4⟩ := hm p (List.mem_cons_self ..) h17
    rw [MtAt.num hk1 hk2] at hD
    refine qL (qV (qv H9 (b := x) .here rfl ?_))
    refine qV (qv H9 (b := b) e_6 rfl ?_)
    rw [hk1]
    refine ju (H9.sl e_2) (MtAt.idx hk2).1 ?_
    refine qh (by omega) ?_
    refine qL (qV ?_)
    refine jM H9 (b := x) .here ⟨rfl, rfl⟩ (by show 16 < 19; omega) fun h10 H10 => ?_
    have H11 : HS g h10 (IntC x v l bad mt { vn s p with opn := o } err 0 left (z + 1) :: ViewC v (zy V).2 :: qU b (xR p) :: R) := IntC.I (s := { vn s p with opn := o }) (c := c) (mv := mv) (ov := ov) (o := q) H10
    clear H9 H10
    refine qx (Y2 (s := { vn s p with opn := o }) (nx0 := z + 1) (by omega) GD.1.ok (by simp at hlo; show o.length ≤ 100; omega) H11) ?_
    rintro _ h12 ⟨rfl, H12⟩
    subst hD
    have hb : (jN 18 z (z + 1) { vn s p with opn := o } (zy V).2).blk = false ∧ (jN 18 z (z + 1) { vn s p with opn := o } (zy V).2).nx = z + 1 := by unfold jN; split <;> exact ⟨rfl, rfl⟩
    refine qM (qk ⟨rfl, ?_⟩)
    rw [hb.1, hb.2]
    exact H12.sub (.cons .here (.cons .here (.drop .refl)))
   ·rw [if_neg h17] at hD
    refine qK h17 (qQ ?_)
    exact hih o.length _ _ (by simp) ⟨o, (zy V).2, rfl, rfl, by simp at hlo; omega, H6.sub (.cons e_2 (.cons .here (.drop .refl))), GD.1, told.tail, fun r hr => hm r (List.mem_cons_of_mem _ hr), hD⟩
  ·rw [if_neg h0] at hD
   refine zA h0 (qY ?_)
   subst hD
   exact qM (qk ⟨rfl, H6.sub (.cons e_2 (.cons .here (.drop .refl)))⟩)
theorem qQi {n : Nat} (hn : 9 ≤ n) {V : VM} {i : qI} (G : jm V) (hlo : s.opn.length ≤ 100) (hout : s.out.length ≤ 16) (told : ToldD s.out.length s.opn) (hm : ∀ p ∈ s.opn, p.op = 17 → MtAt mt p.pc) (hpc : 0 ≤ s.pc ∧ s.pc ≤ 100)
  (hne : i.1 = 15 ∨ i.1 = 19 ∨ i.1 = 18 ∨ i.1 = 16 → s.opn ≠ []) (hmt : i.1 = 18 ∨ i.1 = 16 → MtAt mt s.pc) (H : HS g h (IntC x v l bad mt s err 0 left (s.pc + 1) :: ViewC v V :: R)) :
  wp (callT tab qc n (.fn 87 [] []) [.ptr x 0, .agg (jj i)] h) fun r h' => r = .int .i64 (g9 mt s V i.1).e ∧
   HS g h' (IntC x v l bad mt (g9 mt s V i.1).s err (if (g9 mt s V i.1).blk = true then 3 else 0) left (g9 mt s V i.1).nx :: ViewC v (g9 mt s V i.1).v :: R) := by
 (refine qr (g := W87) rfl (by omega) fun k hk => ?_; show wp (S87 (callT tab qc k) _ _ _) _; unfold S87; try simp only [iI, uU, Int.ofNat_eq_natCast])
 refine jJ H rfl fun b h1 H1 => ?_
 clear H
 have H1 : HS g h1 (qU b (jj i) :: IntC x v l bad mt s err 0 left (s.pc + 1) :: ViewC v V :: R) := H1
 refine qV (qv H1 (b := b) .here rfl ?_)
 refine qW ?_
 try dsimp only
 unfold g9
 have HB := H1.sub (L' := IntC x v l bad mt s err 0 left (s.pc + 1) :: ViewC v V :: qU b (jj i) :: R) (.cons e_1 (.cons e_1 (.cons .here .refl)))
 by_cases c1 : i.1 = 14 ∨ i.1 = 17
 ·rw [if_pos c1]
  have key : wp (qJ (.ptr b 0) 0 fun v8 => qX h1 v8 fun v9 => qF (.ptr x 0) fun v10 => qJ v10 15 fun v11 => qX h1 v11 fun v12 =>
    qG (callT tab qc k) (.fn 131 [] []) [.ptr x 0, v9, v12] h1 fun v13 h14 => qT [] h14 fun h15 => some (v13, h15)) fun r h' => r = .int .i64 (jN i.1 s.pc (s.pc + 1) s V).e ∧
   HS g h' (IntC x v l bad mt (jN i.1 s.pc (s.pc + 1) s V).s err (if (jN i.1 s.pc (s.pc + 1) s V).blk = true then 3 else 0) left (jN i.1 s.pc (s.pc + 1) s V).nx :: ViewC v (jN i.1 s.pc (s.pc + 1) s V).v :: R) := by
   refine qV (qv H1 (b := b) .here rfl ?_)
   obtain ⟨c, mv, ov, q, H2⟩ := IntC.E HB
   refine qL (qV (qv H2 (b := x) .here rfl ?_))
   refine qx (Y2 (nx0 := s.pc + 1) (by omega) G.ok hlo HB) ?_
   rintro _ h12 ⟨rfl, H12⟩
   have hb : (jN i.1 s.pc (s.pc + 1) s V).blk = false ∧ (jN i.1 s.pc (s.pc + 1) s V).nx = s.pc + 1 := by unfold jN; split <;> exact ⟨rfl, rfl⟩
   refine qM (qk ⟨rfl, ?_⟩)
   rw [hb.1, hb.2]
   exact H12.sub (.cons .here (.cons .here (.drop .refl)))
  by_cases c2 : i.1 = 14
  ·refine qO c2 (qY (qY ?_))
   exact key
  ·refine qK c2 (qQ ?_)
   refine qO (by omega) (qY ?_)
   exact key
 ·rw [if_neg c1]
  refine qK (by omega) (qQ ?_)
  refine qK (by omega) (qQ ?_)
  refine qW ?_
  try dsimp only
  by_cases c3 : i.1 = 15 ∨ i.1 = 19
  ·rw [if_pos c3]
   have key : wp (qG (callT tab qc k) (.fn 132 [] []) [.ptr x 0] h1 fun _ h21 => qF (.ptr x 0) fun v22 => qJ v22 1 fun v23 => qX h21 v23 fun v24 =>
     qG (callT tab qc k) (.fn 133 [] []) [v24] h21 fun v25 h26 => qT [] h26 fun h27 => some (v25, h27)) fun r h' => r = .int .i64 (xX V).1 ∧
    HS g h' (IntC x v l bad mt { s with opn := s.opn.tail } err (if false = true then 3 else 0) left (s.pc + 1) :: ViewC v (xX V).2 :: R) := by
    obtain ⟨p, o, ho⟩ : ∃ p o, s.opn = p :: o := List.exists_cons_of_ne_nil (hne (by omega))
    refine qx (kD (p := p) (o := o) (by omega) ho (by rw [ho] at hlo; simp at hlo; omega) HB) ?_
    rintro _ h3 ⟨-, H3⟩
    obtain ⟨c, mv, ov, q, H4⟩ := IntC.E H3
    refine qL (qV (qv H4 (b := x) .here rfl ?_))
    refine qx (KC (by omega) (H3.sel (P := ViewC v V) e_1) G.ok) ?_
    rintro _ h5 ⟨rfl, H5⟩
    refine qM (qk ⟨rfl, ?_⟩)
    rw [ho]
    exact H5.sub (.cons e_1 (.cons .here (.drop .refl)))
   by_cases c4 : i.1 = 15
   ·refine qO c4 (qY (qY ?_))
    exact key
   ·refine qK c4 (qQ ?_)
    refine qO (by omega) (qY ?_)
    exact key
  ·rw [if_neg c3]
   refine qK (by omega) (qQ ?_)
   refine qK (by omega) (qQ ?_)
   by_cases c5 : i.1 = 18
   ·rw [if_pos c5]
    refine qO c5 (qY ?_)
    obtain ⟨p, o, ho⟩ : ∃ p o, s.opn = p :: o := List.exists_cons_of_ne_nil (hne (by omega))
    refine qx (kD (p := p) (o := o) (by omega) ho (by rw [ho] at hlo; simp at hlo; omega) HB) ?_
    rintro _ h3 ⟨-, H3⟩
    obtain ⟨c, mv, ov, q, H4⟩ := IntC.E H3
    have H4 : HS g h3 (qU x (yf c mv ov v q bad err 0 left (s.pc + 1) s.pc s.regs) :: qb 28 5 l.length c (l.flatMap jj) :: qb 3 1 mt.length mv (mt.map (.int .i64)) :: SlaC q s.out ::
     qb 195 11 o.length ov (o.reverse.flatMap xR) :: ViewC v V :: qU b (jj i) :: R) := H4
    obtain ⟨kk, hk1, z, hk2, hk3, hk4⟩ := hmt (.inl c5)
    rw [MtAt.num hk1 hk2, ho]
    refine qL (qV (qv H4 (b := x) .here rfl ?_))
    refine qL (qV (qv H4 (b := x) .here rfl ?_))
    rw [hk1]
    refine ju (H4.sl e_2) (MtAt.idx hk2).1 ?_
    refine qh (by omega) ?_
    refine qL (qV ?_)
    rw [← hk1]
    refine jM H4 (b := x) .here ⟨rfl, rfl⟩ (by show 16 < 19; omega) fun h10 H10 => ?_
    refine qL (qV (qv H10 (b := x) .here rfl ?_))
    have H11 : HS g h10 (IntC x v l bad mt { s with opn := o } err 0 left (z + 1) :: ViewC v V :: qU b (jj i) :: R) := IntC.I (s := { s with opn := o }) (c := c) (mv := mv) (ov := ov) (o := q) H10
    refine qx (KC (by omega) (H11.sel (P := ViewC v V) e_1) G.ok) ?_
    rintro _ h5 ⟨rfl, H5⟩
    exact qM (qk ⟨rfl, H5.sub (.cons e_1 (.cons .here (.drop .refl)))⟩)
   ·rw [if_neg c5]
    refine qK c5 (qQ ?_)
    by_cases c6 : i.1 = 16
    ·rw [if_pos c6]
     refine qO c6 (qY ?_)
     obtain ⟨p, o, ho⟩ : ∃ p o, s.opn = p :: o := List.exists_cons_of_ne_nil (hne (by omega))
     refine qx (kD (p := p) (o := o) (by omega) ho (by rw [ho] at hlo; simp at hlo; omega) HB) ?_
     rintro _ h3 ⟨rfl, H3⟩
     rw [ho] at told
     refine qx (UW (s := { s with opn := o }) (p := p) (by omega) told.1 hout H3) ?_
     intro _ h4 H4'
     obtain ⟨c, mv, ov, q, H4⟩ := IntC.E H4'
     have H4 : HS g h4 (qU x (yf c mv ov v q bad err 0 left (s.pc + 1) s.pc p.regs) :: qb 28 5 l.length c (l.flatMap jj) :: qb 3 1 mt.length mv (mt.map (.int .i64)) :: SlaC q (s.out.take p.told) ::
      qb 195 11 o.length ov (o.reverse.flatMap xR) :: ViewC v V :: qU b (jj i) :: R) := H4
     obtain ⟨kk, hk1, z, hk2, hk3, hk4⟩ := hmt (.inr c6)
     rw [MtAt.num hk1 hk2, ho]
     refine qL (qV (qv H4 (b := x) .here rfl ?_))
     refine qL (qV (qv H4 (b := x) .here rfl ?_))
     rw [hk1]
     refine ju (H4.sl e_2) (MtAt.idx hk2).1 ?_
     refine qh (by omega) ?_
     refine qL (qV ?_)
     refine jM H4 (b := x) .here ⟨rfl, rfl⟩ (by show 16 < 19; omega) fun h10 H10 => ?_
     refine qL (qV (qv H10 (b := x) .here rfl ?_))
     have H11 : HS g h10 (IntC x v l bad mt { vn s p with opn := o } err 0 left (z + 1) :: ViewC v V :: qU b (jj i) :: R) := IntC.I (s := { vn s p with opn := o }) (c := c) (mv := mv) (ov := ov) (o := q) H10
     refine qx (Ku (by omega) (H11.sel (P := ViewC v V) e_1) G.ok) ?_
     rintro _ h5 ⟨rfl, H5⟩
     exact qM (qk ⟨rfl, H5.sub (.cons e_1 (.cons .here (.drop .refl)))⟩)
    ·rw [if_neg c6]
     refine qK c6 (qQ ?_)
     refine qx (OJ (by omega) G hlo hout told hm hpc HB) ?_
     rintro _ h3 ⟨rfl, H3⟩
     exact qM (qk ⟨rfl, H3.sub (.cons .here (.cons .here (.drop .refl)))⟩)
end
end Go.Proofs.YtdlfmpmpmkffjaaGreatDoor
namespace Go.Proofs.YtdlfmpmpmkffjaaGreatDoor
open Go Go.Ae
set_option maxRecDepth 100000
variable {g h : AH} {L R : List SP}
section
variable {x v : Nat} {l : List qI} {bad : Int} {mt : List Int} {s : IM} {err fin left nx : Int}
theorem VI {c mv ov : AV} {q a : Nat} {z : Int} {ai : Int} (hr : s.regs.length = 8) (ha : a < 8) (hai : ai = a)
  (H : HS g h (qU x ((yf c mv ov v q bad err fin left nx s.pc s.regs).set (6 + a * 1) (.int .u64 z)) :: qb 28 5 l.length c (l.flatMap jj) :: qb 3 1 mt.length mv (mt.map (.int .i64)) :: SlaC q s.out ::
  qb 195 11 s.opn.length ov (s.opn.reverse.flatMap xR) :: R)) : HS g h (IntC x v l bad mt (setR s ai z) err fin left nx :: R) := by
 rw [qZ1 hr ha] at H
 have e : s.regs.set a z = (setR s ai z).regs := by unfold setR; rw [hai, Int.toNat_natCast]
 rw [e] at H
 exact IntC.I (s := setR s ai z) H
theorem Mh {n : Nat} (hn : 12 ≤ n) {V : VM} {i : qI} {a : Nat} (G : jm V) (ro : wF s.regs) (hop : i.1 = 8 ∨ i.1 = 9 ∨ i.1 = 10 ∨ i.1 = 11) (ha : a < 8) (hai : i.2.1 = a) (hc : 0 ≤ i.2.2.2.1 ∧ i.2.2.2.1 ≤ 100)
  (H : HS g h (IntC x v l bad mt s err fin left nx :: ViewC v V :: R)) :
  wp (callT tab qc n (.fn 86 [] []) [.ptr x 0, .agg (jj i), .ptr x (6 + a * 1), .int .u64 (qa s.regs i.2.2.1)] h) fun r h' => r = .int .i64 (jI s V i).1 ∧
   HS g h' (IntC x v l bad mt (jI s V i).2.1 err fin left nx :: ViewC v (jI s V i).2.2 :: R) := by
 (refine qr (g := W86) rfl (by omega) fun k hk => ?_; show wp (S86 (callT tab qc k) _ _ _ _ _) _; unfold S86; try simp only [iI, uU, Int.ofNat_eq_natCast])
 refine jJ H rfl fun b h1 H1 => ?_
 clear H
 have H1 : HS g h1 (qU b (jj i) :: IntC x v l bad mt s err fin left nx :: ViewC v V :: R) := H1
 have HB := H1.sub (L' := IntC x v l bad mt s err fin left nx :: ViewC v V :: qU b (jj i) :: R) (.cons e_1 (.cons e_1 (.cons .here .refl)))
 obtain ⟨c, mv, ov, q, H2⟩ := IntC.E HB
 refine qV (qv H1 (b := b) .here rfl ?_)
 have hra := ro.at (a : Int)
 have hrb := ro.at i.2.2.1
 unfold jI
 rw [hai]
 by_cases c8 : i.1 = 8
 ·rw [if_pos c8]
  refine qO c8 (qY ?_)
  refine qV (qv H1 (b := b) .here rfl ?_)
  refine qx (Y1 (by omega) hrb hc) ?_
  rintro _ _ ⟨rfl, rfl⟩
  refine qH rfl (qH rfl ?_)
  by_cases h0 : (xw (qa s.regs i.2.2.1) i.2.2.2.1).2 = 0
  ·rw [if_pos h0]
   refine zw h0 (qQ ?_)
   refine qL (qV (qv H2 (b := x) .here rfl ?_))
   refine qx (kg (by omega) (HB.sel (P := ViewC v V) e_1) G.ok) ?_
   rintro _ h3 ⟨rfl, H3⟩
   refine qH rfl (qH rfl ?_)
   refine qW ?_
   try dsimp only
   by_cases h4 : (qf V (xw (qa s.regs i.2.2.1) i.2.2.2.1).1).1.2 = 0
   ·rw [if_pos h4]
    refine qO h4 (qY ?_)
    obtain ⟨c, mv, ov, q, H5⟩ := IntC.E (H3.sel (P := IntC x v l bad mt s err fin left nx) e_1)
    refine qL ?_
    refine jM H5 (b := x) .here ⟨rfl, rfl⟩ (by show 6 + a * 1 < 19; omega) fun h6 H6 => ?_
    refine qM (qk ⟨by rw [h4], ?_⟩)
    exact (VI ro.len ha rfl H6).sub (.cons .here (.cons .here (.drop .refl)))
   ·rw [if_neg h4]
    refine qK h4 (qQ ?_)
    exact qM (qk ⟨rfl, H3.sub (.cons e_1 (.cons .here (.drop .refl)))⟩)
  ·rw [if_neg h0]
   refine zA h0 (qY ?_)
   refine qk ⟨?_, HB.sub (.cons .here (.cons .here (.drop .refl)))⟩
   unfold xw at h0 ⊢
   split
   ·rfl
   ·rename_i hh; rw [if_neg hh] at h0; exact absurd rfl h0
 ·rw [if_neg c8]
  refine qK c8 (qQ ?_)
  by_cases c9 : i.1 = 9
  ·rw [if_pos c9]
   refine qO c9 (qY ?_)
   refine qL (qv H2 (b := x) .here (QE ha) ?_)
   refine qV (qv H1 (b := b) .here rfl ?_)
   refine qx (Y1 (by omega) hra hc) ?_
   rintro _ _ ⟨rfl, rfl⟩
   refine qH rfl (qH rfl ?_)
   by_cases h0 : (xw (qa s.regs (a : Int)) i.2.2.2.1).2 = 0
   ·rw [if_pos h0]
    refine zw h0 (qQ ?_)
    refine qL (qV (qv H2 (b := x) .here rfl ?_))
    refine qx (NV (by omega) (HB.sel (P := ViewC v V) e_1) G.ok) ?_
    rintro _ h3 ⟨rfl, H3⟩
    exact qk ⟨rfl, H3.sub (.cons e_1 (.cons .here (.drop .refl)))⟩
   ·rw [if_neg h0]
    refine zA h0 (qY ?_)
    refine qk ⟨?_, HB.sub (.cons .here (.cons .here (.drop .refl)))⟩
    unfold xw at h0 ⊢
    split
    ·rfl
    ·rename_i hh; rw [if_neg hh] at h0; exact absurd rfl h0
  ·rw [if_neg c9]
   refine qK c9 (qQ ?_)
   by_cases c10 : i.1 = 10
   ·rw [if_pos c10]
    refine qO c10 (qY ?_)
    by_cases h0 : 2147483648 ≤ qa s.regs i.2.2.1
    ·rw [if_pos h0]
     refine zT (by omega) (qY ?_)
     exact qk ⟨rfl, HB.sub (.cons .here (.cons .here (.drop .refl)))⟩
    ·rw [if_neg h0]
     refine zS (by omega) (qQ ?_)
     refine qL (qV (qv H2 (b := x) .here rfl ?_))
     refine zn (by omega) ?_
     refine qx (Og (by omega) (HB.sel (P := ViewC v V) e_1) G.ok G.wd) ?_
     rintro _ h3 ⟨rfl, H3⟩
     refine qH rfl (qH rfl ?_)
     refine qW ?_
     try dsimp only
     by_cases h4 : (zz V (qa s.regs i.2.2.1)).1.2 = 0
     ·rw [if_pos h4]
      have hb := MZ (x := qa s.regs i.2.2.1) G.wd h4
      refine qO h4 (qY ?_)
      obtain ⟨c, mv, ov, q, H5⟩ := IntC.E (H3.sel (P := IntC x v l bad mt s err fin left nx) e_1)
      refine xy (by omega) (qL ?_)
      refine jM H5 (b := x) .here ⟨rfl, rfl⟩ (by show 6 + a * 1 < 19; omega) fun h6 H6 => ?_
      refine qM (qk ⟨by rw [h4], ?_⟩)
      exact (VI ro.len ha rfl H6).sub (.cons .here (.cons .here (.drop .refl)))
     ·rw [if_neg h4]
      refine qK h4 (qQ ?_)
      exact qM (qk ⟨rfl, H3.sub (.cons e_1 (.cons .here (.drop .refl)))⟩)
   ·rw [if_neg c10]
    refine qK c10 (qQ ?_)
    refine qL (qv H2 (b := x) .here (QE ha) ?_)
    by_cases h0 : 2147483648 ≤ qa s.regs (a : Int)
    ·rw [if_pos h0]
     refine zT (by omega) (qY ?_)
     exact qk ⟨rfl, HB.sub (.cons .here (.cons .here (.drop .refl)))⟩
    ·rw [if_neg h0]
     refine zS (by omega) (qQ ?_)
     refine qL (qV (qv H2 (b := x) .here rfl ?_))
     refine qL (qv H2 (b := x) .here (QE ha) ?_)
     refine zn (by omega) ?_
     refine qx (Z6 (by omega) (HB.sel (P := ViewC v V) e_1) G.ok) ?_
     rintro _ h3 ⟨rfl, H3⟩
     exact qk ⟨rfl, H3.sub (.cons e_1 (.cons .here (.drop .refl)))⟩
structure DoP (l : List qI) (mt : List Int) (s : IM) (V : VM) (i : qI) : Prop where
  good : jm V
  regs : wF s.regs
  out : s.out.length ≤ 16
  lo : s.opn.length ≤ 100
  told : ToldD s.out.length s.opn
  ways : ∀ p ∈ s.opn, p.op = 17 → MtAt mt p.pc
  pc : 0 ≤ s.pc ∧ s.pc ≤ 100
  op : 1 ≤ i.1 ∧ i.1 < 23
  a : 0 ≤ i.2.1 ∧ i.2.1 ≤ 7
  b : 0 ≤ i.2.2.1 ∧ i.2.2.1 ≤ 7
  c : 0 ≤ i.2.2.2.1 ∧ i.2.2.2.1 ≤ 100
  c7 : 3 ≤ i.1 ∧ i.1 ≤ 7 → i.2.2.2.1 ≤ 7
  ne : i.1 = 15 ∨ i.1 = 19 ∨ i.1 = 18 ∨ i.1 = 16 → s.opn ≠ []
  mt : i.1 = 18 ∨ i.1 = 16 → MtAt mt s.pc
theorem qKc {n : Nat} (hn : 13 ≤ n) {V : VM} {i : qI} (P : DoP l mt s V i) (H : HS g h (IntC x v l bad mt s err 0 left (s.pc + 1) :: ViewC v V :: R)) :
  wp (callT tab qc n (.fn 51 [] []) [.ptr x 0, .agg (jj i)] h) fun r h' => r = .int .i64 (doM mt s V i).e ∧
   HS g h' (IntC x v l bad mt (doM mt s V i).s err (if (doM mt s V i).blk = true then 3 else 0) left (doM mt s V i).nx :: ViewC v (doM mt s V i).v :: R) := by
 (refine qr (g := W51) rfl (by omega) fun k hk => ?_; show wp (S51 (callT tab qc k) _ _ _) _; unfold S51; try simp only [iI, uU, Int.ofNat_eq_natCast])
 refine jJ H rfl fun b h1 H1 => ?_
 clear H
 have H1 : HS g h1 (qU b (jj i) :: IntC x v l bad mt s err 0 left (s.pc + 1) :: ViewC v V :: R) := H1
 have HB := H1.sub (L' := IntC x v l bad mt s err 0 left (s.pc + 1) :: ViewC v V :: qU b (jj i) :: R) (.cons e_1 (.cons e_1 (.cons .here .refl)))
 obtain ⟨c, mv, ov, q, H2⟩ := IntC.E HB
 obtain ⟨a, ha1, ha2, ha3⟩ := Ot P.a.1
 obtain ⟨bb, hb1, hb2, hb3⟩ := Ot P.b.1
 obtain ⟨cc, hc1, hc2, hc3⟩ := Ot P.c.1
 have ha3 := ha3 (by have := P.a.2; omega)
 have hb3 := hb3 (by have := P.b.2; omega)
 have ro := P.regs
 have hop := P.op
 have hc7 := P.c7
 refine qV (qv H1 (b := b) .here rfl (wu (by decide) ?_))
 rw [ha1]
 refine qL (qV (GP ha2 ?_))
 refine qV (qv H1 (b := b) .here rfl (wu (by decide) ?_))
 rw [hb1]
 refine qL (qV (GP hb2 ?_))
 refine qv H2 (b := x) .here (QE hb2) ?_
 refine qV (qv H1 (b := b) .here rfl (wu (by decide) ?_))
 rw [hc1]
 refine qL (qV (GP hc2 ?_))
 refine qv H2 (b := x) .here (QE hc2) ?_
 refine qV (qv H1 (b := b) .here rfl ?_)
 refine qW ?_
 try dsimp only
 have fin : ∀ (z : Int) (D : SM) (h0 : AH), D = ⟨0, s.pc + 1, false, setR s i.2.1 z, V⟩ → HS g h0 (IntC x v l bad mt s err 0 left (s.pc + 1) :: ViewC v V :: qU b (jj i) :: R) →
   wp (qF (.ptr x (6 + a * 1)) fun v32 => qy h0 v32 (.int .u64 z) 1 fun h33 => qT [] h33 fun h28 => some (.int .i64 ((0 : Nat) : Int), h28)) fun r h' => r = .int .i64 D.e ∧
    HS g h' (IntC x v l bad mt D.s err (if D.blk = true then 3 else 0) left D.nx :: ViewC v D.v :: R) := by
  rintro z D h0 rfl H0
  obtain ⟨c, mv, ov, q, H5⟩ := IntC.E H0
  refine qL ?_
  refine jM H5 (b := x) .here ⟨rfl, rfl⟩ (by show 6 + a * 1 < 19; omega) fun h6 H6 => ?_
  refine qM (qk ⟨rfl, ?_⟩)
  exact (VI ro.len ha2 ha3 H6).sub (.cons .here (.cons .here (.drop .refl)))
 by_cases c1 : i.1 = 1
 ·refine qO c1 (qY ?_)
  refine qV (qv H1 (b := b) .here rfl ?_)
  exact fin _ _ _ (by unfold doM; rw [if_pos c1]) HB
 refine qK c1 (qQ ?_)
 by_cases c2 : i.1 = 2
 ·refine qO c2 (qY ?_)
  exact fin _ _ _ (by unfold doM; rw [if_neg c1, if_pos c2, hb3]) HB
 refine qK c2 (qQ ?_)
 by_cases c3 : i.1 = 3
 ·refine qO c3 (qY (VR ?_))
  have hc3 := hc3 (by have := hc7 (by omega); omega)
  exact fin _ _ _ (by unfold doM; rw [if_neg c1, if_neg c2, if_pos c3, hb3, hc3]) HB
 refine qK c3 (qQ ?_)
 by_cases c4 : i.1 = 4
 ·refine qO c4 (qY (U1 ?_))
  have hc3 := hc3 (by have := hc7 (by omega); omega)
  exact fin _ _ _ (by unfold doM; rw [if_neg c1, if_neg c2, if_neg c3, if_pos c4, hb3, hc3]) HB
 refine qK c4 (qQ ?_)
 by_cases c5 : i.1 = 5
 ·refine qO c5 (qY (qJT ?_))
  have hc3 := hc3 (by have := hc7 (by omega); omega)
  exact fin _ _ _ (by unfold doM; rw [if_neg c1, if_neg c2, if_neg c3, if_neg c4, if_pos c5, hb3, hc3]) HB
 refine qK c5 (qQ ?_)
 by_cases c6 : i.1 = 6
 ·refine qO c6 (qY (wB ?_))
  have hc3 := hc3 (by have := hc7 (by omega); omega)
  refine qx (Yi (by omega)) ?_
  rintro _ _ ⟨rfl, rfl⟩
  exact fin _ _ _ (by unfold doM; rw [if_neg c1, if_neg c2, if_neg c3, if_neg c4, if_neg c5, if_pos c6, hb3, hc3]) HB
 refine qK c6 (qQ ?_)
 by_cases c7 : i.1 = 7
 ·refine qO c7 (qY (kj ?_))
  have hc3 := hc3 (by have := hc7 (by omega); omega)
  refine qx (Yi (by omega)) ?_
  rintro _ _ ⟨rfl, rfl⟩
  exact fin _ _ _ (by unfold doM; rw [if_neg c1, if_neg c2, if_neg c3, if_neg c4, if_neg c5, if_neg c6, if_pos c7, hb3, hc3]) HB
 refine qK c7 (qQ ?_)
 by_cases c12 : i.1 = 12
 ·refine qO c12 (qY ?_)
  have e : doM mt s V i = ⟨0, i.2.2.2.1, false, s, V⟩ := by unfold doM; rw [if_neg c1, if_neg c2, if_neg c3, if_neg c4, if_neg c5, if_neg c6, if_neg c7, if_pos c12]
  rw [e]
  refine qV (qv H1 (b := b) .here rfl ?_)
  refine qL (qV ?_)
  refine jM H2 (b := x) .here ⟨rfl, rfl⟩ (by show 16 < 19; omega) fun h6 H6 => ?_
  exact qM (qk ⟨rfl, (IntC.I (c := c) (mv := mv) (ov := ov) (o := q) H6).sub (.cons .here (.cons .here (.drop .refl)))⟩)
 refine qK c12 (qQ ?_)
 by_cases c13 : i.1 = 13
 ·refine qO c13 (qY ?_)
  have e : doM mt s V i = ⟨0, if qa s.regs i.2.1 = 0 then i.2.2.2.1 else s.pc + 1, false, s, V⟩ := by unfold doM; rw [if_neg c1, if_neg c2, if_neg c3, if_neg c4, if_neg c5, if_neg c6, if_neg c7, if_neg c12, if_pos c13]
  rw [e, ha3]
  refine qL (qv H2 (b := x) .here (QE ha2) ?_)
  by_cases hz : qa s.regs (a : Int) = 0
  ·rw [if_pos hz]
   refine qO hz (qY ?_)
   refine qV (qv H1 (b := b) .here rfl ?_)
   refine qL (qV ?_)
   refine jM H2 (b := x) .here ⟨rfl, rfl⟩ (by show 16 < 19; omega) fun h6 H6 => ?_
   exact qM (qk ⟨rfl, (IntC.I (c := c) (mv := mv) (ov := ov) (o := q) H6).sub (.cons .here (.cons .here (.drop .refl)))⟩)
  ·rw [if_neg hz]
   refine qK hz (qQ ?_)
   exact qM (qk ⟨rfl, HB.sub (.cons .here (.cons .here (.drop .refl)))⟩)
 refine qK c13 (qQ ?_)
 by_cases c21 : i.1 = 21
 ·refine qO c21 (qY ?_)
  refine qL (qV (qv H2 (b := x) .here rfl ?_))
  refine qL (qv H2 (b := x) .here (QE ha2) ?_)
  refine qx (qXA (by omega) (H2.sel (P := SlaC q s.out) e_3) P.out) ?_
  rintro _ h3 ⟨rfl, H3⟩
  by_cases h16 : 16 ≤ s.out.length
  ·have e : doM mt s V i = ⟨5, s.pc + 1, false, s, V⟩ := by unfold doM; rw [if_neg c1, if_neg c2, if_neg c3, if_neg c4, if_neg c5, if_neg c6, if_neg c7, if_neg c12, if_neg c13, if_pos c21, if_pos h16]
   rw [e]
   rw [if_neg (by omega)] at H3
   rw [decide_eq_false (by omega)]
   refine zM (qY ?_)
   exact qk ⟨rfl, (IntC.I (c := c) (mv := mv) (ov := ov) (o := q) (R := ViewC v V :: qU b (jj i) :: R) (H3.sub (.cons e_1 (.cons e_1 (.cons e_1 (.cons .here (.cons .here .refl))))))).sub (.cons .here (.cons .here (.drop .refl)))⟩
  ·have e : doM mt s V i = ⟨0, s.pc + 1, false, { s with out := s.out ++ [(1, qa s.regs i.2.1)] }, V⟩ := by unfold doM; rw [if_neg c1, if_neg c2, if_neg c3, if_neg c4, if_neg c5, if_neg c6, if_neg c7, if_neg c12, if_neg c13, if_pos c21, if_neg h16]
   rw [e, ha3]
   rw [if_pos (by omega)] at H3
   rw [decide_eq_true (by omega)]
   refine zv (qQ ?_)
   exact qM (qk ⟨rfl, (IntC.I (s := { s with out := s.out ++ [(1, qa s.regs (a : Int))] }) (c := c) (mv := mv) (ov := ov) (o := q) (R := ViewC v V :: qU b (jj i) :: R) (H3.sub (.cons e_1 (.cons e_1 (.cons e_1 (.cons .here (.cons .here .refl))))))).sub (.cons .here (.cons .here (.drop .refl)))⟩)
 refine qK c21 (qQ ?_)
 by_cases c22 : i.1 = 22
 ·refine qO c22 (qY ?_)
  have e : doM mt s V i = ⟨13, s.pc + 1, false, s, V⟩ := by unfold doM; rw [if_neg c1, if_neg c2, if_neg c3, if_neg c4, if_neg c5, if_neg c6, if_neg c7, if_neg c12, if_neg c13, if_neg c21, if_pos c22]
  rw [e]
  exact qk ⟨rfl, HB.sub (.cons .here (.cons .here (.drop .refl)))⟩
 refine qK c22 (qQ ?_)
 refine qK (by omega) (qQ ?_)
 refine qW ?_
 try dsimp only
 by_cases ct : i.1 = 8 ∨ i.1 = 9 ∨ i.1 = 10 ∨ i.1 = 11
 ·have e : doM mt s V i = ⟨(jI s V i).1, s.pc + 1, false, (jI s V i).2.1, (jI s V i).2.2⟩ := by unfold doM; rw [if_neg c1, if_neg c2, if_neg c3, if_neg c4, if_neg c5, if_neg c6, if_neg c7, if_neg c12, if_neg c13, if_neg c21, if_neg c22, if_pos ct]
  rw [e]
  have key : wp (qR h1 (.ptr b 0) 5 fun v94 => qG (callT tab qc k) (.fn 86 [] []) [.ptr x 0, v94, .ptr x (6 + a * 1), .int .u64 (qa s.regs (bb : Int))] h1 fun v95 h96 => qT [] h96 fun h97 => some (v95, h97)) fun r h' =>
    r = .int .i64 (jI s V i).1 ∧ HS g h' (IntC x v l bad mt (jI s V i).2.1 err (if false = true then 3 else 0) left (s.pc + 1) :: ViewC v (jI s V i).2.2 :: R) := by
   refine qo H1 (b := b) (off := 0) .here rfl (by omega) (l := jj i) rfl ?_
   rw [← hb3]
   refine qx (Mh (by omega) P.good ro ct ha2 ha3 P.c HB) ?_
   rintro _ h3 ⟨rfl, H3⟩
   exact qM (qk ⟨rfl, H3.sub (.cons .here (.cons .here (.drop .refl)))⟩)
  by_cases t8 : i.1 = 8
  ·refine qO t8 (qY (qY ?_))
   exact key
  refine qK t8 (qQ ?_)
  by_cases t9 : i.1 = 9
  ·refine qO t9 (qY (qY ?_))
   exact key
  refine qK t9 (qQ ?_)
  by_cases t10 : i.1 = 10
  ·refine qO t10 (qY (qY ?_))
   exact key
  refine qK t10 (qQ ?_)
  refine qO (by omega) (qY ?_)
  exact key
 ·have e : doM mt s V i = g9 mt s V i.1 := by unfold doM; rw [if_neg c1, if_neg c2, if_neg c3, if_neg c4, if_neg c5, if_neg c6, if_neg c7, if_neg c12, if_neg c13, if_neg c21, if_neg c22, if_neg ct]
  rw [e]
  refine qK (by omega) (qQ ?_)
  refine qK (by omega) (qQ ?_)
  refine qK (by omega) (qQ ?_)
  refine qK (by omega) (qQ ?_)
  refine qo H1 (b := b) (off := 0) .here rfl (by omega) (l := jj i) rfl ?_
  refine qx (qQi (by omega) P.good P.lo P.out P.told P.ways P.pc P.ne P.mt HB) ?_
  rintro _ h3 ⟨rfl, H3⟩
  exact qM (qk ⟨rfl, H3.sub (.cons .here (.cons .here (.drop .refl)))⟩)
end
end Go.Proofs.YtdlfmpmpmkffjaaGreatDoor
namespace Go.Proofs.YtdlfmpmpmkffjaaGreatDoor
open Go Go.Ae
set_option maxRecDepth 100000
variable {g h : AH} {L R : List SP}
theorem KO {a : List Int} {k : Nat} (h : k < a.length) : a[k]? = some (qa a (k : Int)) := by
 unfold qa; rw [Int.toNat_natCast, List.getElem?_eq_getElem h]; rfl
theorem Xq {x : qI} (h : xm x = true) (hx : x.1 ≠ 23) : (1 ≤ x.1 ∧ x.1 < 23) ∧ (0 ≤ x.2.1 ∧ x.2.1 ≤ 7) ∧ (0 ≤ x.2.2.1 ∧ x.2.2.1 ≤ 7) ∧ (0 ≤ x.2.2.2.1 ∧ x.2.2.2.1 ≤ 40) ∧ (3 ≤ x.1 ∧ x.1 ≤ 7 → x.2.2.2.1 ≤ 7) := by
 unfold xm yG at h
 simp only [Bool.and_eq_true, decide_eq_true_eq] at h
 obtain ⟨⟨⟨⟨h1, h2⟩, h3⟩, h4⟩, _⟩ := h
 unfold jE at h2 h3 h4
 by_cases c1 : x.1 = 1 ∨ x.1 = 11 ∨ x.1 = 21
 ·rw [if_pos c1] at h2 h3 h4; dsimp only at h2 h3 h4; omega
 rw [if_neg c1] at h2 h3 h4
 by_cases c2 : x.1 = 2 ∨ x.1 = 10
 ·rw [if_pos c2] at h2 h3 h4; dsimp only at h2 h3 h4; omega
 rw [if_neg c2] at h2 h3 h4
 by_cases c3 : x.1 = 3 ∨ x.1 = 4 ∨ x.1 = 5 ∨ x.1 = 6 ∨ x.1 = 7
 ·rw [if_pos c3] at h2 h3 h4; dsimp only at h2 h3 h4; omega
 rw [if_neg c3] at h2 h3 h4
 by_cases c4 : x.1 = 8 ∨ x.1 = 9
 ·rw [if_pos c4] at h2 h3 h4; dsimp only at h2 h3 h4; omega
 rw [if_neg c4] at h2 h3 h4
 by_cases c5 : x.1 = 12
 ·rw [if_pos c5] at h2 h3 h4; dsimp only at h2 h3 h4; omega
 rw [if_neg c5] at h2 h3 h4
 by_cases c6 : x.1 = 13
 ·rw [if_pos c6] at h2 h3 h4; dsimp only at h2 h3 h4; omega
 rw [if_neg c6, if_neg hx] at h2 h3 h4
 dsimp only at h2 h3 h4; omega
theorem Kx {l : List qI} (F : Fit l) {k : Nat} (hk : k < l.length) (ho : (qA l k).1 = 14 ∨ (qA l k).1 = 17 ∨ (qA l k).1 = 18 ∨ (qA l k).1 = 16) : MtAt (qB l) (k : Int) := by
 have hl := F.le
 refine ⟨k, rfl, _, KO (by rw [NC]; exact hk), ?_⟩
 by_cases h : (qA l k).1 = 16
 ·obtain ⟨e, e1, e2, _⟩ := gT F hk h
  rw [e1]; omega
 ·obtain ⟨e, e1, _, e2, _⟩ := yH F hk (by omega)
  rw [e1]; omega
theorem qKp {l : List qI} {s : IM} {V : VM} (F : Fit l) (G : GI l s V) {i : Nat} (hi : s.pc = i) (hlt : i < l.length) (hx : (qA l i).1 ≠ 23) : DoP l (qB l) s V (qA l i) := by
 have hw := zc (F.ok i hlt)
 have hwo := zY (F.ok i hlt)
 have hb := Xq hw.1 hx
 have hol := XZ G
 have h5 := Xr F i (by omega)
 have hl := F.le
 rw [hi, Int.toNat_natCast] at hol
 refine ⟨G.good, G.gb.regs, G.gb.out, by omega, G.told, ?_, by omega, hb.1, hb.2.1, hb.2.2.1, by omega, hb.2.2.2.2, ?_, ?_⟩
 ·intro p hp hop
  obtain ⟨q, hq, hql⟩ := (G.pts p hp).pc
  have := (G.pts p hp).op.2
  rw [hop, hq] at this
  rw [hq]
  exact Kx F hql (by omega)
 ·intro ho h0
  rw [h0] at hol
  have he : 0 < jc (qA l i).1 ∨ (qA l i).1 = 16 := by
   rcases ho with h | h | h | h
   ·exact .inl (by rw [h]; decide)
   ·exact .inl (by rw [h]; decide)
   ·exact .inl (by rw [h]; decide)
   ·exact .inr h
  exact hwo.2.1 he (List.eq_nil_of_length_eq_zero hol.symm)
 ·intro ho
  rw [hi]
  exact Kx F hlt (by omega)
def Quiet (l : List qI) : Prop := ∀ x ∈ l, x.1 ≠ 23 ∧ 0 ≤ x.2.2.2.2 ∧ x.2.2.2.2 < 18446744073709551616
theorem Quiet.at {l : List qI} (Q : Quiet l) {i : Nat} (h : i < l.length) : (qA l i).1 ≠ 23 ∧ 0 ≤ (qA l i).2.2.2.2 ∧ (qA l i).2.2.2.2 < 18446744073709551616 := by
 rw [jt h]; exact Q _ (List.getElem_mem h)
structure RunB (V : VM) (r : RM) : Prop where
  gb : GB r.s
  good : jm r.v
  sz : r.v.sz = V.sz
  K : r.v.K = V.K
  most : r.v.most = V.most
theorem Jg {l : List qI} (F : Fit l) (Q : Quiet l) : ∀ (n : Nat) {s : IM} {V : VM}, GI l s V → frS V.lv + n < 9000 → RunB V (jB l (qB l) n s V) ∧ frS (jB l (qB l) n s V).v.lv ≤ frS V.lv + n ∧
  ((jB l (qB l) n s V).kind = 2 → (jB l (qB l) n s V).v.lv.length = 1) ∧
  ((jB l (qB l) n s V).kind = 1 → GI l (jB l (qB l) n s V).s (jB l (qB l) n s V).v ∧ 1 ≤ (jB l (qB l) n s V).v.need ∧ (jB l (qB l) n s V).v.need < V.sz ∧ jf (jB l (qB l) n s V).v.need V.K = none) ∧
  ((jB l (qB l) n s V).kind = 1 ∨ (jB l (qB l) n s V).kind = 2 ∨ (jB l (qB l) n s V).kind = 3 ∨ (jB l (qB l) n s V).kind = 4) := by
 intro n
 induction n with
 | zero =>
  intro s V G hf
  rw [yr]
  split
  ·rename_i h0
   refine ⟨⟨G.gb, G.good, rfl, rfl, rfl⟩, by simp, fun _ => ?_, fun h => (by cases h), by simp⟩
   have := XZ G
   rw [h0, Int.toNat_natCast, F.nil] at this
   have hl := G.lv
   show V.lv.length = 1
   rw [hl, this]; rfl
  ·exact ⟨⟨G.gb, G.good, rfl, rfl, rfl⟩, by simp, fun h => (by cases h), fun h => (by cases h), by simp⟩
 | succ n ih =>
  intro s V G hf
  rw [yF]
  split
  ·rename_i h0
   refine ⟨⟨G.gb, G.good, rfl, rfl, rfl⟩, by simp, fun _ => ?_, fun h => (by cases h), by simp⟩
   have := XZ G
   rw [h0, Int.toNat_natCast, F.nil] at this
   have hl := G.lv
   show V.lv.length = 1
   rw [hl, this]; rfl
  ·rename_i h0
   obtain ⟨i, hi, hil⟩ := G.pc
   have hlt : i < l.length := by omega
   rw [hi]
   have S := gi F G hi hlt (by omega) (Q.at hlt).2 (Q.at hlt).1
   generalize doM (qB l) s V (qA l i) = D at *
   split
   ·rename_i h1
    split
    ·exact ⟨⟨⟨S.gb.regs, S.gb.out, S.gb.its⟩, S.good, S.sz, S.K, S.most⟩, by have := S.fr; dsimp only; omega, fun h => (by cases h), fun h => (by cases h), by simp⟩
    ·rename_i h2
     have G2 := S.next h1 (by simpa using h2)
     have hfr := S.fr
     obtain ⟨a, b, c, d, e⟩ := ih G2 (by omega)
     refine ⟨⟨a.gb, a.good, a.sz.trans S.sz, a.K.trans S.K, a.most.trans S.most⟩, by omega, c, fun h => ?_, e⟩
     have := d h
     rw [S.sz, S.K] at this
     exact this
   ·split
    ·rename_i h11
     obtain ⟨n1, n2, n3, n4, n5⟩ := S.need h11
     refine ⟨⟨S.gb, S.good, S.sz, S.K, S.most⟩, by have := S.fr; dsimp only; omega, fun h => (by cases h), fun _ => ⟨?_, n3, n4, n5⟩, by simp⟩
     show GI l D.s D.v
     rw [n1]
     exact ⟨G.gb, G.pc, G.pts, G.told, G.stk, by rw [n2]; exact G.lv, S.good⟩
    ·exact ⟨⟨S.gb, S.good, S.sz, S.K, S.most⟩, by have := S.fr; dsimp only; omega, fun h => (by cases h), fun h => (by cases h), by simp⟩
section
variable {x v : Nat} {l : List qI} {bad : Int} {mt : List Int} {s : IM} {err fin left nx : Int}
theorem qX8 {n : Nat} (hn : 14 ≤ n) (F : Fit l) (Q : Quiet l) {left : Nat} {V : VM} (G : GI l s V) (hf : frS V.lv + left < 9000) (hl : left ≤ 1000) (H : HS g h (IntC x v l 0 (qB l) s 0 0 left nx :: ViewC v V :: R)) :
  wp (callT tab qc n (.fn 13 [] []) [.ptr x 0] h) fun r h' => r = .int .i64 (jB l (qB l) left s V).kind ∧
   ∃ nx', HS g h' (IntC x v l 0 (qB l) (jB l (qB l) left s V).s (jB l (qB l) left s V).err (if (jB l (qB l) left s V).kind = 1 then 0 else (jB l (qB l) left s V).kind) ((jB l (qB l) left s V).left : Int) nx' :: ViewC v (jB l (qB l) left s V).v :: R) := by
 (refine qr (g := W13) rfl (by omega) fun k hk => ?_; show wp (S13 (callT tab qc k) _ _) _; unfold S13; try simp only [iI, uU, Int.ofNat_eq_natCast])
 generalize hRM : jB l (qB l) left s V = RM
 refine zW (fun m st h' => st = (.ptr x 0, ()) ∧ ((∃ (s' : IM) (V' : VM) (left' : Nat) (nx' : Int), m = left' + 1 ∧ left' ≤ 1000 ∧ GI l s' V' ∧ frS V'.lv + left' < 9000 ∧ jB l (qB l) left' s' V' = RM ∧ HS g h' (IntC x v l 0 (qB l) s' 0 0 left' nx' :: ViewC v V' :: R)) ∨
   (m = 0 ∧ RM.kind ≠ 0 ∧ RM.kind ≠ 1 ∧ ∃ nx', HS g h' (IntC x v l 0 (qB l) RM.s RM.err RM.kind RM.left nx' :: ViewC v RM.v :: R))))
  ?_ (m := left + 1) (by show _ < 1000000000; omega) ⟨rfl, .inl ⟨s, V, left, nx, rfl, hl, G, hf, hRM, H⟩⟩
 clear H G hf hRM hl
 rintro m ih st h2 hih ⟨rfl, ⟨s, V, left, nx, rfl, hl, G, hf, hRM, H⟩ | ⟨rfl, hk0, hk1, nx, H⟩⟩
 rotate_left
 ·dsimp only
  obtain ⟨c, mv, ov, q, H1⟩ := IntC.E H
  refine qL (qV (qv H1 (b := x) .here rfl ?_))
  refine qK hk0 (qQ ?_)
  refine qL (qV (qv H1 (b := x) .here rfl ?_))
  refine qM (qk ⟨rfl, nx, ?_⟩)
  rw [if_neg hk1]; exact H
 dsimp only
 obtain ⟨i, hi, hil⟩ := G.pc
 have hlen := F.le
 obtain ⟨c, mv, ov, q, H1⟩ := IntC.E H
 refine qL (qV (qv H1 (b := x) .here rfl ?_))
 refine qO rfl (qY ?_)
 refine qW ?_
 try dsimp only
 refine qL (qV (qv H1 (b := x) .here rfl ?_))
 refine zw rfl (qQ ?_)
 refine qL (qV (qv H1 (b := x) .here rfl ?_))
 refine qL (qV (qV (qv H1 (b := x) .here rfl ?_)))
 refine jb H1 e_1 ?_
 by_cases h0 : s.pc = l.length
 ·refine qO h0 (qY ?_)
  rw [wK h0] at hRM
  subst hRM
  refine qL (qV ?_)
  refine jM H1 (b := x) .here ⟨rfl, rfl⟩ (by show 5 < 19; omega) fun h3 H3 => ?_
  exact hih 0 _ _ (by omega) ⟨rfl, .inr ⟨rfl, by show (2 : Int) ≠ 0; decide, by show (2 : Int) ≠ 1; decide, nx, IntC.I (c := c) (mv := mv) (ov := ov) (o := q) H3⟩⟩
 refine qK h0 (qQ ?_)
 refine qL (qV (qv H1 (b := x) .here rfl ?_))
 cases left with
 | zero =>
  refine qO rfl (qY ?_)
  rw [yr, if_neg h0] at hRM
  subst hRM
  refine qx (K6 (by omega) H) ?_
  intro _ h3 H3
  exact hih 0 _ _ (by omega) ⟨rfl, .inr ⟨rfl, by show (4 : Int) ≠ 0; decide, by show (4 : Int) ≠ 1; decide, nx, H3⟩⟩
 | succ left =>
  refine qK (by omega) (qQ ?_)
  rw [yF, if_neg h0] at hRM
  have hlt : i < l.length := by omega
  have S := gi F G hi hlt (by omega) (Q.at hlt).2 (Q.at hlt).1
  have P := qKp F G hi hlt (Q.at hlt).1
  refine qL (qV (qv H1 (b := x) .here rfl ?_))
  rw [hi]
  refine qh (by omega) (qL (qV ?_))
  refine jM H1 (b := x) .here ⟨rfl, rfl⟩ (by show 16 < 19; omega) fun h3 H3 => ?_
  refine qL (qV (qV (qv H3 (b := x) .here rfl ?_)))
  refine qL (qV (qv H3 (b := x) .here rfl ?_))
  rw [hi]
  refine xY (l := jj l[i]) (H3.sl e_1) hlt (by omega) (kd hlt) ?_
  have H4 : HS g h3 (IntC x v l 0 (qB l) s 0 0 ((left + 1 : Nat) : Int) (s.pc + 1) :: ViewC v V :: R) := IntC.I (c := c) (mv := mv) (ov := ov) (o := q) (by rw [hi] at H3 ⊢; exact H3)
  clear H H1 H3
  rw [← jt hlt]
  refine qx (qKc (by omega) P H4) ?_
  rintro _ h5 ⟨rfl, H5⟩
  rw [hi] at hRM
  generalize doM (qB l) s V (qA l i) = D at *
  refine qW ?_
  try dsimp only
  obtain ⟨c, mv, ov, q, H6⟩ := IntC.E H5
  by_cases h1 : D.e = 0
  ·refine qO h1 (qY ?_)
   rw [if_pos h1] at hRM
   refine qL (qV (qv H6 (b := x) .here rfl ?_))
   refine qL (qV ?_)
   refine jM H6 (b := x) .here ⟨rfl, rfl⟩ (by show 15 < 19; omega) fun h7 H7 => ?_
   refine qL (qV (qv H7 (b := x) .here rfl ?_))
   refine zQ (by omega) (qL (qV ?_))
   rw [show ((left + 1 : Nat) : Int) - ((1 : Nat) : Int) = (left : Int) by omega]
   refine jM H7 (b := x) .here ⟨rfl, rfl⟩ (by show 17 < 19; omega) fun h8 H8 => ?_
   have H9 : HS g h8 (IntC x v l 0 (qB l) { D.s with pc := D.nx } 0 (if D.blk = true then 3 else 0) left D.nx :: ViewC v D.v :: R) := IntC.I (s := { D.s with pc := D.nx }) (c := c) (mv := mv) (ov := ov) (o := q) H8
   clear H6 H7 H8 H5
   cases h2 : D.blk with
   | true =>
    rw [h2, if_pos rfl] at hRM
    rw [h2, if_pos rfl] at H9
    subst hRM
    exact hih 0 _ _ (by omega) ⟨rfl, .inr ⟨rfl, by show (3 : Int) ≠ 0; decide, by show (3 : Int) ≠ 1; decide, D.nx, H9⟩⟩
   | false =>
    rw [h2, if_neg (by simp)] at hRM
    rw [h2, if_neg (by simp)] at H9
    have := S.fr
    exact hih (left + 1) _ _ (by omega) ⟨rfl, .inl ⟨_, D.v, left, D.nx, rfl, by omega, S.next h1 h2, by omega, hRM, H9⟩⟩
  ·refine qK h1 (qQ ?_)
   rw [if_neg h1] at hRM
   have hb : D.blk = false := by
    cases hb : D.blk with
    | false => rfl
    | true => exact absurd (S.bl hb) h1
   rw [hb, if_neg (by simp)] at H5
   by_cases h11 : D.e = 11
   ·rw [if_pos h11] at hRM
    subst hRM
    refine qO h11 (qY ?_)
    refine qM (qk ⟨rfl, D.nx, ?_⟩)
    rw [if_pos rfl]
    exact H5
   ·rw [if_neg h11] at hRM
    subst hRM
    refine qK h11 (qQ ?_)
    refine qx (K6 (by omega) H5) ?_
    intro _ h7 H7
    exact hih 0 _ _ (by omega) ⟨rfl, .inr ⟨rfl, by show (4 : Int) ≠ 0; decide, by show (4 : Int) ≠ 1; decide, D.nx, H7⟩⟩
end
end Go.Proofs.YtdlfmpmpmkffjaaGreatDoor
namespace Go.Proofs.YtdlfmpmpmkffjaaGreatDoor
open Go Go.Ae
set_option maxRecDepth 100000
variable {g h : AH} {L R : List SP}
def Xp (l : List qI) : List Int := if (xG l).2 = 0 then qB l else []
theorem Vx {n : Nat} (hn : 7 ≤ n) {l : List qI} {sv : AV} (H : HS g h R) (S : Rd g R 5 l.length sv (l.flatMap jj)) (hl : l.length ≤ 100) :
  wp (callT tab qc n (.fn 48 [] []) [.agg [sv]] h) fun v h' => HS g h' (qb 3 1 (Xp l).length v ((Xp l).map (.int .i64)) :: R) := by
 (refine qr (g := W48) rfl (by omega) fun k hk => ?_; show wp (S48 (callT tab qc k) _ _) _; unfold S48; try simp only [iI, uU, Int.ofNat_eq_natCast])
 refine jJ H (x8 (gt (S.sl H))) fun b0 h1 H1 => ?_
 have hLV := (S.sl H).lenV
 clear H
 refine qo H1 (b := b0) (off := 0) .here rfl (by omega) rfl ?_
 refine qx (kT (by omega) H1 S.more hl) ?_
 rintro _ h2 ⟨rfl, H2⟩
 clear H1
 with_reducible (refine qH rfl ?_; refine qH rfl ?_)
 by_cases c0 : (xG l).2 = 0
 rotate_left
 ·refine zA c0 ?_
  refine qY ?_
  unfold Xp
  rw [if_neg c0]
  exact qk H2.drop.nils
 have hG := X8 c0
 have F := yb c0
 have hnr := fun {j : Nat} (h : j < l.length) => vJ F h
 have hrg := fun {j : Nat} (h : j < l.length) => F.reg j h
 unfold Xp
 rw [if_pos c0]
 have hM : qB l = mt2 l (xP l 0 []) l.length := rfl
 rw [hM]
 clear hM
 refine zw c0 ?_
 refine qQ ?_
 refine qo H2 (b := b0) (off := 0) .here rfl (by omega) rfl ?_
 refine qx (Je (by omega) H2 S.more hG hl) ?_
 intro av h3 H3
 clear H2
 with_reducible (refine qV ?_; refine qv (by assumption) e_1 rfl ?_; refine xF (by assumption) ?_)
 refine Uf (n := l.length) H3 (by omega) fun ev h4 H4 => ?_
 refine jb H4 .here ?_
 clear H3
 have hA : (xP l 0 []).length = l.length := Xl
 have hin := fun {i : Nat} => qKd (i := i) hG
 generalize xP l 0 [] = A at *
 refine zW (fun m s h' => ∃ (i : Nat), s = (.int .i64 (i : Int), .int .i64 (l.length : Int), ev, av, .ptr b0 0, ()) ∧ i ≤ l.length ∧ m = l.length - i ∧
  HS g h' (qb 3 1 l.length ev ((List.replicate i (-1 : Int) ++ List.replicate (l.length - i) 0).map (.int .i64)) :: qb 3 1 l.length av (A.map (.int .i64)) :: qU b0 [sv] :: R))
  ?_ (m := l.length) (by show _ < 1000000000; omega) ⟨0, rfl, by omega, by omega, by rw [List.replicate_zero, List.nil_append, Nat.sub_zero, List.map_replicate]; exact H4⟩
 clear H4
 rintro m ih s h5 hih ⟨i, rfl, hi, rfl, H⟩
 dsimp only
 by_cases hlt : i < l.length
 ·with_reducible (refine xj (by omega) ?_; refine qY ?_)
  refine gS H hlt ⟨rfl, rfl⟩ fun h6 H6 => ?_
  with_reducible (refine qh (by omega) ?_)
  have h0 : (AV.int .i64 (Int.negSucc 0)) = .int .i64 (-1) := rfl
  rw [h0, ← List.map_set] at H6
  have es : (List.replicate i (-1 : Int) ++ List.replicate (l.length - i) 0).set i (-1) = List.replicate (i + 1) (-1 : Int) ++ List.replicate (l.length - (i + 1)) 0 := by
   rw [show l.length - i = (l.length - (i + 1)) + 1 by omega, List.replicate_succ, List.set_append_right _ _ (by simp), List.length_replicate, Nat.sub_self, List.set_cons_zero, List.replicate_succ' (n := i), List.append_assoc]; rfl
  rw [es] at H6
  exact hih (l.length - (i + 1)) _ _ (by omega) ⟨i + 1, rfl, by omega, rfl, H6⟩
 obtain rfl : i = l.length := by omega
 clear hih
 rw [Nat.sub_self, List.replicate_zero, List.append_nil] at H
 have hL1 : ∀ i, (mt1 l A i).length = l.length := fun i => GU i
 have hL2 : ∀ i, (mt2 l A i).length = l.length := fun i => Gv i
 with_reducible (refine ze (by omega) ?_; refine qQ ?_; refine qV ?_; refine qv (by assumption) e_2 rfl ?_; refine xF (by assumption) ?_)
 refine zW (fun m s h' => ∃ (i : Nat), s = (.int .i64 (i : Int), .int .i64 (l.length : Int), sv, ev, av, .ptr b0 0, ()) ∧ i ≤ l.length ∧ m = l.length - i ∧
  HS g h' (qb 3 1 l.length ev ((mt1 l A i).map (.int .i64)) :: qb 3 1 l.length av (A.map (.int .i64)) :: qU b0 [sv] :: R))
  ?_ (m := l.length) (by show _ < 1000000000; omega) ⟨0, rfl, by omega, by omega, H⟩
 clear H
 rintro m ih s h6 hih ⟨i, rfl, hi, rfl, H⟩
 dsimp only
 by_cases hlt : i < l.length
 ·have hrow := kd hlt
  have hini := hin hlt
  have hrgi := hrg hlt
  have hnri := hnr hlt
  have hstep : mt1 l A (i + 1) = if 0 < jc (qA l (i : Int)).1 then (mt1 l A i).set (qa A (i : Int)).toNat i else mt1 l A i := rfl
  rw [jt hlt] at hstep
  generalize l[i] = x at *
  refine xj (by omega) (qY ?_)
  refine zp [] (fun s h' => s = (.int .i64 (i : Int), .int .i64 (l.length : Int), sv, ev, av, .ptr b0 0, ()) ∧
   HS g h' (qb 3 1 l.length ev ((mt1 l A (i + 1)).map (.int .i64)) :: qb 3 1 l.length av (A.map (.int .i64)) :: qU b0 [sv] :: R)) ?_ ?_
  rotate_left
  ·rintro s h7 ⟨rfl, H7⟩
   with_reducible (refine qh (by omega) ?_)
   exact hih (l.length - (i + 1)) _ _ (by omega) ⟨i + 1, rfl, by omega, rfl, H7⟩
  intro j hj
  refine xY (S.sl H.drop.drop.drop) hlt (by omega) hrow ?_
  refine jJ H rfl fun b h7 H7 => ?_
  refine jF H7 (b := b) .here rfl (by simp [jj]) rfl fun h8 H8 => ?_
  have H8 : HS g h8 (qU b [.int .i64 x.1, .int .i64 x.2.1, .int .i64 x.2.2.1, .int .i64 x.2.2.2.1, .int .u64 x.2.2.2.2] :: qb 3 1 l.length ev ((mt1 l A i).map (.int .i64)) :: qb 3 1 l.length av (A.map (.int .i64)) :: qU b0 [sv] :: R) := H8
  clear H H7
  with_reducible (refine qV ?_; refine qv (by assumption) .here rfl ?_)
  refine qx (JW (by omega)) ?_
  rintro _ h8 ⟨rfl, rfl⟩
  by_cases he : 0 < jc x.1
  ·obtain ⟨p, hp, hpl⟩ := hini (.inl he)
   refine yZ he (qY ?_)
   refine ju (H8.sl e_2) (x := .int .i64 (p : Int)) (by rw [List.getElem?_map, hp]; rfl) ?_
   refine gS (H8.sel e_1) hpl ⟨rfl, rfl⟩ fun h9 H9 => ?_
   rw [← List.map_set] at H9
   have hnp : qa A (i : Int) = p := by unfold qa; rw [Int.toNat_natCast, hp]; rfl
   rw [if_pos he, hnp, Int.toNat_natCast] at hstep
   rw [← hstep] at H9
   exact hj _ _ ⟨rfl, H9.sub (.cons .here (.cons e_1 (.cons e_1 (.drop .refl))))⟩
  ·refine xh he (qQ ?_)
   rw [if_neg he] at hstep
   exact hj _ _ ⟨rfl, by rw [hstep]; exact H8.drop⟩
 obtain rfl : i = l.length := by omega
 clear hih
 with_reducible (refine ze (by omega) ?_; refine qQ ?_; refine qV ?_; refine qv (by assumption) e_2 rfl ?_; refine xF (by assumption) ?_)
 refine zW (fun m s h' => ∃ (i : Nat), s = (.int .i64 (i : Int), .int .i64 (l.length : Int), sv, ev, av, ()) ∧ i ≤ l.length ∧ m = l.length - i ∧
  HS g h' (qb 3 1 l.length ev ((mt2 l A i).map (.int .i64)) :: qb 3 1 l.length av (A.map (.int .i64)) :: qU b0 [sv] :: R))
  ?_ (m := l.length) (by show _ < 1000000000; omega) ⟨0, rfl, by omega, by omega, H⟩
 clear H
 rintro m ih s h6 hih ⟨i, rfl, hi, rfl, H⟩
 dsimp only
 by_cases hlt : i < l.length
 ·have hrow := kd hlt
  have hini := hin hlt
  have hstep : mt2 l A (i + 1) = if (qA l (i : Int)).1 = 16 then (mt2 l A i).set i (qa (mt2 l A i) (qa A (i : Int))) else mt2 l A i := rfl
  rw [jt hlt] at hstep
  generalize l[i] = x at *
  refine xj (by omega) (qY ?_)
  refine zp [] (fun s h' => s = (.int .i64 (i : Int), .int .i64 (l.length : Int), sv, ev, av, ()) ∧
   HS g h' (qb 3 1 l.length ev ((mt2 l A (i + 1)).map (.int .i64)) :: qb 3 1 l.length av (A.map (.int .i64)) :: qU b0 [sv] :: R)) ?_ ?_
  rotate_left
  ·rintro s h7 ⟨rfl, H7⟩
   with_reducible (refine qh (by omega) ?_)
   exact hih (l.length - (i + 1)) _ _ (by omega) ⟨i + 1, rfl, by omega, rfl, H7⟩
  intro j hj
  refine xY (S.sl H.drop.drop.drop) hlt (by omega) hrow ?_
  refine jJ H rfl fun b h7 H7 => ?_
  refine jF H7 (b := b) .here rfl (by simp [jj]) rfl fun h8 H8 => ?_
  have H8 : HS g h8 (qU b [.int .i64 x.1, .int .i64 x.2.1, .int .i64 x.2.2.1, .int .i64 x.2.2.2.1, .int .u64 x.2.2.2.2] :: qb 3 1 l.length ev ((mt2 l A i).map (.int .i64)) :: qb 3 1 l.length av (A.map (.int .i64)) :: qU b0 [sv] :: R) := H8
  clear H H7
  with_reducible (refine qV ?_; refine qv (by assumption) .here rfl ?_)
  by_cases he : x.1 = 16
  ·obtain ⟨p, hp, hpl⟩ := hini (.inr he)
   refine qO he (qY ?_)
   refine ju (H8.sl e_2) (x := .int .i64 (p : Int)) (by rw [List.getElem?_map, hp]; rfl) ?_
   refine ju (H8.sl e_1) (x := .int .i64 (qa (mt2 l A i) (p : Int))) (by rw [List.getElem?_map, KO (by rw [hL2]; exact hpl)]; rfl) ?_
   refine gS (H8.sel e_1) hlt ⟨rfl, rfl⟩ fun h9 H9 => ?_
   rw [← List.map_set] at H9
   have hnp : qa A (i : Int) = p := by unfold qa; rw [Int.toNat_natCast, hp]; rfl
   rw [if_pos he, hnp] at hstep
   rw [← hstep] at H9
   exact hj _ _ ⟨rfl, H9.sub (.cons .here (.cons e_1 (.cons e_1 (.drop .refl))))⟩
  ·refine qK he (qQ ?_)
   rw [if_neg he] at hstep
   exact hj _ _ ⟨rfl, by rw [hstep]; exact H8.drop⟩
 obtain rfl : i = l.length := by omega
 with_reducible (refine ze (by omega) ?_; refine qQ ?_; refine qM ?_)
 refine qk ?_
 rw [hL2]
 exact H.sub (.cons .here (.drop (.drop .refl)))
def z6 : IM := ⟨[0, 0, 0, 0, 0, 0, 0, 0], [], 0, []⟩
theorem qXC {l : List qI} {V : VM} (h1 : V.lv.length = 1) (G : jm V) : GI l z6 V :=
 ⟨⟨⟨rfl, by intro z hz; simp [z6] at hz; subst hz; omega⟩, Nat.zero_le _, fun x hx => by cases hx⟩, ⟨0, rfl, Nat.zero_le _⟩, (fun p hp => by cases hp), trivial, rfl, h1, G⟩
def vo (fuel : Int) : Nat := (max 0 (min fuel 400)).toNat
theorem qZd {n : Nat} (hn : 8 ≤ n) {l : List qI} {sv : AV} {v : Nat} {fuel : Int} (H : HS g h R) (S : Rd g R 5 l.length sv (l.flatMap jj)) (hl : l.length ≤ 100) :
  wp (callT tab qc n (.fn 12 [] []) [.agg [sv], .ptr v 0, .int .i64 fuel] h) fun r h' => ∃ x, r = .ptr x 0 ∧ HS g h' (IntC x v l (xG l).2 (Xp l) z6 0 0 (vo fuel : Nat) 0 :: R) := by
 (refine qr (g := W12) rfl (by omega) fun k hk => ?_; show wp (S12 (callT tab qc k) _ _ _ _) _; unfold S12; try simp only [iI, uU, Int.ofNat_eq_natCast])
 refine jJ H (x8 (gt (S.sl H))) fun b0 h1 H1 => ?_
 with_reducible (refine qV ?_; refine qv (by assumption) .here rfl ?_)
 refine zl (H1.nils) (S.sl H1.drop) (by omega) (by omega) (Jo l) fun cv h2 H2 => ?_
 rw [List.nil_append, Nat.zero_add] at H2
 have oc := H2.one .here
 refine qV ?_
 refine jM H2 (b := b0) e_1 oc (by simp) fun h3 H3 => ?_
 have H3 : HS g h3 (qU b0 [cv] :: qb 28 5 l.length cv (l.flatMap jj) :: R) := H3
 refine qo H3 (b := b0) (off := 0) .here rfl (by omega) rfl ?_
 refine qx (kT (by omega) H3 (Rd.own e_1) hl) ?_
 rintro _ h4 ⟨rfl, H4⟩
 with_reducible (refine qH rfl ?_; refine qH rfl ?_; refine qW ?_; (try dsimp only))
 refine qo H4 (b := b0) (off := 0) .here rfl (by omega) rfl ?_
 refine qo H4 (b := b0) (off := 0) .here rfl (by omega) rfl ?_
 refine qx (Vx (by omega) H4 (Rd.own e_1) hl) ?_
 intro mv h5 H5
 have om := H5.one .here
 refine qx (Q' := fun r h' => ∃ o, r = .ptr o 0 ∧ HS g h' (qU o [.nils] :: qb 3 1 (Xp l).length mv ((Xp l).map (.int .i64)) :: qU b0 [cv] :: qb 28 5 l.length cv (l.flatMap jj) :: R)) ?_ ?_
 ·(refine qr (g := W49) rfl (by omega) fun k hk => ?_; show wp (S49 (callT tab qc k) _) _; unfold S49; try simp only [iI, uU, Int.ofNat_eq_natCast])
  with_reducible (refine qt rfl ?_)
  exact jJ H5 rfl fun o h6 H6 => qk ⟨o, rfl, H6⟩
 rintro _ h6 ⟨o, rfl, H6⟩
 refine yj (yY ?_)
 rw [show max ((0 : Nat) : Int) (min fuel ((400 : Nat) : Int)) = ((vo fuel : Nat) : Int) by unfold vo; omega]
 refine qt (l := yf cv mv .nils v o (xG l).2 0 0 (vo fuel : Nat) 0 0 [0, 0, 0, 0, 0, 0, 0, 0]) (by
  have e : (AV.agg (List.take 1 (List.drop 0 [cv]))).cells = [cv] := rfl
  simp only [vt, e, om.1]; rfl) ?_
 refine jJ H6 (by unfold yf; simp only [qu, List.all_cons, oc.2, om.2]; rfl) fun x h7 H7 => ?_
 refine zj H5 (b := b0) e_1 rfl H6 e_2 rfl rfl (by omega) (HS.lt H4 .here) ?_
 refine zj H4 (b := b0) .here rfl H5 e_1 rfl rfl (by omega) (HS.lt H4 .here) ?_
 skip
 refine qk ⟨x, rfl, ?_⟩
 have H8 := (H7.nils (e := 20) (sz := 1)).nils (e := 195) (sz := 11)
 have H9 : HS g h7 (SlaC o [] :: qb 195 11 0 .nils [] :: qU x (yf cv mv .nils v o (xG l).2 0 0 (vo fuel : Nat) 0 0 [0, 0, 0, 0, 0, 0, 0, 0]) :: qb 3 1 (Xp l).length mv ((Xp l).map (.int .i64)) :: qU b0 [cv] ::
  qb 28 5 l.length cv (l.flatMap jj) :: R) := SlaC.I (l := []) (sv := .nils) (H8.sub (.cons e_3 (.cons e_1 (.cons .here (.cons .here .refl)))))
 exact IntC.I (s := z6) (c := cv) (mv := mv) (ov := .nils) (o := o) (H9.sub (.cons e_2 (.cons e_4 (.cons e_2 (.cons .here (.cons .here (.drop .refl)))))))
section
variable {x v : Nat} {l : List qI} {bad : Int} {mt : List Int} {s : IM} {err fin left nx : Int}
theorem UF {n : Nat} (hn : 1 ≤ n) (H : HS g h (IntC x v l bad mt s err fin left nx :: R)) (hr : s.regs.length = 8) :
  wp (callT tab qc n (.fn 20 [] []) [.ptr x 0] h) fun r h' => HS g h' (qb 26 1 8 r (s.regs.map (.int .u64)) :: IntC x v l bad mt s err fin left nx :: R) := by
 (refine qr (g := W20) rfl (by omega) fun k hk => ?_; show wp (S20 (callT tab qc k) _ _) _; unfold S20; try simp only [iI, uU, Int.ofNat_eq_natCast])
 obtain ⟨c, mv, ov, q, H1⟩ := IntC.E H
 refine qL (qV ?_)
 show wp (q8 h _ 1 .nils (.slice x 6 8 8 false) _) _
 obtain ⟨e, A⟩ := H1.obj .here
 have S : Sl (fun _ => True) h 1 8 (.slice x 6 8 8 false) (s.regs.map (.int .u64)) := by
  refine .mk trivial A.lt A.rd (by simp [hr]) fun i hi => ?_
  rw [A.at, ← OZ hr]
  have : i = 0 ∨ i = 1 ∨ i = 2 ∨ i = 3 ∨ i = 4 ∨ i = 5 ∨ i = 6 ∨ i = 7 := by simp at hi; omega
  rcases this with rfl | rfl | rfl | rfl | rfl | rfl | rfl | rfl <;> rfl
 refine zl H.nils S (by omega) (by omega) (by unfold qu; rw [List.all_eq_true]; intro y hy; obtain ⟨z, _, rfl⟩ := List.mem_map.1 hy; rfl) fun v2 h2 H2 => ?_
 rw [List.nil_append, Nat.zero_add] at H2
 exact qk H2
end
end Go.Proofs.YtdlfmpmpmkffjaaGreatDoor
