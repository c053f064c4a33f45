/- Views: by the document's own text. -/
import Derived.Test.YtkfpddegilellaaGreatDoorVwV
namespace Go.Proofs.YtkfpddegilellaaGreatDoor
open Go Go.Ae
set_option maxRecDepth 100000

variable {g h : AH} {L R : List SP}

theorem Sel.app {A A' : List SP} {P : SP} (s : Sel A P A') (R : List SP) : Sel (A ++ R) P (A' ++ R) := by
  induction s with
  | here => exact .here
  | there s ih => exact .there ih
theorem HS.allSel {A A' : List SP} {P : SP} (s : Sel A P A') (H : HS g h (.all A :: R)) : HS g h (P :: .all A' :: R) := by
  have H1 := (H.allE).sel (Sel.app s R)
  have H2 := HS.allI (HS.back (A := A') H1)
  exact H2.sub (.cons (.there .here) (.refl))
theorem HS.allUn {A A' : List SP} {P : SP} (s : Sel A P A') (H : HS g h (P :: .all A' :: R)) : HS g h (.all A :: R) := by
  have H1 : HS g h (.all A' :: P :: R) := H.sub (.cons (.there .here) (.refl))
  have H2 := (H1.allE).sel (Sel.skip A' .here)
  exact HS.allI (HS.unsel (Sel.app s R) H2)
theorem HS.slv {e : TypeId} {sz n : Nat} {v : AV} {xs : List AV} (H : HS g h L) (s : Sel L (SliC e sz n v xs) R) (hn : 0 < n) : ∃ b cp o, v = .slice b 0 n cp o := by
  obtain ⟨b, cp, o, ys, hv, _⟩ := (H.sel s).slE hn
  exact ⟨b, cp, o, hv⟩
theorem HS.slat {e : TypeId} {sz n b cp : Nat} {o : Bool} {xs : List AV} (H : HS g h L) (s : Sel L (SliC e sz n (.slice b 0 n cp o) xs) R) : b < h.nx ∧ ∀ j, j < n * sz → h.at b (0 + j) = xs[j]? := by
  have S := H.sl s
  cases S with
  | mk hd hb hr hl ha => exact ⟨hb, ha⟩
theorem ww_appN {e : TypeId} {sz m : Nat} {x : AV} {ys : List AV} {D : Nat → Prop} {K2 : AV → AH → Go.Ae.R} {Q : AV → AH → Prop} (H : HS g h L) (S : Sl D h sz m x ys) (hsz : 0 < sz) (hlim : m ≤ 67108864) (h1 : allOne ys = true)
    (w : ∀ v' h', HS g h' (SliC e sz m v' ys :: L) → wp (K2 v' h') Q) : wp (pAppend h e sz .nils x K2) Q := by
  refine ww_appH (n := 0) H.nils S hsz (by omega) h1 fun v' h' H' => w v' h' ?_
  rw [Nat.zero_add, List.nil_append] at H'
  exact H'
theorem allOne_ints (l : List Int) : allOne (l.map (AV.int .i64)) = true := by
  unfold allOne
  rw [List.all_eq_true]
  intro v hv
  obtain ⟨c, _, rfl⟩ := List.mem_map.1 hv
  rfl

/-! ### levels -/
def RlC (p : AV × AV) (x : LvM) : SP := .all [SliC 35 2 x.1.length p.1 (x.1.flatMap encC), SliC 3 1 x.2.length p.2 (x.2.map (.int .i64))]
theorem RlC.E {p : AV × AV} {x : LvM} (H : HS g h (RlC p x :: R)) : HS g h (SliC 35 2 x.1.length p.1 (x.1.flatMap encC) :: SliC 3 1 x.2.length p.2 (x.2.map (.int .i64)) :: R) := H.allE
theorem RlC.I {p : AV × AV} {x : LvM} (H : HS g h (SliC 35 2 x.1.length p.1 (x.1.flatMap encC) :: SliC 3 1 x.2.length p.2 (x.2.map (.int .i64)) :: R)) : HS g h (RlC p x :: R) := H.allI
def cellsR (ps : List (AV × AV)) : List AV := ps.reverse.flatMap fun p => [p.1, p.2]
theorem cellsR_cons (p : AV × AV) (ps : List (AV × AV)) : cellsR (p :: ps) = cellsR ps ++ [p.1, p.2] := by unfold cellsR; rw [List.reverse_cons, List.flatMap_append]; rfl
theorem cellsR_len (ps : List (AV × AV)) : (cellsR ps).length = ps.length * 2 := by unfold cellsR; rw [flat_len (sz := 2) _ (fun _ => rfl), List.length_reverse]
theorem cellsR_get {ps : List (AV × AV)} {i f : Nat} (hi : i < ps.length) (hf : f < 2) : (cellsR ps)[i * 2 + f]? = (ps[ps.length - 1 - i]?).bind fun p => [p.1, p.2][f]? := by
  unfold cellsR
  rw [flat_get (sz := 2) (fun p : AV × AV => [p.1, p.2]) (fun _ => rfl) _ _ _ hf, List.getElem?_reverse hi]
theorem zip_selR : ∀ {ps : List (AV × AV)} {lv : List LvM} {i : Nat} {a : AV × AV} {x : LvM}, ps[i]? = some a → lv[i]? = some x → ∃ T, Sel (List.zipWith RlC ps lv) (RlC a x) T := by
  intro ps
  induction ps with
  | nil => intro lv i a x h; simp at h
  | cons b ps ih =>
    intro lv i a x h1 h2
    cases lv with
    | nil => simp at h2
    | cons y lv =>
      cases i with
      | zero =>
        simp at h1 h2
        subst h1; subst h2
        exact ⟨_, .here⟩
      | succ i =>
        obtain ⟨T, s⟩ := ih (lv := lv) (i := i) (by simpa using h1) (by simpa using h2)
        exact ⟨_, .there s⟩

theorem cells_last (l : List AV) (n f : Nat) (a b : AV) (hl : l.length = n * 2) (hf : f < 2) : (l ++ [a, b])[n * 2 + f]? = [a, b][f]? := by
  rw [List.getElem?_append_right (by omega), hl]
  congr 1; omega
theorem cells_set0 (l : List AV) (n : Nat) (a b c : AV) (hl : l.length = n * 2) : (l ++ [a, b]).set (n * 2 + 0) c = l ++ [c, b] := by
  rw [List.set_append_right _ _ (by omega), hl, show n * 2 + 0 - n * 2 = 0 by omega]; rfl
theorem cells_set1 (l : List AV) (n : Nat) (a b c : AV) (hl : l.length = n * 2) : (l ++ [a, b]).set (n * 2 + 1) c = l ++ [a, c] := by
  rw [List.set_append_right _ _ (by omega), hl, show n * 2 + 1 - n * 2 = 1 by omega]; rfl

end Go.Proofs.YtkfpddegilellaaGreatDoor
