/- What the laws of layer 29 are given. -/
import Derived.Test.YtlmfnmppcdijfaaHistAtt
namespace Go.Proofs.Ytlmfnmppcdijfaa
open Go Go.Ae
set_option maxRecDepth 100000

theorem wt_cell {h : AH} {d : Nat} {row : List AV} (H : WT Try.prog h (d + 2) 24 row) : ∃ c : Int × Int, row = encC c := by
  unfold WT at H
  simp only [Try.underlying24] at H
  obtain ⟨g1, g2⟩ := H
  rw [show Try.prog.cellsOf 24 = 2 by kernel_rfl] at g1
  match row, g1 with
  | [x, y], _ =>
    have f1 := g2 _ (List.mem_cons_self ..)
    have f2 := g2 _ (List.mem_cons_of_mem _ (List.mem_cons_self ..))
    rw [show Try.prog.cellsOf 3 = 1 by kernel_rfl] at f1
    rw [show Try.prog.cellsOf 22 = 1 by kernel_rfl] at f2
    unfold WT at f1 f2
    simp only [Try.underlying3, List.drop_zero, List.take_succ_cons, List.take_zero] at f1
    simp only [Try.underlying22, List.drop_succ_cons, List.drop_zero, List.take_succ_cons, List.take_zero] at f2
    obtain ⟨a, ha, _⟩ := f1
    obtain ⟨b, hb, _⟩ := f2
    cases ha; cases hb
    exact ⟨(a, b), rfl⟩
theorem wt_cells {h : AH} {d : Nat} {v : AV} (H : WT Try.prog h (d + 3) 25 [v]) : ∃ cs : List (Int × Int), Sl (fun y => y < h.nx) h 2 cs.length v (cs.flatMap encC) := by
  obtain ⟨q, xs, S1, _, H1⟩ := WT_slice (sz := 2) Try.underlying25 (by kernel_rfl) (by omega) H
  obtain ⟨cs, g1, _, rfl⟩ := rows_enc (α := Int × Int) (Pr := fun _ => True) encC S1.len (fun i hi => by
    obtain ⟨c, hc⟩ := wt_cell (H1 i hi)
    exact ⟨c, trivial, hc⟩)
  exact ⟨cs, by rw [g1]; exact S1⟩
theorem wt_draw {h : AH} {d : Nat} {row : List AV} (H : WT Try.prog h (d + 4) 50 row) : ∃ m : DrawM, DrawOk h m ∧ row = encD m := by
  unfold WT at H
  simp only [Try.underlying50] at H
  obtain ⟨g1, g2⟩ := H
  rw [show Try.prog.cellsOf 50 = 6 by kernel_rfl] at g1
  match row, g1 with
  | [x0, x1, x2, x3, x4, x5], _ =>
    have f0 := g2 _ (List.mem_cons_self ..)
    have f1 := g2 _ (List.mem_cons_of_mem _ (List.mem_cons_self ..))
    have f2 := g2 _ (List.mem_cons_of_mem _ (List.mem_cons_of_mem _ (List.mem_cons_self ..)))
    have f3 := g2 _ (List.mem_cons_of_mem _ (List.mem_cons_of_mem _ (List.mem_cons_of_mem _ (List.mem_cons_self ..))))
    have f4 := g2 _ (List.mem_cons_of_mem _ (List.mem_cons_of_mem _ (List.mem_cons_of_mem _ (List.mem_cons_of_mem _ (List.mem_cons_self ..)))))
    have f5 := g2 _ (List.mem_cons_of_mem _ (List.mem_cons_of_mem _ (List.mem_cons_of_mem _ (List.mem_cons_of_mem _ (List.mem_cons_of_mem _ (List.mem_cons_self ..))))))
    rw [show Try.prog.cellsOf 3 = 1 by kernel_rfl] at f0 f1 f2
    rw [show Try.prog.cellsOf 22 = 1 by kernel_rfl] at f3
    rw [show Try.prog.cellsOf 25 = 1 by kernel_rfl] at f4 f5
    simp only [List.drop_succ_cons, List.drop_zero, List.take_succ_cons, List.take_zero] at f0 f1 f2 f3 f4 f5
    unfold WT at f0 f1 f2 f3
    simp only [Try.underlying3] at f0 f1 f2
    simp only [Try.underlying22] at f3
    obtain ⟨a0, h0, _⟩ := f0
    obtain ⟨a1, h1, _⟩ := f1
    obtain ⟨a2, h2, _⟩ := f2
    obtain ⟨a3, h3, _⟩ := f3
    cases h0; cases h1; cases h2; cases h3
    obtain ⟨rs, Sr⟩ := wt_cells f4
    obtain ⟨cs, Sc⟩ := wt_cells f5
    exact ⟨⟨a0, a1, a2, a3, x4, x5, rs, cs⟩, ⟨Sr, Sc⟩, rfl⟩
theorem wt_draws {h : AH} {v : AV} (H : WT Try.prog h 8 39 [v]) : ∃ (p : Nat) (ds : List DrawM), Sl (fun y => y < h.nx) h 6 p v (ds.flatMap encD) ∧ ∀ d ∈ ds, DrawOk h d := by
  obtain ⟨q, xs, S1, _, H1⟩ := WT_slice (sz := 6) Try.underlying39 (by kernel_rfl) (by omega) H
  obtain ⟨ds, g1, g2, rfl⟩ := rows_enc (α := DrawM) (Pr := DrawOk h) encD S1.len (fun i hi => by
    obtain ⟨c, hc, he⟩ := wt_draw (H1 i hi)
    exact ⟨c, hc, he⟩)
  exact ⟨q, ds, S1, g2⟩
end Go.Proofs.Ytlmfnmppcdijfaa
