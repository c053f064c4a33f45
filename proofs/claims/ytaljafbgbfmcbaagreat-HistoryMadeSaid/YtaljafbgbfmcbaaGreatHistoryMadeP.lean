/- 'quietus/quietuslaw29.HistoryMade' returns true for every argument; the arguments read as they did. No condition. -/
import Derived.Test.YtaljafbgbfmcbaaGreatRows
import Derived.WalkKit
import Derived.ProofKit
import Derived.OpenShut
import Derived.KernelRfl
import Derived.Test.YtaljafbgbfmcbaaGreatHistoryMadeRun
import Derived.Test.YtaljafbgbfmcbaaGreatHistoryMadeM7
namespace Go.Proofs.YtaljafbgbfmcbaaGreat.historyMade
open Go.ChangeShapes Go.WideShapes Go.ChangeAt Go.RowKit
theorem own : ownKnob Tryz.prog.godebug = none := by kernel_rfl
theorem plain : Tryz.f3.params.toList.all (Ae.plainT Tryz.prog 8) = true := by kernel_rfl
noncomputable def zeros : Array Value := Tryz.f3.params.map fun t => ((Tryz.prog.info? t).bind (·.zero)).getD (.int .i64 0)
set_option maxRecDepth 100000 in
theorem lifted (os : Os) (started : os.Started) (H : Type) (enc : TypeId × Value → H) :
  ReturnsInHanded {} Tryz.checked os 3 .any (Rows.historyMadeSpec.pre6 enc Tryz.prog Tryz.f3 Rows.historyMadeRow.domain false) (Rows.historyMadeSpec.post enc Tryz.prog Tryz.f3 false true false false) := by
 refine returnsInHanded_of_change (C := Tryz.checked) own started (by kernel_rfl) Tryz.func3
  (ChangeSpec.witness6 (enc := enc) (C := Tryz.checked) false ⟨#[], zeros, []⟩ 8 (by kernel_rfl) (by kernel_rfl) (by kernel_rfl) (by kernel_rfl)) ?_
 intro W base args ds gs before hval hW _ _
 have hW' := hW
 obtain ⟨p, q, hA, hV, rfl, hfz, hnd⟩ := hW
 obtain ⟨rfl, rfl⟩ := trodVars_none hV
 obtain ⟨h, M⟩ := Ae.mirror W
 obtain ⟨a1, a2, a3, a4⟩ := Ae.args_ok (d := 8) M plain (fun j t v h1 h2 => hval j t v (by simpa using h1) (by simpa using h2)) hA
 simp only [List.append_nil] at hW'
 have hr := callsIn_wide.1 (Ae.open_law mixed table (z := 4) rfl runs (f := 3) rfl (k := 60) M (Ae.gl_none rfl) a2 (told a3) 0)
 rw [a1] at hr
 refine hr.mono fun e W' ⟨he, hg⟩ => ?_
 subst he
 obtain ⟨d0, d1, d2, d3, rfl⟩ : ∃ d0 d1 d2 d3, ds = [d0, d1, d2, d3] := (by match ds, a4 with | [x0, x1, x2, x3], _ => exact ⟨x0, x1, x2, x3, rfl⟩)
 refine ⟨_, rfl, Ae.post_below (pa := p) (pv := []) hW' (by simp) hg (fun _ _ _ => (trodAll_cons_mk (shut_bool Tryz.underlying4 _) trodAll_mk0)) (fun sp hs => ?_) (fun _ _ => rfl) (ok_one (by kernel_rfl) rfl (okWide_bool_mk Tryz.underlying4 _))⟩
 exact Ae.args_stay (fun t ht => ⟨8, List.all_eq_true.1 plain t ht⟩) hA hg.block (fun y hy => hW'.lt y hy) hs
theorem over : Rows.historyMadeRow.holds Tryz.pinned (OpenSpec.ofChange Rows.historyMadeSpec) :=
 OpenClaim.holds_of_wide 3 Tryz.f3 rfl rfl rfl rfl rfl rfl rfl ⟨rfl, rfl, rfl, rfl, rfl⟩ rfl rfl rfl rfl rfl (by kernel_rfl) Tryz.func3 (by kernel_rfl)
  (of_decide_eq_true (by kernel_rfl)) (by unfold Func.isWrapper; first | (rw [if_pos (by decide +kernel)]; kernel_rfl) | (rw [if_neg (by decide +kernel)]; exact ⟨rfl, rfl⟩))
  (fun os started H enc _ => lifted os started H enc)
theorem proved : Rows.HistoryMadeSaid :=
 over
#print axioms proved
end Go.Proofs.YtaljafbgbfmcbaaGreat.historyMade
