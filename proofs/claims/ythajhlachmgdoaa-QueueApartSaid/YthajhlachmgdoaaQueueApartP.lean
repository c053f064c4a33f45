/- 'quietus/quietuslaw19.QueueApart' returns true for every argument; the arguments read as they did. No condition. -/
import Derived.Test.YthajhlachmgdoaaRows
import Derived.WalkKit
import Derived.ProofKit
import Derived.OpenShut
import Derived.KernelRfl
import Derived.Test.YthajhlachmgdoaaRun
import Derived.Test.YthajhlachmgdoaaQueueApart
namespace Go.Proofs.Ythajhlachmgdoaa.queueApart
open Go.ChangeShapes Go.WideShapes Go.ChangeAt Go.RowKit

theorem own : ownKnob Try.prog.godebug = none := by kernel_rfl
theorem plain : Try.f5.params.toList.all (Ae.plainT Try.prog 8) = true := by kernel_rfl
noncomputable def zeros : Array Value := Try.f5.params.map fun t => ((Try.prog.info? t).bind (·.zero)).getD (.int .i64 0)

set_option maxRecDepth 100000 in
theorem lifted (os : Os) (started : os.Started) (H : Type) (enc : TypeId × Value → H) :
    ReturnsInHanded {} Try.checked os 5 .any (Rows.queueApartSpec.pre6 enc Try.prog Try.f5 Rows.queueApartRow.domain false) (Rows.queueApartSpec.post enc Try.prog Try.f5 false true false false) := by
  refine returnsInHanded_of_change (C := Try.checked) own started (by kernel_rfl) Try.func5
    (ChangeSpec.witness6 (enc := enc) (C := Try.checked) false ⟨#[], zeros, []⟩ 8 (by kernel_rfl) (by kernel_rfl) (by kernel_rfl) (by kernel_rfl)) ?_
  intro W base args ds gs before hval hW _ _
  have hW' := hW
  obtain ⟨p, q, hA, hV, rfl, hfz, hnd⟩ := hW
  obtain ⟨rfl, rfl⟩ := trodVars_none hV
  obtain ⟨h, M⟩ := Ae.mirror W
  obtain ⟨a1, a2, a3, a4⟩ := Ae.args_ok (d := 8) M plain (fun j t v h1 h2 => hval j t v (by simpa using h1) (by simpa using h2)) hA
  simp only [List.append_nil] at hW'
  have hr := callsIn_wide.1 (Ae.open_law mixed table (z := 3) rfl runs (f := 5) rfl (k := 60) M a2 (told a3) 0)
  rw [a1] at hr
  refine hr.mono fun e W' ⟨he, hg⟩ => ?_
  subst he
  obtain ⟨d0, d1, d2, rfl⟩ : ∃ d0 d1 d2, ds = [d0, d1, d2] := (by match ds, a4 with | [x0, x1, x2], _ => exact ⟨x0, x1, x2, rfl⟩)
  refine ⟨_, rfl, Ae.post_below (pa := p) (pv := []) hW' (by simp) hg (fun _ _ _ => (trodAll_cons_mk (shut_bool Try.underlying4 _) trodAll_mk0)) (fun sp hs => ?_) (fun _ _ => rfl) (ok_one (by kernel_rfl) rfl (okWide_bool_mk Try.underlying4 _))⟩
  exact Ae.args_stay (fun t ht => ⟨8, List.all_eq_true.1 plain t ht⟩) hA hg.block (fun y hy => hW'.lt y hy) hs

theorem over : Rows.queueApartRow.holds Try.pinned (OpenSpec.ofChange Rows.queueApartSpec) :=
  OpenClaim.holds_of_wide 5 Try.f5 rfl rfl rfl rfl rfl rfl rfl ⟨rfl, rfl, rfl, rfl, rfl⟩ rfl rfl rfl rfl rfl (by kernel_rfl) Try.func5 (by kernel_rfl)
    (of_decide_eq_true (by kernel_rfl)) (by unfold Func.isWrapper; first | (rw [if_pos (by decide +kernel)]; kernel_rfl) | (rw [if_neg (by decide +kernel)]; exact ⟨rfl, rfl⟩))
    (fun os started H enc _ => lifted os started H enc)

theorem proved : Rows.QueueApartSaid :=
  over
#print axioms proved
end Go.Proofs.Ythajhlachmgdoaa.queueApart
