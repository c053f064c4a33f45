/- 'quietus/quietuslaw22.ModelTells' returns true for every argument, with the variables that its row lists tied to the program's text; the arguments read as they did. No condition. -/
import Derived.Test.YtdlfmpmpmkffjaaGreatDoorRows
import Derived.Test.YtdlfmpmpmkffjaaGreatDoorCards
import Derived.Test.YtdlfmpmpmkffjaaGreatDoorTie
import Derived.WalkKit
import Derived.ProofKit
import Derived.LaidMore
import Derived.OpenShut
import Derived.Stop.Joined
import Derived.SevenTiedAt
import Derived.KernelRfl
import Derived.Test.YtdlfmpmpmkffjaaGreatDoorModelTellsRun
import Derived.Test.YtdlfmpmpmkffjaaGreatDoorModelTellsM4
namespace Go.Proofs.YtdlfmpmpmkffjaaGreatDoor.modelTells
open Go.ChangeShapes Go.WideShapes Go.ChangeAt Go.RowKit
theorem own : ownKnob Tryz.prog.godebug = none := by kernel_rfl
theorem plain : Tryz.f9.params.toList.all (Ae.plainT Tryz.prog 8) = true := by kernel_rfl
theorem noStand : Tryz.f9.params.toList.all (fun t => !Tryz.prog.wantsStandIn t) = true := by kernel_rfl
noncomputable def zeros : Array Value := Tryz.f9.params.map fun t => ((Tryz.prog.info? t).bind (·.zero)).getD (.int .i64 0)
def laid {H : Type} : List (String × DataW H) := [("math/bits.deBruijn32tab", Rows.laid_math_bits_deBruijn32tab), ("math/bits.deBruijn64tab", Rows.laid_math_bits_deBruijn64tab), ("internal/strconv.uint64pow10", Rows.laid_internal_strconv_uint64pow10)]
theorem door_met (os : Os) (args : Array Value) : laidMetH Tryz.prog laid ((World.doorLaid Tryz.prog 4000 os).forCall (fun _ _ => 0) ⟨#[], args, []⟩).memory :=
 laidMetH_of_parts3 (fuel := 8) (laidMet_of_run' 8 (by kernel_rfl) (by kernel_rfl)) (by kernel_rfl) (by kernel_rfl)
def tabAt (P : Program) (name : String) (k : IntKind) : Bool :=
 match P.globalNamed name with
 | none => false
 | some g => match (P.globals[g]?).map (·.type) with
  | none => false
  | some t => match P.underlying t with
   | some (.array n e) => (match P.underlying e with
    | some (.int k') => decide (k' = k) && decide (P.cellsOf e = 1) && decide (P.cellsOf t = n)
    | _ => false)
   | _ => false
theorem tab_met {P : Program} {w : World} {name : String} {k : IntKind} {zs : List Int} (h : tabAt P name k = true) (hL : laidMet P [(name, Lib.tabData k zs)] w) : ∃ g, P.globalNamed name = some g ∧ Lib.TabIs P w name k zs := by
 unfold tabAt at h
 split at h
 ·cases h
 rename_i g hg
 split at h
 ·cases h
 rename_i t ht
 split at h
 rotate_left
 ·cases h
 rename_i n e hu
 split at h
 rotate_left
 ·cases h
 rename_i k' he
 simp only [Bool.and_eq_true, decide_eq_true_eq] at h
 obtain ⟨⟨rfl, h2⟩, h3⟩ := h
 exact ⟨g, hg, Lib.tabIs_of_head hg ht hu he h2 h3 hL⟩
theorem glob {W : World} (h : laidMetH Tryz.prog laid W) : Ae.Gl Tryz.prog W := by
 have h1 := (laidMetH_iff.1 (h.filter (fun x => x.1 == "internal/strconv.uint64pow10"))).1
 rw [show ((laid (H := Unit)).filter (fun x => x.1 == "internal/strconv.uint64pow10")).filter (fun x => x.2.handleName?.isNone) = [("internal/strconv.uint64pow10", Lib.tabData .u64 Lib.pow10Tab)] by kernel_rfl] at h1
 intro p hp
 rw [show Ae.gtab = [("internal/strconv.uint64pow10", IntKind.u64, Lib.pow10Tab)] from rfl, List.mem_singleton] at hp
 subst hp
 exact tab_met (by kernel_rfl) h1
set_option maxRecDepth 100000 in
theorem lifted (os : Os) (started : os.Started) (H : Type) (enc : TypeId × Value → H) :
  ReturnsInHanded {} Tryz.checked os 9 .any (fun w args => (Rows.modelTellsSpec.pre enc Tryz.prog Tryz.f9 [] false w args ∧ laidMetH Tryz.prog laid w) ∧ sizedMet enc Tryz.prog Tryz.f9 (OpenSpec.ofChange Rows.modelTellsSpec) false w args)
   (Rows.modelTellsSpec.post enc Tryz.prog Tryz.f9 false true false false) := by
 refine returnsInHanded_of_change_and (C := Tryz.checked) (X := fun w _ => laidMetH Tryz.prog laid w) (fun _ _ _ hh h => h.of_heap hh) own started (by kernel_rfl) Tryz.func9
  (ChangeSpec.witness_shaped (enc := enc) (C := Tryz.checked) (os := os) (X := fun w _ => laidMetH Tryz.prog laid w) false (World.doorLaid Tryz.prog 4000 os) zeros 8 rfl (World.shaped_of_RefB (by kernel_rfl) (by kernel_rfl)) (by kernel_rfl) (by kernel_rfl) (by kernel_rfl) (door_met os _)) ?_
 intro W base args ds gs before hval hW x1 x2 x3 x4
 have hGl : Ae.Gl Tryz.prog W := by first | exact glob x1 | exact glob x2 | exact glob x3 | exact glob x4 | exact glob x1.1 | exact glob x1.2 | exact glob x2.1 | exact glob x2.2
 have hW' := hW
 obtain ⟨p, q, hA, hV, rfl, hfz, hnd⟩ := hW
 obtain ⟨rfl, rfl⟩ := trodVars_none hV
 obtain ⟨h, M⟩ := Ae.mirror W
 obtain ⟨a1, a2, a3, a4⟩ := Ae.args_ok (d := 8) M plain (fun j t v h1 h2 => hval j t v (by simpa using h1) (by simpa using h2)) hA
 simp only [List.append_nil] at hW'
 have hr := callsIn_wide.1 (Ae.open_law mixed table (z := 8) rfl runs (f := 9) rfl (k := 60) M hGl a2 (told a3) 0)
 rw [a1] at hr
 refine hr.mono fun e W' ⟨he, hg⟩ => ?_
 subst he
 obtain ⟨d0, d1, d2, d3, d4, d5, rfl⟩ : ∃ d0 d1 d2 d3 d4 d5, ds = [d0, d1, d2, d3, d4, d5] := (by match ds, a4 with | [x0, x1, x2, x3, x4, x5], _ => exact ⟨x0, x1, x2, x3, x4, x5, rfl⟩)
 refine ⟨_, rfl, Ae.post_below (pa := p) (pv := []) hW' (by simp) hg (fun _ _ _ => (trodAll_cons_mk (shut_bool Tryz.underlying4 _) trodAll_mk0)) (fun sp hs => ?_) (fun _ _ => rfl) (ok_one (by kernel_rfl) rfl (okWide_bool_mk Tryz.underlying4 _))⟩
 exact Ae.args_stay (fun t ht => ⟨8, List.all_eq_true.1 plain t ht⟩) hA hg.block (fun y hy => hW'.lt y hy) hs
theorem over : Rows.ModelTellsSaid :=
 OpenClaim.holds_of_wide 9 Tryz.f9 rfl rfl rfl rfl rfl rfl rfl ⟨rfl, rfl, rfl, rfl, rfl⟩ rfl rfl rfl rfl rfl (by kernel_rfl) Tryz.func9 (by kernel_rfl)
  (of_decide_eq_true (by kernel_rfl)) (by unfold Func.isWrapper; first | (rw [if_pos (by decide +kernel)]; kernel_rfl) | (rw [if_neg (by decide +kernel)]; exact ⟨rfl, rfl⟩))
  (fun os started H enc _ => lifted os started H enc)
theorem proved : Rows.ModelTellsCardSaid :=
 Claim7.holds_tied_plain_at .later [] [.data, .data, .data] true (true, "40a39e4e3aed8dc40a3d5512df2e928f34521468adfcf774f5f6db22c5a4e54b") true
  over (fun _ h => by cases h) (by kernel_rfl) (fun _ h => by cases h) modelTells_row_tie rfl ⟨rfl, rfl⟩ (by kernel_rfl) rfl
  (fun f fn hf hfn => by
   obtain rfl : f = 9 := Option.some.inj ((show Tryz.prog.funcNamed "quietus/quietuslaw22.ModelTells" = some 9 by kernel_rfl).symm.trans hf) |>.symm
   obtain rfl : fn = Tryz.f9 := (Option.some.inj (Tryz.func9.symm.trans hfn)).symm
   exact ⟨by kernel_rfl, fun j t ht => by
    have := List.all_eq_true.1 noStand t (by simpa using Array.mem_of_getElem? ht)
    exact (show Tryz.prog.wantsStandIn t = false by simpa using this)⟩)
  (by kernel_rfl)
#print axioms proved
end Go.Proofs.YtdlfmpmpmkffjaaGreatDoor.modelTells
