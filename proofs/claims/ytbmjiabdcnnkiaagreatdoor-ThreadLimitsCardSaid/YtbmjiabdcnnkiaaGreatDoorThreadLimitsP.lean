/- 'quietus/quietuslaw27.ThreadLimits' returns true for every argument, with the variables that its row lists tied to the program's text; the arguments read as they did. No condition. -/
import Derived.Test.YtbmjiabdcnnkiaaGreatDoorRows
import Derived.Test.YtbmjiabdcnnkiaaGreatDoorCards
import Derived.Test.YtbmjiabdcnnkiaaGreatDoorTie
import Derived.WalkKit
import Derived.ProofKit
import Derived.LaidMore
import Derived.OpenShut
import Derived.Stop.Joined
import Derived.SevenTiedAt
import Derived.KernelRfl
import Derived.Test.YtbmjiabdcnnkiaaGreatDoorRun
import Derived.Test.YtbmjiabdcnnkiaaGreatDoorThreadLimits
namespace Go.Proofs.YtbmjiabdcnnkiaaGreatDoor.threadLimits
open Go.ChangeShapes Go.WideShapes Go.ChangeAt Go.RowKit

theorem own : ownKnob Tryz.prog.godebug = none := by kernel_rfl
theorem plain : Tryz.f4.params.toList.all (Ae.plainT Tryz.prog 8) = true := by kernel_rfl
theorem noStand : Tryz.f4.params.toList.all (fun t => !Tryz.prog.wantsStandIn t) = true := by kernel_rfl
noncomputable def zeros : Array Value := Tryz.f4.params.map fun t => ((Tryz.prog.info? t).bind (·.zero)).getD (.int .i64 0)

def laid {H : Type} : List (String × DataW H) := [("math/bits.deBruijn32tab", Rows.laid_math_bits_deBruijn32tab), ("math/bits.deBruijn64tab", Rows.laid_math_bits_deBruijn64tab), ("internal/strconv.uint64pow10", Rows.laid_internal_strconv_uint64pow10)]

/-- The door's own heap meets the condition. -/
theorem door_met (os : Os) (args : Array Value) : laidMetH Tryz.prog laid ((World.doorLaid Tryz.prog 4000 os).forCall (fun _ _ => 0) ⟨#[], args, []⟩).memory :=
  laidMetH_of_parts3 (fuel := 8) (laidMet_of_run' 8 (by kernel_rfl) (by kernel_rfl)) (by kernel_rfl) (by kernel_rfl)

set_option maxRecDepth 100000 in
theorem lifted (os : Os) (started : os.Started) (H : Type) (enc : TypeId × Value → H) :
    ReturnsInHanded {} Tryz.checked os 4 .any (fun w args => (Rows.threadLimitsSpec.pre enc Tryz.prog Tryz.f4 [] false w args ∧ laidMetH Tryz.prog laid w) ∧ sizedMet enc Tryz.prog Tryz.f4 (OpenSpec.ofChange Rows.threadLimitsSpec) false w args)
      (Rows.threadLimitsSpec.post enc Tryz.prog Tryz.f4 false true false false) := by
  refine returnsInHanded_of_change_and (C := Tryz.checked) (X := fun w _ => laidMetH Tryz.prog laid w) (fun _ _ _ hh h => h.of_heap hh) own started (by kernel_rfl) Tryz.func4
    (ChangeSpec.witness_shaped (enc := enc) (C := Tryz.checked) (os := os) (X := fun w _ => laidMetH Tryz.prog laid w) false (World.doorLaid Tryz.prog 4000 os) zeros 8 rfl (World.shaped_of_RefB (by kernel_rfl) (by kernel_rfl)) (by kernel_rfl) (by kernel_rfl) (by kernel_rfl) (door_met os _)) ?_
  intro W base args ds gs before hval hW x1 x2 x3 x4
  have hGl : Ae.Gl Tryz.prog W := Ae.gl_none rfl
  have hW' := hW
  obtain ⟨p, q, hA, hV, rfl, hfz, hnd⟩ := hW
  obtain ⟨rfl, rfl⟩ := trodVars_none hV
  obtain ⟨h, M⟩ := Ae.mirror W
  obtain ⟨a1, a2, a3, a4⟩ := Ae.args_ok (d := 8) M plain (fun j t v h1 h2 => hval j t v (by simpa using h1) (by simpa using h2)) hA
  simp only [List.append_nil] at hW'
  have hr := callsIn_wide.1 (Ae.open_lawN mixed table (z := 3) rfl runs (f := 4) rfl (k := 60) hGl (told a3).1 (told a3).2 0)
  rw [a1] at hr
  refine hr.mono fun e W' ⟨he, hg⟩ => ?_
  subst he
  obtain ⟨d0, d1, rfl⟩ : ∃ d0 d1, ds = [d0, d1] := (by match ds, a4 with | [x0, x1], _ => exact ⟨x0, x1, rfl⟩)
  refine ⟨_, rfl, Ae.post_below (pa := p) (pv := []) hW' (by simp) hg (fun _ _ _ => (trodAll_cons_mk (shut_bool Tryz.underlying4 _) trodAll_mk0)) (fun sp hs => ?_) (fun _ _ => rfl) (ok_one (by kernel_rfl) rfl (okWide_bool_mk Tryz.underlying4 _))⟩
  exact Ae.args_stay (fun t ht => ⟨8, List.all_eq_true.1 plain t ht⟩) hA hg.block (fun y hy => hW'.lt y hy) hs

theorem j0 : (Rows.threadLimitsRow.wf (OpenSpec.ofChange Rows.threadLimitsSpec)) = true := by kernel_rfl
theorem j1 : (laidOutB Tryz.pinned.checked.prog) = true := by kernel_rfl
theorem j2 : (mapsRowed Tryz.pinned.checked.prog) = true := by kernel_rfl
theorem j3 : (Tryz.f4.params.all (Tryz.pinned.checked.prog.readableRec ·)) = true := by kernel_rfl
theorem j4 : (namedTie Tryz.pinned.checked.prog Rows.threadLimitsRow.named Rows.threadLimitsSpec.vars) = true := by kernel_rfl
theorem j5 : ((Rows.threadLimitsRow.stops == [])) = true := by kernel_rfl
theorem j6 : ((Tryz.pinned.checked.prog.stops == [])) = true := by kernel_rfl
theorem j7 : ((Rows.threadLimitsRow.knobs == [])) = true := by kernel_rfl
theorem j8 : ((Tryz.pinned.checked.prog.stopKnobs == [])) = true := by kernel_rfl
theorem j9 : ((Rows.threadLimitsRow.inPlace == Tryz.pinned.checked.prog.inPlace 4)) = true := by kernel_rfl
theorem j10 : ((Rows.threadLimitsRow.unfollowed == Tryz.pinned.checked.prog.unfollowed 4)) = true := by kernel_rfl
theorem j11 : ((Rows.threadLimitsRow.recurses == Tryz.pinned.checked.prog.recurses 4)) = true := by kernel_rfl
theorem j12 : ((Rows.threadLimitsRow.named == Tryz.pinned.checked.prog.varsNamed 4)) = true := by kernel_rfl
theorem j13 : ((Rows.threadLimitsRow.maps == (Tryz.f4.params.toList ++ Rows.threadLimitsSpec.plain.varTypes Tryz.pinned.checked.prog).any (Tryz.pinned.checked.prog.mapsRec ·))) = true := by kernel_rfl
theorem j14 : ((Rows.threadLimitsRow.ifaces == (Tryz.f4.params.toList ++ Rows.threadLimitsSpec.plain.varTypes Tryz.pinned.checked.prog).any (Tryz.pinned.checked.prog.ifacesRec ·))) = true := by kernel_rfl
theorem j15 : ((Rows.threadLimitsRow.mapsOut == Tryz.pinned.checked.prog.mapsAmong Tryz.f4.resultTypes.toList)) = true := by kernel_rfl
theorem j16 : ((Rows.threadLimitsRow.loops == (Tryz.f4.params.toList ++ Rows.threadLimitsSpec.plain.varTypes Tryz.pinned.checked.prog).any (Tryz.pinned.checked.prog.loopsFrom ·))) = true := by kernel_rfl
theorem j17 : ((Rows.threadLimitsRow.wideKeys == (Tryz.f4.params.toList ++ Rows.threadLimitsSpec.plain.varTypes Tryz.pinned.checked.prog ++ Tryz.f4.resultTypes.toList).any (Tryz.pinned.checked.prog.wideKeysFrom ·))) = true := by kernel_rfl
theorem j18 : (Rows.threadLimitsSpec.vars.all (Tryz.pinned.checked.prog.varReadable ·)) = true := by kernel_rfl
theorem j19 : (Tryz.f4.resultTypes.all (fun t => Tryz.pinned.checked.prog.readableRec t && decide (t < Tryz.pinned.checked.prog.types.size))) = true := by kernel_rfl
theorem j20 : ((Rows.threadLimitsRow.ifacesOut == Tryz.f4.resultTypes.toList.any (Tryz.pinned.checked.prog.ifacesRec ·))) = true := by kernel_rfl
theorem j21 : ((Rows.threadLimitsRow.loopsOut == Tryz.f4.resultTypes.toList.any (Tryz.pinned.checked.prog.loopsFrom ·))) = true := by kernel_rfl
theorem j22 : ((Rows.threadLimitsRow.plainKeys == Tryz.pinned.checked.prog.plainKeys)) = true := by kernel_rfl
theorem j23 : (Rows.threadLimitsRow.shortTexts.isNone) = true := by kernel_rfl
theorem j24 : (Tryz.pinned.checked.prog.stopsHeard) = true := by kernel_rfl
theorem j25 : (Tryz.pinned.checked.prog.mayEnter) = true := by kernel_rfl
theorem j26 : ((Rows.threadLimitsRow.lifted == Tryz.pinned.checked.prog.liftsFinal)) = true := by kernel_rfl
theorem j27 : ((Tryz.pinned.checked.prog.make == some Rows.threadLimitsRow.make)) = true := by kernel_rfl
theorem j28 : ((Rows.threadLimitsRow.kinds == (if Rows.threadLimitsRow.domain.isEmpty then [] else Tryz.f4.params.toList.map fun t => match Tryz.pinned.checked.prog.underlying t with | some (.int k) => some k | _ => none))) = true := by kernel_rfl
theorem j29 : ((Rows.threadLimitsRow.pinned == Rows.threadLimitsRow.pinnedBy)) = true := by kernel_rfl
theorem j30 : ((Rows.threadLimitsRow.veiled == (Tryz.f4.params.toList ++ Rows.threadLimitsSpec.plain.varTypes Tryz.pinned.checked.prog ++ Tryz.f4.resultTypes.toList).any (Tryz.pinned.checked.prog.veiledRec ·))) = true := by kernel_rfl
theorem j31 : (Rows.threadLimitsRow.veiledFits Tryz.pinned.checked.prog Tryz.f4.params.toList (Tryz.f4.params.toList ++ Rows.threadLimitsSpec.plain.varTypes Tryz.pinned.checked.prog ++ Tryz.f4.resultTypes.toList)) = true := by kernel_rfl
theorem band {a b : Bool} (ha : a = true) (hb : b = true) : (a && b) = true := by rw [ha, hb]; rfl
set_option maxRecDepth 100000 in
theorem closedAll : joinedFacts Tryz.pinned.checked.prog 4 Tryz.f4 Rows.threadLimitsSpec Rows.threadLimitsRow = true := by
  unfold joinedFacts
  exact (band (band (band (band (band (band (band (band (band (band (band (band (band (band (band (band (band (band (band (band (band (band (band (band (band (band (band (band (band (band (band j0 j1) j2) j3) j4) j5) j6) j7) j8) j9) j10) j11) j12) j13) j14) j15) j16) j17) j18) j19) j20) j21) j22) j23) j24) j25) j26) j27) j28) j29) j30) j31)
theorem hfn : Tryz.pinned.checked.prog.funcNamed Rows.threadLimitsRow.func = some 4 := by kernel_rfl
theorem hinst : Tryz.f4.isInstance Tryz.pinned.checked.prog Rows.threadLimitsRow.origin Rows.threadLimitsRow.targs := of_decide_eq_true (by kernel_rfl)
theorem hwrap : Tryz.f4.isWrapper Tryz.pinned.checked.prog Rows.threadLimitsRow.wrapper Rows.threadLimitsRow.mainSum := by unfold Func.isWrapper; first | (rw [if_pos (by decide +kernel)]; kernel_rfl) | (rw [if_neg (by decide +kernel)]; exact ⟨rfl, rfl⟩)

theorem over : Rows.ThreadLimitsSaid :=
  OpenClaim.holds_of_wide 4 Tryz.f4 rfl rfl rfl rfl rfl rfl rfl ⟨rfl, rfl, rfl, rfl, rfl⟩ rfl rfl rfl rfl rfl hfn Tryz.func4 closedAll hinst hwrap
    (fun os started H enc _ => lifted os started H enc)

theorem proved : Rows.ThreadLimitsCardSaid :=
  Claim7.holds_tied_plain_at .later [] [.data, .data, .data] true (true, "84e27cfec7db4197fd8f3556fa6ad2d89dd7e9c6e5594ac7d611993eaf26ed48") true
    over (fun _ h => by cases h) (by kernel_rfl) (fun _ h => by cases h) threadLimits_row_tie rfl ⟨rfl, rfl⟩ (by kernel_rfl) rfl
    (fun f fn hf hfn => by
      obtain rfl : f = 4 := Option.some.inj ((show Tryz.prog.funcNamed "quietus/quietuslaw27.ThreadLimits" = some 4 by kernel_rfl).symm.trans hf) |>.symm
      obtain rfl : fn = Tryz.f4 := (Option.some.inj (Tryz.func4.symm.trans hfn)).symm
      exact ⟨by kernel_rfl, fun j t ht => by
        have := List.all_eq_true.1 noStand t (by simpa using Array.mem_of_getElem? ht)
        exact (show Tryz.prog.wantsStandIn t = false by simpa using this)⟩)
    (by kernel_rfl)
#print axioms proved
end Go.Proofs.YtbmjiabdcnnkiaaGreatDoor.threadLimits
