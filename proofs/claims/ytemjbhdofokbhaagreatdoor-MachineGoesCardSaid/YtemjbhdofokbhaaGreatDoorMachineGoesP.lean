/- 'quietus/quietuslaw28.MachineGoes' returns true for every argument, with the variables that its row lists tied to the program's text; the arguments read as they did. No condition. -/
import Derived.Test.YtemjbhdofokbhaaGreatDoorRows
import Derived.Test.YtemjbhdofokbhaaGreatDoorCards
import Derived.Test.YtemjbhdofokbhaaGreatDoorTie
import Derived.WalkKit
import Derived.ProofKit
import Derived.LaidMore
import Derived.OpenShut
import Derived.Stop.Joined
import Derived.SevenTiedAt
import Derived.KernelRfl
import Derived.Test.YtemjbhdofokbhaaGreatDoorMachineGoesRun
import Derived.Test.YtemjbhdofokbhaaGreatDoorMachineGoesM8
namespace Go.Proofs.YtemjbhdofokbhaaGreatDoor.machineGoes
open Go.ChangeShapes Go.WideShapes Go.ChangeAt Go.RowKit
theorem own : ownKnob Tryz.prog.godebug = none := by kernel_rfl
theorem plain : Tryz.f3.params.toList.all (Ae.plainT Tryz.prog 8) = true := by kernel_rfl
theorem noStand : Tryz.f3.params.toList.all (fun t => !Tryz.prog.wantsStandIn t) = true := by kernel_rfl
noncomputable def zeros : Array Value := Tryz.f3.params.map fun t => ((Tryz.prog.info? t).bind (·.zero)).getD (.int .i64 0)
def laid {H : Type} : List (String × DataW H) := [("math/bits.deBruijn32tab", Rows.laid_math_bits_deBruijn32tab), ("math/bits.deBruijn64tab", Rows.laid_math_bits_deBruijn64tab), ("internal/strconv.uint64pow10", Rows.laid_internal_strconv_uint64pow10)]
theorem door_met (os : Os) (args : Array Value) : laidMetH Tryz.prog laid ((World.doorLaid Tryz.prog 4000 os).forCall (fun _ _ => 0) ⟨#[], args, []⟩).memory :=
 laidMetH_of_parts3 (fuel := 8) (laidMet_of_run' 8 (by kernel_rfl) (by kernel_rfl)) (by kernel_rfl) (by kernel_rfl)
def tabAt (P : Program) (name : String) (k : IntKind) : Bool :=
 match P.globalNamed name with
 | none => false
 | some g => match (P.globals[g]?).map (·.type) with
  | none => false
  | some t => match P.underlying t with
   | some (.array n e) => (match P.underlying e with
    | some (.int k') => decide (k' = k) && decide (P.cellsOf e = 1) && decide (P.cellsOf t = n)
    | _ => false)
   | _ => false
theorem tab_met {P : Program} {w : World} {name : String} {k : IntKind} {zs : List Int} (h : tabAt P name k = true) (hL : laidMet P [(name, Lib.tabData k zs)] w) : ∃ g, P.globalNamed name = some g ∧ Lib.TabIs P w name k zs := by
 unfold tabAt at h
 split at h
 ·cases h
 rename_i g hg
 split at h
 ·cases h
 rename_i t ht
 split at h
 rotate_left
 ·cases h
 rename_i n e hu
 split at h
 rotate_left
 ·cases h
 rename_i k' he
 simp only [Bool.and_eq_true, decide_eq_true_eq] at h
 obtain ⟨⟨rfl, h2⟩, h3⟩ := h
 exact ⟨g, hg, Lib.tabIs_of_head hg ht hu he h2 h3 hL⟩
theorem glob {W : World} (h : laidMetH Tryz.prog laid W) : Ae.Gl Tryz.prog W := by
 have h1 := (laidMetH_iff.1 (h.filter (fun x => x.1 == "internal/strconv.uint64pow10"))).1
 rw [show ((laid (H := Unit)).filter (fun x => x.1 == "internal/strconv.uint64pow10")).filter (fun x => x.2.handleName?.isNone) = [("internal/strconv.uint64pow10", Lib.tabData .u64 Lib.pow10Tab)] by kernel_rfl] at h1
 intro p hp
 rw [show Ae.gtab = [("internal/strconv.uint64pow10", IntKind.u64, Lib.pow10Tab)] from rfl, List.mem_singleton] at hp
 subst hp
 exact tab_met (by kernel_rfl) h1
set_option maxRecDepth 100000 in
theorem lifted (os : Os) (started : os.Started) (H : Type) (enc : TypeId × Value → H) :
  ReturnsInHanded {} Tryz.checked os 3 .any (fun w args => (Rows.machineGoesSpec.pre enc Tryz.prog Tryz.f3 [] false w args ∧ laidMetH Tryz.prog laid w) ∧ sizedMet enc Tryz.prog Tryz.f3 (OpenSpec.ofChange Rows.machineGoesSpec) false w args)
   (Rows.machineGoesSpec.post enc Tryz.prog Tryz.f3 false true false false) := by
 refine returnsInHanded_of_change_and (C := Tryz.checked) (X := fun w _ => laidMetH Tryz.prog laid w) (fun _ _ _ hh h => h.of_heap hh) own started (by kernel_rfl) Tryz.func3
  (ChangeSpec.witness_shaped (enc := enc) (C := Tryz.checked) (os := os) (X := fun w _ => laidMetH Tryz.prog laid w) false (World.doorLaid Tryz.prog 4000 os) zeros 8 rfl (World.shaped_of_RefB (by kernel_rfl) (by kernel_rfl)) (by kernel_rfl) (by kernel_rfl) (by kernel_rfl) (door_met os _)) ?_
 intro W base args ds gs before hval hW x1 x2 x3 x4
 have hGl : Ae.Gl Tryz.prog W := by first | exact glob x1 | exact glob x2 | exact glob x3 | exact glob x4 | exact glob x1.1 | exact glob x1.2 | exact glob x2.1 | exact glob x2.2
 have hW' := hW
 obtain ⟨p, q, hA, hV, rfl, hfz, hnd⟩ := hW
 obtain ⟨rfl, rfl⟩ := trodVars_none hV
 obtain ⟨h, M⟩ := Ae.mirror W
 obtain ⟨a1, a2, a3, a4⟩ := Ae.args_ok (d := 8) M plain (fun j t v h1 h2 => hval j t v (by simpa using h1) (by simpa using h2)) hA
 simp only [List.append_nil] at hW'
 have hr := callsIn_wide.1 (Ae.open_law mixed table (z := 4) rfl runs (f := 3) rfl (k := 60) M hGl a2 (told a3) 0)
 rw [a1] at hr
 refine hr.mono fun e W' ⟨he, hg⟩ => ?_
 subst he
 obtain ⟨d0, d1, d2, d3, rfl⟩ : ∃ d0 d1 d2 d3, ds = [d0, d1, d2, d3] := (by match ds, a4 with | [x0, x1, x2, x3], _ => exact ⟨x0, x1, x2, x3, rfl⟩)
 refine ⟨_, rfl, Ae.post_below (pa := p) (pv := []) hW' (by simp) hg (fun _ _ _ => (trodAll_cons_mk (shut_bool Tryz.underlying4 _) trodAll_mk0)) (fun sp hs => ?_) (fun _ _ => rfl) (ok_one (by kernel_rfl) rfl (okWide_bool_mk Tryz.underlying4 _))⟩
 exact Ae.args_stay (fun t ht => ⟨8, List.all_eq_true.1 plain t ht⟩) hA hg.block (fun y hy => hW'.lt y hy) hs
theorem j0 : (Rows.machineGoesRow.wf (OpenSpec.ofChange Rows.machineGoesSpec)) = true := by kernel_rfl
theorem j1 : (laidOutB Tryz.pinned.checked.prog) = true := by kernel_rfl
theorem j2 : (mapsRowed Tryz.pinned.checked.prog) = true := by kernel_rfl
theorem j3 : (Tryz.f3.params.all (Tryz.pinned.checked.prog.readableRec ·)) = true := by kernel_rfl
theorem j4 : (namedTie Tryz.pinned.checked.prog Rows.machineGoesRow.named Rows.machineGoesSpec.vars) = true := by kernel_rfl
theorem j5 : ((Rows.machineGoesRow.stops == [])) = true := by kernel_rfl
theorem j6 : ((Tryz.pinned.checked.prog.stops == [])) = true := by kernel_rfl
theorem j7 : ((Rows.machineGoesRow.knobs == [])) = true := by kernel_rfl
theorem j8 : ((Tryz.pinned.checked.prog.stopKnobs == [])) = true := by kernel_rfl
theorem j9 : ((Rows.machineGoesRow.inPlace == Tryz.pinned.checked.prog.inPlace 3)) = true := by kernel_rfl
theorem j10 : ((Rows.machineGoesRow.unfollowed == Tryz.pinned.checked.prog.unfollowed 3)) = true := by kernel_rfl
theorem j11 : ((Rows.machineGoesRow.recurses == Tryz.pinned.checked.prog.recurses 3)) = true := by kernel_rfl
theorem j12 : ((Rows.machineGoesRow.named == Tryz.pinned.checked.prog.varsNamed 3)) = true := by kernel_rfl
theorem j13 : ((Rows.machineGoesRow.maps == (Tryz.f3.params.toList ++ Rows.machineGoesSpec.plain.varTypes Tryz.pinned.checked.prog).any (Tryz.pinned.checked.prog.mapsRec ·))) = true := by kernel_rfl
theorem j14 : ((Rows.machineGoesRow.ifaces == (Tryz.f3.params.toList ++ Rows.machineGoesSpec.plain.varTypes Tryz.pinned.checked.prog).any (Tryz.pinned.checked.prog.ifacesRec ·))) = true := by kernel_rfl
theorem j15 : ((Rows.machineGoesRow.mapsOut == Tryz.pinned.checked.prog.mapsAmong Tryz.f3.resultTypes.toList)) = true := by kernel_rfl
theorem j16 : ((Rows.machineGoesRow.loops == (Tryz.f3.params.toList ++ Rows.machineGoesSpec.plain.varTypes Tryz.pinned.checked.prog).any (Tryz.pinned.checked.prog.loopsFrom ·))) = true := by kernel_rfl
theorem j17 : ((Rows.machineGoesRow.wideKeys == (Tryz.f3.params.toList ++ Rows.machineGoesSpec.plain.varTypes Tryz.pinned.checked.prog ++ Tryz.f3.resultTypes.toList).any (Tryz.pinned.checked.prog.wideKeysFrom ·))) = true := by kernel_rfl
theorem j18 : (Rows.machineGoesSpec.vars.all (Tryz.pinned.checked.prog.varReadable ·)) = true := by kernel_rfl
theorem j19 : (Tryz.f3.resultTypes.all (fun t => Tryz.pinned.checked.prog.readableRec t && decide (t < Tryz.pinned.checked.prog.types.size))) = true := by kernel_rfl
theorem j20 : ((Rows.machineGoesRow.ifacesOut == Tryz.f3.resultTypes.toList.any (Tryz.pinned.checked.prog.ifacesRec ·))) = true := by kernel_rfl
theorem j21 : ((Rows.machineGoesRow.loopsOut == Tryz.f3.resultTypes.toList.any (Tryz.pinned.checked.prog.loopsFrom ·))) = true := by kernel_rfl
theorem j22 : ((Rows.machineGoesRow.plainKeys == Tryz.pinned.checked.prog.plainKeys)) = true := by kernel_rfl
theorem j23 : (Rows.machineGoesRow.shortTexts.isNone) = true := by kernel_rfl
theorem j24 : (Tryz.pinned.checked.prog.stopsHeard) = true := by kernel_rfl
theorem j25 : (Tryz.pinned.checked.prog.mayEnter) = true := by kernel_rfl
theorem j26 : ((Rows.machineGoesRow.lifted == Tryz.pinned.checked.prog.liftsFinal)) = true := by kernel_rfl
theorem j27 : ((Tryz.pinned.checked.prog.make == some Rows.machineGoesRow.make)) = true := by kernel_rfl
theorem j28 : ((Rows.machineGoesRow.kinds == (if Rows.machineGoesRow.domain.isEmpty then [] else Tryz.f3.params.toList.map fun t => match Tryz.pinned.checked.prog.underlying t with | some (.int k) => some k | _ => none))) = true := by kernel_rfl
theorem j29 : ((Rows.machineGoesRow.pinned == Rows.machineGoesRow.pinnedBy)) = true := by kernel_rfl
theorem j30 : ((Rows.machineGoesRow.veiled == (Tryz.f3.params.toList ++ Rows.machineGoesSpec.plain.varTypes Tryz.pinned.checked.prog ++ Tryz.f3.resultTypes.toList).any (Tryz.pinned.checked.prog.veiledRec ·))) = true := by kernel_rfl
theorem j31 : (Rows.machineGoesRow.veiledFits Tryz.pinned.checked.prog Tryz.f3.params.toList (Tryz.f3.params.toList ++ Rows.machineGoesSpec.plain.varTypes Tryz.pinned.checked.prog ++ Tryz.f3.resultTypes.toList)) = true := by kernel_rfl
theorem band {a b : Bool} (ha : a = true) (hb : b = true) : (a && b) = true := by rw [ha, hb]; rfl
set_option maxRecDepth 100000 in
theorem closedAll : joinedFacts Tryz.pinned.checked.prog 3 Tryz.f3 Rows.machineGoesSpec Rows.machineGoesRow = true := by
 unfold joinedFacts
 exact (band (band (band (band (band (band (band (band (band (band (band (band (band (band (band (band (band (band (band (band (band (band (band (band (band (band (band (band (band (band (band j0 j1) j2) j3) j4) j5) j6) j7) j8) j9) j10) j11) j12) j13) j14) j15) j16) j17) j18) j19) j20) j21) j22) j23) j24) j25) j26) j27) j28) j29) j30) j31)
theorem hfn : Tryz.pinned.checked.prog.funcNamed Rows.machineGoesRow.func = some 3 := by kernel_rfl
theorem hinst : Tryz.f3.isInstance Tryz.pinned.checked.prog Rows.machineGoesRow.origin Rows.machineGoesRow.targs := of_decide_eq_true (by kernel_rfl)
theorem hwrap : Tryz.f3.isWrapper Tryz.pinned.checked.prog Rows.machineGoesRow.wrapper Rows.machineGoesRow.mainSum := by unfold Func.isWrapper; first | (rw [if_pos (by decide +kernel)]; kernel_rfl) | (rw [if_neg (by decide +kernel)]; exact ⟨rfl, rfl⟩)
theorem over : Rows.MachineGoesSaid :=
 OpenClaim.holds_of_wide 3 Tryz.f3 rfl rfl rfl rfl rfl rfl rfl ⟨rfl, rfl, rfl, rfl, rfl⟩ rfl rfl rfl rfl rfl hfn Tryz.func3 closedAll hinst hwrap
  (fun os started H enc _ => lifted os started H enc)
theorem q0 : Rows.machineGoesRow.wfByText (OpenSpec.ofChange Rows.machineGoesSpec) = true := by kernel_rfl
theorem q1 : Tryz.pinned.checked.prog.mainIs = some (true, "cb0bda7cab497eeccdbe7c05b5f66ae2254a19dd1e970dcd0f2600f220113ba0".toList) := by kernel_rfl
theorem q2 : true = Tryz.pinned.checked.prog.looks [] := by kernel_rfl
theorem goes_no {P : Program} (h : P.funcs.any Func.goes = false) (f : FuncId) : P.goes f = false := by
 have e : ∀ g : FuncId, (P.funcs[g]?).any Func.goes = false := fun g => by
  cases hg : P.funcs[g]? with
  | none => rfl
  | some x =>
   show x.goes = false
   cases hc : x.goes with
   | false => rfl
   | true => rw [Array.any_eq_true'.2 ⟨x, Array.mem_of_getElem? hg, hc⟩] at h; cases h
 unfold Program.goes
 rw [h, Bool.and_false, Bool.or_false, List.any_eq_false]
 exact fun g _ => by rw [e g]; decide
theorem goesBy_no {P : Program} {c : OpenClaim} (h : P.funcs.any Func.goes = false) (hs : c.start = .entering) : false = c.goesBy P := by
 unfold OpenClaim.goesBy Program.goesAt Program.goesFrom
 rw [hs]
 cases P.funcNamed c.func with
 | none => rfl
 | some f => show false = (P.goes f || false); rw [goes_no h]; rfl
theorem q3a : Tryz.pinned.checked.prog.funcs.any Func.goes = false := by kernel_rfl
theorem q3 : false = Rows.machineGoesRow.goesBy Tryz.pinned.checked.prog := goesBy_no q3a rfl
theorem q4 : Tryz.prog.funcNamed "quietus/quietuslaw28.MachineGoes" = some 3 := by kernel_rfl
theorem proved : Rows.MachineGoesCardSaid :=
 Claim7.holds_tied_plain_at .later [] [.data, .data, .data] true (true, "cb0bda7cab497eeccdbe7c05b5f66ae2254a19dd1e970dcd0f2600f220113ba0") true
  over (fun _ h => by cases h) q0 (fun _ h => by cases h) machineGoes_row_tie rfl ⟨rfl, rfl⟩ q1 rfl
  (fun f fn hf hfn => by
   obtain rfl : f = 3 := Option.some.inj (q4.symm.trans hf) |>.symm
   obtain rfl : fn = Tryz.f3 := (Option.some.inj (Tryz.func3.symm.trans hfn)).symm
   exact ⟨q2, fun j t ht => by
    have := List.all_eq_true.1 noStand t (by simpa using Array.mem_of_getElem? ht)
    exact (show Tryz.prog.wantsStandIn t = false by simpa using this)⟩)
  q3
#print axioms proved
end Go.Proofs.YtemjbhdofokbhaaGreatDoor.machineGoes
