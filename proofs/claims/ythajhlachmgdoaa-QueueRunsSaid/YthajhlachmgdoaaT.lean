/- Printed by a program of mine: the table of the bodies. -/
import Derived.Test.YthajhlachmgdoaaS0
namespace Go.Proofs.Ythajhlachmgdoaa
open Go Go.Ae
set_option maxRecDepth 100000
def tab : List (Nat × WF) :=
  (3, W3) ::
  (7, W7) ::
  (8, W8) ::
  (9, W9) ::
  (10, W10) ::
  (11, W11) ::
  (15, W15) ::
  (18, W18) ::
  (20, W20) ::
  (22, W22) ::
  (23, W23) ::
  (24, W24) ::
  (26, W26) ::
  (29, W29) ::
  (30, W30) ::
  (31, W31) ::
  (32, W32) ::
  (33, W33) ::
  (34, W34) ::
  (35, W35) ::
  (36, W36) ::
  (37, W37) ::
  (38, W38) ::
  (39, W39) ::
  (40, W40) ::
  (41, W41) ::
  (48, W48) ::
  (50, W50) ::
  (51, W51) ::
  (53, W53) ::
  (54, W54) ::
  (55, W55) ::
  (59, W59) ::
  (60, W60) ::
  (61, W61) ::
  (62, W62) ::
  (63, W63) ::
  (64, W64) ::
  (65, W65) ::
  (66, W66) ::
  (67, W67) ::
  (75, W75) ::
  (76, W76) ::
  (77, W77) ::
  (78, W78) ::
  (79, W79) ::
  (81, W81) ::
  (82, W82) ::
  (83, W83) ::
  (84, W84) ::
  (85, W85) ::
  (86, W86) ::
  (87, W87) ::
  (88, W88) ::
  (91, W91) ::
  (92, W92) ::
  (93, W93) ::
  (94, W94) ::
  (95, W95) ::
  (96, W96) ::
  (98, W98) ::
  (99, W99) ::
  (102, W102) ::
  (103, W103) ::
  []
def rtab : List RT :=
  ⟨50, [1, 1, 0, 1, 0], [3], V0⟩ ::
  ⟨81, [1, 0, 1, 0], [5, 4, 3], V1⟩ ::
  []
theorem tab_ok : ∀ p ∈ tab, WOk Try.prog p.1 p.2 :=
  List.forall_mem_cons.2 ⟨W3_ok,   List.forall_mem_cons.2 ⟨W7_ok,   List.forall_mem_cons.2 ⟨W8_ok,   List.forall_mem_cons.2 ⟨W9_ok,   List.forall_mem_cons.2 ⟨W10_ok,   List.forall_mem_cons.2 ⟨W11_ok,   List.forall_mem_cons.2 ⟨W15_ok,   List.forall_mem_cons.2 ⟨W18_ok,   List.forall_mem_cons.2 ⟨W20_ok,   List.forall_mem_cons.2 ⟨W22_ok,   List.forall_mem_cons.2 ⟨W23_ok,   List.forall_mem_cons.2 ⟨W24_ok,   List.forall_mem_cons.2 ⟨W26_ok,   List.forall_mem_cons.2 ⟨W29_ok,   List.forall_mem_cons.2 ⟨W30_ok,   List.forall_mem_cons.2 ⟨W31_ok,   List.forall_mem_cons.2 ⟨W32_ok,   List.forall_mem_cons.2 ⟨W33_ok,   List.forall_mem_cons.2 ⟨W34_ok,   List.forall_mem_cons.2 ⟨W35_ok,   List.forall_mem_cons.2 ⟨W36_ok,   List.forall_mem_cons.2 ⟨W37_ok,   List.forall_mem_cons.2 ⟨W38_ok,   List.forall_mem_cons.2 ⟨W39_ok,   List.forall_mem_cons.2 ⟨W40_ok,   List.forall_mem_cons.2 ⟨W41_ok,   List.forall_mem_cons.2 ⟨W48_ok,   List.forall_mem_cons.2 ⟨W50_ok,   List.forall_mem_cons.2 ⟨W51_ok,   List.forall_mem_cons.2 ⟨W53_ok,   List.forall_mem_cons.2 ⟨W54_ok,   List.forall_mem_cons.2 ⟨W55_ok,   List.forall_mem_cons.2 ⟨W59_ok,   List.forall_mem_cons.2 ⟨W60_ok,   List.forall_mem_cons.2 ⟨W61_ok,   List.forall_mem_cons.2 ⟨W62_ok,   List.forall_mem_cons.2 ⟨W63_ok,   List.forall_mem_cons.2 ⟨W64_ok,   List.forall_mem_cons.2 ⟨W65_ok,   List.forall_mem_cons.2 ⟨W66_ok,   List.forall_mem_cons.2 ⟨W67_ok,   List.forall_mem_cons.2 ⟨W75_ok,   List.forall_mem_cons.2 ⟨W76_ok,   List.forall_mem_cons.2 ⟨W77_ok,   List.forall_mem_cons.2 ⟨W78_ok,   List.forall_mem_cons.2 ⟨W79_ok,   List.forall_mem_cons.2 ⟨W81_ok,   List.forall_mem_cons.2 ⟨W82_ok,   List.forall_mem_cons.2 ⟨W83_ok,   List.forall_mem_cons.2 ⟨W84_ok,   List.forall_mem_cons.2 ⟨W85_ok,   List.forall_mem_cons.2 ⟨W86_ok,   List.forall_mem_cons.2 ⟨W87_ok,   List.forall_mem_cons.2 ⟨W88_ok,   List.forall_mem_cons.2 ⟨W91_ok,   List.forall_mem_cons.2 ⟨W92_ok,   List.forall_mem_cons.2 ⟨W93_ok,   List.forall_mem_cons.2 ⟨W94_ok,   List.forall_mem_cons.2 ⟨W95_ok,   List.forall_mem_cons.2 ⟨W96_ok,   List.forall_mem_cons.2 ⟨W98_ok,   List.forall_mem_cons.2 ⟨W99_ok,   List.forall_mem_cons.2 ⟨W102_ok,   List.forall_mem_cons.2 ⟨W103_ok, fun _ h => (List.not_mem_nil h).elim⟩⟩⟩⟩⟩⟩⟩⟩⟩⟩⟩⟩⟩⟩⟩⟩⟩⟩⟩⟩⟩⟩⟩⟩⟩⟩⟩⟩⟩⟩⟩⟩⟩⟩⟩⟩⟩⟩⟩⟩⟩⟩⟩⟩⟩⟩⟩⟩⟩⟩⟩⟩⟩⟩⟩⟩⟩⟩⟩⟩⟩⟩⟩⟩
theorem rtab_ok : ∀ p ∈ rtab, VOk Try.prog p.f p.pos p.L p.run :=
  List.forall_mem_cons.2 ⟨V0_ok,   List.forall_mem_cons.2 ⟨V1_ok, fun _ h => (List.not_mem_nil h).elim⟩⟩
end Go.Proofs.Ythajhlachmgdoaa
