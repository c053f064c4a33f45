/- Printed by a program of mine: the table of the bodies. -/
import Derived.Test.YtjhjhmfhfneecaaS0
namespace Go.Proofs.Ytjhjhmfhfneecaa
open Go Go.Ae
set_option maxRecDepth 100000
def tab : List (Nat × WF) :=
  (3, W3) ::
  (4, W4) ::
  (5, W5) ::
  (6, W6) ::
  (7, W7) ::
  (8, W8) ::
  (9, W9) ::
  (10, W10) ::
  (11, W11) ::
  (12, W12) ::
  (13, W13) ::
  (14, W14) ::
  (15, W15) ::
  (16, W16) ::
  (17, W17) ::
  (18, W18) ::
  (19, W19) ::
  (20, W20) ::
  (21, W21) ::
  (22, W22) ::
  (23, W23) ::
  (24, W24) ::
  (25, W25) ::
  (26, W26) ::
  (27, W27) ::
  (28, W28) ::
  (29, W29) ::
  (30, W30) ::
  (31, W31) ::
  (32, W32) ::
  (33, W33) ::
  (34, W34) ::
  (35, W35) ::
  (36, W36) ::
  (37, W37) ::
  (38, W38) ::
  (39, W39) ::
  (40, W40) ::
  (41, W41) ::
  (42, W42) ::
  (43, W43) ::
  (44, W44) ::
  (45, W45) ::
  (46, W46) ::
  (47, W47) ::
  (48, W48) ::
  (49, W49) ::
  (50, W50) ::
  (51, W51) ::
  (52, W52) ::
  (53, W53) ::
  (54, W54) ::
  (55, W55) ::
  (56, W56) ::
  (57, W57) ::
  (58, W58) ::
  (59, W59) ::
  (60, W60) ::
  (61, W61) ::
  (62, W62) ::
  (63, W63) ::
  (64, W64) ::
  []
def rtab : List RT :=
  ⟨40, [1, 0, 1, 0], [5, 4, 3], V0⟩ ::
  ⟨42, [1, 1, 0, 1, 0], [3], V1⟩ ::
  []
theorem tab_ok : ∀ p ∈ tab, WOk Try.prog p.1 p.2 :=
  List.forall_mem_cons.2 ⟨W3_ok,   List.forall_mem_cons.2 ⟨W4_ok,   List.forall_mem_cons.2 ⟨W5_ok,   List.forall_mem_cons.2 ⟨W6_ok,   List.forall_mem_cons.2 ⟨W7_ok,   List.forall_mem_cons.2 ⟨W8_ok,   List.forall_mem_cons.2 ⟨W9_ok,   List.forall_mem_cons.2 ⟨W10_ok,   List.forall_mem_cons.2 ⟨W11_ok,   List.forall_mem_cons.2 ⟨W12_ok,   List.forall_mem_cons.2 ⟨W13_ok,   List.forall_mem_cons.2 ⟨W14_ok,   List.forall_mem_cons.2 ⟨W15_ok,   List.forall_mem_cons.2 ⟨W16_ok,   List.forall_mem_cons.2 ⟨W17_ok,   List.forall_mem_cons.2 ⟨W18_ok,   List.forall_mem_cons.2 ⟨W19_ok,   List.forall_mem_cons.2 ⟨W20_ok,   List.forall_mem_cons.2 ⟨W21_ok,   List.forall_mem_cons.2 ⟨W22_ok,   List.forall_mem_cons.2 ⟨W23_ok,   List.forall_mem_cons.2 ⟨W24_ok,   List.forall_mem_cons.2 ⟨W25_ok,   List.forall_mem_cons.2 ⟨W26_ok,   List.forall_mem_cons.2 ⟨W27_ok,   List.forall_mem_cons.2 ⟨W28_ok,   List.forall_mem_cons.2 ⟨W29_ok,   List.forall_mem_cons.2 ⟨W30_ok,   List.forall_mem_cons.2 ⟨W31_ok,   List.forall_mem_cons.2 ⟨W32_ok,   List.forall_mem_cons.2 ⟨W33_ok,   List.forall_mem_cons.2 ⟨W34_ok,   List.forall_mem_cons.2 ⟨W35_ok,   List.forall_mem_cons.2 ⟨W36_ok,   List.forall_mem_cons.2 ⟨W37_ok,   List.forall_mem_cons.2 ⟨W38_ok,   List.forall_mem_cons.2 ⟨W39_ok,   List.forall_mem_cons.2 ⟨W40_ok,   List.forall_mem_cons.2 ⟨W41_ok,   List.forall_mem_cons.2 ⟨W42_ok,   List.forall_mem_cons.2 ⟨W43_ok,   List.forall_mem_cons.2 ⟨W44_ok,   List.forall_mem_cons.2 ⟨W45_ok,   List.forall_mem_cons.2 ⟨W46_ok,   List.forall_mem_cons.2 ⟨W47_ok,   List.forall_mem_cons.2 ⟨W48_ok,   List.forall_mem_cons.2 ⟨W49_ok,   List.forall_mem_cons.2 ⟨W50_ok,   List.forall_mem_cons.2 ⟨W51_ok,   List.forall_mem_cons.2 ⟨W52_ok,   List.forall_mem_cons.2 ⟨W53_ok,   List.forall_mem_cons.2 ⟨W54_ok,   List.forall_mem_cons.2 ⟨W55_ok,   List.forall_mem_cons.2 ⟨W56_ok,   List.forall_mem_cons.2 ⟨W57_ok,   List.forall_mem_cons.2 ⟨W58_ok,   List.forall_mem_cons.2 ⟨W59_ok,   List.forall_mem_cons.2 ⟨W60_ok,   List.forall_mem_cons.2 ⟨W61_ok,   List.forall_mem_cons.2 ⟨W62_ok,   List.forall_mem_cons.2 ⟨W63_ok,   List.forall_mem_cons.2 ⟨W64_ok, fun _ h => (List.not_mem_nil h).elim⟩⟩⟩⟩⟩⟩⟩⟩⟩⟩⟩⟩⟩⟩⟩⟩⟩⟩⟩⟩⟩⟩⟩⟩⟩⟩⟩⟩⟩⟩⟩⟩⟩⟩⟩⟩⟩⟩⟩⟩⟩⟩⟩⟩⟩⟩⟩⟩⟩⟩⟩⟩⟩⟩⟩⟩⟩⟩⟩⟩⟩⟩
theorem rtab_ok : ∀ p ∈ rtab, VOk Try.prog p.f p.pos p.L p.run :=
  List.forall_mem_cons.2 ⟨V0_ok,   List.forall_mem_cons.2 ⟨V1_ok, fun _ h => (List.not_mem_nil h).elim⟩⟩
end Go.Proofs.Ytjhjhmfhfneecaa
