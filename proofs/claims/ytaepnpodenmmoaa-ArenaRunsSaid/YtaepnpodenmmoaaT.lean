/- Printed by a program of mine: the table of the bodies. -/
import Derived.Test.YtaepnpodenmmoaaS0
namespace Go.Proofs.Ytaepnpodenmmoaa
open Go Go.Ae
set_option maxRecDepth 100000
def tab : List (Nat × WF) :=
  (3, W3) ::
  (10, W10) ::
  (11, W11) ::
  (12, W12) ::
  (13, W13) ::
  (14, W14) ::
  (15, W15) ::
  (16, W16) ::
  (17, W17) ::
  (26, W26) ::
  (29, W29) ::
  (39, W39) ::
  (40, W40) ::
  (41, W41) ::
  (42, W42) ::
  (43, W43) ::
  (44, W44) ::
  (45, W45) ::
  (46, W46) ::
  (47, W47) ::
  (62, W62) ::
  (64, W64) ::
  (66, W66) ::
  (72, W72) ::
  (73, W73) ::
  (74, W74) ::
  (75, W75) ::
  (76, W76) ::
  (77, W77) ::
  (78, W78) ::
  (90, W90) ::
  (92, W92) ::
  (93, W93) ::
  (94, W94) ::
  (95, W95) ::
  (96, W96) ::
  (97, W97) ::
  (100, W100) ::
  (101, W101) ::
  (103, W103) ::
  (104, W104) ::
  (105, W105) ::
  []
def rtab : List RT :=
  ⟨72, [1, 0, 1, 0], [5, 4, 3], V0⟩ ::
  []
theorem tab_ok : ∀ p ∈ tab, WOk Try.prog p.1 p.2 :=
  List.forall_mem_cons.2 ⟨W3_ok,   List.forall_mem_cons.2 ⟨W10_ok,   List.forall_mem_cons.2 ⟨W11_ok,   List.forall_mem_cons.2 ⟨W12_ok,   List.forall_mem_cons.2 ⟨W13_ok,   List.forall_mem_cons.2 ⟨W14_ok,   List.forall_mem_cons.2 ⟨W15_ok,   List.forall_mem_cons.2 ⟨W16_ok,   List.forall_mem_cons.2 ⟨W17_ok,   List.forall_mem_cons.2 ⟨W26_ok,   List.forall_mem_cons.2 ⟨W29_ok,   List.forall_mem_cons.2 ⟨W39_ok,   List.forall_mem_cons.2 ⟨W40_ok,   List.forall_mem_cons.2 ⟨W41_ok,   List.forall_mem_cons.2 ⟨W42_ok,   List.forall_mem_cons.2 ⟨W43_ok,   List.forall_mem_cons.2 ⟨W44_ok,   List.forall_mem_cons.2 ⟨W45_ok,   List.forall_mem_cons.2 ⟨W46_ok,   List.forall_mem_cons.2 ⟨W47_ok,   List.forall_mem_cons.2 ⟨W62_ok,   List.forall_mem_cons.2 ⟨W64_ok,   List.forall_mem_cons.2 ⟨W66_ok,   List.forall_mem_cons.2 ⟨W72_ok,   List.forall_mem_cons.2 ⟨W73_ok,   List.forall_mem_cons.2 ⟨W74_ok,   List.forall_mem_cons.2 ⟨W75_ok,   List.forall_mem_cons.2 ⟨W76_ok,   List.forall_mem_cons.2 ⟨W77_ok,   List.forall_mem_cons.2 ⟨W78_ok,   List.forall_mem_cons.2 ⟨W90_ok,   List.forall_mem_cons.2 ⟨W92_ok,   List.forall_mem_cons.2 ⟨W93_ok,   List.forall_mem_cons.2 ⟨W94_ok,   List.forall_mem_cons.2 ⟨W95_ok,   List.forall_mem_cons.2 ⟨W96_ok,   List.forall_mem_cons.2 ⟨W97_ok,   List.forall_mem_cons.2 ⟨W100_ok,   List.forall_mem_cons.2 ⟨W101_ok,   List.forall_mem_cons.2 ⟨W103_ok,   List.forall_mem_cons.2 ⟨W104_ok,   List.forall_mem_cons.2 ⟨W105_ok, fun _ h => (List.not_mem_nil h).elim⟩⟩⟩⟩⟩⟩⟩⟩⟩⟩⟩⟩⟩⟩⟩⟩⟩⟩⟩⟩⟩⟩⟩⟩⟩⟩⟩⟩⟩⟩⟩⟩⟩⟩⟩⟩⟩⟩⟩⟩⟩⟩
theorem rtab_ok : ∀ p ∈ rtab, VOk Try.prog p.f p.pos p.L p.run :=
  List.forall_mem_cons.2 ⟨V0_ok, fun _ h => (List.not_mem_nil h).elim⟩
end Go.Proofs.Ytaepnpodenmmoaa
