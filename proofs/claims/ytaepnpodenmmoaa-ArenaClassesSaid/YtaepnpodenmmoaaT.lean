/- Printed by a program of mine: the table of the bodies. -/
import Derived.Test.YtaepnpodenmmoaaS0
namespace Go.Proofs.Ytaepnpodenmmoaa
open Go Go.Ae
set_option maxRecDepth 100000
noncomputable section
def tab : BT :=
(.node 47 (.node 17 (.node 12 (.node 4 (.node 3 (.leaf 3 W3)
 (.leaf 4 W4))
 (.node 10 (.leaf 10 W10)
 (.node 11 (.leaf 11 W11)
 (.leaf 12 W12))))
 (.node 14 (.node 13 (.leaf 13 W13)
 (.leaf 14 W14))
 (.node 15 (.leaf 15 W15)
 (.node 16 (.leaf 16 W16)
 (.leaf 17 W17)))))
 (.node 41 (.node 29 (.node 26 (.leaf 26 W26)
 (.leaf 29 W29))
 (.node 39 (.leaf 39 W39)
 (.node 40 (.leaf 40 W40)
 (.leaf 41 W41))))
 (.node 44 (.node 42 (.leaf 42 W42)
 (.node 43 (.leaf 43 W43)
 (.leaf 44 W44)))
 (.node 45 (.leaf 45 W45)
 (.node 46 (.leaf 46 W46)
 (.leaf 47 W47))))))
 (.node 90 (.node 73 (.node 64 (.node 62 (.leaf 62 W62)
 (.leaf 64 W64))
 (.node 66 (.leaf 66 W66)
 (.node 72 (.leaf 72 W72)
 (.leaf 73 W73))))
 (.node 76 (.node 74 (.leaf 74 W74)
 (.node 75 (.leaf 75 W75)
 (.leaf 76 W76)))
 (.node 77 (.leaf 77 W77)
 (.node 78 (.leaf 78 W78)
 (.leaf 90 W90)))))
 (.node 96 (.node 93 (.node 92 (.leaf 92 W92)
 (.leaf 93 W93))
 (.node 94 (.leaf 94 W94)
 (.node 95 (.leaf 95 W95)
 (.leaf 96 W96))))
 (.node 101 (.node 97 (.leaf 97 W97)
 (.node 100 (.leaf 100 W100)
 (.leaf 101 W101)))
 (.node 103 (.leaf 103 W103)
 (.node 104 (.leaf 104 W104)
 (.leaf 105 W105)))))))
def rtab : List RT :=
  ⟨72, [1, 0, 1, 0], [5, 4, 3], V0⟩ ::
  []
theorem tab_ok : tab.all (WOk Try.prog) :=
⟨⟨⟨⟨⟨W3_ok, W4_ok⟩, ⟨W10_ok, ⟨W11_ok, W12_ok⟩⟩⟩, ⟨⟨W13_ok, W14_ok⟩, ⟨W15_ok, ⟨W16_ok, W17_ok⟩⟩⟩⟩, ⟨⟨⟨W26_ok, W29_ok⟩, ⟨W39_ok, ⟨W40_ok, W41_ok⟩⟩⟩, ⟨⟨W42_ok, ⟨W43_ok, W44_ok⟩⟩, ⟨W45_ok, ⟨W46_ok, W47_ok⟩⟩⟩⟩⟩, ⟨⟨⟨⟨W62_ok, W64_ok⟩, ⟨W66_ok, ⟨W72_ok, W73_ok⟩⟩⟩, ⟨⟨W74_ok, ⟨W75_ok, W76_ok⟩⟩, ⟨W77_ok, ⟨W78_ok, W90_ok⟩⟩⟩⟩, ⟨⟨⟨W92_ok, W93_ok⟩, ⟨W94_ok, ⟨W95_ok, W96_ok⟩⟩⟩, ⟨⟨W97_ok, ⟨W100_ok, W101_ok⟩⟩, ⟨W103_ok, ⟨W104_ok, W105_ok⟩⟩⟩⟩⟩⟩
theorem rtab_ok : ∀ p ∈ rtab, VOk Try.prog p.f p.pos p.L p.run :=
  List.forall_mem_cons.2 ⟨V0_ok, fun _ h => (List.not_mem_nil h).elim⟩
end
end Go.Proofs.Ytaepnpodenmmoaa
