/- Printed by a program of mine: the table of the bodies. -/
import Derived.Test.YtlmfnmppcdijfaaS0
namespace Go.Proofs.Ytlmfnmppcdijfaa
open Go Go.Ae
set_option maxRecDepth 100000
noncomputable section
def tab : BT :=
(.node 12 (.node 7 (.node 4 (.node 3 (.leaf 3 W3)
 (.leaf 4 W4))
 (.node 5 (.leaf 5 W5)
 (.node 6 (.leaf 6 W6)
 (.leaf 7 W7))))
 (.node 9 (.node 8 (.leaf 8 W8)
 (.leaf 9 W9))
 (.node 10 (.leaf 10 W10)
 (.node 11 (.leaf 11 W11)
 (.leaf 12 W12)))))
 (.node 17 (.node 14 (.node 13 (.leaf 13 W13)
 (.leaf 14 W14))
 (.node 15 (.leaf 15 W15)
 (.node 16 (.leaf 16 W16)
 (.leaf 17 W17))))
 (.node 20 (.node 18 (.leaf 18 W18)
 (.node 19 (.leaf 19 W19)
 (.leaf 20 W20)))
 (.node 21 (.leaf 21 W21)
 (.node 22 (.leaf 22 W22)
 (.leaf 23 W23))))))
def rtab : List RT :=
  []
theorem tab_ok : tab.all (WOk Try.prog) :=
⟨⟨⟨⟨W3_ok, W4_ok⟩, ⟨W5_ok, ⟨W6_ok, W7_ok⟩⟩⟩, ⟨⟨W8_ok, W9_ok⟩, ⟨W10_ok, ⟨W11_ok, W12_ok⟩⟩⟩⟩, ⟨⟨⟨W13_ok, W14_ok⟩, ⟨W15_ok, ⟨W16_ok, W17_ok⟩⟩⟩, ⟨⟨W18_ok, ⟨W19_ok, W20_ok⟩⟩, ⟨W21_ok, ⟨W22_ok, W23_ok⟩⟩⟩⟩⟩
theorem rtab_ok : ∀ p ∈ rtab, VOk Try.prog p.f p.pos p.L p.run :=
fun _ h => (List.not_mem_nil h).elim
end
end Go.Proofs.Ytlmfnmppcdijfaa
