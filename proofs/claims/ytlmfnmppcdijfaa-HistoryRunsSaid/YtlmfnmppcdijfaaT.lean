/- Printed by a program of mine: the table of the bodies. -/
import Derived.Test.YtlmfnmppcdijfaaS0
namespace Go.Proofs.Ytlmfnmppcdijfaa
open Go Go.Ae
set_option maxRecDepth 100000
def tab : List (Nat × WF) :=
  (3, W3) ::
  (6, W6) ::
  (7, W7) ::
  (8, W8) ::
  (9, W9) ::
  (10, W10) ::
  (11, W11) ::
  (14, W14) ::
  (15, W15) ::
  (16, W16) ::
  (17, W17) ::
  (19, W19) ::
  (20, W20) ::
  (21, W21) ::
  (22, W22) ::
  (23, W23) ::
  []
def rtab : List RT :=
  []
theorem tab_ok : ∀ p ∈ tab, WOk Try.prog p.1 p.2 :=
  List.forall_mem_cons.2 ⟨W3_ok,   List.forall_mem_cons.2 ⟨W6_ok,   List.forall_mem_cons.2 ⟨W7_ok,   List.forall_mem_cons.2 ⟨W8_ok,   List.forall_mem_cons.2 ⟨W9_ok,   List.forall_mem_cons.2 ⟨W10_ok,   List.forall_mem_cons.2 ⟨W11_ok,   List.forall_mem_cons.2 ⟨W14_ok,   List.forall_mem_cons.2 ⟨W15_ok,   List.forall_mem_cons.2 ⟨W16_ok,   List.forall_mem_cons.2 ⟨W17_ok,   List.forall_mem_cons.2 ⟨W19_ok,   List.forall_mem_cons.2 ⟨W20_ok,   List.forall_mem_cons.2 ⟨W21_ok,   List.forall_mem_cons.2 ⟨W22_ok,   List.forall_mem_cons.2 ⟨W23_ok, fun _ h => (List.not_mem_nil h).elim⟩⟩⟩⟩⟩⟩⟩⟩⟩⟩⟩⟩⟩⟩⟩⟩
theorem rtab_ok : ∀ p ∈ rtab, VOk Try.prog p.f p.pos p.L p.run :=
fun _ h => (List.not_mem_nil h).elim
end Go.Proofs.Ytlmfnmppcdijfaa
