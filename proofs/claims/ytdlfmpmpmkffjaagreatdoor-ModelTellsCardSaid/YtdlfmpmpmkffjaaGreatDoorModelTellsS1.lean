/- Printed by a program of mine: the bodies of the program's functions aa terms of the primitives of the abstract executor, each shown equal by the kernel. -/
import Derived.Test.YtdlfmpmpmkffjaaGreatDoorProg
import Derived.Test.YtdlfmpmpmkffjaaGreatDoorModelTellsAe1
import Derived.KernelRfl
namespace Go.Proofs.YtdlfmpmpmkffjaaGreatDoor
open Go Go.Ae
abbrev u9_1 : Type := AV × AV × AV × AV × AV × AV × AV × AV × AV × Unit
set_option maxRecDepth 100000
noncomputable section
attribute [local irreducible] jO xf x9 zd qa JL Qx xj yl ga Qk yh qm ji jX jZ vN kp pEq Ju pUn yB QH Jr K8 ya zS yR xJ gO zr xA wF pMM vB jS j0 gP xO zQ Qc QA wQ Xa QV YQ U8 Xc Xm X5 jf gF kF wT w8 zm yj pIs k7 Gf jB zN kQ AV.undef
set_option maxHeartbeats 40000000
def P142 : Pl := (.n none .z (.n none (.n none (.r [[12, 7, 1, 0], [19, 14, 1, 0]]) .z) .z))
def S142 : tE2 Tryz.prog P142 142 := fun _ _ _ _ => ⟨_, by conv => lhs; reduce; try dsimp only [pLn]⟩
def P143 : Pl := .z
def S143 : tE2 Tryz.prog P143 143 := fun _ _ _ _ => ⟨_, by conv => lhs; reduce; try dsimp only [pLn]⟩
def P144 : Pl := (.n none .z (.n none (.n none (.r [[12, 10, 2, 1, 0]]) .z) (.n none .z (.n none (.n none (.r [[34, 31, 7, 2, 1, 0]]) .z) (.n none (.r [[]]) .z)))))
def S144 : tE3 Tryz.prog P144 144 := fun _ _ _ _ _ => ⟨_, by conv => lhs; reduce; try dsimp only [pLn]⟩
def P145 : Pl := (.n none .z (.n none .z (.n none .z (.n none .z (.n none .z (.n none .z (.n none .z (.n none .z (.n none .z (.n none .z (.n none .z (.n none (.n none (.r [[85, 15, 10, 6, 0]]) .z) .z))))))))))))
def S145 : tE2 Tryz.prog P145 145 := fun _ _ _ _ => ⟨_, by conv => lhs; reduce; try dsimp only [pLn]⟩
def P146 : Pl := .z
def S146 : tE2 Tryz.prog P146 146 := fun _ _ _ _ => ⟨_, by conv => lhs; reduce; try dsimp only [pLn]⟩
def P147 : Pl := .z
def S147 : tE1 Tryz.prog P147 147 := fun _ _ _ => ⟨_, by conv => lhs; reduce; try dsimp only [pLn]⟩
def P148 : Pl := .z
def S148 : tE1 Tryz.prog P148 148 := fun _ _ _ => ⟨_, by conv => lhs; reduce; try dsimp only [pLn]⟩
def P149 : Pl := (.n none (.n none (.n (some [0]) (.n none .z (.n none (.n none .z (.n none .z (.n none .z (.n none .z (.n none .z (.n none (.r [[3, 0]]) .z)))))) .z)) .z) .z) .z)
def S149 : tE1 Tryz.prog P149 149 := fun _ _ _ => ⟨_, by conv => lhs; reduce; try dsimp only [pLn]⟩
def P150 : Pl := (.n none .z (.n none (.n (some [3, 1, 0]) .z .z) .z))
def S150 : tE2 Tryz.prog P150 150 := fun _ _ _ _ => ⟨_, by conv => lhs; reduce; try dsimp only [pLn]⟩
def P151 : Pl := (.n none .z (.n none (.n none (.r [[12, 10, 2, 1, 0]]) .z) .z))
def S151 : tE3 Tryz.prog P151 151 := fun _ _ _ _ _ => ⟨_, by conv => lhs; reduce; try dsimp only [pLn]⟩
def P152 : Pl := .z
def S152 : tE1 Tryz.prog P152 152 := fun _ _ _ => ⟨_, by conv => lhs; reduce; try dsimp only [pLn]⟩
def P153 : Pl := (.n none .z (.n none .z (.n none (.n none .z (.n (some [4, 3, 2]) (.n (some [8, 7, 5, 4, 3, 2]) .z (.n none .z (.n (some [13, 7, 5, 4, 3, 2]) .z (.n none (.r [[4, 3, 2]]) (.n (some [18, 7, 5, 4, 3, 2]) .z (.n none (.r [[4, 3, 2]]) (.n (some [27, 7, 5, 4, 3, 2]) .z (.n none (.r [[4, 3, 2]]) .z)))))))) .z)) (.n none (.r [[4, 3, 2]]) .z))))
def S153 : tE1 Tryz.prog P153 153 := fun _ _ _ => ⟨_, by conv => lhs; reduce; try dsimp only [pLn]⟩
def P154 : Pl := .z
def S154 : tE1 Tryz.prog P154 154 := fun _ _ _ => ⟨_, by conv => lhs; reduce; try dsimp only [pLn]⟩
def P155 : Pl := (.n none .z (.n none (.r [[13, 9]]) .z))
def S155 : tE2 Tryz.prog P155 155 := fun _ _ _ _ => ⟨_, by conv => lhs; reduce; try dsimp only [pLn]⟩
def P156 : Pl := (.n none .z (.n none (.n none (.n none (.r [[9, 7, 0]]) (.n none .z (.n none (.r [[18, 16, 0]]) .z))) .z) .z))
def S156 : tE1 Tryz.prog P156 156 := fun _ _ _ => ⟨_, by conv => lhs; reduce; try dsimp only [pLn]⟩
def P157 : Pl := (.n none .z (.n none (.n none .z (.n none (.n (some [5, 4, 3]) .z .z) .z)) .z))
def S157 (c : CV) (a0 a1 : AV) (h : AH) : R :=
vB h 3 a1 fun v0 h1 =>
vB h1 26 (uU 0) fun v2 h3 =>
vB h3 4 (.bool false) fun v4 h5 =>
zd a0 fun v6 =>
qa v6 1 fun v7 =>
qm h5 v7 fun v8 =>
jf c (.fn 99 [] []) [v8] h5 fun v9 h10 =>
kF c v9 [.yield (h10.new .dfd).nx] ((h10.new .dfd).new (.loop .ready none 157 [1, 0, 1, 0] [5, 4, 3] [v4, v2, v0] h10.nx)) fun _ h11 =>
yj h11 (h10.new .dfd).nx fun p13 h12 =>
k7 p13 (
jX h12 v2 (uU 0) 1 fun h14 =>
jX h14 v4 (.bool false) 1 fun h15 =>
jB (h10.nx :: []) h15 fun h16 =>
qm h16 v2 fun v17 =>
qm h16 v4 fun v18 =>
some ((.tup [v17, v18]), h16)) <|
pIs p13 .ret (
jB (h10.nx :: []) h12 fun h19 =>
qm h19 v2 fun v20 =>
qm h19 v4 fun v21 =>
some ((.tup [v20, v21]), h19)) <|
none
def W157 : WF := w_2 S157
theorem W157_ok : WOk Tryz.prog 157 W157 := ZW (pl := P157) fun _ _ _ _ => by kernel_rfl
def P158 : Pl := (.n none .z (.n none .z (.n none .z (.n none (.n none .z (.n none (.n (some [20, 19, 18, 5, 0]) .z .z) .z)) .z))))
def S158 : tE2 Tryz.prog P158 158 := fun _ _ _ _ => ⟨_, by conv => lhs; reduce; try dsimp only [pLn]⟩
def P159 : Pl := (.n none .z (.n none .z (.n none .z (.n none (.r [[]]) .z))))
def S159 : tE4 Tryz.prog P159 159 := fun _ _ _ _ _ _ => ⟨_, by conv => lhs; reduce; try dsimp only [pLn]⟩
def P160 : Pl := .z
def S160 : tE2 Tryz.prog P160 160 := fun _ _ _ _ => ⟨_, by conv => lhs; reduce; try dsimp only [pLn]⟩
def P161 : Pl := (.n none .z (.n none (.n none (.r [[17, 15, 2, 0]]) .z) (.n none .z (.n none .z (.n none .z (.n none .z (.n none .z (.n none (.n none .z (.n none (.n (some [67, 66, 65, 0]) .z .z) .z)) .z))))))))
def S161 : tE3 Tryz.prog P161 161 := fun _ _ _ _ _ => ⟨_, by conv => lhs; reduce; try dsimp only [pLn]⟩
def P162 : Pl := (.n none .z (.n none (.n none (.r [[22, 18, 6, 5, 3, 2, 0]]) .z) .z))
def S162 : tE4 Tryz.prog P162 162 := fun _ _ _ _ _ _ => ⟨_, by conv => lhs; reduce; try dsimp only [pLn]⟩
def P163 : Pl := (.n none .z (.n none .z (.n none (.n (some [7, 6]) (.n (some [7, 6, 2, 0]) (.n none .z (.n none (.n none .z (.n none (.n none (.r [[22, 16, 7, 6, 2, 0]]) .z) .z)) .z)) .z) .z) .z)))
def S163 : tE3 Tryz.prog P163 163 := fun _ _ _ _ _ => ⟨_, by conv => lhs; reduce; try dsimp only [pLn]⟩
def P164 : Pl := .z
def S164 : tE1 Tryz.prog P164 164 := fun _ _ _ => ⟨_, by conv => lhs; reduce; try dsimp only [pLn]⟩
def P165 : Pl := (.n none .z (.n none (.r [[11, 9, 2, 1, 0], [19, 13]]) .z))
def S165 : tE3 Tryz.prog P165 165 := fun _ _ _ _ _ => ⟨_, by conv => lhs; reduce; try dsimp only [pLn]⟩
def P166 : Pl := .z
def S166 : tE2 Tryz.prog P166 166 := fun _ _ _ _ => ⟨_, by conv => lhs; reduce; try dsimp only [pLn]⟩
def P167 : Pl := .z
def S167 : tE3 Tryz.prog P167 167 := fun _ _ _ _ _ => ⟨_, by conv => lhs; reduce; try dsimp only [pLn]⟩
def P168 : Pl := .z
def S168 : tE3 Tryz.prog P168 168 := fun _ _ _ _ _ => ⟨_, by conv => lhs; reduce; try dsimp only [pLn]⟩
def P169 : Pl := .z
def S169 : tE4 Tryz.prog P169 169 := fun _ _ _ _ _ _ => ⟨_, by conv => lhs; reduce; try dsimp only [pLn]⟩
def P170 : Pl := .z
def S170 : tE2 Tryz.prog P170 170 := fun _ _ _ _ => ⟨_, by conv => lhs; reduce; try dsimp only [pLn]⟩
def P171 : Pl := .z
def S171 : tE2 Tryz.prog P171 171 := fun _ _ _ _ => ⟨_, by conv => lhs; reduce; try dsimp only [pLn]⟩
def P172 : Pl := .z
def S172 : tE4 Tryz.prog P172 172 := fun _ _ _ _ _ _ => ⟨_, by conv => lhs; reduce; try dsimp only [pLn]⟩
def P173 : Pl := (.n none .z (.n (some [6, 4, 3, 2, 0]) (.n none (.r [[20, 15, 6, 4, 3, 2, 1, 0]]) .z) (.n none .z (.n none .z (.n none .z (.n (some [7, 6, 4, 3, 2, 0]) (.n none (.r [[53, 43, 7, 6, 4, 3, 2, 0], [60, 55, 7, 6, 4, 3, 2, 0]]) .z) .z))))))
def S173 : tE5 Tryz.prog P173 173 := fun _ _ _ _ _ _ _ => ⟨_, by conv => lhs; reduce; try dsimp only [pLn]⟩
def P174 : Pl := (.n none .z (.n none .z (.n none .z (.n none .z (.n none .z (.n (some [6, 5, 0]) (.n none (.r [[40, 38, 6, 5, 0], [47, 42, 6, 5, 0]]) .z) .z))))))
def S174 : tE2 Tryz.prog P174 174 := fun _ _ _ _ => ⟨_, by conv => lhs; reduce; try dsimp only [pLn]⟩
def P175 : Pl := (.n none .z (.n none .z (.n none (.n none .z (.n none (.n (some [14, 5, 1, 0]) .z .z) .z)) .z)))
def S175 : tE2 Tryz.prog P175 175 := fun _ _ _ _ => ⟨_, by conv => lhs; reduce; try dsimp only [pLn]⟩
def P176 : Pl := (.n none .z (.n none (.r [[4, 1, 0]]) (.n none (.n none (.n (some [4, 1, 0]) (.n none .z (.n none (.n none .z (.n none (.n none (.r [[39, 30, 5, 4, 1, 0]]) .z) .z)) .z)) .z) .z) .z)))
def S176 : tE2 Tryz.prog P176 176 := fun _ _ _ _ => ⟨_, by conv => lhs; reduce; try dsimp only [pLn]⟩
def P177 : Pl := (.n none .z (.n none .z (.n none .z (.n none .z (.n none .z (.n none (.n none .z (.n none (.n (some [25, 24, 23, 4, 2, 1]) .z .z) .z)) (.n none .z (.n none (.r [[4, 2, 1]]) .z))))))))
def S177 : tE1 Tryz.prog P177 177 := fun _ _ _ => ⟨_, by conv => lhs; reduce; try dsimp only [pLn]⟩
def P178 : Pl := (.n none .z (.n none .z (.n none (.n none (.r [[20, 13, 4, 3, 1, 0], [25, 22, 4, 3, 0], [31, 25, 22, 4, 3, 0], [32, 22, 4, 3, 0]]) .z) .z)))
def S178 : tE5 Tryz.prog P178 178 := fun _ _ _ _ _ _ _ => ⟨_, by conv => lhs; reduce; try dsimp only [pLn]⟩
def P179 : Pl := .z
def S179 : tE1 Tryz.prog P179 179 := fun _ _ _ => ⟨_, by conv => lhs; reduce; try dsimp only [pLn]⟩
def P180 : Pl := (.n none .z (.n none (.n none (.r [[20, 15, 6, 4, 3, 2, 0]]) .z) .z))
def S180 : tE5 Tryz.prog P180 180 := fun _ _ _ _ _ _ _ => ⟨_, by conv => lhs; reduce; try dsimp only [pLn]⟩
def P181 : Pl := (.n none .z (.n none (.n none (.r [[19, 14, 5, 3, 2, 0]]) .z) .z))
def S181 : tE4 Tryz.prog P181 181 := fun _ _ _ _ _ _ => ⟨_, by conv => lhs; reduce; try dsimp only [pLn]⟩
def P182 : Pl := .z
def S182 : tE3 Tryz.prog P182 182 := fun _ _ _ _ _ => ⟨_, by conv => lhs; reduce; try dsimp only [pLn]⟩
def P183 : Pl := .z
def S183 : tE2 Tryz.prog P183 183 := fun _ _ _ _ => ⟨_, by conv => lhs; reduce; try dsimp only [pLn]⟩
def P184 : Pl := .z
def S184 : tE5 Tryz.prog P184 184 := fun _ _ _ _ _ _ _ => ⟨_, by conv => lhs; reduce; try dsimp only [pLn]⟩
def P185 : Pl := (.n none .z (.n none .z (.n none (.n none .z (.n none (.n (some [5, 1, 0]) (.n none (.n none (.r [[20, 15, 5, 1, 0]]) .z) (.n none (.n none .z (.n none .z (.n none .z (.n (some [7, 5, 1, 0]) .z .z)))) .z)) .z) .z)) .z)))
def S185 : tE2 Tryz.prog P185 185 := fun _ _ _ _ => ⟨_, by conv => lhs; reduce; try dsimp only [pLn]⟩
def P186 : Pl := .z
def S186 : tE3 Tryz.prog P186 186 := fun _ _ _ _ _ => ⟨_, by conv => lhs; reduce; try dsimp only [pLn]⟩
def P187 : Pl := (.n none (.n none (.n (some [0]) (.n none (.n none (.r [[17, 12, 0]]) .z) (.n none (.n none .z (.n none (.r [[4, 3, 2, 0]]) .z)) .z)) .z) .z) (.n none (.r [[92, 87, 0]]) .z))
def S187 : tE1 Tryz.prog P187 187 := fun _ _ _ => ⟨_, by conv => lhs; reduce; try dsimp only [pLn]⟩
def P188 : Pl := .z
def S188 : tE5 Tryz.prog P188 188 := fun _ _ _ _ _ _ _ => ⟨_, by conv => lhs; reduce; try dsimp only [pLn]⟩
def P189 : Pl := (.n none .z (.n none .z (.n none (.r [[18, 16, 6, 5, 3]]) .z)))
def S189 : tE4 Tryz.prog P189 189 := fun _ _ _ _ _ _ => ⟨_, by conv => lhs; reduce; try dsimp only [pLn]⟩
def P190 : Pl := (.n (some [1, 0]) (.n none (.r [[15, 11, 1, 0]]) (.n none (.n none .z (.n none (.r [[4, 1, 0]]) (.n none (.r [[4, 0]]) .z))) .z)) (.n none .z (.n (some [5, 1, 0]) .z (.n none .z (.n none .z (.n none (.n (some [1, 0]) .z .z) .z))))))
def S190 : tE2 Tryz.prog P190 190 := fun _ _ _ _ => ⟨_, by conv => lhs; reduce; try dsimp only [pLn]⟩
def P191 : Pl := (.n none .z (.r [[]]))
def S191 : tE5 Tryz.prog P191 191 := fun _ _ _ _ _ _ _ => ⟨_, by conv => lhs; reduce; try dsimp only [pLn]⟩
def P192 : Pl := (.n none .z (.n none (.n none (.r [[20, 14, 4, 3, 2, 1, 0]]) .z) (.n none .z (.n (some [11, 4, 3, 2, 1, 0]) .z (.n (some [11, 4, 3, 2, 1, 0]) (.n none (.r [[47, 44, 11, 4, 3, 2, 1, 0]]) .z) (.n (some [4]) .z .z))))))
def S192 : tE5 Tryz.prog P192 192 := fun _ _ _ _ _ _ _ => ⟨_, by conv => lhs; reduce; try dsimp only [pLn]⟩
def P193 : Pl := .z
def S193 : tE1 Tryz.prog P193 193 := fun _ _ _ => ⟨_, by conv => lhs; reduce; try dsimp only [pLn]⟩
def P194 : Pl := (.n none .z (.n none (.n none (.r [[14, 12, 2, 1, 0]]) .z) (.n none .z (.n none (.n none .z (.n none (.r [[32, 29, 7, 2, 1]]) .z)) .z))))
def S194 : tE3 Tryz.prog P194 194 := fun _ _ _ _ _ => ⟨_, by conv => lhs; reduce; try dsimp only [pLn]⟩
def P195 : Pl := (.n none .z (.n none .z (.n none (.n none .z (.n none (.n (some [3, 0]) .z .z) .z)) .z)))
def S195 : tE1 Tryz.prog P195 195 := fun _ _ _ => ⟨_, by conv => lhs; reduce; try dsimp only [pLn]⟩
def P196 : Pl := (.n none .z (.n none .z (.n none .z (.n none .z (.n (some [10, 8]) .z .z)))))
def S196 : tE3 Tryz.prog P196 196 := fun _ _ _ _ _ => ⟨_, by conv => lhs; reduce; try dsimp only [pLn]⟩
def P197 : Pl := (.n none .z (.n none .z (.n none .z (.n none (.n none (.r [[22, 20, 6, 1, 0], [33, 24, 6, 1, 0]]) .z) .z))))
def S197 : tE2 Tryz.prog P197 197 := fun _ _ _ _ => ⟨_, by conv => lhs; reduce; try dsimp only [pLn]⟩
def P198 : Pl := .z
def S198 : tE2 Tryz.prog P198 198 := fun _ _ _ _ => ⟨_, by conv => lhs; reduce; try dsimp only [pLn]⟩
def P199 : Pl := .z
def S199 : tE1 Tryz.prog P199 199 := fun _ _ _ => ⟨_, by conv => lhs; reduce; try dsimp only [pLn]⟩
def P200 : Pl := .z
def S200 : tE1 Tryz.prog P200 200 := fun _ _ _ => ⟨_, by conv => lhs; reduce; try dsimp only [pLn]⟩
def P201 : Pl := (.n none .z (.n none .z (.n none .z (.n none .z (.n none .z (.n none (.r [[2]]) .z))))))
def S201 : tE1 Tryz.prog P201 201 := fun _ _ _ => ⟨_, by conv => lhs; reduce; try dsimp only [pLn]⟩
def P202 : Pl := .z
def S202 : tE2 Tryz.prog P202 202 := fun _ _ _ _ => ⟨_, by conv => lhs; reduce; try dsimp only [pLn]⟩
def P203 : Pl := .z
def S203 : tE1 Tryz.prog P203 203 := fun _ _ _ => ⟨_, by conv => lhs; reduce; try dsimp only [pLn]⟩
def P204 : Pl := .z
def S204 (_ : CV) (a0 : AV) (h : AH) : R :=
jZ .lss a0 (iI 10) fun v0 =>
jO v0 (
jZ .add a0 (iI 1) fun v1 =>
ya (.str [48, 49, 50, 51, 52, 53, 54, 55, 56, 57, 97, 98, 99, 100, 101, 102, 103, 104, 105, 106, 107, 108, 109, 110, 111, 112, 113, 114, 115, 116, 117, 118, 119, 120, 121, 122]) (some a0) (some v1) fun v2 =>
some (v2, h)) (
jZ .mul a0 (iI 2) fun v3 =>
jZ .mul a0 (iI 2) fun v4 =>
jZ .add v4 (iI 2) fun v5 =>
ya (.str [48, 48, 48, 49, 48, 50, 48, 51, 48, 52, 48, 53, 48, 54, 48, 55, 48, 56, 48, 57, 49, 48, 49, 49, 49, 50, 49, 51, 49, 52, 49, 53, 49, 54, 49, 55, 49, 56, 49, 57, 50, 48, 50, 49, 50, 50, 50, 51, 50, 52, 50, 53, 50, 54, 50, 55, 50, 56, 50, 57, 51, 48, 51, 49, 51, 50, 51, 51, 51, 52, 51, 53, 51, 54, 51, 55, 51, 56, 51, 57, 52, 48, 52, 49, 52, 50, 52, 51, 52, 52, 52, 53, 52, 54, 52, 55, 52, 56, 52, 57, 53, 48, 53, 49, 53, 50, 53, 51, 53, 52, 53, 53, 53, 54, 53, 55, 53, 56, 53, 57, 54, 48, 54, 49, 54, 50, 54, 51, 54, 52, 54, 53, 54, 54, 54, 55, 54, 56, 54, 57, 55, 48, 55, 49, 55, 50, 55, 51, 55, 52, 55, 53, 55, 54, 55, 55, 55, 56, 55, 57, 56, 48, 56, 49, 56, 50, 56, 51, 56, 52, 56, 53, 56, 54, 56, 55, 56, 56, 56, 57, 57, 48, 57, 49, 57, 50, 57, 51, 57, 52, 57, 53, 57, 54, 57, 55, 57, 56, 57, 57]) (some v3) (some v5) fun v6 =>
some (v6, h))
def W204 : WF := w_1 S204
theorem W204_ok : WOk Tryz.prog 204 W204 := JI (pl := P204) fun _ _ _ => by kernel_rfl
def P207 : Pl := (.n none .z (.n (some [11, 10, 4, 3, 2, 1, 0]) (.n none (.r [[23, 21, 11, 10, 4, 3, 2, 1, 0], [27, 25, 11, 10, 4, 3, 2, 1, 0]]) .z) (.n none .z (.n none .z (.n (some [13, 12, 11, 10, 4, 3, 2, 1, 0]) .z (.n (some [13, 12, 11, 10, 4, 3, 0]) (.n none .z (.n none (.n none .z (.n none .z (.n none .z (.n none (.n none (.n (some [16, 15, 14, 13, 12, 11, 10, 4, 3, 1, 0]) .z .z) .z) .z)))) (.n none .z (.n none (.n none (.n (some [17, 13, 12, 11, 10, 4, 3, 1, 0]) .z .z) .z) .z)))) (.n (some [13, 12, 11, 10, 4, 0]) .z .z)))))))
def S207 (c : CV) (a0 a1 a2 a3 a4 : AV) (h : AH) : R :=
zN (α := AV × AV × AV × AV × AV × AV × AV × Unit → AH → List Nat → R) (fun s0 h1 d2 =>
vB h1 275 (.agg [(.int .u8 (.ofNat 0)), (.int .u8 (.ofNat 0)), (.int .u8 (.ofNat 0)), (.int .u8 (.ofNat 0)), (.int .u8 (.ofNat 0)), (.int .u8 (.ofNat 0)), (.int .u8 (.ofNat 0)), (.int .u8 (.ofNat 0)), (.int .u8 (.ofNat 0)), (.int .u8 (.ofNat 0)), (.int .u8 (.ofNat 0)), (.int .u8 (.ofNat 0)), (.int .u8 (.ofNat 0)), (.int .u8 (.ofNat 0)), (.int .u8 (.ofNat 0)), (.int .u8 (.ofNat 0)), (.int .u8 (.ofNat 0)), (.int .u8 (.ofNat 0)), (.int .u8 (.ofNat 0)), (.int .u8 (.ofNat 0)), (.int .u8 (.ofNat 0)), (.int .u8 (.ofNat 0)), (.int .u8 (.ofNat 0)), (.int .u8 (.ofNat 0)), (.int .u8 (.ofNat 0)), (.int .u8 (.ofNat 0)), (.int .u8 (.ofNat 0)), (.int .u8 (.ofNat 0)), (.int .u8 (.ofNat 0)), (.int .u8 (.ofNat 0)), (.int .u8 (.ofNat 0)), (.int .u8 (.ofNat 0)), (.int .u8 (.ofNat 0)), (.int .u8 (.ofNat 0)), (.int .u8 (.ofNat 0)), (.int .u8 (.ofNat 0)), (.int .u8 (.ofNat 0)), (.int .u8 (.ofNat 0)), (.int .u8 (.ofNat 0)), (.int .u8 (.ofNat 0)), (.int .u8 (.ofNat 0)), (.int .u8 (.ofNat 0)), (.int .u8 (.ofNat 0)), (.int .u8 (.ofNat 0)), (.int .u8 (.ofNat 0)), (.int .u8 (.ofNat 0)), (.int .u8 (.ofNat 0)), (.int .u8 (.ofNat 0)), (.int .u8 (.ofNat 0)), (.int .u8 (.ofNat 0)), (.int .u8 (.ofNat 0)), (.int .u8 (.ofNat 0)), (.int .u8 (.ofNat 0)), (.int .u8 (.ofNat 0)), (.int .u8 (.ofNat 0)), (.int .u8 (.ofNat 0)), (.int .u8 (.ofNat 0)), (.int .u8 (.ofNat 0)), (.int .u8 (.ofNat 0)), (.int .u8 (.ofNat 0)), (.int .u8 (.ofNat 0)), (.int .u8 (.ofNat 0)), (.int .u8 (.ofNat 0)), (.int .u8 (.ofNat 0)), (.int .u8 (.ofNat 0))]) fun v4 h5 =>
zN (α := u9_1 → AH → List Nat → R) (fun s6 h7 d8 =>
zN (α := AV × AV × AV × AV × AV × AV × AV × Unit → AH → List Nat → R) (fun s10 h11 d12 =>
zN (α := AV × AV × AV × AV × AV × AV × Unit → AH → List Nat → R) (fun s14 h15 d16 =>
jO s14.2.2.2.2.1 (
yR 65 1 s14.2.1 (some s14.1) none fun v18 =>
zQ h15 5 1 s14.2.2.2.2.2.1 v18 fun v19 h20 =>
jB d16 h20 fun h21 =>
some ((.tup [v19, s14.2.2.1]), h21)) (
yR 65 1 s14.2.1 (some s14.1) none fun v22 =>
Jr h15 v22 fun v23 =>
jB d16 h15 fun h24 =>
some ((.tup [s14.2.2.2.1, v23]), h24))) fun j17 =>
jO s10.2.2.2.2.2.1 (
jZ .sub s10.1 (iI 1) fun v25 =>
yl s10.2.1 v25 65 1 fun v26 =>
jX h11 v26 (.int .u8 (.ofNat 45)) 1 fun h27 =>
j17 (v25, s10.2.1, s10.2.2.1, s10.2.2.2.1, s10.2.2.2.2.1, s10.2.2.2.2.2.2.1, ()) h27 d12) (
j17 (s10.1, s10.2.1, s10.2.2.1, s10.2.2.2.1, s10.2.2.2.2.1, s10.2.2.2.2.2.2.1, ()) h11 d12)) fun j13 =>
jf c (.fn 246 [] []) [s6.2.2.2.2.2.2.1] h7 fun v28 h29 =>
jO v28 (
yB .u64 s6.2.2.2.2.2.2.1 fun v30 =>
jf c (.fn 247 [] []) [v30] h29 fun v31 h32 =>
yB .u64 v31 fun v33 =>
yB .u64 s6.2.2.2.2.2.2.1 fun v34 =>
yB .u64 s6.2.2.2.2.2.2.1 fun v35 =>
jZ .sub v35 (uU 1) fun v36 =>
kQ (σ := AV × AV × AV × AV × AV × AV × AV × AV × AV × AV × AV × Unit) NN (fun i40 s37 h38 d39 =>
jZ .geq s37.2.2.2.2.2.2.2.2.2.1 s37.2.1 fun v41 =>
jO v41 (
jZ .sub s37.2.2.2.1 (iI 1) fun v42 =>
jZ .and s37.2.2.2.2.2.2.2.2.2.1 s37.1 fun v43 =>
yh (.str [48, 49, 50, 51, 52, 53, 54, 55, 56, 57, 97, 98, 99, 100, 101, 102, 103, 104, 105, 106, 107, 108, 109, 110, 111, 112, 113, 114, 115, 116, 117, 118, 119, 120, 121, 122]) v43 fun v44 =>
yl s37.2.2.2.2.1 v42 65 1 fun v45 =>
jX h38 v45 v44 1 fun h46 =>
vN .shr s37.2.2.2.2.2.2.2.2.2.1 s37.2.2.1 fun v47 =>
i40 (s37.1, s37.2.1, s37.2.2.1, v42, s37.2.2.2.2.1, s37.2.2.2.2.2.1, s37.2.2.2.2.2.2.1, s37.2.2.2.2.2.2.2.1, s37.2.2.2.2.2.2.2.2.1, v47, s37.2.2.2.2.2.2.2.2.2.2.1, ()) h46 d39) (
jZ .sub s37.2.2.2.1 (iI 1) fun v48 =>
yh (.str [48, 49, 50, 51, 52, 53, 54, 55, 56, 57, 97, 98, 99, 100, 101, 102, 103, 104, 105, 106, 107, 108, 109, 110, 111, 112, 113, 114, 115, 116, 117, 118, 119, 120, 121, 122]) s37.2.2.2.2.2.2.2.2.2.1 fun v49 =>
yl s37.2.2.2.2.1 v48 65 1 fun v50 =>
jX h38 v50 v49 1 fun h51 =>
j13 (v48, s37.2.2.2.2.1, s37.2.2.2.2.2.1, s37.2.2.2.2.2.2.1, s37.2.2.2.2.2.2.2.1, s37.2.2.2.2.2.2.2.2.1, s37.2.2.2.2.2.2.2.2.2.2.1, ()) h51 d39)) (v36, v34, v33, s6.1, s6.2.1, s6.2.2.1, s6.2.2.2.1, s6.2.2.2.2.1, s6.2.2.2.2.2.1, s6.2.2.2.2.2.2.2.1, s6.2.2.2.2.2.2.2.2.1, ()) h32 d8) (
yB .u64 s6.2.2.2.2.2.2.1 fun v52 =>
kQ (σ := u9_1) NN (fun i56 s53 h54 d55 =>
jZ .geq s53.2.2.2.2.2.2.2.1 s53.1 fun v57 =>
jO v57 (
jZ .sub s53.2.1 (iI 1) fun v58 =>
jZ .quo s53.2.2.2.2.2.2.2.1 s53.1 fun v59 =>
jZ .mul v59 s53.1 fun v60 =>
jZ .sub s53.2.2.2.2.2.2.2.1 v60 fun v61 =>
yh (.str [48, 49, 50, 51, 52, 53, 54, 55, 56, 57, 97, 98, 99, 100, 101, 102, 103, 104, 105, 106, 107, 108, 109, 110, 111, 112, 113, 114, 115, 116, 117, 118, 119, 120, 121, 122]) v61 fun v62 =>
yl s53.2.2.1 v58 65 1 fun v63 =>
jX h54 v63 v62 1 fun h64 =>
i56 (s53.1, v58, s53.2.2.1, s53.2.2.2.1, s53.2.2.2.2.1, s53.2.2.2.2.2.1, s53.2.2.2.2.2.2.1, v59, s53.2.2.2.2.2.2.2.2.1, ()) h64 d55) (
jZ .sub s53.2.1 (iI 1) fun v65 =>
yh (.str [48, 49, 50, 51, 52, 53, 54, 55, 56, 57, 97, 98, 99, 100, 101, 102, 103, 104, 105, 106, 107, 108, 109, 110, 111, 112, 113, 114, 115, 116, 117, 118, 119, 120, 121, 122]) s53.2.2.2.2.2.2.2.1 fun v66 =>
yl s53.2.2.1 v65 65 1 fun v67 =>
jX h54 v67 v66 1 fun h68 =>
j13 (v65, s53.2.2.1, s53.2.2.2.1, s53.2.2.2.2.1, s53.2.2.2.2.2.1, s53.2.2.2.2.2.2.1, s53.2.2.2.2.2.2.2.2.1, ()) h68 d55)) (v52, s6.1, s6.2.1, s6.2.2.1, s6.2.2.2.1, s6.2.2.2.2.1, s6.2.2.2.2.2.1, s6.2.2.2.2.2.2.2.1, s6.2.2.2.2.2.2.2.2.1, ()) h29 d8)) fun j9 =>
jO s0.2.2.2.1 (
pUn .neg s0.2.2.2.2.2.1 fun v69 =>
j9 ((iI 65), v4, s0.1, s0.2.1, s0.2.2.1, s0.2.2.2.1, s0.2.2.2.2.1, v69, s0.2.2.2.2.2.2.1, ()) h5 d2) (
j9 ((iI 65), v4, s0.1, s0.2.1, s0.2.2.1, s0.2.2.2.1, s0.2.2.2.2.1, s0.2.2.2.2.2.1, s0.2.2.2.2.2.2.1, ()) h5 d2)) fun j3 =>
jZ .lss a2 (iI 2) fun v70 =>
zN (α := u9_1 → AH → R) (fun s71 h72 =>
x9 s71.2.1 (.bool true) s71.1 fun v74 =>
zN (α := u9_1 → AH → R) (fun s75 h76 =>
x9 s75.2.1 (.bool true) s75.1 fun v78 =>
jO v78 (
none /- op -/) (
j3 (s75.2.2.1, s75.2.2.2.1, s75.2.2.2.2.1, s75.2.2.2.2.2.1, s75.2.2.2.2.2.2.1, s75.2.2.2.2.2.2.2.1, s75.2.2.2.2.2.2.2.2.1, ()) h76 [])) fun j77 =>
xf v74 false (
jZ .gtr s71.2.2.2.2.2.2.1 (iI 36) fun v79 =>
j77 (v79, v74, s71.2.2.1, s71.2.2.2.1, s71.2.2.2.2.1, s71.2.2.2.2.2.1, s71.2.2.2.2.2.2.1, s71.2.2.2.2.2.2.2.1, s71.2.2.2.2.2.2.2.2.1, ()) h72) (
j77 (.undef, v74, s71.2.2.1, s71.2.2.2.1, s71.2.2.2.2.1, s71.2.2.2.2.2.1, s71.2.2.2.2.2.2.1, s71.2.2.2.2.2.2.2.1, s71.2.2.2.2.2.2.2.2.1, ()) h72)) fun j73 =>
xf v70 false (
jZ .eql a2 (iI 10) fun v80 =>
j73 (v80, v70, (.str []), .nils, a4, a3, a2, a1, a0, ()) h) (
j73 (.undef, v70, (.str []), .nils, a4, a3, a2, a1, a0, ()) h)
def W207 : WF := w_5 S207
theorem W207_ok : WOk Tryz.prog 207 W207 := qK1 (pl := P207) fun _ _ _ _ _ _ _ => by kernel_rfl
def P210 : Pl := (.n none .z (.n none (.n none .z (.n none (.n (some [6, 1, 0]) .z .z) .z)) .z))
def S210 : tE2 Tryz.prog P210 210 := fun _ _ _ _ => ⟨_, by conv => lhs; reduce; try dsimp only [pLn]⟩
def P211 : Pl := (.n none .z (.n none .z (.n none (.n none .z (.n none (.n (some [4, 3, 0]) .z .z) .z)) .z)))
def S211 : tE1 Tryz.prog P211 211 := fun _ _ _ => ⟨_, by conv => lhs; reduce; try dsimp only [pLn]⟩
def P212 : Pl := (.n none .z (.n none (.n none (.r [[8, 6, 0]]) .z) (.n none .z (.n none (.n none (.n (some [3, 0]) .z .z) .z) .z))))
def S212 : tE1 Tryz.prog P212 212 := fun _ _ _ => ⟨_, by conv => lhs; reduce; try dsimp only [pLn]⟩
def P213 : Pl := .z
def S213 : tE1 Tryz.prog P213 213 := fun _ _ _ => ⟨_, by conv => lhs; reduce; try dsimp only [pLn]⟩
def P214 : Pl := (.n none .z (.n none (.n none .z (.n none (.n (some [5, 1, 0]) .z .z) .z)) .z))
def S214 : tE2 Tryz.prog P214 214 := fun _ _ _ _ => ⟨_, by conv => lhs; reduce; try dsimp only [pLn]⟩
def P215 : Pl := (.n none .z (.n none (.n none (.r [[7, 5, 0]]) .z) .z))
def S215 : tE1 Tryz.prog P215 215 := fun _ _ _ => ⟨_, by conv => lhs; reduce; try dsimp only [pLn]⟩
def P216 : Pl := (.n none .z (.n none (.n none (.r [[19, 13, 2, 1, 0]]) .z) (.n none .z (.n none .z (.n none (.n none .z (.n none (.n (some [10, 8, 2]) .z .z) .z)) .z)))))
def S216 : tE3 Tryz.prog P216 216 := fun _ _ _ _ _ => ⟨_, by conv => lhs; reduce; try dsimp only [pLn]⟩
def P217 : Pl := (.n none .z (.r [[]]))
def S217 : tE2 Tryz.prog P217 217 := fun _ _ _ _ => ⟨_, by conv => lhs; reduce; try dsimp only [pLn]⟩
def P218 : Pl := .z
def S218 : tE2 Tryz.prog P218 218 := fun _ _ _ _ => ⟨_, by conv => lhs; reduce; try dsimp only [pLn]⟩
def P219 : Pl := (.n none .z (.n none (.n none (.r [[11, 7, 1, 0]]) .z) .z))
def S219 : tE2 Tryz.prog P219 219 := fun _ _ _ _ => ⟨_, by conv => lhs; reduce; try dsimp only [pLn]⟩
def P220 : Pl := .z
def S220 (_ : CV) (h : AH) : R :=
j0 h 9 [(.str [])] 24 [(0, 1, (.str [])), (1, 1, (.str [115, 101, 116])), (2, 1, (.str [109, 111, 118, 101])), (3, 1, (.str [97, 100, 100])), (4, 1, (.str [115, 117, 98])), (5, 1, (.str [109, 117, 108])), (6, 1, (.str [108, 101, 115, 115])), (7, 1, (.str [101, 113, 117, 97, 108])), (8, 1, (.str [108, 111, 97, 100])), (9, 1, (.str [115, 116, 111, 114, 101])), (10, 1, (.str [97, 108, 108, 111, 99])), (11, 1, (.str [102, 114, 101, 101])), (12, 1, (.str [106, 117, 109, 112])), (13, 1, (.str [122, 101, 114, 111])), (14, 1, (.str [111, 112, 101, 110])), (15, 1, (.str [99, 108, 111, 115, 101])), (16, 1, (.str [117, 110, 100, 111])), (17, 1, (.str [101, 105, 116, 104, 101, 114])), (18, 1, (.str [111, 114])), (19, 1, (.str [100, 111, 110, 101])), (20, 1, (.str [114, 101, 116, 114, 121])), (21, 1, (.str [101, 109, 105, 116])), (22, 1, (.str [102, 97, 105, 108])), (23, 1, (.str [99, 97, 108, 108]))] fun v0 h1 =>
some (v0, h1)
def W220 : WF := w_0 S220
theorem W220_ok : WOk Tryz.prog 220 W220 := OS (pl := P220) fun _ _ => by kernel_rfl
def P221 : Pl := .z
def S221 : tE2 Tryz.prog P221 221 := fun _ _ _ _ => ⟨_, by conv => lhs; reduce; try dsimp only [pLn]⟩
def P222 : Pl := .z
def S222 : tE1 Tryz.prog P222 222 := fun _ _ _ => ⟨_, by conv => lhs; reduce; try dsimp only [pLn]⟩
def P223 : Pl := (.n none .z (.n none .z (.n none (.n none .z (.n none (.n (some [14, 13, 12, 3, 0]) .z .z) .z)) (.n none (.n none .z (.n none (.n (some [28, 27, 26, 3]) .z .z) .z)) .z))))
def S223 : tE1 Tryz.prog P223 223 := fun _ _ _ => ⟨_, by conv => lhs; reduce; try dsimp only [pLn]⟩
def P224 : Pl := (.n none .z (.n none .z (.n (some [0]) .z .z)))
def S224 : tE1 Tryz.prog P224 224 := fun _ _ _ => ⟨_, by conv => lhs; reduce; try dsimp only [pLn]⟩
def P225 : Pl := .z
def S225 : tE2 Tryz.prog P225 225 := fun _ _ _ _ => ⟨_, by conv => lhs; reduce; try dsimp only [pLn]⟩
def P226 : Pl := .z
def S226 : tE2 Tryz.prog P226 226 := fun _ _ _ _ => ⟨_, by conv => lhs; reduce; try dsimp only [pLn]⟩
def P227 : Pl := .z
def S227 : tE2 Tryz.prog P227 227 := fun _ _ _ _ => ⟨_, by conv => lhs; reduce; try dsimp only [pLn]⟩
def P228 : Pl := (.n none .z (.n none (.n (some [11, 10, 1, 0]) (.n none .z (.n none .z (.n none (.n none (.n none .z (.n none .z (.n none (.n (some [11, 10, 5, 1, 0]) (.n none (.n none (.r [[32, 27, 11, 10, 5, 1, 0]]) .z) .z) .z) .z))) .z) .z))) .z) .z))
def S228 : tE2 Tryz.prog P228 228 := fun _ _ _ _ => ⟨_, by conv => lhs; reduce; try dsimp only [pLn]⟩
def P229 : Pl := (.n none (.r [[5, 3, 1, 0]]) .z)
def S229 : tE4 Tryz.prog P229 229 := fun _ _ _ _ _ _ => ⟨_, by conv => lhs; reduce; try dsimp only [pLn]⟩
def P230 : Pl := (.n none .z (.n (some [5, 4, 2, 0]) .z (.n none .z (.n none .z (.n none .z (.n (some [6, 4, 0]) .z .z))))))
def S230 : tE3 Tryz.prog P230 230 := fun _ _ _ _ _ => ⟨_, by conv => lhs; reduce; try dsimp only [pLn]⟩
def P231 : Pl := .z
def S231 : tE4 Tryz.prog P231 231 := fun _ _ _ _ _ _ => ⟨_, by conv => lhs; reduce; try dsimp only [pLn]⟩
def P232 : Pl := (.n none .z (.n none .z (.n none .z (.n none (.r [[6]]) .z))))
def S232 : tE3 Tryz.prog P232 232 := fun _ _ _ _ _ => ⟨_, by conv => lhs; reduce; try dsimp only [pLn]⟩
def P233 : Pl := (.n none .z (.r [[]]))
def S233 : tE4 Tryz.prog P233 233 := fun _ _ _ _ _ _ => ⟨_, by conv => lhs; reduce; try dsimp only [pLn]⟩
def P234 : Pl := (.n none .z (.n none (.r [[16, 7]]) .z))
def S234 : tE2 Tryz.prog P234 234 := fun _ _ _ _ => ⟨_, by conv => lhs; reduce; try dsimp only [pLn]⟩
def P235 : Pl := (.n none .z (.n (some [5, 0]) (.n none .z (.n none (.r [[5, 0]]) .z)) .z))
def S235 : tE3 Tryz.prog P235 235 := fun _ _ _ _ _ => ⟨_, by conv => lhs; reduce; try dsimp only [pLn]⟩
def P236 : Pl := .z
def S236 : tE3 Tryz.prog P236 236 := fun _ _ _ _ _ => ⟨_, by conv => lhs; reduce; try dsimp only [pLn]⟩
def P237 : Pl := (.n none .z (.n none .z (.n none .z (.n none (.n (some [1]) (.n (some [1, 0]) .z .z) .z) .z))))
def S237 : tE2 Tryz.prog P237 237 := fun _ _ _ _ => ⟨_, by conv => lhs; reduce; try dsimp only [pLn]⟩
def P238 : Pl := (.n none (.n (some [0]) (.n none (.n none (.r [[16, 11, 0]]) .z) (.n (some [0]) (.n none .z (.n none .z (.n none .z (.n none .z (.n none (.n none (.r [[90, 85, 4, 3, 2, 0]]) .z) .z))))) .z)) .z) .z)
def S238 : tE1 Tryz.prog P238 238 := fun _ _ _ => ⟨_, by conv => lhs; reduce; try dsimp only [pLn]⟩
def P239 : Pl := (.n none .z (.n none .z (.n none (.n none .z (.n none (.n (some [15, 14, 13, 3]) .z .z) .z)) .z)))
def S239 : tE1 Tryz.prog P239 239 := fun _ _ _ => ⟨_, by conv => lhs; reduce; try dsimp only [pLn]⟩
def P240 : Pl := (.n none .z (.n none (.n none (.r [[7, 5, 0]]) .z) .z))
def S240 : tE1 Tryz.prog P240 240 := fun _ _ _ => ⟨_, by conv => lhs; reduce; try dsimp only [pLn]⟩
def P241 : Pl := .z
def S241 : tE2 Tryz.prog P241 241 := fun _ _ _ _ => ⟨_, by conv => lhs; reduce; try dsimp only [pLn]⟩
def P242 : Pl := (.n none .z (.n none .z (.n none (.r [[]]) .z)))
def S242 : tE1 Tryz.prog P242 242 := fun _ _ _ => ⟨_, by conv => lhs; reduce; try dsimp only [pLn]⟩
def P246 : Pl := .z
def S246 : tE1 Tryz.prog P246 246 := fun _ _ _ => ⟨_, by conv => lhs; reduce; try dsimp only [pLn]⟩
def P247 : Pl := .z
def S247 : tE1 Tryz.prog P247 247 := fun _ _ _ => ⟨_, by conv => lhs; reduce; try dsimp only [pLn]⟩
def P248 : Pl := (.n none .z (.n none .z (.n none (.n none .z (.n none (.n (some [6, 5, 1, 0]) .z .z) .z)) .z)))
def S248 : tE2 Tryz.prog P248 248 := fun _ _ _ _ => ⟨_, by conv => lhs; reduce; try dsimp only [pLn]⟩
def P249 : Pl := (.n none .z (.n none (.n none .z (.n none (.n (some [8, 7, 1, 0]) .z .z) .z)) .z))
def S249 : tE2 Tryz.prog P249 249 := fun _ _ _ _ => ⟨_, by conv => lhs; reduce; try dsimp only [pLn]⟩
def P250 : Pl := .z
def S250 : tE2 Tryz.prog P250 250 := fun _ _ _ _ => ⟨_, by conv => lhs; reduce; try dsimp only [pLn]⟩
def P251 : Pl := (.n none .z (.n none .z (.n none (.n none .z (.n none (.n (some [17, 16, 15, 3, 0]) .z .z) .z)) .z)))
def S251 : tE1 Tryz.prog P251 251 := fun _ _ _ => ⟨_, by conv => lhs; reduce; try dsimp only [pLn]⟩
def P252 : Pl := .z
def S252 : tE2 Tryz.prog P252 252 := fun _ _ _ _ => ⟨_, by conv => lhs; reduce; try dsimp only [pLn]⟩
def P253 : Pl := .z
def S253 : tE3 Tryz.prog P253 253 := fun _ _ _ _ _ => ⟨_, by conv => lhs; reduce; try dsimp only [pLn]⟩
def P254 : Pl := (.n none .z (.n (some [4, 2, 0]) .z .z))
def S254 : tE3 Tryz.prog P254 254 := fun _ _ _ _ _ => ⟨_, by conv => lhs; reduce; try dsimp only [pLn]⟩
def P255 : Pl := .z
def S255 : tE1 Tryz.prog P255 255 := fun _ _ _ => ⟨_, by conv => lhs; reduce; try dsimp only [pLn]⟩
def P256 : Pl := .z
def S256 : tE1 Tryz.prog P256 256 := fun _ _ _ => ⟨_, by conv => lhs; reduce; try dsimp only [pLn]⟩
def P257 : Pl := .z
def S257 : tE1 Tryz.prog P257 257 := fun _ _ _ => ⟨_, by conv => lhs; reduce; try dsimp only [pLn]⟩
def Q0 : Pl := (.n none .z .z)
def B0 (c : CV) (l : Nat) (v0 _ a1 : AV) (h : AH) : R :=
w8 h l fun h100 =>
jf c (.fn 100 [] []) [(iI 96)] h100 fun v101 h102 =>
zd a1 fun v103 =>
qa v103 0 fun v104 =>
qm h102 v104 fun v105 =>
jf c (.fn 102 [] []) [v105] h102 fun v106 h107 =>
jf c (.fn 101 [] []) [v101, v106] h107 fun _ h109 =>
qm h109 v0 fun v110 =>
jf c (.fn 101 [] []) [v101, v110] h109 fun _ h112 =>
jf c (.fn 102 [] []) [v101] h112 fun v113 h114 =>
jX h114 v0 v113 1 fun h115 =>
zm h115 l none
theorem B0_eq (c : CV) (l : Nat) (v0 a0 a1 : AV) (h : AH) : XL Tryz.prog NN Q0 c 69 [1, 1, 0, 1, 0] [3] l [v0] [a0, a1] h = B0 c l v0 a0 a1 h := by kernel_rfl
def V0 (c : CV) (l : Nat) (x y : List AV) (h : AH) : R := match x, y with | [v0], [a0, a1] => B0 c l v0 a0 a1 h | _, _ => none
theorem V0_ok : VOk Tryz.prog 69 [1, 1, 0, 1, 0] [3] V0 := by
 intro c l x y h r e
 unfold V0 at e
 split at e
 ·exact ⟨Q0, by rw [B0_eq]; exact e⟩
 ·cases e
def Q1 : Pl := (.n none .z .z)
def B1 (c : CV) (l : Nat) (v0 v1 v2 _ a1 : AV) (h : AH) : R :=
w8 h l fun h100 =>
zd a1 fun v101 =>
qa v101 0 fun v102 =>
qm h100 v102 fun v103 =>
qm h100 v2 fun v104 =>
jf c (.fn 221 [] []) [v103, v104] h100 fun v105 h106 =>
zr v105 0 fun v107 =>
zr v105 1 fun v108 =>
jO v108 (
jX h106 v1 v107 1 fun h109 =>
jX h109 v0 (.bool true) 1 fun h110 =>
zm h110 l (some .ret)) (
zm h106 l none)
theorem B1_eq (c : CV) (l : Nat) (v0 v1 v2 a0 a1 : AV) (h : AH) : XL Tryz.prog NN Q1 c 157 [1, 0, 1, 0] [5, 4, 3] l [v0, v1, v2] [a0, a1] h = B1 c l v0 v1 v2 a0 a1 h := by kernel_rfl
def V1 (c : CV) (l : Nat) (x y : List AV) (h : AH) : R := match x, y with | [v0, v1, v2], [a0, a1] => B1 c l v0 v1 v2 a0 a1 h | _, _ => none
theorem V1_ok : VOk Tryz.prog 157 [1, 0, 1, 0] [5, 4, 3] V1 := by
 intro c l x y h r e
 unfold V1 at e
 split at e
 ·exact ⟨Q1, by rw [B1_eq]; exact e⟩
 ·cases e
end
end Go.Proofs.YtdlfmpmpmkffjaaGreatDoor
