/- Printed by a program of mine: the bodies of the program's functions aa terms of the primitives of the abstract executor, each shown equal by the kernel. -/
import Derived.Test.YtbiljkdgeekpbacGreatDoorProg
import Derived.Test.YtbiljkdgeekpbacGreatDoorMachineOneAe1
import Derived.KernelRfl
namespace Go.Proofs.YtbiljkdgeekpbacGreatDoor
open Go Go.Ae
abbrev u9_1 : Type :=AV×AV×AV×AV×AV×AV×AV×AV×AV×Unit
set_option maxRecDepth 100000
noncomputable section
attribute [local irreducible] zt ke ky xm qt Yt Xr gF QC XN XP gj jN zO jd zG wM MN pEq G4 pUn vi XC Vv ZH gX xY gk x9 ki z8 kF Qu pMM gi yg xX Qv yc xx Yc Xt Qj Uj Xd Ku qQS K9 Uq K6 zz yR Jr Jz Jh xc vC pIs Xj MJ z7 yB YU AV.undef
set_option maxHeartbeats 40000000
def P142 : Pl :=(.n none .z (.n none (.n none .z (.n none (.n (some [7,6,3,0]) .z (.n none .z (.n (some [18,6,0]) .z .z))) .z)) .z))
def S142 : tE2 Tryz.prog P142 142 :=λ_ _ _ _=>.mk _
def P143 : Pl :=.z
def S143 : tE1 Tryz.prog P143 143 :=λ_ _ _=>.mk _
def P144 : Pl :=.z
def S144 : tE2 Tryz.prog P144 144 :=λ_ _ _ _=>.mk _
def P148 : Pl :=.z
def S148 : tE1 Tryz.prog P148 148 :=λ_ _ _=>.mk _
def P149 : Pl :=.z
def S149 : tE1 Tryz.prog P149 149 :=λ_ _ _=>.mk _
def P150 : Pl :=(.n none .z (.n none .z (.n none (.n none .z (.n none (.n (some [13,12,11,5,0]) .z .z) .z)) .z)))
def S150 : tE2 Tryz.prog P150 150 :=λ_ _ _ _=>.mk _
def P151 : Pl :=.z
def S151 : tE1 Tryz.prog P151 151 :=λ_ _ _=>.mk _
def P152 : Pl :=(.n none .z (.n none (.n none (.n none (.r [[9,7,0]]) (.n none .z (.n none (.r [[18,16,0]]) .z))) .z) .z))
def S152 : tE1 Tryz.prog P152 152 :=λ_ _ _=>.mk _
def P153 : Pl :=(.n none .z (.n none (.n none .z (.n none (.n (some [5,4,3]) .z .z) .z)) .z))
def S153 (c : CV) (a0 a1 : AV) (h : AH) : R :=
gi h 3 a1 λv0 h1=>
gi h1 22 (uU 0) λv2 h3=>
gi h3 4 (.bool false) λv4 h5=>
xm a0 λv6=>
qt v6 1 λv7=>
jN h5 v7 λv8=>
zz c (.fn 148 [] []) [v8] h5 λv9 h10=>
Jr c v9 [.yield (h10.new .dfd).nx] ((h10.new .dfd).new (.loop .ready none 153 [1,0,1,0] [5,4,3] [v4,v2,v0] h10.nx)) λ_ h11=>
vC h11 (h10.new .dfd).nx λp13 h12=>
Xj p13 (
jd h12 v2 (uU 0) 1 λh14=>
jd h14 v4 (.bool false) 1 λh15=>
z7 (h10.nx::[]) h15 λh16=>
jN h16 v2 λv17=>
jN h16 v4 λv18=>
some ((.tup [v17,v18]),h16))<|
pIs p13 .ret (
z7 (h10.nx::[]) h12 λh19=>
jN h19 v2 λv20=>
jN h19 v4 λv21=>
some ((.tup [v20,v21]),h19))<|
none
def W153 : WF :=w_2 S153
theorem W153_ok : WOk Tryz.prog 153 W153 :=qX2 (pl :=P153) λ_ _ _ _=>by kernel_rfl
def P154 : Pl :=(.n none .z (.n none .z (.n none .z (.n none (.n none .z (.n none (.n (some [20,19,18,5,0]) .z .z) .z)) .z))))
def S154 : tE2 Tryz.prog P154 154 :=λ_ _ _ _=>.mk _
def P155 : Pl :=(.n none .z (.n none (.r [[10,7]]) .z))
def S155 : tE1 Tryz.prog P155 155 :=λ_ _ _=>.mk _
def P156 : Pl :=.z
def S156 : tE1 Tryz.prog P156 156 :=λ_ _ _=>.mk _
def P157 : Pl :=.z
def S157 : tE1 Tryz.prog P157 157 :=λ_ _ _=>.mk _
def P158 : Pl :=.z
def S158 : tE1 Tryz.prog P158 158 :=λ_ _ _=>.mk _
def P159 : Pl :=.z
def S159 : tE1 Tryz.prog P159 159 :=λ_ _ _=>.mk _
def P160 : Pl :=.z
def S160 : tE1 Tryz.prog P160 160 :=λ_ _ _=>.mk _
def P161 : Pl :=.z
def S161 : tE1 Tryz.prog P161 161 :=λ_ _ _=>.mk _
def P162 : Pl :=.z
def S162 : tE1 Tryz.prog P162 162 :=λ_ _ _=>.mk _
def P163 : Pl :=(.n none .z (.n none (.r [[14,7]]) .z))
def S163 : tE2 Tryz.prog P163 163 :=λ_ _ _ _=>.mk _
def P164 : Pl :=(.n none .z (.n none (.r [[14,7]]) .z))
def S164 : tE2 Tryz.prog P164 164 :=λ_ _ _ _=>.mk _
def P165 : Pl :=.z
def S165 : tE3 Tryz.prog P165 165 :=λ_ _ _ _ _=>.mk _
def P166 : Pl :=(.n none .z (.n none (.r [[14,7]]) .z))
def S166 : tE2 Tryz.prog P166 166 :=λ_ _ _ _=>.mk _
def P167 : Pl :=(.n none .z (.n none .z (.n none (.r [[4]]) .z)))
def S167 : tE2 Tryz.prog P167 167 :=λ_ _ _ _=>.mk _
def P168 : Pl :=(.n none .z (.n none (.n none .z (.n none (.n none (.r [[3,2]]) .z) .z)) (.n none (.n none (.n (some [0]) .z .z) .z) .z)))
def S168 : tE1 Tryz.prog P168 168 :=λ_ _ _=>.mk _
def P169 : Pl :=(.n none (.r [[0]]) .z)
def S169 : tE2 Tryz.prog P169 169 :=λ_ _ _ _=>.mk _
def P170 : Pl :=.z
def S170 : tE1 Tryz.prog P170 170 :=λ_ _ _=>.mk _
def P171 : Pl :=(.n none (.r [[1,0]]) .z)
def S171 : tE2 Tryz.prog P171 171 :=λ_ _ _ _=>.mk _
def P172 : Pl :=.z
def S172 : tE7 Tryz.prog P172 172 :=λ_ _ _ _ _ _ _ _ _=>.mk _
def P173 : Pl :=.z
def S173 : tE3 Tryz.prog P173 173 :=λ_ _ _ _ _=>.mk _
def P174 : Pl :=(.n none .z (.n (some []) (.n none .z (.n none .z (.n none .z (.n none .z (.n none .z (.n none .z (.n none .z (.n none (.r [[]]) .z)))))))) .z))
def S174 : tE1 Tryz.prog P174 174 :=λ_ _ _=>.mk _
def P175 : Pl :=.z
def S175 : tE1 Tryz.prog P175 175 :=λ_ _ _=>.mk _
def P176 : Pl :=(.n none .z (.n none (.r [[8,6]]) .z))
def S176 : tE1 Tryz.prog P176 176 :=λ_ _ _=>.mk _
def P177 : Pl :=.z
def S177 : tE1 Tryz.prog P177 177 :=λ_ _ _=>.mk _
def P178 : Pl :=(.n none .z (.n none .z (.n none (.n none .z (.n none (.n (some [14,13,12,6,5,1,0]) (.n none .z (.n none .z (.n none (.n (some [14,13,12,6,5,1,0]) .z .z) .z))) .z) .z)) .z)))
def S178 : tE2 Tryz.prog P178 178 :=λ_ _ _ _=>.mk _
def P179 : Pl :=.z
def S179 : tE1 Tryz.prog P179 179 :=λ_ _ _=>.mk _
def P180 : Pl :=.z
def S180 : tE0 Tryz.prog P180 180 :=λ_ _=>.mk _
def P181 : Pl :=(.n none .z (.n none .z (.n none (.r [[21,17,5,4,1],[27,23,5,1],[33,29,1],[39,35,1],[42,39,35],[43,35]]) .z)))
def S181 : tE1 Tryz.prog P181 181 :=λ_ _ _=>.mk _
def P182 : Pl :=(.n none .z (.n none .z (.n none (.r [[4]]) .z)))
def S182 : tE2 Tryz.prog P182 182 :=λ_ _ _ _=>.mk _
def P183 : Pl :=(.n none .z (.n none (.r [[7,5]]) .z))
def S183 : tE1 Tryz.prog P183 183 :=λ_ _ _=>.mk _
def P184 : Pl :=(.n none .z (.n none (.r [[7,5]]) .z))
def S184 : tE1 Tryz.prog P184 184 :=λ_ _ _=>.mk _
def P185 : Pl :=.z
def S185 : tE2 Tryz.prog P185 185 :=λ_ _ _ _=>.mk _
def P186 : Pl :=.z
def S186 : tE2 Tryz.prog P186 186 :=λ_ _ _ _=>.mk _
def P187 : Pl :=(.n none .z (.n none .z (.n none .z (.n none (.r [[17,15,9]]) .z))))
def S187 : tE3 Tryz.prog P187 187 :=λ_ _ _ _ _=>.mk _
def P188 : Pl :=(.n none .z (.n none .z (.n none .z (.n none (.r [[17,15,9]]) .z))))
def S188 : tE3 Tryz.prog P188 188 :=λ_ _ _ _ _=>.mk _
def P189 : Pl :=(.n none .z (.n none .z (.n none .z (.n none (.r [[17,15,9]]) .z))))
def S189 : tE3 Tryz.prog P189 189 :=λ_ _ _ _ _=>.mk _
def P190 : Pl :=(.n none .z (.n none .z (.n none .z (.n none (.r [[19,17,11]]) .z))))
def S190 : tE4 Tryz.prog P190 190 :=λ_ _ _ _ _ _=>.mk _
def P191 : Pl :=.z
def S191 : tE2 Tryz.prog P191 191 :=λ_ _ _ _=>.mk _
def P192 : Pl :=.z
def S192 : tE3 Tryz.prog P192 192 :=λ_ _ _ _ _=>.mk _
def P193 : Pl :=(.n none .z (.n none .z (.n none .z (.n none (.r [[17,15,9]]) .z))))
def S193 : tE3 Tryz.prog P193 193 :=λ_ _ _ _ _=>.mk _
def P194 : Pl :=.z
def S194 : tE3 Tryz.prog P194 194 :=λ_ _ _ _ _=>.mk _
def P195 : Pl :=(.n none .z (.n none .z (.n none (.n none (.r [[24,22,9,8,7,4,0]]) .z) .z)))
def S195 : tE3 Tryz.prog P195 195 :=λ_ _ _ _ _=>.mk _
def P196 : Pl :=(.n none .z (.n none .z (.n none .z (.n none (.r [[19,17,11]]) .z))))
def S196 : tE4 Tryz.prog P196 196 :=λ_ _ _ _ _ _=>.mk _
def P197 : Pl :=.z
def S197 : tE3 Tryz.prog P197 197 :=λ_ _ _ _ _=>.mk _
def P198 : Pl :=(.n none .z (.n none .z (.n none .z (.n none (.r [[17,15,9]]) .z))))
def S198 : tE3 Tryz.prog P198 198 :=λ_ _ _ _ _=>.mk _
def P199 : Pl :=.z
def S199 : tE4 Tryz.prog P199 199 :=λ_ _ _ _ _ _=>.mk _
def P200 : Pl :=(.n none .z (.n none (.n none (.r [[13,8,1,0],[20,15,1,0]]) .z) .z))
def S200 : tE2 Tryz.prog P200 200 :=λ_ _ _ _=>.mk _
def P201 : Pl :=.z
def S201 : tE3 Tryz.prog P201 201 :=λ_ _ _ _ _=>.mk _
def P202 : Pl :=.z
def S202 : tE2 Tryz.prog P202 202 :=λ_ _ _ _=>.mk _
def P203 : Pl :=(.n none .z (.n none .z (.n (some [7,5,1,0]) (.n none (.r [[19,17,7,5,1,0]]) .z) (.n (some [7,1,0]) .z (.n (some [7]) .z .z)))))
def S203 : tE2 Tryz.prog P203 203 :=λ_ _ _ _=>.mk _
def P204 : Pl :=(.n none .z (.n none .z (.n none (.r [[]]) .z)))
def S204 : tE3 Tryz.prog P204 204 :=λ_ _ _ _ _=>.mk _
def P205 : Pl :=.z
def S205 : tE1 Tryz.prog P205 205 :=λ_ _ _=>.mk _
def P206 : Pl :=.z
def S206 : tE1 Tryz.prog P206 206 :=λ_ _ _=>.mk _
def P207 : Pl :=.z
def S207 : tE2 Tryz.prog P207 207 :=λ_ _ _ _=>.mk _
def P208 : Pl :=.z
def S208 : tE1 Tryz.prog P208 208 :=λ_ _ _=>.mk _
def P209 : Pl :=(.n none .z (.n none (.n none (.n (some [0]) .z .z) .z) .z))
def S209 : tE1 Tryz.prog P209 209 :=λ_ _ _=>.mk _
def P210 : Pl :=.z
def S210 : tE2 Tryz.prog P210 210 :=λ_ _ _ _=>.mk _
def P213 : Pl :=(.n none .z (.n none (.n (some [3,1,0]) .z .z) .z))
def S213 : tE2 Tryz.prog P213 213 :=λ_ _ _ _=>.mk _
def P214 : Pl :=(.n none .z (.n none (.n none (.r [[12,10,2,1,0]]) .z) .z))
def S214 : tE3 Tryz.prog P214 214 :=λ_ _ _ _ _=>.mk _
def P215 : Pl :=.z
def S215 : tE2 Tryz.prog P215 215 :=λ_ _ _ _=>.mk _
def P216 : Pl :=.z
def S216 : tE1 Tryz.prog P216 216 :=λ_ _ _=>.mk _
def P217 : Pl :=(.n none .z (.n none (.n none (.r [[14,12,2,1,0]]) .z) (.n none .z (.n none (.n none .z (.n none (.r [[32,29,7,2,1]]) .z)) .z))))
def S217 : tE3 Tryz.prog P217 217 :=λ_ _ _ _ _=>.mk _
def P218 : Pl :=.z
def S218 : tE1 Tryz.prog P218 218 :=λ_ _ _=>.mk _
def P219 : Pl :=(.n none .z (.n none .z (.n none (.n none .z (.n none (.n (some [17,16,15,3,0]) .z .z) .z)) .z)))
def S219 : tE1 Tryz.prog P219 219 :=λ_ _ _=>.mk _
def P220 : Pl :=(.n none .z (.n none (.n none .z (.n none (.n none (.r [[11,8]]) .z) .z)) (.n none (.r [[19,16]]) .z)))
def S220 : tE1 Tryz.prog P220 220 :=λ_ _ _=>.mk _
def P221 : Pl :=.z
def S221 : tE1 Tryz.prog P221 221 :=λ_ _ _=>.mk _
def P222 : Pl :=.z
def S222 : tE5 Tryz.prog P222 222 :=λ_ _ _ _ _ _ _=>.mk _
def P223 : Pl :=.z
def S223 : tE3 Tryz.prog P223 223 :=λ_ _ _ _ _=>.mk _
def P224 : Pl :=.z
def S224 : tE3 Tryz.prog P224 224 :=λ_ _ _ _ _=>.mk _
def P225 : Pl :=.z
def S225 : tE2 Tryz.prog P225 225 :=λ_ _ _ _=>.mk _
def P226 : Pl :=(.n none .z (.n none .z (.n none (.n none .z (.n none (.n (some [13,12,11,7,2,1]) (.n none .z (.n none .z (.n none (.n (some [13,12,11,7,2,1]) .z .z) .z))) .z) .z)) .z)))
def S226 : tE3 Tryz.prog P226 226 :=λ_ _ _ _ _=>.mk _
def P227 : Pl :=.z
def S227 : tE1 Tryz.prog P227 227 :=λ_ _ _=>.mk _
def P228 : Pl :=(.n none .z (.n none (.r [[2,0]]) (.n none .z (.n (some []) (.n none .z (.n none (.n none (.r [[0]]) .z) .z)) .z))))
def S228 : tE1 Tryz.prog P228 228 :=λ_ _ _=>.mk _
def P229 : Pl :=.z
def S229 : tE1 Tryz.prog P229 229 :=λ_ _ _=>.mk _
def P230 : Pl :=.z
def S230 : tE1 Tryz.prog P230 230 :=λ_ _ _=>.mk _
def P231 : Pl :=(.n none .z (.n none (.n none .z (.n none (.n (some [9,8,7,1]) (.n none .z (.n none .z (.n none (.n none (.n none .z (.n none (.r [[18,15,9,8,7,1]]) .z)) .z) .z))) .z) .z)) .z))
def S231 : tE2 Tryz.prog P231 231 :=λ_ _ _ _=>.mk _
def P232 : Pl :=(.n none .z (.n none .z (.n none (.n none .z (.n (some [4,3,2]) (.n (some [8,7,5,4,3,2]) .z (.n none .z (.n (some [13,7,5,4,3,2]) .z (.n none (.r [[4,3,2]]) (.n (some [18,7,5,4,3,2]) .z (.n none (.r [[4,3,2]]) (.n (some [27,7,5,4,3,2]) .z (.n none (.r [[4,3,2]]) .z)))))))) .z)) (.n none (.r [[4,3,2]]) .z))))
def S232 : tE1 Tryz.prog P232 232 :=λ_ _ _=>.mk _
def P233 : Pl :=.z
def S233 : tE1 Tryz.prog P233 233 :=λ_ _ _=>.mk _
def P234 : Pl :=(.n none .z (.n none (.r [[13,9]]) .z))
def S234 : tE2 Tryz.prog P234 234 :=λ_ _ _ _=>.mk _
def P235 : Pl :=(.n none .z (.n none .z (.n none .z (.n none (.r [[]]) .z))))
def S235 : tE4 Tryz.prog P235 235 :=λ_ _ _ _ _ _=>.mk _
def P236 : Pl :=.z
def S236 : tE2 Tryz.prog P236 236 :=λ_ _ _ _=>.mk _
def P237 : Pl :=(.n none .z (.n none (.n none (.r [[17,15,2,0]]) .z) (.n none .z (.n none .z (.n none .z (.n none .z (.n none .z (.n none (.n none .z (.n none (.n (some [67,66,65,0]) .z .z) .z)) .z))))))))
def S237 : tE3 Tryz.prog P237 237 :=λ_ _ _ _ _=>.mk _
def P238 : Pl :=(.n none .z (.n none (.n none (.r [[22,18,6,5,3,2,0]]) .z) .z))
def S238 : tE4 Tryz.prog P238 238 :=λ_ _ _ _ _ _=>.mk _
def P239 : Pl :=(.n none .z (.n none .z (.n none (.n (some [7,6]) (.n (some [7,6,2,0]) (.n none .z (.n none (.n none .z (.n none (.n none (.r [[22,16,7,6,2,0]]) .z) .z)) .z)) .z) .z) .z)))
def S239 : tE3 Tryz.prog P239 239 :=λ_ _ _ _ _=>.mk _
def P240 : Pl :=.z
def S240 : tE1 Tryz.prog P240 240 :=λ_ _ _=>.mk _
def P241 : Pl :=(.n none .z (.n none (.r [[11,9,2,1,0],[19,13]]) .z))
def S241 : tE3 Tryz.prog P241 241 :=λ_ _ _ _ _=>.mk _
def P242 : Pl :=.z
def S242 : tE2 Tryz.prog P242 242 :=λ_ _ _ _=>.mk _
def P243 : Pl :=.z
def S243 : tE3 Tryz.prog P243 243 :=λ_ _ _ _ _=>.mk _
def P244 : Pl :=.z
def S244 : tE3 Tryz.prog P244 244 :=λ_ _ _ _ _=>.mk _
def P245 : Pl :=.z
def S245 : tE4 Tryz.prog P245 245 :=λ_ _ _ _ _ _=>.mk _
def P246 : Pl :=.z
def S246 : tE2 Tryz.prog P246 246 :=λ_ _ _ _=>.mk _
def P247 : Pl :=.z
def S247 : tE2 Tryz.prog P247 247 :=λ_ _ _ _=>.mk _
def P248 : Pl :=.z
def S248 : tE4 Tryz.prog P248 248 :=λ_ _ _ _ _ _=>.mk _
def P249 : Pl :=(.n none .z (.n (some [6,4,3,2,0]) (.n none (.r [[20,15,6,4,3,2,1,0]]) .z) (.n none .z (.n none .z (.n none .z (.n (some [7,6,4,3,2,0]) (.n none (.r [[53,43,7,6,4,3,2,0],[60,55,7,6,4,3,2,0]]) .z) .z))))))
def S249 : tE5 Tryz.prog P249 249 :=λ_ _ _ _ _ _ _=>.mk _
def P250 : Pl :=(.n none .z (.n none .z (.n none .z (.n none .z (.n none .z (.n (some [6,5,0]) (.n none (.r [[40,38,6,5,0],[47,42,6,5,0]]) .z) .z))))))
def S250 : tE2 Tryz.prog P250 250 :=λ_ _ _ _=>.mk _
def P251 : Pl :=(.n none .z (.n none .z (.n none (.n none .z (.n none (.n (some [14,5,1,0]) .z .z) .z)) .z)))
def S251 : tE2 Tryz.prog P251 251 :=λ_ _ _ _=>.mk _
def P252 : Pl :=(.n none .z (.n none (.r [[4,1,0]]) (.n none (.n none (.n (some [4,1,0]) (.n none .z (.n none (.n none .z (.n none (.n none (.r [[39,30,5,4,1,0]]) .z) .z)) .z)) .z) .z) .z)))
def S252 : tE2 Tryz.prog P252 252 :=λ_ _ _ _=>.mk _
def P253 : Pl :=(.n none .z (.n none .z (.n none .z (.n none .z (.n none .z (.n none (.n none .z (.n none (.n (some [25,24,23,4,2,1]) .z .z) .z)) (.n none .z (.n none (.r [[4,2,1]]) .z))))))))
def S253 : tE1 Tryz.prog P253 253 :=λ_ _ _=>.mk _
def P254 : Pl :=(.n none .z (.n none .z (.n none (.n none (.r [[20,13,4,3,1,0],[25,22,4,3,0],[31,25,22,4,3,0],[32,22,4,3,0]]) .z) .z)))
def S254 : tE5 Tryz.prog P254 254 :=λ_ _ _ _ _ _ _=>.mk _
def P255 : Pl :=.z
def S255 : tE1 Tryz.prog P255 255 :=λ_ _ _=>.mk _
def P256 : Pl :=(.n none .z (.n none (.n none (.r [[20,15,6,4,3,2,0]]) .z) .z))
def S256 : tE5 Tryz.prog P256 256 :=λ_ _ _ _ _ _ _=>.mk _
def P257 : Pl :=(.n none .z (.n none (.n none (.r [[19,14,5,3,2,0]]) .z) .z))
def S257 : tE4 Tryz.prog P257 257 :=λ_ _ _ _ _ _=>.mk _
def P258 : Pl :=.z
def S258 : tE3 Tryz.prog P258 258 :=λ_ _ _ _ _=>.mk _
def P259 : Pl :=.z
def S259 : tE2 Tryz.prog P259 259 :=λ_ _ _ _=>.mk _
def P260 : Pl :=.z
def S260 : tE5 Tryz.prog P260 260 :=λ_ _ _ _ _ _ _=>.mk _
def P261 : Pl :=(.n none .z (.n none .z (.n none (.n none .z (.n none (.n (some [5,1,0]) (.n none (.n none (.r [[20,15,5,1,0]]) .z) (.n none (.n none .z (.n none .z (.n none .z (.n (some [7,5,1,0]) .z .z)))) .z)) .z) .z)) .z)))
def S261 : tE2 Tryz.prog P261 261 :=λ_ _ _ _=>.mk _
def P262 : Pl :=.z
def S262 : tE3 Tryz.prog P262 262 :=λ_ _ _ _ _=>.mk _
def P263 : Pl :=(.n none (.n none (.n (some [0]) (.n none (.n none (.r [[17,12,0]]) .z) (.n none (.n none .z (.n none (.r [[4,3,2,0]]) .z)) .z)) .z) .z) (.n none (.r [[92,87,0]]) .z))
def S263 : tE1 Tryz.prog P263 263 :=λ_ _ _=>.mk _
def P264 : Pl :=.z
def S264 : tE5 Tryz.prog P264 264 :=λ_ _ _ _ _ _ _=>.mk _
def P265 : Pl :=(.n none .z (.n none .z (.n none (.r [[18,16,6,5,3]]) .z)))
def S265 : tE4 Tryz.prog P265 265 :=λ_ _ _ _ _ _=>.mk _
def P266 : Pl :=(.n (some [1,0]) (.n none (.r [[15,11,1,0]]) (.n none (.n none .z (.n none (.r [[4,1,0]]) (.n none (.r [[4,0]]) .z))) .z)) (.n none .z (.n (some [5,1,0]) .z (.n none .z (.n none .z (.n none (.n (some [1,0]) .z .z) .z))))))
def S266 : tE2 Tryz.prog P266 266 :=λ_ _ _ _=>.mk _
def P267 : Pl :=(.n none .z (.r [[]]))
def S267 : tE5 Tryz.prog P267 267 :=λ_ _ _ _ _ _ _=>.mk _
def P268 : Pl :=(.n none .z (.n none (.n none (.r [[20,14,4,3,2,1,0]]) .z) (.n none .z (.n (some [11,4,3,2,1,0]) .z (.n (some [11,4,3,2,1,0]) (.n none (.r [[47,44,11,4,3,2,1,0]]) .z) (.n (some [4]) .z .z))))))
def S268 : tE5 Tryz.prog P268 268 :=λ_ _ _ _ _ _ _=>.mk _
def P269 : Pl :=.z
def S269 : tE1 Tryz.prog P269 269 :=λ_ _ _=>.mk _
def P270 : Pl :=(.n none .z (.n none .z (.n none (.n none .z (.n none (.n (some [3,0]) .z .z) .z)) .z)))
def S270 : tE1 Tryz.prog P270 270 :=λ_ _ _=>.mk _
def P271 : Pl :=(.n none .z (.n none .z (.n none .z (.n none .z (.n (some [10,8]) .z .z)))))
def S271 : tE3 Tryz.prog P271 271 :=λ_ _ _ _ _=>.mk _
def P272 : Pl :=(.n none .z (.n none .z (.n none .z (.n none (.n none (.r [[22,20,6,1,0],[33,24,6,1,0]]) .z) .z))))
def S272 : tE2 Tryz.prog P272 272 :=λ_ _ _ _=>.mk _
def P273 : Pl :=.z
def S273 : tE2 Tryz.prog P273 273 :=λ_ _ _ _=>.mk _
def P274 : Pl :=.z
def S274 : tE1 Tryz.prog P274 274 :=λ_ _ _=>.mk _
def P275 : Pl :=.z
def S275 : tE1 Tryz.prog P275 275 :=λ_ _ _=>.mk _
def P276 : Pl :=(.n none .z (.n none .z (.n none .z (.n none .z (.n none .z (.n none (.r [[2]]) .z))))))
def S276 : tE1 Tryz.prog P276 276 :=λ_ _ _=>.mk _
def P277 : Pl :=.z
def S277 : tE2 Tryz.prog P277 277 :=λ_ _ _ _=>.mk _
def P278 : Pl :=.z
def S278 : tE1 Tryz.prog P278 278 :=λ_ _ _=>.mk _
def P279 : Pl :=.z
def S279 (_ : CV) (a0 : AV) (h : AH) : R :=
zG .lss a0 (iI 10) λv0=>
zt v0 (
zG .add a0 (iI 1) λv1=>
gX (.str [48,49,50,51,52,53,54,55,56,57,97,98,99,100,101,102,103,104,105,106,107,108,109,110,111,112,113,114,115,116,117,118,119,120,121,122]) (some a0) (some v1) λv2=>
some (v2,h)) (
zG .mul a0 (iI 2) λv3=>
zG .mul a0 (iI 2) λv4=>
zG .add v4 (iI 2) λv5=>
gX (.str [48,48,48,49,48,50,48,51,48,52,48,53,48,54,48,55,48,56,48,57,49,48,49,49,49,50,49,51,49,52,49,53,49,54,49,55,49,56,49,57,50,48,50,49,50,50,50,51,50,52,50,53,50,54,50,55,50,56,50,57,51,48,51,49,51,50,51,51,51,52,51,53,51,54,51,55,51,56,51,57,52,48,52,49,52,50,52,51,52,52,52,53,52,54,52,55,52,56,52,57,53,48,53,49,53,50,53,51,53,52,53,53,53,54,53,55,53,56,53,57,54,48,54,49,54,50,54,51,54,52,54,53,54,54,54,55,54,56,54,57,55,48,55,49,55,50,55,51,55,52,55,53,55,54,55,55,55,56,55,57,56,48,56,49,56,50,56,51,56,52,56,53,56,54,56,55,56,56,56,57,57,48,57,49,57,50,57,51,57,52,57,53,57,54,57,55,57,56,57,57]) (some v3) (some v5) λv6=>
some (v6,h))
def W279 : WF :=w_1 S279
theorem W279_ok : WOk Tryz.prog 279 W279 :=Kf (pl :=P279) λ_ _ _=>by kernel_rfl
def P282 : Pl :=(.n none .z (.n (some [11,10,4,3,2,1,0]) (.n none (.r [[23,21,11,10,4,3,2,1,0],[27,25,11,10,4,3,2,1,0]]) .z) (.n none .z (.n none .z (.n (some [13,12,11,10,4,3,2,1,0]) .z (.n (some [13,12,11,10,4,3,0]) (.n none .z (.n none (.n none .z (.n none .z (.n none .z (.n none (.n none (.n (some [16,15,14,13,12,11,10,4,3,1,0]) .z .z) .z) .z)))) (.n none .z (.n none (.n none (.n (some [17,13,12,11,10,4,3,1,0]) .z .z) .z) .z)))) (.n (some [13,12,11,10,4,0]) .z .z)))))))
def S282 (c : CV) (a0 a1 a2 a3 a4 : AV) (h : AH) : R :=
yB (α :=AV×AV×AV×AV×AV×AV×AV×Unit→AH→List Nat→R) (λs0 h1 d2=>
gi h1 356 (.agg [(.int .u8 (.ofNat 0)),(.int .u8 (.ofNat 0)),(.int .u8 (.ofNat 0)),(.int .u8 (.ofNat 0)),(.int .u8 (.ofNat 0)),(.int .u8 (.ofNat 0)),(.int .u8 (.ofNat 0)),(.int .u8 (.ofNat 0)),(.int .u8 (.ofNat 0)),(.int .u8 (.ofNat 0)),(.int .u8 (.ofNat 0)),(.int .u8 (.ofNat 0)),(.int .u8 (.ofNat 0)),(.int .u8 (.ofNat 0)),(.int .u8 (.ofNat 0)),(.int .u8 (.ofNat 0)),(.int .u8 (.ofNat 0)),(.int .u8 (.ofNat 0)),(.int .u8 (.ofNat 0)),(.int .u8 (.ofNat 0)),(.int .u8 (.ofNat 0)),(.int .u8 (.ofNat 0)),(.int .u8 (.ofNat 0)),(.int .u8 (.ofNat 0)),(.int .u8 (.ofNat 0)),(.int .u8 (.ofNat 0)),(.int .u8 (.ofNat 0)),(.int .u8 (.ofNat 0)),(.int .u8 (.ofNat 0)),(.int .u8 (.ofNat 0)),(.int .u8 (.ofNat 0)),(.int .u8 (.ofNat 0)),(.int .u8 (.ofNat 0)),(.int .u8 (.ofNat 0)),(.int .u8 (.ofNat 0)),(.int .u8 (.ofNat 0)),(.int .u8 (.ofNat 0)),(.int .u8 (.ofNat 0)),(.int .u8 (.ofNat 0)),(.int .u8 (.ofNat 0)),(.int .u8 (.ofNat 0)),(.int .u8 (.ofNat 0)),(.int .u8 (.ofNat 0)),(.int .u8 (.ofNat 0)),(.int .u8 (.ofNat 0)),(.int .u8 (.ofNat 0)),(.int .u8 (.ofNat 0)),(.int .u8 (.ofNat 0)),(.int .u8 (.ofNat 0)),(.int .u8 (.ofNat 0)),(.int .u8 (.ofNat 0)),(.int .u8 (.ofNat 0)),(.int .u8 (.ofNat 0)),(.int .u8 (.ofNat 0)),(.int .u8 (.ofNat 0)),(.int .u8 (.ofNat 0)),(.int .u8 (.ofNat 0)),(.int .u8 (.ofNat 0)),(.int .u8 (.ofNat 0)),(.int .u8 (.ofNat 0)),(.int .u8 (.ofNat 0)),(.int .u8 (.ofNat 0)),(.int .u8 (.ofNat 0)),(.int .u8 (.ofNat 0)),(.int .u8 (.ofNat 0))]) λv4 h5=>
yB (α :=u9_1→AH→List Nat→R) (λs6 h7 d8=>
yB (α :=AV×AV×AV×AV×AV×AV×AV×Unit→AH→List Nat→R) (λs10 h11 d12=>
yB (α :=AV×AV×AV×AV×AV×AV×Unit→AH→List Nat→R) (λs14 h15 d16=>
zt s14.2.2.2.2.1 (
gk 65 1 s14.2.1 (some s14.1) none λv18=>
xx h15 5 1 s14.2.2.2.2.2.1 v18 λv19 h20=>
z7 d16 h20 λh21=>
some ((.tup [v19,s14.2.2.1]),h21)) (
gk 65 1 s14.2.1 (some s14.1) none λv22=>
Vv h15 v22 λv23=>
z7 d16 h15 λh24=>
some ((.tup [s14.2.2.2.1,v23]),h24))) λj17=>
zt s10.2.2.2.2.2.1 (
zG .sub s10.1 (iI 1) λv25=>
QC s10.2.1 v25 65 1 λv26=>
jd h11 v26 (.int .u8 (.ofNat 45)) 1 λh27=>
j17 (v25,s10.2.1,s10.2.2.1,s10.2.2.2.1,s10.2.2.2.2.1,s10.2.2.2.2.2.2.1,()) h27 d12) (
j17 (s10.1,s10.2.1,s10.2.2.1,s10.2.2.2.1,s10.2.2.2.2.1,s10.2.2.2.2.2.2.1,()) h11 d12)) λj13=>
zz c (.fn 320 [] []) [s6.2.2.2.2.2.2.1] h7 λv28 h29=>
zt v28 (
vi .u64 s6.2.2.2.2.2.2.1 λv30=>
zz c (.fn 321 [] []) [v30] h29 λv31 h32=>
vi .u64 v31 λv33=>
vi .u64 s6.2.2.2.2.2.2.1 λv34=>
vi .u64 s6.2.2.2.2.2.2.1 λv35=>
zG .sub v35 (uU 1) λv36=>
YU (σ :=AV×AV×AV×AV×AV×AV×AV×AV×AV×AV×AV×Unit) NN (λi40 s37 h38 d39=>
zG .geq s37.2.2.2.2.2.2.2.2.2.1 s37.2.1 λv41=>
zt v41 (
zG .sub s37.2.2.2.1 (iI 1) λv42=>
zG .and s37.2.2.2.2.2.2.2.2.2.1 s37.1 λv43=>
gj (.str [48,49,50,51,52,53,54,55,56,57,97,98,99,100,101,102,103,104,105,106,107,108,109,110,111,112,113,114,115,116,117,118,119,120,121,122]) v43 λv44=>
QC s37.2.2.2.2.1 v42 65 1 λv45=>
jd h38 v45 v44 1 λh46=>
wM .shr s37.2.2.2.2.2.2.2.2.2.1 s37.2.2.1 λv47=>
i40 (s37.1,s37.2.1,s37.2.2.1,v42,s37.2.2.2.2.1,s37.2.2.2.2.2.1,s37.2.2.2.2.2.2.1,s37.2.2.2.2.2.2.2.1,s37.2.2.2.2.2.2.2.2.1,v47,s37.2.2.2.2.2.2.2.2.2.2.1,()) h46 d39) (
zG .sub s37.2.2.2.1 (iI 1) λv48=>
gj (.str [48,49,50,51,52,53,54,55,56,57,97,98,99,100,101,102,103,104,105,106,107,108,109,110,111,112,113,114,115,116,117,118,119,120,121,122]) s37.2.2.2.2.2.2.2.2.2.1 λv49=>
QC s37.2.2.2.2.1 v48 65 1 λv50=>
jd h38 v50 v49 1 λh51=>
j13 (v48,s37.2.2.2.2.1,s37.2.2.2.2.2.1,s37.2.2.2.2.2.2.1,s37.2.2.2.2.2.2.2.1,s37.2.2.2.2.2.2.2.2.1,s37.2.2.2.2.2.2.2.2.2.2.1,()) h51 d39)) (v36,v34,v33,s6.1,s6.2.1,s6.2.2.1,s6.2.2.2.1,s6.2.2.2.2.1,s6.2.2.2.2.2.1,s6.2.2.2.2.2.2.2.1,s6.2.2.2.2.2.2.2.2.1,()) h32 d8) (
vi .u64 s6.2.2.2.2.2.2.1 λv52=>
YU (σ :=u9_1) NN (λi56 s53 h54 d55=>
zG .geq s53.2.2.2.2.2.2.2.1 s53.1 λv57=>
zt v57 (
zG .sub s53.2.1 (iI 1) λv58=>
zG .quo s53.2.2.2.2.2.2.2.1 s53.1 λv59=>
zG .mul v59 s53.1 λv60=>
zG .sub s53.2.2.2.2.2.2.2.1 v60 λv61=>
gj (.str [48,49,50,51,52,53,54,55,56,57,97,98,99,100,101,102,103,104,105,106,107,108,109,110,111,112,113,114,115,116,117,118,119,120,121,122]) v61 λv62=>
QC s53.2.2.1 v58 65 1 λv63=>
jd h54 v63 v62 1 λh64=>
i56 (s53.1,v58,s53.2.2.1,s53.2.2.2.1,s53.2.2.2.2.1,s53.2.2.2.2.2.1,s53.2.2.2.2.2.2.1,v59,s53.2.2.2.2.2.2.2.2.1,()) h64 d55) (
zG .sub s53.2.1 (iI 1) λv65=>
gj (.str [48,49,50,51,52,53,54,55,56,57,97,98,99,100,101,102,103,104,105,106,107,108,109,110,111,112,113,114,115,116,117,118,119,120,121,122]) s53.2.2.2.2.2.2.2.1 λv66=>
QC s53.2.2.1 v65 65 1 λv67=>
jd h54 v67 v66 1 λh68=>
j13 (v65,s53.2.2.1,s53.2.2.2.1,s53.2.2.2.2.1,s53.2.2.2.2.2.1,s53.2.2.2.2.2.2.1,s53.2.2.2.2.2.2.2.2.1,()) h68 d55)) (v52,s6.1,s6.2.1,s6.2.2.1,s6.2.2.2.1,s6.2.2.2.2.1,s6.2.2.2.2.2.1,s6.2.2.2.2.2.2.2.1,s6.2.2.2.2.2.2.2.2.1,()) h29 d8)) λj9=>
zt s0.2.2.2.1 (
pUn .neg s0.2.2.2.2.2.1 λv69=>
j9 ((iI 65),v4,s0.1,s0.2.1,s0.2.2.1,s0.2.2.2.1,s0.2.2.2.2.1,v69,s0.2.2.2.2.2.2.1,()) h5 d2) (
j9 ((iI 65),v4,s0.1,s0.2.1,s0.2.2.1,s0.2.2.2.1,s0.2.2.2.2.1,s0.2.2.2.2.2.1,s0.2.2.2.2.2.2.1,()) h5 d2)) λj3=>
zG .lss a2 (iI 2) λv70=>
yB (α :=u9_1→AH→R) (λs71 h72=>
ky s71.2.1 (.bool true) s71.1 λv74=>
yB (α :=u9_1→AH→R) (λs75 h76=>
ky s75.2.1 (.bool true) s75.1 λv78=>
zt v78 (
none/-op-/) (
j3 (s75.2.2.1,s75.2.2.2.1,s75.2.2.2.2.1,s75.2.2.2.2.2.1,s75.2.2.2.2.2.2.1,s75.2.2.2.2.2.2.2.1,s75.2.2.2.2.2.2.2.2.1,()) h76 [])) λj77=>
ke v74 false (
zG .gtr s71.2.2.2.2.2.2.1 (iI 36) λv79=>
j77 (v79,v74,s71.2.2.1,s71.2.2.2.1,s71.2.2.2.2.1,s71.2.2.2.2.2.1,s71.2.2.2.2.2.2.1,s71.2.2.2.2.2.2.2.1,s71.2.2.2.2.2.2.2.2.1,()) h72) (
j77 (.undef,v74,s71.2.2.1,s71.2.2.2.1,s71.2.2.2.2.1,s71.2.2.2.2.2.1,s71.2.2.2.2.2.2.1,s71.2.2.2.2.2.2.2.1,s71.2.2.2.2.2.2.2.2.1,()) h72)) λj73=>
ke v70 false (
zG .eql a2 (iI 10) λv80=>
j73 (v80,v70,(.str []),.nils,a4,a3,a2,a1,a0,()) h) (
j73 (.undef,v70,(.str []),.nils,a4,a3,a2,a1,a0,()) h)
def W282 : WF :=w_5 S282
theorem W282_ok : WOk Tryz.prog 282 W282 :=jQa (pl :=P282) λ_ _ _ _ _ _ _=>by kernel_rfl
def P285 : Pl :=.z
def S285 : tE2 Tryz.prog P285 285 :=λ_ _ _ _=>.mk _
def P286 : Pl :=(.n none .z (.n none .z (.n none (.n none .z (.n none (.n (some [15,14,13,3]) .z .z) .z)) .z)))
def S286 : tE1 Tryz.prog P286 286 :=λ_ _ _=>.mk _
def P287 : Pl :=(.n none .z (.n none (.r [[7,5]]) .z))
def S287 : tE1 Tryz.prog P287 287 :=λ_ _ _=>.mk _
def P290 : Pl :=.z
def S290 : tE1 Tryz.prog P290 290 :=λ_ _ _=>.mk _
def P291 : Pl :=(.n none .z (.n none (.n none (.r [[13,10,3,0],[18,15,3,0]]) .z) .z))
def S291 : tE2 Tryz.prog P291 291 :=λ_ _ _ _=>.mk _
def P292 : Pl :=.z
def S292 : tE1 Tryz.prog P292 292 :=λ_ _ _=>.mk _
def P293 : Pl :=.z
def S293 : tE1 Tryz.prog P293 293 :=λ_ _ _=>.mk _
def P294 : Pl :=.z
def S294 : tE1 Tryz.prog P294 294 :=λ_ _ _=>.mk _
def P295 : Pl :=.z
def S295 : tE1 Tryz.prog P295 295 :=λ_ _ _=>.mk _
def P296 : Pl :=(.n none .z (.n none (.n none (.r [[11,7,1,0]]) .z) .z))
def S296 : tE2 Tryz.prog P296 296 :=λ_ _ _ _=>.mk _
def P297 : Pl :=.z
def S297 (_ : CV) (h : AH) : R :=
xX h 9 [(.str [])] 24 [(0,1,(.str [])),(1,1,(.str [115,101,116])),(2,1,(.str [109,111,118,101])),(3,1,(.str [97,100,100])),(4,1,(.str [115,117,98])),(5,1,(.str [109,117,108])),(6,1,(.str [108,101,115,115])),(7,1,(.str [101,113,117,97,108])),(8,1,(.str [108,111,97,100])),(9,1,(.str [115,116,111,114,101])),(10,1,(.str [97,108,108,111,99])),(11,1,(.str [102,114,101,101])),(12,1,(.str [106,117,109,112])),(13,1,(.str [122,101,114,111])),(14,1,(.str [111,112,101,110])),(15,1,(.str [99,108,111,115,101])),(16,1,(.str [117,110,100,111])),(17,1,(.str [101,105,116,104,101,114])),(18,1,(.str [111,114])),(19,1,(.str [100,111,110,101])),(20,1,(.str [114,101,116,114,121])),(21,1,(.str [101,109,105,116])),(22,1,(.str [102,97,105,108])),(23,1,(.str [99,97,108,108]))] λv0 h1=>
some (v0,h1)
def W297 : WF :=w_0 S297
theorem W297_ok : WOk Tryz.prog 297 W297 :=jQ9 (pl :=P297) λ_ _=>by kernel_rfl
def P298 : Pl :=(.n none .z (.n none .z (.n none (.n none .z (.n none (.n (some [14,13,12,3,0]) .z .z) .z)) (.n none (.n none .z (.n none (.n (some [28,27,26,3]) .z .z) .z)) .z))))
def S298 : tE1 Tryz.prog P298 298 :=λ_ _ _=>.mk _
def P299 : Pl :=(.n none .z (.n none .z (.n (some [0]) .z .z)))
def S299 : tE1 Tryz.prog P299 299 :=λ_ _ _=>.mk _
def P300 : Pl :=.z
def S300 : tE2 Tryz.prog P300 300 :=λ_ _ _ _=>.mk _
def P301 : Pl :=.z
def S301 : tE2 Tryz.prog P301 301 :=λ_ _ _ _=>.mk _
def P302 : Pl :=.z
def S302 : tE2 Tryz.prog P302 302 :=λ_ _ _ _=>.mk _
def P303 : Pl :=(.n none .z (.n none (.n (some [11,10,1,0]) (.n none .z (.n none .z (.n none (.n none (.n none .z (.n none .z (.n none (.n (some [11,10,5,1,0]) (.n none (.n none (.r [[32,27,11,10,5,1,0]]) .z) .z) .z) .z))) .z) .z))) .z) .z))
def S303 : tE2 Tryz.prog P303 303 :=λ_ _ _ _=>.mk _
def P304 : Pl :=(.n none (.r [[5,3,1,0]]) .z)
def S304 : tE4 Tryz.prog P304 304 :=λ_ _ _ _ _ _=>.mk _
def P305 : Pl :=(.n none .z (.n (some [5,4,2,0]) .z (.n none .z (.n none .z (.n none .z (.n (some [6,4,0]) .z .z))))))
def S305 : tE3 Tryz.prog P305 305 :=λ_ _ _ _ _=>.mk _
def P306 : Pl :=.z
def S306 : tE4 Tryz.prog P306 306 :=λ_ _ _ _ _ _=>.mk _
def P307 : Pl :=(.n none .z (.n none .z (.n none .z (.n none (.r [[6]]) .z))))
def S307 : tE3 Tryz.prog P307 307 :=λ_ _ _ _ _=>.mk _
def P308 : Pl :=(.n none .z (.r [[]]))
def S308 : tE4 Tryz.prog P308 308 :=λ_ _ _ _ _ _=>.mk _
def P309 : Pl :=(.n none .z (.n none (.r [[16,7]]) .z))
def S309 : tE2 Tryz.prog P309 309 :=λ_ _ _ _=>.mk _
def P310 : Pl :=(.n none .z (.n (some [5,0]) (.n none .z (.n none (.r [[5,0]]) .z)) .z))
def S310 : tE3 Tryz.prog P310 310 :=λ_ _ _ _ _=>.mk _
def P311 : Pl :=.z
def S311 : tE3 Tryz.prog P311 311 :=λ_ _ _ _ _=>.mk _
def P312 : Pl :=(.n none .z (.n none .z (.n none .z (.n none (.n (some [1]) (.n (some [1,0]) .z .z) .z) .z))))
def S312 : tE2 Tryz.prog P312 312 :=λ_ _ _ _=>.mk _
def P313 : Pl :=(.n none (.n (some [0]) (.n none (.n none (.r [[16,11,0]]) .z) (.n (some [0]) (.n none .z (.n none .z (.n none .z (.n none .z (.n none (.n none (.r [[90,85,4,3,2,0]]) .z) .z))))) .z)) .z) .z)
def S313 : tE1 Tryz.prog P313 313 :=λ_ _ _=>.mk _
def P314 : Pl :=(.n none .z (.n none (.n none (.r [[7,5,0]]) .z) .z))
def S314 : tE1 Tryz.prog P314 314 :=λ_ _ _=>.mk _
def P315 : Pl :=.z
def S315 : tE2 Tryz.prog P315 315 :=λ_ _ _ _=>.mk _
def P316 : Pl :=(.n none .z (.n none .z (.n none (.r [[]]) .z)))
def S316 : tE1 Tryz.prog P316 316 :=λ_ _ _=>.mk _
def P320 : Pl :=.z
def S320 : tE1 Tryz.prog P320 320 :=λ_ _ _=>.mk _
def P321 : Pl :=.z
def S321 : tE1 Tryz.prog P321 321 :=λ_ _ _=>.mk _
def P322 : Pl :=(.n none .z (.n none (.n none .z (.n none (.n (some [8,7,1,0]) .z .z) .z)) .z))
def S322 : tE2 Tryz.prog P322 322 :=λ_ _ _ _=>.mk _
def P323 : Pl :=.z
def S323 : tE2 Tryz.prog P323 323 :=λ_ _ _ _=>.mk _
def P324 : Pl :=.z
def S324 : tE1 Tryz.prog P324 324 :=λ_ _ _=>.mk _
def P327 : Pl :=(.n none .z (.n none (.n none .z (.n none (.n (some [13,12,11,1]) .z .z) .z)) .z))
def S327 : tE2 Tryz.prog P327 327 :=λ_ _ _ _=>.mk _
def P328 : Pl :=.z
def S328 : tE2 Tryz.prog P328 328 :=λ_ _ _ _=>.mk _
def P329 : Pl :=.z
def S329 : tE3 Tryz.prog P329 329 :=λ_ _ _ _ _=>.mk _
def P330 : Pl :=(.n none .z (.n (some [4,2,0]) .z .z))
def S330 : tE3 Tryz.prog P330 330 :=λ_ _ _ _ _=>.mk _
def P331 : Pl :=.z
def S331 : tE1 Tryz.prog P331 331 :=λ_ _ _=>.mk _
def P332 : Pl :=.z
def S332 : tE1 Tryz.prog P332 332 :=λ_ _ _=>.mk _
def P345 : Pl :=.z
def S345 : tE1 Tryz.prog P345 345 :=λ_ _ _=>.mk _
def P373 : Pl :=.z
def S373 : tE1 Tryz.prog P373 373 :=λ_ _ _=>.mk _
def P374 : Pl :=.z
def S374 : tE1 Tryz.prog P374 374 :=λ_ _ _=>.mk _
def P375 : Pl :=(.n none .z (.n (some []) (.n none .z (.n none .z (.n none .z (.n none .z (.n none (.r [[41,34,3,0]]) .z))))) .z))
def S375 (c : CV) (a0 a1 : AV) (h : AH) : R :=
gi h 84 a1 λv0 h1=>
yB (α :=Unit→AH→List Nat→R) (λ_ h3 d4=>
z7 d4 h3 λh6=>
some ((.tup []),h6)) λj5=>
xm a0 λv7=>
qt v7 0 λv8=>
zO h1 v0 6 λv9=>
zz c (.fn 377 [] []) [v8,v9] h1 λv10 h11=>
zt v10 (
j5 (()) h11 []) (
xm a0 λv12=>
qt v12 8 λv13=>
jN h11 v13 λv14=>
zG .eql v14 (iI 1) λv15=>
zt v15 (
qt v0 0 λv16=>
jN h11 v16 λv17=>
xm a0 λv18=>
qt v18 12 λv19=>
jd h11 v19 v17 1 λh20=>
xm a0 λv21=>
qt v21 8 λv22=>
jd h20 v22 (iI 2) 1 λh23=>
j5 (()) h23 []) (
xm a0 λv24=>
qt v24 8 λv25=>
jN h11 v25 λv26=>
zG .eql v26 (iI 2) λv27=>
yB (α :=AV×AV×AV×AV×Unit→AH→R) (λs28 h29=>
ky s28.2.1 s28.1 (.bool false) λv31=>
zt v31 (
xm s28.2.2.2.1 λv32=>
qt v32 0 λv33=>
zz c (.fn 378 [] []) [v33,(iI 2),(iI 0),(.int .i64 (.negSucc 0))] h29 λ_ h35=>
j5 (()) h35 []) (
qt s28.2.2.1 1 λv36=>
zO h29 v36 3 λv37=>
zz c (.fn 379 [] []) [s28.2.2.2.1,v37] h29 λ_ h39=>
j5 (()) h39 [])) λj30=>
ke v27 true (
qt v0 1 λv40=>
zO h11 v40 3 λv41=>
xm a0 λv42=>
qt v42 9 λv43=>
zO h11 v43 3 λv44=>
G4 [.bas .int 0,.bas .bool 1,.bas .int 2] false v41 v44 λv45=>
j30 (v45,v27,v0,a0,()) h11) (
j30 (.undef,v27,v0,a0,()) h11)))
def W375 : WF :=w_2 S375
theorem W375_ok : WOk Tryz.prog 375 W375 :=qX2 (pl :=P375) λ_ _ _ _=>by kernel_rfl
def P376 : Pl :=.z
def S376 : tE1 Tryz.prog P376 376 :=λ_ _ _=>.mk _
def P377 : Pl :=(.n none .z (.n (some [0]) (.n none (.r [[13,10,3,0]]) .z) .z))
def S377 : tE2 Tryz.prog P377 377 :=λ_ _ _ _=>.mk _
def P378 : Pl :=.z
def S378 : tE4 Tryz.prog P378 378 :=λ_ _ _ _ _ _=>.mk _
def P379 : Pl :=(.n none .z (.n none .z (.n (some []) .z .z)))
def S379 : tE2 Tryz.prog P379 379 :=λ_ _ _ _=>.mk _
def P380 : Pl :=.z
def S380 : tE2 Tryz.prog P380 380 :=λ_ _ _ _=>.mk _
def P381 : Pl :=.z
def S381 : tE1 Tryz.prog P381 381 :=λ_ _ _=>.mk _
end
end Go.Proofs.YtbiljkdgeekpbacGreatDoor
