/- Printed by a program of mine: the bodies of the program's functions aa terms of the primitives of the abstract executor, each shown equal by the kernel. -/
import Derived.Test.YtnalffoigcmnnabGreatDoorProg
import Derived.Test.YtnalffoigcmnnabGreatDoorThreadAloneAe1
import Derived.KernelRfl
namespace Go.Proofs.YtnalffoigcmnnabGreatDoor
open Go Go.Ae
abbrev u9_1 : Type :=AV×AV×AV×AV×AV×AV×AV×AV×AV×Unit
set_option maxRecDepth 100000
noncomputable section
attribute [local irreducible] zT yN yc xU ql Gp Ya vZ Qw YH YI gd jq zW jC jR w7 N9 pEq GG pUn vp Yx Vh qQT gA xV gn yX Qj zA gU JI pMM vH xC zh Qx ym xY Gg Yh Qc VO YN UG qJa Ut VN UU jO yR XK JX J1 xl vN pIs Xt Og ze xQ Xs AV.undef
set_option maxHeartbeats 40000000
def P149 : Pl :=(.n none .z (.n none .z (.n none .z (.n none (.n none .z (.n none (.n (some [20,19,18,5,0]) .z .z) .z)) .z))))
def S149 : tE2 Tryz.prog P149 149 :=λ_ _ _ _=>.mk _
def P150 : Pl :=(.n none .z (.n none .z (.n none (.n none .z (.n none (.n (some [17,16,15,3,0]) .z .z) .z)) .z)))
def S150 : tE1 Tryz.prog P150 150 :=λ_ _ _=>.mk _
def P151 : Pl :=.z
def S151 : tE1 Tryz.prog P151 151 :=λ_ _ _=>.mk _
def P152 : Pl :=(.n none .z (.n none .z (.n none (.r [[4]]) .z)))
def S152 : tE2 Tryz.prog P152 152 :=λ_ _ _ _=>.mk _
def P153 : Pl :=(.n none .z (.n none (.n none .z (.n none (.n none (.r [[11,8]]) .z) .z)) (.n none (.r [[19,16]]) .z)))
def S153 : tE1 Tryz.prog P153 153 :=λ_ _ _=>.mk _
def P154 : Pl :=.z
def S154 : tE5 Tryz.prog P154 154 :=λ_ _ _ _ _ _ _=>.mk _
def P155 : Pl :=.z
def S155 : tE3 Tryz.prog P155 155 :=λ_ _ _ _ _=>.mk _
def P156 : Pl :=.z
def S156 : tE3 Tryz.prog P156 156 :=λ_ _ _ _ _=>.mk _
def P157 : Pl :=.z
def S157 : tE2 Tryz.prog P157 157 :=λ_ _ _ _=>.mk _
def P158 : Pl :=.z
def S158 : tE1 Tryz.prog P158 158 :=λ_ _ _=>.mk _
def P159 : Pl :=(.n none .z (.n none .z (.n none (.n none .z (.n none (.n (some [13,12,11,7,2,1]) (.n none .z (.n none .z (.n none (.n (some [13,12,11,7,2,1]) .z .z) .z))) .z) .z)) .z)))
def S159 : tE3 Tryz.prog P159 159 :=λ_ _ _ _ _=>.mk _
def P160 : Pl :=.z
def S160 : tE1 Tryz.prog P160 160 :=λ_ _ _=>.mk _
def P161 : Pl :=(.n none .z (.n none (.r [[2,0]]) (.n none .z (.n (some []) (.n none .z (.n none (.n none (.r [[0]]) .z) .z)) .z))))
def S161 : tE1 Tryz.prog P161 161 :=λ_ _ _=>.mk _
def P162 : Pl :=.z
def S162 : tE1 Tryz.prog P162 162 :=λ_ _ _=>.mk _
def P163 : Pl :=.z
def S163 : tE1 Tryz.prog P163 163 :=λ_ _ _=>.mk _
def P164 : Pl :=(.n none .z (.n none (.n none .z (.n none (.n (some [9,8,7,1]) (.n none .z (.n none .z (.n none (.n none (.n none .z (.n none (.r [[18,15,9,8,7,1]]) .z)) .z) .z))) .z) .z)) .z))
def S164 : tE2 Tryz.prog P164 164 :=λ_ _ _ _=>.mk _
def P165 : Pl :=.z
def S165 : tE0 Tryz.prog P165 165 :=λ_ _=>.mk _
def P166 : Pl :=(.n none .z (.n none .z (.n none (.r [[21,17,5,4,1],[27,23,5,1],[33,29,1],[39,35,1],[42,39,35],[43,35]]) .z)))
def S166 : tE1 Tryz.prog P166 166 :=λ_ _ _=>.mk _
def P167 : Pl :=(.n none .z (.n none .z (.n none (.r [[4]]) .z)))
def S167 : tE2 Tryz.prog P167 167 :=λ_ _ _ _=>.mk _
def P168 : Pl :=(.n none .z (.n none (.r [[7,5]]) .z))
def S168 : tE1 Tryz.prog P168 168 :=λ_ _ _=>.mk _
def P169 : Pl :=(.n none .z (.n none (.r [[7,5]]) .z))
def S169 : tE1 Tryz.prog P169 169 :=λ_ _ _=>.mk _
def P170 : Pl :=.z
def S170 : tE2 Tryz.prog P170 170 :=λ_ _ _ _=>.mk _
def P171 : Pl :=.z
def S171 : tE2 Tryz.prog P171 171 :=λ_ _ _ _=>.mk _
def P172 : Pl :=(.n none .z (.n none .z (.n none .z (.n none (.r [[17,15,9]]) .z))))
def S172 : tE3 Tryz.prog P172 172 :=λ_ _ _ _ _=>.mk _
def P173 : Pl :=(.n none .z (.n none .z (.n none .z (.n none (.r [[17,15,9]]) .z))))
def S173 : tE3 Tryz.prog P173 173 :=λ_ _ _ _ _=>.mk _
def P174 : Pl :=(.n none .z (.n none .z (.n none .z (.n none (.r [[17,15,9]]) .z))))
def S174 : tE3 Tryz.prog P174 174 :=λ_ _ _ _ _=>.mk _
def P175 : Pl :=(.n none .z (.n none .z (.n none .z (.n none (.r [[19,17,11]]) .z))))
def S175 : tE4 Tryz.prog P175 175 :=λ_ _ _ _ _ _=>.mk _
def P176 : Pl :=.z
def S176 : tE2 Tryz.prog P176 176 :=λ_ _ _ _=>.mk _
def P177 : Pl :=.z
def S177 : tE3 Tryz.prog P177 177 :=λ_ _ _ _ _=>.mk _
def P178 : Pl :=(.n none .z (.n none .z (.n none .z (.n none (.r [[17,15,9]]) .z))))
def S178 : tE3 Tryz.prog P178 178 :=λ_ _ _ _ _=>.mk _
def P179 : Pl :=.z
def S179 : tE3 Tryz.prog P179 179 :=λ_ _ _ _ _=>.mk _
def P180 : Pl :=(.n none .z (.n none .z (.n none (.n none (.r [[24,22,9,8,7,4,0]]) .z) .z)))
def S180 : tE3 Tryz.prog P180 180 :=λ_ _ _ _ _=>.mk _
def P181 : Pl :=(.n none .z (.n none .z (.n none .z (.n none (.r [[19,17,11]]) .z))))
def S181 : tE4 Tryz.prog P181 181 :=λ_ _ _ _ _ _=>.mk _
def P182 : Pl :=.z
def S182 : tE3 Tryz.prog P182 182 :=λ_ _ _ _ _=>.mk _
def P183 : Pl :=(.n none .z (.n none .z (.n none .z (.n none (.r [[17,15,9]]) .z))))
def S183 : tE3 Tryz.prog P183 183 :=λ_ _ _ _ _=>.mk _
def P184 : Pl :=.z
def S184 : tE4 Tryz.prog P184 184 :=λ_ _ _ _ _ _=>.mk _
def P185 : Pl :=(.n none .z (.n none (.n none (.r [[13,8,1,0],[20,15,1,0]]) .z) .z))
def S185 : tE2 Tryz.prog P185 185 :=λ_ _ _ _=>.mk _
def P186 : Pl :=.z
def S186 : tE3 Tryz.prog P186 186 :=λ_ _ _ _ _=>.mk _
def P187 : Pl :=.z
def S187 : tE2 Tryz.prog P187 187 :=λ_ _ _ _=>.mk _
def P188 : Pl :=(.n none .z (.n none .z (.n (some [7,5,1,0]) (.n none (.r [[19,17,7,5,1,0]]) .z) (.n (some [7,1,0]) .z (.n (some [7]) .z .z)))))
def S188 : tE2 Tryz.prog P188 188 :=λ_ _ _ _=>.mk _
def P189 : Pl :=(.n none .z (.n none .z (.n none (.r [[]]) .z)))
def S189 : tE3 Tryz.prog P189 189 :=λ_ _ _ _ _=>.mk _
def P190 : Pl :=.z
def S190 : tE1 Tryz.prog P190 190 :=λ_ _ _=>.mk _
def P191 : Pl :=.z
def S191 : tE1 Tryz.prog P191 191 :=λ_ _ _=>.mk _
def P192 : Pl :=.z
def S192 : tE2 Tryz.prog P192 192 :=λ_ _ _ _=>.mk _
def P193 : Pl :=.z
def S193 : tE1 Tryz.prog P193 193 :=λ_ _ _=>.mk _
def P194 : Pl :=(.n none .z (.n none (.n none (.n (some [0]) .z .z) .z) .z))
def S194 : tE1 Tryz.prog P194 194 :=λ_ _ _=>.mk _
def P195 : Pl :=.z
def S195 : tE2 Tryz.prog P195 195 :=λ_ _ _ _=>.mk _
def P198 : Pl :=(.n none .z (.n none (.n (some [3,1,0]) .z .z) .z))
def S198 : tE2 Tryz.prog P198 198 :=λ_ _ _ _=>.mk _
def P199 : Pl :=(.n none .z (.n none (.n none (.r [[12,10,2,1,0]]) .z) .z))
def S199 : tE3 Tryz.prog P199 199 :=λ_ _ _ _ _=>.mk _
def P200 : Pl :=.z
def S200 : tE2 Tryz.prog P200 200 :=λ_ _ _ _=>.mk _
def P201 : Pl :=.z
def S201 : tE1 Tryz.prog P201 201 :=λ_ _ _=>.mk _
def P202 : Pl :=(.n none .z (.n none (.n none (.r [[14,12,2,1,0]]) .z) (.n none .z (.n none (.n none .z (.n none (.r [[32,29,7,2,1]]) .z)) .z))))
def S202 : tE3 Tryz.prog P202 202 :=λ_ _ _ _ _=>.mk _
def P203 : Pl :=.z
def S203 : tE1 Tryz.prog P203 203 :=λ_ _ _=>.mk _
def P204 : Pl :=(.n none .z (.n none (.r [[7,5]]) .z))
def S204 : tE1 Tryz.prog P204 204 :=λ_ _ _=>.mk _
def P207 : Pl :=.z
def S207 : tE1 Tryz.prog P207 207 :=λ_ _ _=>.mk _
def P208 : Pl :=(.n none .z (.n none (.n none (.r [[13,10,3,0],[18,15,3,0]]) .z) .z))
def S208 : tE2 Tryz.prog P208 208 :=λ_ _ _ _=>.mk _
def P209 : Pl :=.z
def S209 : tE1 Tryz.prog P209 209 :=λ_ _ _=>.mk _
def P210 : Pl :=.z
def S210 : tE1 Tryz.prog P210 210 :=λ_ _ _=>.mk _
def P211 : Pl :=.z
def S211 : tE1 Tryz.prog P211 211 :=λ_ _ _=>.mk _
def P212 : Pl :=.z
def S212 : tE1 Tryz.prog P212 212 :=λ_ _ _=>.mk _
def P213 : Pl :=(.n none .z (.n none .z (.n none (.n none .z (.n (some [4,3,2]) (.n (some [8,7,5,4,3,2]) .z (.n none .z (.n (some [13,7,5,4,3,2]) .z (.n none (.r [[4,3,2]]) (.n (some [18,7,5,4,3,2]) .z (.n none (.r [[4,3,2]]) (.n (some [27,7,5,4,3,2]) .z (.n none (.r [[4,3,2]]) .z)))))))) .z)) (.n none (.r [[4,3,2]]) .z))))
def S213 : tE1 Tryz.prog P213 213 :=λ_ _ _=>.mk _
def P214 : Pl :=.z
def S214 : tE1 Tryz.prog P214 214 :=λ_ _ _=>.mk _
def P215 : Pl :=(.n none .z (.n none (.r [[13,9]]) .z))
def S215 : tE2 Tryz.prog P215 215 :=λ_ _ _ _=>.mk _
def P216 : Pl :=(.n none .z (.n none .z (.n none .z (.n none (.r [[]]) .z))))
def S216 : tE4 Tryz.prog P216 216 :=λ_ _ _ _ _ _=>.mk _
def P217 : Pl :=.z
def S217 : tE2 Tryz.prog P217 217 :=λ_ _ _ _=>.mk _
def P218 : Pl :=(.n none .z (.n none (.n none (.r [[17,15,2,0]]) .z) (.n none .z (.n none .z (.n none .z (.n none .z (.n none .z (.n none (.n none .z (.n none (.n (some [67,66,65,0]) .z .z) .z)) .z))))))))
def S218 : tE3 Tryz.prog P218 218 :=λ_ _ _ _ _=>.mk _
def P219 : Pl :=(.n none .z (.n none (.n none (.r [[22,18,6,5,3,2,0]]) .z) .z))
def S219 : tE4 Tryz.prog P219 219 :=λ_ _ _ _ _ _=>.mk _
def P220 : Pl :=(.n none .z (.n none .z (.n none (.n (some [7,6]) (.n (some [7,6,2,0]) (.n none .z (.n none (.n none .z (.n none (.n none (.r [[22,16,7,6,2,0]]) .z) .z)) .z)) .z) .z) .z)))
def S220 : tE3 Tryz.prog P220 220 :=λ_ _ _ _ _=>.mk _
def P221 : Pl :=.z
def S221 : tE1 Tryz.prog P221 221 :=λ_ _ _=>.mk _
def P222 : Pl :=(.n none .z (.n none (.r [[11,9,2,1,0],[19,13]]) .z))
def S222 : tE3 Tryz.prog P222 222 :=λ_ _ _ _ _=>.mk _
def P223 : Pl :=.z
def S223 : tE2 Tryz.prog P223 223 :=λ_ _ _ _=>.mk _
def P224 : Pl :=.z
def S224 : tE3 Tryz.prog P224 224 :=λ_ _ _ _ _=>.mk _
def P225 : Pl :=.z
def S225 : tE3 Tryz.prog P225 225 :=λ_ _ _ _ _=>.mk _
def P226 : Pl :=.z
def S226 : tE4 Tryz.prog P226 226 :=λ_ _ _ _ _ _=>.mk _
def P227 : Pl :=.z
def S227 : tE2 Tryz.prog P227 227 :=λ_ _ _ _=>.mk _
def P228 : Pl :=.z
def S228 : tE2 Tryz.prog P228 228 :=λ_ _ _ _=>.mk _
def P229 : Pl :=.z
def S229 : tE4 Tryz.prog P229 229 :=λ_ _ _ _ _ _=>.mk _
def P230 : Pl :=(.n none .z (.n (some [6,4,3,2,0]) (.n none (.r [[20,15,6,4,3,2,1,0]]) .z) (.n none .z (.n none .z (.n none .z (.n (some [7,6,4,3,2,0]) (.n none (.r [[53,43,7,6,4,3,2,0],[60,55,7,6,4,3,2,0]]) .z) .z))))))
def S230 : tE5 Tryz.prog P230 230 :=λ_ _ _ _ _ _ _=>.mk _
def P231 : Pl :=(.n none .z (.n none .z (.n none .z (.n none .z (.n none .z (.n (some [6,5,0]) (.n none (.r [[40,38,6,5,0],[47,42,6,5,0]]) .z) .z))))))
def S231 : tE2 Tryz.prog P231 231 :=λ_ _ _ _=>.mk _
def P232 : Pl :=(.n none .z (.n none .z (.n none (.n none .z (.n none (.n (some [14,5,1,0]) .z .z) .z)) .z)))
def S232 : tE2 Tryz.prog P232 232 :=λ_ _ _ _=>.mk _
def P233 : Pl :=(.n none .z (.n none (.r [[4,1,0]]) (.n none (.n none (.n (some [4,1,0]) (.n none .z (.n none (.n none .z (.n none (.n none (.r [[39,30,5,4,1,0]]) .z) .z)) .z)) .z) .z) .z)))
def S233 : tE2 Tryz.prog P233 233 :=λ_ _ _ _=>.mk _
def P234 : Pl :=(.n none .z (.n none .z (.n none .z (.n none .z (.n none .z (.n none (.n none .z (.n none (.n (some [25,24,23,4,2,1]) .z .z) .z)) (.n none .z (.n none (.r [[4,2,1]]) .z))))))))
def S234 : tE1 Tryz.prog P234 234 :=λ_ _ _=>.mk _
def P235 : Pl :=(.n none .z (.n none .z (.n none (.n none (.r [[20,13,4,3,1,0],[25,22,4,3,0],[31,25,22,4,3,0],[32,22,4,3,0]]) .z) .z)))
def S235 : tE5 Tryz.prog P235 235 :=λ_ _ _ _ _ _ _=>.mk _
def P236 : Pl :=.z
def S236 : tE1 Tryz.prog P236 236 :=λ_ _ _=>.mk _
def P237 : Pl :=(.n none .z (.n none (.n none (.r [[20,15,6,4,3,2,0]]) .z) .z))
def S237 : tE5 Tryz.prog P237 237 :=λ_ _ _ _ _ _ _=>.mk _
def P238 : Pl :=(.n none .z (.n none (.n none (.r [[19,14,5,3,2,0]]) .z) .z))
def S238 : tE4 Tryz.prog P238 238 :=λ_ _ _ _ _ _=>.mk _
def P239 : Pl :=.z
def S239 : tE3 Tryz.prog P239 239 :=λ_ _ _ _ _=>.mk _
def P240 : Pl :=.z
def S240 : tE2 Tryz.prog P240 240 :=λ_ _ _ _=>.mk _
def P241 : Pl :=.z
def S241 : tE5 Tryz.prog P241 241 :=λ_ _ _ _ _ _ _=>.mk _
def P242 : Pl :=(.n none .z (.n none .z (.n none (.n none .z (.n none (.n (some [5,1,0]) (.n none (.n none (.r [[20,15,5,1,0]]) .z) (.n none (.n none .z (.n none .z (.n none .z (.n (some [7,5,1,0]) .z .z)))) .z)) .z) .z)) .z)))
def S242 : tE2 Tryz.prog P242 242 :=λ_ _ _ _=>.mk _
def P243 : Pl :=.z
def S243 : tE3 Tryz.prog P243 243 :=λ_ _ _ _ _=>.mk _
def P244 : Pl :=(.n none (.n none (.n (some [0]) (.n none (.n none (.r [[17,12,0]]) .z) (.n none (.n none .z (.n none (.r [[4,3,2,0]]) .z)) .z)) .z) .z) (.n none (.r [[92,87,0]]) .z))
def S244 : tE1 Tryz.prog P244 244 :=λ_ _ _=>.mk _
def P245 : Pl :=.z
def S245 : tE5 Tryz.prog P245 245 :=λ_ _ _ _ _ _ _=>.mk _
def P246 : Pl :=(.n none .z (.n none .z (.n none (.r [[18,16,6,5,3]]) .z)))
def S246 : tE4 Tryz.prog P246 246 :=λ_ _ _ _ _ _=>.mk _
def P247 : Pl :=(.n (some [1,0]) (.n none (.r [[15,11,1,0]]) (.n none (.n none .z (.n none (.r [[4,1,0]]) (.n none (.r [[4,0]]) .z))) .z)) (.n none .z (.n (some [5,1,0]) .z (.n none .z (.n none .z (.n none (.n (some [1,0]) .z .z) .z))))))
def S247 : tE2 Tryz.prog P247 247 :=λ_ _ _ _=>.mk _
def P248 : Pl :=(.n none .z (.r [[]]))
def S248 : tE5 Tryz.prog P248 248 :=λ_ _ _ _ _ _ _=>.mk _
def P249 : Pl :=(.n none .z (.n none (.n none (.r [[20,14,4,3,2,1,0]]) .z) (.n none .z (.n (some [11,4,3,2,1,0]) .z (.n (some [11,4,3,2,1,0]) (.n none (.r [[47,44,11,4,3,2,1,0]]) .z) (.n (some [4]) .z .z))))))
def S249 : tE5 Tryz.prog P249 249 :=λ_ _ _ _ _ _ _=>.mk _
def P250 : Pl :=.z
def S250 : tE1 Tryz.prog P250 250 :=λ_ _ _=>.mk _
def P251 : Pl :=(.n none .z (.n none .z (.n none (.n none .z (.n none (.n (some [3,0]) .z .z) .z)) .z)))
def S251 : tE1 Tryz.prog P251 251 :=λ_ _ _=>.mk _
def P252 : Pl :=(.n none .z (.n none .z (.n none .z (.n none .z (.n (some [10,8]) .z .z)))))
def S252 : tE3 Tryz.prog P252 252 :=λ_ _ _ _ _=>.mk _
def P253 : Pl :=(.n none .z (.n none .z (.n none .z (.n none (.n none (.r [[22,20,6,1,0],[33,24,6,1,0]]) .z) .z))))
def S253 : tE2 Tryz.prog P253 253 :=λ_ _ _ _=>.mk _
def P254 : Pl :=.z
def S254 : tE2 Tryz.prog P254 254 :=λ_ _ _ _=>.mk _
def P255 : Pl :=.z
def S255 : tE1 Tryz.prog P255 255 :=λ_ _ _=>.mk _
def P256 : Pl :=.z
def S256 : tE1 Tryz.prog P256 256 :=λ_ _ _=>.mk _
def P257 : Pl :=(.n none .z (.n none .z (.n none .z (.n none .z (.n none .z (.n none (.r [[2]]) .z))))))
def S257 : tE1 Tryz.prog P257 257 :=λ_ _ _=>.mk _
def P258 : Pl :=.z
def S258 : tE2 Tryz.prog P258 258 :=λ_ _ _ _=>.mk _
def P259 : Pl :=.z
def S259 : tE1 Tryz.prog P259 259 :=λ_ _ _=>.mk _
def P260 : Pl :=.z
def S260 (_ : CV) (a0 : AV) (h : AH) : R :=
jR .lss a0 (iI 10) λv0=>
zT v0 (
jR .add a0 (iI 1) λv1=>
gA (.str [48,49,50,51,52,53,54,55,56,57,97,98,99,100,101,102,103,104,105,106,107,108,109,110,111,112,113,114,115,116,117,118,119,120,121,122]) (some a0) (some v1) λv2=>
some (v2,h)) (
jR .mul a0 (iI 2) λv3=>
jR .mul a0 (iI 2) λv4=>
jR .add v4 (iI 2) λv5=>
gA (.str [48,48,48,49,48,50,48,51,48,52,48,53,48,54,48,55,48,56,48,57,49,48,49,49,49,50,49,51,49,52,49,53,49,54,49,55,49,56,49,57,50,48,50,49,50,50,50,51,50,52,50,53,50,54,50,55,50,56,50,57,51,48,51,49,51,50,51,51,51,52,51,53,51,54,51,55,51,56,51,57,52,48,52,49,52,50,52,51,52,52,52,53,52,54,52,55,52,56,52,57,53,48,53,49,53,50,53,51,53,52,53,53,53,54,53,55,53,56,53,57,54,48,54,49,54,50,54,51,54,52,54,53,54,54,54,55,54,56,54,57,55,48,55,49,55,50,55,51,55,52,55,53,55,54,55,55,55,56,55,57,56,48,56,49,56,50,56,51,56,52,56,53,56,54,56,55,56,56,56,57,57,48,57,49,57,50,57,51,57,52,57,53,57,54,57,55,57,56,57,57]) (some v3) (some v5) λv6=>
some (v6,h))
def W260 : WF :=w_1 S260
theorem W260_ok : WOk Tryz.prog 260 W260 :=KK (pl :=P260) λ_ _ _=>by kernel_rfl
def P263 : Pl :=(.n none .z (.n (some [11,10,4,3,2,1,0]) (.n none (.r [[23,21,11,10,4,3,2,1,0],[27,25,11,10,4,3,2,1,0]]) .z) (.n none .z (.n none .z (.n (some [13,12,11,10,4,3,2,1,0]) .z (.n (some [13,12,11,10,4,3,0]) (.n none .z (.n none (.n none .z (.n none .z (.n none .z (.n none (.n none (.n (some [16,15,14,13,12,11,10,4,3,1,0]) .z .z) .z) .z)))) (.n none .z (.n none (.n none (.n (some [17,13,12,11,10,4,3,1,0]) .z .z) .z) .z)))) (.n (some [13,12,11,10,4,0]) .z .z)))))))
def S263 (c : CV) (a0 a1 a2 a3 a4 : AV) (h : AH) : R :=
xQ (α :=AV×AV×AV×AV×AV×AV×AV×Unit→AH→List Nat→R) (λs0 h1 d2=>
vH h1 344 (.agg [(.int .u8 (.ofNat 0)),(.int .u8 (.ofNat 0)),(.int .u8 (.ofNat 0)),(.int .u8 (.ofNat 0)),(.int .u8 (.ofNat 0)),(.int .u8 (.ofNat 0)),(.int .u8 (.ofNat 0)),(.int .u8 (.ofNat 0)),(.int .u8 (.ofNat 0)),(.int .u8 (.ofNat 0)),(.int .u8 (.ofNat 0)),(.int .u8 (.ofNat 0)),(.int .u8 (.ofNat 0)),(.int .u8 (.ofNat 0)),(.int .u8 (.ofNat 0)),(.int .u8 (.ofNat 0)),(.int .u8 (.ofNat 0)),(.int .u8 (.ofNat 0)),(.int .u8 (.ofNat 0)),(.int .u8 (.ofNat 0)),(.int .u8 (.ofNat 0)),(.int .u8 (.ofNat 0)),(.int .u8 (.ofNat 0)),(.int .u8 (.ofNat 0)),(.int .u8 (.ofNat 0)),(.int .u8 (.ofNat 0)),(.int .u8 (.ofNat 0)),(.int .u8 (.ofNat 0)),(.int .u8 (.ofNat 0)),(.int .u8 (.ofNat 0)),(.int .u8 (.ofNat 0)),(.int .u8 (.ofNat 0)),(.int .u8 (.ofNat 0)),(.int .u8 (.ofNat 0)),(.int .u8 (.ofNat 0)),(.int .u8 (.ofNat 0)),(.int .u8 (.ofNat 0)),(.int .u8 (.ofNat 0)),(.int .u8 (.ofNat 0)),(.int .u8 (.ofNat 0)),(.int .u8 (.ofNat 0)),(.int .u8 (.ofNat 0)),(.int .u8 (.ofNat 0)),(.int .u8 (.ofNat 0)),(.int .u8 (.ofNat 0)),(.int .u8 (.ofNat 0)),(.int .u8 (.ofNat 0)),(.int .u8 (.ofNat 0)),(.int .u8 (.ofNat 0)),(.int .u8 (.ofNat 0)),(.int .u8 (.ofNat 0)),(.int .u8 (.ofNat 0)),(.int .u8 (.ofNat 0)),(.int .u8 (.ofNat 0)),(.int .u8 (.ofNat 0)),(.int .u8 (.ofNat 0)),(.int .u8 (.ofNat 0)),(.int .u8 (.ofNat 0)),(.int .u8 (.ofNat 0)),(.int .u8 (.ofNat 0)),(.int .u8 (.ofNat 0)),(.int .u8 (.ofNat 0)),(.int .u8 (.ofNat 0)),(.int .u8 (.ofNat 0)),(.int .u8 (.ofNat 0))]) λv4 h5=>
xQ (α :=u9_1→AH→List Nat→R) (λs6 h7 d8=>
xQ (α :=AV×AV×AV×AV×AV×AV×AV×Unit→AH→List Nat→R) (λs10 h11 d12=>
xQ (α :=AV×AV×AV×AV×AV×AV×Unit→AH→List Nat→R) (λs14 h15 d16=>
zT s14.2.2.2.2.1 (
gn 65 1 s14.2.1 (some s14.1) none λv18=>
xY h15 5 1 s14.2.2.2.2.2.1 v18 λv19 h20=>
ze d16 h20 λh21=>
some ((.tup [v19,s14.2.2.1]),h21)) (
gn 65 1 s14.2.1 (some s14.1) none λv22=>
Vh h15 v22 λv23=>
ze d16 h15 λh24=>
some ((.tup [s14.2.2.2.1,v23]),h24))) λj17=>
zT s10.2.2.2.2.2.1 (
jR .sub s10.1 (iI 1) λv25=>
Qw s10.2.1 v25 65 1 λv26=>
jC h11 v26 (.int .u8 (.ofNat 45)) 1 λh27=>
j17 (v25,s10.2.1,s10.2.2.1,s10.2.2.2.1,s10.2.2.2.2.1,s10.2.2.2.2.2.2.1,()) h27 d12) (
j17 (s10.1,s10.2.1,s10.2.2.1,s10.2.2.2.1,s10.2.2.2.2.1,s10.2.2.2.2.2.2.1,()) h11 d12)) λj13=>
jO c (.fn 295 [] []) [s6.2.2.2.2.2.2.1] h7 λv28 h29=>
zT v28 (
vp .u64 s6.2.2.2.2.2.2.1 λv30=>
jO c (.fn 296 [] []) [v30] h29 λv31 h32=>
vp .u64 v31 λv33=>
vp .u64 s6.2.2.2.2.2.2.1 λv34=>
vp .u64 s6.2.2.2.2.2.2.1 λv35=>
jR .sub v35 (uU 1) λv36=>
Xs (σ :=AV×AV×AV×AV×AV×AV×AV×AV×AV×AV×AV×Unit) NN (λi40 s37 h38 d39=>
jR .geq s37.2.2.2.2.2.2.2.2.2.1 s37.2.1 λv41=>
zT v41 (
jR .sub s37.2.2.2.1 (iI 1) λv42=>
jR .and s37.2.2.2.2.2.2.2.2.2.1 s37.1 λv43=>
gd (.str [48,49,50,51,52,53,54,55,56,57,97,98,99,100,101,102,103,104,105,106,107,108,109,110,111,112,113,114,115,116,117,118,119,120,121,122]) v43 λv44=>
Qw s37.2.2.2.2.1 v42 65 1 λv45=>
jC h38 v45 v44 1 λh46=>
w7 .shr s37.2.2.2.2.2.2.2.2.2.1 s37.2.2.1 λv47=>
i40 (s37.1,s37.2.1,s37.2.2.1,v42,s37.2.2.2.2.1,s37.2.2.2.2.2.1,s37.2.2.2.2.2.2.1,s37.2.2.2.2.2.2.2.1,s37.2.2.2.2.2.2.2.2.1,v47,s37.2.2.2.2.2.2.2.2.2.2.1,()) h46 d39) (
jR .sub s37.2.2.2.1 (iI 1) λv48=>
gd (.str [48,49,50,51,52,53,54,55,56,57,97,98,99,100,101,102,103,104,105,106,107,108,109,110,111,112,113,114,115,116,117,118,119,120,121,122]) s37.2.2.2.2.2.2.2.2.2.1 λv49=>
Qw s37.2.2.2.2.1 v48 65 1 λv50=>
jC h38 v50 v49 1 λh51=>
j13 (v48,s37.2.2.2.2.1,s37.2.2.2.2.2.1,s37.2.2.2.2.2.2.1,s37.2.2.2.2.2.2.2.1,s37.2.2.2.2.2.2.2.2.1,s37.2.2.2.2.2.2.2.2.2.2.1,()) h51 d39)) (v36,v34,v33,s6.1,s6.2.1,s6.2.2.1,s6.2.2.2.1,s6.2.2.2.2.1,s6.2.2.2.2.2.1,s6.2.2.2.2.2.2.2.1,s6.2.2.2.2.2.2.2.2.1,()) h32 d8) (
vp .u64 s6.2.2.2.2.2.2.1 λv52=>
Xs (σ :=u9_1) NN (λi56 s53 h54 d55=>
jR .geq s53.2.2.2.2.2.2.2.1 s53.1 λv57=>
zT v57 (
jR .sub s53.2.1 (iI 1) λv58=>
jR .quo s53.2.2.2.2.2.2.2.1 s53.1 λv59=>
jR .mul v59 s53.1 λv60=>
jR .sub s53.2.2.2.2.2.2.2.1 v60 λv61=>
gd (.str [48,49,50,51,52,53,54,55,56,57,97,98,99,100,101,102,103,104,105,106,107,108,109,110,111,112,113,114,115,116,117,118,119,120,121,122]) v61 λv62=>
Qw s53.2.2.1 v58 65 1 λv63=>
jC h54 v63 v62 1 λh64=>
i56 (s53.1,v58,s53.2.2.1,s53.2.2.2.1,s53.2.2.2.2.1,s53.2.2.2.2.2.1,s53.2.2.2.2.2.2.1,v59,s53.2.2.2.2.2.2.2.2.1,()) h64 d55) (
jR .sub s53.2.1 (iI 1) λv65=>
gd (.str [48,49,50,51,52,53,54,55,56,57,97,98,99,100,101,102,103,104,105,106,107,108,109,110,111,112,113,114,115,116,117,118,119,120,121,122]) s53.2.2.2.2.2.2.2.1 λv66=>
Qw s53.2.2.1 v65 65 1 λv67=>
jC h54 v67 v66 1 λh68=>
j13 (v65,s53.2.2.1,s53.2.2.2.1,s53.2.2.2.2.1,s53.2.2.2.2.2.1,s53.2.2.2.2.2.2.1,s53.2.2.2.2.2.2.2.2.1,()) h68 d55)) (v52,s6.1,s6.2.1,s6.2.2.1,s6.2.2.2.1,s6.2.2.2.2.1,s6.2.2.2.2.2.1,s6.2.2.2.2.2.2.2.1,s6.2.2.2.2.2.2.2.2.1,()) h29 d8)) λj9=>
zT s0.2.2.2.1 (
pUn .neg s0.2.2.2.2.2.1 λv69=>
j9 ((iI 65),v4,s0.1,s0.2.1,s0.2.2.1,s0.2.2.2.1,s0.2.2.2.2.1,v69,s0.2.2.2.2.2.2.1,()) h5 d2) (
j9 ((iI 65),v4,s0.1,s0.2.1,s0.2.2.1,s0.2.2.2.1,s0.2.2.2.2.1,s0.2.2.2.2.2.1,s0.2.2.2.2.2.2.1,()) h5 d2)) λj3=>
jR .lss a2 (iI 2) λv70=>
xQ (α :=u9_1→AH→R) (λs71 h72=>
yc s71.2.1 (.bool true) s71.1 λv74=>
xQ (α :=u9_1→AH→R) (λs75 h76=>
yc s75.2.1 (.bool true) s75.1 λv78=>
zT v78 (
none/-op-/) (
j3 (s75.2.2.1,s75.2.2.2.1,s75.2.2.2.2.1,s75.2.2.2.2.2.1,s75.2.2.2.2.2.2.1,s75.2.2.2.2.2.2.2.1,s75.2.2.2.2.2.2.2.2.1,()) h76 [])) λj77=>
yN v74 false (
jR .gtr s71.2.2.2.2.2.2.1 (iI 36) λv79=>
j77 (v79,v74,s71.2.2.1,s71.2.2.2.1,s71.2.2.2.2.1,s71.2.2.2.2.2.1,s71.2.2.2.2.2.2.1,s71.2.2.2.2.2.2.2.1,s71.2.2.2.2.2.2.2.2.1,()) h72) (
j77 (.undef,v74,s71.2.2.1,s71.2.2.2.1,s71.2.2.2.2.1,s71.2.2.2.2.2.1,s71.2.2.2.2.2.2.1,s71.2.2.2.2.2.2.2.1,s71.2.2.2.2.2.2.2.2.1,()) h72)) λj73=>
yN v70 false (
jR .eql a2 (iI 10) λv80=>
j73 (v80,v70,(.str []),.nils,a4,a3,a2,a1,a0,()) h) (
j73 (.undef,v70,(.str []),.nils,a4,a3,a2,a1,a0,()) h)
def W263 : WF :=w_5 S263
theorem W263_ok : WOk Tryz.prog 263 W263 :=qwm (pl :=P263) λ_ _ _ _ _ _ _=>by kernel_rfl
def P266 : Pl :=.z
def S266 : tE2 Tryz.prog P266 266 :=λ_ _ _ _=>.mk _
def P267 : Pl :=(.n none .z (.n none .z (.n none (.n none .z (.n none (.n (some [15,14,13,3]) .z .z) .z)) .z)))
def S267 : tE1 Tryz.prog P267 267 :=λ_ _ _=>.mk _
def P270 : Pl :=(.n none .z (.n none (.n none .z (.n none (.n (some [13,12,11,1]) .z .z) .z)) .z))
def S270 : tE2 Tryz.prog P270 270 :=λ_ _ _ _=>.mk _
def P271 : Pl :=(.n none .z (.n none (.n none (.r [[11,7,1,0]]) .z) .z))
def S271 : tE2 Tryz.prog P271 271 :=λ_ _ _ _=>.mk _
def P272 : Pl :=.z
def S272 (_ : CV) (h : AH) : R :=
zh h 9 [(.str [])] 24 [(0,1,(.str [])),(1,1,(.str [115,101,116])),(2,1,(.str [109,111,118,101])),(3,1,(.str [97,100,100])),(4,1,(.str [115,117,98])),(5,1,(.str [109,117,108])),(6,1,(.str [108,101,115,115])),(7,1,(.str [101,113,117,97,108])),(8,1,(.str [108,111,97,100])),(9,1,(.str [115,116,111,114,101])),(10,1,(.str [97,108,108,111,99])),(11,1,(.str [102,114,101,101])),(12,1,(.str [106,117,109,112])),(13,1,(.str [122,101,114,111])),(14,1,(.str [111,112,101,110])),(15,1,(.str [99,108,111,115,101])),(16,1,(.str [117,110,100,111])),(17,1,(.str [101,105,116,104,101,114])),(18,1,(.str [111,114])),(19,1,(.str [100,111,110,101])),(20,1,(.str [114,101,116,114,121])),(21,1,(.str [101,109,105,116])),(22,1,(.str [102,97,105,108])),(23,1,(.str [99,97,108,108]))] λv0 h1=>
some (v0,h1)
def W272 : WF :=w_0 S272
theorem W272_ok : WOk Tryz.prog 272 W272 :=qza (pl :=P272) λ_ _=>by kernel_rfl
def P273 : Pl :=(.n none .z (.n none .z (.n none (.n none .z (.n none (.n (some [14,13,12,3,0]) .z .z) .z)) (.n none (.n none .z (.n none (.n (some [28,27,26,3]) .z .z) .z)) .z))))
def S273 : tE1 Tryz.prog P273 273 :=λ_ _ _=>.mk _
def P274 : Pl :=(.n none .z (.n none .z (.n (some [0]) .z .z)))
def S274 : tE1 Tryz.prog P274 274 :=λ_ _ _=>.mk _
def P275 : Pl :=.z
def S275 : tE2 Tryz.prog P275 275 :=λ_ _ _ _=>.mk _
def P276 : Pl :=.z
def S276 : tE2 Tryz.prog P276 276 :=λ_ _ _ _=>.mk _
def P277 : Pl :=.z
def S277 : tE2 Tryz.prog P277 277 :=λ_ _ _ _=>.mk _
def P278 : Pl :=(.n none .z (.n none (.n (some [11,10,1,0]) (.n none .z (.n none .z (.n none (.n none (.n none .z (.n none .z (.n none (.n (some [11,10,5,1,0]) (.n none (.n none (.r [[32,27,11,10,5,1,0]]) .z) .z) .z) .z))) .z) .z))) .z) .z))
def S278 : tE2 Tryz.prog P278 278 :=λ_ _ _ _=>.mk _
def P279 : Pl :=(.n none (.r [[5,3,1,0]]) .z)
def S279 : tE4 Tryz.prog P279 279 :=λ_ _ _ _ _ _=>.mk _
def P280 : Pl :=(.n none .z (.n (some [5,4,2,0]) .z (.n none .z (.n none .z (.n none .z (.n (some [6,4,0]) .z .z))))))
def S280 : tE3 Tryz.prog P280 280 :=λ_ _ _ _ _=>.mk _
def P281 : Pl :=.z
def S281 : tE4 Tryz.prog P281 281 :=λ_ _ _ _ _ _=>.mk _
def P282 : Pl :=(.n none .z (.n none .z (.n none .z (.n none (.r [[6]]) .z))))
def S282 : tE3 Tryz.prog P282 282 :=λ_ _ _ _ _=>.mk _
def P283 : Pl :=(.n none .z (.r [[]]))
def S283 : tE4 Tryz.prog P283 283 :=λ_ _ _ _ _ _=>.mk _
def P284 : Pl :=(.n none .z (.n none (.r [[16,7]]) .z))
def S284 : tE2 Tryz.prog P284 284 :=λ_ _ _ _=>.mk _
def P285 : Pl :=(.n none .z (.n (some [5,0]) (.n none .z (.n none (.r [[5,0]]) .z)) .z))
def S285 : tE3 Tryz.prog P285 285 :=λ_ _ _ _ _=>.mk _
def P286 : Pl :=.z
def S286 : tE3 Tryz.prog P286 286 :=λ_ _ _ _ _=>.mk _
def P287 : Pl :=(.n none .z (.n none .z (.n none .z (.n none (.n (some [1]) (.n (some [1,0]) .z .z) .z) .z))))
def S287 : tE2 Tryz.prog P287 287 :=λ_ _ _ _=>.mk _
def P288 : Pl :=(.n none (.n (some [0]) (.n none (.n none (.r [[16,11,0]]) .z) (.n (some [0]) (.n none .z (.n none .z (.n none .z (.n none .z (.n none (.n none (.r [[90,85,4,3,2,0]]) .z) .z))))) .z)) .z) .z)
def S288 : tE1 Tryz.prog P288 288 :=λ_ _ _=>.mk _
def P289 : Pl :=(.n none .z (.n none (.n none (.r [[7,5,0]]) .z) .z))
def S289 : tE1 Tryz.prog P289 289 :=λ_ _ _=>.mk _
def P290 : Pl :=.z
def S290 : tE2 Tryz.prog P290 290 :=λ_ _ _ _=>.mk _
def P291 : Pl :=(.n none .z (.n none .z (.n none (.r [[]]) .z)))
def S291 : tE1 Tryz.prog P291 291 :=λ_ _ _=>.mk _
def P295 : Pl :=.z
def S295 : tE1 Tryz.prog P295 295 :=λ_ _ _=>.mk _
def P296 : Pl :=.z
def S296 : tE1 Tryz.prog P296 296 :=λ_ _ _=>.mk _
def P297 : Pl :=(.n none .z (.n none (.n none .z (.n none (.n (some [8,7,1,0]) .z .z) .z)) .z))
def S297 : tE2 Tryz.prog P297 297 :=λ_ _ _ _=>.mk _
def P298 : Pl :=.z
def S298 : tE2 Tryz.prog P298 298 :=λ_ _ _ _=>.mk _
def P299 : Pl :=.z
def S299 : tE1 Tryz.prog P299 299 :=λ_ _ _=>.mk _
def P310 : Pl :=.z
def S310 : tE2 Tryz.prog P310 310 :=λ_ _ _ _=>.mk _
def P311 : Pl :=.z
def S311 : tE3 Tryz.prog P311 311 :=λ_ _ _ _ _=>.mk _
def P312 : Pl :=(.n none .z (.n (some [4,2,0]) .z .z))
def S312 : tE3 Tryz.prog P312 312 :=λ_ _ _ _ _=>.mk _
def P313 : Pl :=.z
def S313 : tE1 Tryz.prog P313 313 :=λ_ _ _=>.mk _
def P314 : Pl :=.z
def S314 : tE1 Tryz.prog P314 314 :=λ_ _ _=>.mk _
def P317 : Pl :=.z
def S317 : tE1 Tryz.prog P317 317 :=λ_ _ _=>.mk _
def P345 : Pl :=.z
def S345 : tE1 Tryz.prog P345 345 :=λ_ _ _=>.mk _
def P346 : Pl :=.z
def S346 : tE1 Tryz.prog P346 346 :=λ_ _ _=>.mk _
def P347 : Pl :=(.n none .z (.n (some []) (.n none .z (.n none .z (.n none .z (.n none .z (.n none (.r [[41,34,3,0]]) .z))))) .z))
def S347 (c : CV) (a0 a1 : AV) (h : AH) : R :=
vH h 47 a1 λv0 h1=>
xQ (α :=Unit→AH→List Nat→R) (λ_ h3 d4=>
ze d4 h3 λh6=>
some ((.tup []),h6)) λj5=>
xU a0 λv7=>
ql v7 0 λv8=>
zW h1 v0 6 λv9=>
jO c (.fn 349 [] []) [v8,v9] h1 λv10 h11=>
zT v10 (
j5 (()) h11 []) (
xU a0 λv12=>
ql v12 8 λv13=>
jq h11 v13 λv14=>
jR .eql v14 (iI 1) λv15=>
zT v15 (
ql v0 0 λv16=>
jq h11 v16 λv17=>
xU a0 λv18=>
ql v18 12 λv19=>
jC h11 v19 v17 1 λh20=>
xU a0 λv21=>
ql v21 8 λv22=>
jC h20 v22 (iI 2) 1 λh23=>
j5 (()) h23 []) (
xU a0 λv24=>
ql v24 8 λv25=>
jq h11 v25 λv26=>
jR .eql v26 (iI 2) λv27=>
xQ (α :=AV×AV×AV×AV×Unit→AH→R) (λs28 h29=>
yc s28.2.1 s28.1 (.bool false) λv31=>
zT v31 (
xU s28.2.2.2.1 λv32=>
ql v32 0 λv33=>
jO c (.fn 350 [] []) [v33,(iI 2),(iI 0),(.int .i64 (.negSucc 0))] h29 λ_ h35=>
j5 (()) h35 []) (
ql s28.2.2.1 1 λv36=>
zW h29 v36 3 λv37=>
jO c (.fn 351 [] []) [s28.2.2.2.1,v37] h29 λ_ h39=>
j5 (()) h39 [])) λj30=>
yN v27 true (
ql v0 1 λv40=>
zW h11 v40 3 λv41=>
xU a0 λv42=>
ql v42 9 λv43=>
zW h11 v43 3 λv44=>
GG [.bas .int 0,.bas .bool 1,.bas .int 2] false v41 v44 λv45=>
j30 (v45,v27,v0,a0,()) h11) (
j30 (.undef,v27,v0,a0,()) h11)))
def W347 : WF :=w_2 S347
theorem W347_ok : WOk Tryz.prog 347 W347 :=qZS (pl :=P347) λ_ _ _ _=>by kernel_rfl
def P348 : Pl :=.z
def S348 : tE1 Tryz.prog P348 348 :=λ_ _ _=>.mk _
def P349 : Pl :=(.n none .z (.n (some [0]) (.n none (.r [[13,10,3,0]]) .z) .z))
def S349 : tE2 Tryz.prog P349 349 :=λ_ _ _ _=>.mk _
def P350 : Pl :=.z
def S350 : tE4 Tryz.prog P350 350 :=λ_ _ _ _ _ _=>.mk _
def P351 : Pl :=(.n none .z (.n none .z (.n (some []) .z .z)))
def S351 : tE2 Tryz.prog P351 351 :=λ_ _ _ _=>.mk _
def P352 : Pl :=.z
def S352 : tE2 Tryz.prog P352 352 :=λ_ _ _ _=>.mk _
def P353 : Pl :=.z
def S353 : tE1 Tryz.prog P353 353 :=λ_ _ _=>.mk _
def P354 : Pl :=.z
def S354 : tE1 Tryz.prog P354 354 :=λ_ _ _=>.mk _
def P355 : Pl :=(.n none .z (.n none (.n (some [0]) (.n none .z (.n none .z (.n none .z (.n none (.r [[0]]) (.n none .z (.n none (.n (some []) .z .z) .z)))))) .z) .z))
def S355 : tE2 Tryz.prog P355 355 :=λ_ _ _ _=>.mk _
def P356 : Pl :=.z
def S356 : tE1 Tryz.prog P356 356 :=λ_ _ _=>.mk _
def P357 : Pl :=.z
def S357 : tE1 Tryz.prog P357 357 :=λ_ _ _=>.mk _
def P358 : Pl :=(.n none .z (.n none .z (.n none .z (.n (some []) (.n (some [13,12,3,0]) .z (.n none .z (.n (some [19,12,3,0]) .z .z))) .z))))
def S358 : tE2 Tryz.prog P358 358 :=λ_ _ _ _=>.mk _
def P359 : Pl :=.z
def S359 : tE1 Tryz.prog P359 359 :=λ_ _ _=>.mk _
def P360 : Pl :=(.n none .z (.n (some []) (.n none (.r [[16,13,3,0]]) .z) .z))
def S360 : tE2 Tryz.prog P360 360 :=λ_ _ _ _=>.mk _
def P361 : Pl :=(.n none .z (.n (some []) (.n none (.r [[15,12,3,0]]) .z) .z))
def S361 : tE2 Tryz.prog P361 361 :=λ_ _ _ _=>.mk _
def P362 : Pl :=(.n none .z (.n (some []) .z .z))
def S362 : tE2 Tryz.prog P362 362 :=λ_ _ _ _=>.mk _
def P363 : Pl :=.z
def S363 : tE1 Tryz.prog P363 363 :=λ_ _ _=>.mk _
def P364 : Pl :=.z
def S364 : tE1 Tryz.prog P364 364 :=λ_ _ _=>.mk _
def P365 : Pl :=.z
def S365 : tE1 Tryz.prog P365 365 :=λ_ _ _=>.mk _
def P366 : Pl :=.z
def S366 : tE2 Tryz.prog P366 366 :=λ_ _ _ _=>.mk _
def P367 : Pl :=.z
def S367 : tE4 Tryz.prog P367 367 :=λ_ _ _ _ _ _=>.mk _
def P368 : Pl :=(.n none (.n none .z (.n none (.n (some [0]) .z .z) .z)) .z)
def S368 : tE1 Tryz.prog P368 368 :=λ_ _ _=>.mk _
def Q0 : Pl :=(.n none .z .z)
def B0 (c : CV) (l : Nat) (v0 _ a1 : AV) (h : AH) : R :=
J1 h l λh100=>
jO c (.fn 144 [] []) [(iI 96)] h100 λv101 h102=>
xU a1 λv103=>
ql v103 0 λv104=>
jq h102 v104 λv105=>
jO c (.fn 146 [] []) [v105] h102 λv106 h107=>
jO c (.fn 145 [] []) [v101,v106] h107 λ_ h109=>
jq h109 v0 λv110=>
jO c (.fn 145 [] []) [v101,v110] h109 λ_ h112=>
jO c (.fn 146 [] []) [v101] h112 λv113 h114=>
jC h114 v0 v113 1 λh115=>
xl h115 l none
theorem B0_eq (c : CV) (l : Nat) (v0 a0 a1 : AV) (h : AH) : Vd Tryz.prog NN Q0 c 94 [1,1,0,1,0] [3] l [v0] [a0,a1] h=B0 c l v0 a0 a1 h :=by kernel_rfl
def V0 (c : CV) (l : Nat) (x y : List AV) (h : AH) : R :=match x,y with |[v0],[a0,a1]=>B0 c l v0 a0 a1 h |_,_=>none
theorem V0_ok : VOk Tryz.prog 94 [1,1,0,1,0] [3] V0 :=by
 intro c l x y h r e
 unfold V0 at e
 split at e
 ·exact⟨Q0,by rw[B0_eq];exact e⟩
 ·cases e
def Q1 : Pl :=(.n none .z .z)
def B1 (c : CV) (l : Nat) (v0 v1 v2 _ a1 : AV) (h : AH) : R :=
J1 h l λh100=>
xU a1 λv101=>
ql v101 0 λv102=>
jq h100 v102 λv103=>
jq h100 v2 λv104=>
jO c (.fn 200 [] []) [v103,v104] h100 λv105 h106=>
zA v105 0 λv107=>
zA v105 1 λv108=>
zT v108 (
jC h106 v1 v107 1 λh109=>
jC h109 v0 (.bool true) 1 λh110=>
xl h110 l (some .ret)) (
xl h106 l none)
theorem B1_eq (c : CV) (l : Nat) (v0 v1 v2 a0 a1 : AV) (h : AH) : Vd Tryz.prog NN Q1 c 148 [1,0,1,0] [5,4,3] l [v0,v1,v2] [a0,a1] h=B1 c l v0 v1 v2 a0 a1 h :=by kernel_rfl
def V1 (c : CV) (l : Nat) (x y : List AV) (h : AH) : R :=match x,y with |[v0,v1,v2],[a0,a1]=>B1 c l v0 v1 v2 a0 a1 h |_,_=>none
theorem V1_ok : VOk Tryz.prog 148 [1,0,1,0] [5,4,3] V1 :=by
 intro c l x y h r e
 unfold V1 at e
 split at e
 ·exact⟨Q1,by rw[B1_eq];exact e⟩
 ·cases e
end
end Go.Proofs.YtnalffoigcmnnabGreatDoor
