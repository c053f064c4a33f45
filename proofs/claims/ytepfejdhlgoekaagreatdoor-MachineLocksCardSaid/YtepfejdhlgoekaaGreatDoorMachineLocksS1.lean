/- Printed by a program of mine: the bodies of the program's functions aa terms of the primitives of the abstract executor, each shown equal by the kernel. -/
import Derived.Test.YtepfejdhlgoekaaGreatDoorProg
import Derived.Test.YtepfejdhlgoekaaGreatDoorMachineLocksAe1
import Derived.KernelRfl
namespace Go.Proofs.YtepfejdhlgoekaaGreatDoor
open Go Go.Ae
abbrev u9_1 : Type :=AV×AV×AV×AV×AV×AV×AV×AV×AV×Unit
set_option maxRecDepth 100000
noncomputable section
attribute [local irreducible] zM kQ gp xg qm X8 J5 gG kb Jf Jh gQ jq zY jD jc wQ Ng pEq Yn pUn vM Jb UZ Nc vn x8 gJ xH kX zP w9 QH pMM gF xh zb kP yw zl Gu J7 kM KJ Jp Gi Oe Gs KQ Gp jm yV Jz QR JK xq vV pIs JM Un zO xp Xf AV.undef
set_option maxHeartbeats 40000000
def P161 : Pl :=(.n none .z (.n none (.n none .z (.n none (.n (some [11,10,9,2,1]) (.n none .z (.n none .z (.n none (.n (some [11,10,9,2,1]) (.n none .z (.n none .z (.n none (.r [[33,26,11,10,9,7,6,2,1],[38,33,26,11,10,9,7,6,2,1],[39,26,11,10,9,7,6,2,1],[48,41,11,10,9,7,6,2,1],[58,48,41,11,10,9,6,2,1],[59,41,11,10,9,6,2,1]]) .z))) .z) .z))) .z) .z)) .z))
def S161 : tE2 Tryz.prog P161 161 :=λ_ _ _ _=>.mk _
def P162 : Pl :=(.n none .z (.n none .z (.n none .z (.n none (.n none .z (.n none (.n (some [14,13,12,4,3]) .z .z) .z)) .z))))
def S162 : tE1 Tryz.prog P162 162 :=λ_ _ _=>.mk _
def P163 : Pl :=.z
def S163 : tE1 Tryz.prog P163 163 :=λ_ _ _=>.mk _
def P164 : Pl :=.z
def S164 : tE2 Tryz.prog P164 164 :=λ_ _ _ _=>.mk _
def P165 : Pl :=(.n none .z (.n none .z (.n none (.n none .z (.n (some []) (.n none .z (.n none .z (.n none .z (.n none .z (.n none .z (.n none .z (.n none .z (.n none .z (.n none .z (.n none .z (.n none .z (.n none .z (.n none .z (.n none .z (.n none .z (.n none .z (.n none .z (.n none .z (.n none .z (.n none .z (.n none .z (.n none .z (.n none .z (.n none .z (.n (some [120,6,5,3,0]) .z .z))))))))))))))))))))))))) .z)) .z)))
def S165 : tE2 Tryz.prog P165 165 :=λ_ _ _ _=>.mk _
def P166 : Pl :=(.n none .z (.n none (.n none (.r [[17,13,1,0]]) .z) .z))
def S166 : tE2 Tryz.prog P166 166 :=λ_ _ _ _=>.mk _
def P167 : Pl :=.z
def S167 : tE2 Tryz.prog P167 167 :=λ_ _ _ _=>.mk _
def P168 : Pl :=.z
def S168 : tE1 Tryz.prog P168 168 :=λ_ _ _=>.mk _
def P169 : Pl :=(.n none .z (.n none (.n none .z (.n none (.n (some [9,8,7,1,0]) .z .z) .z)) .z))
def S169 : tE2 Tryz.prog P169 169 :=λ_ _ _ _=>.mk _
def P170 : Pl :=.z
def S170 : tE1 Tryz.prog P170 170 :=λ_ _ _=>.mk _
def P171 : Pl :=.z
def S171 : tE1 Tryz.prog P171 171 :=λ_ _ _=>.mk _
def P172 : Pl :=(.n none .z (.n none .z (.n none (.n none .z (.n none (.n (some [13,12,11,5,0]) .z .z) .z)) .z)))
def S172 : tE2 Tryz.prog P172 172 :=λ_ _ _ _=>.mk _
def P173 : Pl :=.z
def S173 : tE1 Tryz.prog P173 173 :=λ_ _ _=>.mk _
def P176 : Pl :=.z
def S176 : tE1 Tryz.prog P176 176 :=λ_ _ _=>.mk _
def P177 : Pl :=(.n none .z (.n none (.n none (.r [[13,10,3,0],[18,15,3,0]]) .z) .z))
def S177 : tE2 Tryz.prog P177 177 :=λ_ _ _ _=>.mk _
def P178 : Pl :=.z
def S178 : tE1 Tryz.prog P178 178 :=λ_ _ _=>.mk _
def P179 : Pl :=.z
def S179 : tE3 Tryz.prog P179 179 :=λ_ _ _ _ _=>.mk _
def P180 : Pl :=.z
def S180 : tE1 Tryz.prog P180 180 :=λ_ _ _=>.mk _
def P181 : Pl :=.z
def S181 : tE1 Tryz.prog P181 181 :=λ_ _ _=>.mk _
def P182 : Pl :=.z
def S182 : tE1 Tryz.prog P182 182 :=λ_ _ _=>.mk _
def P183 : Pl :=.z
def S183 : tE1 Tryz.prog P183 183 :=λ_ _ _=>.mk _
def P184 : Pl :=.z
def S184 : tE2 Tryz.prog P184 184 :=λ_ _ _ _=>.mk _
def P188 : Pl :=.z
def S188 : tE0 Tryz.prog P188 188 :=λ_ _=>.mk _
def P189 : Pl :=(.n none .z (.n none .z (.n none (.r [[21,17,5,4,1],[27,23,5,1],[33,29,1],[39,35,1],[42,39,35],[43,35]]) .z)))
def S189 : tE1 Tryz.prog P189 189 :=λ_ _ _=>.mk _
def P190 : Pl :=(.n none .z (.n none .z (.n none (.r [[4]]) .z)))
def S190 : tE2 Tryz.prog P190 190 :=λ_ _ _ _=>.mk _
def P191 : Pl :=(.n none .z (.n none (.r [[7,5]]) .z))
def S191 : tE1 Tryz.prog P191 191 :=λ_ _ _=>.mk _
def P192 : Pl :=(.n none .z (.n none (.r [[7,5]]) .z))
def S192 : tE1 Tryz.prog P192 192 :=λ_ _ _=>.mk _
def P193 : Pl :=.z
def S193 : tE1 Tryz.prog P193 193 :=λ_ _ _=>.mk _
def P194 : Pl :=.z
def S194 : tE2 Tryz.prog P194 194 :=λ_ _ _ _=>.mk _
def P195 : Pl :=(.n none .z (.n none .z (.n none (.n none .z (.n none (.n none .z (.n none (.n none (.r [[4]]) .z) (.n none .z (.n none (.n none (.r [[4]]) .z) (.n none .z (.n none (.n none (.r [[4]]) .z) (.n none .z (.n none (.n none (.r [[4]]) .z) (.n none .z (.n none (.n none (.r [[4]]) .z) (.n none .z (.n none (.n none (.r [[4]]) .z) (.n none .z (.n none .z (.n none .z (.n none .z (.n none .z (.n none (.n none (.r [[4]]) .z) (.n none .z (.n none (.n none (.r [[4]]) .z) (.n none .z (.n none (.n none (.r [[4]]) .z) .z)))))))))))))))))))))) .z)) .z)))
def S195 : tE2 Tryz.prog P195 195 :=λ_ _ _ _=>.mk _
def P196 : Pl :=(.n none .z (.n none (.n none .z (.n none (.n none .z (.n none (.n none .z (.n none .z (.n none .z (.n (some [10]) .z .z)))) (.n none .z (.n none .z (.n none .z (.n none (.n none .z (.n none .z (.n (some [15]) .z .z))) .z)))))) .z)) .z))
def S196 : tE4 Tryz.prog P196 196 :=λ_ _ _ _ _ _=>.mk _
def P197 : Pl :=(.n none .z (.n none (.n none .z (.n none (.n (some [7,6,3,0]) .z (.n none .z (.n (some [18,6,0]) .z .z))) .z)) .z))
def S197 : tE2 Tryz.prog P197 197 :=λ_ _ _ _=>.mk _
def P198 : Pl :=.z
def S198 : tE1 Tryz.prog P198 198 :=λ_ _ _=>.mk _
def P199 : Pl :=(.n none .z (.n none (.n none (.n none (.r [[9,7,0]]) (.n none .z (.n none (.r [[18,16,0]]) .z))) .z) .z))
def S199 : tE1 Tryz.prog P199 199 :=λ_ _ _=>.mk _
def P200 : Pl :=(.n none .z (.n none (.r [[14,7]]) .z))
def S200 : tE2 Tryz.prog P200 200 :=λ_ _ _ _=>.mk _
def P201 : Pl :=(.n none .z (.n none (.n none .z (.n none (.n (some [5,4,3]) .z .z) .z)) .z))
def S201 (c : CV) (a0 a1 : AV) (h : AH) : R :=
gF h 3 a1 λv0 h1=>
gF h1 22 (uU 0) λv2 h3=>
gF h3 4 (.bool false) λv4 h5=>
xg a0 λv6=>
qm v6 1 λv7=>
jq h5 v7 λv8=>
jm c (.fn 170 [] []) [v8] h5 λv9 h10=>
Jz c v9 [.yield (h10.new .dfd).nx] ((h10.new .dfd).new (.loop .ready none 201 [1,0,1,0] [5,4,3] [v4,v2,v0] h10.nx)) λ_ h11=>
vV h11 (h10.new .dfd).nx λp13 h12=>
JM p13 (
jD h12 v2 (uU 0) 1 λh14=>
jD h14 v4 (.bool false) 1 λh15=>
zO (h10.nx::[]) h15 λh16=>
jq h16 v2 λv17=>
jq h16 v4 λv18=>
some ((.tup [v17,v18]),h16))<|
pIs p13 .ret (
zO (h10.nx::[]) h12 λh19=>
jq h19 v2 λv20=>
jq h19 v4 λv21=>
some ((.tup [v20,v21]),h19))<|
none
def W201 : WF :=w_2 S201
theorem W201_ok : WOk Tryz.prog 201 W201 :=qJh (pl :=P201) λ_ _ _ _=>by kernel_rfl
def P202 : Pl :=(.n none .z (.n none .z (.n none .z (.n none (.n none .z (.n none (.n (some [20,19,18,5,0]) .z .z) .z)) .z))))
def S202 : tE2 Tryz.prog P202 202 :=λ_ _ _ _=>.mk _
def P203 : Pl :=(.n none .z (.n none (.n (some [3,1,0]) .z .z) .z))
def S203 : tE2 Tryz.prog P203 203 :=λ_ _ _ _=>.mk _
def P204 : Pl :=(.n none .z (.n none (.n none (.r [[12,10,2,1,0]]) .z) .z))
def S204 : tE3 Tryz.prog P204 204 :=λ_ _ _ _ _=>.mk _
def P207 : Pl :=(.n none .z (.n none (.n none .z (.n none (.n (some [13,12,11,1]) .z .z) .z)) .z))
def S207 : tE2 Tryz.prog P207 207 :=λ_ _ _ _=>.mk _
def P208 : Pl :=.z
def S208 : tE2 Tryz.prog P208 208 :=λ_ _ _ _=>.mk _
def P211 : Pl :=(.n none .z (.n none .z (.n none (.n none .z (.n (some [4,3,2]) (.n (some [8,7,5,4,3,2]) .z (.n none .z (.n (some [13,7,5,4,3,2]) .z (.n none (.r [[4,3,2]]) (.n (some [18,7,5,4,3,2]) .z (.n none (.r [[4,3,2]]) (.n (some [27,7,5,4,3,2]) .z (.n none (.r [[4,3,2]]) .z)))))))) .z)) (.n none (.r [[4,3,2]]) .z))))
def S211 : tE1 Tryz.prog P211 211 :=λ_ _ _=>.mk _
def P212 : Pl :=.z
def S212 : tE1 Tryz.prog P212 212 :=λ_ _ _=>.mk _
def P213 : Pl :=(.n none .z (.n none (.r [[13,9]]) .z))
def S213 : tE2 Tryz.prog P213 213 :=λ_ _ _ _=>.mk _
def P214 : Pl :=.z
def S214 : tE2 Tryz.prog P214 214 :=λ_ _ _ _=>.mk _
def P215 : Pl :=.z
def S215 : tE2 Tryz.prog P215 215 :=λ_ _ _ _=>.mk _
def P216 : Pl :=(.n none .z (.n none .z (.n none .z (.n none (.r [[17,15,9]]) .z))))
def S216 : tE3 Tryz.prog P216 216 :=λ_ _ _ _ _=>.mk _
def P217 : Pl :=(.n none .z (.n none .z (.n none .z (.n none (.r [[17,15,9]]) .z))))
def S217 : tE3 Tryz.prog P217 217 :=λ_ _ _ _ _=>.mk _
def P218 : Pl :=(.n none .z (.n none .z (.n none .z (.n none (.r [[17,15,9]]) .z))))
def S218 : tE3 Tryz.prog P218 218 :=λ_ _ _ _ _=>.mk _
def P219 : Pl :=(.n none .z (.n none .z (.n none .z (.n none (.r [[19,17,11]]) .z))))
def S219 : tE4 Tryz.prog P219 219 :=λ_ _ _ _ _ _=>.mk _
def P220 : Pl :=.z
def S220 : tE2 Tryz.prog P220 220 :=λ_ _ _ _=>.mk _
def P221 : Pl :=.z
def S221 : tE3 Tryz.prog P221 221 :=λ_ _ _ _ _=>.mk _
def P222 : Pl :=(.n none .z (.n none .z (.n none .z (.n none (.r [[17,15,9]]) .z))))
def S222 : tE3 Tryz.prog P222 222 :=λ_ _ _ _ _=>.mk _
def P223 : Pl :=.z
def S223 : tE3 Tryz.prog P223 223 :=λ_ _ _ _ _=>.mk _
def P224 : Pl :=(.n none .z (.n none .z (.n none (.n none (.r [[24,22,9,8,7,4,0]]) .z) .z)))
def S224 : tE3 Tryz.prog P224 224 :=λ_ _ _ _ _=>.mk _
def P225 : Pl :=(.n none .z (.n none .z (.n none .z (.n none (.r [[19,17,11]]) .z))))
def S225 : tE4 Tryz.prog P225 225 :=λ_ _ _ _ _ _=>.mk _
def P226 : Pl :=.z
def S226 : tE3 Tryz.prog P226 226 :=λ_ _ _ _ _=>.mk _
def P227 : Pl :=(.n none .z (.n none .z (.n none .z (.n none (.r [[17,15,9]]) .z))))
def S227 : tE3 Tryz.prog P227 227 :=λ_ _ _ _ _=>.mk _
def P228 : Pl :=.z
def S228 : tE4 Tryz.prog P228 228 :=λ_ _ _ _ _ _=>.mk _
def P229 : Pl :=(.n none .z (.n none (.n none (.r [[13,8,1,0],[20,15,1,0]]) .z) .z))
def S229 : tE2 Tryz.prog P229 229 :=λ_ _ _ _=>.mk _
def P230 : Pl :=.z
def S230 : tE3 Tryz.prog P230 230 :=λ_ _ _ _ _=>.mk _
def P231 : Pl :=.z
def S231 : tE2 Tryz.prog P231 231 :=λ_ _ _ _=>.mk _
def P232 : Pl :=(.n none .z (.n none .z (.n (some [7,5,1,0]) (.n none (.r [[19,17,7,5,1,0]]) .z) (.n (some [7,1,0]) .z (.n (some [7]) .z .z)))))
def S232 : tE2 Tryz.prog P232 232 :=λ_ _ _ _=>.mk _
def P233 : Pl :=(.n none .z (.n none .z (.n none (.r [[]]) .z)))
def S233 : tE3 Tryz.prog P233 233 :=λ_ _ _ _ _=>.mk _
def P234 : Pl :=.z
def S234 : tE1 Tryz.prog P234 234 :=λ_ _ _=>.mk _
def P235 : Pl :=.z
def S235 : tE1 Tryz.prog P235 235 :=λ_ _ _=>.mk _
def P236 : Pl :=.z
def S236 : tE2 Tryz.prog P236 236 :=λ_ _ _ _=>.mk _
def P237 : Pl :=.z
def S237 : tE1 Tryz.prog P237 237 :=λ_ _ _=>.mk _
def P238 : Pl :=(.n none .z (.n none (.n none (.n (some [0]) .z .z) .z) .z))
def S238 : tE1 Tryz.prog P238 238 :=λ_ _ _=>.mk _
def P239 : Pl :=.z
def S239 : tE2 Tryz.prog P239 239 :=λ_ _ _ _=>.mk _
def P240 : Pl :=.z
def S240 : tE1 Tryz.prog P240 240 :=λ_ _ _=>.mk _
def P241 : Pl :=(.n none .z (.n none (.n none (.r [[14,12,2,1,0]]) .z) (.n none .z (.n none (.n none .z (.n none (.r [[32,29,7,2,1]]) .z)) .z))))
def S241 : tE3 Tryz.prog P241 241 :=λ_ _ _ _ _=>.mk _
def P242 : Pl :=.z
def S242 : tE2 Tryz.prog P242 242 :=λ_ _ _ _=>.mk _
def P254 : Pl :=.z
def S254 (_ : CV) (a0 : AV) (h : AH) : R :=
jc .lss a0 (iI 10) λv0=>
zM v0 (
jc .add a0 (iI 1) λv1=>
vn (.str [48,49,50,51,52,53,54,55,56,57,97,98,99,100,101,102,103,104,105,106,107,108,109,110,111,112,113,114,115,116,117,118,119,120,121,122]) (some a0) (some v1) λv2=>
some (v2,h)) (
jc .mul a0 (iI 2) λv3=>
jc .mul a0 (iI 2) λv4=>
jc .add v4 (iI 2) λv5=>
vn (.str [48,48,48,49,48,50,48,51,48,52,48,53,48,54,48,55,48,56,48,57,49,48,49,49,49,50,49,51,49,52,49,53,49,54,49,55,49,56,49,57,50,48,50,49,50,50,50,51,50,52,50,53,50,54,50,55,50,56,50,57,51,48,51,49,51,50,51,51,51,52,51,53,51,54,51,55,51,56,51,57,52,48,52,49,52,50,52,51,52,52,52,53,52,54,52,55,52,56,52,57,53,48,53,49,53,50,53,51,53,52,53,53,53,54,53,55,53,56,53,57,54,48,54,49,54,50,54,51,54,52,54,53,54,54,54,55,54,56,54,57,55,48,55,49,55,50,55,51,55,52,55,53,55,54,55,55,55,56,55,57,56,48,56,49,56,50,56,51,56,52,56,53,56,54,56,55,56,56,56,57,57,48,57,49,57,50,57,51,57,52,57,53,57,54,57,55,57,56,57,57]) (some v3) (some v5) λv6=>
some (v6,h))
def W254 : WF :=w_1 S254
theorem W254_ok : WOk Tryz.prog 254 W254 :=GU (pl :=P254) λ_ _ _=>by kernel_rfl
def P257 : Pl :=(.n none .z (.n (some [11,10,4,3,2,1,0]) (.n none (.r [[23,21,11,10,4,3,2,1,0],[27,25,11,10,4,3,2,1,0]]) .z) (.n none .z (.n none .z (.n (some [13,12,11,10,4,3,2,1,0]) .z (.n (some [13,12,11,10,4,3,0]) (.n none .z (.n none (.n none .z (.n none .z (.n none .z (.n none (.n none (.n (some [16,15,14,13,12,11,10,4,3,1,0]) .z .z) .z) .z)))) (.n none .z (.n none (.n none (.n (some [17,13,12,11,10,4,3,1,0]) .z .z) .z) .z)))) (.n (some [13,12,11,10,4,0]) .z .z)))))))
def S257 (c : CV) (a0 a1 a2 a3 a4 : AV) (h : AH) : R :=
xp (α :=AV×AV×AV×AV×AV×AV×AV×Unit→AH→List Nat→R) (λs0 h1 d2=>
gF h1 357 (.agg [(.int .u8 (.ofNat 0)),(.int .u8 (.ofNat 0)),(.int .u8 (.ofNat 0)),(.int .u8 (.ofNat 0)),(.int .u8 (.ofNat 0)),(.int .u8 (.ofNat 0)),(.int .u8 (.ofNat 0)),(.int .u8 (.ofNat 0)),(.int .u8 (.ofNat 0)),(.int .u8 (.ofNat 0)),(.int .u8 (.ofNat 0)),(.int .u8 (.ofNat 0)),(.int .u8 (.ofNat 0)),(.int .u8 (.ofNat 0)),(.int .u8 (.ofNat 0)),(.int .u8 (.ofNat 0)),(.int .u8 (.ofNat 0)),(.int .u8 (.ofNat 0)),(.int .u8 (.ofNat 0)),(.int .u8 (.ofNat 0)),(.int .u8 (.ofNat 0)),(.int .u8 (.ofNat 0)),(.int .u8 (.ofNat 0)),(.int .u8 (.ofNat 0)),(.int .u8 (.ofNat 0)),(.int .u8 (.ofNat 0)),(.int .u8 (.ofNat 0)),(.int .u8 (.ofNat 0)),(.int .u8 (.ofNat 0)),(.int .u8 (.ofNat 0)),(.int .u8 (.ofNat 0)),(.int .u8 (.ofNat 0)),(.int .u8 (.ofNat 0)),(.int .u8 (.ofNat 0)),(.int .u8 (.ofNat 0)),(.int .u8 (.ofNat 0)),(.int .u8 (.ofNat 0)),(.int .u8 (.ofNat 0)),(.int .u8 (.ofNat 0)),(.int .u8 (.ofNat 0)),(.int .u8 (.ofNat 0)),(.int .u8 (.ofNat 0)),(.int .u8 (.ofNat 0)),(.int .u8 (.ofNat 0)),(.int .u8 (.ofNat 0)),(.int .u8 (.ofNat 0)),(.int .u8 (.ofNat 0)),(.int .u8 (.ofNat 0)),(.int .u8 (.ofNat 0)),(.int .u8 (.ofNat 0)),(.int .u8 (.ofNat 0)),(.int .u8 (.ofNat 0)),(.int .u8 (.ofNat 0)),(.int .u8 (.ofNat 0)),(.int .u8 (.ofNat 0)),(.int .u8 (.ofNat 0)),(.int .u8 (.ofNat 0)),(.int .u8 (.ofNat 0)),(.int .u8 (.ofNat 0)),(.int .u8 (.ofNat 0)),(.int .u8 (.ofNat 0)),(.int .u8 (.ofNat 0)),(.int .u8 (.ofNat 0)),(.int .u8 (.ofNat 0)),(.int .u8 (.ofNat 0))]) λv4 h5=>
xp (α :=u9_1→AH→List Nat→R) (λs6 h7 d8=>
xp (α :=AV×AV×AV×AV×AV×AV×AV×Unit→AH→List Nat→R) (λs10 h11 d12=>
xp (α :=AV×AV×AV×AV×AV×AV×Unit→AH→List Nat→R) (λs14 h15 d16=>
zM s14.2.2.2.2.1 (
gJ 65 1 s14.2.1 (some s14.1) none λv18=>
zl h15 5 1 s14.2.2.2.2.2.1 v18 λv19 h20=>
zO d16 h20 λh21=>
some ((.tup [v19,s14.2.2.1]),h21)) (
gJ 65 1 s14.2.1 (some s14.1) none λv22=>
UZ h15 v22 λv23=>
zO d16 h15 λh24=>
some ((.tup [s14.2.2.2.1,v23]),h24))) λj17=>
zM s10.2.2.2.2.2.1 (
jc .sub s10.1 (iI 1) λv25=>
kb s10.2.1 v25 65 1 λv26=>
jD h11 v26 (.int .u8 (.ofNat 45)) 1 λh27=>
j17 (v25,s10.2.1,s10.2.2.1,s10.2.2.2.1,s10.2.2.2.2.1,s10.2.2.2.2.2.2.1,()) h27 d12) (
j17 (s10.1,s10.2.1,s10.2.2.1,s10.2.2.2.1,s10.2.2.2.2.1,s10.2.2.2.2.2.2.1,()) h11 d12)) λj13=>
jm c (.fn 317 [] []) [s6.2.2.2.2.2.2.1] h7 λv28 h29=>
zM v28 (
vM .u64 s6.2.2.2.2.2.2.1 λv30=>
jm c (.fn 318 [] []) [v30] h29 λv31 h32=>
vM .u64 v31 λv33=>
vM .u64 s6.2.2.2.2.2.2.1 λv34=>
vM .u64 s6.2.2.2.2.2.2.1 λv35=>
jc .sub v35 (uU 1) λv36=>
Xf (σ :=AV×AV×AV×AV×AV×AV×AV×AV×AV×AV×AV×Unit) NN (λi40 s37 h38 d39=>
jc .geq s37.2.2.2.2.2.2.2.2.2.1 s37.2.1 λv41=>
zM v41 (
jc .sub s37.2.2.2.1 (iI 1) λv42=>
jc .and s37.2.2.2.2.2.2.2.2.2.1 s37.1 λv43=>
gQ (.str [48,49,50,51,52,53,54,55,56,57,97,98,99,100,101,102,103,104,105,106,107,108,109,110,111,112,113,114,115,116,117,118,119,120,121,122]) v43 λv44=>
kb s37.2.2.2.2.1 v42 65 1 λv45=>
jD h38 v45 v44 1 λh46=>
wQ .shr s37.2.2.2.2.2.2.2.2.2.1 s37.2.2.1 λv47=>
i40 (s37.1,s37.2.1,s37.2.2.1,v42,s37.2.2.2.2.1,s37.2.2.2.2.2.1,s37.2.2.2.2.2.2.1,s37.2.2.2.2.2.2.2.1,s37.2.2.2.2.2.2.2.2.1,v47,s37.2.2.2.2.2.2.2.2.2.2.1,()) h46 d39) (
jc .sub s37.2.2.2.1 (iI 1) λv48=>
gQ (.str [48,49,50,51,52,53,54,55,56,57,97,98,99,100,101,102,103,104,105,106,107,108,109,110,111,112,113,114,115,116,117,118,119,120,121,122]) s37.2.2.2.2.2.2.2.2.2.1 λv49=>
kb s37.2.2.2.2.1 v48 65 1 λv50=>
jD h38 v50 v49 1 λh51=>
j13 (v48,s37.2.2.2.2.1,s37.2.2.2.2.2.1,s37.2.2.2.2.2.2.1,s37.2.2.2.2.2.2.2.1,s37.2.2.2.2.2.2.2.2.1,s37.2.2.2.2.2.2.2.2.2.2.1,()) h51 d39)) (v36,v34,v33,s6.1,s6.2.1,s6.2.2.1,s6.2.2.2.1,s6.2.2.2.2.1,s6.2.2.2.2.2.1,s6.2.2.2.2.2.2.2.1,s6.2.2.2.2.2.2.2.2.1,()) h32 d8) (
vM .u64 s6.2.2.2.2.2.2.1 λv52=>
Xf (σ :=u9_1) NN (λi56 s53 h54 d55=>
jc .geq s53.2.2.2.2.2.2.2.1 s53.1 λv57=>
zM v57 (
jc .sub s53.2.1 (iI 1) λv58=>
jc .quo s53.2.2.2.2.2.2.2.1 s53.1 λv59=>
jc .mul v59 s53.1 λv60=>
jc .sub s53.2.2.2.2.2.2.2.1 v60 λv61=>
gQ (.str [48,49,50,51,52,53,54,55,56,57,97,98,99,100,101,102,103,104,105,106,107,108,109,110,111,112,113,114,115,116,117,118,119,120,121,122]) v61 λv62=>
kb s53.2.2.1 v58 65 1 λv63=>
jD h54 v63 v62 1 λh64=>
i56 (s53.1,v58,s53.2.2.1,s53.2.2.2.1,s53.2.2.2.2.1,s53.2.2.2.2.2.1,s53.2.2.2.2.2.2.1,v59,s53.2.2.2.2.2.2.2.2.1,()) h64 d55) (
jc .sub s53.2.1 (iI 1) λv65=>
gQ (.str [48,49,50,51,52,53,54,55,56,57,97,98,99,100,101,102,103,104,105,106,107,108,109,110,111,112,113,114,115,116,117,118,119,120,121,122]) s53.2.2.2.2.2.2.2.1 λv66=>
kb s53.2.2.1 v65 65 1 λv67=>
jD h54 v67 v66 1 λh68=>
j13 (v65,s53.2.2.1,s53.2.2.2.1,s53.2.2.2.2.1,s53.2.2.2.2.2.1,s53.2.2.2.2.2.2.1,s53.2.2.2.2.2.2.2.2.1,()) h68 d55)) (v52,s6.1,s6.2.1,s6.2.2.1,s6.2.2.2.1,s6.2.2.2.2.1,s6.2.2.2.2.2.1,s6.2.2.2.2.2.2.2.1,s6.2.2.2.2.2.2.2.2.1,()) h29 d8)) λj9=>
zM s0.2.2.2.1 (
pUn .neg s0.2.2.2.2.2.1 λv69=>
j9 ((iI 65),v4,s0.1,s0.2.1,s0.2.2.1,s0.2.2.2.1,s0.2.2.2.2.1,v69,s0.2.2.2.2.2.2.1,()) h5 d2) (
j9 ((iI 65),v4,s0.1,s0.2.1,s0.2.2.1,s0.2.2.2.1,s0.2.2.2.2.1,s0.2.2.2.2.2.1,s0.2.2.2.2.2.2.1,()) h5 d2)) λj3=>
jc .lss a2 (iI 2) λv70=>
xp (α :=u9_1→AH→R) (λs71 h72=>
gp s71.2.1 (.bool true) s71.1 λv74=>
xp (α :=u9_1→AH→R) (λs75 h76=>
gp s75.2.1 (.bool true) s75.1 λv78=>
zM v78 (
none/-op-/) (
j3 (s75.2.2.1,s75.2.2.2.1,s75.2.2.2.2.1,s75.2.2.2.2.2.1,s75.2.2.2.2.2.2.1,s75.2.2.2.2.2.2.2.1,s75.2.2.2.2.2.2.2.2.1,()) h76 [])) λj77=>
kQ v74 false (
jc .gtr s71.2.2.2.2.2.2.1 (iI 36) λv79=>
j77 (v79,v74,s71.2.2.1,s71.2.2.2.1,s71.2.2.2.2.1,s71.2.2.2.2.2.1,s71.2.2.2.2.2.2.1,s71.2.2.2.2.2.2.2.1,s71.2.2.2.2.2.2.2.2.1,()) h72) (
j77 (.undef,v74,s71.2.2.1,s71.2.2.2.1,s71.2.2.2.2.1,s71.2.2.2.2.2.1,s71.2.2.2.2.2.2.1,s71.2.2.2.2.2.2.2.1,s71.2.2.2.2.2.2.2.2.1,()) h72)) λj73=>
kQ v70 false (
jc .eql a2 (iI 10) λv80=>
j73 (v80,v70,(.str []),.nils,a4,a3,a2,a1,a0,()) h) (
j73 (.undef,v70,(.str []),.nils,a4,a3,a2,a1,a0,()) h)
def W257 : WF :=w_5 S257
theorem W257_ok : WOk Tryz.prog 257 W257 :=qg0 (pl :=P257) λ_ _ _ _ _ _ _=>by kernel_rfl
def P260 : Pl :=(.n none .z (.n none (.n none (.r [[11,7,1,0]]) .z) .z))
def S260 : tE2 Tryz.prog P260 260 :=λ_ _ _ _=>.mk _
def P261 : Pl :=.z
def S261 (_ : CV) (h : AH) : R :=
zb h 9 [(.str [])] 24 [(0,1,(.str [])),(1,1,(.str [115,101,116])),(2,1,(.str [109,111,118,101])),(3,1,(.str [97,100,100])),(4,1,(.str [115,117,98])),(5,1,(.str [109,117,108])),(6,1,(.str [108,101,115,115])),(7,1,(.str [101,113,117,97,108])),(8,1,(.str [108,111,97,100])),(9,1,(.str [115,116,111,114,101])),(10,1,(.str [97,108,108,111,99])),(11,1,(.str [102,114,101,101])),(12,1,(.str [106,117,109,112])),(13,1,(.str [122,101,114,111])),(14,1,(.str [111,112,101,110])),(15,1,(.str [99,108,111,115,101])),(16,1,(.str [117,110,100,111])),(17,1,(.str [101,105,116,104,101,114])),(18,1,(.str [111,114])),(19,1,(.str [100,111,110,101])),(20,1,(.str [114,101,116,114,121])),(21,1,(.str [101,109,105,116])),(22,1,(.str [102,97,105,108])),(23,1,(.str [99,97,108,108]))] λv0 h1=>
some (v0,h1)
def W261 : WF :=w_0 S261
theorem W261_ok : WOk Tryz.prog 261 W261 :=qwT (pl :=P261) λ_ _=>by kernel_rfl
def P262 : Pl :=(.n none .z (.n none .z (.n none .z (.n none (.r [[]]) .z))))
def S262 : tE4 Tryz.prog P262 262 :=λ_ _ _ _ _ _=>.mk _
def P263 : Pl :=.z
def S263 : tE2 Tryz.prog P263 263 :=λ_ _ _ _=>.mk _
def P264 : Pl :=(.n none .z (.n none (.n none (.r [[17,15,2,0]]) .z) (.n none .z (.n none .z (.n none .z (.n none .z (.n none .z (.n none (.n none .z (.n none (.n (some [67,66,65,0]) .z .z) .z)) .z))))))))
def S264 : tE3 Tryz.prog P264 264 :=λ_ _ _ _ _=>.mk _
def P265 : Pl :=(.n none .z (.n none (.n none (.r [[22,18,6,5,3,2,0]]) .z) .z))
def S265 : tE4 Tryz.prog P265 265 :=λ_ _ _ _ _ _=>.mk _
def P266 : Pl :=(.n none .z (.n none .z (.n none (.n (some [7,6]) (.n (some [7,6,2,0]) (.n none .z (.n none (.n none .z (.n none (.n none (.r [[22,16,7,6,2,0]]) .z) .z)) .z)) .z) .z) .z)))
def S266 : tE3 Tryz.prog P266 266 :=λ_ _ _ _ _=>.mk _
def P267 : Pl :=.z
def S267 : tE1 Tryz.prog P267 267 :=λ_ _ _=>.mk _
def P268 : Pl :=(.n none .z (.n none (.r [[11,9,2,1,0],[19,13]]) .z))
def S268 : tE3 Tryz.prog P268 268 :=λ_ _ _ _ _=>.mk _
def P269 : Pl :=.z
def S269 : tE2 Tryz.prog P269 269 :=λ_ _ _ _=>.mk _
def P270 : Pl :=.z
def S270 : tE3 Tryz.prog P270 270 :=λ_ _ _ _ _=>.mk _
def P271 : Pl :=.z
def S271 : tE3 Tryz.prog P271 271 :=λ_ _ _ _ _=>.mk _
def P272 : Pl :=.z
def S272 : tE4 Tryz.prog P272 272 :=λ_ _ _ _ _ _=>.mk _
def P273 : Pl :=.z
def S273 : tE2 Tryz.prog P273 273 :=λ_ _ _ _=>.mk _
def P274 : Pl :=.z
def S274 : tE2 Tryz.prog P274 274 :=λ_ _ _ _=>.mk _
def P275 : Pl :=.z
def S275 : tE4 Tryz.prog P275 275 :=λ_ _ _ _ _ _=>.mk _
def P276 : Pl :=(.n none .z (.n (some [6,4,3,2,0]) (.n none (.r [[20,15,6,4,3,2,1,0]]) .z) (.n none .z (.n none .z (.n none .z (.n (some [7,6,4,3,2,0]) (.n none (.r [[53,43,7,6,4,3,2,0],[60,55,7,6,4,3,2,0]]) .z) .z))))))
def S276 : tE5 Tryz.prog P276 276 :=λ_ _ _ _ _ _ _=>.mk _
def P277 : Pl :=(.n none .z (.n none .z (.n none .z (.n none .z (.n none .z (.n (some [6,5,0]) (.n none (.r [[40,38,6,5,0],[47,42,6,5,0]]) .z) .z))))))
def S277 : tE2 Tryz.prog P277 277 :=λ_ _ _ _=>.mk _
def P278 : Pl :=(.n none .z (.n none .z (.n none (.n none .z (.n none (.n (some [14,5,1,0]) .z .z) .z)) .z)))
def S278 : tE2 Tryz.prog P278 278 :=λ_ _ _ _=>.mk _
def P279 : Pl :=(.n none .z (.n none (.r [[4,1,0]]) (.n none (.n none (.n (some [4,1,0]) (.n none .z (.n none (.n none .z (.n none (.n none (.r [[39,30,5,4,1,0]]) .z) .z)) .z)) .z) .z) .z)))
def S279 : tE2 Tryz.prog P279 279 :=λ_ _ _ _=>.mk _
def P280 : Pl :=(.n none .z (.n none .z (.n none .z (.n none .z (.n none .z (.n none (.n none .z (.n none (.n (some [25,24,23,4,2,1]) .z .z) .z)) (.n none .z (.n none (.r [[4,2,1]]) .z))))))))
def S280 : tE1 Tryz.prog P280 280 :=λ_ _ _=>.mk _
def P281 : Pl :=(.n none .z (.n none .z (.n none (.n none (.r [[20,13,4,3,1,0],[25,22,4,3,0],[31,25,22,4,3,0],[32,22,4,3,0]]) .z) .z)))
def S281 : tE5 Tryz.prog P281 281 :=λ_ _ _ _ _ _ _=>.mk _
def P282 : Pl :=.z
def S282 : tE1 Tryz.prog P282 282 :=λ_ _ _=>.mk _
def P283 : Pl :=(.n none .z (.n none (.n none (.r [[20,15,6,4,3,2,0]]) .z) .z))
def S283 : tE5 Tryz.prog P283 283 :=λ_ _ _ _ _ _ _=>.mk _
def P284 : Pl :=(.n none .z (.n none (.n none (.r [[19,14,5,3,2,0]]) .z) .z))
def S284 : tE4 Tryz.prog P284 284 :=λ_ _ _ _ _ _=>.mk _
def P285 : Pl :=.z
def S285 : tE3 Tryz.prog P285 285 :=λ_ _ _ _ _=>.mk _
def P286 : Pl :=.z
def S286 : tE2 Tryz.prog P286 286 :=λ_ _ _ _=>.mk _
def P287 : Pl :=.z
def S287 : tE5 Tryz.prog P287 287 :=λ_ _ _ _ _ _ _=>.mk _
def P288 : Pl :=(.n none .z (.n none .z (.n none (.n none .z (.n none (.n (some [5,1,0]) (.n none (.n none (.r [[20,15,5,1,0]]) .z) (.n none (.n none .z (.n none .z (.n none .z (.n (some [7,5,1,0]) .z .z)))) .z)) .z) .z)) .z)))
def S288 : tE2 Tryz.prog P288 288 :=λ_ _ _ _=>.mk _
def P289 : Pl :=.z
def S289 : tE3 Tryz.prog P289 289 :=λ_ _ _ _ _=>.mk _
def P290 : Pl :=(.n none (.n none (.n (some [0]) (.n none (.n none (.r [[17,12,0]]) .z) (.n none (.n none .z (.n none (.r [[4,3,2,0]]) .z)) .z)) .z) .z) (.n none (.r [[92,87,0]]) .z))
def S290 : tE1 Tryz.prog P290 290 :=λ_ _ _=>.mk _
def P291 : Pl :=.z
def S291 : tE5 Tryz.prog P291 291 :=λ_ _ _ _ _ _ _=>.mk _
def P292 : Pl :=(.n none .z (.n none .z (.n none (.r [[18,16,6,5,3]]) .z)))
def S292 : tE4 Tryz.prog P292 292 :=λ_ _ _ _ _ _=>.mk _
def P293 : Pl :=(.n (some [1,0]) (.n none (.r [[15,11,1,0]]) (.n none (.n none .z (.n none (.r [[4,1,0]]) (.n none (.r [[4,0]]) .z))) .z)) (.n none .z (.n (some [5,1,0]) .z (.n none .z (.n none .z (.n none (.n (some [1,0]) .z .z) .z))))))
def S293 : tE2 Tryz.prog P293 293 :=λ_ _ _ _=>.mk _
def P294 : Pl :=(.n none .z (.r [[]]))
def S294 : tE5 Tryz.prog P294 294 :=λ_ _ _ _ _ _ _=>.mk _
def P295 : Pl :=(.n none .z (.n none (.n none (.r [[20,14,4,3,2,1,0]]) .z) (.n none .z (.n (some [11,4,3,2,1,0]) .z (.n (some [11,4,3,2,1,0]) (.n none (.r [[47,44,11,4,3,2,1,0]]) .z) (.n (some [4]) .z .z))))))
def S295 : tE5 Tryz.prog P295 295 :=λ_ _ _ _ _ _ _=>.mk _
def P296 : Pl :=.z
def S296 : tE1 Tryz.prog P296 296 :=λ_ _ _=>.mk _
def P297 : Pl :=(.n none .z (.n none .z (.n none (.n none .z (.n none (.n (some [3,0]) .z .z) .z)) .z)))
def S297 : tE1 Tryz.prog P297 297 :=λ_ _ _=>.mk _
def P298 : Pl :=(.n none .z (.n none .z (.n none .z (.n none .z (.n (some [10,8]) .z .z)))))
def S298 : tE3 Tryz.prog P298 298 :=λ_ _ _ _ _=>.mk _
def P299 : Pl :=(.n none .z (.n none .z (.n none .z (.n none (.n none (.r [[22,20,6,1,0],[33,24,6,1,0]]) .z) .z))))
def S299 : tE2 Tryz.prog P299 299 :=λ_ _ _ _=>.mk _
def P300 : Pl :=.z
def S300 : tE2 Tryz.prog P300 300 :=λ_ _ _ _=>.mk _
def P301 : Pl :=.z
def S301 : tE1 Tryz.prog P301 301 :=λ_ _ _=>.mk _
def P302 : Pl :=.z
def S302 : tE1 Tryz.prog P302 302 :=λ_ _ _=>.mk _
def P303 : Pl :=(.n none .z (.n none .z (.n none .z (.n none .z (.n none .z (.n none (.r [[2]]) .z))))))
def S303 : tE1 Tryz.prog P303 303 :=λ_ _ _=>.mk _
def P304 : Pl :=.z
def S304 : tE2 Tryz.prog P304 304 :=λ_ _ _ _=>.mk _
def P305 : Pl :=.z
def S305 : tE1 Tryz.prog P305 305 :=λ_ _ _=>.mk _
def P306 : Pl :=(.n none .z (.n none .z (.n none (.n none .z (.n none (.n (some [15,14,13,3]) .z .z) .z)) .z)))
def S306 : tE1 Tryz.prog P306 306 :=λ_ _ _=>.mk _
def P307 : Pl :=(.n none .z (.n none (.n none .z (.n none (.n (some [8,7,1,0]) .z .z) .z)) .z))
def S307 : tE2 Tryz.prog P307 307 :=λ_ _ _ _=>.mk _
def P308 : Pl :=.z
def S308 : tE2 Tryz.prog P308 308 :=λ_ _ _ _=>.mk _
def P311 : Pl :=.z
def S311 : tE1 Tryz.prog P311 311 :=λ_ _ _=>.mk _
def P317 : Pl :=.z
def S317 : tE1 Tryz.prog P317 317 :=λ_ _ _=>.mk _
def P318 : Pl :=.z
def S318 : tE1 Tryz.prog P318 318 :=λ_ _ _=>.mk _
def P319 : Pl :=(.n none .z (.n none .z (.n none (.n none .z (.n none (.n (some [14,13,12,3,0]) .z .z) .z)) (.n none (.n none .z (.n none (.n (some [28,27,26,3]) .z .z) .z)) .z))))
def S319 : tE1 Tryz.prog P319 319 :=λ_ _ _=>.mk _
def P320 : Pl :=(.n none .z (.n none .z (.n (some [0]) .z .z)))
def S320 : tE1 Tryz.prog P320 320 :=λ_ _ _=>.mk _
def P321 : Pl :=.z
def S321 : tE2 Tryz.prog P321 321 :=λ_ _ _ _=>.mk _
def P322 : Pl :=.z
def S322 : tE2 Tryz.prog P322 322 :=λ_ _ _ _=>.mk _
def P323 : Pl :=.z
def S323 : tE2 Tryz.prog P323 323 :=λ_ _ _ _=>.mk _
def P324 : Pl :=(.n none .z (.n none (.n (some [11,10,1,0]) (.n none .z (.n none .z (.n none (.n none (.n none .z (.n none .z (.n none (.n (some [11,10,5,1,0]) (.n none (.n none (.r [[32,27,11,10,5,1,0]]) .z) .z) .z) .z))) .z) .z))) .z) .z))
def S324 : tE2 Tryz.prog P324 324 :=λ_ _ _ _=>.mk _
def P325 : Pl :=(.n none (.r [[5,3,1,0]]) .z)
def S325 : tE4 Tryz.prog P325 325 :=λ_ _ _ _ _ _=>.mk _
def P326 : Pl :=(.n none .z (.n (some [5,4,2,0]) .z (.n none .z (.n none .z (.n none .z (.n (some [6,4,0]) .z .z))))))
def S326 : tE3 Tryz.prog P326 326 :=λ_ _ _ _ _=>.mk _
def P327 : Pl :=.z
def S327 : tE4 Tryz.prog P327 327 :=λ_ _ _ _ _ _=>.mk _
def P328 : Pl :=(.n none .z (.n none .z (.n none .z (.n none (.r [[6]]) .z))))
def S328 : tE3 Tryz.prog P328 328 :=λ_ _ _ _ _=>.mk _
def P329 : Pl :=(.n none .z (.r [[]]))
def S329 : tE4 Tryz.prog P329 329 :=λ_ _ _ _ _ _=>.mk _
def P330 : Pl :=(.n none .z (.n none (.r [[16,7]]) .z))
def S330 : tE2 Tryz.prog P330 330 :=λ_ _ _ _=>.mk _
def P331 : Pl :=(.n none .z (.n (some [5,0]) (.n none .z (.n none (.r [[5,0]]) .z)) .z))
def S331 : tE3 Tryz.prog P331 331 :=λ_ _ _ _ _=>.mk _
def P332 : Pl :=.z
def S332 : tE3 Tryz.prog P332 332 :=λ_ _ _ _ _=>.mk _
def P333 : Pl :=(.n none .z (.n none .z (.n none .z (.n none (.n (some [1]) (.n (some [1,0]) .z .z) .z) .z))))
def S333 : tE2 Tryz.prog P333 333 :=λ_ _ _ _=>.mk _
def P334 : Pl :=(.n none (.n (some [0]) (.n none (.n none (.r [[16,11,0]]) .z) (.n (some [0]) (.n none .z (.n none .z (.n none .z (.n none .z (.n none (.n none (.r [[90,85,4,3,2,0]]) .z) .z))))) .z)) .z) .z)
def S334 : tE1 Tryz.prog P334 334 :=λ_ _ _=>.mk _
def P335 : Pl :=(.n none .z (.n none (.n none (.r [[7,5,0]]) .z) .z))
def S335 : tE1 Tryz.prog P335 335 :=λ_ _ _=>.mk _
def P336 : Pl :=.z
def S336 : tE2 Tryz.prog P336 336 :=λ_ _ _ _=>.mk _
def P337 : Pl :=(.n none .z (.n none .z (.n none (.r [[]]) .z)))
def S337 : tE1 Tryz.prog P337 337 :=λ_ _ _=>.mk _
def P338 : Pl :=.z
def S338 : tE1 Tryz.prog P338 338 :=λ_ _ _=>.mk _
def P340 : Pl :=.z
def S340 : tE1 Tryz.prog P340 340 :=λ_ _ _=>.mk _
def P341 : Pl :=.z
def S341 : tE1 Tryz.prog P341 341 :=λ_ _ _=>.mk _
def P342 : Pl :=.z
def S342 : tE2 Tryz.prog P342 342 :=λ_ _ _ _=>.mk _
def P343 : Pl :=.z
def S343 : tE3 Tryz.prog P343 343 :=λ_ _ _ _ _=>.mk _
def P344 : Pl :=(.n none .z (.n (some [4,2,0]) .z .z))
def S344 : tE3 Tryz.prog P344 344 :=λ_ _ _ _ _=>.mk _
def P367 : Pl :=.z
def S367 : tE1 Tryz.prog P367 367 :=λ_ _ _=>.mk _
def P368 : Pl :=.z
def S368 : tE1 Tryz.prog P368 368 :=λ_ _ _=>.mk _
def P369 : Pl :=(.n none .z (.n (some []) (.n none .z (.n none .z (.n none .z (.n none .z (.n none (.r [[41,34,3,0]]) .z))))) .z))
def S369 (c : CV) (a0 a1 : AV) (h : AH) : R :=
gF h 76 a1 λv0 h1=>
xp (α :=Unit→AH→List Nat→R) (λ_ h3 d4=>
zO d4 h3 λh6=>
some ((.tup []),h6)) λj5=>
xg a0 λv7=>
qm v7 0 λv8=>
zY h1 v0 6 λv9=>
jm c (.fn 371 [] []) [v8,v9] h1 λv10 h11=>
zM v10 (
j5 (()) h11 []) (
xg a0 λv12=>
qm v12 8 λv13=>
jq h11 v13 λv14=>
jc .eql v14 (iI 1) λv15=>
zM v15 (
qm v0 0 λv16=>
jq h11 v16 λv17=>
xg a0 λv18=>
qm v18 12 λv19=>
jD h11 v19 v17 1 λh20=>
xg a0 λv21=>
qm v21 8 λv22=>
jD h20 v22 (iI 2) 1 λh23=>
j5 (()) h23 []) (
xg a0 λv24=>
qm v24 8 λv25=>
jq h11 v25 λv26=>
jc .eql v26 (iI 2) λv27=>
xp (α :=AV×AV×AV×AV×Unit→AH→R) (λs28 h29=>
gp s28.2.1 s28.1 (.bool false) λv31=>
zM v31 (
xg s28.2.2.2.1 λv32=>
qm v32 0 λv33=>
jm c (.fn 372 [] []) [v33,(iI 2),(iI 0),(.int .i64 (.negSucc 0))] h29 λ_ h35=>
j5 (()) h35 []) (
qm s28.2.2.1 1 λv36=>
zY h29 v36 3 λv37=>
jm c (.fn 373 [] []) [s28.2.2.2.1,v37] h29 λ_ h39=>
j5 (()) h39 [])) λj30=>
kQ v27 true (
qm v0 1 λv40=>
zY h11 v40 3 λv41=>
xg a0 λv42=>
qm v42 9 λv43=>
zY h11 v43 3 λv44=>
Yn [.bas .int 0,.bas .bool 1,.bas .int 2] false v41 v44 λv45=>
j30 (v45,v27,v0,a0,()) h11) (
j30 (.undef,v27,v0,a0,()) h11)))
def W369 : WF :=w_2 S369
theorem W369_ok : WOk Tryz.prog 369 W369 :=qJh (pl :=P369) λ_ _ _ _=>by kernel_rfl
def P370 : Pl :=.z
def S370 : tE1 Tryz.prog P370 370 :=λ_ _ _=>.mk _
def P371 : Pl :=(.n none .z (.n (some [0]) (.n none (.r [[13,10,3,0]]) .z) .z))
def S371 : tE2 Tryz.prog P371 371 :=λ_ _ _ _=>.mk _
def P372 : Pl :=.z
def S372 : tE4 Tryz.prog P372 372 :=λ_ _ _ _ _ _=>.mk _
def P373 : Pl :=(.n none .z (.n none .z (.n (some []) .z .z)))
def S373 : tE2 Tryz.prog P373 373 :=λ_ _ _ _=>.mk _
def P374 : Pl :=.z
def S374 : tE2 Tryz.prog P374 374 :=λ_ _ _ _=>.mk _
def P375 : Pl :=.z
def S375 : tE1 Tryz.prog P375 375 :=λ_ _ _=>.mk _
def P376 : Pl :=.z
def S376 : tE1 Tryz.prog P376 376 :=λ_ _ _=>.mk _
def P377 : Pl :=(.n none .z (.n none (.n (some [0]) (.n none .z (.n none .z (.n none .z (.n none (.r [[0]]) (.n none .z (.n none (.n (some []) .z .z) .z)))))) .z) .z))
def S377 : tE2 Tryz.prog P377 377 :=λ_ _ _ _=>.mk _
def P378 : Pl :=.z
def S378 : tE1 Tryz.prog P378 378 :=λ_ _ _=>.mk _
end
end Go.Proofs.YtepfejdhlgoekaaGreatDoor
