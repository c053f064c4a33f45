/- Printed by a program of mine: the bodies of the program's functions aa terms of the primitives of the abstract executor, each shown equal by the kernel. -/
import Derived.Test.YtpbpkcdebchbbaaGreatDoorProg
import Derived.Test.YtpbpkcdebchbbaaGreatDoorAttemptPlaysAe1
import Derived.KernelRfl
namespace Go.Proofs.YtpbpkcdebchbbaaGreatDoor
open Go Go.Ae
abbrev uO : Type :=AV×AV×AV×AV×AV×AV×AV×AV×AV×Unit
abbrev Cu : Type :=AV×AV×AV×Unit
set_option maxRecDepth 100000
noncomputable section
attribute [local irreducible] jw xe zo jo qI Xk Xa xy gp QM XH gR ql q8 qn jY wb XF lJ kU lX vr XA Xv C4 gL yX gT yx kr zX xi Q7 oR vQ jf zR QC vV z6 NH KC MY C5 Ml MN jC yp Jo ve Jb yJ vt Bm XW VS jR zg wN AV.undef
set_option maxHeartbeats 40000000
def P103 : Pl :=(.n none .z (.n none .z (.n none (.n none .z (.n none (.n (some [4,3,0]) (.n none .z (.n none (.n none (.n (some [4,3,0]) .z (.n (some [4,3,0]) .z .z)) .z) .z)) .z) .z)) .z)))
def S103 (c : CV) (a0 : AV) (h : AH) : R :=
wN (σ :=Cu) NN (λi3 s0 h1 d2=>
xi s0.2.2.1 λv4=>
jY .lss s0.1 v4 λv5=>
jw v5 (
zg (α :=Cu→AH→List Nat→R) (λs6 h7 d8=>
zg (α :=Cu→AH→List Nat→R) (λbD bY d12=>
jY .add bD.1 (iI 1) λfM=>
i3 (fM,bD.2.1,bD.2.2.1,()) bY d12) λj13=>
xy s6.2.2.1 s6.1 2 λfG=>
qI fG 0 λiF=>
ql h7 iF λeQ=>
jY .eql eQ (iI 1) λfi=>
jw fi (
xy s6.2.2.1 s6.1 2 λlB=>
qI lB 1 λv20=>
ql h7 v20 λv21=>
jC c (.fn 154 [] []) [v21] h7 λv22 oG=>
XF .add s6.2.1 v22 λv24=>
j13 (s6.1,v24,s6.2.2.1,()) oG d8) (
xy s6.2.2.1 s6.1 2 λlK=>
qI lK 0 λlz=>
ql h7 lz λnE=>
jY .eql nE (iI 3) λv28=>
jw v28 (
XF .add s6.2.1 (.str [110,111,110,101]) λrV=>
j13 (s6.1,rV,s6.2.2.1,()) h7 d8) (
xy s6.2.2.1 s6.1 2 λv30=>
qI v30 1 λv31=>
ql h7 v31 λmA=>
jY .eql mA (uU 1) λmb=>
jw mb (
XF .add s6.2.1 (.str [121,101,115]) λsO=>
j13 (s6.1,sO,s6.2.2.1,()) h7 d8) (
XF .add s6.2.1 (.str [110,111]) λmN=>
j13 (s6.1,mN,s6.2.2.1,()) h7 d8)))) λj9=>
jY .gtr s0.1 (iI 0) λlL=>
jw lL (
XF .add s0.2.1 (.str [32]) λv37=>
j9 (s0.1,v37,s0.2.2.1,()) h1 d2) (
j9 (s0.1,s0.2.1,s0.2.2.1,()) h1 d2)) (
jR d2 h1 λsP=>
some (s0.2.1,sP))) ((iI 0),(.str []),a0,()) h []
def W103 : WF :=rZ S103
theorem W103_ok : eG Tryz.prog 103 W103 :=Jm (pl :=P103) λ_ _ _=>by kernel_rfl
def P104 : Pl :=.z
def S104 : aI Tryz.prog P104 104 :=λ_ _ _=>.mk _
def P105 : Pl :=(.n none .z (.n none .z (.n none (.n none .z (.n none (.n (some [17,16,15,3,0]) .z .z) .z)) .z)))
def S105 : aI Tryz.prog P105 105 :=λ_ _ _=>.mk _
def P106 : Pl :=.z
def S106 : aI Tryz.prog P106 106 :=λ_ _ _=>.mk _
def P107 : Pl :=(.n none .z (.n none .z (.n none (.n none (.n (some [3,2,0]) .z .z) .z) (.n none .z (.n none (.n none .z (.n none (.n (some [5,4,2,0]) .z .z) .z)) .z)))))
def S107 : aI Tryz.prog P107 107 :=λ_ _ _=>.mk _
def P108 : Pl :=.z
def S108 : aI Tryz.prog P108 108 :=λ_ _ _=>.mk _
def P109 : Pl :=(.n none .z (.n none (.n none .z (.n none (.n none (.r [[3,2]]) .z) .z)) (.n none (.n none (.n (some [0]) .z .z) .z) .z)))
def S109 : aI Tryz.prog P109 109 :=λ_ _ _=>.mk _
def P110 : Pl :=(.n none (.r [[0]]) .z)
def S110 : bn Tryz.prog P110 110 :=λ_ _ _ _=>.mk _
def P111 : Pl :=.z
def S111 : aI Tryz.prog P111 111 :=λ_ _ _=>.mk _
def P112 : Pl :=(.n none (.r [[1,0]]) .z)
def S112 : bn Tryz.prog P112 112 :=λ_ _ _ _=>.mk _
def P113 : Pl :=.z
def S113 : Ed Tryz.prog P113 113 :=λ_ _ _ _ _ _ _ _ _=>.mk _
def P114 : Pl :=.z
def S114 : cD Tryz.prog P114 114 :=λ_ _ _ _ _=>.mk _
def P115 : Pl :=(.n none .z (.n (some []) (.n none .z (.n none .z (.n none .z (.n none .z (.n none .z (.n none .z (.n none .z (.n none (.r [[]]) .z)))))))) .z))
def S115 : aI Tryz.prog P115 115 :=λ_ _ _=>.mk _
def P116 : Pl :=.z
def S116 : aI Tryz.prog P116 116 :=λ_ _ _=>.mk _
def P117 : Pl :=.z
def S117 : bn Tryz.prog P117 117 :=λ_ _ _ _=>.mk _
def P118 : Pl :=.z
def S118 : cD Tryz.prog P118 118 :=λ_ _ _ _ _=>.mk _
def P119 : Pl :=.z
def S119 : bn Tryz.prog P119 119 :=λ_ _ _ _=>.mk _
def P120 : Pl :=.z
def S120 (c : CV) (a0 a1 a2 a3 : AV) (h : AH) : R :=
vQ h 54 a2 λv0 h1=>
vQ h1 54 a3 λv2 h3=>
q8 h3 v2 3 λv4=>
jC c (.fn 175 [] []) [a0,a1,v4] h3 λv5 h6=>
jY .neq v5 (iI 0) λv7=>
jw v7 (
some ((.bm [(.bool false),v5]),h6)) (
jo a0 λv8=>
qI v8 0 λv9=>
ql h6 v9 λv10=>
xy v10 a1 3 λv11=>
q8 h6 v11 3 λv12=>
q8 h6 v0 3 λfm=>
kU [.b6 .int 0,.b6 .bool 1,.b6 .int 2] true v12 fm λfM=>
jw fM (
some ((.bm [(.bool false),(iI 0)]),h6)) (
jo a0 λfG=>
qI fG 0 λiF=>
ql h6 iF λeQ=>
q8 h6 v2 3 λfi=>
xy eQ a1 3 λlB=>
qn h6 lB fi 3 λfW=>
some ((.bm [(.bool true),(iI 0)]),fW)))
def W120 : WF :=Ln S120
theorem W120_ok : eG Tryz.prog 120 W120 :=qw0 (pl :=P120) λ_ _ _ _ _ _=>by kernel_rfl
def P121 : Pl :=(.n none .z (.n none .z (.n (some [7]) .z .z)))
def S121 : cD Tryz.prog P121 121 :=λ_ _ _ _ _=>.mk _
def P122 : Pl :=.z
def S122 : cD Tryz.prog P122 122 :=λ_ _ _ _ _=>.mk _
def P123 : Pl :=.z
def S123 : bn Tryz.prog P123 123 :=λ_ _ _ _=>.mk _
def P124 : Pl :=.z
def S124 : cD Tryz.prog P124 124 :=λ_ _ _ _ _=>.mk _
def P125 : Pl :=.z
def S125 : bn Tryz.prog P125 125 :=λ_ _ _ _=>.mk _
def P126 : Pl :=(.n none .z (.n none (.n (some [0]) (.n (some [0]) (.n none (.n none (.r [[14,9,0]]) .z) .z) .z) .z) .z))
def S126 : aI Tryz.prog P126 126 :=λ_ _ _=>.mk _
def P127 : Pl :=(.n none .z (.n none .z (.r [[]])))
def S127 : aI Tryz.prog P127 127 :=λ_ _ _=>.mk _
def P128 : Pl :=.z
def S128 : aI Tryz.prog P128 128 :=λ_ _ _=>.mk _
def P129 : Pl :=.z
def S129 : aI Tryz.prog P129 129 :=λ_ _ _=>.mk _
def P130 : Pl :=(.n none .z (.n none .z (.n none .z (.n none (.r [[]]) .z))))
def S130 : bn Tryz.prog P130 130 :=λ_ _ _ _=>.mk _
def P131 : Pl :=(.n none .z (.n none (.n none (.r [[12,9,3,0],[17,14,3,0]]) .z) (.n none (.n none .z (.n none (.n (some [5,3,0]) (.n none .z (.n none (.n none (.n none (.n none (.r [[50,39,5,3,0]]) .z) .z) .z) .z)) .z) .z)) .z)))
def S131 : bn Tryz.prog P131 131 :=λ_ _ _ _=>.mk _
def P132 : Pl :=.z
def S132 : cD Tryz.prog P132 132 :=λ_ _ _ _ _=>.mk _
def P133 : Pl :=(.n none .z (.n none (.n none .z (.n none (.n none .z (.n none .z (.n none .z (.n none .z (.n (some []) .z .z))))) .z)) (.n none (.n none .z (.n none (.n (some []) .z .z) .z)) .z)))
def S133 : bn Tryz.prog P133 133 :=λ_ _ _ _=>.mk _
def P134 : Pl :=.z
def S134 : lQ Tryz.prog P134 134 :=λ_ _ _ _ _ _=>.mk _
def P135 : Pl :=.z
def S135 : aI Tryz.prog P135 135 :=λ_ _ _=>.mk _
def P136 : Pl :=(.n none (.n none (.n (some [0]) .z .z) .z) .z)
def S136 : aI Tryz.prog P136 136 :=λ_ _ _=>.mk _
def P137 : Pl :=.z
def S137 : aI Tryz.prog P137 137 :=λ_ _ _=>.mk _
def P138 : Pl :=(.n none .z (.n none .z (.n none (.n none .z (.n none (.n none (.r [[14,11]]) .z) .z)) .z)))
def S138 : aI Tryz.prog P138 138 :=λ_ _ _=>.mk _
def P139 : Pl :=.z
def S139 : aI Tryz.prog P139 139 :=λ_ _ _=>.mk _
def P140 : Pl :=.z
def S140 : aI Tryz.prog P140 140 :=λ_ _ _=>.mk _
def P141 : Pl :=.z
def S141 : bn Tryz.prog P141 141 :=λ_ _ _ _=>.mk _
def P142 : Pl :=.z
def S142 : aI Tryz.prog P142 142 :=λ_ _ _=>.mk _
def P143 : Pl :=.z
def S143 (c : CV) (a0 : AV) (h : AH) : R :=
yx 22 (uU 0) a0 λv0=>
zX v0 1 λv1=>
zX v0 0 λv2=>
jw v1 (
jC c (.fn 189 [] []) [v2,(iI 10)] h λv3 h4=>
some (v3,h4)) (
yx 4 (.bool false) a0 λv5=>
zX v5 1 λv6=>
zX v5 0 λv7=>
jw v6 (
jw v7 (
some ((.str [121,101,115]),h)) (
some ((.str [110,111]),h))) (
some ((.str [110,111,110,101]),h)))
def W143 : WF :=rZ S143
theorem W143_ok : eG Tryz.prog 143 W143 :=Jm (pl :=P143) λ_ _ _=>by kernel_rfl
def P145 : Pl :=.z
def S145 : aI Tryz.prog P145 145 :=λ_ _ _=>.mk _
def P146 : Pl :=.z
def S146 : aI Tryz.prog P146 146 :=λ_ _ _=>.mk _
def P147 : Pl :=(.n none .z (.n none (.n none (.n none .z (.n none .z (.n none (.r [[11,5,3,1]]) (.n none .z (.n none (.r [[33,29,5,1]]) (.n none .z (.n none (.r [[42,39]]) .z))))))) .z) .z))
def S147 : cD Tryz.prog P147 147 :=λ_ _ _ _ _=>.mk _
def P148 : Pl :=(.n none .z (.n (some [2,1,0]) .z (.n (some [0]) (.n none (.r [[19,17,1,0]]) .z) .z)))
def S148 : cD Tryz.prog P148 148 :=λ_ _ _ _ _=>.mk _
def P149 : Pl :=.z
def S149 : aI Tryz.prog P149 149 :=λ_ _ _=>.mk _
def P150 : Pl :=(.n none .z (.n none (.n none .z (.n none (.n (some [11,10,9,2,1]) (.n none .z (.n none .z (.n none (.n (some [11,10,9,2,1]) (.n none .z (.n none .z (.n none (.r [[33,26,11,10,9,7,6,2,1],[38,33,26,11,10,9,7,6,2,1],[39,26,11,10,9,7,6,2,1],[48,41,11,10,9,7,6,2,1],[58,48,41,11,10,9,6,2,1],[59,41,11,10,9,6,2,1]]) .z))) .z) .z))) .z) .z)) .z))
def S150 : bn Tryz.prog P150 150 :=λ_ _ _ _=>.mk _
def P151 : Pl :=(.n none .z (.n none .z (.n none .z (.n none (.n none .z (.n none (.n (some [14,13,12,4,3]) .z .z) .z)) .z))))
def S151 : aI Tryz.prog P151 151 :=λ_ _ _=>.mk _
def P152 : Pl :=.z
def S152 : aI Tryz.prog P152 152 :=λ_ _ _=>.mk _
def P153 : Pl :=(.n none .z (.n none .z (.n none (.n none (.r [[17,13,3,1],[20,17,13,3,1],[21,13,3,1],[29,23,3,1],[37,31,3,1],[45,39,1]]) .z) (.n none (.r [[53,50]]) .z))))
def S153 : aI Tryz.prog P153 153 :=λ_ _ _=>.mk _
def P154 : Pl :=(.n none .z (.n none .z (.n none (.n none (.n (some [3,0]) .z .z) .z) .z)))
def S154 : aI Tryz.prog P154 154 :=λ_ _ _=>.mk _
def P155 : Pl :=.z
def S155 : aI Tryz.prog P155 155 :=λ_ _ _=>.mk _
def P156 : Pl :=(.n none .z (.n none .z (.n none (.n none .z (.n none (.n (some [3]) .z .z) .z)) .z)))
def S156 (c : CV) (a0 : AV) (h : AH) : R :=
vQ h 130 .ad λv0 h1=>
jo a0 λv2=>
qI v2 1 λv3=>
ql h1 v3 λv4=>
jC c (.fn 200 [] []) [v4] h1 λv5 h6=>
Jo c v5 [.yield (h6.new .lI).nx] ((h6.new .lI).new (.loop .ready none 156 [1,1,0,1,0] [3] [v0] h6.nx)) λ_ h7=>
vt h7 (h6.new .lI).nx λp9 h8=>
XW p9 (
ql h8 v0 λv10=>
jR (h6.nx::[]) h8 λbY=>
some (v10,bY))<|
none
def W156 : WF :=rZ S156
theorem W156_ok : eG Tryz.prog 156 W156 :=Jm (pl :=P156) λ_ _ _=>by kernel_rfl
def P157 : Pl :=(.n none .z (.n none .z (.n none (.n none .z (.n none (.n (some [4,3,0]) (.n none .z (.n none (.n none (.r [[4,3,0]]) .z) .z)) .z) .z)) .z)))
def S157 : aI Tryz.prog P157 157 :=λ_ _ _=>.mk _
def P158 : Pl :=(.n none .z (.n none .z (.n none .z (.n none .z (.n none .z (.n none (.n none .z (.n none (.n (some [6,5,4,3,0]) .z .z) .z)) (.n none (.r [[5,3,0]]) .z)))))))
def S158 : aI Tryz.prog P158 158 :=λ_ _ _=>.mk _
def P159 : Pl :=(.n none .z (.n none .z (.n none (.n none .z (.n none (.n (some [11,10,9,3]) .z .z) .z)) .z)))
def S159 : aI Tryz.prog P159 159 :=λ_ _ _=>.mk _
def P160 : Pl :=(.n none .z (.n none (.n none (.n (some [0]) (.n none .z (.n (some [0]) (.n none .z (.n none .z (.n none .z (.n none .z (.n (some [0]) .z .z))))) .z)) .z) .z) .z))
def S160 : aI Tryz.prog P160 160 :=λ_ _ _=>.mk _
def P161 : Pl :=.z
def S161 : aI Tryz.prog P161 161 :=λ_ _ _=>.mk _
def P162 : Pl :=(.n none .z (.n none .z (.n (some [7,5,1,0]) (.n none (.r [[19,18,7,5,1,0]]) .z) .z)))
def S162 : bn Tryz.prog P162 162 :=λ_ _ _ _=>.mk _
def P163 : Pl :=.z
def S163 : rN Tryz.prog P163 163 :=λ_ _ _ _ _ _ _=>.mk _
def P164 : Pl :=.z
def S164 : cD Tryz.prog P164 164 :=λ_ _ _ _ _=>.mk _
def P165 : Pl :=.z
def S165 : cD Tryz.prog P165 165 :=λ_ _ _ _ _=>.mk _
def P166 : Pl :=.z
def S166 : bn Tryz.prog P166 166 :=λ_ _ _ _=>.mk _
def P167 : Pl :=.z
def S167 : aI Tryz.prog P167 167 :=λ_ _ _=>.mk _
def P168 : Pl :=(.n none .z (.n none .z (.n none (.n none .z (.n none (.n (some [13,12,11,7,2,1]) (.n none .z (.n none .z (.n none (.n (some [13,12,11,7,2,1]) .z .z) .z))) .z) .z)) .z)))
def S168 : cD Tryz.prog P168 168 :=λ_ _ _ _ _=>.mk _
def P169 : Pl :=.z
def S169 : aI Tryz.prog P169 169 :=λ_ _ _=>.mk _
def P170 : Pl :=(.n none .z (.n none (.r [[2,0]]) (.n none .z (.n (some []) (.n none .z (.n none (.n none (.r [[0]]) .z) .z)) .z))))
def S170 : aI Tryz.prog P170 170 :=λ_ _ _=>.mk _
def P171 : Pl :=.z
def S171 : aI Tryz.prog P171 171 :=λ_ _ _=>.mk _
def P172 : Pl :=.z
def S172 : aI Tryz.prog P172 172 :=λ_ _ _=>.mk _
def P173 : Pl :=(.n none .z (.n none (.r [[14,7]]) .z))
def S173 : bn Tryz.prog P173 173 :=λ_ _ _ _=>.mk _
def P174 : Pl :=(.n none .z (.n none (.r [[14,7]]) .z))
def S174 : bn Tryz.prog P174 174 :=λ_ _ _ _=>.mk _
def P175 : Pl :=.z
def S175 : cD Tryz.prog P175 175 :=λ_ _ _ _ _=>.mk _
def P176 : Pl :=(.n none .z (.n none (.r [[14,7]]) .z))
def S176 : bn Tryz.prog P176 176 :=λ_ _ _ _=>.mk _
def P177 : Pl :=(.n none .z (.n none (.n none (.r [[19,13,2,1,0]]) .z) (.n none .z (.n none .z (.n none (.n none .z (.n none (.n (some [10,8,2]) .z .z) .z)) .z)))))
def S177 : cD Tryz.prog P177 177 :=λ_ _ _ _ _=>.mk _
def P178 : Pl :=.z
def S178 : bn Tryz.prog P178 178 :=λ_ _ _ _=>.mk _
def P179 : Pl :=(.n none .z (.n none (.n none .z (.n none (.n (some [5,1,0]) .z .z) .z)) .z))
def S179 : bn Tryz.prog P179 179 :=λ_ _ _ _=>.mk _
def P180 : Pl :=(.n none .z (.n none .z (.n none .z (.n none (.n none .z (.n (some [6,5,0]) (.n none .z (.n none .z (.n none .z (.n none .z (.n (some [42,13,6,5,3,0]) .z (.n none (.r [[6,5,0]]) (.n (some [71,13,6,5,3,0]) .z .z))))))) .z)) (.n (some [6]) .z .z)))))
def S180 : bn Tryz.prog P180 180 :=λ_ _ _ _=>.mk _
def P181 : Pl :=.z
def S181 : rN Tryz.prog P181 181 :=λ_ _ _ _ _ _ _=>.mk _
def P182 : Pl :=.z
def S182 : cD Tryz.prog P182 182 :=λ_ _ _ _ _=>.mk _
def P183 : Pl :=.z
def S183 : cD Tryz.prog P183 183 :=λ_ _ _ _ _=>.mk _
def P184 : Pl :=(.n none .z (.n none .z (.n none .z (.n (some [15]) .z .z))))
def S184 : Ed Tryz.prog P184 184 :=λ_ _ _ _ _ _ _ _ _=>.mk _
def P185 : Pl :=(.n none .z (.n none (.r [[13,7]]) .z))
def S185 : bn Tryz.prog P185 185 :=λ_ _ _ _=>.mk _
def P186 : Pl :=(.n none .z (.n none (.n none .z (.n none (.n (some [5,1,0]) .z .z) .z)) .z))
def S186 : bn Tryz.prog P186 186 :=λ_ _ _ _=>.mk _
def P187 : Pl :=(.n none .z (.n none (.n none .z (.n none (.n (some [6,1,0]) .z .z) .z)) .z))
def S187 : bn Tryz.prog P187 187 :=λ_ _ _ _=>.mk _
def P188 : Pl :=.z
def S188 : aI Tryz.prog P188 188 :=λ_ _ _=>.mk _
def P189 : Pl :=.z
def S189 : bn Tryz.prog P189 189 :=λ_ _ _ _=>.mk _
def P193 : Pl :=.z
def S193 : Eb Tryz.prog P193 193 :=λ_ _=>.mk _
def P194 : Pl :=(.n none .z (.n none .z (.n none (.r [[21,17,5,4,1],[27,23,5,1],[33,29,1],[39,35,1],[42,39,35],[43,35]]) .z)))
def S194 : aI Tryz.prog P194 194 :=λ_ _ _=>.mk _
def P195 : Pl :=(.n none .z (.n none .z (.n none (.r [[4]]) .z)))
def S195 : bn Tryz.prog P195 195 :=λ_ _ _ _=>.mk _
def P196 : Pl :=(.n none .z (.n none (.r [[7,5]]) .z))
def S196 : aI Tryz.prog P196 196 :=λ_ _ _=>.mk _
def P197 : Pl :=(.n none .z (.n none (.r [[7,5]]) .z))
def S197 : aI Tryz.prog P197 197 :=λ_ _ _=>.mk _
def P198 : Pl :=(.n none .z (.n none .z (.n none (.n none .z (.n none (.n none .z (.n none .z (.n none .z (.n none .z (.n (some [15,5,4,2,0]) .z (.n none .z (.n none .z (.n none .z (.n none .z (.n none .z (.n none .z (.n none .z (.n none .z (.n none .z (.n none .z (.n none .z (.n none .z (.n none .z (.n (some [55,5,4,2,0]) .z .z))))))))))))))))))) .z)) .z)))
def S198 (_ : CV) (a0 : AV) (h : AH) : R :=
vQ h 274 (.agg [(.str []),(iI 0),(iI 0),(iI 0),(.bool false)]) λv0 h1=>
jY .eql a0 (iI 1) λv2=>
jw v2 (
jf [(.str []),(iI 0),(iI 0),(iI 0),(.bool false)] [(0,1,(.str [115,101,116])),(1,1,(iI 7)),(2,1,(.int .i64 (.negSucc 0))),(3,1,(.int .i64 (.negSucc 0))),(4,1,(.bool true))] λv3=>
qn h1 v0 v3 5 λh4=>
q8 h4 v0 5 λv5=>
some ((.bm [v5,(.bool true)]),h4)) (
jY .eql a0 (iI 2) λv6=>
jw v6 (
jf [(.str []),(iI 0),(iI 0),(iI 0),(.bool false)] [(0,1,(.str [109,111,118,101])),(1,1,(iI 7)),(2,1,(iI 7)),(3,1,(.int .i64 (.negSucc 0)))] λv7=>
qn h1 v0 v7 5 λh8=>
q8 h8 v0 5 λv9=>
some ((.bm [v9,(.bool true)]),h8)) (
zg (α :=AV×AV×AV×AV×AV×Unit→AH→List Nat→R) (λbD bY d12=>
jw bD.1 (
jf [(.str []),(.str []),(.str []),(.str []),(.str [])] [(0,1,(.str [97,100,100])),(1,1,(.str [115,117,98])),(2,1,(.str [109,117,108])),(3,1,(.str [108,101,115,115])),(4,1,(.str [101,113,117,97,108]))] λfM=>
jY .sub bD.2.2.2.2.1 (iI 3) λfG=>
QM fM fG 5 1 λiF=>
jf [(.str []),(iI 0),(iI 0),(iI 0),(.bool false)] [(0,1,iF),(1,1,bD.2.2.1),(2,1,bD.2.2.1),(3,1,bD.2.2.1)] λeQ=>
qn bY bD.2.2.2.1 eQ 5 λtO=>
jR d12 tO λtQ=>
q8 tQ bD.2.2.2.1 5 λv20=>
some ((.bm [v20,(.bool true)]),tQ)) (
jY .eql bD.2.1 (iI 8) λv21=>
jw v21 (
jf [(.str []),(iI 0),(iI 0),(iI 0),(.bool false)] [(0,1,(.str [108,111,97,100])),(1,1,bD.2.2.1),(2,1,bD.2.2.1),(3,1,(iI 15))] λv22=>
qn bY bD.2.2.2.1 v22 5 λoG=>
jR d12 oG λnD=>
q8 nD bD.2.2.2.1 5 λlK=>
some ((.bm [lK,(.bool true)]),nD)) (
jY .eql bD.2.1 (iI 9) λlz=>
jw lz (
jf [(.str []),(iI 0),(iI 0),(iI 0),(.bool false)] [(0,1,(.str [115,116,111,114,101])),(1,1,bD.2.2.1),(2,1,bD.2.2.1),(3,1,(iI 15))] λnE=>
qn bY bD.2.2.2.1 nE 5 λrU=>
jR d12 rU λs9=>
q8 s9 bD.2.2.2.1 5 λv30=>
some ((.bm [v30,(.bool true)]),s9)) (
jY .eql bD.2.1 (iI 10) λv31=>
jw v31 (
jf [(.str []),(iI 0),(iI 0),(iI 0),(.bool false)] [(0,1,(.str [97,108,108,111,99])),(1,1,bD.2.2.1),(2,1,bD.2.2.1),(3,1,(.int .i64 (.negSucc 0)))] λmA=>
qn bY bD.2.2.2.1 mA 5 λDx=>
jR d12 Dx λAR=>
q8 AR bD.2.2.2.1 5 λmN=>
some ((.bm [mN,(.bool true)]),AR)) (
jY .eql bD.2.1 (iI 11) λlL=>
jw lL (
jf [(.str []),(iI 0),(iI 0),(iI 0),(.bool false)] [(0,1,(.str [102,114,101,101])),(1,1,bD.2.2.1),(2,1,(.int .i64 (.negSucc 0))),(3,1,(.int .i64 (.negSucc 0)))] λv37=>
qn bY bD.2.2.2.1 v37 5 λsP=>
jR d12 sP λCr=>
q8 Cr bD.2.2.2.1 5 λv40=>
some ((.bm [v40,(.bool true)]),Cr)) (
jY .eql bD.2.1 (iI 12) λpp=>
jw pp (
jf [(.str []),(iI 0),(iI 0),(iI 0),(.bool false)] [(0,1,(.str [106,117,109,112])),(1,1,(.int .i64 (.negSucc 0))),(2,1,(.int .i64 (.negSucc 0))),(3,1,(iI 40))] λpt=>
qn bY bD.2.2.2.1 pt 5 λh43=>
jR d12 h43 λFP=>
q8 FP bD.2.2.2.1 5 λs8=>
some ((.bm [s8,(.bool true)]),FP)) (
jY .eql bD.2.1 (iI 13) λv46=>
jw v46 (
jf [(.str []),(iI 0),(iI 0),(iI 0),(.bool false)] [(0,1,(.str [122,101,114,111])),(1,1,bD.2.2.1),(2,1,(.int .i64 (.negSucc 0))),(3,1,(iI 40))] λuL=>
qn bY bD.2.2.2.1 uL 5 λpu=>
jR d12 pu λW7=>
q8 W7 bD.2.2.2.1 5 λAY=>
some ((.bm [AY,(.bool true)]),W7)) (
zg (α :=AV×AV×AV×AV×AV×Unit→AH→List Nat→R) (λnF FR d53=>
jw nF.1 (
jf [(.str []),(.str []),(.str []),(.str []),(.str []),(.str []),(.str [])] [(0,1,(.str [111,112,101,110])),(1,1,(.str [99,108,111,115,101])),(2,1,(.str [117,110,100,111])),(3,1,(.str [101,105,116,104,101,114])),(4,1,(.str [111,114])),(5,1,(.str [100,111,110,101])),(6,1,(.str [114,101,116,114,121]))] λrA=>
jY .sub nF.2.2.2.2.1 (iI 14) λnz=>
QM rA nz 7 1 λrB=>
jf [(.str []),(iI 0),(iI 0),(iI 0),(.bool false)] [(0,1,rB),(1,1,(.int .i64 (.negSucc 0))),(2,1,(.int .i64 (.negSucc 0))),(3,1,(.int .i64 (.negSucc 0)))] λpz=>
qn FR nF.2.2.2.1 pz 5 λnA=>
jR d53 nA λDu=>
q8 Du nF.2.2.2.1 5 λtP=>
some ((.bm [tP,(.bool true)]),Du)) (
jY .eql nF.2.1 (iI 21) λsX=>
jw sX (
jf [(.str []),(iI 0),(iI 0),(iI 0),(.bool false)] [(0,1,(.str [101,109,105,116])),(1,1,nF.2.2.1),(2,1,(.int .i64 (.negSucc 0))),(3,1,(.int .i64 (.negSucc 0)))] λnS=>
qn FR nF.2.2.2.1 nS 5 λCi=>
jR d53 Ci λIN=>
q8 IN nF.2.2.2.1 5 λox=>
some ((.bm [ox,(.bool true)]),IN)) (
jY .eql nF.2.1 (iI 22) λsY=>
jw sY (
jf [(.str []),(iI 0),(iI 0),(iI 0),(.bool false)] [(0,1,(.str [102,97,105,108])),(1,1,(.int .i64 (.negSucc 0))),(2,1,(.int .i64 (.negSucc 0))),(3,1,(.int .i64 (.negSucc 0)))] λuB=>
qn FR nF.2.2.2.1 uB 5 λAS=>
jR d53 AS λDw=>
q8 Dw nF.2.2.2.1 5 λuC=>
some ((.bm [uC,(.bool true)]),Dw)) (
jY .eql nF.2.1 (iI 23) λv72=>
jw v72 (
jY .sub nF.2.2.1 (iI 1) λBV=>
jf [(.str []),(iI 0),(iI 0),(iI 0),(.bool false)] [(0,1,(.str [99,97,108,108])),(1,1,(iI 12)),(2,1,(iI 7)),(3,1,BV)] λoA=>
qn FR nF.2.2.2.1 oA 5 λh75=>
jR d53 h75 λCj=>
q8 Cj nF.2.2.2.1 5 λpw=>
some ((.bm [pw,(.bool true)]),Cj)) (
jf [(.str []),(iI 0),(iI 0),(iI 0),(.bool false)] [] λrj=>
qn FR nF.2.2.2.1 rj 5 λDq=>
jR d53 Dq λFE=>
q8 FE nF.2.2.2.1 5 λBW=>
some ((.bm [BW,(.bool false)]),FE)))))) λCv=>
jY .eql bD.2.1 (iI 14) λAT=>
jw AT (
Cv (AT,bD.2.1,bD.2.2.1,bD.2.2.2.1,bD.2.2.2.2.1,()) bY d12) (
jY .eql bD.2.1 (iI 15) λDs=>
jw Ds (
Cv (Ds,bD.2.1,bD.2.2.1,bD.2.2.2.1,bD.2.2.2.2.1,()) bY d12) (
jY .eql bD.2.1 (iI 16) λuD=>
jw uD (
Cv (uD,bD.2.1,bD.2.2.1,bD.2.2.2.1,bD.2.2.2.2.1,()) bY d12) (
jY .eql bD.2.1 (iI 17) λv85=>
jw v85 (
Cv (v85,bD.2.1,bD.2.2.1,bD.2.2.2.1,bD.2.2.2.2.1,()) bY d12) (
jY .eql bD.2.1 (iI 18) λsS=>
jw sS (
Cv (sS,bD.2.1,bD.2.2.1,bD.2.2.2.1,bD.2.2.2.2.1,()) bY d12) (
jY .eql bD.2.1 (iI 19) λv87=>
jw v87 (
Cv (v87,bD.2.1,bD.2.2.1,bD.2.2.2.1,bD.2.2.2.2.1,()) bY d12) (
jY .eql bD.2.1 (iI 20) λFs=>
Cv (Fs,bD.2.1,bD.2.2.1,bD.2.2.2.1,bD.2.2.2.2.1,()) bY d12)))))))))))))) λj13=>
jY .eql a0 (iI 3) λIV=>
jw IV (
j13 (IV,a0,(iI 7),v0,a0,()) h1 []) (
jY .eql a0 (iI 4) λAP=>
jw AP (
j13 (AP,a0,(iI 7),v0,a0,()) h1 []) (
jY .eql a0 (iI 5) λv91=>
jw v91 (
j13 (v91,a0,(iI 7),v0,a0,()) h1 []) (
jY .eql a0 (iI 6) λBX=>
jw BX (
j13 (BX,a0,(iI 7),v0,a0,()) h1 []) (
jY .eql a0 (iI 7) λv93=>
j13 (v93,a0,(iI 7),v0,a0,()) h1 []))))))
def W198 : WF :=rZ S198
theorem W198_ok : eG Tryz.prog 198 W198 :=Jm (pl :=P198) λ_ _ _=>by kernel_rfl
def P199 : Pl :=(.n none .z (.n none (.r [[9,7,1,0],[14,11,1,0],[17,14,11],[18,11]]) .z))
def S199 : bn Tryz.prog P199 199 :=λ_ _ _ _=>.mk _
def P200 : Pl :=.z
def S200 : aI Tryz.prog P200 200 :=λ_ _ _=>.mk _
def P201 : Pl :=.z
def S201 : aI Tryz.prog P201 201 :=λ_ _ _=>.mk _
def P202 : Pl :=(.n none .z (.n none .z (.n none (.n none .z (.n none (.n (some [13,12,11,5,0]) .z .z) .z)) .z)))
def S202 : bn Tryz.prog P202 202 :=λ_ _ _ _=>.mk _
def P203 : Pl :=.z
def S203 : aI Tryz.prog P203 203 :=λ_ _ _=>.mk _
def P204 : Pl :=.z
def S204 : cD Tryz.prog P204 204 :=λ_ _ _ _ _=>.mk _
def P205 : Pl :=.z
def S205 : bn Tryz.prog P205 205 :=λ_ _ _ _=>.mk _
def P206 : Pl :=(.n none .z (.n none .z (.n none (.n none .z (.n (some []) (.n none .z (.n none .z (.n none .z (.n none .z (.n none .z (.n none .z (.n none .z (.n none .z (.n none .z (.n none .z (.n none .z (.n none .z (.n none .z (.n none .z (.n none .z (.n none .z (.n none .z (.n none .z (.n none .z (.n none .z (.n none .z (.n none .z (.n none .z (.n none .z (.n (some [120,6,5,3,0]) .z .z))))))))))))))))))))))))) .z)) .z)))
def S206 : bn Tryz.prog P206 206 :=λ_ _ _ _=>.mk _
def P207 : Pl :=(.n none .z (.n none (.n none (.r [[17,13,1,0]]) .z) .z))
def S207 : bn Tryz.prog P207 207 :=λ_ _ _ _=>.mk _
def P208 : Pl :=.z
def S208 : bn Tryz.prog P208 208 :=λ_ _ _ _=>.mk _
def P209 : Pl :=.z
def S209 : aI Tryz.prog P209 209 :=λ_ _ _=>.mk _
def P210 : Pl :=(.n none .z (.n none (.n none .z (.n none (.n (some [9,8,7,1,0]) .z .z) .z)) .z))
def S210 : bn Tryz.prog P210 210 :=λ_ _ _ _=>.mk _
def P213 : Pl :=.z
def S213 : aI Tryz.prog P213 213 :=λ_ _ _=>.mk _
def P214 : Pl :=(.n none .z (.n none (.n none (.r [[13,10,3,0],[18,15,3,0]]) .z) .z))
def S214 : bn Tryz.prog P214 214 :=λ_ _ _ _=>.mk _
def P215 : Pl :=.z
def S215 : aI Tryz.prog P215 215 :=λ_ _ _=>.mk _
def P216 : Pl :=.z
def S216 : cD Tryz.prog P216 216 :=λ_ _ _ _ _=>.mk _
def P217 : Pl :=.z
def S217 : aI Tryz.prog P217 217 :=λ_ _ _=>.mk _
def P218 : Pl :=.z
def S218 : aI Tryz.prog P218 218 :=λ_ _ _=>.mk _
def P219 : Pl :=.z
def S219 : aI Tryz.prog P219 219 :=λ_ _ _=>.mk _
def P220 : Pl :=(.n none .z (.n none (.n none .z (.n none (.n none (.r [[11,8]]) .z) .z)) (.n none (.r [[19,16]]) .z)))
def S220 : aI Tryz.prog P220 220 :=λ_ _ _=>.mk _
def P221 : Pl :=(.n none .z (.n none (.n none .z (.n none (.n (some [6,1,0]) .z .z) .z)) .z))
def S221 : bn Tryz.prog P221 221 :=λ_ _ _ _=>.mk _
def P222 : Pl :=(.n none .z (.n none .z (.n none (.n none .z (.n none (.n (some [6,5,1,0]) .z .z) .z)) .z)))
def S222 : bn Tryz.prog P222 222 :=λ_ _ _ _=>.mk _
def P223 : Pl :=(.n none .z (.n none (.n none .z (.n (some []) .z .z)) .z))
def S223 : cD Tryz.prog P223 223 :=λ_ _ _ _ _=>.mk _
def P224 : Pl :=(.n none .z (.n none (.n none .z (.n none (.n none .z (.n none (.n none .z (.n none .z (.n none .z (.n (some [7]) .z .z)))) (.n none .z (.n none (.n none .z (.n none (.n none (.r [[67,60,8,3,0]]) .z) .z)) (.n none .z (.n none (.n none .z (.n none .z (.n (some [10]) .z .z))) .z)))))) .z)) .z))
def S224 : bn Tryz.prog P224 224 :=λ_ _ _ _=>.mk _
def P225 : Pl :=(.n none .z (.n none .z (.n none (.n none .z (.n (some []) (.n (some [17,14,5,3,0]) .z (.n none .z (.n (some [64,14,5,0]) .z (.n none .z (.n none .z (.n none .z (.n none .z (.n none (.n none .z (.n none .z (.n none .z (.n none (.r [[0]]) .z)))) .z)))))))) .z)) .z)))
def S225 : bn Tryz.prog P225 225 :=λ_ _ _ _=>.mk _
def P226 : Pl :=.z
def S226 : bn Tryz.prog P226 226 :=λ_ _ _ _=>.mk _
def P227 : Pl :=(.n none .z (.n none .z (.n none (.n none .z (.n none (.n (some [8,7,2,1,0]) (.n none .z (.n none (.n (some [8,7,2,1,0]) .z .z) .z)) .z) .z)) (.n none .z (.n none (.n none .z (.n none (.n (some [11,10,7]) (.n none .z (.n none (.n (some [11,10,7]) .z .z) .z)) .z) .z)) .z)))))
def S227 : cD Tryz.prog P227 227 :=λ_ _ _ _ _=>.mk _
def P228 : Pl :=.z
def S228 : bn Tryz.prog P228 228 :=λ_ _ _ _=>.mk _
def P231 : Pl :=(.n none .z (.n none .z (.n none (.n none .z (.n (some [4,3,2]) (.n (some [8,7,5,4,3,2]) .z (.n none .z (.n (some [13,7,5,4,3,2]) .z (.n none (.r [[4,3,2]]) (.n (some [18,7,5,4,3,2]) .z (.n none (.r [[4,3,2]]) (.n (some [27,7,5,4,3,2]) .z (.n none (.r [[4,3,2]]) .z)))))))) .z)) (.n none (.r [[4,3,2]]) .z))))
def S231 : aI Tryz.prog P231 231 :=λ_ _ _=>.mk _
def P232 : Pl :=.z
def S232 : aI Tryz.prog P232 232 :=λ_ _ _=>.mk _
def P233 : Pl :=(.n none .z (.n none (.r [[13,9]]) .z))
def S233 : bn Tryz.prog P233 233 :=λ_ _ _ _=>.mk _
def P234 : Pl :=(.n none .z (.n none (.n (some [3,1,0]) .z .z) .z))
def S234 : bn Tryz.prog P234 234 :=λ_ _ _ _=>.mk _
def P235 : Pl :=(.n none .z (.n none (.n none (.r [[12,10,2,1,0]]) .z) .z))
def S235 : cD Tryz.prog P235 235 :=λ_ _ _ _ _=>.mk _
def P236 : Pl :=.z
def S236 : aI Tryz.prog P236 236 :=λ_ _ _=>.mk _
def P237 : Pl :=.z
def S237 : bn Tryz.prog P237 237 :=λ_ _ _ _=>.mk _
def P238 : Pl :=(.n none .z (.n none .z (.n none (.n none .z (.n none (.n none .z (.n none (.n none (.r [[4]]) .z) (.n none .z (.n none (.n none (.r [[4]]) .z) (.n none .z (.n none (.n none (.r [[4]]) .z) (.n none .z (.n none (.n none (.r [[4]]) .z) (.n none .z (.n none (.n none (.r [[4]]) .z) (.n none .z (.n none (.n none (.r [[4]]) .z) (.n none .z (.n none .z (.n none .z (.n none .z (.n none .z (.n none (.n none (.r [[4]]) .z) (.n none .z (.n none (.n none (.r [[4]]) .z) (.n none .z (.n none (.n none (.r [[4]]) .z) .z)))))))))))))))))))))) .z)) .z)))
def S238 : bn Tryz.prog P238 238 :=λ_ _ _ _=>.mk _
def P239 : Pl :=(.n none .z (.n none (.n none .z (.n none (.n none .z (.n none (.n none .z (.n none .z (.n none .z (.n (some [10]) .z .z)))) (.n none .z (.n none .z (.n none .z (.n none (.n none .z (.n none .z (.n (some [15]) .z .z))) .z)))))) .z)) .z))
def S239 : lQ Tryz.prog P239 239 :=λ_ _ _ _ _ _=>.mk _
def P240 : Pl :=(.n none .z (.n none (.n none .z (.n none (.n (some [7,6,3,0]) .z (.n none .z (.n (some [18,6,0]) .z .z))) .z)) .z))
def S240 : bn Tryz.prog P240 240 :=λ_ _ _ _=>.mk _
def P241 : Pl :=.z
def S241 : aI Tryz.prog P241 241 :=λ_ _ _=>.mk _
def P242 : Pl :=(.n none .z (.n none (.n none (.n none (.r [[9,7,0]]) (.n none .z (.n none (.r [[18,16,0]]) .z))) .z) .z))
def S242 : aI Tryz.prog P242 242 :=λ_ _ _=>.mk _
def P243 : Pl :=(.n none .z (.n none (.r [[14,7]]) .z))
def S243 : bn Tryz.prog P243 243 :=λ_ _ _ _=>.mk _
def P244 : Pl :=(.n none .z (.n none (.n none .z (.n none (.n (some [5,4,3]) .z .z) .z)) .z))
def S244 (c : CV) (a0 a1 : AV) (h : AH) : R :=
vQ h 3 a1 λv0 h1=>
vQ h1 22 (uU 0) λv2 h3=>
vQ h3 4 (.bool false) λv4 h5=>
jo a0 λv6=>
qI v6 1 λv7=>
ql h5 v7 λv8=>
jC c (.fn 200 [] []) [v8] h5 λv9 dK=>
Jo c v9 [.yield (dK.new .lI).nx] ((dK.new .lI).new (.loop .ready none 244 [1,0,1,0] [5,4,3] [v4,v2,v0] dK.nx)) λ_ bY=>
vt bY (dK.new .lI).nx λW8 eY=>
XW W8 (
qn eY v2 (uU 0) 1 λim=>
qn im v4 (.bool false) 1 λoE=>
jR (dK.nx::[]) oE λdQ=>
ql dQ v2 λeQ=>
ql dQ v4 λfi=>
some ((.bm [eQ,fi]),dQ))<|
Bm W8 .ret (
jR (dK.nx::[]) eY λtQ=>
ql tQ v2 λv20=>
ql tQ v4 λv21=>
some ((.bm [v20,v21]),tQ))<|
none
def W244 : WF :=tL S244
theorem W244_ok : eG Tryz.prog 244 W244 :=XN (pl :=P244) λ_ _ _ _=>by kernel_rfl
def P245 : Pl :=(.n none .z (.n none .z (.n none .z (.n none (.n none .z (.n none (.n (some [20,19,18,5,0]) .z .z) .z)) .z))))
def S245 : bn Tryz.prog P245 245 :=λ_ _ _ _=>.mk _
def P248 : Pl :=(.n none .z (.n none (.n none .z (.n none (.n (some [13,12,11,1]) .z .z) .z)) .z))
def S248 : bn Tryz.prog P248 248 :=λ_ _ _ _=>.mk _
def P249 : Pl :=(.n none .z (.n none (.r [[7,5]]) .z))
def S249 : aI Tryz.prog P249 249 :=λ_ _ _=>.mk _
def P250 : Pl :=(.n none .z (.n none (.n none (.r [[12,10,2,1,0]]) .z) (.n none .z (.n none (.n none (.r [[34,31,7,2,1,0]]) .z) (.n none (.r [[]]) .z)))))
def S250 : cD Tryz.prog P250 250 :=λ_ _ _ _ _=>.mk _
def P251 : Pl :=(.n none .z (.n none (.n none (.r [[12,7,1,0],[19,14,1,0]]) .z) .z))
def S251 : bn Tryz.prog P251 251 :=λ_ _ _ _=>.mk _
def P252 : Pl :=(.n none .z (.n none .z (.n none .z (.n none .z (.n none .z (.n none .z (.n none .z (.n none .z (.n none .z (.n none .z (.n none .z (.n none (.n none (.r [[85,15,10,6,0]]) .z) .z))))))))))))
def S252 : bn Tryz.prog P252 252 :=λ_ _ _ _=>.mk _
def P253 : Pl :=.z
def S253 : bn Tryz.prog P253 253 :=λ_ _ _ _=>.mk _
def P254 : Pl :=.z
def S254 : aI Tryz.prog P254 254 :=λ_ _ _=>.mk _
def P255 : Pl :=.z
def S255 : aI Tryz.prog P255 255 :=λ_ _ _=>.mk _
def P256 : Pl :=(.n none (.n none (.n (some [0]) (.n none .z (.n none (.n none .z (.n none .z (.n none .z (.n none .z (.n none .z (.n none (.r [[3,0]]) .z)))))) .z)) .z) .z) .z)
def S256 : aI Tryz.prog P256 256 :=λ_ _ _=>.mk _
def P257 : Pl :=.z
def S257 (_ : CV) (a0 : AV) (h : AH) : R :=
jY .lss a0 (iI 10) λv0=>
jw v0 (
jY .add a0 (iI 1) λv1=>
gL (.str [48,49,50,51,52,53,54,55,56,57,97,98,99,100,101,102,103,104,105,106,107,108,109,110,111,112,113,114,115,116,117,118,119,120,121,122]) (some a0) (some v1) λv2=>
some (v2,h)) (
jY .mul a0 (iI 2) λv3=>
jY .mul a0 (iI 2) λv4=>
jY .add v4 (iI 2) λv5=>
gL (.str [48,48,48,49,48,50,48,51,48,52,48,53,48,54,48,55,48,56,48,57,49,48,49,49,49,50,49,51,49,52,49,53,49,54,49,55,49,56,49,57,50,48,50,49,50,50,50,51,50,52,50,53,50,54,50,55,50,56,50,57,51,48,51,49,51,50,51,51,51,52,51,53,51,54,51,55,51,56,51,57,52,48,52,49,52,50,52,51,52,52,52,53,52,54,52,55,52,56,52,57,53,48,53,49,53,50,53,51,53,52,53,53,53,54,53,55,53,56,53,57,54,48,54,49,54,50,54,51,54,52,54,53,54,54,54,55,54,56,54,57,55,48,55,49,55,50,55,51,55,52,55,53,55,54,55,55,55,56,55,57,56,48,56,49,56,50,56,51,56,52,56,53,56,54,56,55,56,56,56,57,57,48,57,49,57,50,57,51,57,52,57,53,57,54,57,55,57,56,57,57]) (some v3) (some v5) λv6=>
some (v6,h))
def W257 : WF :=rZ S257
theorem W257_ok : eG Tryz.prog 257 W257 :=Jm (pl :=P257) λ_ _ _=>by kernel_rfl
def P263 : Pl :=(.n none .z (.n none (.n none (.r [[11,7,1,0]]) .z) .z))
def S263 : bn Tryz.prog P263 263 :=λ_ _ _ _=>.mk _
def P264 : Pl :=.z
def S264 (_ : CV) (h : AH) : R :=
zR h 9 [(.str [])] 24 [(0,1,(.str [])),(1,1,(.str [115,101,116])),(2,1,(.str [109,111,118,101])),(3,1,(.str [97,100,100])),(4,1,(.str [115,117,98])),(5,1,(.str [109,117,108])),(6,1,(.str [108,101,115,115])),(7,1,(.str [101,113,117,97,108])),(8,1,(.str [108,111,97,100])),(9,1,(.str [115,116,111,114,101])),(10,1,(.str [97,108,108,111,99])),(11,1,(.str [102,114,101,101])),(12,1,(.str [106,117,109,112])),(13,1,(.str [122,101,114,111])),(14,1,(.str [111,112,101,110])),(15,1,(.str [99,108,111,115,101])),(16,1,(.str [117,110,100,111])),(17,1,(.str [101,105,116,104,101,114])),(18,1,(.str [111,114])),(19,1,(.str [100,111,110,101])),(20,1,(.str [114,101,116,114,121])),(21,1,(.str [101,109,105,116])),(22,1,(.str [102,97,105,108])),(23,1,(.str [99,97,108,108]))] λv0 h1=>
some (v0,h1)
def W264 : WF :=Il S264
theorem W264_ok : eG Tryz.prog 264 W264 :=Tp (pl :=P264) λ_ _=>by kernel_rfl
def P265 : Pl :=.z
def S265 : bn Tryz.prog P265 265 :=λ_ _ _ _=>.mk _
def P266 : Pl :=.z
def S266 : bn Tryz.prog P266 266 :=λ_ _ _ _=>.mk _
def P267 : Pl :=.z
def S267 : bn Tryz.prog P267 267 :=λ_ _ _ _=>.mk _
end
end Go.Proofs.YtpbpkcdebchbbaaGreatDoor
