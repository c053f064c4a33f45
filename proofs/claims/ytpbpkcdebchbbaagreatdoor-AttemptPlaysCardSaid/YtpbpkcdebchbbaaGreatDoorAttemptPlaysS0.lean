/- Printed by a program of mine: the bodies of the program's functions aa terms of the primitives of the abstract executor, each shown equal by the kernel. -/
import Derived.Test.YtpbpkcdebchbbaaGreatDoorProg
import Derived.Test.YtpbpkcdebchbbaaGreatDoorAttemptPlaysAe1
import Derived.KernelRfl
namespace Go.Proofs.YtpbpkcdebchbbaaGreatDoor
open Go Go.Ae
abbrev BS : Type :=AV×AV×AV×AV×AV×AV×AV×Unit
abbrev BU : Type :=AV×AV×AV×AV×AV×Unit
abbrev rh : Type :=AV×AV×AV×AV×Unit
abbrev mz : Type :=AV×AV×AV×Unit
set_option maxRecDepth 100000
noncomputable section
attribute [local irreducible] jw xe zo jo qI Xk Xa xy gp QM XH gR ql q8 qn jY wb XF lJ kU lX vr XA Xv C4 gL yX gT yx kr zX xi Q7 oR vQ jf zR QC vV z6 NH KC MY C5 Ml MN jC yp Jo ve Jb yJ vt Bm XW VS jR zg wN AV.undef
set_option maxHeartbeats 40000000
def P3 : Pl :=(.n none .z (.n none .z (.n none .z (.n none .z (.n none .z (.n none .z (.n none (.n none .z (.n none (.n (some [8,7,6,5,4,3,1]) (.n none (.n none (.r [[38,36,8,7,6,5,4,3,1]]) .z) .z) .z) .z)) (.n none .z (.n none (.r [[11,10,7,6,5,4,3,1]]) (.n (some [11,10,5,4,1]) (.n none .z (.n none (.r [[11,10,5,4,1]]) .z)) (.n none .z (.n none (.n none .z (.n (some [5,4]) (.n (some [12,11,10,5,4,1]) (.n none .z (.n none (.n (some [12,11,10,5,4,1]) (.n none .z (.n none .z (.n none (.n none (.r [[95,92,15,14,13,12,11,10,5,4,1],[101,97,15,14,13,12,11,10,5,4,1]]) .z) .z))) .z) .z)) .z) .z)) (.n none (.r [[2]]) .z)))))))))))))
def S3 (c : CV) (a0 : AV) (h : AH) : R :=
vQ h 31 a0 λv0 h1=>
jC c (.fn 4 [] []) [] h1 λv2 h3=>
lX .not v2 λv4=>
jw v4 (
some ((.bool false),h3)) (
q8 h3 v0 14 λv5=>
jC c (.fn 5 [] []) [v5] h3 λv6 h7=>
zX v6 0 λv8=>
zX v6 1 λv9=>
zX v6 2 λv10=>
vQ h7 36 (.agg [(iI 0),(iI 0),(iI 0),(iI 0),(uU 0),(iI 0),(iI 0),(iI 0)]) λv11 eY=>
qn eY v11 v8 8 λDn=>
lJ .ptr false v9 .au λfM=>
jw fM (
some ((.bool false),Dn)) (
qI v0 0 λfG=>
ql Dn fG λiF=>
jC c (.fn 6 [] []) [iF,(.int .i64 (.negSucc 0)),(iI 3)] Dn λeQ tO=>
wN (σ :=BS) NN (λi22 ny fW d21=>
qI ny.2.2.2.2.2.2.1 12 λmM=>
ql fW mM λv24=>
xi v24 λlK=>
jY .lss ny.1 lK λlz=>
zg (α :=AV×AV×AV×AV×AV×AV×AV×AV×AV×Unit→AH→R) (λdW rU=>
zo dW.2.1 dW.1 (.bool false) λv30=>
jw v30 (
qI dW.2.2.2.2.2.2.2.2.1 12 λv31=>
ql rU v31 λmA=>
xy mA dW.2.2.1 1 λmb=>
ql rU mb λsO=>
vr .i64 sO λmN=>
jY .rem mN (iI 40) λlL=>
zR rU 3 [(iI 0)] 1 [(0,1,lL)] λv37 sP=>
z6 sP 3 1 dW.2.2.2.1 v37 λuA WJ=>
jY .add dW.2.2.1 (iI 1) λpp=>
i22 (pp,uA,dW.2.2.2.2.1,dW.2.2.2.2.2.1,dW.2.2.2.2.2.2.1,dW.2.2.2.2.2.2.2.1,dW.2.2.2.2.2.2.2.2.1,()) WJ d21) (
qI dW.2.2.2.2.2.2.2.2.1 8 λpt=>
ql rU pt λoh=>
jC c (.fn 7 [] []) [oh,(iI 24),(.bool false)] rU λot AN=>
vQ AN 45 (.agg [.ad]) λv46 Fp=>
qn Fp v46 ot 1 λpu=>
zg (α :=AV×AV×AV×AV×AV×AV×AV×AV×Unit→AH→R) (λnR ri=>
zg (α :=BU→AH→List Nat→R) (λDp IL d54=>
lJ .ptr false Dp.2.1 .au λnz=>
jw nz (
jR d54 IL λPv=>
some ((.bool false),Pv)) (
zg (α :=AV×AV×Unit→AH→List Nat→R) (λAO nA d60=>
zg (α :=AV×Unit→AH→R) (λs62 h63=>
jR d60 h63 λIN=>
some (s62.1,IN)) λIP=>
jC c (.fn 21 [] []) [AO.2.1] nA λox sQ=>
jo AO.1 λuB=>
qI uB 5 λoy=>
ql sQ oy λv70=>
jC c (.fn 20 [] []) [ox,v70] sQ λuC sR=>
xe uC true (
jC c (.fn 23 [] []) [AO.2.1] sR λBV Fq=>
jo AO.1 λv75=>
qI v75 6 λv76=>
ql Fq v76 λpw=>
jC c (.fn 22 [] []) [BV,pw] Fq λrj Dq=>
zo uC rj (.bool false) λv80=>
xe v80 true (
jC c (.fn 24 [] []) [AO.2.1] Dq λBW Dr=>
jo AO.1 λDs=>
qI Ds 7 λuD=>
ql Dr uD λv85=>
jY .eql BW v85 λsS=>
zo v80 sS (.bool false) λv87=>
xe v87 true (
jC c (.fn 25 [] []) [AO.2.1] Dr λFs Pw=>
jo AO.1 λAP=>
qI AP 8 λv91=>
ql Pw v91 λBX=>
jC c (.fn 20 [] []) [Fs,BX] Pw λv93 h94=>
zo v87 v93 (.bool false) λBY=>
ve v91 none BX Dr Pw nA.nx<|
ve uD none v85 Dq Dr nA.nx<|
ve v76 none pw sR Fq nA.nx<|
ve oy none v70 nA sQ nA.nx<|
IP (BY,()) h94) (
zo v87 .undef (.bool false) λv96=>
ve uD none v85 Dq Dr nA.nx<|
ve v76 none pw sR Fq nA.nx<|
ve oy none v70 nA sQ nA.nx<|
IP (v96,()) Dr)) (
zo v80 .undef (.bool false) λv97=>
zo v97 .undef (.bool false) λAQ=>
ve v76 none pw sR Fq nA.nx<|
ve oy none v70 nA sQ nA.nx<|
IP (AQ,()) Dq)) (
zo uC .undef (.bool false) λv99=>
zo v99 .undef (.bool false) λBZ=>
zo BZ .undef (.bool false) λlA=>
ve oy none v70 nA sQ nA.nx<|
IP (lA,()) sR)) λWK=>
wN (σ :=AV×AV×AV×AV×AV×AV×Unit) NN (λi105 ey uE d104=>
jY .lss ey.1 (iI 300) λoz=>
jw oz (
zg (α :=AV×AV×AV×AV×AV×AV×Unit→AH→List Nat→R) (λrq B3 d109=>
jY .add rq.1 (iI 1) λPx=>
i105 (Px,rq.2.1,rq.2.2.1,rq.2.2.2.1,rq.2.2.2.2.1,rq.2.2.2.2.2.1,()) B3 d109) λFt=>
jC c (.fn 12 [] []) [ey.2.2.1] uE λuF Py=>
zX uF 0 λB4=>
zX uF 1 λsU=>
vQ Py 56 (.agg [(iI 0),(iI 0),(uU 0),(uU 0),(uU 0),(.bool false),(iI 0),(uU 0),(.bool false),(iI 0)]) λnB B5=>
qn B5 nB B4 10 λPz=>
jC c (.fn 13 [] []) [ey.2.1] Pz λuG B6=>
zX uG 0 λB8=>
zX uG 1 λB9=>
vQ B6 56 (.agg [(iI 0),(iI 0),(uU 0),(uU 0),(uU 0),(.bool false),(iI 0),(uU 0),(.bool false),(iI 0)]) λru PA=>
qn PA ru B8 10 λuH=>
lJ .bool true sU B9 λCa=>
zg (α :=AV×AV×AV×AV×AV×AV×AV×AV×AV×AV×AV×Unit→AH→R) (λdt Fu=>
zo dt.2.1 (.bool true) dt.1 λv130=>
zg (α :=AV×AV×AV×AV×AV×AV×AV×AV×AV×AV×AV×Unit→AH→R) (λcB ry=>
zo cB.2.1 (.bool true) cB.1 λCb=>
jw Cb (
jR d104 ry λPB=>
some ((.bool false),PB)) (
lX .not cB.2.2.2.1 λCc=>
jw Cc (
WK (cB.2.2.2.2.2.2.2.2.1,cB.2.2.2.2.2.2.2.2.2.1,()) ry d104) (
q8 ry cB.2.2.2.2.1 10 λPC=>
jC c (.fn 16 [] []) [cB.2.2.2.2.2.2.2.2.2.1,PC] ry λv138 PD=>
jC c (.fn 15 [] []) [cB.2.2.2.2.2.2.2.1,v138] PD λ_ Fv=>
q8 Fv cB.2.2.1 10 λPE=>
jC c (.fn 18 [] []) [cB.2.2.2.2.2.2.2.2.1,PE] Fv λv143 PF=>
jC c (.fn 17 [] []) [cB.2.2.2.2.2.2.1,v143] PF λ_ sV=>
qI cB.2.2.2.2.2.2.2.2.2.2.1 13 λPG=>
ql sV PG λv148=>
xi v148 λPH=>
jY .lss cB.2.2.2.2.2.1 PH λPJ=>
jw PJ (
qI cB.2.2.2.2.2.2.2.2.2.2.1 13 λPK=>
ql sV PK λv152=>
xy v152 cB.2.2.2.2.2.1 10 λPL=>
q8 sV PL 10 λv154=>
jC c (.fn 19 [] []) [v154,cB.2.2.2.2.2.2.2.2.1] sV λPM PN=>
vQ PN 56 (.agg [(iI 0),(iI 0),(uU 0),(uU 0),(uU 0),(.bool false),(iI 0),(uU 0),(.bool false),(iI 0)]) λv157 PO=>
qn PO v157 PM 10 λFw=>
q8 Fw v157 10 λv160=>
jC c (.fn 16 [] []) [cB.2.2.2.2.2.2.2.2.2.1,v160] Fw λ_ Fx=>
q8 Fx v157 10 λPP=>
jC c (.fn 18 [] []) [cB.2.2.2.2.2.2.2.2.1,PP] Fx λ_ PQ=>
Ft (cB.2.2.2.2.2.1,cB.2.2.2.2.2.2.1,cB.2.2.2.2.2.2.2.1,cB.2.2.2.2.2.2.2.2.1,cB.2.2.2.2.2.2.2.2.2.1,cB.2.2.2.2.2.2.2.2.2.2.1,()) PQ d104) (
Ft (cB.2.2.2.2.2.1,cB.2.2.2.2.2.2.1,cB.2.2.2.2.2.2.2.1,cB.2.2.2.2.2.2.2.2.1,cB.2.2.2.2.2.2.2.2.2.1,cB.2.2.2.2.2.2.2.2.2.2.1,()) sV d104)))) λFy=>
xe v130 false (
jC c (.fn 14 [] []) [dt.2.2.2.2.2.2.2.1,dt.2.2.2.2.2.2.1] Fu λPR PS=>
lX .not PR λv168=>
Fy (v168,v130,dt.2.2.1,dt.2.2.2.1,dt.2.2.2.2.1,dt.2.2.2.2.2.1,dt.2.2.2.2.2.2.1,dt.2.2.2.2.2.2.2.1,dt.2.2.2.2.2.2.2.2.1,dt.2.2.2.2.2.2.2.2.2.1,dt.2.2.2.2.2.2.2.2.2.2.1,()) PS) (
Fy (.undef,v130,dt.2.2.1,dt.2.2.2.1,dt.2.2.2.2.1,dt.2.2.2.2.2.1,dt.2.2.2.2.2.2.1,dt.2.2.2.2.2.2.2.1,dt.2.2.2.2.2.2.2.2.1,dt.2.2.2.2.2.2.2.2.2.1,dt.2.2.2.2.2.2.2.2.2.2.1,()) Fu)) λFz=>
xe Ca false (
q8 uH nB 10 λPU=>
q8 uH ru 10 λPV=>
kU [.b6 .int 0,.b6 .int 1,.b6 .int 2,.b6 .int 3,.len 7,.b6 .int 4,.b6 .bool 5,.b6 .int 6,.len 10,.b6 .int 7,.b6 .bool 8,.b6 .int 9] true PU PV λv171=>
Fz (v171,Ca,ru,sU,nB,ey.1,ey.2.1,ey.2.2.1,ey.2.2.2.1,ey.2.2.2.2.1,ey.2.2.2.2.2.1,()) uH) (
Fz (.undef,Ca,ru,sU,nB,ey.1,ey.2.1,ey.2.2.1,ey.2.2.2.1,ey.2.2.2.2.1,ey.2.2.2.2.2.1,()) uH)) (
WK (ey.2.2.2.1,ey.2.2.2.2.1,()) uE d104)) ((iI 0),Dp.1,Dp.2.1,Dp.2.2.1,Dp.2.2.2.1,Dp.2.2.2.2.1,()) IL d54)) λWL=>
qI nR.2.2.2.2.2.2.2.1 11 λPW=>
ql ri PW λv173=>
jw v173 (
zg (α :=BU→AH→R) (λsW PX=>
WL (sW.1,sW.2.1,sW.2.2.1,sW.2.2.2.1,sW.2.2.2.2.1,()) PX d21) λPY=>
q8 ri nR.2.2.2.2.2.2.1 8 λPZ=>
jC c (.fn 10 [] []) [nR.2.2.2.1,PZ,nR.2.2.1] ri λP1 Cd=>
q8 Cd nR.2.2.2.2.2.2.1 8 λFA=>
jC c (.fn 11 [] []) [nR.2.2.2.1,FA,nR.2.2.1] Cd λP2 Ra=>
ve nR.2.2.2.2.2.2.1 (some 8) FA ri Cd ri.nx<|
PY (P2,P1,nR.2.2.2.2.1,nR.2.2.2.2.2.1,nR.2.2.2.2.2.2.2.1,()) Ra) (
WL (nR.1,nR.2.1,nR.2.2.2.2.1,nR.2.2.2.2.2.1,nR.2.2.2.2.2.2.2.1,()) ri d21)) λj51=>
q8 pu dW.2.2.2.2.2.2.2.1 8 λv183=>
q8 pu v46 1 λRb=>
jC c (.fn 8 [] []) [dW.2.2.2.2.1,v183,Rb] pu λCe mB=>
q8 mB dW.2.2.2.2.2.2.2.1 8 λuI=>
q8 mB v46 1 λuJ=>
jC c (.fn 9 [] []) [dW.2.2.2.2.1,uI,uJ] mB λCf Rc=>
ve v46 (some 1) uJ pu mB pu.nx<|
ve dW.2.2.2.2.2.2.2.1 (some 8) uI pu mB pu.nx<|
j51 (Cf,Ce,dW.2.2.2.1,dW.2.2.2.2.1,dW.2.2.2.2.2.1,dW.2.2.2.2.2.2.1,dW.2.2.2.2.2.2.2.1,dW.2.2.2.2.2.2.2.2.1,()) Rc)) λj29=>
xe lz true (
jY .lss ny.1 (iI 4) λCg=>
j29 (Cg,lz,ny.1,ny.2.1,ny.2.2.1,ny.2.2.2.1,ny.2.2.2.2.1,ny.2.2.2.2.2.1,ny.2.2.2.2.2.2.1,()) fW) (
j29 (.undef,lz,ny.1,ny.2.1,ny.2.2.1,ny.2.2.2.1,ny.2.2.2.2.1,ny.2.2.2.2.2.1,ny.2.2.2.2.2.2.1,()) fW)) ((iI 0),.ad,eQ,v10,v9,v11,v0,()) tO []))
def W3 : WF :=rZ S3
theorem W3_ok : eG Tryz.prog 3 W3 :=Jm (pl :=P3) λ_ _ _=>by kernel_rfl
def P4 : Pl :=(.n none .z (.n none .z (.n none .z (.n none (.n none (.r [[24,22,2,1]]) .z) (.n none .z (.n none (.n none .z (.n none (.n (some [4,3,2,1]) (.n none .z (.n none (.n none (.n none .z (.n none (.n none (.r [[50,44,5,4,3,2,1],[55,52,5,4,3,2,1]]) .z) .z)) .z) .z)) .z) .z)) (.n none .z (.n none .z (.n none (.r [[75,74,7,2],[79,77,2],[84,81,2],[89,86,2],[94,91,2],[99,96,2],[104,101,2],[109,106]]) .z)))))))))
def S4 (c : CV) (h : AH) : R :=
jf [(iI 0),(iI 0),(iI 0),(iI 0),(uU 0)] [(0,1,(iI 40)),(1,1,(iI 4)),(3,1,(iI 1)),(4,1,(uU 5))] λv0=>
jC c (.fn 26 [] []) [v0] h λv1 h2=>
jf [(iI 0),(iI 0),(iI 0),(iI 0),(uU 0)] [(0,1,(iI 40)),(1,1,(iI 4)),(3,1,(iI 1))] λv3=>
jf [(iI 0),(iI 0),(iI 0),(iI 0),(uU 0),(iI 0),(iI 0),(iI 0)] [(0,5,v3),(7,1,(iI 9))] λv4=>
jf [(iI 0),(iI 0),(iI 0),(iI 0),(uU 0)] [(0,1,(iI 1)),(4,1,(uU 3))] λv5=>
jf [(iI 0),(iI 0),(iI 0),(iI 0),(uU 0)] [(0,1,(iI 21))] λv6=>
zR h2 77 [(iI 0),(iI 0),(iI 0),(iI 0),(uU 0)] 2 [(0,5,v5),(5,5,v6)] λv7 h8=>
jf [.ad] [(0,1,v7)] λv9=>
jC c (.fn 8 [] []) [(iI 0),v4,v9] h8 λv10 bY=>
lJ .ptr false v1 .au λv12=>
zg (α :=rh→AH→R) (λIQ im=>
zo IQ.2.1 (.bool true) IQ.1 λiF=>
jw iF (
some ((.bool false),im)) (
jf [(iI 0),(iI 0),(uU 0),(uU 0),(uU 0),(.bool false),(iI 0),(uU 0),(.bool false),(iI 0)] [(0,1,(iI 9)),(3,1,(uU 1))] λeQ=>
jf [(iI 0),(iI 0),(uU 0),(uU 0),(uU 0),(.bool false),(iI 0),(uU 0),(.bool false),(iI 0)] [(0,1,(iI 6))] λfi=>
jf [(iI 0),(iI 0),(uU 0),(uU 0),(uU 0),(.bool false),(iI 0),(uU 0),(.bool false),(iI 0)] [(0,1,(iI 9)),(3,1,(uU 6))] λlB=>
jf [(iI 0),(iI 0),(uU 0),(uU 0),(uU 0),(.bool false),(iI 0),(uU 0),(.bool false),(iI 0)] [(0,1,(iI 9))] λv20=>
zR im 56 [(iI 0),(iI 0),(uU 0),(uU 0),(uU 0),(.bool false),(iI 0),(uU 0),(.bool false),(iI 0)] 4 [(0,10,eQ),(10,10,fi),(20,10,lB),(30,10,v20)] λv21 FB=>
wN (σ :=rh) NN (λi26 nC nD d25=>
xi nC.2.1 λnE=>
jY .lss nC.1 nE λv28=>
jw v28 (
jC c (.fn 12 [] []) [nC.2.2.1] nD λrV mC=>
zX rV 0 λv31=>
zX rV 1 λmA=>
vQ mC 56 (.agg [(iI 0),(iI 0),(uU 0),(uU 0),(uU 0),(.bool false),(iI 0),(uU 0),(.bool false),(iI 0)]) λmb AR=>
qn AR mb v31 10 λDt=>
lX .not mA λlL=>
zg (α :=BS→AH→R) (λdO sP=>
zo dO.2.1 (.bool true) dO.1 λv40=>
zg (α :=BS→AH→R) (λuK Ch=>
zo uK.2.1 (.bool true) uK.1 λot=>
jw ot (
jR d25 Ch λAN=>
some ((.bool false),AN)) (
q8 Ch uK.2.2.1 10 λv46=>
jC c (.fn 16 [] []) [uK.2.2.2.2.2.2.1,v46] Ch λuL pu=>
jC c (.fn 15 [] []) [uK.2.2.2.2.2.1,uL] pu λ_ ri=>
jY .add uK.2.2.2.1 (iI 1) λv51=>
i26 (v51,uK.2.2.2.2.1,uK.2.2.2.2.2.1,uK.2.2.2.2.2.2.1,()) ri d25)) λWM=>
xe v40 false (
jC c (.fn 27 [] []) [dO.2.2.2.2.2.1] sP λrz IL=>
jY .neq rz (iI 0) λuM=>
WM (uM,v40,dO.2.2.1,dO.2.2.2.1,dO.2.2.2.2.1,dO.2.2.2.2.2.1,dO.2.2.2.2.2.2.1,()) IL) (
WM (.undef,v40,dO.2.2.1,dO.2.2.2.1,dO.2.2.2.2.1,dO.2.2.2.2.2.1,dO.2.2.2.2.2.2.1,()) sP)) λWN=>
xe lL false (
q8 Dt mb 10 λrA=>
xy nC.2.1 nC.1 10 λnz=>
q8 Dt nz 10 λrB=>
kU [.b6 .int 0,.b6 .int 1,.b6 .int 2,.b6 .int 3,.len 7,.b6 .int 4,.b6 .bool 5,.b6 .int 6,.len 10,.b6 .int 7,.b6 .bool 8,.b6 .int 9] true rA rB λpz=>
WN (pz,lL,mb,nC.1,nC.2.1,nC.2.2.1,nC.2.2.2.1,()) Dt) (
WN (.undef,lL,mb,nC.1,nC.2.1,nC.2.2.1,nC.2.2.2.1,()) Dt)) (
jC c (.fn 28 [] []) [nC.2.2.1] nD λv59 Du=>
zX v59 0 λtP=>
zX v59 1 λsX=>
jC c (.fn 12 [] []) [nC.2.2.1] Du λnS Ci=>
zX nS 0 λpA=>
zX nS 1 λox=>
vQ Ci 56 (.agg [(iI 0),(iI 0),(uU 0),(uU 0),(uU 0),(.bool false),(iI 0),(uU 0),(.bool false),(iI 0)]) λsY FC=>
qn FC sY pA 10 λAS=>
lX .not ox λv70=>
zg (α :=rh→AH→R) (λlC sR=>
zo lC.2.1 lC.1 (.bool false) λoA=>
zg (α :=mz→AH→R) (λoB Cj=>
zo oB.2.1 oB.1 (.bool false) λrj=>
zg (α :=mz→AH→R) (λFD FE=>
zo FD.2.1 FD.1 (.bool false) λAT=>
zg (α :=mz→AH→R) (λFG WO=>
zo FG.2.1 FG.1 (.bool false) λsS=>
zg (α :=mz→AH→R) (λFH WQ=>
zo FH.2.1 FH.1 (.bool false) λAP=>
zg (α :=mz→AH→R) (λFI WR=>
zo FI.2.1 FI.1 (.bool false) λFJ=>
zg (α :=mz→AH→R) (λRe IR=>
zo Re.2.1 Re.1 (.bool false) λAQ=>
zg (α :=AV×AV×Unit→AH→R) (λWS oD=>
zo WS.2.1 WS.1 (.bool false) λCk=>
jR d25 oD λuE=>
some (Ck,uE)) λFK=>
xe AQ true (
jC c (.fn 33 [] []) [Re.2.2.1] IR λmD Cm=>
lX .not mD λoz=>
FK (oz,AQ,()) Cm) (
FK (.undef,AQ,()) IR)) λWU=>
xe FJ true (
jC c (.fn 32 [] []) [FI.2.2.1] WR λv107 B3=>
lX .not v107 λv109=>
WU (v109,FJ,FI.2.2.1,()) B3) (
WU (.undef,FJ,FI.2.2.1,()) WR)) λWV=>
xe AP true (
jC c (.fn 31 [] []) [FH.2.2.1] WQ λsZ Rf=>
jY .eql sZ (.int .i64 (.negSucc 0)) λuF=>
WV (uF,AP,FH.2.2.1,()) Rf) (
WV (.undef,AP,FH.2.2.1,()) WQ)) λWW=>
xe sS true (
jC c (.fn 30 [] []) [FG.2.2.1] WO λCn Co=>
XF .eql Cn (.str [51]) λsU=>
WW (sU,sS,FG.2.2.1,()) Co) (
WW (.undef,sS,FG.2.2.1,()) WO)) λWY=>
xe AT true (
jC c (.fn 29 [] []) [FD.2.2.1] FE λnB B5=>
jY .eql nB (uU 5) λCp=>
WY (Cp,AT,FD.2.2.1,()) B5) (
WY (.undef,AT,FD.2.2.1,()) FE)) λWZ=>
xe rj true (
jC c (.fn 27 [] []) [oB.2.2.1] Cj λuG B6=>
jY .eql uG (iI 2) λB8=>
WZ (B8,rj,oB.2.2.1,()) B6) (
WZ (.undef,rj,oB.2.2.1,()) Cj)) λFM=>
xe oA true (
jY .eql lC.2.2.1 (uU 5) λB9=>
FM (B9,oA,lC.2.2.2.1,()) sR) (
FM (.undef,oA,lC.2.2.2.1,()) sR)) λFN=>
xe v70 true (
FN (sX,v70,tP,nC.2.2.1,()) AS) (
FN (.undef,v70,tP,nC.2.2.1,()) AS))) ((iI 0),v21,IQ.2.2.1,IQ.2.2.2.1,()) FB [])) λj15=>
xe v12 false (
lJ .ptr false v10 .au λru=>
j15 (ru,v12,v10,v1,()) bY) (
j15 (.undef,v12,v10,v1,()) bY)
def W4 : WF :=Il S4
theorem W4_ok : eG Tryz.prog 4 W4 :=Tp (pl :=P4) λ_ _=>by kernel_rfl
def P5 : Pl :=(.n none .z (.n none .z (.n none .z (.n none (.r [[7,6,5,2,1]]) (.n none .z (.n none .z (.n none (.n none .z (.n none (.n (some [9,8,7,6,5,2]) (.n none (.n none (.r [[45,38,9,8,7,6,5,2]]) .z) .z) .z) .z)) .z)))))))
def S5 : aI Tryz.prog P5 5 :=λ_ _ _=>.mk _
def P6 : Pl :=(.n none .z (.n none .z (.n (some [1,0]) .z .z)))
def S6 : cD Tryz.prog P6 6 :=λ_ _ _ _ _=>.mk _
def P7 : Pl :=(.n none .z (.n none .z (.n none .z (.n none (.n none .z (.n (some [8,7,6]) (.n (some [9,8,7,6,2,1,0]) (.n none .z (.n none (.n none (.n none .z (.n none .z (.n none .z (.n none .z (.n (some [9,8,7,6,2,1,0]) (.n none (.r [[46,44,12,11,10,9,8,7,6,2,1,0]]) (.n none .z (.n none (.r [[60,58,12,11,10,9,8,7,6,2,1,0],[64,62,12,11,10,9,8,7,6,2,1,0]]) (.n none .z (.n none (.r [[78,76,12,11,10,9,8,7,6,2,1,0],[82,80,12,11,10,9,8,7,6,2,1,0]]) (.n none .z (.n none (.r [[95,93,12,11,10,9,8,7,6,2,1,0],[103,97,12,11,10,9,8,7,6,2,1,0]]) (.n none .z (.n none (.r [[114,112,12,11,10,9,8,7,6,2,1,0],[118,116,12,11,10,9,8,7,6,2,1,0],[122,120,12,10,9,8,7,6,2,1,0]]) (.n none .z (.n none (.r [[140,138,12,10,9,8,7,6,2,1,0]]) (.n none .z (.n none (.r [[158,156,12,10,9,8,7,6,2,1,0]]) (.n none .z (.n none (.r [[176,174,12,10,9,8,7,6,2,1,0]]) (.n none (.r [[9,8,7,6,2,1,0]]) (.n none (.r [[195,193,10,9,8,7,6,2,1,0]]) (.n none (.r [[9,8,7,6,2,1,0]]) .z)))))))))))))))))) .z))))) .z) .z)) .z) .z)) (.n none (.n none (.n (some [8,7,6]) .z .z) .z) (.n (some [7,6]) .z .z))))))
def S7 : cD Tryz.prog P7 7 :=λ_ _ _ _ _=>.mk _
def P8 : Pl :=.z
def S8 : cD Tryz.prog P8 8 :=λ_ _ _ _ _=>.mk _
def P9 : Pl :=(.n none .z (.n none .z (.n none .z (.n none (.r [[6]]) .z))))
def S9 : cD Tryz.prog P9 9 :=λ_ _ _ _ _=>.mk _
def P10 : Pl :=.z
def S10 : cD Tryz.prog P10 10 :=λ_ _ _ _ _=>.mk _
def P11 : Pl :=(.n none .z (.n none .z (.n none (.r [[6]]) .z)))
def S11 : cD Tryz.prog P11 11 :=λ_ _ _ _ _=>.mk _
def P12 : Pl :=.z
def S12 (c : CV) (a0 : AV) (h : AH) : R :=
vQ h 56 (.agg [(iI 0),(iI 0),(uU 0),(uU 0),(uU 0),(.bool false),(iI 0),(uU 0),(.bool false),(iI 0)]) λv0 h1=>
jo a0 λv2=>
qI v2 14 λv3=>
ql h1 v3 λv4=>
jY .eql v4 (iI 0) λv5=>
jw v5 (
jo a0 λv6=>
qI v6 0 λv7=>
ql h1 v7 λv8=>
jf [(iI 0),(iI 0),(uU 0),(uU 0),(uU 0),(.bool false),(iI 0),(uU 0),(.bool false),(iI 0)] [(0,1,(iI 9)),(1,1,v8),(3,1,(uU 1))] λv9=>
qn h1 v0 v9 10 λdK=>
q8 dK v0 10 λv11=>
some ((.bm [v11,(.bool true)]),dK)) (
jY .eql v4 (iI 1) λv12=>
jw v12 (
jf [(iI 0),(iI 0),(uU 0),(uU 0),(uU 0),(.bool false),(iI 0),(uU 0),(.bool false),(iI 0)] [(0,1,(iI 6))] λfm=>
qn h1 v0 fm 10 λim=>
q8 im v0 10 λfG=>
some ((.bm [fG,(.bool true)]),im)) (
jY .eql v4 (iI 2) λiF=>
jw iF (
jo a0 λeQ=>
qI eQ 0 λfi=>
ql h1 fi λlB=>
jo a0 λv20=>
qI v20 21 λv21=>
ql h1 v21 λv22=>
jY .add v22 (uU 1) λmM=>
jf [(iI 0),(iI 0),(uU 0),(uU 0),(uU 0),(.bool false),(iI 0),(uU 0),(.bool false),(iI 0)] [(0,1,(iI 9)),(1,1,lB),(3,1,mM)] λv24=>
qn h1 v0 v24 10 λFO=>
q8 FO v0 10 λlz=>
some ((.bm [lz,(.bool true)]),FO)) (
jY .eql v4 (iI 7) λnE=>
jw nE (
jo a0 λv28=>
qI v28 0 λrV=>
ql h1 rV λv30=>
jf [(iI 0),(iI 0),(uU 0),(uU 0),(uU 0),(.bool false),(iI 0),(uU 0),(.bool false),(iI 0)] [(0,1,(iI 9)),(1,1,v30)] λv31=>
qn h1 v0 v31 10 λIS=>
q8 IS v0 10 λmb=>
some ((.bm [mb,(.bool true)]),IS)) (
jY .eql v4 (iI 8) λsO=>
jw sO (
jf [(iI 0),(iI 0),(uU 0),(uU 0),(uU 0),(.bool false),(iI 0),(uU 0),(.bool false),(iI 0)] [] λmN=>
qn h1 v0 mN 10 λW2=>
q8 W2 v0 10 λv37=>
some ((.bm [v37,(.bool false)]),W2)) (
jo a0 λuN=>
qI uN 15 λuA=>
ql h1 uA λv40=>
yp c [(47,12),(49,13),(98,414),(99,422),(100,425),(112,47),(113,48),(114,49),(406,363)] v40 [] h1 λpp Ch=>
zX pp 0 λoh=>
zX pp 1 λot=>
qn Ch v0 oh 10 λAN=>
q8 AN v0 10 λv46=>
some ((.bm [v46,ot]),AN))))))
def W12 : WF :=rZ S12
theorem W12_ok : eG Tryz.prog 12 W12 :=Jm (pl :=P12) λ_ _ _=>by kernel_rfl
def P13 : Pl :=.z
def S13 : aI Tryz.prog P13 13 :=λ_ _ _=>.mk _
def P14 : Pl :=(.n none .z (.n none .z (.n none (.r [[4]]) .z)))
def S14 : bn Tryz.prog P14 14 :=λ_ _ _ _=>.mk _
def P15 : Pl :=(.n none .z (.n none .z (.n none .z (.n none .z (.n (some []) (.n none .z (.n none .z (.n none .z (.n none (.n none (.r [[0]]) .z) .z)))) .z)))))
def S15 (c : CV) (a0 a1 : AV) (h : AH) : R :=
vQ h 63 a1 λv0 h1=>
jo a0 λv2=>
qI v2 14 λv3=>
ql h1 v3 λv4=>
jY .eql v4 (iI 8) λv5=>
jw v5 (
some ((.bm []),h1)) (
qI v0 5 λv6=>
ql h1 v6 λv7=>
jY .neq v7 (iI 0) λv8=>
jw v8 (
qI v0 5 λv9=>
ql h1 v9 λv10=>
jC c (.fn 63 [] []) [a0,(iI 4),v10,(.int .i64 (.negSucc 0))] h1 λ_ eY=>
jo a0 λfm=>
qI fm 14 λfM=>
qn eY fM (iI 8) 1 λoE=>
some ((.bm []),oE)) (
jo a0 λiF=>
qI iF 14 λeQ=>
ql h1 eQ λfi=>
zg (α :=Unit→AH→List Nat→R) (λ_ fW d21=>
jR d21 fW λoG=>
some ((.bm []),oG)) λj22=>
jY .eql fi (iI 0) λv24=>
jw v24 (
jo a0 λlK=>
qI lK 14 λlz=>
qn h1 lz (iI 1) 1 λCq=>
j22 (()) Cq []) (
jY .eql fi (iI 1) λv28=>
jw v28 (
zg (α :=AV×Unit→AH→R) (λs29 mC=>
jo s29.1 λmA=>
qI mA 14 λmb=>
qn mC mb (iI 2) 1 λAR=>
j22 (()) AR []) λj31=>
qI v0 0 λmN=>
ql h1 mN λlL=>
qI v0 0 λv37=>
ql h1 v37 λuN=>
jo a0 λuA=>
qI uA 19 λv40=>
qn h1 v40 (.bool true) 1 λIT=>
jo a0 λpt=>
qI pt 20 λoh=>
qn IT oh lL 1 λFP=>
jo a0 λs8=>
qI s8 21 λv46=>
qn FP v46 uN 1 λFp=>
ve v37 none uN IT FP h1.nx<|
ve v37 none uN h1 IT h1.nx<|
ve mN none lL h1 IT h1.nx<|
j31 (a0,()) Fp) (
jY .eql fi (iI 2) λAU=>
jw AU (
jC c (.fn 64 [] []) [a0] h1 λ_ ri=>
j22 (()) ri []) (
jY .eql fi (iI 7) λv51=>
jw v51 (
jo a0 λrz=>
qI rz 14 λv53=>
qn h1 v53 (iI 8) 1 λDv=>
j22 (()) Dv []) (
jo a0 λrA=>
qI rA 15 λnz=>
ql h1 nz λrB=>
q8 h1 v0 6 λpz=>
yp c [(47,15),(49,17),(98,415),(99,423),(100,426),(112,69),(113,71),(114,73)] rB [pz] h1 λ_ Du=>
jC c (.fn 65 [] []) [a0] Du λ_ Rg=>
j22 (()) Rg []))))))
def W15 : WF :=tL S15
theorem W15_ok : eG Tryz.prog 15 W15 :=XN (pl :=P15) λ_ _ _ _=>by kernel_rfl
def P16 : Pl :=(.n none .z (.n none .z (.n (some [5,4]) .z .z)))
def S16 : bn Tryz.prog P16 16 :=λ_ _ _ _=>.mk _
def P17 : Pl :=(.n none .z (.n none .z (.n none .z (.n none .z (.n (some []) (.n none .z (.n none .z (.n none .z (.n none (.n none (.r [[0]]) .z) (.n none .z (.n none .z (.n none .z (.n none .z (.n none .z (.n none .z (.n none .z (.n none (.n none .z (.n (some [0]) (.n none (.r [[91,82,0]]) .z) (.n none .z (.n (some []) (.n none .z (.n none .z (.n (some [116,0]) .z .z))) .z)))) .z)))))))))))) .z)))))
def S17 : bn Tryz.prog P17 17 :=λ_ _ _ _=>.mk _
def P18 : Pl :=(.n none .z (.n none .z (.n none (.n none .z (.n (some [5,4,0]) (.n (some [10,8,5,4,3,0]) .z (.n none .z (.n (some [16,8,5,4,3,0]) .z (.n none .z (.n (some [23,8,5,4,3,0]) .z (.n none .z (.n (some [29,5,4,3,0]) .z (.n none (.n none (.r [[43,35,5,4,3,0]]) .z) .z)))))))) .z)) (.n (some [5,4]) .z .z))))
def S18 : bn Tryz.prog P18 18 :=λ_ _ _ _=>.mk _
def P19 : Pl :=(.n none .z (.n none .z (.n none .z (.n none (.n none .z (.n none (.n none .z (.n none (.n none (.r [[4]]) .z) (.n (some [37,25,6,5,4,2,1]) .z (.n none .z (.n none .z (.n none .z (.n (some [53,25,4,2,1]) .z (.n none .z (.n none .z (.n none (.n none (.r [[4]]) .z) .z)))))))))) .z)) .z))))
def S19 : bn Tryz.prog P19 19 :=λ_ _ _ _=>.mk _
def P20 : Pl :=(.n none .z (.n none .z (.n none (.n none .z (.n none (.n (some [5,1,0]) .z .z) .z)) .z)))
def S20 : bn Tryz.prog P20 20 :=λ_ _ _ _=>.mk _
def P21 : Pl :=.z
def S21 : aI Tryz.prog P21 21 :=λ_ _ _=>.mk _
def P22 : Pl :=(.n none .z (.n none .z (.n none (.n none .z (.n none (.n (some [5,1,0]) .z .z) .z)) .z)))
def S22 (_ : CV) (a0 a1 : AV) (h : AH) : R :=
xi a0 λv0=>
xi a1 λv1=>
jY .neq v0 v1 λv2=>
jw v2 (
some ((.bool false),h)) (
wN (σ :=mz) NN (λi6 s3 h4 d5=>
xi s3.2.2.1 λv7=>
jY .lss s3.1 v7 λv8=>
jw v8 (
xy s3.2.2.1 s3.1 3 λv9=>
q8 h4 v9 3 λv10=>
xy s3.2.1 s3.1 3 λv11=>
q8 h4 v11 3 λv12=>
kU [.b6 .int 0,.b6 .bool 1,.b6 .int 2] true v10 v12 λfm=>
jw fm (
jR d5 h4 λim=>
some ((.bool false),im)) (
jY .add s3.1 (iI 1) λfG=>
i6 (fG,s3.2.1,s3.2.2.1,()) h4 d5)) (
jR d5 h4 λdQ=>
some ((.bool true),dQ))) ((iI 0),a1,a0,()) h [])
def W22 : WF :=tL S22
theorem W22_ok : eG Tryz.prog 22 W22 :=XN (pl :=P22) λ_ _ _ _=>by kernel_rfl
def P23 : Pl :=.z
def S23 : aI Tryz.prog P23 23 :=λ_ _ _=>.mk _
def P24 : Pl :=.z
def S24 : aI Tryz.prog P24 24 :=λ_ _ _=>.mk _
def P25 : Pl :=.z
def S25 : aI Tryz.prog P25 25 :=λ_ _ _=>.mk _
def P26 : Pl :=(.n none .z (.n none .z (.n none (.r [[2]]) .z)))
def S26 : aI Tryz.prog P26 26 :=λ_ _ _=>.mk _
def P27 : Pl :=.z
def S27 : aI Tryz.prog P27 27 :=λ_ _ _=>.mk _
def P28 : Pl :=.z
def S28 : aI Tryz.prog P28 28 :=λ_ _ _=>.mk _
def P29 : Pl :=.z
def S29 : aI Tryz.prog P29 29 :=λ_ _ _=>.mk _
def P30 : Pl :=(.n none .z (.n none (.n none (.r [[11,6,0]]) .z) .z))
def S30 : aI Tryz.prog P30 30 :=λ_ _ _=>.mk _
def P31 : Pl :=.z
def S31 : aI Tryz.prog P31 31 :=λ_ _ _=>.mk _
def P32 : Pl :=(.n none .z (.n none (.r [[13,8,0],[21,15,0],[27,21,15],[28,15]]) .z))
def S32 : aI Tryz.prog P32 32 :=λ_ _ _=>.mk _
def P33 : Pl :=(.n none .z (.n none (.r [[12,8]]) .z))
def S33 : aI Tryz.prog P33 33 :=λ_ _ _=>.mk _
def P34 : Pl :=(.n none .z (.n none (.r [[3,2,1]]) (.n none (.r [[3,2]]) .z)))
def S34 : aI Tryz.prog P34 34 :=λ_ _ _=>.mk _
def P35 : Pl :=.z
def S35 : aI Tryz.prog P35 35 :=λ_ _ _=>.mk _
def P36 : Pl :=(.n none .z (.n none .z (.n none .z (.n none (.n none .z (.n none (.n (some [8,7,2,1]) (.n none (.n none (.r [[23,21,8,7,2,1]]) .z) .z) .z) .z)) (.n none .z (.n none (.n none .z (.n (some [7]) (.n (some [10,9,7,2]) (.n none (.n none (.r [[42,40,10,9,7,2]]) .z) (.n none (.n none (.n none .z (.n none .z (.n none .z (.n (some [11,10,9,7,2]) .z .z)))) .z) .z)) .z) .z)) .z))))))
def S36 : cD Tryz.prog P36 36 :=λ_ _ _ _ _=>.mk _
def P37 : Pl :=(.n none .z (.n none .z (.n none (.n none .z (.n none (.n none .z (.n none (.n none (.r [[5,4]]) .z) .z)) .z)) (.n none (.r [[5,4]]) .z))))
def S37 : bn Tryz.prog P37 37 :=λ_ _ _ _=>.mk _
def P38 : Pl :=.z
def S38 : aI Tryz.prog P38 38 :=λ_ _ _=>.mk _
def P39 : Pl :=(.n none .z (.n none (.r [[5,4,3,2,1]]) (.n none .z (.n none .z (.n none (.n none .z (.n none (.n (some [23,22,7,6,5,4,3,2,1]) .z (.n none .z (.n none .z (.n none .z (.n none .z (.n none .z (.n none .z (.n none .z (.n (some [54,22,7,6,4,3,2,1]) .z (.n none .z (.n (some [62,22,7,6,4,3,2,1]) .z (.n none .z (.n none .z (.n none .z (.n none .z (.n none .z (.n (some [86,22,7,6,4,3,2]) .z .z))))))))))))))))) .z)) .z)))))
def S39 : aI Tryz.prog P39 39 :=λ_ _ _=>.mk _
def P40 : Pl :=(.n none .z (.n none .z (.n none (.r [[4]]) .z)))
def S40 : bn Tryz.prog P40 40 :=λ_ _ _ _=>.mk _
def P41 : Pl :=(.n none .z (.n none .z (.n none .z (.n none (.r [[6]]) .z))))
def S41 : cD Tryz.prog P41 41 :=λ_ _ _ _ _=>.mk _
def P42 : Pl :=.z
def S42 : aI Tryz.prog P42 42 :=λ_ _ _=>.mk _
def P43 : Pl :=.z
def S43 : bn Tryz.prog P43 43 :=λ_ _ _ _=>.mk _
def P44 : Pl :=(.n none .z (.n none .z (.n none .z (.n none .z (.n (some [7]) .z .z)))))
def S44 : cD Tryz.prog P44 44 :=λ_ _ _ _ _=>.mk _
def P45 : Pl :=.z
def S45 : aI Tryz.prog P45 45 :=λ_ _ _=>.mk _
def P46 : Pl :=.z
def S46 : aI Tryz.prog P46 46 :=λ_ _ _=>.mk _
def P47 : Pl :=.z
def S47 : aI Tryz.prog P47 47 :=λ_ _ _=>.mk _
def P48 : Pl :=.z
def S48 : aI Tryz.prog P48 48 :=λ_ _ _=>.mk _
def P49 : Pl :=.z
def S49 : aI Tryz.prog P49 49 :=λ_ _ _=>.mk _
def P50 : Pl :=.z
def S50 : aI Tryz.prog P50 50 :=λ_ _ _=>.mk _
def P51 : Pl :=(.n none .z (.n none (.n none (.r [[12,9,0],[18,14,0]]) .z) .z))
def S51 : aI Tryz.prog P51 51 :=λ_ _ _=>.mk _
def P52 : Pl :=(.n none .z (.n none (.r [[14,9,0],[22,16,0],[31,22,16],[32,16]]) .z))
def S52 : aI Tryz.prog P52 52 :=λ_ _ _=>.mk _
def P53 : Pl :=(.n none .z (.n none (.r [[13,9]]) .z))
def S53 : aI Tryz.prog P53 53 :=λ_ _ _=>.mk _
def P54 : Pl :=(.n none .z (.n none .z (.n none (.n none .z (.n none (.n (some [5,1,0]) .z .z) .z)) .z)))
def S54 (_ : CV) (a0 a1 : AV) (h : AH) : R :=
xi a0 λv0=>
xi a1 λv1=>
jY .neq v0 v1 λv2=>
jw v2 (
some ((.bool false),h)) (
wN (σ :=mz) NN (λi6 s3 h4 d5=>
xi s3.2.2.1 λv7=>
jY .lss s3.1 v7 λv8=>
jw v8 (
xy s3.2.2.1 s3.1 2 λv9=>
q8 h4 v9 2 λv10=>
xy s3.2.1 s3.1 2 λv11=>
q8 h4 v11 2 λv12=>
kU [.b6 .int 0,.b6 .int 1] true v10 v12 λfm=>
jw fm (
jR d5 h4 λim=>
some ((.bool false),im)) (
jY .add s3.1 (iI 1) λfG=>
i6 (fG,s3.2.1,s3.2.2.1,()) h4 d5)) (
jR d5 h4 λdQ=>
some ((.bool true),dQ))) ((iI 0),a1,a0,()) h [])
def W54 : WF :=tL S54
theorem W54_ok : eG Tryz.prog 54 W54 :=XN (pl :=P54) λ_ _ _ _=>by kernel_rfl
def P55 : Pl :=.z
def S55 : aI Tryz.prog P55 55 :=λ_ _ _=>.mk _
def P56 : Pl :=(.n none .z (.n none .z (.n none (.n none .z (.n none (.n (some [5,1,0]) .z .z) .z)) .z)))
def S56 (_ : CV) (a0 a1 : AV) (h : AH) : R :=
xi a0 λv0=>
xi a1 λv1=>
jY .neq v0 v1 λv2=>
jw v2 (
some ((.bool false),h)) (
wN (σ :=mz) NN (λi6 s3 h4 d5=>
xi s3.2.2.1 λv7=>
jY .lss s3.1 v7 λv8=>
jw v8 (
xy s3.2.2.1 s3.1 2 λv9=>
q8 h4 v9 2 λv10=>
xy s3.2.1 s3.1 2 λv11=>
q8 h4 v11 2 λv12=>
kU [.b6 .int 0,.b6 .int 1] true v10 v12 λfm=>
jw fm (
jR d5 h4 λim=>
some ((.bool false),im)) (
jY .add s3.1 (iI 1) λfG=>
i6 (fG,s3.2.1,s3.2.2.1,()) h4 d5)) (
jR d5 h4 λdQ=>
some ((.bool true),dQ))) ((iI 0),a1,a0,()) h [])
def W56 : WF :=tL S56
theorem W56_ok : eG Tryz.prog 56 W56 :=XN (pl :=P56) λ_ _ _ _=>by kernel_rfl
def P57 : Pl :=.z
def S57 : aI Tryz.prog P57 57 :=λ_ _ _=>.mk _
def P58 : Pl :=.z
def S58 : aI Tryz.prog P58 58 :=λ_ _ _=>.mk _
def P59 : Pl :=(.n none .z (.n none (.n none (.r [[12,9,0]]) .z) .z))
def S59 : aI Tryz.prog P59 59 :=λ_ _ _=>.mk _
def P60 : Pl :=(.n none .z (.n none .z (.n none (.n none .z (.n none (.n (some [5,1,0]) .z .z) .z)) .z)))
def S60 : bn Tryz.prog P60 60 :=λ_ _ _ _=>.mk _
def P61 : Pl :=.z
def S61 : aI Tryz.prog P61 61 :=λ_ _ _=>.mk _
def P62 : Pl :=(.n none .z (.n none (.n none (.r [[12,9,0]]) .z) .z))
def S62 : aI Tryz.prog P62 62 :=λ_ _ _=>.mk _
def P63 : Pl :=.z
def S63 : lQ Tryz.prog P63 63 :=λ_ _ _ _ _ _=>.mk _
def P64 : Pl :=(.n none .z (.n none .z (.n (some []) (.n none .z (.n none .z (.n none .z (.n none .z (.n none .z (.n none .z (.n none .z (.n none .z (.n none (.r [[0]]) .z))))))))) .z)))
def S64 : aI Tryz.prog P64 64 :=λ_ _ _=>.mk _
def P65 : Pl :=(.n none (.n none .z (.n (some [0]) .z .z)) .z)
def S65 (c : CV) (a0 : AV) (h : AH) : R :=
jo a0 λv0=>
qI v0 15 λv1=>
ql h v1 λv2=>
yp c [(47,27),(98,213),(99,218),(100,92),(266,145)] v2 [] h λv3 h4=>
zg (α :=AV×Unit→AH→List Nat→R) (λs5 h6 d7=>
jC c (.fn 32 [] []) [s5.1] h6 λv9 dK=>
jw v9 (
jo s5.1 λv11=>
qI v11 18 λv12=>
ql dK v12 λfm=>
jC c (.fn 116 [] []) [fm] dK λfM oE=>
jo s5.1 λiF=>
qI iF 21 λeQ=>
qn oE eQ fM 1 λtO=>
jR d7 tO λtQ=>
some ((.bm []),tQ)) (
jR d7 dK λfW=>
some ((.bm []),fW))) λj8=>
jY .eql v3 (iI 0) λv21=>
jw v21 (
j8 (a0,()) h4 []) (
jY .eql v3 (iI 5) λv22=>
jw v22 (
jo a0 λmM=>
qI mM 15 λv24=>
ql h4 v24 λlK=>
yp c [(47,31),(98,413),(99,421),(100,424),(266,416)] lK [] h4 λlz Cq=>
jC c (.fn 63 [] []) [a0,(iI 5),(iI 0),lz] Cq λ_ s9=>
j8 (a0,()) s9 []) (
jC c (.fn 115 [] []) [a0] h4 λ_ h31=>
j8 (a0,()) h31 []))
def W65 : WF :=rZ S65
theorem W65_ok : eG Tryz.prog 65 W65 :=Jm (pl :=P65) λ_ _ _=>by kernel_rfl
def P66 : Pl :=(.n none .z (.n none .z (.n none (.n none .z (.n (some [5,4]) .z .z)) .z)))
def S66 : bn Tryz.prog P66 66 :=λ_ _ _ _=>.mk _
def P67 : Pl :=(.n none .z (.n (some [3]) (.n none .z (.n none (.r [[3]]) .z)) .z))
def S67 : bn Tryz.prog P67 67 :=λ_ _ _ _=>.mk _
def P68 : Pl :=(.n none .z (.n (some [3,2,0]) (.n none .z (.n none (.n none (.n (some [3,2,0]) (.n (some [3,2,0]) .z .z) .z) .z) .z)) (.n none .z (.n (some []) .z .z))))
def S68 : aI Tryz.prog P68 68 :=λ_ _ _=>.mk _
def P69 : Pl :=(.n none .z (.n none (.n none (.r [[15,10,3,0]]) .z) (.n none .z (.n none (.n none (.r [[42,35,3,0]]) .z) (.n none .z (.n (some []) .z .z))))))
def S69 (c : CV) (a0 a1 : AV) (h : AH) : R :=
vQ h 63 a1 λv0 h1=>
jo a0 λv2=>
qI v2 0 λv3=>
qI v3 2 λv4=>
ql h1 v4 λv5=>
jY .neq v5 (iI 0) λv6=>
zg (α :=rh→AH→R) (λs7 h8=>
zo s7.2.1 (.bool true) s7.1 λv10=>
jw v10 (
some ((.bm []),h8)) (
jo s7.2.2.2.1 λv11=>
qI v11 8 λv12=>
ql h8 v12 λfm=>
jY .eql fm (iI 1) λfM=>
jw fM (
qI s7.2.2.1 0 λfG=>
ql h8 fG λiF=>
jo s7.2.2.2.1 λeQ=>
qI eQ 12 λfi=>
qn h8 fi iF 1 λtQ=>
jo s7.2.2.2.1 λv20=>
qI v20 8 λv21=>
qn tQ v21 (iI 2) 1 λFB=>
some ((.bm []),FB)) (
jo s7.2.2.2.1 λmM=>
qI mM 8 λv24=>
ql h8 v24 λlK=>
jY .eql lK (iI 2) λlz=>
zg (α :=rh→AH→R) (λdW rU=>
zo dW.2.1 dW.1 (.bool false) λv30=>
jw v30 (
jo dW.2.2.2.1 λv31=>
qI v31 0 λmA=>
qI mA 2 λmb=>
qn rU mb (iI 2) 1 λAR=>
some ((.bm []),AR)) (
jo dW.2.2.2.1 λmN=>
qI mN 8 λlL=>
qn rU lL (iI 0) 1 λAW=>
zg (α :=Unit→AH→List Nat→R) (λ_ Cr d40=>
jR d40 Cr λCh=>
some ((.bm []),Ch)) λRh=>
qI dW.2.2.1 1 λoh=>
qI oh 1 λot=>
ql AW ot λs8=>
jw s8 (
jo dW.2.2.2.1 λv46=>
qI v46 0 λuL=>
qI dW.2.2.1 1 λAU=>
q8 AW AU 3 λv49=>
jC c (.fn 130 [] []) [uL,v49] AW λ_ Ri=>
Rh (()) Ri []) (
qI dW.2.2.1 1 λrz=>
qI rz 0 λv53=>
ql AW v53 λuM=>
jo dW.2.2.2.1 λrA=>
qI rA 7 λnz=>
ql AW nz λrB=>
jY .gtr uM rB λpz=>
jw pz (
jo dW.2.2.2.1 λv59=>
qI v59 0 λCs=>
qI Cs 2 λtP=>
qn AW tP (iI 6) 1 λRg=>
Rh (()) Rg []) (
qI dW.2.2.1 1 λnS=>
q8 AW nS 3 λCt=>
jo dW.2.2.2.1 λpA=>
qI pA 9 λox=>
qn AW ox Ct 3 λsQ=>
jo dW.2.2.2.1 λuB=>
qI uB 8 λoy=>
qn sQ oy (iI 1) 1 λDw=>
Rh (()) Dw [])))) λj29=>
xe lz true (
qI s7.2.2.1 1 λuC=>
q8 h8 uC 3 λv72=>
jo s7.2.2.2.1 λBV=>
qI BV 9 λoA=>
q8 h8 oA 3 λv75=>
kU [.b6 .int 0,.b6 .bool 1,.b6 .int 2] false v72 v75 λv76=>
j29 (v76,lz,s7.2.2.1,s7.2.2.2.1,()) h8) (
j29 (.undef,lz,s7.2.2.1,s7.2.2.2.1,()) h8)))) λj9=>
xe v6 false (
jo a0 λpw=>
qI pw 0 λrj=>
q8 h1 v0 6 λFQ=>
jC c (.fn 67 [] []) [rj,FQ] h1 λv80 h81=>
j9 (v80,v6,v0,a0,()) h81) (
j9 (.undef,v6,v0,a0,()) h1)
def W69 : WF :=tL S69
theorem W69_ok : eG Tryz.prog 69 W69 :=XN (pl :=P69) λ_ _ _ _=>by kernel_rfl
def P70 : Pl :=(.n none .z (.n (some []) .z .z))
def S70 : aI Tryz.prog P70 70 :=λ_ _ _=>.mk _
def P71 : Pl :=(.n none .z (.n none (.n none (.r [[15,10,3,0]]) .z) (.n none (.n (some [0]) .z .z) .z)))
def S71 : bn Tryz.prog P71 71 :=λ_ _ _ _=>.mk _
def P72 : Pl :=(.n none .z (.n (some []) .z .z))
def S72 : aI Tryz.prog P72 72 :=λ_ _ _=>.mk _
def P73 : Pl :=(.n none .z (.n none (.n none (.r [[15,10,3,0]]) .z) (.n none .z (.n (some []) (.n (some [62,20,3,0]) .z .z) .z))))
def S73 : bn Tryz.prog P73 73 :=λ_ _ _ _=>.mk _
def P74 : Pl :=(.n none .z (.n none (.r [[15,9,0],[20,15,9],[21,9]]) .z))
def S74 : aI Tryz.prog P74 74 :=λ_ _ _=>.mk _
def P75 : Pl :=.z
def S75 : lQ Tryz.prog P75 75 :=λ_ _ _ _ _ _=>.mk _
def P76 : Pl :=(.n none .z (.n none (.n none (.r [[16,8,4,3,0]]) .z) .z))
def S76 : bn Tryz.prog P76 76 :=λ_ _ _ _=>.mk _
def P77 : Pl :=(.n none .z (.n none (.n none (.r [[16,8,4,3,0]]) .z) .z))
def S77 (c : CV) (a0 a1 : AV) (h : AH) : R :=
vQ h 56 a1 λv0 h1=>
vQ h1 63 (.agg [(uU 0),(uU 0),(.bool false),(iI 0),(.bool false),(iI 0)]) λv2 h3=>
qI v0 1 λv4=>
ql h3 v4 λv5=>
jY .lss v5 (iI 0) λv6=>
zg (α :=BU→AH→R) (λs7 h8=>
zo s7.2.1 (.bool true) s7.1 λv10=>
jw v10 (
jf [(uU 0),(uU 0),(.bool false),(iI 0),(.bool false),(iI 0)] [(5,1,(iI 2))] λv11=>
qn h8 s7.2.2.1 v11 6 λeY=>
q8 eY s7.2.2.1 6 λfm=>
some (fm,eY)) (
qI s7.2.2.2.1 0 λfM=>
ql h8 fM λfG=>
jY .eql fG (iI 3) λiF=>
jw iF (
jo s7.2.2.2.2.1 λeQ=>
qI eQ 6 λfi=>
ql h8 fi λlB=>
qI s7.2.2.2.1 1 λv20=>
ql h8 v20 λv21=>
xy lB v21 3 λv22=>
q8 h8 v22 3 λmM=>
jf [(uU 0),(uU 0),(.bool false),(iI 0),(.bool false),(iI 0)] [(1,3,mM)] λv24=>
qn h8 s7.2.2.1 v24 6 λFO=>
q8 FO s7.2.2.1 6 λlz=>
some (lz,FO)) (
qI s7.2.2.2.1 7 λnE=>
q8 h8 nE 3 λv28=>
jC c (.fn 138 [] []) [v28] h8 λrV mC=>
lX .not rV λv31=>
jw v31 (
jf [(uU 0),(uU 0),(.bool false),(iI 0),(.bool false),(iI 0)] [(5,1,(iI 1))] λmA=>
qn mC s7.2.2.1 mA 6 λDx=>
q8 Dx s7.2.2.1 6 λsO=>
some (sO,Dx)) (
qI s7.2.2.2.1 0 λmN=>
ql mC mN λlL=>
jY .eql lL (iI 5) λv37=>
jw v37 (
jo s7.2.2.2.2.1 λuN=>
qI uN 6 λuA=>
ql mC uA λv40=>
qI s7.2.2.2.1 1 λpp=>
ql mC pp λpt=>
qI s7.2.2.2.1 7 λoh=>
q8 mC oh 3 λot=>
xy v40 pt 3 λs8=>
qn mC s8 ot 3 λRj=>
jf [(uU 0),(uU 0),(.bool false),(iI 0),(.bool false),(iI 0)] [] λuL=>
qn Rj s7.2.2.1 uL 6 λpu=>
q8 pu s7.2.2.1 6 λv49=>
some (v49,pu)) (
jo s7.2.2.2.2.1 λAY=>
qI AY 6 λv51=>
ql mC v51 λrz=>
qI s7.2.2.2.1 1 λv53=>
ql mC v53 λuM=>
xy rz uM 3 λrA=>
q8 mC rA 3 λnz=>
qI s7.2.2.2.1 4 λrB=>
q8 mC rB 3 λpz=>
kU [.b6 .int 0,.b6 .bool 1,.b6 .int 2] true nz pz λv59=>
jw v59 (
jf [(uU 0),(uU 0),(.bool false),(iI 0),(.bool false),(iI 0)] [] λCs=>
qn mC s7.2.2.1 Cs 6 λW5=>
q8 W5 s7.2.2.1 6 λsX=>
some (sX,W5)) (
jo s7.2.2.2.2.1 λnS=>
qI nS 6 λCt=>
ql mC Ct λpA=>
qI s7.2.2.2.1 1 λox=>
ql mC ox λsY=>
qI s7.2.2.2.1 7 λuB=>
q8 mC uB 3 λoy=>
xy pA sY 3 λv70=>
qn mC v70 oy 3 λIU=>
jf [(uU 0),(uU 0),(.bool false),(iI 0),(.bool false),(iI 0)] [(4,1,(.bool true))] λv72=>
qn IU s7.2.2.1 v72 6 λW6=>
q8 W6 s7.2.2.1 6 λoA=>
some (oA,W6))))))) λj9=>
xe v6 false (
qI v0 1 λv75=>
ql h3 v75 λv76=>
jo a0 λpw=>
qI pw 6 λrj=>
ql h3 rj λFQ=>
xi FQ λv80=>
jY .geq v76 v80 λBW=>
j9 (BW,v6,v2,v0,a0,()) h3) (
j9 (.undef,v6,v2,v0,a0,()) h3)
def W77 : WF :=tL S77
theorem W77_ok : eG Tryz.prog 77 W77 :=XN (pl :=P77) λ_ _ _ _=>by kernel_rfl
def P78 : Pl :=.z
def S78 : bn Tryz.prog P78 78 :=λ_ _ _ _=>.mk _
def P79 : Pl :=.z
def S79 : aI Tryz.prog P79 79 :=λ_ _ _=>.mk _
def P80 : Pl :=.z
def S80 : aI Tryz.prog P80 80 :=λ_ _ _=>.mk _
def P81 : Pl :=.z
def S81 : aI Tryz.prog P81 81 :=λ_ _ _=>.mk _
def P82 : Pl :=.z
def S82 : aI Tryz.prog P82 82 :=λ_ _ _=>.mk _
def P83 : Pl :=.z
def S83 : aI Tryz.prog P83 83 :=λ_ _ _=>.mk _
def P84 : Pl :=.z
def S84 : aI Tryz.prog P84 84 :=λ_ _ _=>.mk _
def P85 : Pl :=.z
def S85 : bn Tryz.prog P85 85 :=λ_ _ _ _=>.mk _
def P86 : Pl :=.z
def S86 : aI Tryz.prog P86 86 :=λ_ _ _=>.mk _
def P87 : Pl :=.z
def S87 : aI Tryz.prog P87 87 :=λ_ _ _=>.mk _
def P88 : Pl :=(.n none .z (.n none (.r [[8,6]]) .z))
def S88 : aI Tryz.prog P88 88 :=λ_ _ _=>.mk _
def P89 : Pl :=.z
def S89 : aI Tryz.prog P89 89 :=λ_ _ _=>.mk _
def P90 : Pl :=(.n none .z (.n none .z (.n none (.n none .z (.n none (.n (some [17,16,15,3]) .z .z) .z)) .z)))
def S90 (c : CV) (a0 : AV) (h : AH) : R :=
jo a0 λv0=>
qI v0 0 λv1=>
ql h v1 λv2=>
xi v2 λv3=>
QC h 9 [(.str [])] v3 v3 λv4 h5=>
jo a0 λv6=>
qI v6 0 λv7=>
ql h5 v7 λv8=>
xi v8 λv9=>
wN (σ :=rh) NN (λi13 bD bY d12=>
jY .lss bD.1 bD.2.1 λfM=>
jw fM (
xy bD.2.2.1 bD.1 1 λfG=>
ql bY fG λiF=>
jC c (.fn 143 [] []) [iF] bY λeQ tO=>
xy bD.2.2.2.1 bD.1 1 λlB=>
qn tO lB eQ 1 λfW=>
jY .add bD.1 (iI 1) λv21=>
i13 (v21,bD.2.1,bD.2.2.1,bD.2.2.2.1,()) fW d12) (
jC c (.fn 144 [] []) [bD.2.2.2.1,(.str [32])] bY λv22 oG=>
jR d12 oG λnD=>
some (v22,nD))) ((iI 0),v9,v8,v4,()) h5 []
def W90 : WF :=rZ S90
theorem W90_ok : eG Tryz.prog 90 W90 :=Jm (pl :=P90) λ_ _ _=>by kernel_rfl
def P91 : Pl :=(.n none .z (.n none (.r [[10,7]]) .z))
def S91 : aI Tryz.prog P91 91 :=λ_ _ _=>.mk _
def P92 : Pl :=.z
def S92 : aI Tryz.prog P92 92 :=λ_ _ _=>.mk _
def P93 : Pl :=(.n none .z (.n none .z (.n none .z (.n none .z (.n none .z (.n (some [2,1]) .z .z))))))
def S93 : aI Tryz.prog P93 93 :=λ_ _ _=>.mk _
def P94 : Pl :=(.n none .z (.n none (.r [[2]]) .z))
def S94 : aI Tryz.prog P94 94 :=λ_ _ _=>.mk _
def P95 : Pl :=.z
def S95 : bn Tryz.prog P95 95 :=λ_ _ _ _=>.mk _
def P96 : Pl :=.z
def S96 : aI Tryz.prog P96 96 :=λ_ _ _=>.mk _
def P97 : Pl :=(.n none .z (.n none (.n none (.r [[16,12,1]]) .z) (.n none .z (.n none (.n none .z (.n none (.n (some [21,20,19,4,1]) .z .z) .z)) (.n none .z (.n none (.r [[3,2]]) .z))))))
def S97 : aI Tryz.prog P97 97 :=λ_ _ _=>.mk _
def P98 : Pl :=(.n none .z (.n none .z (.n none .z (.n none .z (.n none (.n none .z (.n none (.n (some [27,26,6,5,1]) .z .z) .z)) (.n none (.n none .z (.n none (.n (some [37,36,35,6,5,1]) (.n none .z (.n none .z (.n none (.n (some [37,36,35,6,5,1]) .z .z) .z))) .z) .z)) (.n none (.n none .z (.n none (.n (some [57,56,55,6,5]) (.n none .z (.n none .z (.n none (.n (some [57,56,55,6,5]) .z .z) .z))) .z) .z)) .z)))))))
def S98 : aI Tryz.prog P98 98 :=λ_ _ _=>.mk _
def P99 : Pl :=.z
def S99 : Eb Tryz.prog P99 99 :=λ_ _=>.mk _
def P100 : Pl :=.z
def S100 : cD Tryz.prog P100 100 :=λ_ _ _ _ _=>.mk _
def P101 : Pl :=.z
def S101 : aI Tryz.prog P101 101 :=λ_ _ _=>.mk _
def P102 : Pl :=(.n none .z (.n none (.n none (.r [[22,18,1]]) .z) (.n none .z (.n none .z (.n none (.n none .z (.n none (.n (some [9,8,7,6,1]) (.n none .z (.n none (.n none (.n none .z (.n (some [10,9,8,7,6,1]) .z (.n none .z (.n none .z (.n none .z (.n none (.n none (.r [[76,73,11,10,9,8,7,6,1],[81,78,11,10,9,8,7,6,1],[84,81,78,11,10,9,8,7,6,1],[85,78,11,10,9,8,7,6,1],[90,87,11,10,9,8,7,6,1],[93,90,87,11,10,9,8,7,6,1],[94,87,11,10,9,8,7,6,1],[99,96,11,10,9,8,7,6,1],[102,99,96,11,10,9,8,7,6,1],[103,96,11,10,9,8,7,6,1]]) .z) (.n none .z (.n (some [9,8,7,6,1]) (.n (some [107,106,11,10,9,8,7,6,1]) .z (.n none .z (.n (some [120,106,11,10,9,8,7,6,1]) .z .z))) .z)))))))) .z) .z)) .z) .z)) (.n none .z (.n none (.n none .z (.n none (.n (some [12,8,7,1]) (.n none .z (.n none (.n (some [12,8,7,1]) (.n none .z (.n (some [13,12,8,7,1]) .z (.n none (.n none (.r [[189,186,13,12,8,7,1]]) .z) (.n none (.n none (.r [[207,197,13,12,8,7,1],[216,209,12,8,7,1],[221,216,209,12,8,7,1],[222,209,12,8,7,1]]) .z) .z)))) .z) .z)) .z) .z)) .z)))))))
def S102 : aI Tryz.prog P102 102 :=λ_ _ _=>.mk _
end
end Go.Proofs.YtpbpkcdebchbbaaGreatDoor
