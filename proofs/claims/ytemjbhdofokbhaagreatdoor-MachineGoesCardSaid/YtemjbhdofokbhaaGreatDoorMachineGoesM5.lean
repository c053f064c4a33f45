/- Lemmas for 'quietus/quietuslaw28.MachineGoes': An attempt: by the program: what it is told, what it does next;A new memory, a new attempt: by the program;what an attempt tells;What rests in limbo;a ... No condition. -/
import Derived.Test.YtemjbhdofokbhaaGreatDoorMachineGoesM4
import Derived.Test.YtemjbhdofokbhaaGreatDoorMachineGoesM1
import Derived.Test.YtemjbhdofokbhaaGreatDoorMachineGoesM2
namespace Go.Proofs.YtemjbhdofokbhaaGreatDoor
open Go Go.Ae
set_option maxRecDepth 100000
section
variable {g h:AH} {L R:List SP}
section
variable {n a:Nat} {x:qf} {q:A8}
theorem aU.out {st st':Int} {f:wJ} {e:wO} {c:Option q9} {iv fv ev cv:AV} (h7:st'=7∨st'=8) (H:HS g h (aU st f e c iv fv ev cv::R)):HS g h (aU st' f e c iv fv ev cv::R):=by
 cases c with
 |none=>obtain⟨q,H⟩:=aU.FX rfl H;exact aU.A9 omQ rfl q H
 |some d=>obtain⟨b,q,H⟩:=aU.nX rfl H;exact aU.tF rfl ⟨q.1,λh=>by omega⟩ H
theorem Ma (hn:24≤n) (O:zG x) (h3:3≤x.state) (h6:x.state≤6) (H:HS g h (aL a x::R)):aH n 88 [.ptr a 0] h λ_ h'=>HS g h' (aL a (q8 x)::R):=by
 (refine qA rfl omQ λk hk=>?_;show wp (S88 (callT tab qj k) _ _) _;unfold S88;try simp only[iI,iZ])
 obtain⟨q,H1⟩:=aL.E H;have fin:∀{K2:AV→AH→Go.Ae.R} {Q:AV→AH→Prop},wp (K2 (.int .i64 (zN x).1) h) Q→wp (vV (callT tab qj k) [(111,60),(158,177),(159,182),(160,102),(224,131)] q.iv [] h K2) Q:=λ{K2 Q} w=>by
  unfold zN at w;by_cases c3:x.state=3
  ·rw[iJ c3]at w;obtain⟨b,e,H2⟩:=aU.tE c3 (O.c0 omQ) (H1.aM e_4);rw[e.2.2];refine QR rfl (Ve omQ H2 .here) ?_;rintro _ _ ⟨rfl,rfl⟩;exact w
  ·rw[iQ c3]at w;by_cases c6:x.state=6
   ·rw[iJ c6]at w
    split at w
    ·rename_i c hc;obtain⟨b,e,H2⟩:=aU.nX hc (H1.aM e_4);rw[e.2 c6];refine QR rfl (Vh omQ H2) ?_;rintro _ _ ⟨rfl,rfl⟩;exact w
    ·rename_i hc;exact absurd hc (O.c6 c6)
   ·rw[iQ c6]at w;obtain⟨b,e,H2⟩:=aU.rF omQ (O.c0 omQ) (H1.aM e_4);obtain⟨sv,H3⟩:=cC.E H2;rw[e.2.2];refine QR rfl (qWh omQ H3 .here) ?_;rintro _ _ ⟨rfl,rfl⟩;exact w
 have ch:∀{K2:AV→AH→Go.Ae.R} {Q:AV→AH→Prop},wp (K2 (.int .i64 (zN x).2) h) Q→wp (vV (callT tab qj k) [(111,89),(158,368),(159,376),(160,379),(224,371)] q.iv [] h K2) Q:=λ{K2 Q} w=>by
  unfold zN at w;by_cases c3:x.state=3
  ·rw[iJ c3]at w;obtain⟨b,e,H2⟩:=aU.tE c3 (O.c0 omQ) (H1.aM e_4);rw[e.2.2];refine QR rfl (jKu omQ H2 .here) ?_;rintro _ _ ⟨rfl,rfl⟩;exact w
  ·rw[iQ c3]at w;by_cases c6:x.state=6
   ·rw[iJ c6]at w
    split at w
    ·rename_i c hc;obtain⟨b,e,H2⟩:=aU.nX hc (H1.aM e_4);rw[e.2 c6];refine QR rfl (jVc omQ H2) ?_;rintro _ _ ⟨rfl,rfl⟩;exact w
    ·rename_i hc;exact absurd hc (O.c6 c6)
   ·rw[iQ c6]at w;obtain⟨b,e,H2⟩:=aU.rF omQ (O.c0 omQ) (H1.aM e_4);obtain⟨sv,H3⟩:=cC.E H2;rw[e.2.2];refine QR rfl (jVL omQ H3 .here) ?_;rintro _ _ ⟨rfl,rfl⟩;exact w
 refine qG (qQ (qK H1 .here rfl (fin ?_)));have OL:=ZS O h3 h6;show wp _ λ_ h'=>HS g h' (aL a (jV (gY x))::R);refine zv [] (λs h'=>s=(.ptr a 0,())∧HS g h' (aL a (gY x)::R)) (λj hj=>?_) ?_
 rotate_left
 ·rintro _ h2 ⟨rfl,H2⟩;refine qW (Ya omQ OL.c H2) ?_;rintro _ h3 ⟨rfl,H3⟩;unfold jV;cases hw:ql (gY x)with
  |false=>exact qJ (qx (qY H3))
  |true=>
   refine qZ ?_;have ph:∃c,(gY x).c=some c:=by
    unfold ql at hw;grind
   obtain⟨c,hc⟩:=ph;obtain⟨q2,H4⟩:=aL.E H3;obtain⟨b,e,H5⟩:=aU.nX hc (H4.aM e_4);refine qG (qQ (qK H4 .here (x:=.ptr b 0) (by rw[← e.1];rfl) ?_));refine qW (qq5 omQ (OL.c c hc).now H5) ?_;rintro _ _ ⟨rfl,rfl⟩;refine qG (qQ ?_);refine qw H4 .here ⟨rfl,rfl⟩ (by simp[xl]) λh5 H6=>qx (qY ?_);rw[iJ rfl];have H7:HS g h5 (qk a (xl { gY x with ad:=JU c } q2)::cN q2.vb (gY x).aN q2.rv q2.bv q2.gv::aj q2.vb (gY x).v::cB q2.db (gY x).r::aU (gY x).state (gY x).f (gY x).e (gY x).c q2.iv q2.fv q2.ev q2.cv::R):=H6;grind[aL.I]
 generalize hL:gY x=Y at*;unfold gY at hL;by_cases c0:(zN x).1=0
 ·rw[iJ c0]at hL;subst hL;exact qz c0 (qZ (hj _ _ ⟨rfl,H⟩))
 rw[iQ c0]at hL;refine qV c0 (qJ ?_);by_cases c5:(zN x).1=5
 ·rw[iJ c5]at hL;subst hL;refine qz c5 (qZ ?_);refine qG (qQ (qK H1 .here rfl (ch ?_)));refine qW (Je omQ H1) λ_ h2 H2=>hj _ _ ⟨rfl,aL.I (q:=q) ?_⟩;have H3:=aU.out (st':=7) (.inl rfl) (H2.aM e_4);exact H3.pk [1,1,1,1,0] 0
 ·rw[iQ c5]at hL;subst hL;refine qV c5 (qJ ?_);exact qW (qzn omQ O h3 h6 H) λ_ h2 H2=>hj _ _ ⟨rfl,H2⟩
theorem qwH {an:cE} (hn:26≤n) (O:zG x) (ha:vB an) (H:HS g h (aL a x::R)):aH n 59 [.ptr a 0,.agg (xi an)] h λ_ h'=>HS g h' (aL a (qL x an)::R):=by
 (refine qA rfl omQ λk hk=>?_;show wp (S59 (callT tab qj k) _ _ _) _;unfold S59;try simp only[iI,iZ])
 have cd:=O.st;obtain⟨q,H0⟩:=aL.E H;refine qM H0 rfl λb0 h1 H1=>?_;have H1:HS g h1 (qk b0 (xi an)::Co a x q R):=H1;clear H H0;generalize hA:qL x an=A;unfold qL at hA;refine qG (qQ (qK H1 e_1 rfl ?_));by_cases c8:x.state=8
 ·rw[iJ c8]at hA;subst hA;exact qz c8 (qZ (qY (aL.I H1.drop)))
 rw[iQ c8]at hA;refine qV c8 (qJ ?_);refine qQ (qK H1 .here (x:=.int .i64 an.err) rfl ?_);by_cases ce:an.err=0
 rotate_left
 ·rw[iJ ce]at hA;subst hA;refine jg ce (qZ ?_);refine qQ (qK H1 (b:=b0) .here (x:=.int .i64 an.err) rfl ?_);refine qW (Je omQ (H1.aM e_1)) λ_ h2 H2=>?_;refine qG (qQ ?_);refine qw H2 (b:=a) .here ⟨rfl,rfl⟩ (by simp[xl]) λh3 H3=>qY (aL.I (q:=q) ?_);have H4:=aU.out (st':=8) (.inr rfl) (H3.aM e_5);exact H4.pk [1,2,2,2,0] 1
 rw[iQ (λh=>h ce)]at hA;refine jB ce (qJ ?_);refine qG (qQ (qK H1 (b:=a) e_1 rfl ?_));refine zv [] (λ_ h'=>HS g h' (aL a A::R)) (λj hj=>?_) λ_ h' H'=>qx (qY H');by_cases c0:x.state=0
 ·rw[iJ c0]at hA;subst hA;refine qz c0 (qZ ?_);refine qG (qQ ?_);refine qw H1 (b:=a) e_1 ⟨rfl,rfl⟩ (by simp[xl]) λh2 H2=>hj _ _ (aL.I (q:=q) ?_);obtain⟨e,H3⟩:=aU.FX (O.c0 omQ) (H2.aM e_5);have H4:=aU.A9 (st:=1) (f:=x.f) (e:=x.e) (c:=x.c) (iv:=q.iv) (fv:=q.fv) (ev:=q.ev) od (O.c0 omQ) e H3;exact H4.pk [1,2,2,2,0] 1
 rw[iQ c0]at hA;refine qV c0 (qJ ?_);by_cases c1:x.state=1
 ·rw[iJ c1]at hA;subst hA;refine qz c1 (qZ ?_);refine qX ?_
  try dsimp only
  refine qQ (qK H1 (b:=b0) .here (x:=.int .u64 an.word) rfl ?_);refine qQ (qK H1 .here rfl ?_);refine qG (qQ ?_);refine qw H1 e_1 ⟨rfl,rfl⟩ (by simp[xl]) λh2 H2=>?_;refine qG (qQ ?_);refine qw H2 .here ⟨rfl,rfl⟩ (by simp[xl]) λh3 H3=>?_;refine qG (qQ ?_);refine qw H3 .here ⟨rfl,rfl⟩ (by simp[xl]) λh4 H4=>?_;refine qT H2 e_1 rfl H3 e_1 rfl (HS.lt H1 .here)<|qT H1 .here rfl H2 e_1 rfl (HS.lt H1 .here)<|qT H1 .here rfl H2 e_1 rfl (HS.lt H1 .here)<|qG (qQ ?_);refine qw H4 (b:=a) .here ⟨rfl,rfl⟩ (by simp[xl]) λh5 H5=>hj _ _ (aL.I (q:=q) ?_);obtain⟨e,H6⟩:=aU.FX (O.c0 omQ) (H5.aM e_5);have H7:=aU.A9 (st:=2) (f:=x.f) (e:=x.e) (c:=x.c) (iv:=q.iv) (fv:=q.fv) (ev:=q.ev) od (O.c0 omQ) e H6;exact H7.pk [1,2,2,2,0] 1
 rw[iQ c1]at hA;refine qV c1 (qJ ?_);by_cases c2:x.state=2
 ·rw[iJ c2]at hA;subst hA;refine qz c2 (qZ ?_);obtain⟨e,H3⟩:=aU.FX (O.c0 omQ) (H1.aM e_5);exact qW (qXP (q:=q) (R:=R) omQ O.b (O.aN.same λ_=>by omega) (O.c0 omQ) e (H3.pk [1,1,1,1] 1)) λ_ h4 H4=>hj _ _ H4
 rw[iQ c2]at hA;refine qV c2 (qJ ?_);by_cases c7:x.state=7
 ·rw[iJ c7]at hA;subst hA;refine qz c7 (qZ ?_);refine qG (qQ ?_);refine qw H1 (b:=a) e_1 ⟨rfl,rfl⟩ (by simp[xl]) λh2 H2=>hj _ _ (aL.I (q:=q) ?_);have H3:=aU.out (st':=8) (.inr rfl) (H2.aM e_5);exact H3.pk [1,2,2,2,0] 1
 rw[iQ c7]at hA;refine qV c7 (qJ ?_);refine qG (qQ (qK H1 (b:=a) e_1 rfl ?_));refine qD H1 (b:=b0) (off:=0) .here rfl omQ rfl ?_;have Ds:∀{y:qf},y.state=x.state→3≤y.state∧y.state≤6:=λh=>by omega
 by_cases c3:x.state=3
 ·rw[iJ c3]at hA;subst hA;obtain⟨b,e,H2⟩:=aU.tE c3 (O.c0 omQ) (H1.aM e_5);rw[e.2.2];refine QR rfl (qkm omQ (O.f c3).1 H2) λ_ h3 H3=>?_;have H4:=aU.u0 (st:=x.state) (e:=x.e) (ev:=q.ev) c3 (O.c0 omQ) e H3;have O':zG { x with f:=jP x.f an }:=⟨O.set,O.aJ,O.sz,O.fr,O.r,O.aN,O.st,λh=>⟨Kv (O.f h).1,XP (O.f h).2 ha⟩,O.aC,O.e,O.c,O.c0,O.c6⟩;exact qW (Ma omQ O' (Ds rfl).1 (Ds rfl).2 (aL.I (H4.pk [2,2,2,2,0] 1))) λ_ h5 H5=>hj _ _ H5
 rw[iQ c3]at hA;by_cases c6:x.state=6
 ·rw[iJ c6]at hA;subst hA;cases hc:x.c with
  |none=>exact absurd hc (O.c6 c6)
  |some c=>obtain⟨b,e,H2⟩:=aU.nX hc (H1.aM e_5);rw[e.2 c6];have Oc:=O.c c hc;refine QR rfl (qya omQ Oc H2) λ_ h3 H3=>?_;have H4:=aU.tF (st:=x.state) (f:=x.f) (e:=x.e) (fv:=q.fv) (ev:=q.ev) (c:=some (qn c an)) rfl e H3;have O':zG { x with c:=some (qn c an) }:=⟨O.set,O.aJ,O.sz,O.fr,O.r,O.aN,O.st,O.f,O.aC,O.e,λc' h=>by grind[yP],λh=>absurd h (by grind),λ_ h=>by grind⟩;rw[hc]at hj;exact qW (Ma omQ O' (Ds rfl).1 (Ds rfl).2 (aL.I (H4.pk [2,2,2,2,0] 1))) λ_ h5 H5=>hj _ _ H5
 rw[iQ c6]at hA;subst hA;obtain⟨b,e,H2⟩:=aU.rF omQ (O.c0 omQ) (H1.aM e_5);rw[e.2.2];refine QR rfl (qk2 omQ (O.e omQ omQ) H2) λ_ h3 H3=>?_;have H4:=aU.u6 (st:=x.state) (f:=x.f) (fv:=q.fv) omQ (O.c0 omQ) e H3;have O':zG { x with e:=zw x.e an }:=⟨O.set,O.aJ,O.sz,O.fr,O.r,O.aN,O.st,O.f,O.aC,λh1 h2=>KC (O.e h1 h2),O.c,O.c0,O.c6⟩;exact qW (Ma omQ O' (Ds rfl).1 (Ds rfl).2 (aL.I (H4.pk [2,2,2,2,0] 1))) λ_ h5 H5=>hj _ _ H5
theorem qv1 (hn:4≤n) (O:zG x) (H:HS g h (aL a x::R)):aH n 56 [.ptr a 0] h λr h'=>r=ua (jd x)∧HS g h' (aL a x::R):=by
 (refine qA rfl omQ λk hk=>?_;show wp (S56 (callT tab qj k) _ _) _;unfold S56;try simp only[iI,uU,iZ])
 have cd:=O.st;obtain⟨q,H0⟩:=aL.E H;refine qM H0 rfl λb0 h1 H1=>?_;refine qG (qQ (qK H1 e_1 rfl ?_));unfold jd;have Cp:∀{o:dG} {h':AH},HS g h' (qk b0 (vK o)::Co a x q R)→wp (zp h' (.ptr b0 0) 10 λv=>some (.cn [v,.bool true],h')) λr h'=>r=ua (some o)∧HS g h' (aL a x::R):=λ{o h'} H'=>by
  refine qD H' .here rfl omQ rfl<|qY ⟨rfl,aL.I H'.drop⟩
 by_cases c0:x.state=0
 ·rw[iJ c0];refine qz c0 (qZ ?_);refine qG (qQ (qK H1 e_1 rfl ?_));refine qI rfl<|qe H1 .here rfl (by simp) rfl λh3 H3=>Cp H3
 rw[iQ c0];refine qV c0 (qJ ?_);by_cases c1:x.state=1
 ·rw[iJ c1];refine qz c1 (qZ ?_);refine qI rfl<|qe H1 .here rfl (by simp) rfl λh3 H3=>Cp H3
 rw[iQ c1];refine qV c1 (qJ ?_);by_cases c2:x.state=2
 ·rw[iJ c2];refine qz c2 (qZ ?_);refine qG (qQ (qK H1 e_1 rfl ?_));refine qG (qQ (qK H1 e_1 rfl ?_));refine I5 (qI rfl ?_);exact qe H1 .here rfl (by simp) rfl λh3 H3=>Cp H3
 rw[iQ c2];refine qV c2 (qJ ?_);by_cases c7:x.state=7
 ·rw[iJ c7];refine qz c7 (qZ ?_);refine qG (qQ (qK H1 e_1 rfl ?_));refine qI rfl<|qe H1 .here rfl (by simp) rfl λh3 H3=>Cp H3
 rw[iQ c7];refine qV c7 (qJ ?_);by_cases c8:x.state=8
 ·rw[iJ c8];refine qz c8 (qZ ?_);refine qI rfl<|qe H1 .here rfl (by simp) rfl λh3 H3=>?_;refine qD H3 .here rfl omQ rfl<|qY ⟨rfl,aL.I H3.drop⟩
 rw[iQ c8];refine qV c8 (qJ ?_);refine qG (qQ (qK H1 e_1 rfl ?_));have TT:∀{o:Option dG} {h':AH},HS g h' (qk b0 (vK (bz 0 0 0))::Co a x q R)→wp (xC (ua o) 0 λv=>xC (ua o) 1 λv2=>zV h' (.ptr b0 0) v 10 λh2=>zp h2 (.ptr b0 0) 10 λv3=>some (.cn [v3,v2],h2)) λr h'=>r=ua o∧HS g h' (aL a x::R):=λ{o h'} H'=>by
  refine qy rfl (qy rfl ?_);refine qe H' .here rfl (by trivial) rfl λh3 H3=>?_;refine qD H3 .here rfl omQ rfl<|qY ⟨rfl,aL.I H3.drop⟩
 by_cases c3:x.state=3
 ·rw[iJ c3];obtain⟨b,e,H2⟩:=aU.tE c3 (O.c0 omQ) (H1.aM e_5);rw[e.2.2];refine QR rfl (qxf omQ H2) ?_;rintro _ h3 ⟨rfl,H3⟩;have H4:=aU.u0 (st:=x.state) (e:=x.e) (ev:=q.ev) c3 (O.c0 omQ) e H3;exact TT (H4.pk [1,1,1,1,1,0] 0)
 rw[iQ c3];by_cases c6:x.state=6
 ·rw[iJ c6];cases hc:x.c with
  |none=>exact absurd hc (O.c6 c6)
  |some c=>obtain⟨b,e,H2⟩:=aU.nX hc (H1.aM e_5);rw[e.2 c6];refine QR rfl (qx9 omQ (O.c c hc) H2) ?_;rintro _ h3 ⟨rfl,H3⟩;have H4:=aU.tF (st:=x.state) (f:=x.f) (e:=x.e) (fv:=q.fv) (ev:=q.ev) hc e H3;exact TT (H4.pk [1,1,1,1,1,0] 0)
 rw[iQ c6];obtain⟨b,e,H2⟩:=aU.rF omQ (O.c0 omQ) (H1.aM e_5);rw[e.2.2];refine QR rfl (qxt omQ (O.e omQ omQ) H2) ?_;rintro _ h3 ⟨rfl,H3⟩;have H4:=aU.u6 (st:=x.state) (f:=x.f) (fv:=q.fv) omQ (O.c0 omQ) e H3;exact TT (H4.pk [1,1,1,1,1,0] 0)
end
end
section
variable {g h:AH} {L R:List SP}
section
variable {n:Nat} {s S:jz}
abbrev J9 (S:jz):List AV:=[.int .i64 S.words,.int .i64 S.ae,.int .i64 S.wide,.int .i64 S.ag,.int .u64 S.start]
abbrev vR (S:jz):List AV:=[.int .i64 S.words,.int .i64 S.ae,.int .i64 S.wide,.int .i64 S.ag,.int .u64 S.start,.int .i64 S.af,.int .i64 S.writes,.int .i64 S.fuel]
theorem qJ9 (hn:1≤n) (H:HS g h R):aH n 44 [.agg (J9 s)] h λr h'=>r=.agg (J9 (jO s))∧HS g h' R:=by
 refine aG rfl omQ λk hk=>?_;unfold S44;try simp only[iZ]
 refine qM H rfl λb0 h1 H1=>?_;refine qM H1 rfl λb1 h2 H2=>?_;refine qQ (qK H2 e_1 rfl (zi (xR ?_)));refine qQ (qK H2 e_1 rfl (zi (xR ?_)));refine qQ (qK H2 e_1 rfl (zi (xR ?_)));refine qQ (qK H2 e_1 rfl (zi (xR ?_)));refine qQ (qK H2 e_1 rfl (zi ?_));refine qI rfl<|qe H2 .here rfl (by simp) rfl λh3 H3=>?_;refine qD H3 .here rfl omQ rfl<|qY ⟨rfl,H3.drop.drop⟩
theorem Nx (hn:2≤n) (H:HS g h R):aH n 24 [.agg (vR s)] h λr h'=>r=.agg (vR (jO s))∧HS g h' R:=by
 refine aG rfl omQ λk hk=>?_;unfold S24;try simp only[iZ]
 refine qM H rfl λb0 h1 H1=>?_;refine qM H1 rfl λb1 h2 H2=>?_;refine qX ?_
 try dsimp only
 refine qQ (qD H2 e_1 rfl omQ rfl ?_);refine qW (qJ9 omQ H2) ?_;rintro _ h3 ⟨rfl,H3⟩;refine qQ (qK H3 e_1 rfl (zi (xR ?_)));refine qQ (qK H3 e_1 rfl (zi (xR ?_)));refine qQ (qK H3 e_1 rfl (zi (xR ?_)));refine qI rfl<|qe H3 .here rfl (by simp) rfl λh4 H4=>?_;refine qT H2 e_1 rfl H3 e_1 rfl (HS.lt H2 e_1)<|qT H2 e_1 rfl H3 e_1 rfl (HS.lt H2 e_1)<|qT H2 e_1 rfl H3 e_1 rfl (HS.lt H2 e_1)<|qD H4 .here rfl omQ rfl<|qY ⟨rfl,H4.drop.drop⟩
theorem jZF {w:Int} (hn:1≤n) (hw:32≤w∧w≤256) (H:HS g h R):aH n 45 [.int .i64 w] h λr h'=>∃b v,r=.ptr b 0∧HS g h' (qk b [v]::aa 22 1 w.toNat v ((List.replicate w.toNat (0:Int)).map (.int .u64))::R):=by
 refine aG rfl omQ λk hk=>?_;unfold S45;try simp only[iZ]
 refine zi (xR ?_);rw[show max ((32:Nat):Int) (min w ((256:Nat):Int))=((w.toNat:Nat):Int) by omega];refine Ye H omQ λv h1 H1=>?_;rw[show List.replicate w.toNat (AV.int .u64 ((0:Nat):Int))=(List.replicate w.toNat (0:Int)).map (.int .u64) by simp]at H1;have o1:=H1.one .here;refine qI (by simp only[vL,o1.1];rfl)<|qM H1 (by simp only[qt,List.all_cons,o1.2];rfl) λb h2 H2=>qY ⟨b,v,rfl,H2⟩
theorem jQn {w:Int} (hn:1≤n) (hw:1≤w∧w≤4) (H:HS g h R):aH n 48 [.int .i64 w] h λr h'=>∃b v,r=.ptr b 0∧HS g h' (qk b [v]::aa 22 1 w.toNat v ((List.replicate w.toNat (0:Int)).map (.int .u64))::R):=by
 refine aG rfl omQ λk hk=>?_;unfold S48;try simp only[iZ]
 refine zi (xR ?_);rw[show max ((1:Nat):Int) (min w ((4:Nat):Int))=((w.toNat:Nat):Int) by omega];refine Ye H omQ λv h1 H1=>?_;rw[show List.replicate w.toNat (AV.int .u64 ((0:Nat):Int))=(List.replicate w.toNat (0:Int)).map (.int .u64) by simp]at H1;have o1:=H1.one .here;refine qI (by simp only[vL,o1.1];rfl)<|qM H1 (by simp only[qt,List.all_cons,o1.2];rfl) λb h2 H2=>qY ⟨b,v,rfl,H2⟩
theorem qVh:∀k:Nat,gH [AV.int .u64 ((0:Nat):Int),.bool false,.int .i64 ((0:Nat):Int)] k=(List.replicate k bK).flatMap zh:=by
 intro k
 induction k with
 |zero=>rfl
 |succ k ih=>rw[List.replicate_succ,List.flatMap_cons,← ih];rfl
theorem jXR {w z:Int} (hn:2≤n) (hw:1≤w∧w≤16) (hz:1≤z∧z≤16) (H:HS g h R):aH n 46 [.int .i64 w,.int .i64 z] h λr h'=>∃b v,r=.ptr b 0∧HS g h' (qk b [v,.int .i64 z]::aa 70 3 w.toNat v ((List.replicate w.toNat bK).flatMap zh)::R):=by
 refine bw rfl omQ λk hk=>?_;unfold S46;try simp only[iZ]
 refine qW (V5 omQ) ?_;rintro _ _ ⟨rfl,rfl⟩;rw[show max 1 (min w ((16:Nat):Int))=((w.toNat:Nat):Int) by omega];refine Km (ln:=w.toNat) (cp:=w.toNat) H rfl (Nat.le_refl _) omQ λv h1 H1=>?_;rw[List.take_of_length_le (by simp[Qg]),qVh]at H1;refine qW (V5 omQ) ?_;rintro _ _ ⟨rfl,rfl⟩;rw[show max 1 (min z ((16:Nat):Int))=z by omega];have o1:=H1.one .here;refine qI (by simp only[vL,o1.1];rfl)<|qM H1 (by simp only[qt,List.all_cons,o1.2];rfl) λb h2 H2=>qY ⟨b,v,rfl,H2⟩
theorem jJB {w:Int} (hn:1≤n) (hw:w≤4611686018427387903) (H:HS g h R):aH n 47 [.int .u64 w] h λr h'=>∃b,r=.ptr b 0∧HS g h' (qk b [.int .u64 w]::R):=by
 refine aG rfl omQ λk hk=>?_;unfold S47;try simp only[iZ]
 refine zi ?_;rw[show min w ((4611686018427387903:Nat):Int)=w by omega];refine qI rfl<|qM H rfl λb h2 H2=>qY ⟨b,rfl,H2⟩
theorem jZM (hn:4≤n) (hs:0≤s.start) (H:HS g h R):aH n 25 [.agg (J9 s)] h λr h'=>∃p,r=.ptr p 0∧HS g h' (cM p (jO s) (vF (jO s))::R):=by
 refine aG rfl omQ λk hk=>?_;unfold S25;try simp only[iZ]
 have O:=gW hs;refine qM H rfl λb0 h1 H1=>?_;refine qD H1 .here rfl omQ rfl<|qW (qJ9 omQ H1) ?_;rintro _ h2 ⟨rfl,H2⟩;refine qe H2 .here rfl (by simp) rfl λh3 H3=>?_;generalize jO s=S at*;refine qX ?_
 try dsimp only
 refine qD H3 .here rfl omQ rfl<|qQ (qK H3 .here rfl ?_);refine qW (jZF omQ O.words H3) ?_;rintro _ h4 ⟨hb,wv,rfl,H4⟩;refine qQ (qK H4 e_2 rfl ?_);refine qQ (qK H4 e_2 rfl ?_);refine qW (jXR omQ O.ae O.wide H4) ?_;rintro _ h5 ⟨tb,lv,rfl,H5⟩;refine qQ (qK H5 e_4 rfl ?_);refine qW (jJB omQ O.start.2 H5) ?_;rintro _ h6 ⟨cb,rfl,H6⟩;refine qQ (qK H6 e_5 rfl ?_);refine qW (jQn omQ O.ag H6) ?_;rintro _ h7 ⟨sb,sv,rfl,H7⟩;refine qI rfl<|qM H7 rfl λp h8 H8=>?_;refine qT H5 e_4 rfl H6 e_5 rfl (HS.lt H3 .here)<|qT H4 e_2 rfl H5 e_4 rfl (HS.lt H3 .here)<|qT H3 .here rfl H4 e_2 rfl (HS.lt H3 .here)<|qT H4 e_2 rfl H5 e_4 rfl (HS.lt H3 .here)<|qT H3 .here rfl H4 e_2 rfl (HS.lt H3 .here)<|qT H3 .here rfl H4 e_2 rfl (HS.lt H3 .here)<|qT H3 .here rfl H4 e_2 rfl (HS.lt H3 .here)<|xG H6 e_5 rfl H7 e_7 rfl rfl omQ (HS.lt H3 .here)<|xG H5 e_4 rfl H6 e_5 rfl rfl omQ (HS.lt H3 .here)<|xG H4 e_2 rfl H5 e_4 rfl rfl omQ (HS.lt H3 .here)<|xG H3 .here rfl H4 e_2 rfl rfl omQ (HS.lt H3 .here)<|qY ⟨p,rfl,cM.I (hb:=hb) (tb:=tb) (cb:=cb) (sb:=sb) (wv:=wv) (lv:=lv) (sv:=sv) ?_⟩;unfold Cd vF;simp only[List.length_replicate];exact H8.pk [0,5,5,3,3,2,0,0] 1
theorem Ok {m:Nat} {e:TypeId} {v:AV} {xs:List AV} {R2:List SP} (hn:1≤n) (H:HS g h L) (s:bp L (aa e 1 m v xs) R2) (ha:qt xs=true) (hm:m≤1000000) :
  aH n 104 [v] h λr h'=>HS g h' (aa 3 1 m r xs::L):=by
 refine aG rfl omQ λk hk=>?_;unfold S104;try simp only[iZ]
 refine K8 H s (λh1 h2=>?_) (qJ ?_)
 ·subst h1 h2;obtain rfl:xs=[]:=iA (by simpa using H.ed s);exact qZ (qY H.ap)
 ·refine qh (l:=[]) H rfl rfl rfl rfl λv2 h2 H2=>?_;refine zX H2 (H2.sl (.there s)) omQ omQ ha λv3 h3 H3=>?_;rw[Nat.zero_add,List.nil_append]at H3;exact qY H3
theorem Ny {me:Int} (hn:6≤n) (_:0≤s.start) (H:HS g h R):aH n 113 [.int .i64 me,.agg (vR s)] h λr h'=>∃a vb db,r=.ptr a 0∧
  HS g h' (qk a (xl (NZ me (jO s) (.aE [] 0)) ⟨.ba,.ap,.dt,.ba,.ba,.ba,0,vb,db⟩)::cB db []::aj vb (uP (jO s).words (jO s).writes)::R):=by
 refine bw rfl omQ λk hk=>?_;unfold S113;try simp only[iZ]
 refine qM H rfl λb0 h1 H1=>?_;refine qD H1 .here rfl omQ rfl<|qW (Nx omQ H1) ?_;rintro _ h2 ⟨rfl,H2⟩;refine qe H2 .here rfl (by simp) rfl λh3 H3=>?_;generalize jO s=S at*;refine qX ?_
 try dsimp only
 refine qD H3 .here rfl omQ rfl<|qQ (qo (qK H3 .here rfl ?_));refine qQ (qK H3 .here rfl ?_);refine qW (jXI omQ H3) ?_;rintro _ h4 ⟨vb,rfl,H4⟩;refine qW (jJs omQ H4) ?_;rintro _ h5 ⟨db,rfl,H5⟩;refine qI rfl<|qM H5 rfl λa h6 H6=>?_;refine xG H4 e_1 rfl H5 e_2 rfl rfl omQ (HS.lt H3 .here)<|xG H3 .here rfl H4 e_1 rfl rfl omQ (HS.lt H3 .here)<|qY ⟨a,vb,db,rfl,H6.pk [0,0,0] 1⟩
theorem jQo {me:Int} {l:List qR} {sv:AV} (hn:10≤n) (hs:0≤s.start) (hc:(xO l).2=0) (S:Rd g R 5 l.length sv (l.flatMap jM)) (H:HS g h R) :
  aH n 85 [.int .i64 me,.agg (vR s),.agg [sv]] h λr h'=>∃a,r=.ptr a 0∧HS g h' (aL a (Qm me s l)::R):=by
 refine cY rfl omQ λk hk=>?_;unfold S85;try simp only
 have hle:=(U1 hc).le;refine qM H rfl λb0 h1 H1=>?_;refine qM H1 (gw (Jh (S.sl H))) λb1 h2 H2=>?_;refine qD H2 e_1 rfl omQ rfl<|qW (Ny omQ hs H2) ?_;rintro _ h3 ⟨a,vb,db,rfl,H3⟩;refine qD H3 e_3 rfl omQ rfl<|qG (qQ (qK H3 .here rfl ?_));refine qG (qQ (qo (qK H3 .here rfl ?_)));refine qW (jZl omQ H3 S.more.more.more.more.more omQ) ?_;rintro _ h4 ⟨ib,rfl,H4⟩;refine qG (qQ ?_);refine qw H4 e_1 ⟨rfl,rfl⟩ (by simp[xl]) λh5 H5=>qY ⟨a,rfl,?_⟩;have hm:Mw l=qU l:=by simp_all[Mw]
 rw[hm,hc]at H5;refine aL.I (q:=⟨.ptr ib 0,.ap,.dt,.ba,.ba,.ba,0,vb,db⟩) ?_;have H6:=cN.PI (p:=⟨l,VL,0,0,YP (jO s).fuel⟩) ⟨rfl,rfl,rfl⟩ (H5.aM e_1);have H7:=aU.A9 (st:=0) (f:=A0 0 0 0 0 0) (e:=VR 0 0 []) (c:=none) (iv:=.dt) (fv:=.ba) (ev:=.ba) od rfl rfl H6;exact H7.pk [2,1,2,1,0] 2
theorem qjN {me:Int} {bs:List Int} {e:TypeId} {sv:AV} {R2:List SP} (hn:8≤n) (hs:0≤s.start) (hb:bs.length≤1000000) (H:HS g h L) (S:bp L (aa e 1 bs.length sv (bs.map (.int .i64))) R2) :
  aH n 84 [.int .i64 me,.agg (vR s),sv] h λr h'=>∃a,r=.ptr a 0∧HS g h' (aL a (QZ me s bs)::L):=by
 refine cY rfl omQ λk hk=>?_;unfold S84;try simp only
 refine qM H rfl λb0 h1 H1=>?_;refine qD H1 .here rfl omQ rfl<|qW (Ny omQ hs H1) ?_;rintro _ h3 ⟨a,vb,db,rfl,H3⟩;refine qW (Ok omQ H3 (.there (.there (.there (.there S)))) (SW (λ_=>rfl) _) hb) λbv h4 H4=>?_;have o4:=H4.one .here;refine qG (qQ ?_);refine qw H4 e_1 o4 (by simp[xl]) λh5 H5=>qY ⟨a,rfl,?_⟩;refine aL.I (q:=⟨.ba,bv,.dt,.ba,.ba,.ba,0,vb,db⟩) ?_;have H6:=cN.SI (vb:=vb) (k:=0) (rv:=.ba) (gv:=0) ⟨rfl,rfl⟩ (H5.aM e_1);have H7:=aU.A9 (st:=0) (f:=A0 0 0 0 0 0) (e:=VR 0 0 []) (c:=none) (iv:=.dt) (fv:=.ba) (ev:=.ba) od rfl rfl H6;exact H7.pk [2,1,2,1,0] 1
section
variable {a:Nat} {x:qf} {q:A8}
theorem qwO (hn:3≤n) (O:zG x) (H:HS g h (aL a x::R)):aH n 64 [.ptr a 0] h λr h'=>HS g h' (aa 129 2 x.r.length r (x.r.flatMap gk)::aL a x::R):=by
 refine aG rfl omQ λk hk=>?_;unfold S64;try simp only
 obtain⟨q,H1⟩:=aL.E H;have hr:=O.r;refine qG (qQ (qK H1 .here rfl ?_));refine qW (SY omQ omQ (H1.aM e_3)) λv h2 H2=>qY<|HS.cG e_1 (aL.I (H2.pk [2,2,2,1,1,0] 0))
theorem qjo (hn:2≤n) (O:zG x) (H:HS g h (aL a x::R)):aH n 105 [.ptr a 0] h λr h'=>HS g h' (aa 177 2 x.v.K.length r (x.v.K.flatMap jn)::aL a x::R):=by
 refine aG rfl omQ λk hk=>?_;unfold S105;try simp only
 obtain⟨q,H1⟩:=aL.E H;refine qG (qQ (qK H1 .here rfl ?_));refine qW (qzA omQ (H1.aM e_2) O.aJ.ok) λv h2 H2=>qY<|HS.cG e_1 (aL.I (H2.pk [2,2,1,1,1,0] 0))
theorem J8 (hn:5≤n) (O:zG x) (H:HS g h (aL a x::R)):aH n 124 [.ptr a 0] h λr h'=>r=.bool (yJ x)∧HS g h' (aL a x::R):=by
 refine aG rfl omQ λk hk=>?_;unfold S124;try simp only[iZ]
 obtain⟨q,H1⟩:=aL.E H;refine qW (qW2 omQ H1 .here) ?_;rintro _ _ ⟨rfl,rfl⟩;unfold yJ;by_cases c:jh x=2
 ·refine qz c ?_;rw[iG c];refine qX<|jG<|qB ?_
  exact qY ⟨rfl,H⟩
 ·refine qV c ?_;rw[iV c];refine qX<|qp ?_;(try dsimp only)
  refine qW (Ya omQ O.c H) ?_;rintro _ h2 ⟨rfl,H2⟩;refine qH<|qY ⟨rfl,H2⟩
theorem Zu (hn:1≤n) (H:HS g h L) (s:bp L (qk a (xl x q)) R):aH n 65 [.ptr a 0] h λr h'=>r=.bool (vH x)∧h'=h:=by
 refine aG rfl omQ λk hk=>?_;unfold S65;try simp only[iZ]
 refine qG (qQ (qK H s rfl ?_));unfold vH;by_cases c:x.state=8
 ·rw[iV (λh=>h c)];refine jB c<|qX<|qS<|qH ?_
  exact qY ⟨rfl,rfl⟩
 ·rw[iG (show x.state≠8 from c)];refine jg c<|qX<|qb<|qG (qQ ?_)
  refine qK H s rfl<|qB<|qY ⟨rfl,rfl⟩
theorem qqI (hn:11≤n) (O:zG x) (H:HS g h (aL a x::R)):aH n 106 [.ptr a 0] h λr h'=>HS g h' (aa 177 2 (w9 x).length r ((w9 x).flatMap jn)::aL a x::R):=by
 refine aG rfl omQ λk hk=>?_;unfold S106;try simp only
 refine qW (J8 omQ O H) ?_;rintro _ h1 ⟨rfl,H1⟩;unfold w9;cases hc:yJ x with
 |false=>exact je (qZ (qY H1.ap))
 |true=>refine jR (qJ ?_);obtain⟨q,H2⟩:=aL.E H1;refine qG (qQ (qK H2 .here rfl ?_));refine qW (O7 omQ (H2.aM e_2) O.aJ.ok) λv h3 H3=>qY<|HS.cG e_1 (aL.I (H3.pk [2,2,1,1,1,0] 0))
theorem ZY (hn:6≤n) (O:zG x) (H:HS g h (aL a x::R)):aH n 96 [.ptr a 0] h λr h'=>∃e,HS g h' (aa e 1 (zr x).length r ((zr x).map (.int .i64))::aL a x::R):=by
 refine aG rfl omQ λk hk=>?_;unfold S96;try simp only
 refine qW (J8 omQ O H) ?_;rintro _ h1 ⟨rfl,H1⟩;unfold zr;cases hc:yJ x with
 |false=>exact je (qZ (qY ⟨3,H1.ap⟩))
 |true=>
  refine jR (qJ ?_);rw[iJ rfl];obtain⟨q,H2⟩:=aL.E H1;have hj:=O.aN;cases hx:x.aN with
  |aE bs k=>rw[hx]at hj;obtain⟨e,H3⟩:=cN.S (by rw[← hx];exact H2.aM e_1);have Sq:=hj.2;refine qG (qQ (qK H2 .here (x:=.ba) (by rw[← e.1];rfl) ?_));refine Ns (qZ ?_);refine qG (qQ (qK H2 .here rfl ?_));refine qW (Ok omQ H3 .here (SW (λ_=>rfl) _) omQ) λv h4 H4=>qY ⟨3,?_⟩;have H5:=cN.SI (vb:=q.vb) (k:=k) e (H4.aM e_1);rw[← hx]at H5;exact HS.cG e_1 (aL.I (H5.pk [2,0,1,1,1,0] 0))
  |prog p=>obtain⟨ib,nx,e,H3⟩:=cN.P (by rw[← hx];exact H2.aM e_1);refine qG (qQ (qK H2 .here (x:=.ptr ib 0) (by rw[← e.1];rfl) ?_));refine Vb (qJ ?_);refine qG (qQ (qK H2 .here rfl ?_));refine qW (qqs omQ (H2.aM e_2) O.aJ.ok) λv h4 H4=>qY ⟨3,?_⟩;exact HS.cG e_1 (aL.I (H4.pk [2,2,1,1,1,0] 0))
theorem OT (hn:8≤n) (O:zG x) (H:HS g h (aL a x::R)):aH n 93 [.ptr a 0] h λr h'=>r=.str (xq x)∧HS g h' (aL a x::R):=by
 refine aG rfl omQ λk hk=>?_;unfold S93;try simp only
 refine qW (J8 omQ O H) ?_;rintro _ h1 ⟨rfl,H1⟩;unfold xq;cases hc:yJ x with
 |false=>
  refine je (qX ?_);refine jG<|qB (qZ ?_)
  exact qY ⟨rfl,H1⟩
 |true=>
  refine jR ?_;rw[iJ rfl];obtain⟨q,H2⟩:=aL.E H1;have hj:=O.aN;cases hx:x.aN with
  |aE bs k=>
   obtain⟨e,H3⟩:=cN.S (by rw[← hx];exact H2.aM e_1);refine qX<|qp<|qG (qQ (qK ‹_› e_1 rfl ?_))
   rw[e.1];refine Ns (qH (qZ ?_));exact qY ⟨rfl,H1⟩
  |prog p=>
   rw[hx]at hj;obtain⟨ib,nx,e,H3⟩:=cN.P (by rw[← hx];exact H2.aM e_1);refine qX<|qp<|qG (qQ (qK ‹_› e_1 rfl ?_))
   rw[e.1];refine Vb (qH (qJ (qG (qQ (qK ‹_› e_1 rfl ?_)))));rw[e.1];have ho:=hj.2.2.1.out;refine qW (qj5 omQ H3 ho) ?_;rintro _ h4 ⟨o,rfl,H4⟩;refine qW (jZa omQ H4 omQ hj.2.2.1.its) ?_;rintro _ h5 ⟨rfl,H5⟩;refine qY ⟨rfl,aL.I (q:=q) ?_⟩;have H6:=cN.PI (p:=p) e H5.drop;rw[← hx]at H6;exact H6.pk [1,0,0,0,0] 0
end
end
end
section
variable {g h:AH} {L R:List SP}
def dF (b:Nat) (r:List V9):SP:=.ex λsv=>.all [qk b [sv],aa 164 2 r.length sv (r.flatMap jn)]
section
variable {n b:Nat} {r:List V9}
theorem dF.E (H:HS g h (dF b r::R)):∃sv,HS g h (qk b [sv]::aa 164 2 r.length sv (r.flatMap jn)::R):=by obtain⟨sv,H⟩:=H.fh;exact⟨sv,H.cI⟩
theorem dF.I {sv:AV} (H:HS g h (qk b [sv]::aa 164 2 r.length sv (r.flatMap jn)::R)):HS g h (dF b r::R):=HS.fH sv H.allI
theorem qjT (hn:1≤n) (H:HS g h R):aH n 50 [] h λv h'=>∃b,v=.ptr b 0∧HS g h' (dF b []::R):=by
 refine BV rfl omQ λk hk=>?_;unfold S50;try simp only
 refine qI rfl<|qM H rfl λb h1 H1=>?_;refine qY ⟨b,rfl,dF.I (sv:=.ap) ?_⟩;exact H1.ap.pk [1,0] 0
theorem qzS (hn:1≤n) (H:HS g h (dF b r::R)):aH n 128 [.ptr b 0] h λv h'=>v=.int .i64 (r.length:Int)∧h'=h:=by
 refine aG rfl omQ λk hk=>?_;unfold S128;try simp only
 obtain⟨sv,H1⟩:=dF.E H;refine qG (qQ (qK H1 .here rfl ?_));refine qu H1 e_1<|qY ⟨rfl,rfl⟩
theorem OO {z:Int} {bs:List Int} {bv:AV} (hn:1≤n) (hr:r.length+bs.length≤1000000) (H:HS g h (dF b r::R)) (S:Rd g R 1 bs.length bv (bs.map (.int .i64))) :
  aH n 95 [.ptr b 0,.int .u64 z,bv] h λ_ h'=>HS g h' (dF b (r++bs.map λq=>(q,z))::R):=by
 refine cY rfl omQ λk hk=>?_;unfold S95;try simp only[iZ]
 refine yy (S.more.sl H)<|jS (λc s h'=>∃i:Nat,s=(.int .i64 (i:Int),.int .i64 (bs.length:Int),bv,.int .u64 z,.ptr b 0,())∧i≤bs.length∧c=bs.length-i∧HS g h' (dF b (r++(bs.take i).map λq=>(q,z))::R))
  ?_ (by grind) ⟨0,rfl,Nat.zero_le _,rfl,by grind⟩
 rintro c ih s h1 bN ⟨i,rfl,hi,rfl,H⟩;by_cases ax:i<bs.length
 ·refine jc omQ (qZ ?_);refine zY (S.more.sl H) (qWs ax) ?_;obtain⟨sv,H1⟩:=dF.E H;refine qG (qQ (qK H1 .here rfl ?_));refine qI rfl<|qh H1 rfl rfl rfl rfl λv2 h2 H2=>?_;refine zX (H2.aM e_2) (H2.sl .here) omQ (by grind) rfl λv3 h3 H3=>?_;have o3:=H3.one .here;refine qG (qQ ?_);refine qw H3 e_2 o3 aW λh4 H4=>?_;refine qa omQ<|bN (bs.length-(i+1)) _ _ omQ ⟨i+1,rfl,by omega,rfl,dF.I (sv:=v3) ?_⟩;have er:r++(bs.take (i+1)).map (λq=>(q,z))=(r++(bs.take i).map λq=>(q,z))++[(bs[i],z)]:=by simp[List.take_add_one,List.append_assoc,List.map_append]
  rw[er,List.length_append,List.flatMap_append];exact H4.pk [0,0] 1
 ·obtain rfl:i=bs.length:=by omega
  refine jH omQ (qJ (qx (qY ?_)));grind
theorem qYn {sl:List Int} {v:AV} {z:Int} (hn:1≤n) (hl:sl.length≤1000) (S:Sl (λ_=>True) h 1 sl.length v (sl.map (.int .u64))) :
  aH n 156 [v,.int .u64 z] h λr h'=>r=.bool (jI sl z)∧h'=h:=by
 refine bw rfl omQ λk hk=>?_;unfold S156;try simp only[iZ]
 refine yy S<|jS (λc s h'=>∃i:Nat,s=(.int .i64 (i:Int),.int .i64 (sl.length:Int),v,.int .u64 z,())∧i≤sl.length∧c=sl.length-i∧h'=h∧jI sl z=jI (sl.drop i) z)
  ?_ (by grind) ⟨0,rfl,Nat.zero_le _,rfl,rfl,rfl⟩
 rintro c ih s _ bN ⟨i,rfl,hi,rfl,rfl,hp⟩;by_cases ax:i<sl.length
 ·refine jc omQ (qZ ?_);refine zY S (x:=.int .u64 sl[i]) (by simp) ?_;have hd:sl.drop i=sl[i]::sl.drop (i+1):=List.drop_eq_getElem_cons ax;have FY:jI (sl[i]::sl.drop (i+1)) z=(decide (sl[i]=0∨z<sl[i])&&jI (sl.drop (i+1)) z):=rfl;rw[hd,FY]at hp;refine qX ?_
  try dsimp only
  by_cases c0:sl[i]=0
  ·refine jB c0 (qS ?_);refine qH (qJ ?_);refine qa omQ<|bN (sl.length-(i+1)) _ _ omQ ⟨i+1,rfl,by omega,rfl,rfl,?_⟩;grind
  ·refine jg c0 (qb ?_);by_cases c1:z<sl[i]
   ·refine Xc omQ (qB (qJ ?_));refine qa omQ<|bN (sl.length-(i+1)) _ _ omQ ⟨i+1,rfl,by omega,rfl,rfl,?_⟩;grind
   ·refine Jr omQ (qB (qZ (qx (qY ⟨?_,rfl⟩))));grind
 ·obtain rfl:i=sl.length:=by omega
  refine jH omQ (qJ (qx (qY ⟨?_,rfl⟩)));rw[hp,List.drop_length];rfl
theorem jJI {sl:List Int} {v:AV} (hn:2≤n) (hl:sl.length≤1000) (hr:r.length≤1000000) (H:HS g h (dF b r::R)) (S:Rd g R 1 sl.length v (sl.map (.int .u64))) :
  aH n 129 [.ptr b 0,v] h λq h'=>
   HS g h' (aa 164 2 (r.filter λx=>jI sl x.2).length q ((r.filter λx=>jI sl x.2).flatMap jn)::dF b (r.filter λx=>!jI sl x.2)::R):=by
 refine bw rfl omQ λk hk=>?_;unfold S129;try simp only[iZ]
 obtain⟨sv,H1⟩:=dF.E H;refine qG (qQ (qK H1 .here rfl ?_));refine qu H1 e_1 ?_;have fl:∀(p:V9→Bool) (i:Nat),((r.take i).filter p).length≤r.length:=λp i=>Nat.le_trans (List.length_filter_le ..) (by grind)
 refine jS (λc s h'=>∃(i:Nat) (qv wv:AV),s=(.int .i64 (i:Int),.int .i64 (r.length:Int),sv,wv,qv,v,.ptr b 0,())∧i≤r.length∧c=r.length-i∧
   HS g h' (aa 164 2 ((r.take i).filter λx=>jI sl x.2).length qv (((r.take i).filter λx=>jI sl x.2).flatMap jn)::aa 164 2 ((r.take i).filter λx=>!jI sl x.2).length wv (((r.take i).filter λx=>!jI sl x.2).flatMap jn)::
    qk b [sv]::aa 164 2 r.length sv (r.flatMap jn)::R))
  ?_ (by grind) ⟨0,.ap,.ap,rfl,Nat.zero_le _,rfl,H1.ap.ap⟩
 rintro c ih s h1 bN ⟨i,qv,wv,rfl,hi,rfl,H⟩;by_cases ax:i<r.length
 ·refine jc omQ (qZ ?_)
  refine zv [] (λs h'=>∃(qv wv:AV),s=(.int .i64 (i:Int),.int .i64 (r.length:Int),sv,wv,qv,v,.ptr b 0,())∧
   HS g h' (aa 164 2 ((r.take (i+1)).filter λx=>jI sl x.2).length qv (((r.take (i+1)).filter λx=>jI sl x.2).flatMap jn)::aa 164 2 ((r.take (i+1)).filter λx=>!jI sl x.2).length wv (((r.take (i+1)).filter λx=>!jI sl x.2).flatMap jn)::
    qk b [sv]::aa 164 2 r.length sv (r.flatMap jn)::R)) (λj hj=>?_) ?_
  rotate_left
  ·rintro _ h2 ⟨qv,wv,rfl,H2⟩;refine qa omQ<|bN (r.length-(i+1)) _ _ omQ ⟨i+1,qv,wv,rfl,by omega,rfl,H2⟩
  refine xQ (H.sl e_3) ax omQ (vP (enc:=jn) (λ_=>rfl) (iW ax))<|qM H rfl λb2 h2 H2=>?_;refine qe H2 .here rfl (by simp) rfl λh3 H3=>?_;refine qQ (qK H3 .here rfl ?_);refine qW (qYn (sl:=sl) omQ hl (S.more.more.more.more.more.sl H3)) ?_;rintro _ _ ⟨rfl,rfl⟩;have et:r.take (i+1)=r.take i++[r[i]]:=by simp
  have f1:=fl (λx=>jI sl x.2) i;have f2:=fl (λx=>!jI sl x.2) i;cases hp:jI sl r[i].2 with
  |true=>refine qZ (qD H3 .here rfl omQ rfl ?_);refine qh H3 rfl rfl rfl rfl λv2 h4 H4=>?_;refine zX (H4.aM e_2) (H4.sl .here) omQ omQ rfl λv3 h5 H5=>hj _ _ ⟨v3,wv,rfl,?_⟩;rw[et,List.filter_append,List.filter_append,show[r[i]].filter (λx=>jI sl x.2)=[r[i]] by grind,show[r[i]].filter (λx=>!jI sl x.2)=[] by grind,List.append_nil,List.length_append,List.flatMap_append];exact H5.pk [0,2,2,2] 2
  |false=>refine qJ (qD H3 .here rfl omQ rfl ?_);refine qh H3 rfl rfl rfl rfl λv2 h4 H4=>?_;refine zX (H4.aM e_3) (H4.sl .here) omQ omQ rfl λv3 h5 H5=>hj _ _ ⟨qv,v3,rfl,?_⟩;rw[et,List.filter_append,List.filter_append,show[r[i]].filter (λx=>jI sl x.2)=[] by grind,show[r[i]].filter (λx=>!jI sl x.2)=[r[i]] by grind,List.append_nil,List.length_append,List.flatMap_append];exact H5.pk [3,0,2,2] 2
 ·obtain rfl:i=r.length:=by omega
  rw[List.take_length]at H;refine jH omQ (qJ ?_);have o1:=H.one e_1;refine qG (qQ ?_);refine qw H e_2 o1 aW λh2 H2=>qx (qY ?_);have H3:=dF.I (r:=r.filter λx=>!jI sl x.2) (sv:=wv) (H2.sub (.cons .here (.cons e_1 .refl)));exact H3.pk [1,0] 1
end
end
section
variable {g h:AH} {L R:List SP}
theorem Vo {R:List SP} {P:SP}:∀{A:List SP} {i:Nat},A[i]? =some P→bp (A++R) P (A.eraseIdx i++R):=by
 intro A
 induction A with
 |nil=>simp
 |cons x r ih=>
  intro i h;cases i with
  |zero=>cases h;exact .here
  |succ i=>exact .there (ih (by grind))
def aV (js:List (List qR)) (v:AV):SP:=.ex λvs:List AV=>.all [.iq (vs.length=js.length),aa 49 1 js.length v vs,.all (List.zipWith xU vs js)]
structure J7 where
  rv:AV
  cv:AV
  fe:TypeId
  fv:AV
def xc (r:yr) (z:J7):List AV:=[.int .i64 r.Ce,.int .i64 r.aN,.int .i64 r.Tb,.bool r.aE,.int .i64 r.kind,.int .i64 r.err,.int .u64 r.bB,.int .u64 r.ad,.int .i64 r.born,.int .i64 r.ended,z.rv,z.cv,z.fv,.str r.tu]
def wK (r:yr) (z:J7):List SP:=[aa 177 2 r.reads.length z.rv (r.reads.flatMap jn),aa 177 2 r.cells.length z.cv (r.cells.flatMap jn),aa z.fe 1 r.dj.length z.fv (r.dj.map (.int .i64))]
def bn (r:List yr) (v:AV):SP:=.ex λzs:List (yr×J7)=>.all [.iq (zs.map (·.1)=r),aa 92 14 zs.length v (zs.flatMap λz=>xc z.1 z.2),.all (zs.flatMap λz=>wK z.1 z.2)]
def Oj (r:OW):List AV:=[.int .i64 r.kind,.int .i64 r.err,.str r.tu,.int .u64 r.ad]
def ij (x:Option qf) (v:AV):SP:=match x with
 |none=>.iq (v=.ba)
 |some x=>.ex λa:Nat=>.all [.iq (v=.ptr a 0),aL a x]
structure NC where
  jv:AV
  gv:AV
  nv:AV
  pv:AV
  rv:AV
  lb:Nat
  sv:AV
def vk (t:qd) (q:NC):List AV:=[.int .i64 t.me,.int .i64 t.set.words,.int .i64 t.set.ae,.int .i64 t.set.wide,.int .i64 t.set.ag,.int .u64 t.set.start,.int .i64 t.set.af,.int .i64 t.set.writes,.int .i64 t.set.fuel,
 q.jv,.int .i64 t.aN,.int .i64 t.state,.bool t.aE,q.gv,.int .i64 t.ak,.int .i64 t.aI,q.nv,.int .i64 t.born,.bool t.cH,q.pv,q.rv,.ptr q.lb 0,q.sv,.int .i64 t.ch,.int .u64 t.since,.bool t.aX,.int .i64 t.br]
abbrev GS (b:Nat) (t:qd) (q:NC) (R:List SP):List SP :=
 qk b (vk t q)::aV t.aD q.jv::aa 164 2 t.au.length q.gv (t.au.flatMap jn)::ij t.now q.nv::bn t.ao q.pv::aa 57 4 t.results.length q.rv (t.results.flatMap Oj)::dF q.lb t.ay::aa 22 1 t.ah.length q.sv (t.ah.map (.int .u64))::R
def aK (b:Nat) (t:qd):SP:=.ex λq:NC=>.all (GS b t q [])
section
variable {n b:Nat} {t:qd} {q:NC}
theorem aK.E (H:HS g h (aK b t::R)):∃q,HS g h (GS b t q R):=by obtain⟨q,H⟩:=H.fh;exact⟨q,H.cI⟩
theorem aK.I (H:HS g h (GS b t q R)):HS g h (aK b t::R):=HS.fH q (HS.allI H)
theorem ij.E {x:qf} {v:AV} (H:HS g h (ij (some x) v::R)):∃a,v=.ptr a 0∧HS g h (aL a x::R):=by obtain⟨a,H⟩:=(show HS g h (.ex (λa:Nat=>SP.all [.iq (v=.ptr a 0),aL a x])::R)from H).fh;have H:=H.cI.fo;simp_all
theorem ij.I {x:qf} {a:Nat} (H:HS g h (aL a x::R)):HS g h (ij (some x) (.ptr a 0)::R) :=
 show HS g h (.ex (λa':Nat=>SP.all [.iq (AV.ptr a 0=.ptr a' 0),aL a' x])::R)from HS.fH a (HS.allI (HS.fR rfl H))
theorem aV.E {js:List (List qR)} {v:AV} (H:HS g h (aV js v::R)):∃vs:List AV,vs.length=js.length∧HS g h (aa 49 1 js.length v vs:: .all (List.zipWith xU vs js)::R):=by obtain⟨vs,H⟩:=H.fh;exact⟨vs,H.cI.fo⟩
theorem aV.I {js:List (List qR)} {v:AV} {vs:List AV} (hl:vs.length=js.length) (H:HS g h (aa 49 1 js.length v vs:: .all (List.zipWith xU vs js)::R)):HS g h (aV js v::R) :=
 HS.fH vs (HS.allI (HS.fR hl H))
theorem TU {A R:List SP} {P:SP}:bp (A++P::R) P (A++R):=by
 induction A with
 |nil=>exact .here
 |cons x r ih=>exact .there ih
theorem Xj (hn:11≤n) (B:ThrB t) (hr:t.au.length≤1000000) (H:HS g h (aK b t::R)):aH n 57 [.ptr b 0] h λ_ h'=>HS g h' (aK b (zO t)::R):=by
 refine aG rfl omQ λk hk=>?_;unfold S57;try simp only[iZ]
 obtain⟨q,H0⟩:=aK.E H;refine qG (qQ (qw H0 .here ⟨rfl,rfl⟩ (by simp[vk]) λh1 H1=>?_));refine qG (qQ (qw H1 .here ⟨rfl,rfl⟩ (by simp[vk]) λh2 H2=>?_))
 let T:qd:={ t with born:=0,cH:=false }
 refine zv [] (λs h'=>∃(x:qf) (a:Nat),s=(.ptr b 0,())∧zO t={ T with state:=1,now:=some x }∧HS g h' (GS b { T with now:=some x } { q with nv:=.ptr a 0 } R)) (λj hj=>?_) ?_
 rotate_left
 ·rintro _ h3 ⟨x,a,rfl,e,H3⟩;refine qG (qQ (qw H3 .here ⟨rfl,rfl⟩ (by simp[vk]) λh4 H4=>qx (qY ?_)));rw[e];exact aK.I H4
 have fQ:=B.jl;have hjb:=B.aN;obtain⟨vs,FZ,H3⟩:=aV.E (H2.aM e_1);refine qG (qQ (qK H2 .here rfl ?_));refine qG (qQ (qK H2 .here rfl ?_));refine qu H3 .here ?_;by_cases c:t.aN=(t.aD.length:Int)
 ·rw[show zO t={ t with born:=0,cH:=false,state:=6,now:=none }from iJ c];refine qz c (qZ ?_);refine qG (qQ ?_);refine qw H2 .here ⟨rfl,rfl⟩ (by simp[vk]) λh4 H4=>?_;refine qG (qQ ?_);refine qw H4 .here ⟨rfl,rfl⟩ (by simp[vk]) λh5 H5=>qY<|aK.I (q:={ q with nv:=.ba }) ?_;have H6:=(HS.fR (φ:=AV.ba=.ba) rfl H5);exact H6.pk [1,1,1,0] 1
 ·refine qV c (qJ ?_);by_cases fi:t.aE=true
  ·refine qG (qQ (qo (qK H2 (b:=b) .here (x:=.bool true) (by rw[← fi];rfl) ?_)));refine qZ (qG (qQ (qo (qK H2 (b:=b) .here rfl ?_))));refine qu H2 (n:=t.au.length) (v:=q.gv) e_2<|jS (λc s h'=>∃(i:Nat) (av:AV),s=(.int .i64 (i:Int),.int .i64 (t.au.length:Int),q.gv,av,.ptr b 0,())∧i≤t.au.length∧c=t.au.length-i∧HS g h' (aa 3 1 i av (((t.au.take i).map (·.1)).map (.int .i64))::GS b T q R))
    ?_ (m:=t.au.length) (by grind) ⟨0,.ap,rfl,Nat.zero_le _,rfl,H2.ap⟩
   clear H0 H1 H2 H3;rintro c ih s h3 bN ⟨i,av,rfl,hi,rfl,H⟩;by_cases ax:i<t.au.length
   ·refine jc omQ (qZ ?_);refine xQ (l:=jn t.au[i]) (H.sl (n:=t.au.length) (v:=q.gv) (xs:=t.au.flatMap jn) e_3) ax omQ (vP (sz:=2) (enc:=jn) (λ_=>rfl) (iW ax))<|qM H rfl λb2 h4 H4=>?_;refine qe H4 (b:=b2) .here rfl (by simp) rfl λh5 H5=>?_;refine qQ (qK H5 .here rfl ?_);refine qh H5 rfl rfl rfl rfl λv2 h6 H6=>?_;refine zX (H6.aM e_2) (H6.sl .here) omQ omQ rfl λv3 h7 H7=>?_;refine qa omQ<|bN (t.au.length-(i+1)) _ _ omQ ⟨i+1,v3,rfl,by omega,rfl,?_⟩;have et:((t.au.take (i+1)).map (·.1)).map (AV.int .i64)=((t.au.take i).map (·.1)).map (AV.int .i64)++[.int .i64 t.au[i].1]:=by rw[List.take_add_one,iW ax,List.map_append,List.map_append];rfl
    rw[et];exact H7.pk [0] 2
   ·obtain rfl:i=t.au.length:=by omega
    refine jH omQ (qJ ?_);rw[List.take_length]at H;refine qG (qQ (qK H e_1 rfl ?_));refine qG (qQ (qD H (b:=b) (off:=1) e_1 rfl (by simp) (l:=vR t.set) rfl ?_));refine qW (qjN (bs:=t.au.map (·.1)) omQ B.set.start.1 (by grind) H (by rw[List.length_map];exact .here)) ?_;rintro _ h4 ⟨a,rfl,H4⟩;refine qG (qQ ?_);refine qw H4 (b:=b) e_2 (x:=.ptr a 0) ⟨rfl,rfl⟩ (by simp[vk]) λh5 H5=>?_;refine hj _ _ ⟨QZ t.me t.set (t.au.map (·.1)),a,rfl,by unfold zO;grind,?_⟩;have H6:=ij.I (H5.aM (P:=aL a (QZ t.me t.set (t.au.map (·.1)))) e_1);exact H6.pk [1,2,2,0] 2
  ·have hsf:t.aE=false:=by grind
   refine qG (qQ (qo (qK H2 (b:=b) .here (x:=.bool false) (by rw[← hsf];rfl) ?_)));refine qJ ?_;have ax:t.aN.toNat<t.aD.length:=by omega
   have AY:t.aD[t.aN.toNat]? =some t.aD[t.aN.toNat]:=iW ax;have eK:=B.aD _ (List.getElem_mem ax);have F3:t.aN.toNat<vs.length:=by omega
   refine qG (qQ (qK H2 (b:=b) .here rfl ?_));refine qG (qQ (qD H2 (b:=b) (off:=1) .here rfl (by simp) (l:=vR t.set) rfl ?_));refine qG (qQ (qK H2 (b:=b) .here rfl ?_));refine qG (qQ (qK H2 (b:=b) .here (x:=.int .i64 ((t.aN.toNat:Nat):Int)) (by show some (AV.int .i64 t.aN)=_;grind) ?_));refine xQ (l:=[vs[t.aN.toNat]]) (H3.sl .here) ax omQ (by rw[Nat.mul_one,List.drop_eq_getElem_cons F3];rfl) ?_;have H4:=(H3.aM (P:=.all (List.zipWith xU vs t.aD)) e_1).cI;have hz:(List.zipWith xU vs t.aD)[t.aN.toNat]? =some (xU vs[t.aN.toNat] t.aD[t.aN.toNat]):=by grind
   refine qW (jQo (l:=t.aD[t.aN.toNat]) omQ B.set.start.1 eK.1 (H4.rd (e:=46) (sz:=5) (n:=(t.aD[t.aN.toNat]).length) (Vo hz)) H4) ?_;rintro _ h5 ⟨a,rfl,H5⟩;have H6:HS g h5 (.all (List.zipWith xU vs t.aD)::aL a (Qm t.me t.set t.aD[t.aN.toNat])::aa 49 1 t.aD.length q.jv vs::qk b (vk T q)::_):=HS.allI (HS.cG TU H5);have H7:=aV.I FZ (H6.aM (P:=aa 49 1 t.aD.length q.jv vs) e_2);refine qG (qQ ?_);refine qw H7 (b:=b) e_2 (x:=.ptr a 0) ⟨rfl,rfl⟩ (by simp[vk]) λh8 H8=>?_;refine hj _ _ ⟨Qm t.me t.set t.aD[t.aN.toNat],a,rfl,by unfold zO;grind,?_⟩;have H9:=ij.I (H8.aM (P:=aL a (Qm t.me t.set t.aD[t.aN.toNat])) e_2);exact H9.pk [1,1,1,0] 1
theorem Qf (hn:12≤n) (B:ThrB { t with aN:=t.aN+1,aE:=false,au:=[],ak:=0,aI:=0 }) (H:HS g h (aK b t::R)):aH n 52 [.ptr b 0] h λ_ h'=>HS g h' (aK b (xw t)::R):=by
 refine aG rfl omQ λk hk=>?_;unfold S52;try simp only[iZ]
 obtain⟨q,H0⟩:=aK.E H;have hj:=B.aN;have fQ:=B.jl;dsimp only at hj fQ;refine qG (qQ (qK H0 .here rfl ?_));refine qa omQ<|qG (qQ ?_);refine qw H0 .here ⟨rfl,rfl⟩ (by simp[vk]) λh1 H1=>?_;refine qI rfl<|qG (qQ ?_);refine qe H1 .here rfl (by simp[vk]) rfl λh2 H2=>?_;have H3:=aK.I (b:=b) (t:={ t with aN:=t.aN+1,aE:=false,au:=[],ak:=0,aI:=0 }) (q:={ q with gv:=.ap }) ((H2.ap (e:=164) (sz:=2)).sub (.cons e_1 (.cons e_1 (.cons .here (.drop .refl)))));exact qW (Xj omQ B (Nat.zero_le _) H3) λ_ h4 H4=>qY H4
theorem qjO (hn:1≤n) (H:HS g h L) (s:bp L (qk b (vk t q)) R):aH n 34 [.ptr b 0] h λr h'=>r=.int .i64 t.state∧h'=h:=by
 refine aG rfl omQ λk hk=>?_;unfold S34;try simp only
 refine qG (qQ (qK H s rfl ?_));exact qY ⟨rfl,rfl⟩
end
end
section
variable {g h:AH} {L R:List SP}
theorem jQT {i:Int} (h:0≤i):min (2*vI i) 8=vI (i+1):=by
 grind[vI]
theorem jQ5 {c:Int}:vI (min c 8)=vI c:=by
 grind[vI]
section
variable {n b:Nat} {t:qd} {q:NC}
theorem ThrB.next (B:ThrB t) (hj:t.aN<t.aD.length):ThrB { t with aN:=t.aN+1,aE:=false,au:=[],ak:=0,aI:=0 }:=by have h1:=B.aN;have h2:=B.ay;exact⟨B.set,B.me,B.aD,B.jl,by grind,by grind,B.ah,by simp,by simp,λ_=>rfl⟩
theorem qKR {draw:Int} (hn:12≤n) (B:ThrB t) (hg:t.au.length≤1000000) (hd:0≤draw∧draw<256) (H:HS g h (aK b t::R)):aH n 90 [.ptr b 0,.int .u8 draw] h λ_ h'=>HS g h' (aK b (xE t draw)::R):=by
 refine bw rfl omQ λk hk=>?_;unfold S90;try simp only[iZ]
 obtain⟨q,H0⟩:=aK.E H;have hc:=B.aI;refine qG (qQ (qo (qK H0 .here rfl ?_)));refine zi<|jS (λc s h'=>∃i:Nat,s=(.int .i64 (i:Int),.int .i64 (min t.aI 8),.int .i64 (vI i),.int .u8 draw,.ptr b 0,())∧(i:Int)≤min t.aI 8∧c=(min t.aI 8).toNat-i∧h'=h)
  ?_ (by grind) ⟨0,rfl,by omega,rfl,rfl⟩
 rintro c ih s _ bN ⟨i,rfl,hi,rfl,rfl⟩;by_cases ax:(i:Int)<min t.aI 8
 ·have hb:=Td i;refine jc ax (qZ ?_);refine Vl omQ (zi (qa omQ ?_));refine bN ((min t.aI 8).toNat-(i+1)) _ _ omQ ⟨i+1,?_,by omega,rfl,rfl⟩;rw[show((2:Nat):Int)=2 from rfl,show((8:Nat):Int)=8 from rfl,jQT omQ]
  rfl
 ·refine jH ax (qJ ?_);have Lo:(i:Int)=min t.aI 8:=by omega
  rw[Lo,jQ5];have hb:=Td t.aI;refine yz omQ (qa omQ (QD omQ ?_));have em:draw.tmod (vI t.aI+((1:Nat):Int))=draw%(vI t.aI+1):=by grind
  rw[em];refine qG (qQ ?_);refine qw H0 .here ⟨rfl,rfl⟩ (by simp[vk]) λh1 H1=>?_;refine qG (qQ ?_);refine qw H1 .here ⟨rfl,rfl⟩ (by simp[vk]) λh2 H2=>?_;refine qG (qQ (qK H2 .here rfl ?_));unfold xE;have H3:HS g h2 (aK b { t with br:=draw%(vI t.aI+1),state:=3 }::R):=aK.I H2;by_cases c0:draw%(vI t.aI+1)=0
  ·rw[iJ c0];refine qz c0 (qZ ?_);rw[c0]at H3;exact qW (Xj (t:={ t with br:=0,state:=3 }) omQ ⟨B.set,B.me,B.aD,B.jl,B.aN,B.ay,B.ah,B.ak,B.aI,B.oh⟩ hg H3) λ_ h4 H4=>qx (qY H4)
  ·rw[iQ c0];exact qV c0 (qJ (qx (qY H3)))
theorem qz3 (hn:12≤n) (O:xr t) (H:HS g h (aK b t::R)):aH n 31 [.ptr b 0] h λ_ h'=>HS g h' (aK b (jK t)::R):=by
 refine aG rfl omQ λk hk=>?_;unfold S31;try simp only[iZ]
 obtain⟨q,H0⟩:=aK.E H;unfold jK;refine qG (qQ (qK H0 .here rfl ?_));by_cases c:t.state=3
 ·rw[iJ c];have B:=O.b;have hp:=O.A4 c;have hl:=B.len (by have:=O.lV;grind);refine jB c (qJ ?_);refine qG (qQ (qK H0 .here rfl ?_));refine zL omQ<|qG (qQ ?_);refine qw H0 .here ⟨rfl,rfl⟩ (by simp[vk]) λh1 H1=>?_;refine qG (qQ (qK H1 .here rfl ?_));have H3:HS g h1 (aK b { t with br:=t.br-1 }::R):=aK.I H1;by_cases c0:t.br-1=0
  ·rw[iJ c0];refine qz c0 (qZ ?_);rw[c0]at H3;exact qW (Xj (t:={ t with br:=0 }) omQ ⟨B.set,B.me,B.aD,B.jl,B.aN,B.ay,B.ah,B.ak,B.aI,B.oh⟩ (by grind) H3) λ_ h4 H4=>qY H4
  ·rw[iQ c0];exact qV c0 (qJ (qY H3))
 ·rw[iQ c];exact jg c (qZ (qY H))
theorem qG4 (hn:13≤n) (C:QH t) (hs:t.ah.length≤5) (fi:t.aE=false) (hr:t.ay.length≤1000000) (H:HS g h (aK b t::R)):aH n 98 [.ptr b 0] h λ_ h'=>HS g h' (aK b (yQ t)::R):=by
 refine aG rfl omQ λk hk=>?_;unfold S98;try simp only[iZ]
 obtain⟨q,H0⟩:=aK.E H;unfold yQ;refine zv [] (λs h'=>s=(.ptr b 0,())∧HS g h' (aK b (if(t.ah.length:Int)=t.me then{ t with ah:=t.ah++[0] }else t)::R)) (λj hj=>?_) ?_
 ·refine qG (qQ (qK H0 .here rfl ?_));refine qu H0 e_7<|qG (qQ (qK H0 .here rfl ?_));by_cases c:(t.ah.length:Int)=t.me
  ·refine qz c (qZ ?_);refine qG (qQ (qK H0 .here rfl ?_));refine qh H0 rfl rfl rfl rfl λv2 h2 H2=>?_;refine zX (H2.aM (P:=aa 22 1 t.ah.length q.sv (t.ah.map (.int .u64))) e_8) (H2.sl .here) omQ omQ rfl λv3 h3 H3=>?_;have o3:=H3.one .here;refine qG (qQ ?_);refine qw H3 (b:=b) e_2 o3 (by simp[vk]) λh4 H4=>?_;refine hj _ _ ⟨rfl,?_⟩;rw[iJ c];refine aK.I (q:={ q with sv:=v3 }) ?_;have e:(t.ah++[(0:Int)]).length=t.ah.length+1:=by simp
   unfold GS;rw[e,List.map_append];exact H4.pk [0,2,2,2,2,2,2,0] 1
  ·exact qV c (qJ (hj _ _ ⟨rfl,by grind⟩))
 ·clear H0 H;rintro _ h1 ⟨rfl,H⟩;have key:∀u:qd,u=(if(t.ah.length:Int)=t.me then{ t with ah:=t.ah++[0] }else t)→QH u∧u.aE=false∧u.ay=t.ay∧u.results=t.results∧u.ah.length≤6:=by
   rintro u rfl
   split
   ·have e:(t.ah++[(0:Int)]).length=t.ah.length+1:=by simp
    exact⟨C.go rfl rfl rfl rfl rfl rfl rfl (by grind) C.ak C.aI rfl rfl,fi,rfl,rfl,by grind⟩
   grind
  have key:=key _ rfl;generalize(if(t.ah.length:Int)=t.me then{ t with ah:=t.ah++[0] }else t)=u at*;obtain⟨CU,hus,TV,hue,uY⟩:=key;obtain⟨q,H0⟩:=aK.E H;refine qG (qQ (qK H0 .here rfl ?_));refine qu H0 e_7<|qG (qQ (qo (qo (qK H0 .here rfl ?_))));unfold yG;by_cases c:(u.ah.length:Int)<u.set.ag
  ·rw[iJ c];exact jc c (qZ (qx (qY H)))
  ·rw[iQ c];refine jH c (qJ ?_);refine qG (qQ (qK H0 .here rfl ?_));refine qG (qQ (qK H0 .here rfl ?_));have H1:=H0.aM (P:=dF q.lb u.ay) e_6;refine qW (jJI (sl:=u.ah) omQ omQ (by grind) H1 (H1.drop.rd e_6)) ?_;intro v h2 H2;have rC:=CU.ay;have hg:=CU.oh hus;have hf:=qXs (λr:V9=>jI u.ah r.2) u.ay;refine qu H2 .here ?_;by_cases c0:(u.ay.filter λr=>jI u.ah r.2)=[]
   ·rw[iJ c0];refine qz (by grind) (qZ ?_);have H3:=aK.I (b:=b) (t:={ u with ay:=u.ay.filter λr=>!jI u.ah r.2 }) (q:=q) (H2.sub (.cons e_2 (.cons e_2 (.cons e_2 (.cons e_2 (.cons e_2 (.cons e_2 (.cons e_1 (.cons e_1 (.drop .refl))))))))));have B2:ThrB { u with ay:=u.ay.filter λr=>!jI u.ah r.2 }:=⟨CU.set,CU.me,CU.aD,CU.jl,CU.aN,by grind,uY,CU.ak,CU.aI,CU.oh⟩;exact qW (Qf omQ (B2.next CU.lt) H3) λ_ h4 H4=>qx (qY H4)
   ·rw[iQ c0];refine qV (λh0=>c0 (iA omQ)) (qJ ?_);have o2:=H2.one .here;refine qI (l:=[.bool true,v,.int .i64 0,.int .i64 0]) (by simp only[vL,o2.1];rfl)<|qG (qQ ?_);refine qe H2 (b:=b) e_2 rfl (by simp[vk]) (by simp only[qt,AV.cells,List.all_cons,o2.2];rfl) λh3 H3=>?_;have H4:=aK.I (b:=b) (t:={ u with ay:=u.ay.filter (λr=>!jI u.ah r.2),aE:=true,au:=u.ay.filter (λr=>jI u.ah r.2),ak:=0,aI:=0 }) (q:={ q with gv:=v }) (H3.sub (.cons .here (.cons e_2 (.cons .here (.cons e_2 (.cons e_2 (.cons e_2 (.cons .here (.cons e_1 (.drop .refl))))))))));refine qW (Xj (t:={ u with ay:=u.ay.filter (λr=>!jI u.ah r.2),aE:=true,au:=u.ay.filter (λr=>jI u.ah r.2),ak:=0,aI:=0 }) omQ ⟨CU.set,CU.me,CU.aD,CU.jl,CU.aN,?_,uY,by simp,by simp,λh=>by grind⟩ (by grind) H4) λ_ h4 H4=>qx (qY H4);grind
end
end
section
variable {g h:AH} {L R:List SP}
section
variable {n a b:Nat} {t:qd} {q:NC} {x:qf}
abbrev cR (a b:Nat) (t:qd) (x:qf) (q:NC) (R:List SP):List SP :=
 aL a x::qk b (vk t { q with nv:=.ptr a 0 })::aV t.aD q.jv::aa 164 2 t.au.length q.gv (t.au.flatMap jn)::bn t.ao q.pv::aa 57 4 t.results.length q.rv (t.results.flatMap Oj)::dF q.lb t.ay::aa 22 1 t.ah.length q.sv (t.ah.map (.int .u64))::R
theorem cR.I (hx:t.now=some x) (H:HS g h (cR a b t x q R)):HS g h (aK b t::R):=by refine aK.I (q:={ q with nv:=.ptr a 0 }) ?_;have H1:=ij.I H;unfold GS;rw[hx];exact H1.pk [1,1,1,0] 0
theorem aK.V (hx:t.now=some x) (H:HS g h (aK b t::R)):∃a q,HS g h (cR a b t x q R):=by
 obtain⟨q,H0⟩:=aK.E H;unfold GS at H0;rw[hx]at H0;obtain⟨a,e,H1⟩:=ij.E (H0.aM e_3);have eq:{ q with nv:=.ptr a 0 }=q:=by rw[← e]
 grind
theorem Ub {a:Nat} (hn:1≤n) (H:HS g h L) (s:bp L (aL a x) R):aH n 60 [.ptr a 0] h λr h'=>r=.int .i64 (jh x)∧h'=h:=by obtain⟨q,H1⟩:=aL.E (H.aM s);exact qW2 hn H1 .here
theorem TW {a:Nat} (hn:1≤n) (H:HS g h L) (s:bp L (aL a x) R):aH n 89 [.ptr a 0] h λr h'=>r=.int .i64 (Qw x)∧h'=h:=by obtain⟨q,H1⟩:=aL.E (H.aM s);exact jKD hn H1 .here
theorem qx1 {a:Nat} (hn:1≤n) (H:HS g h L) (s:bp L (aL a x) R):aH n 92 [.ptr a 0] h λr h'=>r=.int .i64 (ym x)∧h'=h:=by obtain⟨q,H1⟩:=aL.E (H.aM s);exact jJf hn H1 .here
theorem M8 {a:Nat} (hn:1≤n) (H:HS g h L) (s:bp L (aL a x) R):aH n 94 [.ptr a 0] h λr h'=>r=.int .u64 x.ad∧h'=h:=by obtain⟨q,H1⟩:=aL.E (H.aM s);exact qY0 hn H1 .here
theorem Kt {a:Nat} (hn:1≤n) (H:HS g h L) (s:bp L (aL a x) R):aH n 58 [.ptr a 0] h λr h'=>r=.cn [.int .u64 x.bB,.bool x.begun]∧h'=h:=by obtain⟨q,H1⟩:=aL.E (H.aM s);exact qjd hn H1 .here
theorem qWS {pick:Int} (hn:12≤n) (O:zG x) (H:HS g h (cR a b t x q R)):aH n 71 [.ptr b 0,.int .i64 pick] h λr h'=>
  ∃z:J7,r=.agg (xc (jY t x pick) z)∧HS g h' (wK (jY t x pick) z++cR a b t x q R):=by
 refine bw rfl omQ λk hk=>?_;unfold S71;try simp only[iZ]
 refine qM H rfl λv0 h1 H1=>?_;refine qG (qQ (qK H1 e_2 rfl ?_));refine qW (Kt omQ H1 e_1) ?_;rintro _ _ ⟨rfl,rfl⟩;refine qy rfl (qy rfl ?_);refine qW (Ub omQ H1 e_1) ?_;rintro _ _ ⟨rfl,rfl⟩;refine zv [] (λs h'=>s=(.int .i64 (if ql x=true then 2 else jh x),.int .u64 x.bB,.ptr a 0,.ptr v0 0,.int .i64 pick,.ptr b 0,())∧HS g h' (aL a x::qk v0 [.int .i64 0,.int .i64 0,.int .i64 0,.bool false,.int .i64 0,.int .i64 0,.int .u64 0,.int .u64 0,.int .i64 0,.int .i64 0,.ap,.ap,.ap,.str []]::qk b (vk t { q with nv:=.ptr a 0 })::(cR a b t x q R).drop 2)) (λj hj=>?_) ?_
 ·refine qW (Ya omQ O.c (H1.aM e_1)) ?_;rintro _ h2 ⟨rfl,H2⟩;cases hw:ql x with
  |true=>exact qZ (hj _ _ ⟨by grind,H2⟩)
  |false=>exact qJ (hj _ _ ⟨by grind,H2⟩)
 ·rintro _ mP ⟨rfl,cw⟩;refine qX ?_
  try dsimp only
  refine qG (qQ (qK cw e_2 rfl ?_));refine qG (qQ (qK cw e_2 rfl ?_));refine qG (qQ (qo (qK cw e_2 rfl ?_)));refine qG (qQ (qo (qK cw e_2 rfl ?_)));refine qW (qx1 omQ cw .here) ?_;rintro _ _ ⟨rfl,rfl⟩;refine qW (M8 omQ cw .here) ?_;rintro _ _ ⟨rfl,rfl⟩;refine qG (qQ (qK cw e_2 rfl ?_));refine qW (qjo omQ O cw) λrv h42 tH=>?_;refine qW (qqI omQ O (tH.aM e_1)) λcv RP tI=>?_;refine qW (ZY omQ O (tI.aM e_1)) ?_;rintro fv Lg ⟨fe,tJ⟩;refine qW (OT omQ O (tJ.aM e_1)) ?_;rintro _ h48 ⟨rfl,u7⟩;have o1:=u7.one (v:=rv) e_3;have o2:=u7.one (v:=cv) e_2;have o3:=u7.one (v:=fv) e_1;refine qI (by simp only[vL,o1.1,o2.1,o3.1];rfl)<|qe u7 e_4 rfl (by simp) (by simp only[qt,AV.cells,List.all_cons,o1.2,o2.2,o3.2];rfl) λh50 H50=>?_;refine qT tJ e_5 rfl u7 e_5 rfl (HS.lt cw e_2)<|qT tI e_4 rfl tJ e_5 rfl (HS.lt cw e_2)<|qT tH e_3 rfl tI e_4 rfl (HS.lt cw e_2)<|qT cw e_2 rfl tH e_3 rfl (HS.lt cw e_2)<|qT cw e_2 rfl cw e_2 rfl (HS.lt cw e_2)<|qT cw e_2 rfl cw e_2 rfl (HS.lt cw e_2)<|qT tJ e_5 rfl u7 e_5 rfl (HS.lt cw e_2)<|qT tI e_4 rfl tJ e_5 rfl (HS.lt cw e_2)<|qT tH e_3 rfl tI e_4 rfl (HS.lt cw e_2)<|qT cw e_2 rfl tH e_3 rfl (HS.lt cw e_2)<|qT cw e_2 rfl cw e_2 rfl (HS.lt cw e_2)<|qT cw e_2 rfl cw e_2 rfl (HS.lt cw e_2)<|qT tJ e_5 rfl u7 e_5 rfl (HS.lt cw e_2)<|qT tI e_4 rfl tJ e_5 rfl (HS.lt cw e_2)<|qT tH e_3 rfl tI e_4 rfl (HS.lt cw e_2)<|qT cw e_2 rfl tH e_3 rfl (HS.lt cw e_2)<|qT cw e_2 rfl cw e_2 rfl (HS.lt cw e_2)<|qT cw e_2 rfl cw e_2 rfl (HS.lt cw e_2)<|qT tJ e_5 rfl u7 e_5 rfl (HS.lt cw e_2)<|qT tI e_4 rfl tJ e_5 rfl (HS.lt cw e_2)<|qT tH e_3 rfl tI e_4 rfl (HS.lt cw e_2)<|qT cw e_2 rfl tH e_3 rfl (HS.lt cw e_2)<|qT cw e_2 rfl cw e_2 rfl (HS.lt cw e_2)<|qT cw e_2 rfl cw e_2 rfl (HS.lt cw e_2)<|qT tJ e_5 rfl u7 e_5 rfl (HS.lt cw e_2)<|qT tI e_4 rfl tJ e_5 rfl (HS.lt cw e_2)<|qT tH e_3 rfl tI e_4 rfl (HS.lt cw e_2)<|qT cw e_2 rfl tH e_3 rfl (HS.lt cw e_2)<|qT cw e_2 rfl cw e_2 rfl (HS.lt cw e_2)<|qT cw e_2 rfl cw e_2 rfl (HS.lt cw e_2)<|qx (qD H50 .here rfl omQ rfl ?_);refine qY ⟨⟨rv,cv,fe,fv⟩,rfl,?_⟩;exact H50.pk [4,3,2,1] 1
end
end
section
variable {g h:AH} {L R:List SP}
section
variable {n a b:Nat} {t:qd} {q:NC} {x:qf}
theorem jJt (hn:14≤n) (C:QH t) (fi:t.aE=false) (hr:t.ay.length≤1000000) (H:HS g h (aK b t::R)):aH n 97 [.ptr b 0] h λ_ h'=>HS g h' (aK b (Qr t)::R):=by
 refine aG rfl omQ λk hk=>?_;unfold S97;try simp only[iZ]
 obtain⟨q,H0⟩:=aK.E H;unfold Qr;refine qG (qQ (qK H0 .here rfl ?_));refine qW (qzS omQ (H0.aM e_6)) ?_;rintro _ _ ⟨rfl,rfl⟩;by_cases c:t.ay=[]
 ·rw[iJ c];refine qz (by grind) (qZ ?_);exact qW (Qf omQ (C.toThrB.next C.lt) H) λ_ h1 H1=>qY H1
 ·rw[iQ c];refine qV (λh0=>c (iA omQ)) (qJ ?_);refine qG (qQ ?_);refine qw H0 .here ⟨rfl,rfl⟩ (by simp[vk]) λh1 H1=>?_;refine qG (qQ ?_);refine qw H1 .here ⟨rfl,rfl⟩ (by simp[vk]) λh2 H2=>?_;have H3:=aK.I (b:=b) (t:={ t with state:=5,ah:=[] }) (q:={ q with sv:=.ap }) ((H2.ap (e:=22) (sz:=1)).sub (.cons e_1 (.cons e_1 (.cons e_1 (.cons e_1 (.cons e_1 (.cons e_1 (.cons e_1 (.cons .here (.drop .refl))))))))));refine qW (qG4 (t:={ t with state:=5,ah:=[] }) omQ (C.go rfl rfl rfl rfl rfl rfl rfl (Nat.zero_le _) C.ak C.aI rfl rfl) (Nat.zero_le _) fi hr H3) λ_ h4 H4=>qY H4
theorem OH {w:Int} (hn:14≤n) (C:QH t) (fi:t.aE=false) (hs:t.ah.length≤4) (hr:t.ay.length≤1000000) (H:HS g h (aK b t::R)):aH n 63 [.ptr b 0,.int .u64 w] h λ_ h'=>HS g h' (aK b (yQ { t with ah:=t.ah++[w] })::R):=by
 refine bw rfl omQ λk hk=>?_;unfold S63;try simp only[iZ]
 obtain⟨q,H0⟩:=aK.E H;refine qG (qQ (qK H0 .here rfl ?_));refine qh H0 rfl rfl rfl rfl λv2 h2 H2=>?_;refine zX (H2.aM e_8) (H2.sl .here) omQ omQ rfl λv3 h3 H3=>?_;have o3:=H3.one .here;refine qG (qQ ?_);refine qw H3 e_2 o3 (by simp[vk]) λh4 H4=>?_;have e:(t.ah++[w]).length=t.ah.length+1:=by simp
 have H5:HS g h4 (aK b { t with ah:=t.ah++[w] }::R):=by refine aK.I (q:={ q with sv:=v3 }) ?_;unfold GS;rw[e,List.map_append];exact H4.pk [0,2,2,2,2,2,2,0] 1
 exact qW (qG4 (t:={ t with ah:=t.ah++[w] }) omQ (C.go rfl rfl rfl rfl rfl rfl rfl (by grind) C.ak C.aI rfl rfl) (by grind) fi hr H5) λ_ h4 H4=>qY H4
theorem qgT {fin:Int} (hn:14≤n) (C:QH t) (hr:t.ay.length+t.au.length≤1000000) (H:HS g h (aK b t::R)):aH n 91 [.ptr b 0,.int .i64 fin] h λ_ h'=>HS g h' (aK b (Qz t fin)::R):=by
 refine bw rfl omQ λk hk=>?_;unfold S91;try simp only[iZ]
 obtain⟨q,H0⟩:=aK.E H;unfold Qz;refine zv [] (λs h'=>s=(.ptr b 0,())∧HS g h' (aK b (if fin=4 then{ t with ay:=t.ay++t.au }else t)::R)) (λj hj=>?_) ?_
 ·by_cases c:fin=4
  ·refine qz c (qZ ?_);refine qG (qQ (qo (qK H0 .here rfl ?_)));refine qu H0 e_2<|jS (λc s h'=>∃i:Nat,s=(.int .i64 (i:Int),.int .i64 (t.au.length:Int),q.gv,.ptr b 0,())∧i≤t.au.length∧c=t.au.length-i∧HS g h' (GS b { t with ay:=t.ay++t.au.take i } q R))
    ?_ (by grind) ⟨0,rfl,Nat.zero_le _,rfl,by simp_all⟩
   rintro c ih s h3 bN ⟨i,rfl,hi,rfl,H⟩;by_cases ax:i<t.au.length
   ·refine jc omQ (qZ ?_);refine xQ (H.sl e_2) ax omQ (vP (sz:=2) (enc:=jn) (λ_=>rfl) (iW ax))<|qM H rfl λb2 h4 H4=>?_;refine qe H4 (b:=b2) .here rfl (by simp) rfl λh5 H5=>?_;refine qG (qQ (qK H5 e_1 rfl ?_));refine qQ (qK H5 .here rfl ?_);refine qQ (qK H5 .here rfl ?_);refine qh H5 rfl rfl rfl rfl λv2 h6 H6=>?_;have H7:=H6.aM (P:=dF q.lb (t.ay++t.au.take i)) e_8;refine qW (OO (bs:=[t.au[i].1]) omQ (by grind) H7 (H7.drop.rd (sz:=1) (n:=1) .here)) λ_ h8 H8=>?_;refine qa omQ<|bN (t.au.length-(i+1)) _ _ omQ ⟨i+1,rfl,by omega,rfl,?_⟩;have et:t.ay++t.au.take (i+1)=(t.ay++t.au.take i)++[(t.au[i].1,t.au[i].2)]:=by rw[List.take_add_one,iW ax,List.append_assoc];rfl
    unfold GS;rw[et];exact H8.pk [3,3,3,3,3,3,0,2] 2
   ·obtain rfl:i=t.au.length:=by omega
    refine jH omQ (qJ ?_);rw[List.take_length]at H;exact hj _ _ ⟨rfl,by rw[iJ c];grind[aK.I]⟩
  ·exact qV c (qJ (hj _ _ ⟨rfl,by grind⟩))
 ·rintro _ h1 ⟨rfl,H⟩;refine qW (Qf omQ ?_ H) λ_ h4 H4=>qx (qY H4);have h1:=C.aN;have h2:=C.ay;have h3:=C.lt
  split
  ·exact⟨C.set,C.me,C.aD,C.jl,by grind,by grind,C.ah,by simp,by simp,λ_=>rfl⟩
  ·exact C.toThrB.next C.lt
theorem qka {an:cE} {draw:Int} (hn:13≤n) (B:ThrB t) (hg:t.au.length≤1000000) (hd:0≤draw∧draw<256) (H:HS g h (aK b t::R)):aH n 62 [.ptr b 0,.agg (xi an),.int .u8 draw] h λ_ h'=>
  HS g h' (aK b (if an.err=0∧an.word≠0∧(t.aX=false∨an.word=t.since)then{ t with aX:=true,since:=an.word }else xE t draw)::R):=by
 refine cY rfl omQ λk hk=>?_;unfold S62;try simp only[iZ]
 obtain⟨q,H0⟩:=aK.E H;refine qM H0 rfl λv0 h1 H1=>?_;have no:∀c:¬(an.err=0∧an.word≠0∧(t.aX=false∨an.word=t.since)),wp (zS (callT tab qj k) (.fn 90 [] []) [.ptr b 0,.int .u8 draw] h1 λ_ h'=>some (.cn [],h')) λ_ h'=>
  HS g h' (aK b (if an.err=0∧an.word≠0∧(t.aX=false∨an.word=t.since)then{ t with aX:=true,since:=an.word }else xE t draw)::R):=λc=>by
  rw[iQ c];exact qW (qKR omQ B hg hd (aK.I H1.drop)) λ_ h2 H2=>qY H2
 refine qQ (qK H1 .here rfl ?_);by_cases c1:an.err=0
 ·refine qz c1<|qX ?_
  try dsimp only
  refine qb (qQ (qK H1 .here rfl ?_));by_cases c2:an.word=0
  ·refine jB c2 (qB ?_);refine qX ?_
   try dsimp only
   refine qS (qX ?_)
   try dsimp only
   refine ze (qX ?_)
   try dsimp only
   refine qS (qH (qJ ?_));exact no λh=>h.2.1 c2
  ·refine jg c2 (qB ?_);refine qX ?_
   try dsimp only
   refine qb ?_
   have yes:∀c:(t.aX=false∨an.word=t.since),wp (jJ (.ptr v0 0) 0 λv22=>ji h1 v22 λrO=>yB (.ptr b 0) λv24=>jJ v24 25 λpH=>zV h1 pH (.bool true) 1 λLr=>yB (.ptr b 0) λuJ=>jJ uJ 24 λv28=>
     zV Lr v28 rO 1 λtW=>Xz v22 none rO h1 Lr h1.nx (some (.cn [],tW))) λ_ h'=>
      HS g h' (aK b (if an.err=0∧an.word≠0∧(t.aX=false∨an.word=t.since)then{ t with aX:=true,since:=an.word }else xE t draw)::R):=λc=>by
    rw[iJ ⟨c1,c2,c⟩];refine qo (qK H1 .here rfl ?_);refine qG (qQ ?_);refine qw H1 e_1 ⟨rfl,rfl⟩ (by simp[vk]) λh2 H2=>?_;refine qG (qQ ?_);refine qw H2 .here ⟨rfl,rfl⟩ (by simp[vk]) λh3 H3=>?_;refine qT H1 .here rfl H2 e_1 rfl (HS.lt H1 .here)<|qY (aK.I (H3.pk [0] 1))
   by_cases c3:t.aX=false
   ·refine qG (qQ (qK H1 e_1 (x:=.bool false) (by rw[← c3];rfl) ?_));refine je (qX ?_)
    try dsimp only
    refine jG (qX ?_)
    try dsimp only
    refine qb (qB ?_)
    try dsimp only
    refine qB (qZ ?_);refine qX<|yes (.inl c3)
   ·have c3':t.aX=true:=by grind
    refine qG (qQ (qK H1 e_1 (x:=.bool true) (by rw[← c3'];rfl) ?_));refine jR (qX ?_)
    try dsimp only
    refine qp (qQ (qK H1 .here rfl ?_));refine qG (qQ (qK H1 e_1 rfl ?_));by_cases c4:an.word=t.since
    ·refine qz c4<|qX ?_
     try dsimp only
     refine qb (qH ?_)
     try dsimp only
     refine qB (qZ ?_);refine qX<|yes (.inr c4)
    ·refine qV c4<|qX ?_
     try dsimp only
     refine qb (qH ?_)
     try dsimp only
     refine qB (qJ ?_);exact no λh=>by grind
 ·refine qV c1<|qX ?_
  try dsimp only
  refine qS (qH (qX ?_))
  try dsimp only
  refine qS (qX ?_)
  try dsimp only
  refine ze (qX ?_)
  try dsimp only
  refine qS (qH (qJ ?_));exact no λh=>c1 h.1
theorem bn.E {r:List yr} {v:AV} (H:HS g h (bn r v::R)):∃zs:List (yr×J7),zs.map (·.1)=r∧HS g h (aa 92 14 zs.length v (zs.flatMap λz=>xc z.1 z.2):: .all (zs.flatMap λz=>wK z.1 z.2)::R):=by obtain⟨zs,H⟩:=H.fh;exact⟨zs,H.cI.fo⟩
theorem bn.I {r:List yr} {v:AV} {zs:List (yr×J7)} (hl:zs.map (·.1)=r) (H:HS g h (aa 92 14 zs.length v (zs.flatMap λz=>xc z.1 z.2):: .all (zs.flatMap λz=>wK z.1 z.2)::R)):HS g h (bn r v::R) :=
 HS.fH zs (HS.allI (HS.fR hl H))
theorem Xp {A B:List SP} (H:HS g h (.all A::(B++R))):HS g h (.all (A++B)::R):=by refine HS.allI ?_;rw[List.append_assoc];exact H.cI
theorem Kh {draw pick:Int} (hn:15≤n) (C:QH t) (hx:t.now=some x) (hp:t.ao.length≤1000000) (hcf:t.ak≤1000000) (Ba:(t.results.length:Int)≤t.aN+(if t.aE=true then 1 else 0)) (hd:0≤draw∧draw<256) (H:HS g h (aK b t::R)) :
  aH n 61 [.ptr b 0,.int .u8 draw,.int .i64 pick] h λ_ h'=>HS g h' (aK b (zP t x draw pick)::R):=by
 refine cY rfl omQ λk hk=>?_;unfold S61;try simp only[iZ]
 have hN:=C.now x hx;have O:=hN.1;have IF:t.ay.length+t.au.length≤63000:=C.len (by grind);have hT:=C.ak;have hCf:=C.aI;have fQ:=C.jl;have hjb:=C.aN;have ax:=C.lt;obtain⟨a,q,H0⟩:=aK.V hx H;clear H;refine qG (qQ (qK H0 e_1 rfl ?_));refine qX ?_
 try dsimp only
 refine qG (qQ (qK H0 e_1 rfl ?_));refine qW (qWS omQ O H0) ?_;rintro _ h1 ⟨z,rfl,H1⟩;have H1:HS g h1 (aa 177 2 (jY t x pick).reads.length z.rv ((jY t x pick).reads.flatMap jn)::aa 177 2 (jY t x pick).cells.length z.cv ((jY t x pick).cells.flatMap jn)::aa z.fe 1 (jY t x pick).dj.length z.fv ((jY t x pick).dj.map (.int .i64))::cR a b t x q R):=H1;have o1:=H1.one (v:=z.rv) .here;have o2:=H1.one (v:=z.cv) e_1;have o3:=H1.one (v:=z.fv) e_2;have a1:qt (xc (jY t x pick) z)=true:=by simp only[qt,xc,List.all_cons,o1.2,o2.2,o3.2];rfl
 refine qh H1 rfl rfl rfl a1 λv2 h2 H2=>?_;obtain⟨zs,rQ,H3⟩:=bn.E (H2.aM (P:=bn t.ao q.pv) e_8);have pW:zs.length=t.ao.length:=by grind
 refine zX H3 (H3.sl e_2) omQ omQ a1 λv3 h3 H4=>?_;have op:=H4.one .here;refine qG (qQ ?_);refine qw H4 (b:=b) e_7 op (by simp[vk]) λh4 H5=>?_;refine qT H0 e_1 rfl H1 e_4 rfl (HS.lt H0 e_1) ?_
 try dsimp only
 have B1:=Xp (A:=zs.flatMap λz=>wK z.1 z.2) (B:=wK (jY t x pick) z) (H5.sub (.cons e_2 (.cons e_3 (.cons e_3 (.cons e_3 .refl)))));have eA:(zs++[(jY t x pick,z)]).flatMap (λz=>wK z.1 z.2)=(zs.flatMap λz=>wK z.1 z.2)++wK (jY t x pick) z:=by simp
 have eB:(zs++[(jY t x pick,z)]).flatMap (λz=>xc z.1 z.2)=(zs.flatMap λz=>xc z.1 z.2)++xc (jY t x pick) z:=by simp
 have eC:(zs++[(jY t x pick,z)]).length=zs.length+1:=by simp
 have B2:=bn.I (v:=v3) (zs:=zs++[(jY t x pick,z)]) (r:=t.ao++[jY t x pick]) (by grind) (by rw[eA,eB,eC];exact B1.pk [2,0] 0);have H6:HS g h4 (cR a b { t with ao:=t.ao++[jY t x pick] } x { q with pv:=v3 } R):=B2.pk [3,1,2,2,0,1,1,1] 1;clear H0 H1 H2 H3 H4 H5 B1 B2 eA eB eC;refine qG (qQ (qo (qK H6 (b:=b) e_1 (x:=.int .i64 t.ak) rfl ?_)));refine qa omQ<|qG (qQ (qo ?_));refine qw H6 (b:=b) e_1 ⟨rfl,rfl⟩ (by simp[vk]) λh5 H7=>?_;have H8:HS g h5 (cR a b { t with ao:=t.ao++[jY t x pick],ak:=t.ak+1 } x { q with pv:=v3 } R):=H7.pk [1,0] 0;have pf:(t.ao++[jY t x pick]).length=t.ao.length+1:=by simp
 have hps:((t.ao++[jY t x pick]).length:Int)=(t.ao.length:Int)+1:=by simp
 clear H6 H7;generalize{ q with pv:=v3 }=q at*;refine qX ?_
 try dsimp only
 unfold zP;refine qW (Ub omQ H8 .here) ?_;rintro _ _ ⟨rfl,rfl⟩;by_cases c5:jh x=5
 ·rw[iJ c5];refine qz c5 (qZ ?_);refine qG (qQ (qo (qK H8 (b:=b) e_1 (x:=.int .i64 t.aI) rfl ?_)));refine qa omQ<|qG (qQ (qo ?_));refine qw H8 (b:=b) e_1 ⟨rfl,rfl⟩ (by simp[vk]) λh6 H9=>?_;have HA:HS g h6 (cR a b { t with ao:=t.ao++[jY t x pick],ak:=t.ak+1,aI:=t.aI+1 } x q R):=H9.pk [1,0] 0;clear H8 H9;have C3:QH { t with ao:=t.ao++[jY t x pick],ak:=t.ak+1,aI:=t.aI+1 } :=
   C.go rfl rfl rfl rfl rfl rfl rfl C.ah (by grind) (by grind) rfl rfl
  have no:∀c:¬(0≤Qw x∧Qw x<t.set.ag),wp (zS (callT tab qj k) (.fn 90 [] []) [.ptr b 0,.int .u8 draw] h6 λ_ h'=>xB [] h' λh'=>some (.cn [],h')) λ_ h'=>
    HS g h' (aK b (if 0≤Qw x∧Qw x<t.set.ag then{ t with ao:=t.ao++[jY t x pick],ak:=t.ak+1,aI:=t.aI+1,state:=2,ch:=Qw x,aX:=false }else xE { t with ao:=t.ao++[jY t x pick],ak:=t.ak+1,aI:=t.aI+1 } draw)::R):=λc=>by
   rw[iQ c];exact qW (qKR (t:={ t with ao:=t.ao++[jY t x pick],ak:=t.ak+1,aI:=t.aI+1 }) omQ C3.toThrB (by grind) hd (cR.I hx HA)) λ_ h2 H2=>qx (qY H2)
  refine qX ?_
  try dsimp only
  refine qW (TW omQ HA .here) ?_;rintro _ _ ⟨rfl,rfl⟩;by_cases d1:0≤Qw x
  ·refine z8 d1 (qb ?_);refine qW (TW omQ HA .here) ?_;rintro _ _ ⟨rfl,rfl⟩;refine qG (qQ (qo (qo (qK HA (b:=b) e_1 (x:=.int .i64 t.set.ag) rfl ?_))));by_cases d2:Qw x<t.set.ag
   ·refine jc d2 (qB ?_);refine qT HA e_1 rfl HA e_1 rfl (HS.lt HA e_1) ?_
    try dsimp only
    refine qZ ?_;rw[iJ ⟨d1,d2⟩];refine qW (TW omQ HA .here) ?_;rintro _ _ ⟨rfl,rfl⟩;refine qG (qQ ?_);refine qw HA (b:=b) e_1 ⟨rfl,rfl⟩ (by simp[vk]) λh7 HB=>?_;refine qG (qQ ?_);refine qw HB (b:=b) .here ⟨rfl,rfl⟩ (by simp[vk]) λh8 HC=>?_;refine qG (qQ ?_);refine qw HC (b:=b) .here ⟨rfl,rfl⟩ (by simp[vk]) λh9 HD=>?_;refine qY<|cR.I (t:={ t with ao:=t.ao++[jY t x pick],ak:=t.ak+1,aI:=t.aI+1,state:=2,ch:=Qw x,aX:=false }) (q:=q) hx (HD.pk [1,0] 0)
   ·refine jH d2 (qB ?_);refine qT HA e_1 rfl HA e_1 rfl (HS.lt HA e_1) ?_
    try dsimp only
    exact qJ (no λh=>d2 h.2)
  ·refine z7 d1 (qS (qH ?_))
   try dsimp only
   exact qJ (no λh=>d1 h.1)
 ·rw[iQ c5];refine qV c5 (qJ ?_);have C2:∀s:Int,QH { t with ao:=t.ao++[jY t x pick],ak:=t.ak+1,state:=s }:=λs=>
   C.go rfl rfl rfl rfl rfl rfl rfl C.ah (by grind) (by grind) rfl rfl
  refine qW (Ub omQ H8 .here) ?_;rintro _ _ ⟨rfl,rfl⟩;by_cases c3:jh x=3
  ·rw[iJ c3];refine qz c3 (qZ ?_);by_cases ca:t.cH=true
   ·rw[iJ ca];refine qG (qQ (qK H8 (b:=b) e_1 (x:=.bool true) (by rw[← ca];rfl) ?_));refine qZ<|qW (Xj (t:={ t with ao:=t.ao++[jY t x pick],ak:=t.ak+1 }) omQ (C2 t.state).toThrB (by grind) (cR.I hx H8)) λ_ h6 H6=>qY H6
   ·have cf:t.cH=false:=by grind
    rw[iQ ca];refine qG (qQ (qK H8 (b:=b) e_1 (x:=.bool false) (by rw[← cf];rfl) ?_));refine qJ (qG (qQ ?_));refine qw H8 (b:=b) e_1 ⟨rfl,rfl⟩ (by simp[vk]) λh6 H9=>?_;refine qx (qY ?_);exact cR.I (t:={ t with ao:=t.ao++[jY t x pick],ak:=t.ak+1,state:=4 }) (q:=q) hx (H9.pk [1,0] 0)
  ·rw[iQ c3];refine qV c3 (qJ ?_);by_cases cs:t.aE=true
   ·rw[iJ cs];refine qG (qQ (qo (qK H8 (b:=b) e_1 (x:=.bool true) (by rw[← cs];rfl) ?_)));refine qZ (qW (Ub omQ H8 .here) ?_);rintro _ _ ⟨rfl,rfl⟩;exact qW (qgT (t:={ t with ao:=t.ao++[jY t x pick],ak:=t.ak+1 }) omQ (C2 t.state) (by grind) (cR.I hx H8)) λ_ h6 H6=>qx (qY H6)
   ·have cf:t.aE=false:=by grind
    rw[iQ cs];refine qG (qQ (qo (qK H8 (b:=b) e_1 (x:=.bool false) (by rw[← cf];rfl) ?_)));refine qJ (qX ?_)
    try dsimp only
    refine qX ?_
    try dsimp only
    refine qG (qQ (qK H8 (b:=b) e_1 rfl ?_));refine qW (Ub omQ H8 .here) ?_;rintro _ _ ⟨rfl,rfl⟩;refine qW (qx1 omQ H8 .here) ?_;rintro _ _ ⟨rfl,rfl⟩;refine qW (OT omQ O H8) ?_;rintro _ h6 ⟨rfl,H9⟩;refine qW (M8 omQ H9 .here) ?_;rintro _ _ ⟨rfl,rfl⟩;refine qI (l:=Oj ⟨jh x,ym x,xq x,x.ad⟩) rfl<|qh (n:=1) (l:=Oj ⟨jh x,ym x,xq x,x.ad⟩) (sz:=4) H9 rfl rfl rfl rfl λv4 h7 HA=>?_;have hrl7:t.results.length≤7:=by grind
    refine zX (HA.aM (P:=aa 57 4 t.results.length q.rv (t.results.flatMap Oj)) e_6) (HA.sl .here) omQ omQ rfl λv5 h8 HB=>?_;have o5:=HB.one .here;refine qG (qQ ?_);refine qw HB (b:=b) e_3 o5 (by simp[vk]) λh9 HC=>?_;refine qT H9 e_1 rfl H9 e_1 rfl (HS.lt H8 e_1)<|qT H8 e_1 rfl H9 e_1 rfl (HS.lt H8 e_1)<|qT H8 e_1 rfl H8 e_1 rfl (HS.lt H8 e_1)<|qT H8 e_1 rfl H8 e_1 rfl (HS.lt H8 e_1) ?_
    try dsimp only
    have eR:(t.results++[(⟨jh x,ym x,xq x,x.ad⟩:OW)]).length=t.results.length+1:=by simp
    have eF:(t.results++[(⟨jh x,ym x,xq x,x.ad⟩:OW)]).flatMap Oj=t.results.flatMap Oj++Oj ⟨jh x,ym x,xq x,x.ad⟩:=by simp
    have HD:HS g h9 (cR a b { t with ao:=t.ao++[jY t x pick],ak:=t.ak+1,results:=t.results++[⟨jh x,ym x,xq x,x.ad⟩] } x { q with rv:=v5 } R):=by unfold cR;rw[eR,eF];exact HC.pk [3,0,2,2,2,0,1,1] 1
    clear H8 H9 HA HB HC eF;refine qX ?_
    try dsimp only
    refine qG (qQ (qK HD (b:=b) e_1 rfl ?_));refine qW (M8 omQ HD .here) ?_;rintro _ _ ⟨rfl,rfl⟩;refine qW (ZY omQ O HD) ?_;rintro fv hA ⟨fe,HE⟩;have Lk:=Uy O (hN.2.2.2.trans cf);have HF:=HE.aM (P:=dF q.lb t.ay) e_7;refine qW (OO (z:=x.ad) (bs:=zr x) omQ omQ HF (HF.drop.rd .here)) λ_ hB HG=>?_;refine qT HD e_1 rfl HE e_2 rfl (HS.lt HD e_1)<|qT HD e_1 rfl HD e_1 rfl (HS.lt HD e_1) ?_
    try dsimp only
    have HH:=cR.I (a:=a) (b:=b) (t:={ t with ao:=t.ao++[jY t x pick],ak:=t.ak+1,results:=t.results++[⟨jh x,ym x,xq x,x.ad⟩],ay:=t.ay++(zr x).map λb=>(b,x.ad) }) (q:={ q with rv:=v5 }) hx
     (HG.pk [2,2,2,2,2,2,0,1] 1)
    have e2:(t.ay++(zr x).map λb=>(b,x.ad)).length=t.ay.length+(zr x).length:=by simp
    have BQ:=C.oh cf;have rC:=C.ay;rw[BQ,List.length_nil]at rC;have C4:QH { t with ao:=t.ao++[jY t x pick],ak:=t.ak+1,results:=t.results++[⟨jh x,ym x,xq x,x.ad⟩],ay:=t.ay++(zr x).map λb=>(b,x.ad) } :=
     ⟨⟨C.set,C.me,C.aD,C.jl,C.aN,by grind,
      C.ah,by grind,by grind,C.oh⟩,C.now,C.lt,C.some⟩
    exact qW (jJt omQ C4 cf (by grind) HH) λ_ hC HI=>qx (qY HI)
end
end
section
variable {g h:AH} {L R:List SP}
section
variable {n a b:Nat} {t:qd} {q:NC} {x:qf}
theorem xr.rl (O:xr t):t.ay.length+t.au.length≤63000:=O.b.len (by have:=O.lV;grind)
theorem qwl {an:cE} {draw pick:Int} (hn:27≤n) (O:xr t) (ha:vB an) (hd:0≤draw∧draw<256) (hp:t.ao.length≤900000) (H:HS g h (aK b t::R)) :
  aH n 32 [.ptr b 0,.agg (xi an),.int .u8 draw,.int .i64 pick] h λ_ h'=>HS g h' (aK b (jQ t an draw pick)::R):=by
 refine sX rfl omQ λk hk=>?_;unfold S32;try simp only[iZ]
 have cd:=O.st;have IF:=O.rl;have hT:=O.b.ak;have cS:=O.lV;obtain⟨q,H0⟩:=aK.E H;refine qM H0 rfl λv0 h1 H1=>?_;refine qG (qQ (qK H1 e_1 rfl ?_));refine qX ?_
 try dsimp only
 unfold jQ;by_cases c1:t.state=1
 ·rw[iJ c1];refine qz c1 (qZ ?_);have C:=O.c omQ;cases hx:t.now with
  |none=>exact absurd hx C.some
  |some x=>
   have hN:=C.now x hx;have hS:=Kb x an;have hr:(t.results.length:Int)≤t.aN+(if t.aE=true then 1 else 0):=by
    grind
   have C':∀b:Int,QH { t with now:=some (qL x an),born:=b }:=λb=>⟨⟨C.set,C.me,C.aD,C.jl,C.aN,C.ay,C.ah,C.ak,C.aI,C.oh⟩,λy hy=>by
    cases hy
    exact⟨XN hN.1 ha,hS.me.trans hN.2.1,hS.set.trans hN.2.2.1,hS.sw.trans hN.2.2.2⟩,C.lt,λh=>by grind⟩
   obtain⟨a,q,H2⟩:=aK.V hx (aK.I (H1.pk [1,1,1,1,1,1,1,1,0] 0));have H2:HS g h1 (cR a b t x q (qk v0 (xi an)::R)):=H2;clear H1;refine qG (qQ (qK H2 e_1 rfl ?_));refine qW (Kt omQ H2 .here) ?_;rintro _ _ ⟨rfl,rfl⟩;refine qy rfl (qy rfl ?_);refine qG (qQ (qK H2 e_1 rfl ?_));refine qD H2 e_8 rfl omQ rfl<|qW (qwH omQ hN.1 ha H2) λ_ h3 H3=>?_;unfold zU;dsimp only;generalize hy:qL x an=y at H3 C' ⊢;generalize Dt:(if y.begun=true∧x.begun=false then pick else t.born)=bo;have key:∀(bo:Int) (h':AH),HS g h' (cR a b { t with now:=some y,born:=bo } y q (qk v0 (xi an)::R))→
     wp (yB (.ptr b 0) λv28=>jJ v28 16 λE8=>ji h' E8 λv30=>zS (callT tab qj k) (.fn 60 [] []) [v30] h' λv31 BW=>zB .neq v31 (.int .i64 ((0:Nat):Int)) λuK=>xA uK
      (zS (callT tab qj k) (.fn 61 [] []) [.ptr b 0,.int .u8 draw,.int .i64 pick] BW λ_ R6=>xB [] R6 λh9=>some (.cn [],h9)) (xB [] BW λh9=>some (.cn [],h9)))
      λ_ h'=>HS g h' (aK b (if jh y=0 then{ t with now:=some y,born:=bo }else zP { t with now:=some y,born:=bo } y draw pick)::R):=λbo h' H4=>by
    refine qG (qQ (qK H4 e_1 rfl ?_));refine qW (Ub omQ H4 .here) ?_;rintro _ _ ⟨rfl,rfl⟩;have H5:=cR.I (t:={ t with now:=some y,born:=bo }) rfl H4;have H5:=H5.sub (.cons .here (.drop .refl));by_cases c:jh y=0
    ·rw[iJ c];exact jB c (qJ (qx (qY H5)))
    ·rw[iQ c];refine jg c (qZ ?_);exact qW (Kh omQ (C' bo) rfl (by grind) (by grind) hr hd H5) λ_ h6 H6=>qx (qY H6)
   refine qX ?_
   try dsimp only
   refine qG (qQ (qK H3 e_1 rfl ?_));refine qW (Kt omQ H3 .here) ?_;rintro _ _ ⟨rfl,rfl⟩;refine qy rfl (qy rfl ?_);refine qX ?_
   try dsimp only
   have H4:HS g _ (cR a b { t with now:=some y,born:=t.born } y q (qk v0 (xi an)::R)):=H3;by_cases d1:y.begun=true
   ·rw[d1];refine qb ?_;by_cases d2:x.begun=true
    ·rw[d2];rw[d1,d2,iQ (λh=>by grind)]at Dt;subst Dt;refine jR (qB (qJ ?_));exact key _ _ H4
    ·have d2':x.begun=false:=by grind
     rw[d2'];rw[d1,d2',iJ ⟨rfl,rfl⟩]at Dt;subst Dt;refine je (qB (qZ ?_));refine qG (qQ ?_);refine qw H3 e_1 ⟨rfl,rfl⟩ (by simp[vk]) λh5 H5=>?_;exact key pick _ (H5.pk [1,0] 0)
   ·have d1':y.begun=false:=by grind
    rw[d1'];rw[d1',iQ (λh=>by grind)]at Dt;subst Dt;refine qS (qH (qJ ?_));exact key _ _ H4
 ·rw[iQ c1];refine qV c1 (qJ ?_);have H2:=aK.I (b:=b) (t:=t) (q:=q) H1.drop;by_cases c2:t.state=2
  ·rw[iJ c2];refine qz c2 (qZ ?_);refine qD H1 .here rfl omQ rfl<|qW (qka omQ O.b omQ hd H2) λ_ h6 H6=>qx (qY H6)
  ·rw[iQ c2];refine qV c2 (qJ ?_);by_cases c5:t.state=5
   ·rw[iJ c5];refine qz c5 (qZ ?_);have C:=O.c omQ;have ng:=O.Lz c5;have h4:=C.set.ag;refine qX ?_
    try dsimp only
    refine qQ (qK H1 .here rfl ?_);by_cases ce:an.err=0
    ·refine jB ce (qJ ?_)
     try dsimp only
     refine qQ (qK H1 .here rfl ?_);rw[iQ (λh=>h ce)];exact qW (OH omQ C (O.LA c5) omQ omQ H2) λ_ h6 H6=>qx (qY H6)
    ·refine jg ce (qZ ?_);refine qQ (qw H1 .here ⟨rfl,rfl⟩ (by simp[xi]) λh3 H3=>?_)
     try dsimp only
     refine qQ (qK H3 .here rfl ?_);rw[iJ ce];exact qW (OH omQ C (O.LA c5) omQ omQ (aK.I H3.drop)) λ_ h6 H6=>qx (qY H6)
   ·rw[iQ c5];exact qV c5 (qJ (qx (qY H2)))
theorem qgs (hn:5≤n) (O:xr t) (H:HS g h (aK b t::R)):aH n 30 [.ptr b 0] h λr h'=>r=ua (jb t)∧HS g h' (aK b t::R):=by
 refine aG rfl omQ λk hk=>?_;unfold S30;try simp only[iZ]
 obtain⟨q,H0⟩:=aK.E H;refine qM H0 rfl λv0 h1 H1=>?_;refine qG (qQ (qK H1 e_1 rfl ?_));unfold jb;have Cp:∀{o:dG} {h':AH},HS g h' (qk v0 (vK o)::GS b t q R)→wp (zp h' (.ptr v0 0) 10 λv=>some (.cn [v,.bool true],h')) λr h'=>r=ua (some o)∧HS g h' (aK b t::R):=λ{o h'} H'=>by
  refine qD H' .here rfl omQ rfl<|qY ⟨rfl,aK.I H'.drop⟩
 by_cases c1:t.state=1
 ·rw[iJ c1];refine qz c1 (qZ ?_);have C:=O.c omQ;cases hx:t.now with
  |none=>exact absurd hx C.some
  |some x=>have hN:=C.now x hx;obtain⟨a,q,H2⟩:=aK.V hx (aK.I (H1.pk [1,1,1,1,1,1,1,1,0] 0));refine qG (qQ (qK H2 e_1 rfl ?_));refine qW (qv1 omQ hN.1 H2) ?_;rintro _ h3 ⟨rfl,H3⟩;refine qy rfl (qy rfl ?_);refine qe H3 e_8 rfl (by trivial) rfl λh4 H4=>?_;refine qD H4 .here rfl omQ rfl<|qY ⟨rfl,cR.I hx (H4.drop.pk [0] 0)⟩
 ·rw[iQ c1];refine qV c1 (qJ ?_);by_cases c2:t.state=2
  ·rw[iJ c2];refine qz c2 (qZ ?_);refine qG (qQ (qK H1 e_1 rfl ?_));refine qI rfl<|qe H1 .here rfl (by simp) rfl λh3 H3=>Cp H3
  ·rw[iQ c2];refine qV c2 (qJ ?_);by_cases c5:t.state=5
   ·rw[iJ c5];refine qz c5 (qZ ?_);refine qG (qQ (qK H1 e_1 rfl ?_));refine qu H1 e_8<|qI rfl<|qe H1 .here rfl (by simp) rfl λh3 H3=>Cp H3
   ·rw[iQ c5];refine qV c5 (qJ ?_);refine qI rfl<|qe H1 .here rfl (by simp) rfl λh3 H3=>?_;refine qD H3 .here rfl omQ rfl<|qY ⟨rfl,aK.I H3.drop⟩
theorem qqT {r:List zd} {st eE:Int} {i:Nat} (hi:i<r.length):yO (r.drop i) st eE=(decide (r[i].1=st∧r[i].2≠eE)||yO (r.drop (i+1)) st eE):=by unfold yO;rw[List.drop_eq_getElem_cons hi,List.any_cons]
theorem jJa {st eE:Int} (hn:12≤n) (O:xr t) (H:HS g h (aK b t::R)):aH n 33 [.ptr b 0,.int .i64 st,.int .u64 eE] h λ_ h'=>HS g h' (aK b (jm t st eE)::R):=by
 refine cY (S:=S33) rfl omQ λk hk=>?_;unfold S33;try simp only[iZ]
 have IF:=O.rl;cases hx:t.now with
 |none=>
  obtain⟨q,H0⟩:=aK.E H;have e:q.nv=.ba:=by have H1:=H0.aM (P:=ij t.now q.nv) e_3;rw[hx]at H1;exact H1.fo.1
  refine qG (qQ (qK H0 (b:=b) .here (x:=.ba) (by rw[← e];rfl) ?_));have eW:jm t st eE=t:=by
   grind[jm]
  rw[eW];exact Ns (qZ (qY H))
 |some x=>
  have eW:jm t st eE=if yO x.r st eE=true then(if t.state=4 then zO t else if t.state=1∧vH x=true then{ t with cH:=true }else t)else t:=by
   grind[jm]
  rw[eW];have C:=O.c (λh6=>by have:=(O.fin h6).2;grind);have hN:=C.now x hx;have hr:=hN.1.r;obtain⟨a,q,H0⟩:=aK.V hx H;refine qG (qQ (qK H0 e_1 rfl ?_));refine Vb (qJ ?_);refine qG (qQ (qK H0 e_1 rfl ?_));refine qW (qwO omQ hN.1 H0) λv h1 H1=>?_;refine qu H1 .here<|jS (λc s h'=>∃i:Nat,s=(.int .i64 (i:Int),.int .i64 (x.r.length:Int),v,.int .u64 eE,.int .i64 st,.ptr b 0,())∧i≤x.r.length∧c=x.r.length-i∧yO x.r st eE=yO (x.r.drop i) st eE∧HS g h' (aa 129 2 x.r.length v (x.r.flatMap gk)::cR a b t x q R))
   ?_ (by grind) ⟨0,rfl,Nat.zero_le _,rfl,rfl,H1⟩
  clear H H0 H1;rintro c ih s h3 bN ⟨i,rfl,hi,rfl,hs,H⟩;have HT:=(cR.I (t:=t) hx H.drop);by_cases ax:i<x.r.length
  ·refine jc omQ (qZ ?_);refine xQ (H.sl .here) ax omQ (vP (sz:=2) (enc:=gk) (λ_=>rfl) (iW ax))<|qM H rfl λb2 h4 H4=>?_;refine qe H4 (b:=b2) .here rfl (by simp) rfl λh5 H5=>?_;rw[qqT ax]at hs;have H6:HS g h5 (aa 129 2 x.r.length v (x.r.flatMap gk)::cR a b t x q R):=H5.drop;have on:∀c:¬(x.r[i].1=st∧x.r[i].2≠eE),wp (ih (.int .i64 (i+((1:Nat):Int)),.int .i64 (x.r.length:Int),v,.int .u64 eE,.int .i64 st,.ptr b 0,()) h5 []) λ_ h'=>HS g h' (aK b (if yO x.r st eE=true then(if t.state=4 then zO t else if t.state=1∧vH x=true then{ t with cH:=true }else t)else t)::R):=λc=>by
    rw[iV c,Bool.false_or]at hs;exact bN (x.r.length-(i+1)) _ _ omQ ⟨i+1,rfl,by omega,rfl,hs,H6⟩
   refine qQ (qK H5 .here rfl ?_);by_cases c1:x.r[i].1=st
   ·refine jB c1<|qX ?_
    try dsimp only
    refine qp (qQ (qK H5 .here rfl ?_));by_cases c2:x.r[i].2=eE
    ·refine qz c2 (qH (qZ ?_));exact qa omQ (on λh=>h.2 c2)
    ·refine qV c2 (qH (qJ ?_));rw[iG ⟨c1,c2⟩,Bool.true_or]at hs;rw[iJ hs];clear on bN;refine qX ?_
     try dsimp only
     refine qG (qQ (qK H6 e_2 rfl ?_));have HT:=(cR.I (t:=t) hx H6.drop);by_cases c4:t.state=4
     ·rw[iJ c4];refine qz c4 (qZ ?_);exact qW (Xj omQ C.toThrB omQ HT) λ_ h7 H7=>qx (qY H7)
     ·rw[iQ c4];refine qV c4 (qJ ?_);refine qG (qQ (qK H6 e_2 rfl ?_));refine qX ?_
      try dsimp only
      by_cases c5:t.state=1
      ·refine qz c5 (qb ?_);refine qG (qQ (qK H6 e_2 rfl ?_));obtain⟨q2,H7⟩:=aL.E (H6.aM e_1);refine qW (Zu omQ H7 .here) ?_;rintro _ _ ⟨rfl,rfl⟩;by_cases c6:vH x=true
       ·rw[c6,iJ ⟨c5,rfl⟩];refine qB (qZ ?_);refine qG (qQ ?_);refine qw H6 e_2 ⟨rfl,rfl⟩ (by simp[vk]) λh8 H8=>?_;refine qx (qY ?_);exact cR.I hx (H8.pk [2,0] 1)
       ·have c6':vH x=false:=by grind
        rw[c6',iQ (λh=>by grind)];exact qB (qJ (qx (qY HT)))
      ·rw[iQ (λh=>c5 h.1)];exact qV c5 (qS (qH (qJ (qx (qY HT)))))
   ·refine jg c1<|qX ?_
    try dsimp only
    refine jG (qB (qZ ?_));exact qa omQ (on λh=>c1 h.1)
  ·obtain rfl:i=x.r.length:=by omega
   refine jH omQ (qJ ?_);rw[List.drop_length]at hs;rw[hs];exact qx (qY HT)
end
end
section
variable {g h:AH} {L R:List SP}
theorem qyI {D:Nat→Prop} {sz n hi b cp AR:Nat} {o:Bool} {xs:List AV} (S:Sl D h sz n (.slice b 0 n cp o) xs) (hle:hi≤n):Sl D h sz hi (.slice b 0 hi AR o) (xs.take (hi*sz)):=by
 have hm:=Nat.mul_le_mul_right sz hle;cases S with
 |mk hd hb hr hl ha=>exact .mk hd hb hr (by grind) λi mq=>by grind
theorem qWO {hi sz n:Nat} {e:TypeId} {k:IntKind} {v:AV} {xs:List AV} {K:AV→Go.Ae.R} {Q:AV→AH→Prop} (H:HS g h L) (s:bp L (aa e sz n v xs) R) (bP:0<sz) (hle:hi≤n)
  (w:∀v',Rd g L sz hi v' (xs.take (hi*sz))→wp (K v') Q):wp (yh h e sz v none (some (.int k (hi:Int))) K) Q:=by
 obtain⟨D,hl,⟨rfl,hn,hD⟩ |⟨b,cp,o,zs,rfl,hD,A,q1,q2,q3⟩⟩:=H.p s
 ·subst hn;obtain rfl:hi=0:=by omega
  exact w .ap λ_ _=>by rw[Nat.zero_mul,List.take_zero];exact .ap
 ·cases o with
  |false=>
   rw[iQ aW]at q3;refine RC (hi:=hi) (lo:=0) (gO omQ) rfl ?_;have:=w (.slice b 0 hi cp false) λh' H'=>qyI (H'.sl s) hle;have e0:(bif Nat.beq cp 0 then 0 else 0+0*sz)=0:=by simp
   rw[e0];exact this
  |true=>rw[iJ rfl]at q3;subst q3;refine RD (i0:=0) (hi:=hi) (lo:=0) A bP omQ omQ (gO hle) rfl (.inr rfl) ?_;have:=w (.slice b 0 hi 0 true) λh' H'=>qyI (H'.sl s) hle;simpa using this
theorem qZ0 {n m:Nat} {e:TypeId} {v:AV} {xs:List AV} {R2:List SP} (hn:1≤n) (H:HS g h L) (s:bp L (aa e 5 m v xs) R2) (ha:qt xs=true) (hm:m≤1000000) :
  aH n 51 [v] h λr h'=>HS g h' (aa 46 5 m r xs::L):=by
 refine aG rfl omQ λk hk=>?_;unfold S51;try simp only[iZ]
 refine K8 H s (λh1 h2=>?_) (qJ ?_)
 ·subst h1 h2;obtain rfl:xs=[]:=iA (by simpa using H.ed s);exact qZ (qY H.ap)
 ·refine qh (l:=[]) H rfl rfl rfl rfl λv2 h2 H2=>?_;refine zX H2 (H2.sl (.there s)) omQ omQ ha λv3 h3 H3=>?_;rw[Nat.zero_add,List.nil_append]at H3;exact qY H3
section
variable {n b:Nat} {t:qd} {q:NC}
theorem qVU {me:Int} {s:jz} {js:List (List qR)} {v:AV} (hn:13≤n) (_:-1000000≤me∧me≤1000000) (hs:0≤s.start) (hj:∀l∈js,(xO l).2=0∧Quiet l) (fQ:js.length≤1000000) (H:HS g h (aV js v::R)) :
  aH n 28 [.int .i64 me,.agg (vR s),v] h λr h'=>∃b,r=.ptr b 0∧HS g h' (aK b (Uc me s js)::aV js v::R):=by
 refine cY rfl omQ λk hk=>?_;unfold S28;try simp only[iZ]
 obtain⟨vs,FZ,H⟩:=aV.E H;refine qM H rfl λb0 h1 H1=>?_;refine qD H1 .here rfl omQ rfl<|qW (Nx omQ H1) ?_;rintro _ h2 ⟨rfl,H2⟩;clear H H1;have SO:=gW hs;refine qe H2 .here rfl (by simp) rfl λh3 H3=>?_;have H3:HS g h3 (qk b0 (vR (jO s))::aa 49 1 js.length v vs:: .all (List.zipWith xU vs js)::R):=H3;unfold Uc;generalize jO s=S at*;clear H2;have h4:=SO.ag;refine qX ?_
 try dsimp only
 refine qQ (qo (qK H3 .here rfl ?_));refine zL omQ (zi (xR ?_));refine qD H3 .here rfl omQ rfl<|qW (qjT omQ H3) ?_;rintro _ h5 ⟨lb,rfl,H5⟩;have et:max ((0:Nat):Int) (min me (S.ag-((1:Nat):Int)))=max 0 (min me (S.ag-1)):=rfl;rw[et]
 let T:List (List qR)→qd:=λjs=>⟨max 0 (min me (S.ag-1)),S,js,-1,0,false,[],0,0,none,0,false,[],[],[],[],0,0,false,0⟩
 refine qI rfl<|qM H5 rfl λb h6 H6=>?_;refine xG H3 .here rfl H5 e_1 rfl rfl omQ (HS.lt H3 .here)<|qT H3 .here rfl H5 e_1 rfl (HS.lt H3 .here) ?_
 try dsimp only
 have N1:=(H6.ap (e:=164) (sz:=2));have N2:=HS.fR (φ:=AV.ba=.ba) rfl N1;have N3:=bn.I (r:=[]) (v:=.ap) (zs:=[]) rfl ((HS.allI (A:=[]) N2).ap);have N4:=N3.ap (e:=57) (sz:=4);have N5:=N4.ap (e:=22) (sz:=1);have N6:=aV.I (js:=[]) (v:=.ap) (vs:=[]) rfl ((HS.allI (A:=[]) N5).ap);have N7:HS g h6 (GS b (T []) ⟨.ap,.ap,.ba,.ap,.ap,lb,.ap⟩ (aa 49 1 js.length v vs:: .all (List.zipWith xU vs js)::R)) :=
  N6.pk [6,0,4,3,2,1,1,0] 1
 have N8:=aK.I N7;clear N1 N2 N3 N4 N5 N6 N7 H3 H5 H6;refine qu N8 e_1<|zi ?_;rw[show min ((js.length:Nat):Int) ((6:Nat):Int)=((min js.length 6:Nat):Int) by omega];have hm6:min js.length 6≤js.length∧min js.length 6≤6:=by omega
 have TX:js.take (min js.length 6)=js.take 6:=by
  grind
 rw[← TX];generalize min js.length 6=m at*;refine qWO (hi:=m) N8.drop .here omQ hm6.1 λv' SV=>?_;refine yy (SV.more.sl N8)<|jS (λc s h'=>∃i:Nat,s=(.int .i64 (i:Int),.int .i64 (m:Int),v',.ptr b 0,())∧i≤m∧c=m-i∧HS g h' (aK b (T (js.take i))::aa 49 1 js.length v vs:: .all (List.zipWith xU vs js)::R))
  ?_ (by grind) ⟨0,rfl,Nat.zero_le _,rfl,N8⟩
 clear N8;rintro c ih s h7 bN ⟨i,rfl,hi,rfl,H⟩;by_cases ax:i<m
 ·have mN:i<js.length:=by omega
  have LJ:i<vs.length:=by omega
  have AY:js[i]? =some js[i]:=iW mN;have hz:(List.zipWith xU vs js)[i]? =some (xU vs[i] js[i]):=by grind
  have eK:=hj _ (List.getElem_mem mN);have hle:=(U1 eK.1).le;have HB0:=(H.aM (P:=.all (List.zipWith xU vs js)) e_2).cI;have o0:One vs[i]:=HB0.one (Vo hz);refine jc omQ (qZ ?_);refine xQ (l:=[vs[i]]) (SV.more.sl H) ax omQ (by rw[Nat.mul_one,Nat.mul_one,List.drop_eq_getElem_cons (by grind)];simp)<|qM H rfl λb2 h8 H8=>?_;refine qe H8 (b:=b2) .here rfl (by simp) (by show qt [vs[i]]=true;simp[qt,o0.2]) λh9 H9=>?_;refine qX ?_
  try dsimp only
  obtain⟨q,HA⟩:=aK.E (H9.aM (P:=aK b (T (js.take i))) e_1);refine qG (qQ (qK HA (b:=b) .here rfl ?_));refine qQ (qK HA e_8 rfl ?_);have HB:=(HA.aM (P:=.all (List.zipWith xU vs js)) e_10).cI;refine qW (qZ0 omQ HB (Vo hz) (XB (λ_=>rfl) _) omQ) λpv hC HC=>?_;have HD:HS g hC (.all (List.zipWith xU vs js)::xU pv js[i]::qk b (vk (T (js.take i)) q)::_):=HS.allI (HS.cG TU HC);have op:=HD.one (e:=46) (sz:=5) (n:=js[i].length) e_1;refine qI (l:=[pv]) (by simp only[vL,op.1];rfl)<|qh (n:=1) (l:=[pv]) (sz:=1) HD rfl rfl (by rfl) (by simp[qt,op.2]) λv2 hE HE=>?_;obtain⟨ws,oX,HF⟩:=aV.E (HE.aM (P:=aV (js.take i) q.jv) e_4);have hti:(js.take i).length=i:=by grind
  refine zX HF (HF.sl e_2) omQ omQ (by simp[qt,op.2]) λv3 hG HG=>?_;have o3:=HG.one .here;refine qG (qQ ?_);refine qw HG (b:=b) e_5 o3 (by simp[vk]) λhH HH=>?_;refine qT HA .here rfl HD e_2 rfl (HS.lt HA .here)<|qa omQ<|bN (m-(i+1)) _ _ omQ ⟨i+1,rfl,by omega,rfl,?_⟩;have et:js.take (i+1)=js.take i++[js[i]]:=by simp
  have ez:List.zipWith xU (ws++[pv]) (js.take i++[js[i]])=List.zipWith xU ws (js.take i)++[xU pv js[i]]:=by rw[List.zipWith_append oX];rfl
  have HI:=Xp (A:=List.zipWith xU ws (js.take i)) (B:=[xU pv js[i]]) (HH.sub (.cons e_2 (.cons e_4 .refl)));have HJ:=aV.I (v:=v3) (js:=js.take i++[js[i]]) (vs:=ws++[pv]) (by grind) (by rw[ez,List.length_append];exact HI.pk [2,0] 0);rw[et];exact aK.I (t:=T (js.take i++[js[i]])) (q:={ q with jv:=v3 }) (HJ.pk [1,0,2,2,2,2,2,2,3,1] 2)
 ·obtain rfl:i=m:=by omega
  refine jH omQ (qJ ?_);refine qW (Qf (t:=T (js.take i)) omQ ⟨SO,by grind,λl hl=>hj l (List.mem_of_mem_take hl),by grind,by grind,Nat.le_refl _,Nat.zero_le _,by simp,by simp,λ_=>rfl⟩ H) λ_ h8 H8=>qx (qY ⟨b,rfl,?_⟩);exact HS.cG e_1 (aV.I FZ (H8.pk [1,1] 0))
end
end
section
variable {g h:AH} {L R:List SP}
def YU (m:zl) (p:Nat) (tv:AV):List AV:=[.int .i64 m.s.words,.int .i64 m.s.ae,.int .i64 m.s.wide,.int .i64 m.s.ag,.int .u64 m.s.start,.int .i64 m.s.af,.int .i64 m.s.writes,.int .i64 m.s.fuel,.ptr p 0,tv,.int .i64 m.aA,
 .int .i64 m.last.kind,.int .i64 m.last.at_,.int .u64 m.last.cD,.int .u64 m.last.word,.int .u64 m.last.aw.1,.bool m.last.aw.2.1,.int .i64 m.last.aw.2.2,.int .u64 m.last.lk.1,.bool m.last.lk.2.1,.int .i64 m.last.lk.2.2,.bool m.did]
def wn (ps:List Nat) (ts:List qd):List SP:=List.zipWith aK ps ts
def X0 (ps:List Nat):List AV:=ps.map λa=>.ptr a 0
abbrev VT (b:Nat) (m:zl) (p:Nat) (tv:AV) (ps:List Nat) (R:List SP):List SP :=
 qk b (YU m p tv)::aa 79 1 m.t.length tv (X0 ps)::cM p m.s m.m:: .all (wn ps m.t)::R
def cq (b:Nat) (m:zl):SP:=.ex λq:Nat×AV×List Nat=>.all (.iq (q.2.2.length=m.t.length)::VT b m q.1 q.2.1 q.2.2 [])
theorem cq.E {b:Nat} {m:zl} (H:HS g h (cq b m::R)):∃p tv ps,ps.length=m.t.length∧HS g h (VT b m p tv ps R):=by obtain⟨⟨p,tv,ps⟩,H⟩:=H.fh;obtain⟨h1,H⟩:=H.cI.fo;exact⟨p,tv,ps,h1,H⟩
theorem cq.I {b p:Nat} {m:zl} {tv:AV} {ps:List Nat} (hl:ps.length=m.t.length) (H:HS g h (VT b m p tv ps R)):HS g h (cq b m::R) :=
 HS.fH (p,tv,ps) (HS.allI (HS.fR hl H))
theorem cq.I1 {b p:Nat} {m:zl} {tv:AV} {ps:List Nat} {X:SP} (hl:ps.length=m.t.length) (H:HS g h (X::VT b m p tv ps R)):HS g h (X::cq b m::R) :=
 HS.cG e_1 (cq.I (tv:=tv) hl (H.pk [1,1,1,1,0] 0))
theorem Nr {A:List SP} {P:SP} {i:Nat} (h:A[i]? =some P):bp A P (A.eraseIdx i):=by
 have:=Vo (R:=[]) h
 grind
theorem TY {ps:List Nat} {ts:List qd} {i a:Nat} {t:qd} (h1:ps[i]? =some a) (h2:ts[i]? =some t):(wn ps ts)[i]? =some (aK a t):=by simp_all[wn,List.getElem?_zipWith]
theorem jQd {ps:List Nat} {ts:List qd} {i a:Nat} {u:qd} (h1:ps[i]? =some a):wn ps (ts.set i u)=(wn ps ts).set i (aK a u):=by
 unfold wn;apply List.ext_getElem?;grind
theorem Z3 {ps:List Nat} {ts:List qd} {i a:Nat} {t:qd} (h1:ps[i]? =some a) (h2:ts[i]? =some t) (H:HS g h (.all (wn ps ts)::R)):HS g h (aK a t:: .all ((wn ps ts).eraseIdx i)::R) :=
 HS.mQ (Nr (TY h1 h2)) H
theorem TZ {ps:List Nat} {ts:List qd} {i a:Nat} {u:qd} (h1:ps[i]? =some a) (h2:i<ts.length) (H:HS g h (aK a u:: .all ((wn ps ts).eraseIdx i)::R)):HS g h (.all (wn ps (ts.set i u))::R):=by
 have e:(wn ps ts).eraseIdx i=(wn ps (ts.set i u)).eraseIdx i:=by rw[jQd h1,List.eraseIdx_set_eq]
 rw[e]at H;exact HS.tf (Nr (TY h1 (List.getElem?_set_self h2))) H
theorem qgC {ps:List Nat} {ts:List qd} {i a:Nat} {t:qd} (h1:ps[i]? =some a) (h2:ts[i]? =some t) (H:HS g h (aK a t:: .all ((wn ps ts).eraseIdx i)::R)):HS g h (.all (wn ps ts)::R) :=
 HS.tf (Nr (TY h1 h2)) H
theorem LK {ps:List Nat} {i a:Nat} (h:ps[i]? =some a):(X0 ps)[i]? =some (.ptr a 0):=by simp_all[X0,List.getElem?_map]
section
variable {n b p:Nat} {m:zl} {tv:AV} {ps:List Nat}
theorem Oz (hn:1≤n) (H:HS g h (cq b m::R)):aH n 8 [.ptr b 0] h λr h'=>r=.int .i64 (m.t.length:Int)∧h'=h:=by
 refine aG rfl omQ λk hk=>?_;unfold S8;try simp only
 obtain⟨p,tv,ps,hl,H⟩:=cq.E H;refine qG (qQ (qK H .here rfl ?_));refine qu H e_1<|qY ⟨rfl,rfl⟩
theorem VC (hn:2≤n) (hb:m.t.length≤1000) (H:HS g h (cq b m::R)):aH n 12 [.ptr b 0] h λr h'=>r=.bool (vp m)∧h'=h:=by
 refine aG rfl omQ λk hk=>?_;unfold S12;try simp only[iZ]
 obtain⟨p,tv,ps,hl,H⟩:=cq.E H;refine qG (qQ (qK H .here rfl ?_));refine qu H e_1<|jS (λc s h'=>∃i:Nat,s=(.int .i64 (i:Int),.int .i64 (m.t.length:Int),tv,())∧i≤m.t.length∧c=m.t.length-i∧(m.t.take i).all (λt=>decide (t.state=6∨t.state=4))=true∧h'=h)
  ?_ (by grind) ⟨0,rfl,Nat.zero_le _,rfl,rfl,rfl⟩
 rintro c ih s _ bN ⟨i,rfl,hi,rfl,ha,rfl⟩;by_cases ax:i<m.t.length
 ·refine jc omQ (qZ ?_);have ht:m.t[i]? =some m.t[i]:=iW ax;have h1:ps[i]? =some (ps[i]'omQ):=iW omQ;refine zY (H.sl e_1) (LK h1) ?_;obtain⟨q,H2⟩:=aK.E (Z3 h1 ht (H.aM e_3));refine qW (qjO omQ H2 .here) ?_;rintro _ _ ⟨rfl,rfl⟩;have no:¬(m.t[i].state=6∨m.t[i].state=4)→vp m=false:=λc=>by
   unfold vp;grind
  have on:(m.t[i].state=6∨m.t[i].state=4)→(m.t.take (i+1)).all (λt=>decide (t.state=6∨t.state=4))=true:=λc=>by
   rw[List.take_add_one,ht,List.all_append,ha];grind
  by_cases c6:m.t[i].state=6
  ·refine jB c6<|qX ?_
   try dsimp only
   refine qS (qH (qJ ?_));refine qa omQ<|bN (m.t.length-(i+1)) _ _ omQ ⟨i+1,rfl,by omega,rfl,on (.inl c6),rfl⟩
  ·refine jg c6<|qX ?_
   try dsimp only
   refine qb ?_;by_cases c4:m.t[i].state=4
   ·refine jB c4 (qB (qJ ?_));refine qa omQ<|bN (m.t.length-(i+1)) _ _ omQ ⟨i+1,rfl,by omega,rfl,on (.inr c4),rfl⟩
   ·refine jg c4 (qB (qZ ?_));exact qx (qY ⟨by grind,rfl⟩)
 ·obtain rfl:i=m.t.length:=by omega
  refine jH omQ (qJ ?_);rw[List.take_length]at ha;exact qx (qY ⟨by grind[vp],rfl⟩)
end
end
section
variable {g h:AH} {L R:List SP}
section
variable {n b p:Nat} {m:zl} {tv:AV} {ps:List Nat}
structure Qi (ts:List qd) (i:Nat) (s v:Int) (k:Nat) (us:List qd):Prop where
  len:us.length=ts.length
  lo:∀j,j<k→us[j]? =(xm ts i s v)[j]?
  hi:∀j,k≤j→us[j]? =ts[j]?
theorem Qi.done {ts us:List qd} {i:Nat} {s v:Int} (W:Qi ts i s v ts.length us):us=xm ts i s v:=by
 have hw:(xm ts i s v).length=ts.length:=by simp[xm]
 apply List.ext_getElem?;intro j;by_cases c:j<ts.length
 ·exact W.lo j c
 ·have h1:=W.len;grind
theorem Qi.same {ts us:List qd} {i:Nat} {s v:Int} (W:Qi ts i s v i us):Qi ts i s v (i+1) us :=
 ⟨W.len,λj hj=>by
  by_cases c:j<i
  ·exact W.lo j c
  ·obtain rfl:j=i:=by omega
   rw[W.hi j (Nat.le_refl _),Jf];simp,λj hj=>W.hi j omQ⟩
theorem Qi.next {ts us:List qd} {i k:Nat} {s v:Int} {t:qd} (W:Qi ts i s v k us) (hk:k≠i) (ht:ts[k]? =some t):Qi ts i s v (k+1) (us.set k (jm t s v)):=by
 have h1:=W.len;have h2:=(List.getElem?_eq_some_iff.1 ht).1;refine⟨by grind,λj hj=>?_,λj hj=>?_⟩
 ·by_cases c:j=k
  ·subst c;rw[List.getElem?_set_self omQ,Jf,ht];grind
  ·rw[List.getElem?_set_ne (λh=>c h.symm)];exact W.lo j omQ
 ·rw[List.getElem?_set_ne omQ];exact W.hi j omQ
theorem KO {i:Nat} {draw:Int} (hn:29≤n) (K:Vg m) (hi:i<m.t.length) (hb:m.t.length≤1000) (hp:m.aA≤900000) (hd:0≤draw∧draw<256) (H:HS g h (cq b m::R)) :
  aH n 10 [.ptr b 0,.int .i64 (i:Int),.int .u8 draw] h λr h'=>r=.int .i64 0∧HS g h' (cq b (jw m i draw)::R):=by
 refine cY rfl omQ λk hk=>?_;unfold S10;try simp only[iZ]
 obtain⟨p,tv,ps,hl,H⟩:=cq.E H;have ht:m.t[i]? =some m.t[i]:=iW hi;have h1:ps[i]? =some (ps[i]'omQ):=iW omQ;obtain⟨O,W,hpa⟩:=K.t i _ ht;have FU:=K.aA;have mo:=K.aT;have MR:=K.r;have KT:=K.t;unfold jw;rw[ht];generalize(ps[i]'omQ)=a at*;generalize hte:m.t[i]=t at*;refine jH omQ<|qX ?_
 try dsimp only
 refine qp (qG (qQ (qK H .here rfl ?_)));refine qu H e_1<|z7 omQ ?_
 try dsimp only
 refine qH (qJ ?_);refine qG (qQ (qK H .here rfl ?_));refine qa omQ<|qG (qQ ?_);refine qw H .here ⟨rfl,rfl⟩ (by simp[YU]) λh2 H2=>?_;refine qG (qQ (qK H2 .here rfl ?_));refine zY (H2.sl e_1) (LK h1) ?_;have H3:=Z3 h1 ht (H2.aM (P:=.all (wn ps m.t)) e_3);refine qW (qgs omQ O H3) ?_;rintro _ h4 ⟨rfl,H4⟩;refine qy rfl (qy rfl ?_);clear H H2 H3;refine qG (qQ ?_);refine qe H4 e_2 rfl (by simp[YU]) rfl λh5 H5=>?_;have H5:HS g h5 (qk b (YU { m with aA:=m.aA+1,last:=(jb t).getD (bz 0 0 0) } p tv)::aK a t:: .all ((wn ps m.t).eraseIdx i)::aa 79 1 m.t.length tv (X0 ps)::cM p m.s m.m::R):=H5;refine qG (qQ ?_);refine qw H5 .here ⟨rfl,rfl⟩ (by simp[YU]) λh6 H6=>?_;refine qG (qQ (qK H6 .here rfl ?_));clear H4 H5;cases mw:jb t with
 |none=>rw[mw]at H6;refine je (qZ ?_);have H7:HS g h6 (qk b (YU { m with aA:=m.aA+1,last:=bz 0 0 0,did:=false } p tv)::aK a t:: .all ((wn ps m.t).eraseIdx i)::aa 79 1 m.t.length tv (X0 ps)::cM p m.s m.m::R):=H6;refine qW (qz3 omQ O (H7.aM e_1)) λ_ h8 H8=>qY ⟨rfl,?_⟩;have H9:=TZ h1 hi (H8.sub (.cons .here (.cons e_1 .refl)));refine cq.I (p:=p) (tv:=tv) (ps:=ps) (by grind) ?_;unfold VT;rw[show({ m with aA:=m.aA+1,last:=bz 0 0 0,did:=false,t:=m.t.set i (jK t) }:zl).t.length=m.t.length from List.length_set];exact H9.pk [1,1,1,0] 0
 |some o=>
  rw[mw]at H6;refine jR (qJ ?_);have ho:=Q4 O W mw;have rr:=Xs MR ho;have H7:HS g h6 (qk b (YU { m with aA:=m.aA+1,last:=o,did:=true } p tv)::aK a t:: .all ((wn ps m.t).eraseIdx i)::aa 79 1 m.t.length tv (X0 ps)::cM p m.s m.m::R):=H6;clear H6;refine qX ?_
  try dsimp only
  refine qG (qQ (qK H7 (b:=b) .here (x:=.ptr p 0) rfl ?_));refine qG (qQ (qD H7 (b:=b) (off:=11) .here rfl (by simp) (l:=vK o) rfl ?_));refine qW (qwp (o:=o) omQ ⟨mo.1,by omega⟩ (H7.aM e_4)) ?_;rintro _ h8 ⟨rfl,H8⟩;refine qG (qQ (qK H8 e_1 rfl ?_));refine qW (qwl omQ O rr.1 hd omQ (H8.aM (P:=aK a t) e_2)) λ_ h9 H9=>?_;refine qT H7 .here rfl H8 e_1 rfl (HS.lt H7 .here) ?_
  try dsimp only
  clear H7 H8;have HA:=TZ h1 hi (H9.sub (.cons .here (.cons e_2 .refl)));have O':=U7 O rr.1 hd.1 (pick:=m.aA+1) (draw:=draw);have F4:∀k v,(m.t.set i (jQ t (qF m.m o).1 draw (m.aA+1)))[k]? =some v→xr v:=λk v hv=>by
   by_cases e:k=i
   ·subst e;rw[List.getElem?_set_self hi]at hv;grind
   grind
  generalize T3:m.t.set i (jQ t (qF m.m o).1 draw (m.aA+1))=ts at*;have T4:ts.length=m.t.length:=by grind
  have HB:HS g h9 (qk b (YU { m with aA:=m.aA+1,last:=o,did:=true } p tv)::aa 79 1 ts.length tv (X0 ps)::cM p m.s (qF m.m o).2:: .all (wn ps ts)::R):=by rw[T4];exact HA.pk [2,2,1,0] 0
  clear H9 HA;generalize qF m.m o=r at*;refine qG (qQ (qo (qK HB (b:=b) .here (x:=.int .i64 o.kind) rfl ?_)));by_cases c5:o.kind=5
  ·rw[iJ c5];refine jB c5 (qJ ?_);refine qG (qQ (qK HB (b:=b) .here (x:=tv) rfl ?_));refine qu HB e_1 ?_
   refine jS (λc s h'=>∃(k:Nat) (us:List qd),s=(.int .i64 (k:Int),.int .i64 (ts.length:Int),tv,.int .i64 (i:Int),.ptr b 0,())∧k≤ts.length∧c=ts.length-k∧Qi ts i o.at_ o.lk.1 k us∧
     HS g h' (qk b (YU { m with aA:=m.aA+1,last:=o,did:=true } p tv)::aa 79 1 ts.length tv (X0 ps)::cM p m.s r.2:: .all (wn ps us)::R))
    ?_ (by grind) ⟨0,ts,rfl,Nat.zero_le _,rfl,⟨rfl,λj hj=>absurd hj omQ,λj _=>rfl⟩,HB⟩
   clear HB;rintro c ih s h8 bN ⟨k,us,rfl,hk,rfl,WK,H⟩;by_cases ax:k<ts.length
   ·refine jc omQ (qZ ?_);have mK:ps[k]? =some (ps[k]'omQ):=iW omQ;refine qX ?_
    try dsimp only
    refine zY (H.sl e_1) (x:=.ptr (ps[k]'omQ) 0) (LK mK) ?_;by_cases ck:k=i
    ·subst ck;refine jB rfl (qJ ?_);refine qa omQ<|bN (ts.length-(k+1)) _ _ omQ ⟨k+1,us,rfl,by omega,rfl,WK.same,H⟩
    ·refine jg omQ (qZ ?_);have T5:ts[k]? =some ts[k]:=iW ax;have huk:us[k]? =some ts[k]:=by rw[WK.hi k (Nat.le_refl _)];simp
     have uY:=WK.len;refine qG (qQ (qo (qK H (b:=b) .here (x:=.int .i64 o.at_) rfl ?_)));refine qG (qQ (qo (qo (qK H (b:=b) .here (x:=.int .u64 o.lk.1) rfl ?_))));have H2:=Z3 mK huk (H.aM (P:=.all (wn ps us)) e_3);refine qW (jJa omQ (F4 k _ T5) H2) λ_ h3 H3=>?_;have H4:=TZ mK omQ H3;refine qa omQ<|bN (ts.length-(k+1)) _ _ omQ ⟨k+1,_,rfl,by omega,rfl,WK.next ck T5,H4.pk [1,1,1,0] 0⟩
   ·obtain rfl:k=ts.length:=by omega
    refine jH omQ (qJ ?_);refine qx (qY ⟨rfl,?_⟩);have e:=WK.done;subst e;have oX:(xm ts i o.at_ o.lk.1).length=ts.length:=by simp[xm]
    refine cq.I (p:=p) (tv:=tv) (ps:=ps) (by grind) ?_;unfold VT;grind[qk,YU,aa,xm,X0]
  ·rw[iQ c5];refine jg c5 (qZ (qY ⟨rfl,?_⟩));exact cq.I (p:=p) (tv:=tv) (ps:=ps) (by grind) HB
end
end
section
variable {g h:AH} {L R:List SP}
def nY (jss:List (List (List qR))) (v:AV):SP:=.ex λvs:List AV=>.all [.iq (vs.length=jss.length),aa 50 1 jss.length v vs,.all (List.zipWith (λv js=>aV js v) vs jss)]
theorem nY.E {jss:List (List (List qR))} {v:AV} (H:HS g h (nY jss v::R)):∃vs:List AV,vs.length=jss.length∧HS g h (aa 50 1 jss.length v vs:: .all (List.zipWith (λv js=>aV js v) vs jss)::R):=by obtain⟨vs,H⟩:=H.fh;exact⟨vs,H.cI.fo⟩
theorem nY.I {jss:List (List (List qR))} {v:AV} {vs:List AV} (hl:vs.length=jss.length) (H:HS g h (aa 50 1 jss.length v vs:: .all (List.zipWith (λv js=>aV js v) vs jss)::R)):HS g h (nY jss v::R) :=
 HS.fH vs (HS.allI (HS.fR hl H))
end
section
variable {g h:AH} {L R:List SP}
def Ot (S:jz) (k:Nat):jX:=if k≤5 then vF S else(qF (vF S) (bz 2 5 14)).2
theorem qgh {S:jz} (O:xZ S) {k:Nat} (hk:k<S.words.toNat):(MH S.words)[k]? =some (if k=5 then 14 else 0):=by
 have h1:=O.words;have e:fV S.words=S.words.toNat:=by grind[fV]
 unfold MH;grind
section
variable {n:Nat}
theorem qz4 {s:jz} {jss:List (List (List qR))} {v:AV} (hn:16≤n) (hs:0≤s.start) (hj:∀js∈jss,js.length≤1000000∧∀l∈js,(xO l).2=0∧Quiet l) (fQ:jss.length≤1000) (H:HS g h (nY jss v::R)) :
  aH n 5 [.agg (vR s),v] h λr h'=>∃b,r=.ptr b 0∧HS g h' (cq b (vu s jss)::nY jss v::R):=by
 refine bw rfl omQ λk hk=>?_;unfold S5;try simp only[iZ]
 obtain⟨vs,FZ,H⟩:=nY.E H;refine qM H rfl λb0 h1 H1=>?_;clear H;refine qu H1 e_1<|zi ?_;rw[show min ((jss.length:Nat):Int) ((4:Nat):Int)=((min jss.length 4:Nat):Int) by omega];have hm4:min jss.length 4≤jss.length∧min jss.length 4≤4:=by omega
 have TX:(jss.take 4).length=min jss.length 4:=by grind
 generalize hm:min jss.length 4=m at*;refine qWO (hi:=m) H1.drop .here omQ hm4.1 λv' SV=>?_;refine yy (SV.more.sl H1)<|qQ (qo ?_);refine qw H1 .here ⟨rfl,rfl⟩ (by simp) λh2 H2=>?_;have H2:HS g h2 (qk b0 (vR { s with ag:=((jss.take 4).length:Int) })::aa 50 1 jss.length v vs:: .all (List.zipWith (λv js=>aV js v) vs jss)::R):=by grind
 unfold vu;have so:xZ (jO { s with ag:=((jss.take 4).length:Int) }):=gW hs;have hid:=kF so;refine qD H2 .here rfl omQ rfl<|qW (Nx omQ H2) ?_;rintro _ h3 ⟨rfl,H3⟩;refine qe H3 .here rfl (by simp) rfl λh4 H4=>?_;generalize jO { s with ag:=((jss.take 4).length:Int) }=S at*;have H4:HS g h4 (qk b0 (vR S)::aa 50 1 jss.length v vs:: .all (List.zipWith (λv js=>aV js v) vs jss)::R):=H4;clear H1 H2 H3;have q1:=so.words;have q3:=so.ag;refine qX ?_
 try dsimp only
 refine qD H4 .here rfl omQ rfl<|qQ (qD H4 .here rfl omQ rfl ?_);refine qW (jZM omQ so.start.1 H4) ?_;rw[hid];rintro _ h5 ⟨p,rfl,H5⟩
 let M0:zl:=⟨S,vF S,[],0,bz 0 0 0,false⟩
 refine qI rfl<|qM H5 rfl λb h6 H6=>?_;have H7:HS g h6 (qk b (YU M0 p .ap)::cM p S (vF S)::qk b0 (vR S)::aa 50 1 jss.length v vs:: .all (List.zipWith (λv js=>aV js v) vs jss)::R):=H6;refine xG H4 .here rfl H5 e_1 rfl rfl omQ (HS.lt H4 .here) ?_
 try dsimp only
 clear H4 H5 H6;refine qQ (qo (qK H7 e_2 rfl ?_));refine qW (qqf omQ H7) ?_;rintro wv h8 ⟨e,H8⟩;have ez:fV S.words=S.words.toNat:=by grind[fV]
 rw[ez]at H8;refine qu H8 .here<|jS (λc q h'=>∃i:Nat,q=(.int .i64 (i:Int),.int .i64 ((S.words.toNat:Nat):Int),wv,.ptr b 0,.ptr b0 0,v',())∧i≤S.words.toNat∧c=S.words.toNat-i∧HS g h' (aa e 1 S.words.toNat wv ((MH S.words).map (.int .u64))::qk b (YU M0 p .ap)::cM p S (Ot S i)::qk b0 (vR S)::aa 50 1 jss.length v vs:: .all (List.zipWith (λv js=>aV js v) vs jss)::R))
  ?_ (by grind) ⟨0,rfl,Nat.zero_le _,rfl,H8⟩
 clear H7 H8;rintro c ih q h9 bN ⟨i,rfl,hi,rfl,H⟩;by_cases ax:i<S.words.toNat
 ·refine jc omQ (qZ ?_);refine qX ?_
  try dsimp only
  have hf:=qgh so ax;refine zY (H.sl .here) (x:=.int .u64 (if i=5 then 14 else 0)) (by grind) ?_;by_cases c5:i=5
  ·subst c5;refine jg od (qZ ?_);refine qG (qQ (qK H (b:=b) e_1 (x:=.ptr p 0) rfl ?_));refine qI (l:=vK (bz 2 5 14)) rfl<|qW (qwp (o:=bz 2 5 14) omQ ⟨Int.le_refl _,by show(0:Int)<1000000000;simp⟩ (H.aM (P:=cM p S (vF S)) e_2)) ?_;rintro _ eM ⟨rfl,HA⟩;refine qa omQ<|bN (S.words.toNat-(5+1)) _ _ omQ ⟨5+1,rfl,by omega,rfl,HA.pk [1,1,0] 0⟩
  ·rw[iQ c5];refine jB rfl (qJ ?_);refine qa omQ ?_;have em:Ot S (i+1)=Ot S i:=by
    unfold Ot;grind
   exact bN (S.words.toNat-(i+1)) _ _ omQ ⟨i+1,rfl,by omega,rfl,by grind⟩
 ·obtain rfl:i=S.words.toNat:=by omega
  refine jH omQ (qJ ?_);have em:Ot S S.words.toNat=(qF (vF S) (bz 2 5 14)).2:=by unfold Ot;grind
  rw[em]at H
  replace H:=H.drop
  clear bN ih;generalize(qF (vF S) (bz 2 5 14)).2=M5 at*
  let T:Nat→List qd:=λk=>(List.range k).map λi:Nat=>Uc i S (((jss.take 4)[i]?).getD [])
  have Du:∀k,(T k).length=k:=λk=>by grind
  refine qQ (qo (qK H (b:=b0) e_2 (x:=.int .i64 S.ag) rfl ?_));rw[show S.ag=((S.ag.toNat:Nat):Int) by omega];have q0:HS g h9 (cq b ⟨S,M5,T 0,0,bz 0 0 0,false⟩::qk b0 (vR S)::aa 50 1 jss.length v vs:: .all (List.zipWith (λv js=>aV js v) vs jss)::R):=by have N1:=HS.allI (A:=[]) H;have N2:=N1.ap (e:=79) (sz:=1);exact cq.I (m:=⟨S,M5,T 0,0,bz 0 0 0,false⟩) (p:=p) (tv:=.ap) (ps:=[]) rfl (N2.pk [2,0,1,0] 0)
  clear H;refine jS (λc q h'=>∃i:Nat,q=(.int .i64 (i:Int),.int .i64 ((S.ag.toNat:Nat):Int),.ptr b 0,.ptr b0 0,v',())∧i≤S.ag.toNat∧c=S.ag.toNat-i∧HS g h' (cq b ⟨S,M5,T i,0,bz 0 0 0,false⟩::qk b0 (vR S)::aa 50 1 jss.length v vs:: .all (List.zipWith (λv js=>aV js v) vs jss)::R))
   ?_ (m:=S.ag.toNat) (by grind) ⟨0,rfl,Nat.zero_le _,rfl,q0⟩
  clear q0;rintro c ih q eM bN ⟨i,rfl,hi,rfl,H⟩;by_cases ax:i<S.ag.toNat
  ·refine jc omQ (qZ ?_)
   refine zv [] (λz h'=>∃(jv:AV) (B:List SP),z=(.int .i64 (i:Int),.int .i64 ((S.ag.toNat:Nat):Int),jv,.int .i64 (i:Int),.ptr b 0,.ptr b0 0,v',())∧
     HS g h' (aV (((jss.take 4)[i]?).getD []) jv::cq b ⟨S,M5,T i,0,bz 0 0 0,false⟩::qk b0 (vR S)::aa 50 1 jss.length v vs:: .all B::R)∧
     (∀{pS:AH} {L:List SP},HS g pS (aV (((jss.take 4)[i]?).getD []) jv:: .all B::L)→HS g pS (.all (List.zipWith (λv js=>aV js v) vs jss)::L))) (λj hj=>?_) ?_
   ·refine yy (SV.more.more.sl H) ?_;by_cases him:i<m
    ·have sB:i<jss.length:=by omega
     have LJ:i<vs.length:=by omega
     have ej:((jss.take 4)[i]?).getD []=jss[i]:=by grind
     have hz:(List.zipWith (λv js=>aV js v) vs jss)[i]? =some (aV jss[i] vs[i]):=by grind
     refine jc omQ (qZ ?_);refine zY (SV.more.more.sl H) (x:=vs[i]) (by grind) ?_;rw[ej]at hj;refine hj _ _ ⟨vs[i],(List.zipWith (λv js=>aV js v) vs jss).eraseIdx i,rfl,?_,λH=>HS.tf (Nr hz) H⟩;have H1:=HS.mQ (Nr hz) (H.aM (P:=.all (List.zipWith (λv js=>aV js v) vs jss)) e_3);exact H1.pk [0,1,1,1,0] 0
    ·have ej:((jss.take 4)[i]?).getD []=[]:=by
      grind
     refine jH omQ (qJ ?_);rw[ej]at hj;refine hj _ _ ⟨.ap,List.zipWith (λv js=>aV js v) vs jss,rfl,?_,λH=>H.drop⟩;exact aV.I (js:=[]) (v:=.ap) rfl ((HS.allI H).ap)
   ·clear H;rintro _ dO ⟨jv,B,rfl,H,back⟩;refine qX ?_
    try dsimp only
    have hjj:∀l∈(((jss.take 4)[i]?).getD []),(xO l).2=0∧Quiet l:=λl hl=>by
     grind
    have T6:(((jss.take 4)[i]?).getD []).length≤1000000:=by
     grind
    have eT:T (i+1)=T i++[Uc i S (((jss.take 4)[i]?).getD [])]:=by show(List.range (i+1)).map _=(List.range i).map _++_;simp[List.range_succ,List.map_append]
    generalize((jss.take 4)[i]?).getD []=js at*;obtain⟨p',tv,ps,pf,HU⟩:=cq.E (H.aM e_1);have pf:ps.length=i:=by grind
    have HU:HS g dO (qk b (YU ⟨S,M5,T i,0,bz 0 0 0,false⟩ p' tv)::aa 79 1 i tv (X0 ps)::cM p' S M5:: .all (wn ps (T i))::aV js jv::qk b0 (vR S)::aa 50 1 jss.length v vs:: .all B::R):=by grind
    refine qG (qQ (qK HU .here rfl ?_));refine qD HU e_5 rfl omQ rfl ?_;have HV:HS g dO (aV js jv::qk b (YU ⟨S,M5,T i,0,bz 0 0 0,false⟩ p' tv)::aa 79 1 i tv (X0 ps)::cM p' S M5:: .all (wn ps (T i))::qk b0 (vR S)::aa 50 1 jss.length v vs:: .all B::R):=HU.aM e_4;refine qW (qVU omQ omQ so.start.1 hjj T6 HV) ?_;rintro _ mP ⟨tb,rfl,HW⟩;refine qh HW rfl rfl rfl rfl λv2 h13 HX=>?_;refine zX (HX.aM (P:=aa 79 1 i tv (X0 ps)) e_4) (HX.sl .here) omQ omQ rfl λv3 oO HY=>?_;have o3:=HY.one .here;refine qG (qQ ?_);refine qw HY (b:=b) e_4 o3 (by simp[YU]) λrP HZ=>?_;refine qT HU .here rfl HW e_2 rfl (HS.lt HU .here) ?_
    try dsimp only
    refine qa omQ<|bN (S.ag.toNat-(i+1)) _ _ omQ ⟨i+1,rfl,by omega,rfl,?_⟩;have eb:wn (ps++[tb]) (T (i+1))=wn ps (T i)++[aK tb (Uc i S js)]:=by unfold wn;rw[eT,List.zipWith_append (by grind)];rfl
    have ep:X0 (ps++[tb])=X0 ps++[.ptr tb 0]:=by simp[X0,List.map_append]
    have B1:=Xp (A:=wn ps (T i)) (B:=[aK tb (Uc i S js)]) (HZ.pk [6,3] 0)
    have B2:=cq.I (b:=b) (p:=p') (tv:=v3) (m:=⟨S,M5,T (i+1),0,bz 0 0 0,false⟩) (ps:=ps++[tb]) (by grind) (by
     unfold VT;rw[show(⟨S,M5,T (i+1),0,bz 0 0 0,false⟩:zl).t=T (i+1)from rfl,eb,ep,Du (i+1)]
     exact B1.pk [1,1,3,0] 0)
    exact HS.sub (back (B2.pk [2,4] 0)) (.cons e_1 (.cons e_2 (.cons e_2 (.cons .here (.drop .refl)))))
  ·obtain rfl:i=S.ag.toNat:=by omega
   refine jH omQ (qJ ?_);refine qx (qY ⟨b,rfl,?_⟩);refine HS.cG e_1 (nY.I FZ (H.pk [2,2,0] 1))
end
end
section
variable {g h:AH} {L R:List SP}
theorem Z9 {P:SP}:∀{A:List SP},P∈A→∃A',bp A P A'
 |x::A,h=>by
  rcases List.mem_cons.1 h with rfl |h
  ·exact⟨_,.here⟩
  ·obtain⟨A',s⟩:=Z9 h;exact⟨_,.there s⟩
theorem Rd.Dv {A:List SP} {e:TypeId} {sz n:Nat} {v:AV} {xs:List AV} (s:bp L (.all A) R) (m:aa e sz n v xs∈A):Rd g L sz n v xs:=λh H=>by
 obtain⟨A',s'⟩:=Z9 m;exact(HS.mQ s' (H.aM s)).sl .here
structure Zc (g:AH) (L:List SP) (z:yr×J7):Prop where
  r:Rd g L 2 z.1.reads.length z.2.rv (z.1.reads.flatMap jn)
  c:Rd g L 2 z.1.cells.length z.2.cv (z.1.cells.flatMap jn)
  f:Rd g L 1 z.1.dj.length z.2.fv (z.1.dj.map (.int .i64))
def F5 (g:AH) (L:List SP) (rs:List yr) (v:AV):Prop:=∃zs:List (yr×J7),zs.map (·.1)=rs∧Rd g L 14 zs.length v (zs.flatMap λz=>xc z.1 z.2)∧∀z∈zs,Zc g L z
theorem Zc.Dv {zs:List (yr×J7)} {z:yr×J7} (s:bp L (.all (zs.flatMap λz=>wK z.1 z.2)) R) (hz:z∈zs):Zc g L z :=
 ⟨Rd.Dv s (List.mem_flatMap.2 ⟨z,hz,iK ..⟩),Rd.Dv s (List.mem_flatMap.2 ⟨z,hz,iX _ (iK ..)⟩),Rd.Dv s (List.mem_flatMap.2 ⟨z,hz,iX _ (iX _ (iK ..))⟩)⟩
theorem F5.ao {rs:List yr} {v:AV} {zs:List (yr×J7)} (e:zs.map (·.1)=rs):F5 g (aa 92 14 zs.length v (zs.flatMap λz=>xc z.1 z.2):: .all (zs.flatMap λz=>wK z.1 z.2)::R) rs v :=
 ⟨zs,e,Rd.own .here,λ_ hz=>Zc.Dv e_1 hz⟩
section
variable {t:qd} {x:qf}
theorem qKi:∀{zs:List (yr×J7)} {R:List SP},HS g h ((zs.flatMap λz=>wK z.1 z.2)++R)→qt (zs.flatMap λz=>xc z.1 z.2)=true
 |[],_,_=>rfl
 |z::zs,R,H=>by
  have H:HS g h (aa 177 2 z.1.reads.length z.2.rv (z.1.reads.flatMap jn)::aa 177 2 z.1.cells.length z.2.cv (z.1.cells.flatMap jn)::aa z.2.fe 1 z.1.dj.length z.2.fv (z.1.dj.map (.int .i64))::((zs.flatMap λz=>wK z.1 z.2)++R)):=H;have o1:=H.one (v:=z.2.rv) .here;have o2:=H.one (v:=z.2.cv) e_1;have o3:=H.one (v:=z.2.fv) e_2;have ih:=qKi (zs:=zs) (R:=R) H.drop.drop.drop;rw[List.flatMap_cons,qt,List.all_append];have:qt (xc z.1 z.2)=true:=by simp only[qt,xc,List.all_cons,o1.2,o2.2,o3.2];rfl
  grind[qt]
theorem bn.one {r:List yr} {v:AV} (H:HS g h (bn r v::R)):∃zs:List (yr×J7),zs.map (·.1)=r∧qt (zs.flatMap λz=>xc z.1 z.2)=true∧HS g h (aa 92 14 zs.length v (zs.flatMap λz=>xc z.1 z.2):: .all (zs.flatMap λz=>wK z.1 z.2)::R):=by obtain⟨zs,e,H⟩:=bn.E H;exact⟨zs,e,qKi H.drop.cI,H⟩
theorem jVt (hx:t.now=some x) (h1:t.state=1) (hb:x.begun=true):qi t=t.ao++[jY t x 0]:=by
 simp_all[qi]
theorem jKE (h:∀x,t.now=some x→¬(t.state=1∧x.begun=true)):qi t=t.ao:=by
 unfold qi
 grind
end
theorem jJn {A B:List yr} {v w:AV} {K:AV→AH→Go.Ae.R} {Q:AV→AH→Prop} (H:HS g h (bn A v::bn B w::R)) (hl:A.length+B.length≤1000000) (k:∀v' h',HS g h' (bn (A++B) v'::R)→wp (K v' h') Q) :
  wp (xk h 92 14 v w K) Q:=by
 obtain⟨zb,eb,ab,H1⟩:=bn.one (H.aM e_1);obtain⟨za,ea,H2⟩:=bn.E (H1.aM e_2);have la:za.length=A.length:=by grind
 have lb:zb.length=B.length:=by grind
 refine zX H2 (H2.sl e_2) omQ omQ ab λv' h' H3=>k v' h' ?_;have H4:=Xp
  (HS.cG .here (HS.sub (L':=.all (za.flatMap λz=>wK z.1 z.2)::((zb.flatMap λz=>wK z.1 z.2)++(aa 92 14 (za.length+zb.length) v' ((za.flatMap λz=>xc z.1 z.2)++zb.flatMap λz=>xc z.1 z.2)::R))) (by
   have H5:=(H3.sub (L':=.all (zb.flatMap λz=>wK z.1 z.2):: .all (za.flatMap λz=>wK z.1 z.2)::aa 92 14 (za.length+zb.length) v' ((za.flatMap λz=>xc z.1 z.2)++zb.flatMap λz=>xc z.1 z.2)::R) (.cons e_3 (.cons e_1 (.cons .here (.drop .refl))))).cI
   exact H5.aM TU) .refl))
 refine bn.I (zs:=za++zb) (by grind) ?_;rw[List.length_append,List.flatMap_append,List.flatMap_append];exact H4.pk [1,0] 0
def u9 (r:yr):Prop:=r.reads.length≤1000000∧r.cells.length≤1000000∧r.dj.length≤1000000
def Yj (v:AV):Prop:=v=.ap∨∃b off n cp o,v=.slice b off n cp o
theorem aa.F6 {e:TypeId} {sz n:Nat} {v:AV} {xs:List AV} (H:HS g h L) (s:bp L (aa e sz n v xs) R):Yj v:=by
 obtain⟨D,_,⟨rfl,_⟩ |⟨b,cp,o,ys,rfl,_⟩⟩:=H.p s
 ·exact .inl rfl
 ·exact .inr ⟨_,_,_,_,_,rfl⟩
theorem qY8 {zs:List (yr×J7)} {z:yr×J7} (H:HS g h L) (s:bp L (.all (zs.flatMap λz=>wK z.1 z.2)) R) (hz:z∈zs):Yj z.2.rv∧Yj z.2.cv∧Yj z.2.fv:=by
 have key:∀{e:TypeId} {sz n:Nat} {v:AV} {xs:List AV},aa e sz n v xs∈wK z.1 z.2→Yj v:=λm=>by
  obtain⟨A',s'⟩:=Z9 (show aa _ _ _ _ _∈zs.flatMap (λz=>wK z.1 z.2)from List.mem_flatMap.2 ⟨z,hz,m⟩);exact aa.F6 (HS.mQ s' (H.aM s)) .here
 exact⟨key (iK ..),key (iX _ (iK ..)),key (iX _ (iX _ (iK ..)))⟩
theorem qWr {D:Nat→Prop} {sz n:Nat} {v:AV} {xs:List AV} {K:AV→Go.Ae.R} {Q:AV→AH→Prop} (S:Sl D h sz n v xs) (N:Yj v) (h1:n=0→xs=[]→wp (K (.bool true)) Q) (h2:wp (K (.bool false)) Q):wp (n8 .CO false v .ap K) Q:=by
 cases S with
 |ap=>exact h1 rfl rfl
 |cA=>rcases N with h |⟨_,_,_,_,_,h⟩<;>cases h
 |tail=>rcases N with h |⟨_,_,_,_,_,h⟩<;>cases h
 |mk=>exact h2
end
section
variable {g h:AH} {L R:List SP}
theorem MF {A:List yr} {r:yr} {y:J7} {v w:AV} {K:AV→AH→Go.Ae.R} {Q:AV→AH→Prop} (H:HS g h (bn A v::aa 92 14 1 w (xc r y)::(wK r y++R))) (ha:qt (xc r y)=true) (hl:A.length≤1000000) (k:∀v' h',HS g h' (bn (A++[r]) v'::R)→wp (K v' h') Q) :
  wp (xk h 92 14 v w K) Q:=by
 obtain⟨zs,e,H2⟩:=bn.E H;have la:zs.length=A.length:=by grind
 refine zX H2 (H2.sl e_2) omQ omQ ha λv' h' H3=>k v' h' ?_;have B1:=Xp (A:=zs.flatMap λz=>wK z.1 z.2) (B:=wK r y) (H3.sub (.cons e_1 (.cons e_2 (.cons e_2 (.cons e_2 (.cons .here (.drop .refl)))))));refine bn.I (zs:=zs++[(r,y)]) (by grind) ?_;rw[List.length_append,List.flatMap_append,List.flatMap_append,List.flatMap_singleton,List.flatMap_singleton];exact B1.pk [1,0] 0
section
variable {n a b:Nat} {t:qd} {q:NC} {x:qf}
theorem qZN {m:Nat} {v:AV} {xs:List AV} (hn:1≤n) (H:HS g h L) (s:Rd g L 2 m v xs) (N:Yj v) (ha:qt xs=true) (hm:m≤1000000) :
  aH n 103 [v] h λr h'=>HS g h' (aa 177 2 m r xs::L):=by
 refine aG rfl omQ λk hk=>?_;unfold S103;try simp only[iZ]
 refine qWr (s.sl H) N (λh1 h2=>?_) (qJ ?_)
 ·subst h1 h2;exact qZ (qY H.ap)
 ·refine qh (l:=[]) H rfl rfl rfl rfl λv2 h2 H2=>?_;refine zX H2 (s.more.sl H2) omQ omQ ha λv3 h3 H3=>?_;rw[Nat.zero_add,List.nil_append]at H3;exact qY H3
theorem qz9 {m:Nat} {v:AV} {xs:List AV} (hn:1≤n) (H:HS g h L) (s:Rd g L 1 m v xs) (N:Yj v) (ha:qt xs=true) (hm:m≤1000000) :
  aH n 104 [v] h λr h'=>HS g h' (aa 3 1 m r xs::L):=by
 refine aG rfl omQ λk hk=>?_;unfold S104;try simp only[iZ]
 refine qWr (s.sl H) N (λh1 h2=>?_) (qJ ?_)
 ·subst h1 h2;exact qZ (qY H.ap)
 ·refine qh (l:=[]) H rfl rfl rfl rfl λv2 h2 H2=>?_;refine zX H2 (s.more.sl H2) omQ omQ ha λv3 h3 H3=>?_;rw[Nat.zero_add,List.nil_append]at H3;exact qY H3
theorem qzT {z:yr×J7} (hn:2≤n) (H:HS g h L) (r:Zc g L z) (N:Yj z.2.rv∧Yj z.2.cv∧Yj z.2.fv) (ha:qt (xc z.1 z.2)=true) (h1:z.1.reads.length≤1000000) (h2:z.1.cells.length≤1000000) (h3:z.1.dj.length≤1000000) :
  aH n 70 [.agg (xc z.1 z.2)] h λv h'=>∃y:J7,v=.agg (xc z.1 y)∧HS g h' (wK z.1 y++L):=by
 refine aG rfl omQ λk hk=>?_;unfold S70;try simp only[iZ]
 refine qM H ha λb0 h1 H1=>?_;refine qM H1 rfl λb1 h2 H2=>?_;refine qX ?_
 try dsimp only
 refine qQ (qK H2 e_1 rfl ?_);refine qW (qZN omQ H2 r.r.more.more N.1 (XB (λ_=>rfl) _) omQ) λrv h3 H3=>?_;refine qQ (qK H3 e_2 rfl ?_);refine qW (qZN omQ H3 r.c.more.more.more N.2.1 (XB (λ_=>rfl) _) omQ) λcv h4 H4=>?_;refine qQ (qK H4 e_3 rfl ?_);refine qW (qz9 omQ H4 r.f.more.more.more.more N.2.2 (SW (λ_=>rfl) _) omQ) λfv h5 H5=>?_;have o1:=H5.one (v:=rv) e_2;have o2:=H5.one (v:=cv) e_1;have o3:=H5.one (v:=fv) .here;refine qQ (qw H5 e_4 o1 (by show 10<14;omega) λh6 H6=>?_);refine qQ (qw H6 .here o2 (by show 11<14;omega) λh7 H7=>?_);refine qQ (qw H7 .here o3 (by show 12<14;omega) λh8 H8=>?_);refine qT H3 e_2 rfl H4 e_3 rfl (HS.lt H2 e_1)<|qT H2 e_1 rfl H3 e_2 rfl (HS.lt H2 e_1)<|qT H2 e_1 rfl H3 e_2 rfl (HS.lt H2 e_1) ?_;have B9:qt (xc z.1 ⟨rv,cv,3,fv⟩)=true:=by simp only[qt,xc,List.all_cons,o1.2,o2.2,o3.2];rfl
 refine qD H8 .here rfl omQ rfl<|qe H8 e_4 rfl (by simp) B9 λh9 H9=>?_;refine qD H9 .here rfl omQ rfl<|qY ⟨⟨rv,cv,3,fv⟩,rfl,?_⟩;exact H9.pk [4,3,2] 2
theorem qQH (hn:14≤n) (O:xr t) (hp:t.ao.length≤1000000) (hP:∀r∈t.ao,u9 r) (H:HS g h (aK b t::R)):aH n 40 [.ptr b 0] h λv h'=>HS g h' (bn (qi t) v::aK b t::R):=by
 refine aG rfl omQ λk hk=>?_;unfold S40;try simp only[iZ]
 obtain⟨q,H0⟩:=aK.E H;refine qG (qQ (qK H0 .here rfl ?_));obtain⟨zs,rQ,a0,H1⟩:=bn.one (H0.aM e_4);have pW:zs.length=t.ao.length:=by grind
 refine qu H1 .here ?_;have q0:HS g h (bn (t.ao.take 0) .ap::aa 92 14 zs.length q.pv (zs.flatMap λz=>xc z.1 z.2):: .all (zs.flatMap λz=>wK z.1 z.2)::qk b (vk t q)::aV t.aD q.jv::aa 164 2 t.au.length q.gv (t.au.flatMap jn)::ij t.now q.nv::aa 57 4 t.results.length q.rv (t.results.flatMap Oj)::dF q.lb t.ay::aa 22 1 t.ah.length q.sv (t.ah.map (.int .u64))::R) :=
  bn.I (zs:=[]) rfl ((HS.allI (A:=[]) H1).ap)
 refine jS (λc s h'=>∃(i:Nat) (lv:AV),s=(.int .i64 (i:Int),.int .i64 (zs.length:Int),q.pv,lv,.ptr b 0,())∧i≤zs.length∧c=zs.length-i∧
   HS g h' (bn (t.ao.take i) lv::aa 92 14 zs.length q.pv (zs.flatMap λz=>xc z.1 z.2):: .all (zs.flatMap λz=>wK z.1 z.2)::qk b (vk t q)::aV t.aD q.jv::aa 164 2 t.au.length q.gv (t.au.flatMap jn)::ij t.now q.nv::aa 57 4 t.results.length q.rv (t.results.flatMap Oj)::dF q.lb t.ay::aa 22 1 t.ah.length q.sv (t.ah.map (.int .u64))::R))
  ?_ (m:=zs.length) (by grind) ⟨0,.ap,rfl,Nat.zero_le _,rfl,q0⟩
 rintro c ih s h3 bN ⟨i,lv,rfl,hi,rfl,H⟩;by_cases ax:i<zs.length
 ·refine jc omQ (qZ ?_);have LI:zs[i]? =some zs[i]:=iW ax;have tU:t.ao[i]? =some zs[i].1:=by grind
  have hL:=hP _ (List.mem_of_getElem? tU);have N1:=qY8 H e_2 (List.getElem_mem ax);have o1:qt (xc zs[i].1 zs[i].2)=true:=by rw[qt,List.all_eq_true]at a0 ⊢;grind
  refine xQ (l:=xc zs[i].1 zs[i].2) (H.sl (n:=zs.length) (v:=q.pv) (xs:=zs.flatMap λz=>xc z.1 z.2) e_1) ax omQ (vP (sz:=14) (λ_=>rfl) LI)<|qM H rfl λb2 h4 H4=>?_;refine qe H4 .here rfl (by simp) o1 λh5 H5=>?_;refine qD H5 .here rfl omQ rfl<|qW (qzT omQ H5.drop (Zc.Dv e_2 (List.getElem_mem ax)) N1 o1 hL.1 hL.2.1 hL.2.2) ?_;rintro _ h6 ⟨y,rfl,H6⟩;have o2:qt (xc zs[i].1 y)=true:=by simp only[qt,xc,List.all_cons,(H6.one (v:=y.rv) .here).2,(H6.one (v:=y.cv) e_1).2,(H6.one (v:=y.fv) e_2).2];rfl
  refine qh H6 rfl rfl rfl o2 λv2 h7 H7=>?_;refine MF (H7.sub (L':=bn (t.ao.take i) lv::aa 92 14 1 v2 (xc zs[i].1 y)::(wK zs[i].1 y++_)) (.cons e_4 (.cons .here (.cons .here (.cons .here (.cons .here .refl)))))) o2 (by grind) λv3 h8 H8=>?_;refine qa omQ<|bN (zs.length-(i+1)) _ _ omQ ⟨i+1,v3,rfl,by omega,rfl,?_⟩;grind[List.take_add_one]
 ·obtain rfl:i=zs.length:=by omega
  refine jH omQ (qJ (qX ?_))
  try dsimp only
  rw[show t.ao.take zs.length=t.ao by grind]at H;have H:HS g h3 (GS b t q (bn t.ao lv::R)):=(bn.I rQ (H.pk [1,1] 0)).pk [2,2,2,2,0,1,1,1,0] 0;refine qG (qQ (qK H .here rfl ?_));have no:(∀x,t.now=some x→¬(t.state=1∧x.begun=true))→HS g h3 (bn (qi t) lv::aK b t::R):=λh=>by
   grind[jKE,HS.cG,e_1,aK.I]
  by_cases c1:t.state=1
  rotate_left
  ·exact qV c1 (qJ (qx (qY (no λx _ h=>c1 h.1))))
  refine qz c1 (qZ ?_);have C:=O.c omQ;obtain⟨x,hx⟩:∃x,t.now=some x:=by
   cases hx:t.now with
   |none=>exact absurd hx C.some
   |some x=>simp
  have hN:=C.now x hx;obtain⟨a,q,H2⟩:=aK.V hx (aK.I H);refine qG (qQ (qK H2 e_1 rfl ?_));refine qW (Kt omQ H2 .here) ?_;rintro _ _ ⟨rfl,rfl⟩;refine qy rfl (qy rfl ?_);by_cases hb:x.begun=true
  rotate_left
  ·rw[show(AV.bool x.begun)=.bool false by grind];exact qJ (qx (qY (no λy hy h=>by grind)))
  rw[hb];refine qZ (qW (qWS omQ hN.1 H2) ?_);rintro _ h6 ⟨y,rfl,H6⟩;have H6:HS g h6 (aa 177 2 (jY t x 0).reads.length y.rv ((jY t x 0).reads.flatMap jn)::aa 177 2 (jY t x 0).cells.length y.cv ((jY t x 0).cells.flatMap jn)::aa y.fe 1 (jY t x 0).dj.length y.fv ((jY t x 0).dj.map (.int .i64))::cR a b t x q (bn t.ao lv::R)):=H6;have o2:qt (xc (jY t x 0) y)=true:=by simp only[qt,xc,List.all_cons,(H6.one (v:=y.rv) .here).2,(H6.one (v:=y.cv) e_1).2,(H6.one (v:=y.fv) e_2).2];rfl
  refine qh H6 rfl rfl rfl o2 λv2 h7 H7=>?_;refine MF (H7.sub (L':=bn t.ao lv::aa 92 14 1 v2 (xc (jY t x 0) y)::(wK (jY t x 0) y++_)) (.cons e_12 (.cons .here (.cons .here (.cons .here (.cons .here .refl)))))) o2 omQ λv3 h8 H8=>?_;refine qx (qY ?_);rw[jVt hx c1 hb];exact HS.cG e_1 (cR.I hx (H8.pk [1,1,1,1,1,1,1,1,0] 0))
end
end
section
section
variable {t u:qd} {x:qf}
theorem qWd {p:Int} (O:zG x):u9 (jY t x p):=by
 refine⟨?_,?_,?_⟩
 ·show x.v.K.length≤1000000;have:=O.aJ.ok.B6;omega
 ·show(w9 x).length≤1000000;unfold w9
  split
  ·have:=(K6 O.aJ.ok).1;omega
  simp
 ·show(zr x).length≤1000000;unfold zr
  split
  ·split
   ·rename_i bs k hj;have:=O.aN;rw[hj]at this;have:=this.2;omega
   ·have:=O.fr;grind[qGr]
  simp
theorem qJS {d p:Int}:(zP t x d p).ao=t.ao++[jY t x p]:=by
 unfold zP;dsimp only
 split
 ·split
  ·rfl
  ·exact(wL _ _).ao
 ·split
  ·split
   ·exact(yv _).ao
   rfl
  ·split
   ·exact(KB _ _).ao
   ·exact(U5 _).ao
def dN (t:qd):Prop:=∀r∈t.ao,u9 r
theorem dN.keep (P:dN t) (h:u.ao=t.ao):dN u:=λr hr=>P r (h▸hr)
theorem dN.dl {a:cE} {d p:Int} (O:xr t) (ha:vB a) (P:dN t):dN (jQ t a d p):=by
 unfold jQ
 split
 ·rename_i h1;have C:=O.c omQ;cases hx:t.now with
  |none=>grind
  |some x=>
   have hN:=C.now x hx;unfold zU;dsimp only
   split
   ·exact P
   ·intro r hr;rw[qJS]at hr;rcases List.mem_append.1 hr with hr |hr
    ·exact P r hr
    grind[List.mem_singleton,qWd,XN]
 ·split
  ·split
   ·exact P
   ·exact P.keep (wL t d).ao
  ·split
   ·exact P.keep (XA _).ao
   grind
theorem dN.new {me:Int} {s:jz} {js:List (List qR)}:dN (Uc me s js):=λr hr=>by
 have:(Uc me s js).ao=[]:=(yS _).ao;grind
theorem dN.all (O:xr t) (P:dN t):∀r∈qi t,u9 r:=λr hr=>by
 unfold qi at hr;rcases List.mem_append.1 hr with hr |hr
 ·exact P r hr
 ·split at hr
  ·rename_i x hx
   split at hr
   ·rename_i h;rw[List.mem_singleton.1 hr];exact qWd ((O.c omQ).now x hx).1
   grind
  grind
theorem qwC:(qi t).length≤t.ao.length+1:=by
 grind[qi,List.length_append,List.length_singleton,List.length_nil]
end
end
section
variable {g h:AH} {L R:List SP}
section
variable {n b:Nat} {m:zl}
theorem MQ (hn:16≤n) (K:∀t∈m.t,xr t∧dN t) (tT:(yL m).length≤900000) (hb:m.t.length≤4) (H:HS g h (cq b m::R)) :
  aH n 19 [.ptr b 0] h λv h'=>HS g h' (bn (yL m) v::cq b m::R):=by
 refine aG rfl omQ λk hk=>?_;unfold S19;try simp only[iZ]
 obtain⟨p,tv,ps,hl,H⟩:=cq.E H;refine qG (qQ (qK H .here rfl ?_));refine qu H e_1 ?_;have q0:HS g h (bn ((m.t.take 0).flatMap qi) .ap::VT b m p tv ps R):=bn.I (zs:=[]) rfl ((HS.allI H).ap)
 refine jS (λc s h'=>∃(i:Nat) (lv:AV),s=(.int .i64 (i:Int),.int .i64 (m.t.length:Int),tv,lv,())∧i≤m.t.length∧c=m.t.length-i∧
   HS g h' (bn ((m.t.take i).flatMap qi) lv::VT b m p tv ps R))
  ?_ (by grind) ⟨0,.ap,rfl,Nat.zero_le _,rfl,q0⟩
 rintro c ih s h1 bN ⟨i,lv,rfl,hi,rfl,H⟩;by_cases ax:i<m.t.length
 rotate_left
 ·obtain rfl:i=m.t.length:=by omega
  refine jH omQ (qJ (qx (qY ?_)));rw[List.take_length]at H;exact cq.I1 hl H
 refine jc omQ (qZ ?_);have ht:m.t[i]? =some m.t[i]:=iW ax;have hp:ps[i]? =some (ps[i]'omQ):=iW omQ;obtain⟨O,P⟩:=K _ (List.getElem_mem ax);have et:(m.t.take (i+1)).flatMap qi=(m.t.take i).flatMap qi++qi m.t[i]:=by rw[List.take_add_one,ht,List.flatMap_append];simp
 have hln:((m.t.take i).flatMap qi).length+(qi m.t[i]).length≤900000:=by
  refine Nat.le_trans ?_ tT;unfold yL;rw[← List.length_append,← et]
  conv=>rhs;rw[← List.take_append_drop (i+1) m.t,List.flatMap_append,List.length_append]
  simp
 have pf:m.t[i].ao.length≤(qi m.t[i]).length:=by simp[qi,List.length_append,Nat.le_add_right]
 refine zY (H.sl e_2) (LK hp) ?_;have H2:=Z3 hp ht (H.aM (P:=.all (wn ps m.t)) e_4);refine qW (qQH omQ O omQ P H2) λw h3 H3=>?_;have H4:HS g h3 (bn ((m.t.take i).flatMap qi) lv::bn (qi m.t[i]) w::VT b m p tv ps R):=(qgC hp ht (H3.pk [1,1] 0)).pk [2,1,1,1,1,0] 0;refine jJn H4 omQ λv' h5 H5=>?_;refine qa omQ<|bN (m.t.length-(i+1)) _ _ omQ ⟨i+1,v',rfl,by omega,rfl,?_⟩;grind
end
end
end Go.Proofs.YtemjbhdofokbhaaGreatDoor
