/- Lemmas for 'quietus/quietuslaw28.MachineLocks': An attempt: by the program: what it is told, what it does next;A new memory, a new attempt: by the program;what an attempt tells;What rests in limbo;a ... No condition. -/
import Derived.Test.YtepfejdhlgoekaaGreatDoorMachineLocksM4
import Derived.Test.YtepfejdhlgoekaaGreatDoorMachineLocksM1
import Derived.Test.YtepfejdhlgoekaaGreatDoorMachineLocksM2
namespace Go.Proofs.YtepfejdhlgoekaaGreatDoor
open Go Go.Ae
set_option maxRecDepth 100000
section
variable {g h:AH} {L R:List SP}
section
variable {n a:Nat} {x:jY} {q:O9}
theorem InnC.out {st st':Int} {f:QN} {e:JJ} {c:Option zX} {iv fv ev cv:AV} (h7:st'=7∨st'=8) (H:HS g h (InnC st f e c iv fv ev cv::R)):HS g h (InnC st' f e c iv fv ev cv::R):=by
 cases c with
 |none=>obtain⟨q,H⟩:=InnC.noE rfl H;exact InnC.noI omQ rfl q H
 |some d=>obtain⟨b,q,H⟩:=InnC.comE rfl H;exact InnC.comI rfl ⟨q.1,λh=>by omega⟩ H
theorem UJ (hn:24≤n) (O:zT x) (h3:3≤x.state) (h6:x.state≤6) (H:HS g h (AttC a x::R)):t_w n 87 [.ptr a 0] h λ_ h'=>HS g h' (AttC a (vu x)::R):=by
 (refine qw (g:=W87) rfl omQ λk hk=>?_;show wp (S87 (callT tab qj k) _ _) _;unfold S87;try simp only[iI,uU,iZ])
 obtain⟨q,H1⟩:=AttC.E H;have fin:∀{K2:AV→AH→Go.Ae.R} {Q:AV→AH→Prop},wp (K2 (.int .i64 (yO x).1) h) Q→wp (yV (callT tab qj k) [(106,60),(157,176),(158,181),(159,102),(223,130)] q.iv [] h K2) Q:=λ{K2 Q} w=>by
  unfold yO at w;by_cases c3:x.state=3
  ·rw[iJ c3]at w;obtain⟨b,e,H2⟩:=InnC.fetE c3 (O.c0 omQ) (H1.sel e_4);rw[e.2.2];refine w5 rfl (Kz omQ H2 .here) ?_;rintro _ _ ⟨rfl,rfl⟩;exact w
  ·rw[iQ c3]at w;by_cases c6:x.state=6
   ·rw[iJ c6]at w
    split at w
    ·rename_i c hc;obtain⟨b,e,H2⟩:=InnC.comE hc (H1.sel e_4);rw[e.2 c6];refine w5 rfl (Kv omQ H2) ?_;rintro _ _ ⟨rfl,rfl⟩;exact w
    ·rename_i hc;exact absurd hc (O.c6 c6)
   ·rw[iQ c6]at w;obtain⟨b,e,H2⟩:=InnC.extE omQ (O.c0 omQ) (H1.sel e_4);obtain⟨sv,H3⟩:=ExtC.E H2;rw[e.2.2];refine w5 rfl (qZh omQ H3 .here) ?_;rintro _ _ ⟨rfl,rfl⟩;exact w
 have by_:∀{K2:AV→AH→Go.Ae.R} {Q:AV→AH→Prop},wp (K2 (.int .i64 (yO x).2) h) Q→wp (yV (callT tab qj k) [(106,88),(157,367),(158,375),(159,378),(223,370)] q.iv [] h K2) Q:=λ{K2 Q} w=>by
  unfold yO at w;by_cases c3:x.state=3
  ·rw[iJ c3]at w;obtain⟨b,e,H2⟩:=InnC.fetE c3 (O.c0 omQ) (H1.sel e_4);rw[e.2.2];refine w5 rfl (qgd omQ H2 .here) ?_;rintro _ _ ⟨rfl,rfl⟩;exact w
  ·rw[iQ c3]at w;by_cases c6:x.state=6
   ·rw[iJ c6]at w
    split at w
    ·rename_i c hc;obtain⟨b,e,H2⟩:=InnC.comE hc (H1.sel e_4);rw[e.2 c6];refine w5 rfl (qwB omQ H2) ?_;rintro _ _ ⟨rfl,rfl⟩;exact w
    ·rename_i hc;exact absurd hc (O.c6 c6)
   ·rw[iQ c6]at w;obtain⟨b,e,H2⟩:=InnC.extE omQ (O.c0 omQ) (H1.sel e_4);obtain⟨sv,H3⟩:=ExtC.E H2;rw[e.2.2];refine w5 rfl (qg1 omQ H3 .here) ?_;rintro _ _ ⟨rfl,rfl⟩;exact w
 refine qG (qQ (qX H1 (b:=a) .here rfl (fin ?_)));have OL:=MH O h3 h6;show wp _ λ_ h'=>HS g h' (AttC a (zN (yt x))::R);refine jd [] (λs h'=>s=(.ptr a 0,())∧HS g h' (AttC a (yt x)::R)) (λj hj=>?_) ?_
 rotate_left
 ·rintro _ h2 ⟨rfl,H2⟩;dsimp only;refine qW (Jl omQ OL.c H2) ?_;rintro _ h3 ⟨rfl,H3⟩;unfold zN;cases hw:yP (yt x)with
  |false=>exact qJ (qx (qq H3))
  |true=>
   refine qZ ?_;have hcs:∃c,(yt x).c=some c:=by
    unfold yP at hw;cases hc:(yt x).c with
    |none=>rw[hc]at hw;simp at hw
    |some c=>exact⟨c,rfl⟩
   obtain⟨c,hc⟩:=hcs;obtain⟨q2,H4⟩:=AttC.E H3;obtain⟨b,e,H5⟩:=InnC.comE hc (H4.sel e_4);refine qG (qQ (qX H4 (b:=a) .here (x:=.ptr b 0) (by rw[← e.1];rfl) ?_));refine qW (qKe omQ (OL.c c hc).now H5) ?_;rintro _ _ ⟨rfl,rfl⟩;refine qG (qQ ?_);refine qg H4 (b:=a) .here ⟨rfl,rfl⟩ (by simp[zu]) λh5 H6=>qx (qq ?_);rw[iJ rfl];have H7:HS g h5 (qk a (zu { yt x with stamp:=Gj c } q2)::JobC q2.vb (yt x).job q2.rv q2.bv q2.gv::ViewC q2.vb (yt x).v::RdsC q2.db (yt x).r::InnC (yt x).state (yt x).f (yt x).e (yt x).c q2.iv q2.fv q2.ev q2.cv::R):=H6;rw[hc]at H7 ⊢;exact AttC.I (q:=q2) H7
 generalize hL:yt x=Y at*;unfold yt at hL;by_cases c0:(yO x).1=0
 ·rw[iJ c0]at hL;subst hL;exact qz c0 (qZ (hj _ _ ⟨rfl,H⟩))
 rw[iQ c0]at hL;refine qK c0 (qJ ?_);by_cases c5:(yO x).1=5
 ·rw[iJ c5]at hL;subst hL;refine qz c5 (qZ ?_);refine qG (qQ (qX H1 (b:=a) .here rfl (by_ ?_)));refine qW (Qz omQ H1) λ_ h2 H2=>hj _ _ ⟨rfl,AttC.I (q:=q) ?_⟩;have H3:=InnC.out (st':=7) (.inl rfl) (H2.sel e_4);exact H3.sub (.cons e_1 (.cons e_1 (.cons e_1 (.cons e_1 (.cons .here .refl)))))
 ·rw[iQ c5]at hL;subst hL;refine qK c5 (qJ ?_);exact qW (qGA omQ O h3 h6 H) λ_ h2 H2=>hj _ _ ⟨rfl,H2⟩
theorem qqs {an:AnM} (hn:26≤n) (O:zT x) (ha:vW an) (H:HS g h (AttC a x::R)):t_w n 59 [.ptr a 0,.agg (zp an)] h λ_ h'=>HS g h' (AttC a (zV x an)::R):=by
 (refine qw (g:=W59) rfl omQ λk hk=>?_;show wp (S59 (callT tab qj k) _ _ _) _;unfold S59;try simp only[iI,uU,iZ])
 have hst:=O.st;obtain⟨q,H0⟩:=AttC.E H;refine qI H0 rfl λb0 h1 H1=>?_;have H1:HS g h1 (qk b0 (zp an)::qJ2 a x q R):=H1;clear H H0;generalize hA:zV x an=A;unfold zV at hA;refine qG (qQ (qX H1 (b:=a) e_1 rfl ?_));by_cases c8:x.state=8
 ·rw[iJ c8]at hA;subst hA;exact qz c8 (qZ (qq (AttC.I (q:=q) H1.drop)))
 rw[iQ c8]at hA;refine qK c8 (qJ ?_);refine qQ (qX H1 (b:=b0) .here (x:=.int .i64 an.err) rfl ?_);by_cases ce:an.err=0
 rotate_left
 ·rw[iJ ce]at hA;subst hA;refine qu ce (qZ ?_);refine qQ (qX H1 (b:=b0) .here (x:=.int .i64 an.err) rfl ?_);refine qW (Qz omQ (H1.sel e_1)) λ_ h2 H2=>?_;refine qG (qQ ?_);refine qg H2 (b:=a) .here ⟨rfl,rfl⟩ (by simp[zu]) λh3 H3=>qq (AttC.I (q:=q) ?_);have H4:=InnC.out (st':=8) (.inr rfl) (H3.sel e_5);exact H4.sub (.cons e_1 (.cons e_2 (.cons e_2 (.cons e_2 (.cons .here (.drop .refl))))))
 rw[iQ (λh=>h ce)]at hA;refine q8 ce (qJ ?_);refine qG (qQ (qX H1 (b:=a) e_1 rfl ?_));refine jd [] (λ_ h'=>HS g h' (AttC a A::R)) (λj hj=>?_) λ_ h' H'=>qx (qq H');by_cases c0:x.state=0
 ·rw[iJ c0]at hA;subst hA;refine qz c0 (qZ ?_);refine qG (qQ ?_);refine qg H1 (b:=a) e_1 ⟨rfl,rfl⟩ (by simp[zu]) λh2 H2=>hj _ _ (AttC.I (q:=q) ?_);obtain⟨e,H3⟩:=InnC.noE (O.c0 omQ) (H2.sel e_5);have H4:=InnC.noI (st:=1) (f:=x.f) (e:=x.e) (c:=x.c) (iv:=q.iv) (fv:=q.fv) (ev:=q.ev) od (O.c0 omQ) e H3;exact H4.sub (.cons e_1 (.cons e_2 (.cons e_2 (.cons e_2 (.cons .here (.drop .refl))))))
 rw[iQ c0]at hA;refine qK c0 (qJ ?_);by_cases c1:x.state=1
 ·rw[iJ c1]at hA;subst hA;refine qz c1 (qZ ?_);refine qV ?_
  try dsimp only
  refine qQ (qX H1 (b:=b0) .here (x:=.int .u64 an.word) rfl ?_);refine qQ (qX H1 (b:=b0) .here (x:=.int .u64 an.word) rfl ?_);refine qG (qQ ?_);refine qg H1 (b:=a) e_1 ⟨rfl,rfl⟩ (by simp[zu]) λh2 H2=>?_;refine qG (qQ ?_);refine qg H2 (b:=a) .here ⟨rfl,rfl⟩ (by simp[zu]) λh3 H3=>?_;refine qG (qQ ?_);refine qg H3 (b:=a) .here ⟨rfl,rfl⟩ (by simp[zu]) λh4 H4=>?_;refine qU H2 e_1 rfl H3 e_1 rfl (HS.lt H1 .here) ?_;refine qU H1 .here rfl H2 e_1 rfl (HS.lt H1 .here) ?_;refine qU H1 .here rfl H2 e_1 rfl (HS.lt H1 .here) ?_;refine qG (qQ ?_);refine qg H4 (b:=a) .here ⟨rfl,rfl⟩ (by simp[zu]) λh5 H5=>hj _ _ (AttC.I (q:=q) ?_);obtain⟨e,H6⟩:=InnC.noE (O.c0 omQ) (H5.sel e_5);have H7:=InnC.noI (st:=2) (f:=x.f) (e:=x.e) (c:=x.c) (iv:=q.iv) (fv:=q.fv) (ev:=q.ev) od (O.c0 omQ) e H6;exact H7.sub (.cons e_1 (.cons e_2 (.cons e_2 (.cons e_2 (.cons .here (.drop .refl))))))
 rw[iQ c1]at hA;refine qK c1 (qJ ?_);by_cases c2:x.state=2
 ·rw[iJ c2]at hA;subst hA;refine qz c2 (qZ ?_);obtain⟨e,H3⟩:=InnC.noE (O.c0 omQ) (H1.sel e_5);exact qW (Zw (q:=q) (R:=R) omQ O.b (O.job.same λ_=>by omega) (O.c0 omQ) e (H3.sub (.cons e_1 (.cons e_1 (.cons e_1 (.cons e_1 (.drop .refl))))))) λ_ h4 H4=>hj _ _ H4
 rw[iQ c2]at hA;refine qK c2 (qJ ?_);by_cases c7:x.state=7
 ·rw[iJ c7]at hA;subst hA;refine qz c7 (qZ ?_);refine qG (qQ ?_);refine qg H1 (b:=a) e_1 ⟨rfl,rfl⟩ (by simp[zu]) λh2 H2=>hj _ _ (AttC.I (q:=q) ?_);have H3:=InnC.out (st':=8) (.inr rfl) (H2.sel e_5);exact H3.sub (.cons e_1 (.cons e_2 (.cons e_2 (.cons e_2 (.cons .here (.drop .refl))))))
 rw[iQ c7]at hA;refine qK c7 (qJ ?_);refine qG (qQ (qX H1 (b:=a) e_1 rfl ?_));refine qF H1 (b:=b0) (off:=0) .here rfl omQ (l:=zp an) rfl ?_;have hsx:∀{y:jY},y.state=x.state→3≤y.state∧y.state≤6:=λh=>by omega
 by_cases c3:x.state=3
 ·rw[iJ c3]at hA;subst hA;obtain⟨b,e,H2⟩:=InnC.fetE c3 (O.c0 omQ) (H1.sel e_5);rw[e.2.2];refine w5 rfl (qWp (a:=an) omQ (O.f c3).1 H2) λ_ h3 H3=>?_;have H4:=InnC.fetI (st:=x.state) (e:=x.e) (ev:=q.ev) c3 (O.c0 omQ) e H3;have O':zT { x with f:=z6 x.f an }:=⟨O.set,O.good,O.sz,O.fr,O.r,O.job,O.st,λh=>⟨Yq (O.f h).1,XS (O.f h).2 ha⟩,O.need,O.e,O.c,O.c0,O.c6⟩;exact qW (UJ (x:={ x with f:=z6 x.f an }) omQ O' (hsx rfl).1 (hsx rfl).2 (AttC.I (q:=q) (H4.sub (.cons e_2 (.cons e_2 (.cons e_2 (.cons e_2 (.cons .here (.drop .refl))))))))) λ_ h5 H5=>hj _ _ H5
 rw[iQ c3]at hA;by_cases c6:x.state=6
 ·rw[iJ c6]at hA;subst hA;cases hc:x.c with
  |none=>exact absurd hc (O.c6 c6)
  |some c=>obtain⟨b,e,H2⟩:=InnC.comE hc (H1.sel e_5);rw[e.2 c6];have Oc:=O.c c hc;refine w5 rfl (qj3 (a:=an) omQ Oc H2) λ_ h3 H3=>?_;have H4:=InnC.comI (st:=x.state) (f:=x.f) (e:=x.e) (fv:=q.fv) (ev:=q.ev) (c:=some (jo c an)) rfl e H3;have O':zT { x with c:=some (jo c an) }:=⟨O.set,O.good,O.sz,O.fr,O.r,O.job,O.st,O.f,O.need,O.e,λc' h=>by cases h;exact xL Oc ha,λh=>absurd h (by show¬x.state≤5;omega),λ_ h=>by cases h⟩;rw[hc]at hj;exact qW (UJ (x:={ x with c:=some (jo c an) }) omQ O' (hsx rfl).1 (hsx rfl).2 (AttC.I (q:=q) (H4.sub (.cons e_2 (.cons e_2 (.cons e_2 (.cons e_2 (.cons .here (.drop .refl))))))))) λ_ h5 H5=>hj _ _ H5
 rw[iQ c6]at hA;subst hA;obtain⟨b,e,H2⟩:=InnC.extE omQ (O.c0 omQ) (H1.sel e_5);rw[e.2.2];refine w5 rfl (qW5 (a:=an) omQ (O.e omQ omQ) H2) λ_ h3 H3=>?_;have H4:=InnC.extI (st:=x.state) (f:=x.f) (fv:=q.fv) omQ (O.c0 omQ) e H3;have O':zT { x with e:=gd x.e an }:=⟨O.set,O.good,O.sz,O.fr,O.r,O.job,O.st,O.f,O.need,λh1 h2=>Yg (O.e h1 h2),O.c,O.c0,O.c6⟩;exact qW (UJ (x:={ x with e:=gd x.e an }) omQ O' (hsx rfl).1 (hsx rfl).2 (AttC.I (q:=q) (H4.sub (.cons e_2 (.cons e_2 (.cons e_2 (.cons e_2 (.cons .here (.drop .refl))))))))) λ_ h5 H5=>hj _ _ H5
theorem qYs (hn:4≤n) (O:zT x) (H:HS g h (AttC a x::R)):t_w n 56 [.ptr a 0] h λr h'=>r=opV (yG x)∧HS g h' (AttC a x::R):=by
 (refine qw (g:=W56) rfl omQ λk hk=>?_;show wp (S56 (callT tab qj k) _ _) _;unfold S56;try simp only[iI,uU,iZ])
 have hst:=O.st;obtain⟨q,H0⟩:=AttC.E H;refine qI H0 rfl λb0 h1 H1=>?_;clear H H0;refine qG (qQ (qX H1 (b:=a) e_1 rfl ?_));unfold yG;have say:∀{o:OpM} {h':AH},HS g h' (qk b0 (yX o)::qJ2 a x q R)→wp (zY h' (.ptr b0 0) 10 λv=>some (.tup [v,.bool true],h')) λr h'=>r=opV (some o)∧HS g h' (AttC a x::R):=λ{o h'} H'=>by
  refine qF H' (b:=b0) (off:=0) .here rfl omQ (l:=yX o) rfl ?_;exact qq ⟨rfl,AttC.I (q:=q) H'.drop⟩
 by_cases c0:x.state=0
 ·rw[iJ c0];refine qz c0 (qZ ?_);refine qG (qQ (qX H1 (b:=a) e_1 rfl ?_));refine qH (l:=yX (op0 9 x.me 1)) rfl ?_;exact qd H1 (b:=b0) .here rfl (by show 0+10≤10;omega) rfl λh3 H3=>say H3
 rw[iQ c0];refine qK c0 (qJ ?_);by_cases c1:x.state=1
 ·rw[iJ c1];refine qz c1 (qZ ?_);refine qH (l:=yX (op0 6 0 0)) rfl ?_;exact qd H1 (b:=b0) .here rfl (by show 0+10≤10;omega) rfl λh3 H3=>say H3
 rw[iQ c1];refine qK c1 (qJ ?_);by_cases c2:x.state=2
 ·rw[iJ c2];refine qz c2 (qZ ?_);refine qG (qQ (qX H1 (b:=a) e_1 rfl ?_));refine qG (qQ (qX H1 (b:=a) e_1 rfl ?_));refine Ns (qH (l:=yX (op0 9 x.me (zR .u64 (x.stamp+1)))) rfl ?_);exact qd H1 (b:=b0) .here rfl (by show 0+10≤10;omega) rfl λh3 H3=>say H3
 rw[iQ c2];refine qK c2 (qJ ?_);by_cases c7:x.state=7
 ·rw[iJ c7];refine qz c7 (qZ ?_);refine qG (qQ (qX H1 (b:=a) e_1 rfl ?_));refine qH (l:=yX (op0 9 x.me 0)) rfl ?_;exact qd H1 (b:=b0) .here rfl (by show 0+10≤10;omega) rfl λh3 H3=>say H3
 rw[iQ c7];refine qK c7 (qJ ?_);by_cases c8:x.state=8
 ·rw[iJ c8];refine qz c8 (qZ ?_);refine qH (l:=yX (op0 0 0 0)) rfl ?_;refine qd H1 (b:=b0) .here rfl (by show 0+10≤10;omega) rfl λh3 H3=>?_;refine qF H3 (b:=b0) (off:=0) .here rfl omQ (l:=yX (op0 0 0 0)) rfl ?_;exact qq ⟨rfl,AttC.I (q:=q) H3.drop⟩
 rw[iQ c8];refine qK c8 (qJ ?_);refine qG (qQ (qX H1 (b:=a) e_1 rfl ?_));have inn:∀{o:Option OpM} {h':AH},HS g h' (qk b0 (yX (op0 0 0 0))::qJ2 a x q R)→wp (zP (opV o) 0 λv=>zP (opV o) 1 λv2=>jD h' (.ptr b0 0) v 10 λh2=>zY h2 (.ptr b0 0) 10 λv3=>some (.tup [v3,v2],h2)) λr h'=>r=opV o∧HS g h' (AttC a x::R):=λ{o h'} H'=>by
  refine qy rfl (qy rfl ?_);refine qd H' (b:=b0) .here rfl (by show 0+10≤10;omega) rfl λh3 H3=>?_;refine qF H3 (b:=b0) (off:=0) .here rfl omQ (l:=yX (o.getD (op0 0 0 0))) rfl ?_;exact qq ⟨rfl,AttC.I (q:=q) H3.drop⟩
 by_cases c3:x.state=3
 ·rw[iJ c3];obtain⟨b,e,H2⟩:=InnC.fetE c3 (O.c0 omQ) (H1.sel e_5);rw[e.2.2];refine w5 rfl (qG1 omQ H2) ?_;rintro _ h3 ⟨rfl,H3⟩;have H4:=InnC.fetI (st:=x.state) (e:=x.e) (ev:=q.ev) c3 (O.c0 omQ) e H3;exact inn (H4.sub (.cons e_1 (.cons e_1 (.cons e_1 (.cons e_1 (.cons e_1 (.cons .here .refl)))))))
 rw[iQ c3];by_cases c6:x.state=6
 ·rw[iJ c6];cases hc:x.c with
  |none=>exact absurd hc (O.c6 c6)
  |some c=>obtain⟨b,e,H2⟩:=InnC.comE hc (H1.sel e_5);rw[e.2 c6];refine w5 rfl (qWM omQ (O.c c hc) H2) ?_;rintro _ h3 ⟨rfl,H3⟩;have H4:=InnC.comI (st:=x.state) (f:=x.f) (e:=x.e) (fv:=q.fv) (ev:=q.ev) hc e H3;exact inn (H4.sub (.cons e_1 (.cons e_1 (.cons e_1 (.cons e_1 (.cons e_1 (.cons .here .refl)))))))
 rw[iQ c6];obtain⟨b,e,H2⟩:=InnC.extE omQ (O.c0 omQ) (H1.sel e_5);rw[e.2.2];refine w5 rfl (qWA omQ (O.e omQ omQ) H2) ?_;rintro _ h3 ⟨rfl,H3⟩;have H4:=InnC.extI (st:=x.state) (f:=x.f) (fv:=q.fv) omQ (O.c0 omQ) e H3;exact inn (H4.sub (.cons e_1 (.cons e_1 (.cons e_1 (.cons e_1 (.cons e_1 (.cons .here .refl)))))))
end
end
section
variable {g h:AH} {L R:List SP}
section
variable {n:Nat} {s S:zr}
abbrev QU (S:zr):List AV:=[.int .i64 S.words,.int .i64 S.stripes,.int .i64 S.wide,.int .i64 S.threads,.int .u64 S.start]
abbrev xM (S:zr):List AV:=[.int .i64 S.words,.int .i64 S.stripes,.int .i64 S.wide,.int .i64 S.threads,.int .u64 S.start,.int .i64 S.spins,.int .i64 S.writes,.int .i64 S.fuel]
theorem OF (hn:1≤n) (H:HS g h R):t_w n 43 [.agg (QU s)] h λr h'=>r=.agg (QU (jz s))∧HS g h' R:=by
 refine t_e1 (S:=S43) rfl omQ λk hk=>?_;unfold S43;try simp only[iZ]
 refine qI H rfl λb0 h1 H1=>?_;refine qI H1 rfl λb1 h2 H2=>?_;refine qQ (qX H2 (b:=b0) e_1 rfl (zZ (ze ?_)));refine qQ (qX H2 (b:=b0) e_1 rfl (zZ (ze ?_)));refine qQ (qX H2 (b:=b0) e_1 rfl (zZ (ze ?_)));refine qQ (qX H2 (b:=b0) e_1 rfl (zZ (ze ?_)));refine qQ (qX H2 (b:=b0) e_1 rfl (zZ ?_));refine qH (l:=QU (jz s)) rfl ?_;refine qd H2 (b:=b1) .here rfl (by show 0+5≤5;omega) rfl λh3 H3=>?_;refine qF H3 (b:=b1) (off:=0) .here rfl omQ (l:=QU (jz s)) rfl ?_;exact qq ⟨rfl,H3.drop.drop⟩
theorem UR (hn:2≤n) (H:HS g h R):t_w n 23 [.agg (xM s)] h λr h'=>r=.agg (xM (jz s))∧HS g h' R:=by
 refine t_e1 (S:=S23) rfl omQ λk hk=>?_;unfold S23;try simp only[iZ]
 refine qI H rfl λb0 h1 H1=>?_;refine qI H1 rfl λb1 h2 H2=>?_;refine qV ?_
 try dsimp only
 refine qQ (qF H2 (b:=b0) (off:=0) e_1 rfl omQ (l:=QU s) rfl ?_);refine qW (OF omQ H2) ?_;rintro _ h3 ⟨rfl,H3⟩;refine qQ (qX H3 (b:=b0) e_1 rfl (zZ (ze ?_)));refine qQ (qX H3 (b:=b0) e_1 rfl (zZ (ze ?_)));refine qQ (qX H3 (b:=b0) e_1 rfl (zZ (ze ?_)));refine qH (l:=xM (jz s)) rfl ?_;refine qd H3 (b:=b1) .here rfl (by show 0+8≤8;omega) rfl λh4 H4=>?_;refine qU H2 e_1 rfl H3 e_1 rfl (HS.lt H2 e_1) ?_;refine qU H2 e_1 rfl H3 e_1 rfl (HS.lt H2 e_1) ?_;refine qU H2 e_1 rfl H3 e_1 rfl (HS.lt H2 e_1) ?_;refine qF H4 (b:=b1) (off:=0) .here rfl omQ (l:=xM (jz s)) rfl ?_;exact qq ⟨rfl,H4.drop.drop⟩
theorem qkI {w:Int} (hn:1≤n) (hw:32≤w∧w≤256) (H:HS g h R):t_w n 44 [.int .i64 w] h λr h'=>∃b v,r=.ptr b 0∧HS g h' (qk b [v]::qA 22 1 w.toNat v ((List.replicate w.toNat (0:Int)).map (.int .u64))::R):=by
 refine t_e1 (S:=S44) rfl omQ λk hk=>?_;unfold S44;try simp only[iZ]
 refine zZ (ze ?_);rw[show max ((32:Nat):Int) (min w ((256:Nat):Int))=((w.toNat:Nat):Int) by omega];refine Jr H omQ λv h1 H1=>?_;rw[show List.replicate w.toNat (AV.int .u64 ((0:Nat):Int))=(List.replicate w.toNat (0:Int)).map (.int .u64) by rw[List.map_replicate];rfl]at H1;have o1:=H1.one .here;refine qH (l:=[v]) (by simp only[yB,o1.1];rfl) ?_;refine qI H1 (by simp only[qo,List.all_cons,o1.2];rfl) λb h2 H2=>qq ⟨b,v,rfl,H2⟩
theorem qzu {w:Int} (hn:1≤n) (hw:1≤w∧w≤4) (H:HS g h R):t_w n 47 [.int .i64 w] h λr h'=>∃b v,r=.ptr b 0∧HS g h' (qk b [v]::qA 22 1 w.toNat v ((List.replicate w.toNat (0:Int)).map (.int .u64))::R):=by
 refine t_e1 (S:=S47) rfl omQ λk hk=>?_;unfold S47;try simp only[iZ]
 refine zZ (ze ?_);rw[show max ((1:Nat):Int) (min w ((4:Nat):Int))=((w.toNat:Nat):Int) by omega];refine Jr H omQ λv h1 H1=>?_;rw[show List.replicate w.toNat (AV.int .u64 ((0:Nat):Int))=(List.replicate w.toNat (0:Int)).map (.int .u64) by rw[List.map_replicate];rfl]at H1;have o1:=H1.one .here;refine qH (l:=[v]) (by simp only[yB,o1.1];rfl) ?_;refine qI H1 (by simp only[qo,List.all_cons,o1.2];rfl) λb h2 H2=>qq ⟨b,v,rfl,H2⟩
theorem qQ4:∀k:Nat,vY [AV.int .u64 ((0:Nat):Int),.bool false,.int .i64 ((0:Nat):Int)] k=(List.replicate k lk0).flatMap jh:=by
 intro k
 induction k with
 |zero=>rfl
 |succ k ih=>rw[List.replicate_succ,List.flatMap_cons,← ih];rfl
theorem qvP {w z:Int} (hn:2≤n) (hw:1≤w∧w≤16) (hz:1≤z∧z≤16) (H:HS g h R):t_w n 45 [.int .i64 w,.int .i64 z] h λr h'=>∃b v,r=.ptr b 0∧HS g h' (qk b [v,.int .i64 z]::qA 47 3 w.toNat v ((List.replicate w.toNat lk0).flatMap jh)::R):=by
 refine t_e2 (S:=S45) rfl omQ λk hk=>?_;unfold S45;try simp only[iZ]
 refine qW (KH omQ) ?_;rintro _ _ ⟨rfl,rfl⟩;rw[show max 1 (min w ((16:Nat):Int))=((w.toNat:Nat):Int) by omega];refine YS (sz:=3) (ln:=w.toNat) (cp:=w.toNat) H rfl (Nat.le_refl _) omQ λv h1 H1=>?_;rw[List.take_of_length_le (by rw[wc];exact Nat.le_refl _),qQ4]at H1;refine qW (KH omQ) ?_;rintro _ _ ⟨rfl,rfl⟩;rw[show max 1 (min z ((16:Nat):Int))=z by omega];have o1:=H1.one .here;refine qH (l:=[v,.int .i64 z]) (by simp only[yB,o1.1];rfl) ?_;refine qI H1 (by simp only[qo,List.all_cons,o1.2];rfl) λb h2 H2=>qq ⟨b,v,rfl,H2⟩
theorem qxF {w:Int} (hn:1≤n) (hw:w≤4611686018427387903) (H:HS g h R):t_w n 46 [.int .u64 w] h λr h'=>∃b,r=.ptr b 0∧HS g h' (qk b [.int .u64 w]::R):=by
 refine t_e1 (S:=S46) rfl omQ λk hk=>?_;unfold S46;try simp only[iZ]
 refine zZ ?_;rw[show min w ((4611686018427387903:Nat):Int)=w by omega];refine qH (l:=[.int .u64 w]) rfl ?_;refine qI H rfl λb h2 H2=>qq ⟨b,rfl,H2⟩
theorem qkO (hn:4≤n) (hs:0≤s.start) (H:HS g h R):t_w n 24 [.agg (QU s)] h λr h'=>∃p,r=.ptr p 0∧HS g h' (MemC p (jz s) (yA (jz s))::R):=by
 refine t_e1 (S:=S24) rfl omQ λk hk=>?_;unfold S24;try simp only[iZ]
 have O:=yr hs;refine qI H rfl λb0 h1 H1=>?_;refine qF H1 (b:=b0) (off:=0) .here rfl omQ (l:=QU s) rfl ?_;refine qW (OF omQ H1) ?_;rintro _ h2 ⟨rfl,H2⟩;clear H H1;refine qd H2 (b:=b0) .here rfl (by show 0+5≤5;omega) rfl λh3 H3=>?_;have H3:HS g h3 (qk b0 (QU (jz s))::R):=H3;generalize jz s=S at*;clear H2;refine qV ?_
 try dsimp only
 refine qF H3 (b:=b0) (off:=0) .here rfl omQ (l:=QU S) rfl ?_;refine qQ (qX H3 (b:=b0) .here rfl ?_);refine qW (qkI omQ O.words H3) ?_;rintro _ h4 ⟨hb,wv,rfl,H4⟩;refine qQ (qX H4 (b:=b0) e_2 rfl ?_);refine qQ (qX H4 (b:=b0) e_2 rfl ?_);refine qW (qvP omQ O.stripes O.wide H4) ?_;rintro _ h5 ⟨tb,lv,rfl,H5⟩;refine qQ (qX H5 (b:=b0) e_4 rfl ?_);refine qW (qxF omQ O.start.2 H5) ?_;rintro _ h6 ⟨cb,rfl,H6⟩;refine qQ (qX H6 (b:=b0) e_5 rfl ?_);refine qW (qzu omQ O.threads H6) ?_;rintro _ h7 ⟨sb,sv,rfl,H7⟩;refine qH (l:=[.int .i64 S.words,.int .i64 S.stripes,.int .i64 S.wide,.int .i64 S.threads,.int .u64 S.start,.ptr hb 0,.ptr tb 0,.ptr cb 0,.ptr sb 0,.int .i64 0]) rfl ?_;refine qI H7 rfl λp h8 H8=>?_;refine qU H5 e_4 rfl H6 e_5 rfl (HS.lt H3 .here) ?_;refine qU H4 e_2 rfl H5 e_4 rfl (HS.lt H3 .here) ?_;refine qU H3 .here rfl H4 e_2 rfl (HS.lt H3 .here) ?_;refine qU H4 e_2 rfl H5 e_4 rfl (HS.lt H3 .here) ?_;refine qU H3 .here rfl H4 e_2 rfl (HS.lt H3 .here) ?_;refine qU H3 .here rfl H4 e_2 rfl (HS.lt H3 .here) ?_;refine qU H3 .here rfl H4 e_2 rfl (HS.lt H3 .here) ?_;refine zA H6 e_5 rfl H7 e_7 rfl rfl omQ (HS.lt H3 .here) ?_;refine zA H5 e_4 rfl H6 e_5 rfl rfl omQ (HS.lt H3 .here) ?_;refine zA H4 e_2 rfl H5 e_4 rfl rfl omQ (HS.lt H3 .here) ?_;refine zA H3 .here rfl H4 e_2 rfl rfl omQ (HS.lt H3 .here) ?_;refine qq ⟨p,rfl,MemC.I (hb:=hb) (tb:=tb) (cb:=cb) (sb:=sb) (wv:=wv) (lv:=lv) (sv:=sv) ?_⟩;unfold qJN yA;dsimp only;simp only[List.length_replicate];exact H8.sub (.cons .here (.cons e_5 (.cons e_5 (.cons e_3 (.cons e_3 (.cons e_2 (.cons .here (.cons .here (.drop .refl)))))))))
theorem Vw {m:Nat} {e:TypeId} {v:AV} {xs:List AV} {R2:List SP} (hn:1≤n) (H:HS g h L) (s:Sel L (qA e 1 m v xs) R2) (ha:qo xs=true) (hm:m≤1000000) :
  t_w n 104 [v] h λr h'=>HS g h' (qA 3 1 m r xs::L):=by
 refine t_e1 (S:=S104) rfl omQ λk hk=>?_;unfold S104;try simp only[iZ]
 refine Xj H s (λh1 h2=>?_) (qJ ?_)
 ·subst h1 h2;obtain rfl:xs=[]:=iA (by simpa using H.sl_len s);exact qZ (qq H.nils)
 ·refine qe (n:=0) (l:=[]) (sz:=1) H rfl rfl rfl rfl λv2 h2 H2=>?_;refine jR H2 (H2.sl (.there s)) omQ omQ ha λv3 h3 H3=>?_;rw[Nat.zero_add,List.nil_append]at H3;exact qq H3
theorem Ub {me:Int} (hn:6≤n) (hs:0≤s.start) (H:HS g h R):t_w n 112 [.int .i64 me,.agg (xM s)] h λr h'=>∃a vb db,r=.ptr a 0∧
  HS g h' (qk a (zu (qJA me (jz s) (.sweep [] 0)) ⟨.nilp,.nils,.nili,.nilp,.nilp,.nilp,0,vb,db⟩)::RdsC db []::ViewC vb (Ni (jz s).words (jz s).writes)::R):=by
 refine t_e2 (S:=S112) rfl omQ λk hk=>?_;unfold S112;try simp only[iZ]
 refine qI H rfl λb0 h1 H1=>?_;refine qF H1 (b:=b0) (off:=0) .here rfl omQ (l:=xM s) rfl ?_;refine qW (UR omQ H1) ?_;rintro _ h2 ⟨rfl,H2⟩;clear H H1;refine qd H2 (b:=b0) .here rfl (by show 0+8≤8;omega) rfl λh3 H3=>?_;have H3:HS g h3 (qk b0 (xM (jz s))::R):=H3;generalize jz s=S at*;clear H2;refine qV ?_
 try dsimp only
 refine qF H3 (b:=b0) (off:=0) .here rfl omQ (l:=xM S) rfl ?_;refine qQ (qh (qX H3 (b:=b0) .here rfl ?_));refine qQ (qX H3 (b:=b0) .here rfl ?_);refine qW (qvF omQ H3) ?_;rintro _ h4 ⟨vb,rfl,H4⟩;refine qW (qx2 omQ H4) ?_;rintro _ h5 ⟨db,rfl,H5⟩;refine qH (l:=zu (qJA me S (.sweep [] 0)) ⟨.nilp,.nils,.nili,.nilp,.nilp,.nilp,0,vb,db⟩) rfl ?_;refine qI H5 rfl λa h6 H6=>?_;refine zA H4 e_1 rfl H5 e_2 rfl rfl omQ (HS.lt H3 .here) ?_;refine zA H3 .here rfl H4 e_1 rfl rfl omQ (HS.lt H3 .here) ?_;exact qq ⟨a,vb,db,rfl,H6.sub (.cons .here (.cons .here (.cons .here (.drop .refl))))⟩
theorem qz0 {me:Int} {l:List qO} {sv:AV} (hn:10≤n) (hs:0≤s.start) (hc:(zt l).2=0) (S:Rd g R 5 l.length sv (l.flatMap jX)) (H:HS g h R) :
  t_w n 84 [.int .i64 me,.agg (xM s),.agg [sv]] h λr h'=>∃a,r=.ptr a 0∧HS g h' (AttC a (QC me s l)::R):=by
 refine t_e3 (S:=S84) rfl omQ λk hk=>?_;unfold S84;try simp only[iZ]
 have hle:=(GP hc).le;refine qI H rfl λb0 h1 H1=>?_;refine qI H1 (vJ (Qx (S.sl H))) λb1 h2 H2=>?_;refine qF H2 (b:=b0) (off:=0) e_1 rfl omQ (l:=xM s) rfl ?_;refine qW (Ub omQ hs H2) ?_;rintro _ h3 ⟨a,vb,db,rfl,H3⟩;refine qF H3 (b:=b1) (off:=0) e_3 rfl omQ (l:=[sv]) rfl ?_;refine qG (qQ (qX H3 (b:=a) .here rfl ?_));refine qG (qQ (qh (qX H3 (b:=a) .here rfl ?_)));refine qW (qkn omQ H3 S.more.more.more.more.more omQ) ?_;rintro _ h4 ⟨ib,rfl,H4⟩;refine qG (qQ ?_);refine qg H4 (b:=a) e_1 (x:=.ptr ib 0) ⟨rfl,rfl⟩ (by simp[zu]) λh5 H5=>qq ⟨a,rfl,?_⟩;have hm:Ko l=qS l:=by unfold Ko;rw[iJ hc]
 rw[hm,hc]at H5;refine AttC.I (q:=⟨.ptr ib 0,.nils,.nili,.nilp,.nilp,.nilp,0,vb,db⟩) ?_;have H6:=JobC.PI (p:=⟨l,KU,0,0,Xl (jz s).fuel⟩) ⟨rfl,rfl,rfl⟩ (H5.sel e_1);have H7:=InnC.noI (st:=0) (f:=qQ2 0 0 0 0 0) (e:=NC 0 0 []) (c:=none) (iv:=.nili) (fv:=.nilp) (ev:=.nilp) od rfl rfl H6;exact H7.sub (.cons e_2 (.cons e_1 (.cons e_2 (.cons e_1 (.cons .here (.drop (.drop .refl)))))))
theorem qKu {me:Int} {bs:List Int} {e:TypeId} {sv:AV} {R2:List SP} (hn:8≤n) (hs:0≤s.start) (hb:bs.length≤1000000) (H:HS g h L) (S:Sel L (qA e 1 bs.length sv (bs.map (.int .i64))) R2) :
  t_w n 83 [.int .i64 me,.agg (xM s),sv] h λr h'=>∃a,r=.ptr a 0∧HS g h' (AttC a (kI me s bs)::L):=by
 refine t_e3 (S:=S83) rfl omQ λk hk=>?_;unfold S83;try simp only[iZ]
 refine qI H rfl λb0 h1 H1=>?_;refine qF H1 (b:=b0) (off:=0) .here rfl omQ (l:=xM s) rfl ?_;refine qW (Ub omQ hs H1) ?_;rintro _ h3 ⟨a,vb,db,rfl,H3⟩;refine qW (Vw omQ H3 (.there (.there (.there (.there S)))) (qZ9 (λ_=>rfl) _) hb) λbv h4 H4=>?_;have o4:=H4.one .here;refine qG (qQ ?_);refine qg H4 (b:=a) e_1 o4 (by simp[zu]) λh5 H5=>qq ⟨a,rfl,?_⟩;refine AttC.I (q:=⟨.nilp,bv,.nili,.nilp,.nilp,.nilp,0,vb,db⟩) ?_;have H6:=JobC.SI (vb:=vb) (k:=0) (rv:=.nilp) (gv:=0) ⟨rfl,rfl⟩ (H5.sel e_1);have H7:=InnC.noI (st:=0) (f:=qQ2 0 0 0 0 0) (e:=NC 0 0 []) (c:=none) (iv:=.nili) (fv:=.nilp) (ev:=.nilp) od rfl rfl H6;exact H7.sub (.cons e_2 (.cons e_1 (.cons e_2 (.cons e_1 (.cons .here (.drop .refl))))))
section
variable {a:Nat} {x:jY} {q:O9}
theorem qq2 (hn:3≤n) (O:zT x) (H:HS g h (AttC a x::R)):t_w n 64 [.ptr a 0] h λr h'=>HS g h' (qA 125 2 x.r.length r (x.r.flatMap y7)::AttC a x::R):=by
 refine t_e1 (S:=S64) rfl omQ λk hk=>?_;unfold S64;try simp only[iZ]
 obtain⟨q,H1⟩:=AttC.E H;have hr:=O.r;refine qG (qQ (qX H1 (b:=a) .here rfl ?_));refine qW (Nd omQ omQ (H1.sel (P:=RdsC q.db x.r) e_3)) λv h2 H2=>qq ?_;exact HS.unsel e_1 (AttC.I (q:=q) (H2.sub (.cons e_2 (.cons e_2 (.cons e_2 (.cons e_1 (.cons e_1 (.cons .here .refl))))))))
theorem qVC (hn:2≤n) (O:zT x) (H:HS g h (AttC a x::R)):t_w n 105 [.ptr a 0] h λr h'=>HS g h' (qA 177 2 x.v.K.length r (x.v.K.flatMap jL)::AttC a x::R):=by
 refine t_e1 (S:=S105) rfl omQ λk hk=>?_;unfold S105;try simp only[iZ]
 obtain⟨q,H1⟩:=AttC.E H;refine qG (qQ (qX H1 (b:=a) .here rfl ?_));refine qW (qVc omQ (H1.sel (P:=ViewC q.vb x.v) e_2) O.good.ok) λv h2 H2=>qq ?_;exact HS.unsel e_1 (AttC.I (q:=q) (H2.sub (.cons e_2 (.cons e_2 (.cons e_1 (.cons e_1 (.cons e_1 (.cons .here .refl))))))))
theorem QT (hn:5≤n) (O:zT x) (H:HS g h (AttC a x::R)):t_w n 123 [.ptr a 0] h λr h'=>r=.bool (xr x)∧HS g h' (AttC a x::R):=by
 refine t_e1 (S:=S123) rfl omQ λk hk=>?_;unfold S123;try simp only[iZ]
 obtain⟨q,H1⟩:=AttC.E H;refine qW (qZ0 omQ H1 .here) ?_;rintro _ _ ⟨rfl,rfl⟩;unfold xr;by_cases c:zx x=2
 ·refine qz c ?_;rw[iG c];refine qV ?_;(try dsimp only);refine qp ?_;(try dsimp only);refine qE ?_
  exact qq ⟨rfl,H⟩
 ·refine qK c ?_;rw[iV c];refine qV ?_;(try dsimp only);refine qc ?_;(try dsimp only)
  refine qW (Jl omQ O.c H) ?_;rintro _ h2 ⟨rfl,H2⟩;refine qC ?_;exact qq ⟨rfl,H2⟩
theorem Mm (hn:1≤n) (H:HS g h L) (s:Sel L (qk a (zu x q)) R):t_w n 65 [.ptr a 0] h λr h'=>r=.bool (vQ x)∧h'=h:=by
 refine t_e1 (S:=S65) rfl omQ λk hk=>?_;unfold S65;try simp only[iZ]
 refine qG (qQ (qX H s rfl ?_));unfold vQ;by_cases c:x.state=8
 ·rw[iV (λh=>h c)];refine q8 c ?_;refine qV ?_;(try dsimp only);refine qR ?_;(try dsimp only);refine qC ?_
  exact qq ⟨rfl,rfl⟩
 ·rw[iG (show x.state≠8 from c)];refine qu c ?_;refine qV ?_;(try dsimp only);refine qa ?_;(try dsimp only);refine qG (qQ ?_)
  refine qX H s rfl ?_;refine qE ?_;exact qq ⟨rfl,rfl⟩
theorem qX1 (hn:11≤n) (O:zT x) (H:HS g h (AttC a x::R)):t_w n 106 [.ptr a 0] h λr h'=>HS g h' (qA 177 2 (Yh x).length r ((Yh x).flatMap jL)::AttC a x::R):=by
 refine t_e1 (S:=S106) rfl omQ λk hk=>?_;unfold S106;try simp only[iZ]
 refine qW (QT omQ O H) ?_;rintro _ h1 ⟨rfl,H1⟩;unfold Yh;cases hc:xr x with
 |false=>exact jk (qZ (qq H1.nils))
 |true=>refine jW (qJ ?_);obtain⟨q,H2⟩:=AttC.E H1;refine qG (qQ (qX H2 (b:=a) .here rfl ?_));refine qW (Vs omQ (H2.sel (P:=ViewC q.vb x.v) e_2) O.good.ok) λv h3 H3=>qq ?_;exact HS.unsel e_1 (AttC.I (q:=q) (H3.sub (.cons e_2 (.cons e_2 (.cons e_1 (.cons e_1 (.cons e_1 (.cons .here .refl))))))))
theorem V9 (hn:6≤n) (O:zT x) (H:HS g h (AttC a x::R)):t_w n 95 [.ptr a 0] h λr h'=>∃e,HS g h' (qA e 1 (zD x).length r ((zD x).map (.int .i64))::AttC a x::R):=by
 refine t_e1 (S:=S95) rfl omQ λk hk=>?_;unfold S95;try simp only[iZ]
 refine qW (QT omQ O H) ?_;rintro _ h1 ⟨rfl,H1⟩;unfold zD;cases hc:xr x with
 |false=>exact jk (qZ (qq ⟨3,H1.nils⟩))
 |true=>
  refine jW (qJ ?_);rw[iJ rfl];obtain⟨q,H2⟩:=AttC.E H1;have hj:=O.job;cases hx:x.job with
  |sweep bs k=>rw[hx]at hj;obtain⟨e,H3⟩:=JobC.S (by rw[← hx];exact H2.sel e_1);have hbl:=hj.2;refine qG (qQ (qX H2 (b:=a) .here (x:=.nilp) (by rw[← e.1];rfl) ?_));refine VJ (qZ ?_);refine qG (qQ (qX H2 (b:=a) .here rfl ?_));refine qW (Vw omQ H3 .here (qZ9 (λ_=>rfl) _) omQ) λv h4 H4=>qq ⟨3,?_⟩;have H5:=JobC.SI (vb:=q.vb) (k:=k) e (H4.sel e_1);rw[← hx]at H5;exact HS.unsel e_1 (AttC.I (q:=q) (H5.sub (.cons e_2 (.cons .here (.cons e_1 (.cons e_1 (.cons e_1 (.cons .here .refl))))))))
  |prog p=>obtain⟨ib,nx,e,H3⟩:=JobC.P (by rw[← hx];exact H2.sel e_1);refine qG (qQ (qX H2 (b:=a) .here (x:=.ptr ib 0) (by rw[← e.1];rfl) ?_));refine KY (qJ ?_);refine qG (qQ (qX H2 (b:=a) .here rfl ?_));refine qW (qKS omQ (H2.sel (P:=ViewC q.vb x.v) e_2) O.good.ok) λv h4 H4=>qq ⟨3,?_⟩;exact HS.unsel e_1 (AttC.I (q:=q) (H4.sub (.cons e_2 (.cons e_2 (.cons e_1 (.cons e_1 (.cons e_1 (.cons .here .refl))))))))
theorem VT (hn:8≤n) (O:zT x) (H:HS g h (AttC a x::R)):t_w n 92 [.ptr a 0] h λr h'=>r=.str (zE x)∧HS g h' (AttC a x::R):=by
 refine t_e1 (S:=S92) rfl omQ λk hk=>?_;unfold S92;try simp only[iZ]
 refine qW (QT omQ O H) ?_;rintro _ h1 ⟨rfl,H1⟩;unfold zE;cases hc:xr x with
 |false=>
  refine jk (qV ?_);(try dsimp only);refine qp ?_;(try dsimp only);refine qE (qZ ?_)
  exact qq ⟨rfl,H1⟩
 |true=>
  refine jW ?_;rw[iJ rfl];obtain⟨q,H2⟩:=AttC.E H1;have hj:=O.job;cases hx:x.job with
  |sweep bs k=>
   obtain⟨e,H3⟩:=JobC.S (by rw[← hx];exact H2.sel e_1);refine qV ?_;(try dsimp only);refine qc ?_;(try dsimp only);refine qG (qQ (qX ‹_› e_1 rfl ?_))
   rw[e.1];refine VJ (qC (qZ ?_));exact qq ⟨rfl,H1⟩
  |prog p=>
   rw[hx]at hj;obtain⟨ib,nx,e,H3⟩:=JobC.P (by rw[← hx];exact H2.sel e_1);refine qV ?_;(try dsimp only);refine qc ?_;(try dsimp only);refine qG (qQ (qX ‹_› e_1 rfl ?_))
   rw[e.1];refine KY (qC (qJ (qG (qQ (qX ‹_› e_1 rfl ?_)))));rw[e.1];have ho:=hj.2.2.1.out;refine qW (qVP omQ H3 ho) ?_;rintro _ h4 ⟨o,rfl,H4⟩;refine qW (qkd omQ H4 omQ hj.2.2.1.its) ?_;rintro _ h5 ⟨rfl,H5⟩;refine qq ⟨rfl,AttC.I (q:=q) ?_⟩;have H6:=JobC.PI (p:=p) e H5.drop;rw[← hx]at H6;exact H6.sub (.cons e_1 (.cons .here (.cons .here (.cons .here (.cons .here .refl)))))
end
end
end
section
variable {g h:AH} {L R:List SP}
def LimC (b:Nat) (r:List KO):SP:=.ex λsv=>.all [qk b [sv],qA 163 2 r.length sv (r.flatMap jL)]
section
variable {n b:Nat} {r:List KO}
theorem LimC.E (H:HS g h (LimC b r::R)):∃sv,HS g h (qk b [sv]::qA 163 2 r.length sv (r.flatMap jL)::R):=by obtain⟨sv,H⟩:=H.exE;exact⟨sv,H.allE⟩
theorem LimC.I {sv:AV} (H:HS g h (qk b [sv]::qA 163 2 r.length sv (r.flatMap jL)::R)):HS g h (LimC b r::R):=HS.exI sv H.allI
theorem qK3 (hn:1≤n) (H:HS g h R):t_w n 49 [] h λv h'=>∃b,v=.ptr b 0∧HS g h' (LimC b []::R):=by
 refine t_e0 (S:=S49) rfl omQ λk hk=>?_;unfold S49;try simp only[iZ]
 refine qH (l:=[.nils]) rfl ?_;refine qI H rfl λb h1 H1=>?_;refine qq ⟨b,rfl,LimC.I (sv:=.nils) ?_⟩;exact H1.nils.sub (.cons e_1 (.cons .here .refl))
theorem qVt (hn:1≤n) (H:HS g h (LimC b r::R)):t_w n 127 [.ptr b 0] h λv h'=>v=.int .i64 (r.length:Int)∧h'=h:=by
 refine t_e1 (S:=S127) rfl omQ λk hk=>?_;unfold S127;try simp only[iZ]
 obtain⟨sv,H1⟩:=LimC.E H;refine qG (qQ (qX H1 (b:=b) .here rfl ?_));refine qi H1 e_1 ?_;exact qq ⟨rfl,rfl⟩
theorem VO {z:Int} {bs:List Int} {bv:AV} (hn:1≤n) (hr:r.length+bs.length≤1000000) (H:HS g h (LimC b r::R)) (S:Rd g R 1 bs.length bv (bs.map (.int .i64))) :
  t_w n 94 [.ptr b 0,.int .u64 z,bv] h λ_ h'=>HS g h' (LimC b (r++bs.map λq=>(q,z))::R):=by
 refine t_e3 (S:=S94) rfl omQ λk hk=>?_;unfold S94;try simp only[iZ]
 refine xC (S.more.sl H) ?_;refine jw (λc s h'=>∃i:Nat,s=(.int .i64 (i:Int),.int .i64 (bs.length:Int),bv,.int .u64 z,.ptr b 0,())∧i≤bs.length∧c=bs.length-i∧HS g h' (LimC b (r++(bs.take i).map λq=>(q,z))::R))
  ?_ (m:=bs.length) (by show _<1000000000;omega) ⟨0,rfl,Nat.zero_le _,rfl,by rw[List.take_zero,List.map_nil,List.append_nil];exact H⟩
 clear H;rintro c ih s h1 hih ⟨i,rfl,hi,rfl,H⟩;dsimp only;by_cases hlt:i<bs.length
 ·refine jB omQ (qZ ?_);refine jI (S.more.sl H) (qZo hlt) ?_;obtain⟨sv,H1⟩:=LimC.E H;refine qG (qQ (qX H1 (b:=b) .here rfl ?_));refine qH (l:=jL (bs[i],z)) rfl ?_;refine qe (n:=1) (l:=jL (bs[i],z)) (sz:=2) H1 rfl rfl rfl rfl λv2 h2 H2=>?_;refine jR (H2.sel e_2) (H2.sl .here) omQ (by rw[List.length_append,List.length_map,List.length_take];omega) rfl λv3 h3 H3=>?_;have o3:=H3.one .here;refine qG (qQ ?_);refine qg H3 (b:=b) e_2 o3 osQ λh4 H4=>?_;refine qb omQ ?_;refine hih (bs.length-(i+1)) _ _ omQ ⟨i+1,rfl,by omega,rfl,LimC.I (sv:=v3) ?_⟩;have er:r++(bs.take (i+1)).map (λq=>(q,z))=(r++(bs.take i).map λq=>(q,z))++[(bs[i],z)]:=by rw[List.take_add_one,iW hlt,List.append_assoc,List.map_append];rfl
  rw[er,List.length_append,List.flatMap_append];exact H4.sub (.cons .here (.cons .here (.drop .refl)))
 ·obtain rfl:i=bs.length:=by omega
  refine jK omQ (qJ (qx (qq ?_)));rw[List.take_length]at H;exact H
theorem qXT {sl:List Int} {v:AV} {z:Int} (hn:1≤n) (hl:sl.length≤1000) (S:Sl (λ_=>True) h 1 sl.length v (sl.map (.int .u64))) :
  t_w n 155 [v,.int .u64 z] h λr h'=>r=.bool (jQ sl z)∧h'=h:=by
 refine t_e2 (S:=S155) rfl omQ λk hk=>?_;unfold S155;try simp only[iZ]
 refine xC S ?_;refine jw (λc s h'=>∃i:Nat,s=(.int .i64 (i:Int),.int .i64 (sl.length:Int),v,.int .u64 z,())∧i≤sl.length∧c=sl.length-i∧h'=h∧jQ sl z=jQ (sl.drop i) z)
  ?_ (m:=sl.length) (by show _<1000000000;omega) ⟨0,rfl,Nat.zero_le _,rfl,rfl,rfl⟩
 rintro c ih s _ hih ⟨i,rfl,hi,rfl,rfl,hp⟩;dsimp only;by_cases hlt:i<sl.length
 ·refine jB omQ (qZ ?_);refine jI S (x:=.int .u64 sl[i]) (by rw[List.getElem?_map,iW hlt];rfl) ?_;have hd:sl.drop i=sl[i]::sl.drop (i+1):=List.drop_eq_getElem_cons hlt;have hcons:jQ (sl[i]::sl.drop (i+1)) z=(decide (sl[i]=0∨z<sl[i])&&jQ (sl.drop (i+1)) z):=rfl;rw[hd,hcons]at hp;refine qV ?_
  try dsimp only
  by_cases c0:sl[i]=0
  ·refine q8 c0 (qR ?_);refine qC (qJ ?_);refine qb omQ ?_;refine hih (sl.length-(i+1)) _ _ omQ ⟨i+1,rfl,by omega,rfl,rfl,?_⟩;rw[hp,iG (.inl c0),Bool.true_and]
  ·refine qu c0 (qa ?_);by_cases c1:z<sl[i]
   ·refine Q6 omQ (qE (qJ ?_));refine qb omQ ?_;refine hih (sl.length-(i+1)) _ _ omQ ⟨i+1,rfl,by omega,rfl,rfl,?_⟩;rw[hp,iG (.inr c1),Bool.true_and]
   ·refine QA omQ (qE (qZ (qx (qq ⟨?_,rfl⟩))));rw[hp,iV (λh=>h.elim c0 c1),Bool.false_and]
 ·obtain rfl:i=sl.length:=by omega
  refine jK omQ (qJ (qx (qq ⟨?_,rfl⟩)));rw[hp,List.drop_length];rfl
theorem qxO {sl:List Int} {v:AV} (hn:2≤n) (hl:sl.length≤1000) (hr:r.length≤1000000) (H:HS g h (LimC b r::R)) (S:Rd g R 1 sl.length v (sl.map (.int .u64))) :
  t_w n 128 [.ptr b 0,v] h λq h'=>
   HS g h' (qA 163 2 (r.filter λx=>jQ sl x.2).length q ((r.filter λx=>jQ sl x.2).flatMap jL)::LimC b (r.filter λx=>!jQ sl x.2)::R):=by
 refine t_e2 (S:=S128) rfl omQ λk hk=>?_;unfold S128;try simp only[iZ]
 obtain⟨sv,H1⟩:=LimC.E H;clear H;refine qG (qQ (qX H1 (b:=b) .here rfl ?_));refine qi H1 e_1 ?_;have fl:∀(p:KO→Bool) (i:Nat),((r.take i).filter p).length≤r.length:=λp i=>Nat.le_trans (List.length_filter_le ..) (by rw[List.length_take];omega)
 refine jw (λc s h'=>∃(i:Nat) (qv wv:AV),s=(.int .i64 (i:Int),.int .i64 (r.length:Int),sv,wv,qv,v,.ptr b 0,())∧i≤r.length∧c=r.length-i∧
   HS g h' (qA 163 2 ((r.take i).filter λx=>jQ sl x.2).length qv (((r.take i).filter λx=>jQ sl x.2).flatMap jL)::qA 163 2 ((r.take i).filter λx=>!jQ sl x.2).length wv (((r.take i).filter λx=>!jQ sl x.2).flatMap jL)::
    qk b [sv]::qA 163 2 r.length sv (r.flatMap jL)::R))
  ?_ (m:=r.length) (by show _<1000000000;omega) ⟨0,.nils,.nils,rfl,Nat.zero_le _,rfl,H1.nils.nils⟩
 clear H1;rintro c ih s h1 hih ⟨i,qv,wv,rfl,hi,rfl,H⟩;dsimp only;by_cases hlt:i<r.length
 ·refine jB omQ (qZ ?_)
  refine jd [] (λs h'=>∃(qv wv:AV),s=(.int .i64 (i:Int),.int .i64 (r.length:Int),sv,wv,qv,v,.ptr b 0,())∧
   HS g h' (qA 163 2 ((r.take (i+1)).filter λx=>jQ sl x.2).length qv (((r.take (i+1)).filter λx=>jQ sl x.2).flatMap jL)::qA 163 2 ((r.take (i+1)).filter λx=>!jQ sl x.2).length wv (((r.take (i+1)).filter λx=>!jQ sl x.2).flatMap jL)::
    qk b [sv]::qA 163 2 r.length sv (r.flatMap jL)::R)) (λj hj=>?_) ?_
  rotate_left
  ·rintro _ h2 ⟨qv,wv,rfl,H2⟩;dsimp only;refine qb omQ ?_;exact hih (r.length-(i+1)) _ _ omQ ⟨i+1,qv,wv,rfl,by omega,rfl,H2⟩
  refine zH (l:=jL r[i]) (H.sl e_3) hlt omQ (vk (sz:=2) (enc:=jL) (λ_=>rfl) (iW hlt)) ?_;refine qI H rfl λb2 h2 H2=>?_;refine qd H2 (b:=b2) .here rfl (by show 0+2≤2;omega) rfl λh3 H3=>?_;refine qQ (qX H3 (b:=b2) .here (x:=.int .u64 r[i].2) rfl ?_);refine qW (qXT (sl:=sl) omQ hl (S.more.more.more.more.more.sl H3)) ?_;rintro _ _ ⟨rfl,rfl⟩;have et:r.take (i+1)=r.take i++[r[i]]:=by rw[List.take_add_one,iW hlt];rfl
  have f1:=fl (λx=>jQ sl x.2) i;have f2:=fl (λx=>!jQ sl x.2) i;cases hp:jQ sl r[i].2 with
  |true=>refine qZ (qF H3 (b:=b2) (off:=0) .here rfl omQ (l:=jL r[i]) rfl ?_);refine qe (n:=1) (l:=jL r[i]) (sz:=2) H3 rfl rfl rfl rfl λv2 h4 H4=>?_;refine jR (H4.sel e_2) (H4.sl .here) omQ omQ rfl λv3 h5 H5=>hj _ _ ⟨v3,wv,rfl,?_⟩;rw[et,List.filter_append,List.filter_append,show[r[i]].filter (λx=>jQ sl x.2)=[r[i]] by simp[hp],show[r[i]].filter (λx=>!jQ sl x.2)=[] by simp[hp],List.append_nil,List.length_append,List.flatMap_append];exact H5.sub (.cons .here (.cons e_2 (.cons e_2 (.cons e_2 (.drop (.drop .refl))))))
  |false=>refine qJ (qF H3 (b:=b2) (off:=0) .here rfl omQ (l:=jL r[i]) rfl ?_);refine qe (n:=1) (l:=jL r[i]) (sz:=2) H3 rfl rfl rfl rfl λv2 h4 H4=>?_;refine jR (H4.sel e_3) (H4.sl .here) omQ omQ rfl λv3 h5 H5=>hj _ _ ⟨qv,v3,rfl,?_⟩;rw[et,List.filter_append,List.filter_append,show[r[i]].filter (λx=>jQ sl x.2)=[] by simp[hp],show[r[i]].filter (λx=>!jQ sl x.2)=[r[i]] by simp[hp],List.append_nil,List.length_append,List.flatMap_append];exact H5.sub (.cons e_3 (.cons .here (.cons e_2 (.cons e_2 (.drop (.drop .refl))))))
 ·obtain rfl:i=r.length:=by omega
  rw[List.take_length]at H;refine jK omQ (qJ ?_);have o1:=H.one e_1;refine qG (qQ ?_);refine qg H (b:=b) e_2 o1 osQ λh2 H2=>qx (qq ?_);have H3:=LimC.I (r:=r.filter λx=>!jQ sl x.2) (sv:=wv) (H2.sub (.cons .here (.cons e_1 .refl)));exact H3.sub (.cons e_1 (.cons .here (.drop .refl)))
end
end
section
variable {g h:AH} {L R:List SP}
theorem Ky {R:List SP} {P:SP}:∀{A:List SP} {i:Nat},A[i]? =some P→Sel (A++R) P (A.eraseIdx i++R):=by
 intro A
 induction A with
 |nil=>intro i h;cases h
 |cons x r ih=>
  intro i h;cases i with
  |zero=>cases h;exact .here
  |succ i=>exact .there (ih (by simpa using h))
def JobsC (js:List (List qO)) (v:AV):SP:=.ex λvs:List AV=>.all [.pur (vs.length=js.length),qA 54 1 js.length v vs,.all (List.zipWith zh vs js)]
structure qKN where
  rv:AV
  cv:AV
  fe:TypeId
  fv:AV
def Gz (r:KV) (z:qKN):List AV:=[.int .i64 r.thread,.int .i64 r.job,.int .i64 r.try_,.bool r.sweep,.int .i64 r.kind,.int .i64 r.err,.int .u64 r.begin_,.int .u64 r.stamp,.int .i64 r.born,.int .i64 r.ended,z.rv,z.cv,z.fv,.str r.slate]
def NW (r:KV) (z:qKN):List SP:=[qA 177 2 r.reads.length z.rv (r.reads.flatMap jL),qA 177 2 r.cells.length z.cv (r.cells.flatMap jL),qA z.fe 1 r.frees.length z.fv (r.frees.map (.int .i64))]
def PastC (r:List KV) (v:AV):SP:=.ex λzs:List (KV×qKN)=>.all [.pur (zs.map (·.1)=r),qA 129 14 zs.length v (zs.flatMap λz=>Gz z.1 z.2),.all (zs.flatMap λz=>NW z.1 z.2)]
def Zl (r:Vj):List AV:=[.int .i64 r.kind,.int .i64 r.err,.str r.slate,.int .u64 r.stamp]
def NowC (x:Option jY) (v:AV):SP:=match x with
 |none=>.pur (v=.nilp)
 |some x=>.ex λa:Nat=>.all [.pur (v=.ptr a 0),AttC a x]
structure Vz where
  jv:AV
  gv:AV
  nv:AV
  pv:AV
  rv:AV
  lb:Nat
  sv:AV
def yI (t:jJ) (q:Vz):List AV:=[.int .i64 t.me,.int .i64 t.set.words,.int .i64 t.set.stripes,.int .i64 t.set.wide,.int .i64 t.set.threads,.int .u64 t.set.start,.int .i64 t.set.spins,.int .i64 t.set.writes,.int .i64 t.set.fuel,
 q.jv,.int .i64 t.job,.int .i64 t.state,.bool t.sweep,q.gv,.int .i64 t.tries,.int .i64 t.conf,q.nv,.int .i64 t.born,.bool t.alarm,q.pv,q.rv,.ptr q.lb 0,q.sv,.int .i64 t.by_,.int .u64 t.since,.bool t.yielding,.int .i64 t.pauses]
abbrev Yz (b:Nat) (t:jJ) (q:Vz) (R:List SP):List SP :=
 qk b (yI t q)::JobsC t.jobs q.jv::qA 163 2 t.giving.length q.gv (t.giving.flatMap jL)::NowC t.now q.nv::PastC t.past q.pv::qA 61 4 t.results.length q.rv (t.results.flatMap Zl)::LimC q.lb t.rests::qA 22 1 t.slots.length q.sv (t.slots.map (.int .u64))::R
def ThdC (b:Nat) (t:jJ):SP:=.ex λq:Vz=>.all (Yz b t q [])
section
variable {n b:Nat} {t:jJ} {q:Vz}
theorem ThdC.E (H:HS g h (ThdC b t::R)):∃q,HS g h (Yz b t q R):=by obtain⟨q,H⟩:=H.exE;exact⟨q,H.allE⟩
theorem ThdC.I (H:HS g h (Yz b t q R)):HS g h (ThdC b t::R):=HS.exI q (HS.allI (A:=Yz b t q []) H)
theorem NowC.E {x:jY} {v:AV} (H:HS g h (NowC (some x) v::R)):∃a,v=.ptr a 0∧HS g h (AttC a x::R):=by obtain⟨a,H⟩:=(show HS g h (.ex (λa:Nat=>SP.all [.pur (v=.ptr a 0),AttC a x])::R)from H).exE;have H:=H.allE.purE;exact⟨a,H.1,H.2⟩
theorem NowC.I {x:jY} {a:Nat} (H:HS g h (AttC a x::R)):HS g h (NowC (some x) (.ptr a 0)::R) :=
 show HS g h (.ex (λa':Nat=>SP.all [.pur (AV.ptr a 0=.ptr a' 0),AttC a' x])::R)from HS.exI a (HS.allI (A:=[_,_]) (HS.purI rfl H))
theorem JobsC.E {js:List (List qO)} {v:AV} (H:HS g h (JobsC js v::R)):∃vs:List AV,vs.length=js.length∧HS g h (qA 54 1 js.length v vs:: .all (List.zipWith zh vs js)::R):=by obtain⟨vs,H⟩:=H.exE;exact⟨vs,H.allE.purE⟩
theorem JobsC.I {js:List (List qO)} {v:AV} {vs:List AV} (hl:vs.length=js.length) (H:HS g h (qA 54 1 js.length v vs:: .all (List.zipWith zh vs js)::R)):HS g h (JobsC js v::R) :=
 HS.exI vs (HS.allI (A:=[_,_,_]) (HS.purI hl H))
theorem qZ1 {A R:List SP} {P:SP}:Sel (A++P::R) P (A++R):=by
 induction A with
 |nil=>exact .here
 |cons x r ih=>exact .there ih
theorem Qf (hn:11≤n) (B:ThrB t) (hr:t.giving.length≤1000000) (H:HS g h (ThdC b t::R)):t_w n 57 [.ptr b 0] h λ_ h'=>HS g h' (ThdC b (zC t)::R):=by
 refine t_e1 (S:=S57) rfl omQ λk hk=>?_;unfold S57;try simp only[iZ]
 obtain⟨q,H0⟩:=ThdC.E H;clear H;refine qG (qQ (qg H0 (b:=b) .here ⟨rfl,rfl⟩ (by simp[yI]) λh1 H1=>?_));refine qG (qQ (qg H1 (b:=b) .here ⟨rfl,rfl⟩ (by simp[yI]) λh2 H2=>?_))
 let T:jJ:={ t with born:=0,alarm:=false }
 have H2:HS g h2 (Yz b T q R):=H2;have hset:=kN B.set;refine jd [] (λs h'=>∃(x:jY) (a:Nat),s=(.ptr b 0,())∧zC t={ T with state:=1,now:=some x }∧HS g h' (Yz b { T with now:=some x } { q with nv:=.ptr a 0 } R)) (λj hj=>?_) ?_
 rotate_left
 ·rintro _ h3 ⟨x,a,rfl,e,H3⟩;dsimp only;refine qG (qQ (qg H3 (b:=b) .here ⟨rfl,rfl⟩ (by simp[yI]) λh4 H4=>qx (qq ?_)));rw[e];exact ThdC.I (q:={ q with nv:=.ptr a 0 }) H4
 have hjl:=B.jl;have hjb:=B.job;obtain⟨vs,hvl,H3⟩:=JobsC.E (js:=t.jobs) (H2.sel (P:=JobsC T.jobs q.jv) e_1);refine qG (qQ (qX H2 (b:=b) .here rfl ?_));refine qG (qQ (qX H2 (b:=b) .here rfl ?_));refine qi H3 (sz:=1) (n:=t.jobs.length) (v:=q.jv) .here ?_;by_cases c:t.job=(t.jobs.length:Int)
 ·rw[show zC t={ t with born:=0,alarm:=false,state:=6,now:=none }from iJ c];refine qz c (qZ ?_);refine qG (qQ ?_);refine qg H2 (b:=b) .here ⟨rfl,rfl⟩ (by simp[yI]) λh4 H4=>?_;refine qG (qQ ?_);refine qg H4 (b:=b) .here ⟨rfl,rfl⟩ (by simp[yI]) λh5 H5=>qq ?_;refine ThdC.I (q:={ q with nv:=.nilp }) ?_;have H6:=(HS.purI (φ:=AV.nilp=.nilp) rfl H5);exact H6.sub (.cons e_1 (.cons e_1 (.cons e_1 (.cons .here (.drop .refl)))))
 ·refine qK c (qJ ?_);by_cases hsw:t.sweep=true
  ·refine qG (qQ (qh (qX H2 (b:=b) .here (x:=.bool true) (by rw[← hsw];rfl) ?_)));refine qZ (qG (qQ (qh (qX H2 (b:=b) .here rfl ?_))));refine qi H2 (n:=t.giving.length) (v:=q.gv) e_2 ?_;refine jw (λc s h'=>∃(i:Nat) (av:AV),s=(.int .i64 (i:Int),.int .i64 (t.giving.length:Int),q.gv,av,.ptr b 0,())∧i≤t.giving.length∧c=t.giving.length-i∧HS g h' (qA 3 1 i av (((t.giving.take i).map (·.1)).map (.int .i64))::Yz b T q R))
    ?_ (m:=t.giving.length) (by show _<1000000000;omega) ⟨0,.nils,rfl,Nat.zero_le _,rfl,H2.nils⟩
   clear H0 H1 H2 H3;rintro c ih s h3 hih ⟨i,av,rfl,hi,rfl,H⟩;dsimp only;by_cases hlt:i<t.giving.length
   ·refine jB omQ (qZ ?_);refine zH (l:=jL t.giving[i]) (H.sl (n:=t.giving.length) (v:=q.gv) (xs:=t.giving.flatMap jL) e_3) hlt omQ (vk (sz:=2) (enc:=jL) (λ_=>rfl) (iW hlt)) ?_;refine qI H rfl λb2 h4 H4=>?_;refine qd H4 (b:=b2) .here rfl (by show 0+2≤2;omega) rfl λh5 H5=>?_;refine qQ (qX H5 (b:=b2) .here (x:=.int .i64 t.giving[i].1) rfl ?_);refine qe (n:=1) (l:=[.int .i64 t.giving[i].1]) (sz:=1) H5 rfl rfl rfl rfl λv2 h6 H6=>?_;refine jR (H6.sel (P:=qA 3 1 i av (((t.giving.take i).map (·.1)).map (.int .i64))) e_2) (H6.sl .here) omQ omQ rfl λv3 h7 H7=>?_;refine qb omQ ?_;refine hih (t.giving.length-(i+1)) _ _ omQ ⟨i+1,v3,rfl,by omega,rfl,?_⟩;have et:((t.giving.take (i+1)).map (·.1)).map (AV.int .i64)=((t.giving.take i).map (·.1)).map (AV.int .i64)++[.int .i64 t.giving[i].1]:=by rw[List.take_add_one,iW hlt,List.map_append,List.map_append];rfl
    rw[et];exact H7.sub (.cons .here (.drop (.drop .refl)))
   ·obtain rfl:i=t.giving.length:=by omega
    refine jK omQ (qJ ?_);rw[List.take_length]at H;refine qG (qQ (qX H (b:=b) e_1 rfl ?_));refine qG (qQ (qF H (b:=b) (off:=1) e_1 rfl (by simp[yI]) (l:=xM t.set) rfl ?_));refine qW (qKu (bs:=t.giving.map (·.1)) omQ B.set.start.1 (by rw[List.length_map];omega) H (by rw[List.length_map];exact .here)) ?_;rintro _ h4 ⟨a,rfl,H4⟩;refine qG (qQ ?_);refine qg H4 (b:=b) e_2 (x:=.ptr a 0) ⟨rfl,rfl⟩ (by simp[yI]) λh5 H5=>?_;refine hj _ _ ⟨kI t.me t.set (t.giving.map (·.1)),a,rfl,by unfold zC;rw[iQ c,iJ hsw],?_⟩;have H6:=NowC.I (H5.sel (P:=AttC a (kI t.me t.set (t.giving.map (·.1)))) e_1);exact H6.sub (.cons e_1 (.cons e_2 (.cons e_2 (.cons .here (.drop (.drop .refl))))))
  ·have hsf:t.sweep=false:=by simpa using hsw
   refine qG (qQ (qh (qX H2 (b:=b) .here (x:=.bool false) (by rw[← hsf];rfl) ?_)));refine qJ ?_;have hlt:t.job.toNat<t.jobs.length:=by omega
   have hje:t.jobs[t.job.toNat]? =some t.jobs[t.job.toNat]:=iW hlt;have hchk:=B.jobs _ (List.getElem_mem hlt);have hvlt:t.job.toNat<vs.length:=by omega
   refine qG (qQ (qX H2 (b:=b) .here rfl ?_));refine qG (qQ (qF H2 (b:=b) (off:=1) .here rfl (by simp[yI]) (l:=xM t.set) rfl ?_));refine qG (qQ (qX H2 (b:=b) .here rfl ?_));refine qG (qQ (qX H2 (b:=b) .here (x:=.int .i64 ((t.job.toNat:Nat):Int)) (by show some (AV.int .i64 t.job)=_;congr;omega) ?_));refine zH (l:=[vs[t.job.toNat]]) (H3.sl .here) hlt omQ (by rw[Nat.mul_one,List.drop_eq_getElem_cons hvlt];rfl) ?_;have H4:=(H3.sel (P:=.all (List.zipWith zh vs t.jobs)) e_1).allE;have hz:(List.zipWith zh vs t.jobs)[t.job.toNat]? =some (zh vs[t.job.toNat] t.jobs[t.job.toNat]):=by rw[List.getElem?_zipWith,iW hvlt,hje]
   refine qW (qz0 (l:=t.jobs[t.job.toNat]) omQ B.set.start.1 hchk.1 (H4.rd (e:=51) (sz:=5) (n:=(t.jobs[t.job.toNat]).length) (Ky hz)) H4) ?_;rintro _ h5 ⟨a,rfl,H5⟩;have H6:HS g h5 (.all (List.zipWith zh vs t.jobs)::AttC a (QC t.me t.set t.jobs[t.job.toNat])::qA 54 1 t.jobs.length q.jv vs::qk b (yI T q)::_):=HS.allI (HS.unsel qZ1 H5);have H7:=JobsC.I hvl (H6.sel (P:=qA 54 1 t.jobs.length q.jv vs) e_2);refine qG (qQ ?_);refine qg H7 (b:=b) e_2 (x:=.ptr a 0) ⟨rfl,rfl⟩ (by simp[yI]) λh8 H8=>?_;refine hj _ _ ⟨QC t.me t.set t.jobs[t.job.toNat],a,rfl,by unfold zC;rw[iQ c,iQ hsw,hje];rfl,?_⟩;have H9:=NowC.I (H8.sel (P:=AttC a (QC t.me t.set t.jobs[t.job.toNat])) e_2);exact H9.sub (.cons e_1 (.cons e_1 (.cons e_1 (.cons .here (.drop .refl)))))
theorem kV (hn:12≤n) (B:ThrB { t with job:=t.job+1,sweep:=false,giving:=[],tries:=0,conf:=0 }) (H:HS g h (ThdC b t::R)):t_w n 51 [.ptr b 0] h λ_ h'=>HS g h' (ThdC b (zn t)::R):=by
 refine t_e1 (S:=S51) rfl omQ λk hk=>?_;unfold S51;try simp only[iZ]
 obtain⟨q,H0⟩:=ThdC.E H;have hj:=B.job;have hjl:=B.jl;dsimp only at hj hjl;refine qG (qQ (qX H0 (b:=b) .here rfl ?_));refine qb omQ ?_;refine qG (qQ ?_);refine qg H0 (b:=b) .here ⟨rfl,rfl⟩ (by simp[yI]) λh1 H1=>?_;refine qH (l:=[.bool false,.nils,.int .i64 0,.int .i64 0]) rfl ?_;refine qG (qQ ?_);refine qd H1 (b:=b) .here rfl (by simp[yI]) rfl λh2 H2=>?_;have H3:=ThdC.I (b:=b) (t:={ t with job:=t.job+1,sweep:=false,giving:=[],tries:=0,conf:=0 }) (q:={ q with gv:=.nils }) ((H2.nils (e:=163) (sz:=2)).sub (.cons e_1 (.cons e_1 (.cons .here (.drop .refl)))));exact qW (Qf omQ B (Nat.zero_le _) H3) λ_ h4 H4=>qq H4
theorem V2 (hn:1≤n) (H:HS g h L) (s:Sel L (qk b (yI t q)) R):t_w n 36 [.ptr b 0] h λr h'=>r=.int .i64 t.state∧h'=h:=by
 refine t_e1 (S:=S36) rfl omQ λk hk=>?_;unfold S36;try simp only[iZ]
 refine qG (qQ (qX H s rfl ?_));exact qq ⟨rfl,rfl⟩
end
end
section
variable {g h:AH} {L R:List SP}
theorem qzf {i:Int} (h:0≤i):min (2*vS i) 8=vS (i+1):=by
 unfold vS
 repeat' split
 all_goals omega
theorem qz9 {c:Int}:vS (min c 8)=vS c:=by
 unfold vS
 repeat' split
 all_goals omega
section
variable {n b:Nat} {t:jJ} {q:Vz}
theorem ThrB.next (B:ThrB t) (hj:t.job<t.jobs.length):ThrB { t with job:=t.job+1,sweep:=false,giving:=[],tries:=0,conf:=0 }:=by have h1:=B.job;have h2:=B.rests;exact⟨B.set,B.me,B.jobs,B.jl,by show 0≤t.job+1∧t.job+1≤(t.jobs.length:Int);omega,by show t.rests.length+0≤9000*t.results.length;omega,B.slots,by show(0:Int)≤0∧(0:Int)≤(t.past.length:Int);omega,by show(0:Int)≤0∧(0:Int)≤0;omega,λ_=>rfl⟩
theorem Z3 {draw:Int} (hn:12≤n) (B:ThrB t) (hg:t.giving.length≤1000000) (hd:0≤draw∧draw<256) (H:HS g h (ThdC b t::R)):t_w n 89 [.ptr b 0,.int .u8 draw] h λ_ h'=>HS g h' (ThdC b (xk t draw)::R):=by
 refine t_e2 (S:=S89) rfl omQ λk hk=>?_;unfold S89;try simp only[iZ]
 obtain⟨q,H0⟩:=ThdC.E H;clear H;have hc:=B.conf;refine qG (qQ (qh (qX H0 (b:=b) .here rfl ?_)));refine zZ ?_;refine jw (λc s h'=>∃i:Nat,s=(.int .i64 (i:Int),.int .i64 (min t.conf 8),.int .i64 (vS i),.int .u8 draw,.ptr b 0,())∧(i:Int)≤min t.conf 8∧c=(min t.conf 8).toNat-i∧h'=h)
  ?_ (m:=(min t.conf 8).toNat) (by show _<1000000000;omega) ⟨0,rfl,by omega,rfl,rfl⟩
 rintro c ih s _ hih ⟨i,rfl,hi,rfl,rfl⟩;dsimp only;by_cases hlt:(i:Int)<min t.conf 8
 ·have hb:=Nb i;refine jB hlt (qZ ?_);refine Kw omQ (zZ (qb omQ ?_));refine hih ((min t.conf 8).toNat-(i+1)) _ _ omQ ⟨i+1,?_,by omega,rfl,rfl⟩;rw[show((2:Nat):Int)=2 from rfl,show((8:Nat):Int)=8 from rfl,qzf omQ]
  try rfl
 ·refine jK hlt (qJ ?_);have hie:(i:Int)=min t.conf 8:=by omega
  rw[hie,qz9];have hb:=Nb t.conf;refine xY omQ (qb omQ (Q7 omQ ?_));have em:draw.tmod (vS t.conf+((1:Nat):Int))=draw%(vS t.conf+1):=by rw[Int.tmod_eq_emod_of_nonneg hd.1];rfl
  rw[em];refine qG (qQ ?_);refine qg H0 (b:=b) .here ⟨rfl,rfl⟩ (by simp[yI]) λh1 H1=>?_;refine qG (qQ ?_);refine qg H1 (b:=b) .here ⟨rfl,rfl⟩ (by simp[yI]) λh2 H2=>?_;refine qG (qQ (qX H2 (b:=b) .here rfl ?_));unfold xk;have H3:HS g h2 (ThdC b { t with pauses:=draw%(vS t.conf+1),state:=3 }::R):=ThdC.I (q:=q) H2;by_cases c0:draw%(vS t.conf+1)=0
  ·rw[iJ c0];refine qz c0 (qZ ?_);rw[c0]at H3;exact qW (Qf (t:={ t with pauses:=0,state:=3 }) omQ ⟨B.set,B.me,B.jobs,B.jl,B.job,B.rests,B.slots,B.tries,B.conf,B.giv⟩ hg H3) λ_ h4 H4=>qx (qq H4)
  ·rw[iQ c0];exact qK c0 (qJ (qx (qq H3)))
theorem qGM (hn:12≤n) (O:xF t) (H:HS g h (ThdC b t::R)):t_w n 31 [.ptr b 0] h λ_ h'=>HS g h' (ThdC b (zk t)::R):=by
 refine t_e1 (S:=S31) rfl omQ λk hk=>?_;unfold S31;try simp only[iZ]
 obtain⟨q,H0⟩:=ThdC.E H;unfold zk;refine qG (qQ (qX H0 (b:=b) .here rfl ?_));by_cases c:t.state=3
 ·rw[iJ c];have B:=O.b;have hp:=O.pau c;have hl:=B.len (by have:=O.res;split at this<;>omega);refine q8 c (qJ ?_);refine qG (qQ (qX H0 (b:=b) .here rfl ?_));refine jr omQ ?_;refine qG (qQ ?_);refine qg H0 (b:=b) .here ⟨rfl,rfl⟩ (by simp[yI]) λh1 H1=>?_;refine qG (qQ (qX H1 (b:=b) .here rfl ?_));have H3:HS g h1 (ThdC b { t with pauses:=t.pauses-1 }::R):=ThdC.I (q:=q) H1;by_cases c0:t.pauses-1=0
  ·rw[iJ c0];refine qz c0 (qZ ?_);rw[c0]at H3;exact qW (Qf (t:={ t with pauses:=0 }) omQ ⟨B.set,B.me,B.jobs,B.jl,B.job,B.rests,B.slots,B.tries,B.conf,B.giv⟩ (by show t.giving.length≤_;omega) H3) λ_ h4 H4=>qq H4
  ·rw[iQ c0];exact qK c0 (qJ (qq H3))
 ·rw[iQ c];exact qu c (qZ (qq H))
theorem qZF (hn:13≤n) (C:wo t) (hs:t.slots.length≤5) (hsw:t.sweep=false) (hr:t.rests.length≤1000000) (H:HS g h (ThdC b t::R)):t_w n 97 [.ptr b 0] h λ_ h'=>HS g h' (ThdC b (vj t)::R):=by
 refine t_e1 (S:=S97) rfl omQ λk hk=>?_;unfold S97;try simp only[iZ]
 obtain⟨q,H0⟩:=ThdC.E H;unfold vj;refine jd [] (λs h'=>s=(.ptr b 0,())∧HS g h' (ThdC b (if(t.slots.length:Int)=t.me then{ t with slots:=t.slots++[0] }else t)::R)) (λj hj=>?_) ?_
 ·refine qG (qQ (qX H0 (b:=b) .here rfl ?_));refine qi H0 (n:=t.slots.length) (v:=q.sv) e_7 ?_;refine qG (qQ (qX H0 (b:=b) .here rfl ?_));by_cases c:(t.slots.length:Int)=t.me
  ·refine qz c (qZ ?_);refine qG (qQ (qX H0 (b:=b) .here rfl ?_));refine qe (n:=1) (l:=[.int .u64 0]) (sz:=1) H0 rfl rfl rfl rfl λv2 h2 H2=>?_;refine jR (H2.sel (P:=qA 22 1 t.slots.length q.sv (t.slots.map (.int .u64))) e_8) (H2.sl .here) omQ omQ rfl λv3 h3 H3=>?_;have o3:=H3.one .here;refine qG (qQ ?_);refine qg H3 (b:=b) e_2 o3 (by simp[yI]) λh4 H4=>?_;refine hj _ _ ⟨rfl,?_⟩;rw[iJ c];refine ThdC.I (q:={ q with sv:=v3 }) ?_;have e:(t.slots++[(0:Int)]).length=t.slots.length+1:=by simp
   unfold Yz;rw[e,List.map_append];exact H4.sub (.cons .here (.cons e_2 (.cons e_2 (.cons e_2 (.cons e_2 (.cons e_2 (.cons e_2 (.cons .here (.drop .refl)))))))))
  ·exact qK c (qJ (hj _ _ ⟨rfl,by rw[iQ c];exact H⟩))
 ·clear H0 H;rintro _ h1 ⟨rfl,H⟩;have key:∀u:jJ,u=(if(t.slots.length:Int)=t.me then{ t with slots:=t.slots++[0] }else t)→wo u∧u.sweep=false∧u.rests=t.rests∧u.results=t.results∧u.slots.length≤6:=by
   rintro u rfl
   split
   ·have e:(t.slots++[(0:Int)]).length=t.slots.length+1:=by simp
    exact⟨C.go rfl rfl rfl rfl rfl rfl rfl (by show(t.slots++[(0:Int)]).length≤6;omega) C.tries C.conf rfl rfl,hsw,rfl,rfl,by show(t.slots++[(0:Int)]).length≤6;omega⟩
   ·exact⟨C,hsw,rfl,rfl,by omega⟩
  have key:=key _ rfl;generalize(if(t.slots.length:Int)=t.me then{ t with slots:=t.slots++[0] }else t)=u at*;obtain⟨CU,hus,hur,hue,hul⟩:=key;dsimp only;obtain⟨q,H0⟩:=ThdC.E H;refine qG (qQ (qX H0 (b:=b) .here rfl ?_));refine qi H0 (n:=u.slots.length) (v:=q.sv) e_7 ?_;refine qG (qQ (qh (qh (qX H0 (b:=b) .here rfl ?_))));unfold vP;by_cases c:(u.slots.length:Int)<u.set.threads
  ·rw[iJ c];exact jB c (qZ (qx (qq H)))
  ·rw[iQ c];refine jK c (qJ ?_);refine qG (qQ (qX H0 (b:=b) .here rfl ?_));refine qG (qQ (qX H0 (b:=b) .here rfl ?_));have H1:=H0.sel (P:=LimC q.lb u.rests) e_6;refine qW (qxO (sl:=u.slots) omQ omQ (by rw[hur];exact hr) H1 (H1.drop.rd (e:=22) (sz:=1) (n:=u.slots.length) e_6)) ?_;intro v h2 H2;have hre:=CU.rests;have hg:=CU.giv hus;have hf:=ZT (λr:KO=>jQ u.slots r.2) u.rests;refine qi H2 .here ?_;by_cases c0:(u.rests.filter λr=>jQ u.slots r.2)=[]
   ·rw[iJ c0];refine qz (by rw[c0];rfl) (qZ ?_);have H3:=ThdC.I (b:=b) (t:={ u with rests:=u.rests.filter λr=>!jQ u.slots r.2 }) (q:=q) (H2.sub (.cons e_2 (.cons e_2 (.cons e_2 (.cons e_2 (.cons e_2 (.cons e_2 (.cons e_1 (.cons e_1 (.drop .refl))))))))));have B2:ThrB { u with rests:=u.rests.filter λr=>!jQ u.slots r.2 }:=⟨CU.set,CU.me,CU.jobs,CU.jl,CU.job,by show(u.rests.filter λr=>!jQ u.slots r.2).length+u.giving.length≤9000*u.results.length;omega,hul,CU.tries,CU.conf,CU.giv⟩;exact qW (kV omQ (B2.next CU.lt) H3) λ_ h4 H4=>qx (qq H4)
   ·rw[iQ c0];refine qK (λh0=>c0 (iA omQ)) (qJ ?_);have o2:=H2.one .here;refine qH (l:=[.bool true,v,.int .i64 0,.int .i64 0]) (by simp only[yB,o2.1];rfl) ?_;refine qG (qQ ?_);refine qd H2 (b:=b) e_2 rfl (by simp[yI]) (by simp only[qo,AV.cells,List.all_cons,o2.2];rfl) λh3 H3=>?_;have H4:=ThdC.I (b:=b) (t:={ u with rests:=u.rests.filter (λr=>!jQ u.slots r.2),sweep:=true,giving:=u.rests.filter (λr=>jQ u.slots r.2),tries:=0,conf:=0 }) (q:={ q with gv:=v }) (H3.sub (.cons .here (.cons e_2 (.cons .here (.cons e_2 (.cons e_2 (.cons e_2 (.cons .here (.cons e_1 (.drop .refl))))))))));refine qW (Qf (t:={ u with rests:=u.rests.filter (λr=>!jQ u.slots r.2),sweep:=true,giving:=u.rests.filter (λr=>jQ u.slots r.2),tries:=0,conf:=0 }) omQ ⟨CU.set,CU.me,CU.jobs,CU.jl,CU.job,?_,hul,by show(0:Int)≤0∧(0:Int)≤(List.length _:Int);omega,by show(0:Int)≤0∧(0:Int)≤0;decide,λh=>by cases h⟩ (by show(u.rests.filter λr=>jQ u.slots r.2).length≤1000000;rw[hur]at hf;rw[hur];omega) H4) λ_ h4 H4=>qx (qq H4);show(u.rests.filter λr=>!jQ u.slots r.2).length+(u.rests.filter λr=>jQ u.slots r.2).length≤9000*u.results.length;omega
end
end
section
variable {g h:AH} {L R:List SP}
section
variable {n a b:Nat} {t:jJ} {q:Vz} {x:jY}
abbrev thrV (a b:Nat) (t:jJ) (x:jY) (q:Vz) (R:List SP):List SP :=
 AttC a x::qk b (yI t { q with nv:=.ptr a 0 })::JobsC t.jobs q.jv::qA 163 2 t.giving.length q.gv (t.giving.flatMap jL)::PastC t.past q.pv::qA 61 4 t.results.length q.rv (t.results.flatMap Zl)::LimC q.lb t.rests::qA 22 1 t.slots.length q.sv (t.slots.map (.int .u64))::R
theorem thrV.I (hx:t.now=some x) (H:HS g h (thrV a b t x q R)):HS g h (ThdC b t::R):=by refine ThdC.I (q:={ q with nv:=.ptr a 0 }) ?_;have H1:=NowC.I H;unfold Yz;rw[hx];exact H1.sub (.cons e_1 (.cons e_1 (.cons e_1 (.cons .here .refl))))
theorem ThdC.V (hx:t.now=some x) (H:HS g h (ThdC b t::R)):∃a q,HS g h (thrV a b t x q R):=by
 obtain⟨q,H0⟩:=ThdC.E H;unfold Yz at H0;rw[hx]at H0;obtain⟨a,e,H1⟩:=NowC.E (H0.sel (P:=NowC (some x) q.nv) e_3);have eq:{ q with nv:=.ptr a 0 }=q:=by rw[← e]
 refine⟨a,q,?_⟩;unfold thrV;rw[eq];exact H1
theorem GA {a:Nat} (hn:1≤n) (H:HS g h L) (s:Sel L (AttC a x) R):t_w n 60 [.ptr a 0] h λr h'=>r=.int .i64 (zx x)∧h'=h:=by obtain⟨q,H1⟩:=AttC.E (H.sel s);exact qZ0 hn H1 .here
theorem qWH {a:Nat} (hn:1≤n) (H:HS g h L) (s:Sel L (AttC a x) R):t_w n 88 [.ptr a 0] h λr h'=>r=.int .i64 (QX x)∧h'=h:=by obtain⟨q,H1⟩:=AttC.E (H.sel s);exact qv7 hn H1 .here
theorem qWC {a:Nat} (hn:1≤n) (H:HS g h L) (s:Sel L (AttC a x) R):t_w n 91 [.ptr a 0] h λr h'=>r=.int .i64 (xl x)∧h'=h:=by obtain⟨q,H1⟩:=AttC.E (H.sel s);exact qxm hn H1 .here
theorem UE {a:Nat} (hn:1≤n) (H:HS g h L) (s:Sel L (AttC a x) R):t_w n 93 [.ptr a 0] h λr h'=>r=.int .u64 x.stamp∧h'=h:=by obtain⟨q,H1⟩:=AttC.E (H.sel s);exact qXf hn H1 .here
theorem Km {a:Nat} (hn:1≤n) (H:HS g h L) (s:Sel L (AttC a x) R):t_w n 58 [.ptr a 0] h λr h'=>r=.tup [.int .u64 x.begin_,.bool x.begun]∧h'=h:=by obtain⟨q,H1⟩:=AttC.E (H.sel s);exact qK6 hn H1 .here
theorem qxM {pick:Int} (hn:12≤n) (O:zT x) (H:HS g h (thrV a b t x q R)):t_w n 71 [.ptr b 0,.int .i64 pick] h λr h'=>
  ∃z:qKN,r=.agg (Gz (jH t x pick) z)∧HS g h' (NW (jH t x pick) z++thrV a b t x q R):=by
 refine t_e2 (S:=S71) rfl omQ λk hk=>?_;unfold S71;try simp only[iZ]
 refine qI H rfl λv0 h1 H1=>?_;refine qG (qQ (qX H1 (b:=b) e_2 rfl ?_));refine qW (Km omQ H1 e_1) ?_;rintro _ _ ⟨rfl,rfl⟩;refine qy rfl (qy rfl ?_);refine qW (GA omQ H1 e_1) ?_;rintro _ _ ⟨rfl,rfl⟩;refine jd [] (λs h'=>s=(.int .i64 (if yP x=true then 2 else zx x),.int .u64 x.begin_,.ptr a 0,.ptr v0 0,.int .i64 pick,.ptr b 0,())∧HS g h' (AttC a x::qk v0 [.int .i64 0,.int .i64 0,.int .i64 0,.bool false,.int .i64 0,.int .i64 0,.int .u64 0,.int .u64 0,.int .i64 0,.int .i64 0,.nils,.nils,.nils,.str []]::qk b (yI t { q with nv:=.ptr a 0 })::(thrV a b t x q R).drop 2)) (λj hj=>?_) ?_
 ·refine qW (Jl omQ O.c (H1.sel (P:=AttC a x) e_1)) ?_;rintro _ h2 ⟨rfl,H2⟩;cases hw:yP x with
  |true=>exact qZ (hj _ _ ⟨by rw[hw];rfl,H2⟩)
  |false=>exact qJ (hj _ _ ⟨by rw[hw];rfl,H2⟩)
 ·clear H H1;rintro _ h12 ⟨rfl,H12⟩;dsimp only;refine qV ?_
  try dsimp only
  refine qG (qQ (qX H12 (b:=b) e_2 rfl ?_));refine qG (qQ (qX H12 (b:=b) e_2 rfl ?_));refine qG (qQ (qh (qX H12 (b:=b) e_2 rfl ?_)));refine qG (qQ (qh (qX H12 (b:=b) e_2 rfl ?_)));refine qW (qWC omQ H12 .here) ?_;rintro _ _ ⟨rfl,rfl⟩;refine qW (UE omQ H12 .here) ?_;rintro _ _ ⟨rfl,rfl⟩;refine qG (qQ (qX H12 (b:=b) e_2 rfl ?_));refine qW (qVC omQ O H12) λrv h42 H42=>?_;refine qW (qX1 omQ O (H42.sel (P:=AttC a x) e_1)) λcv h44 H44=>?_;refine qW (V9 omQ O (H44.sel (P:=AttC a x) e_1)) ?_;rintro fv h46 ⟨fe,H46⟩;refine qW (VT omQ O (H46.sel (P:=AttC a x) e_1)) ?_;rintro _ h48 ⟨rfl,H48⟩;have o1:=H48.one (v:=rv) e_3;have o2:=H48.one (v:=cv) e_2;have o3:=H48.one (v:=fv) e_1;refine qH (l:=Gz (jH t x pick) ⟨rv,cv,fe,fv⟩) (by simp only[yB,o1.1,o2.1,o3.1];rfl) ?_;refine qd H48 (b:=v0) e_4 rfl (by show 0+14≤14;omega) (by simp only[qo,Gz,AV.cells,List.all_cons,o1.2,o2.2,o3.2];rfl) λh50 H50=>?_;refine qU H46 e_5 rfl H48 e_5 rfl (HS.lt H12 e_2) ?_;refine qU H44 e_4 rfl H46 e_5 rfl (HS.lt H12 e_2) ?_;refine qU H42 e_3 rfl H44 e_4 rfl (HS.lt H12 e_2) ?_;refine qU H12 e_2 rfl H42 e_3 rfl (HS.lt H12 e_2) ?_;refine qU H12 e_2 rfl H12 e_2 rfl (HS.lt H12 e_2) ?_;refine qU H12 e_2 rfl H12 e_2 rfl (HS.lt H12 e_2) ?_;refine qU H46 e_5 rfl H48 e_5 rfl (HS.lt H12 e_2) ?_;refine qU H44 e_4 rfl H46 e_5 rfl (HS.lt H12 e_2) ?_;refine qU H42 e_3 rfl H44 e_4 rfl (HS.lt H12 e_2) ?_;refine qU H12 e_2 rfl H42 e_3 rfl (HS.lt H12 e_2) ?_;refine qU H12 e_2 rfl H12 e_2 rfl (HS.lt H12 e_2) ?_;refine qU H12 e_2 rfl H12 e_2 rfl (HS.lt H12 e_2) ?_;refine qU H46 e_5 rfl H48 e_5 rfl (HS.lt H12 e_2) ?_;refine qU H44 e_4 rfl H46 e_5 rfl (HS.lt H12 e_2) ?_;refine qU H42 e_3 rfl H44 e_4 rfl (HS.lt H12 e_2) ?_;refine qU H12 e_2 rfl H42 e_3 rfl (HS.lt H12 e_2) ?_;refine qU H12 e_2 rfl H12 e_2 rfl (HS.lt H12 e_2) ?_;refine qU H12 e_2 rfl H12 e_2 rfl (HS.lt H12 e_2) ?_;refine qU H46 e_5 rfl H48 e_5 rfl (HS.lt H12 e_2) ?_;refine qU H44 e_4 rfl H46 e_5 rfl (HS.lt H12 e_2) ?_;refine qU H42 e_3 rfl H44 e_4 rfl (HS.lt H12 e_2) ?_;refine qU H12 e_2 rfl H42 e_3 rfl (HS.lt H12 e_2) ?_;refine qU H12 e_2 rfl H12 e_2 rfl (HS.lt H12 e_2) ?_;refine qU H12 e_2 rfl H12 e_2 rfl (HS.lt H12 e_2) ?_;refine qU H46 e_5 rfl H48 e_5 rfl (HS.lt H12 e_2) ?_;refine qU H44 e_4 rfl H46 e_5 rfl (HS.lt H12 e_2) ?_;refine qU H42 e_3 rfl H44 e_4 rfl (HS.lt H12 e_2) ?_;refine qU H12 e_2 rfl H42 e_3 rfl (HS.lt H12 e_2) ?_;refine qU H12 e_2 rfl H12 e_2 rfl (HS.lt H12 e_2) ?_;refine qU H12 e_2 rfl H12 e_2 rfl (HS.lt H12 e_2) ?_;refine qx (qF H50 (b:=v0) (off:=0) .here rfl omQ (l:=Gz (jH t x pick) ⟨rv,cv,fe,fv⟩) rfl ?_);refine qq ⟨⟨rv,cv,fe,fv⟩,rfl,?_⟩;exact H50.sub (.cons e_4 (.cons e_3 (.cons e_2 (.cons e_1 (.drop .refl)))))
end
end
section
variable {g h:AH} {L R:List SP}
section
variable {n a b:Nat} {t:jJ} {q:Vz} {x:jY}
theorem qx3 (hn:14≤n) (C:wo t) (hsw:t.sweep=false) (hr:t.rests.length≤1000000) (H:HS g h (ThdC b t::R)):t_w n 96 [.ptr b 0] h λ_ h'=>HS g h' (ThdC b (QI t)::R):=by
 refine t_e1 (S:=S96) rfl omQ λk hk=>?_;unfold S96;try simp only[iZ]
 obtain⟨q,H0⟩:=ThdC.E H;unfold QI;refine qG (qQ (qX H0 (b:=b) .here rfl ?_));refine qW (qVt omQ (H0.sel (P:=LimC q.lb t.rests) e_6)) ?_;rintro _ _ ⟨rfl,rfl⟩;by_cases c:t.rests=[]
 ·rw[iJ c];refine qz (by rw[c];rfl) (qZ ?_);exact qW (kV omQ (C.toThrB.next C.lt) H) λ_ h1 H1=>qq H1
 ·rw[iQ c];refine qK (λh0=>c (iA omQ)) (qJ ?_);refine qG (qQ ?_);refine qg H0 (b:=b) .here ⟨rfl,rfl⟩ (by simp[yI]) λh1 H1=>?_;refine qG (qQ ?_);refine qg H1 (b:=b) .here (x:=.nils) ⟨rfl,rfl⟩ (by simp[yI]) λh2 H2=>?_;have H3:=ThdC.I (b:=b) (t:={ t with state:=5,slots:=[] }) (q:={ q with sv:=.nils }) ((H2.nils (e:=22) (sz:=1)).sub (.cons e_1 (.cons e_1 (.cons e_1 (.cons e_1 (.cons e_1 (.cons e_1 (.cons e_1 (.cons .here (.drop .refl))))))))));refine qW (qZF (t:={ t with state:=5,slots:=[] }) omQ (C.go rfl rfl rfl rfl rfl rfl rfl (Nat.zero_le _) C.tries C.conf rfl rfl) (Nat.zero_le _) hsw hr H3) λ_ h4 H4=>qq H4
theorem VI {w:Int} (hn:14≤n) (C:wo t) (hsw:t.sweep=false) (hs:t.slots.length≤4) (hr:t.rests.length≤1000000) (H:HS g h (ThdC b t::R)):t_w n 63 [.ptr b 0,.int .u64 w] h λ_ h'=>HS g h' (ThdC b (vj { t with slots:=t.slots++[w] })::R):=by
 refine t_e2 (S:=S63) rfl omQ λk hk=>?_;unfold S63;try simp only[iZ]
 obtain⟨q,H0⟩:=ThdC.E H;refine qG (qQ (qX H0 (b:=b) .here rfl ?_));refine qe (n:=1) (l:=[.int .u64 w]) (sz:=1) H0 rfl rfl rfl rfl λv2 h2 H2=>?_;refine jR (H2.sel (P:=qA 22 1 t.slots.length q.sv (t.slots.map (.int .u64))) e_8) (H2.sl .here) omQ omQ rfl λv3 h3 H3=>?_;have o3:=H3.one .here;refine qG (qQ ?_);refine qg H3 (b:=b) e_2 o3 (by simp[yI]) λh4 H4=>?_;have e:(t.slots++[w]).length=t.slots.length+1:=by simp
 have H5:HS g h4 (ThdC b { t with slots:=t.slots++[w] }::R):=by refine ThdC.I (q:={ q with sv:=v3 }) ?_;unfold Yz;rw[e,List.map_append];exact H4.sub (.cons .here (.cons e_2 (.cons e_2 (.cons e_2 (.cons e_2 (.cons e_2 (.cons e_2 (.cons .here (.drop .refl)))))))))
 exact qW (qZF (t:={ t with slots:=t.slots++[w] }) omQ (C.go rfl rfl rfl rfl rfl rfl rfl (by show(t.slots++[w]).length≤6;omega) C.tries C.conf rfl rfl) (by show(t.slots++[w]).length≤5;omega) hsw hr H5) λ_ h4 H4=>qq H4
theorem qqH {fin:Int} (hn:14≤n) (C:wo t) (hr:t.rests.length+t.giving.length≤1000000) (H:HS g h (ThdC b t::R)):t_w n 90 [.ptr b 0,.int .i64 fin] h λ_ h'=>HS g h' (ThdC b (wU t fin)::R):=by
 refine t_e2 (S:=S90) rfl omQ λk hk=>?_;unfold S90;try simp only[iZ]
 obtain⟨q,H0⟩:=ThdC.E H;unfold wU;refine jd [] (λs h'=>s=(.ptr b 0,())∧HS g h' (ThdC b (if fin=4 then{ t with rests:=t.rests++t.giving }else t)::R)) (λj hj=>?_) ?_
 ·by_cases c:fin=4
  ·refine qz c (qZ ?_);refine qG (qQ (qh (qX H0 (b:=b) .here rfl ?_)));refine qi H0 (n:=t.giving.length) (v:=q.gv) e_2 ?_;refine jw (λc s h'=>∃i:Nat,s=(.int .i64 (i:Int),.int .i64 (t.giving.length:Int),q.gv,.ptr b 0,())∧i≤t.giving.length∧c=t.giving.length-i∧HS g h' (Yz b { t with rests:=t.rests++t.giving.take i } q R))
    ?_ (m:=t.giving.length) (by show _<1000000000;omega) ⟨0,rfl,Nat.zero_le _,rfl,by rw[List.take_zero,List.append_nil];exact H0⟩
   clear H0 H;rintro c ih s h3 hih ⟨i,rfl,hi,rfl,H⟩;dsimp only;by_cases hlt:i<t.giving.length
   ·refine jB omQ (qZ ?_);refine zH (l:=jL t.giving[i]) (H.sl (n:=t.giving.length) (v:=q.gv) (xs:=t.giving.flatMap jL) e_2) hlt omQ (vk (sz:=2) (enc:=jL) (λ_=>rfl) (iW hlt)) ?_;refine qI H rfl λb2 h4 H4=>?_;refine qd H4 (b:=b2) .here rfl (by show 0+2≤2;omega) rfl λh5 H5=>?_;refine qG (qQ (qX H5 (b:=b) e_1 rfl ?_));refine qQ (qX H5 (b:=b2) .here (x:=.int .u64 t.giving[i].2) rfl ?_);refine qQ (qX H5 (b:=b2) .here (x:=.int .i64 t.giving[i].1) rfl ?_);refine qe (n:=1) (l:=[.int .i64 t.giving[i].1]) (sz:=1) H5 rfl rfl rfl rfl λv2 h6 H6=>?_;have H7:=H6.sel (P:=LimC q.lb (t.rests++t.giving.take i)) e_8;refine qW (VO (z:=t.giving[i].2) (bs:=[t.giving[i].1]) omQ (by rw[List.length_append,List.length_take];show _+1≤_;omega) H7 (H7.drop.rd (sz:=1) (n:=1) .here)) λ_ h8 H8=>?_;refine qb omQ ?_;refine hih (t.giving.length-(i+1)) _ _ omQ ⟨i+1,rfl,by omega,rfl,?_⟩;have et:t.rests++t.giving.take (i+1)=(t.rests++t.giving.take i)++[(t.giving[i].1,t.giving[i].2)]:=by rw[List.take_add_one,iW hlt,List.append_assoc];rfl
    unfold Yz;rw[et];exact H8.sub (.cons e_3 (.cons e_3 (.cons e_3 (.cons e_3 (.cons e_3 (.cons e_3 (.cons .here (.cons e_2 (.drop (.drop .refl))))))))))
   ·obtain rfl:i=t.giving.length:=by omega
    refine jK omQ (qJ ?_);rw[List.take_length]at H;exact hj _ _ ⟨rfl,by rw[iJ c];exact ThdC.I (q:=q) H⟩
  ·exact qK c (qJ (hj _ _ ⟨rfl,by rw[iQ c];exact H⟩))
 ·clear H0 H;rintro _ h1 ⟨rfl,H⟩;dsimp only;refine qW (kV omQ ?_ H) λ_ h4 H4=>qx (qq H4);have h1:=C.job;have h2:=C.rests;have h3:=C.lt
  split
  ·exact⟨C.set,C.me,C.jobs,C.jl,by show 0≤t.job+1∧t.job+1≤(t.jobs.length:Int);omega,by show(t.rests++t.giving).length+0≤9000*t.results.length;rw[List.length_append];omega,C.slots,by show(0:Int)≤0∧(0:Int)≤(t.past.length:Int);omega,by show(0:Int)≤0∧(0:Int)≤0;omega,λ_=>rfl⟩
  ·exact C.toThrB.next C.lt
theorem qWd {an:AnM} {draw:Int} (hn:13≤n) (B:ThrB t) (hg:t.giving.length≤1000000) (hd:0≤draw∧draw<256) (H:HS g h (ThdC b t::R)):t_w n 62 [.ptr b 0,.agg (zp an),.int .u8 draw] h λ_ h'=>
  HS g h' (ThdC b (if an.err=0∧an.word≠0∧(t.yielding=false∨an.word=t.since)then{ t with yielding:=true,since:=an.word }else xk t draw)::R):=by
 refine t_e3 (S:=S62) rfl omQ λk hk=>?_;unfold S62;try simp only[iZ]
 obtain⟨q,H0⟩:=ThdC.E H;clear H;refine qI H0 rfl λv0 h1 H1=>?_;clear H0;have no:∀c:¬(an.err=0∧an.word≠0∧(t.yielding=false∨an.word=t.since)),wp (jm (callT tab qj k) (.fn 89 [] []) [.ptr b 0,.int .u8 draw] h1 λ_ h'=>some (.tup [],h')) λ_ h'=>
  HS g h' (ThdC b (if an.err=0∧an.word≠0∧(t.yielding=false∨an.word=t.since)then{ t with yielding:=true,since:=an.word }else xk t draw)::R):=λc=>by
  rw[iQ c];exact qW (Z3 omQ B hg hd (ThdC.I (q:=q) H1.drop)) λ_ h2 H2=>qq H2
 refine qQ (qX H1 (b:=v0) .here (x:=.int .i64 an.err) rfl ?_);by_cases c1:an.err=0
 ·refine qz c1 ?_;refine qV ?_
  try dsimp only
  refine qa (qQ (qX H1 (b:=v0) .here (x:=.int .u64 an.word) rfl ?_));by_cases c2:an.word=0
  ·refine q8 c2 (qE ?_);refine qV ?_
   try dsimp only
   refine qR (qV ?_)
   try dsimp only
   refine jt (qV ?_)
   try dsimp only
   refine qR (qC (qJ ?_));exact no λh=>h.2.1 c2
  ·refine qu c2 (qE ?_);refine qV ?_
   try dsimp only
   refine qa ?_
   have yes:∀c:(t.yielding=false∨an.word=t.since),wp (qm (.ptr v0 0) 0 λv22=>jq h1 v22 λv23=>xg (.ptr b 0) λv24=>qm v24 25 λv25=>jD h1 v25 (.bool true) 1 λh26=>xg (.ptr b 0) λv27=>qm v27 24 λv28=>
     jD h26 v28 v23 1 λh29=>QR v22 none v23 h1 h26 h1.nx (some (.tup [],h29))) λ_ h'=>
      HS g h' (ThdC b (if an.err=0∧an.word≠0∧(t.yielding=false∨an.word=t.since)then{ t with yielding:=true,since:=an.word }else xk t draw)::R):=λc=>by
    rw[iJ ⟨c1,c2,c⟩];refine qh (qX H1 (b:=v0) .here (x:=.int .u64 an.word) rfl ?_);refine qG (qQ ?_);refine qg H1 (b:=b) e_1 ⟨rfl,rfl⟩ (by simp[yI]) λh2 H2=>?_;refine qG (qQ ?_);refine qg H2 (b:=b) .here ⟨rfl,rfl⟩ (by simp[yI]) λh3 H3=>?_;refine qU H1 .here rfl H2 e_1 rfl (HS.lt H1 .here) ?_;exact qq (ThdC.I (q:=q) (H3.sub (.cons .here (.drop .refl))))
   by_cases c3:t.yielding=false
   ·refine qG (qQ (qX H1 (b:=b) e_1 (x:=.bool false) (by rw[← c3];rfl) ?_));refine jk (qV ?_)
    try dsimp only
    refine qp (qV ?_)
    try dsimp only
    refine qa (qE ?_)
    try dsimp only
    refine qE (qZ ?_);refine qV ?_;exact yes (.inl c3)
   ·have c3':t.yielding=true:=by simpa using c3
    refine qG (qQ (qX H1 (b:=b) e_1 (x:=.bool true) (by rw[← c3'];rfl) ?_));refine jW (qV ?_)
    try dsimp only
    refine qc (qQ (qX H1 (b:=v0) .here (x:=.int .u64 an.word) rfl ?_));refine qG (qQ (qX H1 (b:=b) e_1 rfl ?_));by_cases c4:an.word=t.since
    ·refine qz c4 ?_;refine qV ?_
     try dsimp only
     refine qa (qC ?_)
     try dsimp only
     refine qE (qZ ?_);refine qV ?_;exact yes (.inr c4)
    ·refine qK c4 ?_;refine qV ?_
     try dsimp only
     refine qa (qC ?_)
     try dsimp only
     refine qE (qJ ?_);exact no λh=>by rcases h.2.2 with h |h;exact c3 h;exact c4 h
 ·refine qK c1 ?_;refine qV ?_
  try dsimp only
  refine qR (qC (qV ?_))
  try dsimp only
  refine qR (qV ?_)
  try dsimp only
  refine jt (qV ?_)
  try dsimp only
  refine qR (qC (qJ ?_));exact no λh=>c1 h.1
theorem PastC.E {r:List KV} {v:AV} (H:HS g h (PastC r v::R)):∃zs:List (KV×qKN),zs.map (·.1)=r∧HS g h (qA 129 14 zs.length v (zs.flatMap λz=>Gz z.1 z.2):: .all (zs.flatMap λz=>NW z.1 z.2)::R):=by obtain⟨zs,H⟩:=H.exE;exact⟨zs,H.allE.purE⟩
theorem PastC.I {r:List KV} {v:AV} {zs:List (KV×qKN)} (hl:zs.map (·.1)=r) (H:HS g h (qA 129 14 zs.length v (zs.flatMap λz=>Gz z.1 z.2):: .all (zs.flatMap λz=>NW z.1 z.2)::R)):HS g h (PastC r v::R) :=
 HS.exI zs (HS.allI (A:=[_,_,_]) (HS.purI hl H))
theorem Y5 {A B:List SP} (H:HS g h (.all A::(B++R))):HS g h (.all (A++B)::R):=by refine HS.allI ?_;rw[List.append_assoc];exact H.allE
theorem qGm {draw pick:Int} (hn:15≤n) (C:wo t) (hx:t.now=some x) (hp:t.past.length≤1000000) (hcf:t.tries≤1000000) (hrs:(t.results.length:Int)≤t.job+(if t.sweep=true then 1 else 0)) (hd:0≤draw∧draw<256) (H:HS g h (ThdC b t::R)) :
  t_w n 61 [.ptr b 0,.int .u8 draw,.int .i64 pick] h λ_ h'=>HS g h' (ThdC b (yU t x draw pick)::R):=by
 refine t_e3 (S:=S61) rfl omQ λk hk=>?_;unfold S61;try simp only[iZ]
 have hN:=C.now x hx;have O:=hN.1;have hrl:t.rests.length+t.giving.length≤63000:=C.len (by split at hrs<;>omega);have hT:=C.tries;have hCf:=C.conf;have hjl:=C.jl;have hjb:=C.job;have hlt:=C.lt;obtain⟨a,q,H0⟩:=ThdC.V hx H;clear H;refine qG (qQ (qX H0 (b:=b) e_1 rfl ?_));refine qV ?_
 try dsimp only
 refine qG (qQ (qX H0 (b:=b) e_1 rfl ?_));refine qW (qxM omQ O H0) ?_;rintro _ h1 ⟨z,rfl,H1⟩;have H1:HS g h1 (qA 177 2 (jH t x pick).reads.length z.rv ((jH t x pick).reads.flatMap jL)::qA 177 2 (jH t x pick).cells.length z.cv ((jH t x pick).cells.flatMap jL)::qA z.fe 1 (jH t x pick).frees.length z.fv ((jH t x pick).frees.map (.int .i64))::thrV a b t x q R):=H1;have o1:=H1.one (v:=z.rv) .here;have o2:=H1.one (v:=z.cv) e_1;have o3:=H1.one (v:=z.fv) e_2;have a1:qo (Gz (jH t x pick) z)=true:=by simp only[qo,Gz,List.all_cons,o1.2,o2.2,o3.2];rfl
 refine qe (n:=1) (l:=Gz (jH t x pick) z) (sz:=14) H1 rfl rfl rfl a1 λv2 h2 H2=>?_;obtain⟨zs,hzs,H3⟩:=PastC.E (H2.sel (P:=PastC t.past q.pv) e_8);have hzl:zs.length=t.past.length:=by rw[← hzs,List.length_map]
 refine jR H3 (H3.sl e_2) omQ omQ a1 λv3 h3 H4=>?_;have op:=H4.one .here;refine qG (qQ ?_);refine qg H4 (b:=b) e_7 op (by simp[yI]) λh4 H5=>?_;refine qU H0 e_1 rfl H1 e_4 rfl (HS.lt H0 e_1) ?_
 try dsimp only
 have B1:=Y5 (A:=zs.flatMap λz=>NW z.1 z.2) (B:=NW (jH t x pick) z) (H5.sub (.cons e_2 (.cons e_3 (.cons e_3 (.cons e_3 .refl)))));have eA:(zs++[(jH t x pick,z)]).flatMap (λz=>NW z.1 z.2)=(zs.flatMap λz=>NW z.1 z.2)++NW (jH t x pick) z:=by rw[List.flatMap_append];simp
 have eB:(zs++[(jH t x pick,z)]).flatMap (λz=>Gz z.1 z.2)=(zs.flatMap λz=>Gz z.1 z.2)++Gz (jH t x pick) z:=by rw[List.flatMap_append];simp
 have eC:(zs++[(jH t x pick,z)]).length=zs.length+1:=by simp
 have B2:=PastC.I (v:=v3) (zs:=zs++[(jH t x pick,z)]) (r:=t.past++[jH t x pick]) (by rw[List.map_append,hzs];rfl) (by rw[eA,eB,eC];exact B1.sub (.cons e_2 (.cons .here .refl)));have H6:HS g h4 (thrV a b { t with past:=t.past++[jH t x pick] } x { q with pv:=v3 } R):=B2.sub (.cons e_3 (.cons e_1 (.cons e_2 (.cons e_2 (.cons .here (.cons e_1 (.cons e_1 (.cons e_1 (.drop .refl)))))))));clear H0 H1 H2 H3 H4 H5 B1 B2 eA eB eC;refine qG (qQ (qh (qX H6 (b:=b) e_1 (x:=.int .i64 t.tries) rfl ?_)));refine qb omQ ?_;refine qG (qQ (qh ?_));refine qg H6 (b:=b) e_1 ⟨rfl,rfl⟩ (by simp[yI]) λh5 H7=>?_;have H8:HS g h5 (thrV a b { t with past:=t.past++[jH t x pick],tries:=t.tries+1 } x { q with pv:=v3 } R):=H7.sub (.cons e_1 (.cons .here .refl));have hpl:(t.past++[jH t x pick]).length=t.past.length+1:=by simp
 have hps:((t.past++[jH t x pick]).length:Int)=(t.past.length:Int)+1:=by rw[hpl];rfl
 clear H6 H7;generalize{ q with pv:=v3 }=q at*;refine qV ?_
 try dsimp only
 unfold yU;dsimp only;refine qW (GA omQ H8 .here) ?_;rintro _ _ ⟨rfl,rfl⟩;by_cases c5:zx x=5
 ·rw[iJ c5];refine qz c5 (qZ ?_);refine qG (qQ (qh (qX H8 (b:=b) e_1 (x:=.int .i64 t.conf) rfl ?_)));refine qb omQ ?_;refine qG (qQ (qh ?_));refine qg H8 (b:=b) e_1 ⟨rfl,rfl⟩ (by simp[yI]) λh6 H9=>?_;have HA:HS g h6 (thrV a b { t with past:=t.past++[jH t x pick],tries:=t.tries+1,conf:=t.conf+1 } x q R):=H9.sub (.cons e_1 (.cons .here .refl));clear H8 H9;have C3:wo { t with past:=t.past++[jH t x pick],tries:=t.tries+1,conf:=t.conf+1 } :=
   C.go rfl rfl rfl rfl rfl rfl rfl C.slots (by show 0≤t.tries+1∧t.tries+1≤((t.past++[jH t x pick]).length:Int);omega) (by show 0≤t.conf+1∧t.conf+1≤t.tries+1;omega) rfl rfl
  have no:∀c:¬(0≤QX x∧QX x<t.set.threads),wp (jm (callT tab qj k) (.fn 89 [] []) [.ptr b 0,.int .u8 draw] h6 λ_ h'=>zO [] h' λh'=>some (.tup [],h')) λ_ h'=>
    HS g h' (ThdC b (if 0≤QX x∧QX x<t.set.threads then{ t with past:=t.past++[jH t x pick],tries:=t.tries+1,conf:=t.conf+1,state:=2,by_:=QX x,yielding:=false }else xk { t with past:=t.past++[jH t x pick],tries:=t.tries+1,conf:=t.conf+1 } draw)::R):=λc=>by
   rw[iQ c];exact qW (Z3 (t:={ t with past:=t.past++[jH t x pick],tries:=t.tries+1,conf:=t.conf+1 }) omQ C3.toThrB (by show t.giving.length≤_;omega) hd (thrV.I hx HA)) λ_ h2 H2=>qx (qq H2)
  refine qV ?_
  try dsimp only
  refine qW (qWH omQ HA .here) ?_;rintro _ _ ⟨rfl,rfl⟩;by_cases d1:0≤QX x
  ·refine zv d1 (qa ?_);refine qW (qWH omQ HA .here) ?_;rintro _ _ ⟨rfl,rfl⟩;refine qG (qQ (qh (qh (qX HA (b:=b) e_1 (x:=.int .i64 t.set.threads) rfl ?_))));by_cases d2:QX x<t.set.threads
   ·refine jB d2 (qE ?_);refine qU HA e_1 rfl HA e_1 rfl (HS.lt HA e_1) ?_
    try dsimp only
    refine qZ ?_;rw[iJ ⟨d1,d2⟩];refine qW (qWH omQ HA .here) ?_;rintro _ _ ⟨rfl,rfl⟩;refine qG (qQ ?_);refine qg HA (b:=b) e_1 ⟨rfl,rfl⟩ (by simp[yI]) λh7 HB=>?_;refine qG (qQ ?_);refine qg HB (b:=b) .here ⟨rfl,rfl⟩ (by simp[yI]) λh8 HC=>?_;refine qG (qQ ?_);refine qg HC (b:=b) .here ⟨rfl,rfl⟩ (by simp[yI]) λh9 HD=>?_;refine qq ?_;exact thrV.I (t:={ t with past:=t.past++[jH t x pick],tries:=t.tries+1,conf:=t.conf+1,state:=2,by_:=QX x,yielding:=false }) (q:=q) hx (HD.sub (.cons e_1 (.cons .here .refl)))
   ·refine jK d2 (qE ?_);refine qU HA e_1 rfl HA e_1 rfl (HS.lt HA e_1) ?_
    try dsimp only
    exact qJ (no λh=>d2 h.2)
  ·refine zK d1 (qR (qC ?_))
   try dsimp only
   exact qJ (no λh=>d1 h.1)
 ·rw[iQ c5];refine qK c5 (qJ ?_);have C2:∀s:Int,wo { t with past:=t.past++[jH t x pick],tries:=t.tries+1,state:=s }:=λs=>
   C.go rfl rfl rfl rfl rfl rfl rfl C.slots (by show 0≤t.tries+1∧t.tries+1≤((t.past++[jH t x pick]).length:Int);omega) (by show 0≤t.conf∧t.conf≤t.tries+1;omega) rfl rfl
  refine qW (GA omQ H8 .here) ?_;rintro _ _ ⟨rfl,rfl⟩;by_cases c3:zx x=3
  ·rw[iJ c3];refine qz c3 (qZ ?_);by_cases ca:t.alarm=true
   ·rw[iJ ca];refine qG (qQ (qX H8 (b:=b) e_1 (x:=.bool true) (by rw[← ca];rfl) ?_));refine qZ ?_;exact qW (Qf (t:={ t with past:=t.past++[jH t x pick],tries:=t.tries+1 }) omQ (C2 t.state).toThrB (by show t.giving.length≤_;omega) (thrV.I hx H8)) λ_ h6 H6=>qq H6
   ·have cf:t.alarm=false:=by simpa using ca
    rw[iQ ca];refine qG (qQ (qX H8 (b:=b) e_1 (x:=.bool false) (by rw[← cf];rfl) ?_));refine qJ (qG (qQ ?_));refine qg H8 (b:=b) e_1 ⟨rfl,rfl⟩ (by simp[yI]) λh6 H9=>?_;refine qx (qq ?_);exact thrV.I (t:={ t with past:=t.past++[jH t x pick],tries:=t.tries+1,state:=4 }) (q:=q) hx (H9.sub (.cons e_1 (.cons .here .refl)))
  ·rw[iQ c3];refine qK c3 (qJ ?_);by_cases cs:t.sweep=true
   ·rw[iJ cs];refine qG (qQ (qh (qX H8 (b:=b) e_1 (x:=.bool true) (by rw[← cs];rfl) ?_)));refine qZ (qW (GA omQ H8 .here) ?_);rintro _ _ ⟨rfl,rfl⟩;exact qW (qqH (t:={ t with past:=t.past++[jH t x pick],tries:=t.tries+1 }) omQ (C2 t.state) (by show t.rests.length+t.giving.length≤_;omega) (thrV.I hx H8)) λ_ h6 H6=>qx (qq H6)
   ·have cf:t.sweep=false:=by simpa using cs
    rw[iQ cs];refine qG (qQ (qh (qX H8 (b:=b) e_1 (x:=.bool false) (by rw[← cf];rfl) ?_)));refine qJ (qV ?_)
    try dsimp only
    refine qV ?_
    try dsimp only
    refine qG (qQ (qX H8 (b:=b) e_1 rfl ?_));refine qW (GA omQ H8 .here) ?_;rintro _ _ ⟨rfl,rfl⟩;refine qW (qWC omQ H8 .here) ?_;rintro _ _ ⟨rfl,rfl⟩;refine qW (VT omQ O H8) ?_;rintro _ h6 ⟨rfl,H9⟩;refine qW (UE omQ H9 .here) ?_;rintro _ _ ⟨rfl,rfl⟩;refine qH (l:=Zl ⟨zx x,xl x,zE x,x.stamp⟩) rfl ?_;refine qe (n:=1) (l:=Zl ⟨zx x,xl x,zE x,x.stamp⟩) (sz:=4) H9 rfl rfl rfl rfl λv4 h7 HA=>?_;have hrl7:t.results.length≤7:=by split at hrs<;>omega
    refine jR (HA.sel (P:=qA 61 4 t.results.length q.rv (t.results.flatMap Zl)) e_6) (HA.sl .here) omQ omQ rfl λv5 h8 HB=>?_;have o5:=HB.one .here;refine qG (qQ ?_);refine qg HB (b:=b) e_3 o5 (by simp[yI]) λh9 HC=>?_;refine qU H9 e_1 rfl H9 e_1 rfl (HS.lt H8 e_1) ?_;refine qU H8 e_1 rfl H9 e_1 rfl (HS.lt H8 e_1) ?_;refine qU H8 e_1 rfl H8 e_1 rfl (HS.lt H8 e_1) ?_;refine qU H8 e_1 rfl H8 e_1 rfl (HS.lt H8 e_1) ?_
    try dsimp only
    have eR:(t.results++[(⟨zx x,xl x,zE x,x.stamp⟩:Vj)]).length=t.results.length+1:=by simp
    have eF:(t.results++[(⟨zx x,xl x,zE x,x.stamp⟩:Vj)]).flatMap Zl=t.results.flatMap Zl++Zl ⟨zx x,xl x,zE x,x.stamp⟩:=by rw[List.flatMap_append];simp
    have HD:HS g h9 (thrV a b { t with past:=t.past++[jH t x pick],tries:=t.tries+1,results:=t.results++[⟨zx x,xl x,zE x,x.stamp⟩] } x { q with rv:=v5 } R):=by unfold thrV;rw[eR,eF];exact HC.sub (.cons e_3 (.cons .here (.cons e_2 (.cons e_2 (.cons e_2 (.cons .here (.cons e_1 (.cons e_1 (.drop .refl)))))))))
    clear H8 H9 HA HB HC eF;refine qV ?_
    try dsimp only
    refine qG (qQ (qX HD (b:=b) e_1 rfl ?_));refine qW (UE omQ HD .here) ?_;rintro _ _ ⟨rfl,rfl⟩;refine qW (V9 omQ O HD) ?_;rintro fv hA ⟨fe,HE⟩;have hfl:=Y7 O (hN.2.2.2.trans cf);have HF:=HE.sel (P:=LimC q.lb t.rests) e_7;refine qW (VO (z:=x.stamp) (bs:=zD x) omQ omQ HF (HF.drop.rd .here)) λ_ hB HG=>?_;refine qU HD e_1 rfl HE e_2 rfl (HS.lt HD e_1) ?_;refine qU HD e_1 rfl HD e_1 rfl (HS.lt HD e_1) ?_
    try dsimp only
    have HH:=thrV.I (a:=a) (b:=b) (t:={ t with past:=t.past++[jH t x pick],tries:=t.tries+1,results:=t.results++[⟨zx x,xl x,zE x,x.stamp⟩],rests:=t.rests++(zD x).map λb=>(b,x.stamp) }) (q:={ q with rv:=v5 }) hx
     (HG.sub (.cons e_2 (.cons e_2 (.cons e_2 (.cons e_2 (.cons e_2 (.cons e_2 (.cons .here (.cons e_1 (.drop .refl))))))))))
    have e2:(t.rests++(zD x).map λb=>(b,x.stamp)).length=t.rests.length+(zD x).length:=by simp
    have hgl:=C.giv cf;have hre:=C.rests;rw[hgl,List.length_nil]at hre;have C4:wo { t with past:=t.past++[jH t x pick],tries:=t.tries+1,results:=t.results++[⟨zx x,xl x,zE x,x.stamp⟩],rests:=t.rests++(zD x).map λb=>(b,x.stamp) } :=
     ⟨⟨C.set,C.me,C.jobs,C.jl,C.job,by show(t.rests++(zD x).map λb=>(b,x.stamp)).length+t.giving.length≤9000*(t.results++[(⟨zx x,xl x,zE x,x.stamp⟩:Vj)]).length;rw[eR,e2,hgl,List.length_nil];omega,
      C.slots,by show 0≤t.tries+1∧t.tries+1≤((t.past++[jH t x pick]).length:Int);omega,by show 0≤t.conf∧t.conf≤t.tries+1;omega,C.giv⟩,C.now,C.lt,C.some⟩
    exact qW (qx3 omQ C4 cf (by show(t.rests++(zD x).map λb=>(b,x.stamp)).length≤1000000;omega) HH) λ_ hC HI=>qx (qq HI)
end
end
section
variable {g h:AH} {L R:List SP}
section
variable {n a b:Nat} {t:jJ} {q:Vz} {x:jY}
theorem xF.rl (O:xF t):t.rests.length+t.giving.length≤63000:=O.b.len (by have:=O.res;split at this<;>omega)
theorem qjF {an:AnM} {draw pick:Int} (hn:27≤n) (O:xF t) (ha:vW an) (hd:0≤draw∧draw<256) (hp:t.past.length≤900000) (H:HS g h (ThdC b t::R)) :
  t_w n 32 [.ptr b 0,.agg (zp an),.int .u8 draw,.int .i64 pick] h λ_ h'=>HS g h' (ThdC b (z8 t an draw pick)::R):=by
 refine t_e4 (S:=S32) rfl omQ λk hk=>?_;unfold S32;try simp only[iZ]
 have hst:=O.st;have hrl:=O.rl;have hT:=O.b.tries;have hres:=O.res;obtain⟨q,H0⟩:=ThdC.E H;clear H;refine qI H0 rfl λv0 h1 H1=>?_;clear H0;refine qG (qQ (qX H1 (b:=b) e_1 rfl ?_));refine qV ?_
 try dsimp only
 unfold z8;by_cases c1:t.state=1
 ·rw[iJ c1];refine qz c1 (qZ ?_);have C:=O.c omQ;cases hx:t.now with
  |none=>exact absurd hx C.some
  |some x=>
   dsimp only;have hN:=C.now x hx;have hS:=YL x an;have hr:(t.results.length:Int)≤t.job+(if t.sweep=true then 1 else 0):=by
    by_cases hs:t.sweep=true
    ·rw[iJ ⟨by omega,.inl hs⟩]at hres;rw[iJ hs];exact hres
    ·rw[iQ (λh=>by rcases h.2 with h |h;exact hs h;omega)]at hres;rw[iQ hs];exact hres
   have C':∀b:Int,wo { t with now:=some (zV x an),born:=b }:=λb=>⟨⟨C.set,C.me,C.jobs,C.jl,C.job,C.rests,C.slots,C.tries,C.conf,C.giv⟩,λy hy=>by
    cases hy
    exact⟨MC hN.1 ha,hS.me.trans hN.2.1,hS.set.trans hN.2.2.1,hS.sw.trans hN.2.2.2⟩,C.lt,λh=>by cases h⟩
   obtain⟨a,q,H2⟩:=ThdC.V hx (ThdC.I (b:=b) (q:=q) (H1.sub (.cons e_1 (.cons e_1 (.cons e_1 (.cons e_1 (.cons e_1 (.cons e_1 (.cons e_1 (.cons e_1 (.cons .here .refl)))))))))));have H2:HS g h1 (thrV a b t x q (qk v0 (zp an)::R)):=H2;clear H1;refine qG (qQ (qX H2 (b:=b) e_1 (x:=.ptr a 0) rfl ?_));refine qW (Km omQ H2 .here) ?_;rintro _ _ ⟨rfl,rfl⟩;refine qy rfl (qy rfl ?_);refine qG (qQ (qX H2 (b:=b) e_1 (x:=.ptr a 0) rfl ?_));refine qF H2 (b:=v0) (off:=0) e_8 rfl omQ (l:=zp an) rfl ?_;refine qW (qqs omQ hN.1 ha H2) λ_ h3 H3=>?_;unfold Q8;dsimp only;generalize hy:zV x an=y at H3 C' ⊢;generalize hbo:(if y.begun=true∧x.begun=false then pick else t.born)=bo;have key:∀(bo:Int) (h':AH),HS g h' (thrV a b { t with now:=some y,born:=bo } y q (qk v0 (zp an)::R))→
     wp (xg (.ptr b 0) λv28=>qm v28 16 λv29=>jq h' v29 λv30=>jm (callT tab qj k) (.fn 60 [] []) [v30] h' λv31 h32=>jc .neq v31 (.int .i64 ((0:Nat):Int)) λv33=>zM v33
      (jm (callT tab qj k) (.fn 61 [] []) [.ptr b 0,.int .u8 draw,.int .i64 pick] h32 λ_ h35=>zO [] h35 λh9=>some (.tup [],h9)) (zO [] h32 λh9=>some (.tup [],h9)))
      λ_ h'=>HS g h' (ThdC b (if zx y=0 then{ t with now:=some y,born:=bo }else yU { t with now:=some y,born:=bo } y draw pick)::R):=λbo h' H4=>by
    refine qG (qQ (qX H4 (b:=b) e_1 (x:=.ptr a 0) rfl ?_));refine qW (GA omQ H4 .here) ?_;rintro _ _ ⟨rfl,rfl⟩;have H5:=thrV.I (t:={ t with now:=some y,born:=bo }) rfl H4;have H5:=H5.sub (.cons .here (.drop .refl));by_cases c:zx y=0
    ·rw[iJ c];exact q8 c (qJ (qx (qq H5)))
    ·rw[iQ c];refine qu c (qZ ?_);exact qW (qGm (t:={ t with now:=some y,born:=bo }) omQ (C' bo) rfl (by show t.past.length≤_;omega) (by show t.tries≤_;omega) hr hd H5) λ_ h6 H6=>qx (qq H6)
   refine qV ?_
   try dsimp only
   refine qG (qQ (qX H3 (b:=b) e_1 (x:=.ptr a 0) rfl ?_));refine qW (Km omQ H3 .here) ?_;rintro _ _ ⟨rfl,rfl⟩;refine qy rfl (qy rfl ?_);refine qV ?_
   try dsimp only
   have H4:HS g _ (thrV a b { t with now:=some y,born:=t.born } y q (qk v0 (zp an)::R)):=H3;by_cases d1:y.begun=true
   ·rw[d1];refine qa ?_;by_cases d2:x.begun=true
    ·rw[d2];rw[d1,d2,iQ (λh=>by cases h.2)]at hbo;subst hbo;refine jW (qE (qJ ?_));exact key _ _ H4
    ·have d2':x.begun=false:=by simpa using d2
     rw[d2'];rw[d1,d2',iJ ⟨rfl,rfl⟩]at hbo;subst hbo;refine jk (qE (qZ ?_));refine qG (qQ ?_);refine qg H3 (b:=b) e_1 ⟨rfl,rfl⟩ (by simp[yI]) λh5 H5=>?_;exact key pick _ (H5.sub (.cons e_1 (.cons .here .refl)))
   ·have d1':y.begun=false:=by simpa using d1
    rw[d1'];rw[d1',iQ (λh=>by cases h.1)]at hbo;subst hbo;refine qR (qC (qJ ?_));exact key _ _ H4
 ·rw[iQ c1];refine qK c1 (qJ ?_);have H2:=ThdC.I (b:=b) (t:=t) (q:=q) H1.drop;by_cases c2:t.state=2
  ·rw[iJ c2];refine qz c2 (qZ ?_);refine qF H1 (b:=v0) (off:=0) .here rfl omQ (l:=zp an) rfl ?_;exact qW (qWd omQ O.b omQ hd H2) λ_ h6 H6=>qx (qq H6)
  ·rw[iQ c2];refine qK c2 (qJ ?_);by_cases c5:t.state=5
   ·rw[iJ c5];refine qz c5 (qZ ?_);have C:=O.c omQ;have hsl:=O.slo c5;have h4:=C.set.threads;refine qV ?_
    try dsimp only
    refine qQ (qX H1 (b:=v0) .here (x:=.int .i64 an.err) rfl ?_);by_cases ce:an.err=0
    ·refine q8 ce (qJ ?_)
     try dsimp only
     refine qQ (qX H1 (b:=v0) .here (x:=.int .u64 an.word) rfl ?_);rw[iQ (λh=>h ce)];exact qW (VI omQ C (O.sw5 c5) omQ omQ H2) λ_ h6 H6=>qx (qq H6)
    ·refine qu ce (qZ ?_);refine qQ (qg H1 (b:=v0) .here (x:=.int .u64 0) ⟨rfl,rfl⟩ (by simp[zp]) λh3 H3=>?_)
     try dsimp only
     refine qQ (qX H3 (b:=v0) .here (x:=.int .u64 0) rfl ?_);rw[iJ ce];exact qW (VI omQ C (O.sw5 c5) omQ omQ (ThdC.I (b:=b) (t:=t) (q:=q) H3.drop)) λ_ h6 H6=>qx (qq H6)
   ·rw[iQ c5];exact qK c5 (qJ (qx (qq H2)))
theorem qqc (hn:5≤n) (O:xF t) (H:HS g h (ThdC b t::R)):t_w n 30 [.ptr b 0] h λr h'=>r=opV (yH t)∧HS g h' (ThdC b t::R):=by
 refine t_e1 (S:=S30) rfl omQ λk hk=>?_;unfold S30;try simp only[iZ]
 have hst:=O.st;obtain⟨q,H0⟩:=ThdC.E H;refine qI H0 rfl λv0 h1 H1=>?_;clear H H0;refine qG (qQ (qX H1 (b:=b) e_1 rfl ?_));unfold yH;have say:∀{o:OpM} {h':AH},HS g h' (qk v0 (yX o)::Yz b t q R)→wp (zY h' (.ptr v0 0) 10 λv=>some (.tup [v,.bool true],h')) λr h'=>r=opV (some o)∧HS g h' (ThdC b t::R):=λ{o h'} H'=>by
  refine qF H' (b:=v0) (off:=0) .here rfl omQ (l:=yX o) rfl ?_;exact qq ⟨rfl,ThdC.I (q:=q) H'.drop⟩
 by_cases c1:t.state=1
 ·rw[iJ c1];refine qz c1 (qZ ?_);have C:=O.c omQ;cases hx:t.now with
  |none=>exact absurd hx C.some
  |some x=>have hN:=C.now x hx;obtain⟨a,q,H2⟩:=ThdC.V hx (ThdC.I (b:=b) (q:=q) (H1.sub (.cons e_1 (.cons e_1 (.cons e_1 (.cons e_1 (.cons e_1 (.cons e_1 (.cons e_1 (.cons e_1 (.cons .here .refl)))))))))));have H2:HS g h1 (thrV a b t x q (qk v0 (yX (op0 0 0 0))::R)):=H2;refine qG (qQ (qX H2 (b:=b) e_1 (x:=.ptr a 0) rfl ?_));refine qW (qYs omQ hN.1 H2) ?_;rintro _ h3 ⟨rfl,H3⟩;refine qy rfl (qy rfl ?_);refine qd H3 (b:=v0) e_8 rfl (by show 0+10≤10;omega) rfl λh4 H4=>?_;refine qF H4 (b:=v0) (off:=0) .here rfl omQ (l:=yX ((yG x).getD (op0 0 0 0))) rfl ?_;exact qq ⟨rfl,thrV.I (q:=q) hx (H4.drop.sub (.cons .here .refl))⟩
 ·rw[iQ c1];refine qK c1 (qJ ?_);by_cases c2:t.state=2
  ·rw[iJ c2];refine qz c2 (qZ ?_);refine qG (qQ (qX H1 (b:=b) e_1 rfl ?_));refine qH (l:=yX (op0 8 t.by_ 0)) rfl ?_;exact qd H1 (b:=v0) .here rfl (by show 0+10≤10;omega) rfl λh3 H3=>say H3
  ·rw[iQ c2];refine qK c2 (qJ ?_);by_cases c5:t.state=5
   ·rw[iJ c5];refine qz c5 (qZ ?_);refine qG (qQ (qX H1 (b:=b) e_1 rfl ?_));refine qi H1 (n:=t.slots.length) (v:=q.sv) e_8 ?_;refine qH (l:=yX (op0 8 t.slots.length 0)) rfl ?_;exact qd H1 (b:=v0) .here rfl (by show 0+10≤10;omega) rfl λh3 H3=>say H3
   ·rw[iQ c5];refine qK c5 (qJ ?_);refine qH (l:=yX (op0 0 0 0)) rfl ?_;refine qd H1 (b:=v0) .here rfl (by show 0+10≤10;omega) rfl λh3 H3=>?_;refine qF H3 (b:=v0) (off:=0) .here rfl omQ (l:=yX (op0 0 0 0)) rfl ?_;exact qq ⟨rfl,ThdC.I (q:=q) H3.drop⟩
theorem qX9 {r:List xG} {st ver:Int} {i:Nat} (hi:i<r.length):gw (r.drop i) st ver=(decide (r[i].1=st∧r[i].2≠ver)||gw (r.drop (i+1)) st ver):=by unfold gw;rw[List.drop_eq_getElem_cons hi,List.any_cons]
theorem qxe {st ver:Int} (hn:12≤n) (O:xF t) (H:HS g h (ThdC b t::R)):t_w n 33 [.ptr b 0,.int .i64 st,.int .u64 ver] h λ_ h'=>HS g h' (ThdC b (zm t st ver)::R):=by
 refine t_e3 (S:=S33) rfl omQ λk hk=>?_;unfold S33;try simp only[iZ]
 have hst:=O.st;have hrl:=O.rl;cases hx:t.now with
 |none=>
  obtain⟨q,H0⟩:=ThdC.E H;have e:q.nv=.nilp:=by have H1:=H0.sel (P:=NowC t.now q.nv) e_3;rw[hx]at H1;exact H1.purE.1
  refine qG (qQ (qX H0 (b:=b) .here (x:=.nilp) (by rw[← e];rfl) ?_));have eW:zm t st ver=t:=by
   unfold zm
   split
   ·rfl
   ·rename_i h1;rw[hx]at h1;cases h1
  rw[eW];exact VJ (qZ (qq H))
 |some x=>
  have eW:zm t st ver=if gw x.r st ver=true then(if t.state=4 then zC t else if t.state=1∧vQ x=true then{ t with alarm:=true }else t)else t:=by
   unfold zm
   split
   ·rename_i h1;rw[hx]at h1;cases h1
   ·rename_i y h1;rw[hx]at h1;cases h1;rfl
  rw[eW];have C:=O.c (λh6=>by have:=(O.fin h6).2;rw[hx]at this;cases this);have hN:=C.now x hx;have hr:=hN.1.r;obtain⟨a,q,H0⟩:=ThdC.V hx H;refine qG (qQ (qX H0 (b:=b) e_1 (x:=.ptr a 0) rfl ?_));refine KY (qJ ?_);refine qG (qQ (qX H0 (b:=b) e_1 (x:=.ptr a 0) rfl ?_));refine qW (qq2 omQ hN.1 H0) λv h1 H1=>?_;refine qi H1 .here ?_;refine jw (λc s h'=>∃i:Nat,s=(.int .i64 (i:Int),.int .i64 (x.r.length:Int),v,.int .u64 ver,.int .i64 st,.ptr b 0,())∧i≤x.r.length∧c=x.r.length-i∧gw x.r st ver=gw (x.r.drop i) st ver∧HS g h' (qA 125 2 x.r.length v (x.r.flatMap y7)::thrV a b t x q R))
   ?_ (m:=x.r.length) (by show _<1000000000;omega) ⟨0,rfl,Nat.zero_le _,rfl,rfl,H1⟩
  clear H H0 H1;rintro c ih s h3 hih ⟨i,rfl,hi,rfl,hs,H⟩;dsimp only;have HT:=(thrV.I (t:=t) hx H.drop);by_cases hlt:i<x.r.length
  ·refine jB omQ (qZ ?_);refine zH (l:=y7 x.r[i]) (H.sl .here) hlt omQ (vk (sz:=2) (enc:=y7) (λ_=>rfl) (iW hlt)) ?_;refine qI H rfl λb2 h4 H4=>?_;refine qd H4 (b:=b2) .here rfl (by show 0+2≤2;omega) rfl λh5 H5=>?_;rw[qX9 hlt]at hs;have H6:HS g h5 (qA 125 2 x.r.length v (x.r.flatMap y7)::thrV a b t x q R):=H5.drop;have on:∀c:¬(x.r[i].1=st∧x.r[i].2≠ver),wp (ih (.int .i64 (i+((1:Nat):Int)),.int .i64 (x.r.length:Int),v,.int .u64 ver,.int .i64 st,.ptr b 0,()) h5 []) λ_ h'=>HS g h' (ThdC b (if gw x.r st ver=true then(if t.state=4 then zC t else if t.state=1∧vQ x=true then{ t with alarm:=true }else t)else t)::R):=λc=>by
    rw[iV c,Bool.false_or]at hs;exact hih (x.r.length-(i+1)) _ _ omQ ⟨i+1,rfl,by omega,rfl,hs,H6⟩
   refine qQ (qX H5 (b:=b2) .here (x:=.int .i64 x.r[i].1) rfl ?_);by_cases c1:x.r[i].1=st
   ·refine q8 c1 ?_;refine qV ?_
    try dsimp only
    refine qc (qQ (qX H5 (b:=b2) .here (x:=.int .u64 x.r[i].2) rfl ?_));by_cases c2:x.r[i].2=ver
    ·refine qz c2 (qC (qZ ?_));exact qb omQ (on λh=>h.2 c2)
    ·refine qK c2 (qC (qJ ?_));rw[iG ⟨c1,c2⟩,Bool.true_or]at hs;rw[iJ hs];clear on hih;refine qV ?_
     try dsimp only
     refine qG (qQ (qX H6 (b:=b) e_2 rfl ?_));have HT:=(thrV.I (t:=t) hx H6.drop);by_cases c4:t.state=4
     ·rw[iJ c4];refine qz c4 (qZ ?_);exact qW (Qf omQ C.toThrB omQ HT) λ_ h7 H7=>qx (qq H7)
     ·rw[iQ c4];refine qK c4 (qJ ?_);refine qG (qQ (qX H6 (b:=b) e_2 rfl ?_));refine qV ?_
      try dsimp only
      by_cases c5:t.state=1
      ·refine qz c5 (qa ?_);refine qG (qQ (qX H6 (b:=b) e_2 (x:=.ptr a 0) rfl ?_));obtain⟨q2,H7⟩:=AttC.E (H6.sel (P:=AttC a x) e_1);refine qW (Mm omQ H7 .here) ?_;rintro _ _ ⟨rfl,rfl⟩;by_cases c6:vQ x=true
       ·rw[c6,iJ ⟨c5,rfl⟩];refine qE (qZ ?_);refine qG (qQ ?_);refine qg H6 (b:=b) e_2 ⟨rfl,rfl⟩ (by simp[yI]) λh8 H8=>?_;refine qx (qq ?_);exact thrV.I (t:={ t with alarm:=true }) (q:=q) hx (H8.sub (.cons e_2 (.cons .here (.drop .refl))))
       ·have c6':vQ x=false:=by simpa using c6
        rw[c6',iQ (λh=>by cases h.2)];exact qE (qJ (qx (qq HT)))
      ·rw[iQ (λh=>c5 h.1)];exact qK c5 (qR (qC (qJ (qx (qq HT)))))
   ·refine qu c1 ?_;refine qV ?_
    try dsimp only
    refine qp (qE (qZ ?_));exact qb omQ (on λh=>c1 h.1)
  ·obtain rfl:i=x.r.length:=by omega
   refine jK omQ (qJ ?_);rw[List.drop_length]at hs;rw[hs];exact qx (qq HT)
end
end
section
variable {g h:AH} {L R:List SP}
theorem qjp {D:Nat→Prop} {sz n hi b cp cp':Nat} {o:Bool} {xs:List AV} (S:Sl D h sz n (.slice b 0 n cp o) xs) (hle:hi≤n):Sl D h sz hi (.slice b 0 hi cp' o) (xs.take (hi*sz)):=by
 have hm:=Nat.mul_le_mul_right sz hle;cases S with
 |mk hd hb hr hl ha=>exact .mk hd hb hr (by rw[List.length_take,hl];omega) λi hi'=>by rw[ha i omQ,List.getElem?_take_of_lt hi']
theorem qZa {hi sz n:Nat} {e:TypeId} {k:IntKind} {v:AV} {xs:List AV} {K:AV→Go.Ae.R} {Q:AV→AH→Prop} (H:HS g h L) (s:Sel L (qA e sz n v xs) R) (hsz:0<sz) (hle:hi≤n)
  (w:∀v',Rd g L sz hi v' (xs.take (hi*sz))→wp (K v') Q):wp (x8 h e sz v none (some (.int k (hi:Int))) K) Q:=by
 have hm:=Nat.mul_le_mul_right sz hle;obtain⟨D,hl,⟨rfl,hn,hD⟩ |⟨b,cp,o,zs,rfl,hD,A,q1,q2,q3⟩⟩:=H.p s
 ·subst hn;obtain rfl:hi=0:=by omega
  exact w .nils λ_ _=>by rw[Nat.zero_mul,List.take_zero];exact .nils
 ·cases o with
  |false=>
   rw[iQ osQ]at q3;refine qQM (hi:=hi) (lo:=0) (vv omQ) rfl ?_;have:=w (.slice b 0 hi cp false) λh' H'=>qjp (H'.sl s) hle;have e0:(bif Nat.beq cp 0 then 0 else 0+0*sz)=0:=by cases Nat.beq cp 0<;>simp
   rw[e0];exact this
  |true=>rw[iJ rfl]at q3;subst q3;refine ND (i0:=0) (hi:=hi) (lo:=0) A hsz omQ omQ (vv hle) rfl (.inr rfl) ?_;have:=w (.slice b 0 hi 0 true) λh' H'=>qjp (H'.sl s) hle;simpa using this
theorem O8 {n m:Nat} {e:TypeId} {v:AV} {xs:List AV} {R2:List SP} (hn:1≤n) (H:HS g h L) (s:Sel L (qA e 5 m v xs) R2) (ha:qo xs=true) (hm:m≤1000000) :
  t_w n 50 [v] h λr h'=>HS g h' (qA 51 5 m r xs::L):=by
 refine t_e1 (S:=S50) rfl omQ λk hk=>?_;unfold S50;try simp only[iZ]
 refine Xj H s (λh1 h2=>?_) (qJ ?_)
 ·subst h1 h2;obtain rfl:xs=[]:=iA (by simpa using H.sl_len s);exact qZ (qq H.nils)
 ·refine qe (n:=0) (l:=[]) (sz:=5) H rfl rfl rfl rfl λv2 h2 H2=>?_;refine jR H2 (H2.sl (.there s)) omQ omQ ha λv3 h3 H3=>?_;rw[Nat.zero_add,List.nil_append]at H3;exact qq H3
section
variable {n b:Nat} {t:jJ} {q:Vz}
theorem qQt {me:Int} {s:zr} {js:List (List qO)} {v:AV} (hn:13≤n) (hme:-1000000≤me∧me≤1000000) (hs:0≤s.start) (hj:∀l∈js,(zt l).2=0∧Quiet l) (hjl:js.length≤1000000) (H:HS g h (JobsC js v::R)) :
  t_w n 27 [.int .i64 me,.agg (xM s),v] h λr h'=>∃b,r=.ptr b 0∧HS g h' (ThdC b (VV me s js)::JobsC js v::R):=by
 refine t_e3 (S:=S27) rfl omQ λk hk=>?_;unfold S27;try simp only[iZ]
 obtain⟨vs,hvl,H⟩:=JobsC.E H;refine qI H rfl λb0 h1 H1=>?_;refine qF H1 (b:=b0) (off:=0) .here rfl omQ (l:=xM s) rfl ?_;refine qW (UR omQ H1) ?_;rintro _ h2 ⟨rfl,H2⟩;clear H H1;have SO:=yr hs;refine qd H2 (b:=b0) .here rfl (by show 0+8≤8;omega) rfl λh3 H3=>?_;have H3:HS g h3 (qk b0 (xM (jz s))::qA 54 1 js.length v vs:: .all (List.zipWith zh vs js)::R):=H3;unfold VV;generalize jz s=S at*;clear H2;have h4:=SO.threads;refine qV ?_
 try dsimp only
 refine qQ (qh (qX H3 (b:=b0) .here (x:=.int .i64 S.threads) rfl ?_));refine jr omQ (zZ (ze ?_));refine qF H3 (b:=b0) (off:=0) .here rfl omQ (l:=xM S) rfl ?_;refine qW (qK3 omQ H3) ?_;rintro _ h5 ⟨lb,rfl,H5⟩;have et:max ((0:Nat):Int) (min me (S.threads-((1:Nat):Int)))=max 0 (min me (S.threads-1)):=rfl;rw[et]
 let T:List (List qO)→jJ:=λjs=>⟨max 0 (min me (S.threads-1)),S,js,-1,0,false,[],0,0,none,0,false,[],[],[],[],0,0,false,0⟩
 refine qH (l:=yI (T []) ⟨.nils,.nils,.nilp,.nils,.nils,lb,.nils⟩) rfl ?_;refine qI H5 rfl λb h6 H6=>?_;refine zA H3 .here rfl H5 e_1 rfl rfl omQ (HS.lt H3 .here) ?_;refine qU H3 .here rfl H5 e_1 rfl (HS.lt H3 .here) ?_
 try dsimp only
 have N1:=(H6.nils (e:=163) (sz:=2));have N2:=HS.purI (φ:=AV.nilp=.nilp) rfl N1;have N3:=PastC.I (r:=[]) (v:=.nils) (zs:=[]) rfl ((HS.allI (A:=[]) N2).nils);have N4:=N3.nils (e:=61) (sz:=4);have N5:=N4.nils (e:=22) (sz:=1);have N6:=JobsC.I (js:=[]) (v:=.nils) (vs:=[]) rfl ((HS.allI (A:=[]) N5).nils);have N7:HS g h6 (Yz b (T []) ⟨.nils,.nils,.nilp,.nils,.nils,lb,.nils⟩ (qA 54 1 js.length v vs:: .all (List.zipWith zh vs js)::R)) :=
  N6.sub (.cons e_6 (.cons .here (.cons e_4 (.cons e_3 (.cons e_2 (.cons e_1 (.cons e_1 (.cons .here (.drop .refl)))))))))
 have N8:=ThdC.I N7;clear N1 N2 N3 N4 N5 N6 N7 H3 H5 H6;refine qi N8 (n:=js.length) (v:=v) e_1 ?_;refine zZ ?_;rw[show min ((js.length:Nat):Int) ((6:Nat):Int)=((min js.length 6:Nat):Int) by omega];have hm6:min js.length 6≤js.length∧min js.length 6≤6:=by omega
 have etk:js.take (min js.length 6)=js.take 6:=by
  rcases Nat.lt_or_ge js.length 6 with h |h
  ·rw[Nat.min_eq_left omQ,List.take_length,List.take_of_length_le omQ]
  ·rw[Nat.min_eq_right h]
 rw[← etk];generalize min js.length 6=m at*;refine qZa (hi:=m) N8.drop .here omQ hm6.1 λv' SV=>?_;refine xC (SV.more.sl N8) ?_;refine jw (λc s h'=>∃i:Nat,s=(.int .i64 (i:Int),.int .i64 (m:Int),v',.ptr b 0,())∧i≤m∧c=m-i∧HS g h' (ThdC b (T (js.take i))::qA 54 1 js.length v vs:: .all (List.zipWith zh vs js)::R))
  ?_ (m:=m) (by show _<1000000000;omega) ⟨0,rfl,Nat.zero_le _,rfl,N8⟩
 clear N8;rintro c ih s h7 hih ⟨i,rfl,hi,rfl,H⟩;dsimp only;by_cases hlt:i<m
 ·have hil:i<js.length:=by omega
  have hiv:i<vs.length:=by omega
  have hje:js[i]? =some js[i]:=iW hil;have hz:(List.zipWith zh vs js)[i]? =some (zh vs[i] js[i]):=by rw[List.getElem?_zipWith,iW hiv,hje]
  have hchk:=hj _ (List.getElem_mem hil);have hle:=(GP hchk.1).le;have HB0:=(H.sel (P:=.all (List.zipWith zh vs js)) e_2).allE;have o0:One vs[i]:=HB0.one (e:=51) (sz:=5) (n:=js[i].length) (Ky hz);refine jB omQ (qZ ?_);refine zH (l:=[vs[i]]) (SV.more.sl H) hlt omQ (by rw[Nat.mul_one,Nat.mul_one,List.drop_eq_getElem_cons (by rw[List.length_take];omega)];simp) ?_;refine qI H rfl λb2 h8 H8=>?_;refine qd H8 (b:=b2) .here rfl (by show 0+1≤1;omega) (by show qo [vs[i]]=true;simp[qo,o0.2]) λh9 H9=>?_;refine qV ?_
  try dsimp only
  obtain⟨q,HA⟩:=ThdC.E (H9.sel (P:=ThdC b (T (js.take i))) e_1);refine qG (qQ (qX HA (b:=b) .here rfl ?_));refine qQ (qX HA (b:=b2) e_8 (x:=vs[i]) rfl ?_);have HB:=(HA.sel (P:=.all (List.zipWith zh vs js)) e_10).allE;refine qW (O8 (e:=51) (m:=js[i].length) (xs:=js[i].flatMap jX) omQ HB (Ky hz) (Jm (λ_=>rfl) _) omQ) λpv hC HC=>?_;have HD:HS g hC (.all (List.zipWith zh vs js)::zh pv js[i]::qk b (yI (T (js.take i)) q)::_):=HS.allI (HS.unsel qZ1 HC);have op:=HD.one (e:=51) (sz:=5) (n:=js[i].length) e_1;refine qH (l:=[pv]) (by simp only[yB,op.1];rfl) ?_;refine qe (n:=1) (l:=[pv]) (sz:=1) HD rfl rfl (by simp only[vY,yB,AV.cells,op.1];rfl) (by simp[qo,op.2]) λv2 hE HE=>?_;obtain⟨ws,hwl,HF⟩:=JobsC.E (HE.sel (P:=JobsC (js.take i) q.jv) e_4);have hti:(js.take i).length=i:=by rw[List.length_take];omega
  refine jR HF (HF.sl e_2) omQ omQ (by simp[qo,op.2]) λv3 hG HG=>?_;have o3:=HG.one .here;refine qG (qQ ?_);refine qg HG (b:=b) e_5 o3 (by simp[yI]) λhH HH=>?_;refine qU HA .here rfl HD e_2 rfl (HS.lt HA .here) ?_;refine qb omQ ?_;refine hih (m-(i+1)) _ _ omQ ⟨i+1,rfl,by omega,rfl,?_⟩;have et:js.take (i+1)=js.take i++[js[i]]:=by rw[List.take_add_one,hje];rfl
  have ez:List.zipWith zh (ws++[pv]) (js.take i++[js[i]])=List.zipWith zh ws (js.take i)++[zh pv js[i]]:=by rw[List.zipWith_append hwl];rfl
  have HI:=Y5 (A:=List.zipWith zh ws (js.take i)) (B:=[zh pv js[i]]) (HH.sub (.cons e_2 (.cons e_4 .refl)));have HJ:=JobsC.I (v:=v3) (js:=js.take i++[js[i]]) (vs:=ws++[pv]) (by rw[List.length_append,List.length_append,hwl];rfl) (by rw[ez,List.length_append];exact HI.sub (.cons e_2 (.cons .here .refl)));rw[et];exact ThdC.I (t:=T (js.take i++[js[i]])) (q:={ q with jv:=v3 }) (HJ.sub (.cons e_1 (.cons .here (.cons e_2 (.cons e_2 (.cons e_2 (.cons e_2 (.cons e_2 (.cons e_2 (.cons e_3 (.cons e_1 (.drop (.drop .refl)))))))))))))
 ·obtain rfl:i=m:=by omega
  refine jK omQ (qJ ?_);refine qW (kV (t:=T (js.take i)) omQ ⟨SO,by show 0≤max 0 (min me (S.threads-1))∧max 0 (min me (S.threads-1))<S.threads;omega,λl hl=>hj l (List.mem_of_mem_take hl),by show(js.take i).length≤6;rw[List.length_take];omega,by show(0:Int)≤ -1+1∧(-1:Int)+1≤_;omega,Nat.le_refl _,Nat.zero_le _,by show(0:Int)≤0∧(0:Int)≤(([]:List KV).length:Int);decide,by show(0:Int)≤0∧(0:Int)≤0;decide,λ_=>rfl⟩ H) λ_ h8 H8=>qx (qq ⟨b,rfl,?_⟩);exact HS.unsel e_1 (JobsC.I hvl (H8.sub (.cons e_1 (.cons e_1 .refl))))
end
end
section
variable {g h:AH} {L R:List SP}
def Ji (m:QY) (p:Nat) (tv:AV):List AV:=[.int .i64 m.s.words,.int .i64 m.s.stripes,.int .i64 m.s.wide,.int .i64 m.s.threads,.int .u64 m.s.start,.int .i64 m.s.spins,.int .i64 m.s.writes,.int .i64 m.s.fuel,.ptr p 0,tv,.int .i64 m.picks,
 .int .i64 m.last.kind,.int .i64 m.last.at_,.int .u64 m.last.old,.int .u64 m.last.word,.int .u64 m.last.was.1,.bool m.last.was.2.1,.int .i64 m.last.was.2.2,.int .u64 m.last.lk.1,.bool m.last.lk.2.1,.int .i64 m.last.lk.2.2,.bool m.did]
def gi (ps:List Nat) (ts:List jJ):List SP:=List.zipWith ThdC ps ts
def Jq (ps:List Nat):List AV:=ps.map λa=>.ptr a 0
abbrev Vv (b:Nat) (m:QY) (p:Nat) (tv:AV) (ps:List Nat) (R:List SP):List SP :=
 qk b (Ji m p tv)::qA 78 1 m.t.length tv (Jq ps)::MemC p m.s m.m:: .all (gi ps m.t)::R
def MacC (b:Nat) (m:QY):SP:=.ex λq:Nat×AV×List Nat=>.all (.pur (q.2.2.length=m.t.length)::Vv b m q.1 q.2.1 q.2.2 [])
theorem MacC.E {b:Nat} {m:QY} (H:HS g h (MacC b m::R)):∃p tv ps,ps.length=m.t.length∧HS g h (Vv b m p tv ps R):=by obtain⟨⟨p,tv,ps⟩,H⟩:=H.exE;obtain⟨h1,H⟩:=H.allE.purE;exact⟨p,tv,ps,h1,H⟩
theorem MacC.I {b p:Nat} {m:QY} {tv:AV} {ps:List Nat} (hl:ps.length=m.t.length) (H:HS g h (Vv b m p tv ps R)):HS g h (MacC b m::R) :=
 HS.exI (p,tv,ps) (HS.allI (A:=.pur (ps.length=m.t.length)::Vv b m p tv ps []) (HS.purI hl H))
theorem MacC.I1 {b p:Nat} {m:QY} {tv:AV} {ps:List Nat} {X:SP} (hl:ps.length=m.t.length) (H:HS g h (X::Vv b m p tv ps R)):HS g h (X::MacC b m::R) :=
 HS.unsel e_1 (MacC.I (tv:=tv) (p:=p) hl (H.sub (.cons e_1 (.cons e_1 (.cons e_1 (.cons e_1 (.cons .here .refl)))))))
theorem Nm {A:List SP} {P:SP} {i:Nat} (h:A[i]? =some P):Sel A P (A.eraseIdx i):=by
 have:=Ky (R:=[]) h
 rwa [List.append_nil,List.append_nil]at this
theorem qYS {ps:List Nat} {ts:List jJ} {i a:Nat} {t:jJ} (h1:ps[i]? =some a) (h2:ts[i]? =some t):(gi ps ts)[i]? =some (ThdC a t):=by unfold gi;rw[List.getElem?_zipWith,h1,h2]
theorem qzn {ps:List Nat} {ts:List jJ} {i a:Nat} {u:jJ} (h1:ps[i]? =some a):gi ps (ts.set i u)=(gi ps ts).set i (ThdC a u):=by
 unfold gi;apply List.ext_getElem?;intro k;rw[List.getElem?_zipWith,List.getElem?_set,List.getElem?_set,List.getElem?_zipWith];by_cases e:i=k
 ·subst e;rw[iJ rfl,iJ rfl,h1,List.length_zipWith];have hi:=(List.getElem?_eq_some_iff.1 h1).1;by_cases c:i<ts.length
  ·rw[iJ c,iJ omQ]
  ·rw[iQ c,iQ omQ]
 ·rw[iQ e,iQ e]
theorem Ms {ps:List Nat} {ts:List jJ} {i a:Nat} {t:jJ} (h1:ps[i]? =some a) (h2:ts[i]? =some t) (H:HS g h (.all (gi ps ts)::R)):HS g h (ThdC a t:: .all ((gi ps ts).eraseIdx i)::R) :=
 HS.allSel (Nm (qYS h1 h2)) H
theorem NI {ps:List Nat} {ts:List jJ} {i a:Nat} {u:jJ} (h1:ps[i]? =some a) (h2:i<ts.length) (H:HS g h (ThdC a u:: .all ((gi ps ts).eraseIdx i)::R)):HS g h (.all (gi ps (ts.set i u))::R):=by
 have e:(gi ps ts).eraseIdx i=(gi ps (ts.set i u)).eraseIdx i:=by rw[qzn h1,List.eraseIdx_set_eq]
 rw[e]at H;exact HS.allUn (Nm (qYS h1 (List.getElem?_set_self h2))) H
theorem Nf {ps:List Nat} {i a:Nat} (h:ps[i]? =some a):(Jq ps)[i]? =some (.ptr a 0):=by unfold Jq;rw[List.getElem?_map,h];rfl
section
variable {n b p:Nat} {m:QY} {tv:AV} {ps:List Nat}
theorem qjS {i a:Nat} (hn:1≤n) (hl:ps.length=m.t.length) (h1:ps[i]? =some a) (hb:m.t.length≤1000) (H:HS g h (Vv b m p tv ps R)) :
  t_w n 35 [.ptr b 0,.int .i64 (i:Int)] h λr h'=>r=.ptr a 0∧h'=h:=by
 refine t_e2 (S:=S35) rfl omQ λk hk=>?_;unfold S35;try simp only[iZ]
 have hi:=(List.getElem?_eq_some_iff.1 h1).1;refine jK omQ ?_;refine qV ?_
 try dsimp only
 refine qc (qG (qQ (qX H (b:=b) .here rfl ?_)));refine qi H (sz:=1) (n:=m.t.length) (v:=tv) e_1 ?_;refine zK omQ ?_
 try dsimp only
 refine qC (qJ ?_);refine qG (qQ (qX H (b:=b) .here rfl ?_));refine jI (H.sl (v:=tv) (xs:=Jq ps) e_1) (x:=.ptr a 0) (Nf h1) ?_;exact qq ⟨rfl,rfl⟩
theorem OE {i:Nat} {t:jJ} (hn:2≤n) (ht:m.t[i]? =some t) (hb:m.t.length≤1000) (H:HS g h (MacC b m::R)) :
  t_w n 13 [.ptr b 0,.int .i64 (i:Int)] h λr h'=>r=.int .i64 t.state∧h'=h:=by
 refine t_e2 (S:=S13) rfl omQ λk hk=>?_;unfold S13;try simp only[iZ]
 obtain⟨p,tv,ps,hl,H⟩:=MacC.E H;have hi:=(List.getElem?_eq_some_iff.1 ht).1;have h1:ps[i]? =some (ps[i]'omQ):=iW omQ;refine qW (qjS omQ hl h1 hb H) ?_;rintro _ _ ⟨rfl,rfl⟩;refine NV (qZ ?_);obtain⟨q,H2⟩:=ThdC.E (Ms h1 ht (H.sel (P:=.all (gi ps m.t)) e_3));refine qW (V2 omQ H2 .here) ?_;rintro _ _ ⟨rfl,rfl⟩;exact qq ⟨rfl,rfl⟩
theorem Oq (hn:4≤n) (hw:m.m.l.length≤1000000) (H:HS g h (MacC b m::R)) :
  t_w n 12 [.ptr b 0] h λr h'=>HS g h' (qA 47 3 m.m.l.length r (m.m.l.flatMap jh)::MacC b m::R):=by
 refine t_e1 (S:=S12) rfl omQ λk hk=>?_;unfold S12;try simp only[iZ]
 obtain⟨p,tv,ps,hl,H⟩:=MacC.E H;refine qG (qQ (qX H (b:=b) .here (x:=.ptr p 0) rfl ?_));refine qW (qVr omQ hw (H.sel (P:=MemC p m.s m.m) e_2)) λv h2 H2=>qq ?_;exact MacC.I1 hl (H2.sub (.cons .here (.cons e_1 (.cons e_1 (.cons .here .refl)))))
theorem Qu (hn:3≤n) (H:HS g h (MacC b m::R)):t_w n 9 [.ptr b 0] h λr h'=>r=.int .u64 m.m.n∧h'=h:=by
 refine t_e1 (S:=S9) rfl omQ λk hk=>?_;unfold S9;try simp only[iZ]
 obtain⟨p,tv,ps,hl,H⟩:=MacC.E H;refine qG (qQ (qX H (b:=b) .here (x:=.ptr p 0) rfl ?_));refine qW (qvd omQ (H.sel (P:=MemC p m.s m.m) e_2)) ?_;rintro _ _ ⟨rfl,rfl⟩;exact qq ⟨rfl,rfl⟩
theorem Z2 (hn:1≤n) (H:HS g h (MacC b m::R)):t_w n 15 [.ptr b 0] h λr h'=>r=.int .i64 m.picks∧h'=h:=by
 refine t_e1 (S:=S15) rfl omQ λk hk=>?_;unfold S15;try simp only[iZ]
 obtain⟨p,tv,ps,hl,H⟩:=MacC.E H;refine qG (qQ (qX H (b:=b) .here (x:=.int .i64 m.picks) rfl ?_));exact qq ⟨rfl,rfl⟩
theorem Vk (hn:1≤n) (H:HS g h (MacC b m::R)):t_w n 8 [.ptr b 0] h λr h'=>r=.int .i64 (m.t.length:Int)∧h'=h:=by
 refine t_e1 (S:=S8) rfl omQ λk hk=>?_;unfold S8;try simp only[iZ]
 obtain⟨p,tv,ps,hl,H⟩:=MacC.E H;refine qG (qQ (qX H (b:=b) .here (x:=tv) rfl ?_));refine qi H (sz:=1) (n:=m.t.length) (v:=tv) e_1 ?_;exact qq ⟨rfl,rfl⟩
theorem Zf (hn:2≤n) (hb:m.t.length≤1000) (H:HS g h (MacC b m::R)):t_w n 14 [.ptr b 0] h λr h'=>r=.bool (Qt m)∧h'=h:=by
 refine t_e1 (S:=S14) rfl omQ λk hk=>?_;unfold S14;try simp only[iZ]
 obtain⟨p,tv,ps,hl,H⟩:=MacC.E H;refine qG (qQ (qX H (b:=b) .here (x:=tv) rfl ?_));refine qi H (sz:=1) (n:=m.t.length) (v:=tv) e_1 ?_;refine jw (λc s h'=>∃i:Nat,s=(.int .i64 (i:Int),.int .i64 (m.t.length:Int),tv,())∧i≤m.t.length∧c=m.t.length-i∧(m.t.take i).all (λt=>decide (t.state=6∨t.state=4))=true∧h'=h)
  ?_ (m:=m.t.length) (by show _<1000000000;omega) ⟨0,rfl,Nat.zero_le _,rfl,rfl,rfl⟩
 rintro c ih s _ hih ⟨i,rfl,hi,rfl,ha,rfl⟩;dsimp only;by_cases hlt:i<m.t.length
 ·refine jB omQ (qZ ?_);have ht:m.t[i]? =some m.t[i]:=iW hlt;have h1:ps[i]? =some (ps[i]'omQ):=iW omQ;refine jI (H.sl (v:=tv) (xs:=Jq ps) e_1) (x:=.ptr (ps[i]'omQ) 0) (Nf h1) ?_;obtain⟨q,H2⟩:=ThdC.E (Ms h1 ht (H.sel (P:=.all (gi ps m.t)) e_3));refine qW (V2 omQ H2 .here) ?_;rintro _ _ ⟨rfl,rfl⟩;have no:¬(m.t[i].state=6∨m.t[i].state=4)→Qt m=false:=λc=>by
   unfold Qt;rw[Bool.eq_false_iff];intro hh;have:=List.all_eq_true.1 hh _ (List.getElem_mem hlt);exact c (of_decide_eq_true this)
  have on:(m.t[i].state=6∨m.t[i].state=4)→(m.t.take (i+1)).all (λt=>decide (t.state=6∨t.state=4))=true:=λc=>by
   rw[List.take_add_one,ht,List.all_append,ha];show(true&&(decide (m.t[i].state=6∨m.t[i].state=4)&&true))=true;rw[iG c];rfl
  by_cases c6:m.t[i].state=6
  ·refine q8 c6 ?_;refine qV ?_
   try dsimp only
   refine qR (qC (qJ ?_));refine qb omQ ?_;exact hih (m.t.length-(i+1)) _ _ omQ ⟨i+1,rfl,by omega,rfl,on (.inl c6),rfl⟩
  ·refine qu c6 ?_;refine qV ?_
   try dsimp only
   refine qa ?_;by_cases c4:m.t[i].state=4
   ·refine q8 c4 (qE (qJ ?_));refine qb omQ ?_;exact hih (m.t.length-(i+1)) _ _ omQ ⟨i+1,rfl,by omega,rfl,on (.inr c4),rfl⟩
   ·refine qu c4 (qE (qZ ?_));exact qx (qq ⟨by rw[no omQ],rfl⟩)
 ·obtain rfl:i=m.t.length:=by omega
  refine jK omQ (qJ ?_);rw[List.take_length]at ha;exact qx (qq ⟨by unfold Qt;rw[ha],rfl⟩)
end
end
section
variable {g h:AH} {L R:List SP}
section
variable {n b p:Nat} {m:QY} {tv:AV} {ps:List Nat}
structure kG (ts:List jJ) (i:Nat) (s v:Int) (k:Nat) (us:List jJ):Prop where
  len:us.length=ts.length
  lo:∀j,j<k→us[j]? =(yK ts i s v)[j]?
  hi:∀j,k≤j→us[j]? =ts[j]?
theorem kG.done {ts us:List jJ} {i:Nat} {s v:Int} (W:kG ts i s v ts.length us):us=yK ts i s v:=by
 have hw:(yK ts i s v).length=ts.length:=by unfold yK;simp
 apply List.ext_getElem?;intro j;by_cases c:j<ts.length
 ·exact W.lo j c
 ·have h1:=W.len;rw[List.getElem?_eq_none omQ,List.getElem?_eq_none omQ]
theorem kG.same {ts us:List jJ} {i:Nat} {s v:Int} (W:kG ts i s v i us):kG ts i s v (i+1) us :=
 ⟨W.len,λj hj=>by
  by_cases c:j<i
  ·exact W.lo j c
  ·obtain rfl:j=i:=by omega
   rw[W.hi j (Nat.le_refl _),JS];cases ts[j]? with
   |none=>rfl
   |some t=>show some t=some (if j=j then t else _);rw[iJ rfl],λj hj=>W.hi j omQ⟩
theorem kG.next {ts us:List jJ} {i k:Nat} {s v:Int} {t:jJ} (W:kG ts i s v k us) (hk:k≠i) (ht:ts[k]? =some t):kG ts i s v (k+1) (us.set k (zm t s v)):=by
 have h1:=W.len;have h2:=(List.getElem?_eq_some_iff.1 ht).1;refine⟨by rw[List.length_set];exact h1,λj hj=>?_,λj hj=>?_⟩
 ·by_cases c:j=k
  ·subst c;rw[List.getElem?_set_self omQ,JS,ht];show _=some (if j=i then t else zm t s v);rw[iQ hk]
  ·rw[List.getElem?_set_ne (λh=>c h.symm)];exact W.lo j omQ
 ·rw[List.getElem?_set_ne omQ];exact W.hi j omQ
theorem qJ7 {i:Nat} {draw:Int} (hn:29≤n) (K:Uh m) (hi:i<m.t.length) (hb:m.t.length≤1000) (hp:m.picks≤900000) (hd:0≤draw∧draw<256) (H:HS g h (MacC b m::R)) :
  t_w n 11 [.ptr b 0,.int .i64 (i:Int),.int .u8 draw] h λr h'=>r=.int .i64 0∧HS g h' (MacC b (yn m i draw)::R):=by
 refine t_e3 (S:=S11) rfl omQ λk hk=>?_;unfold S11;try simp only[iZ]
 obtain⟨p,tv,ps,hl,H⟩:=MacC.E H;have ht:m.t[i]? =some m.t[i]:=iW hi;have h1:ps[i]? =some (ps[i]'omQ):=iW omQ;obtain⟨O,W,hpa⟩:=K.t i _ ht;have hpk:=K.picks;have hct:=K.cnt;have MR:=K.r;have KT:=K.t;unfold yn;rw[ht];dsimp only;generalize(ps[i]'omQ)=a at*;generalize hte:m.t[i]=t at*;refine jK omQ ?_;refine qV ?_
 try dsimp only
 refine qc (qG (qQ (qX H (b:=b) .here (x:=tv) rfl ?_)));refine qi H (sz:=1) (n:=m.t.length) (v:=tv) e_1 ?_;refine zK omQ ?_
 try dsimp only
 refine qC (qJ ?_);refine qG (qQ (qX H (b:=b) .here (x:=.int .i64 m.picks) rfl ?_));refine qb omQ ?_;refine qG (qQ ?_);refine qg H (b:=b) .here ⟨rfl,rfl⟩ (by simp[Ji]) λh2 H2=>?_;refine qG (qQ (qX H2 (b:=b) .here (x:=tv) rfl ?_));refine jI (H2.sl (v:=tv) (xs:=Jq ps) e_1) (x:=.ptr a 0) (Nf h1) ?_;have H3:=Ms h1 ht (H2.sel (P:=.all (gi ps m.t)) e_3);refine qW (qqc omQ O H3) ?_;rintro _ h4 ⟨rfl,H4⟩;refine qy rfl (qy rfl ?_);clear H H2 H3;refine qG (qQ ?_);refine qd H4 (b:=b) e_2 rfl (by simp[Ji,yX]) rfl λh5 H5=>?_;have H5:HS g h5 (qk b (Ji { m with picks:=m.picks+1,last:=(yH t).getD (op0 0 0 0) } p tv)::ThdC a t:: .all ((gi ps m.t).eraseIdx i)::qA 78 1 m.t.length tv (Jq ps)::MemC p m.s m.m::R):=H5;refine qG (qQ ?_);refine qg H5 (b:=b) .here ⟨rfl,rfl⟩ (by simp[Ji]) λh6 H6=>?_;refine qG (qQ (qX H6 (b:=b) .here (x:=.bool (yH t).isSome) rfl ?_));clear H4 H5;cases hnx:yH t with
 |none=>rw[hnx]at H6;refine jk (qZ ?_);have H7:HS g h6 (qk b (Ji { m with picks:=m.picks+1,last:=op0 0 0 0,did:=false } p tv)::ThdC a t:: .all ((gi ps m.t).eraseIdx i)::qA 78 1 m.t.length tv (Jq ps)::MemC p m.s m.m::R):=H6;refine qW (qGM omQ O (H7.sel (P:=ThdC a t) e_1)) λ_ h8 H8=>qq ⟨rfl,?_⟩;have H9:=NI h1 hi (H8.sub (.cons .here (.cons e_1 .refl)));refine MacC.I (p:=p) (tv:=tv) (ps:=ps) (by show ps.length=(m.t.set i _).length;rw[List.length_set];exact hl) ?_;unfold Vv;rw[show({ m with picks:=m.picks+1,last:=op0 0 0 0,did:=false,t:=m.t.set i (zk t) }:QY).t.length=m.t.length from List.length_set];exact H9.sub (.cons e_1 (.cons e_1 (.cons e_1 (.cons .here .refl))))
 |some o=>
  rw[hnx]at H6;refine jW (qJ ?_);have ho:=Xk O W hnx;have rr:=Y6 MR ho;have H7:HS g h6 (qk b (Ji { m with picks:=m.picks+1,last:=o,did:=true } p tv)::ThdC a t:: .all ((gi ps m.t).eraseIdx i)::qA 78 1 m.t.length tv (Jq ps)::MemC p m.s m.m::R):=H6;clear H6;refine qV ?_
  try dsimp only
  refine qG (qQ (qX H7 (b:=b) .here (x:=.ptr p 0) rfl ?_));refine qG (qQ (qF H7 (b:=b) (off:=11) .here rfl (by simp[Ji]) (l:=yX o) rfl ?_));refine qW (qjN (o:=o) omQ ⟨hct.1,by omega⟩ (H7.sel (P:=MemC p m.s m.m) e_4)) ?_;rintro _ h8 ⟨rfl,H8⟩;refine qG (qQ (qX H8 (b:=b) e_1 (x:=.int .i64 (m.picks+1)) rfl ?_));refine qW (qjF (an:=(jg m.m o).1) (draw:=draw) (pick:=m.picks+1) omQ O rr.1 hd omQ (H8.sel (P:=ThdC a t) e_2)) λ_ h9 H9=>?_;refine qU H7 .here rfl H8 e_1 rfl (HS.lt H7 .here) ?_
  try dsimp only
  clear H7 H8;have HA:=NI h1 hi (H9.sub (.cons .here (.cons e_2 .refl)));have O':=GT O rr.1 hd.1 (pick:=m.picks+1) (draw:=draw);have hOall:∀k v,(m.t.set i (z8 t (jg m.m o).1 draw (m.picks+1)))[k]? =some v→xF v:=λk v hv=>by
   by_cases e:k=i
   ·subst e;rw[List.getElem?_set_self hi]at hv;cases hv;exact O'
   ·rw[List.getElem?_set_ne (λh=>e h.symm)]at hv;exact(KT k v hv).1
  generalize hts:m.t.set i (z8 t (jg m.m o).1 draw (m.picks+1))=ts at*;have htl:ts.length=m.t.length:=by rw[← hts,List.length_set]
  have HB:HS g h9 (qk b (Ji { m with picks:=m.picks+1,last:=o,did:=true } p tv)::qA 78 1 ts.length tv (Jq ps)::MemC p m.s (jg m.m o).2:: .all (gi ps ts)::R):=by rw[htl];exact HA.sub (.cons e_2 (.cons e_2 (.cons e_1 (.cons .here .refl))))
  clear H9 HA;generalize jg m.m o=r at*;refine qG (qQ (qh (qX HB (b:=b) .here (x:=.int .i64 o.kind) rfl ?_)));by_cases c5:o.kind=5
  ·rw[iJ c5];refine q8 c5 (qJ ?_);refine qG (qQ (qX HB (b:=b) .here (x:=tv) rfl ?_));refine qi HB (sz:=1) (n:=ts.length) (v:=tv) e_1 ?_
   refine jw (λc s h'=>∃(k:Nat) (us:List jJ),s=(.int .i64 (k:Int),.int .i64 (ts.length:Int),tv,.int .i64 (i:Int),.ptr b 0,())∧k≤ts.length∧c=ts.length-k∧kG ts i o.at_ o.lk.1 k us∧
     HS g h' (qk b (Ji { m with picks:=m.picks+1,last:=o,did:=true } p tv)::qA 78 1 ts.length tv (Jq ps)::MemC p m.s r.2:: .all (gi ps us)::R))
    ?_ (m:=ts.length) (by show _<1000000000;omega) ⟨0,ts,rfl,Nat.zero_le _,rfl,⟨rfl,λj hj=>absurd hj omQ,λj _=>rfl⟩,HB⟩
   clear HB;rintro c ih s h8 hih ⟨k,us,rfl,hk,rfl,WK,H⟩;dsimp only;by_cases hlt:k<ts.length
   ·refine jB omQ (qZ ?_);have hk1:ps[k]? =some (ps[k]'omQ):=iW omQ;refine qV ?_
    try dsimp only
    refine jI (H.sl (v:=tv) (xs:=Jq ps) e_1) (x:=.ptr (ps[k]'omQ) 0) (Nf hk1) ?_;by_cases ck:k=i
    ·subst ck;refine q8 rfl (qJ ?_);refine qb omQ ?_;exact hih (ts.length-(k+1)) _ _ omQ ⟨k+1,us,rfl,by omega,rfl,WK.same,H⟩
    ·refine qu omQ (qZ ?_);have htk:ts[k]? =some ts[k]:=iW hlt;have huk:us[k]? =some ts[k]:=by rw[WK.hi k (Nat.le_refl _)];exact htk
     have hul:=WK.len;refine qG (qQ (qh (qX H (b:=b) .here (x:=.int .i64 o.at_) rfl ?_)));refine qG (qQ (qh (qh (qX H (b:=b) .here (x:=.int .u64 o.lk.1) rfl ?_))));have H2:=Ms hk1 huk (H.sel (P:=.all (gi ps us)) e_3);refine qW (qxe omQ (hOall k _ htk) H2) λ_ h3 H3=>?_;have H4:=NI hk1 omQ H3;refine qb omQ ?_;exact hih (ts.length-(k+1)) _ _ omQ ⟨k+1,_,rfl,by omega,rfl,WK.next ck htk,H4.sub (.cons e_1 (.cons e_1 (.cons e_1 (.cons .here .refl))))⟩
   ·obtain rfl:k=ts.length:=by omega
    refine jK omQ (qJ ?_);refine qx (qq ⟨rfl,?_⟩);have e:=WK.done;subst e;have hwl:(yK ts i o.at_ o.lk.1).length=ts.length:=by unfold yK;simp
    refine MacC.I (p:=p) (tv:=tv) (ps:=ps) (by show ps.length=(yK ts i o.at_ o.lk.1).length;omega) ?_;unfold Vv;show HS g h8 (qk b (Ji _ p tv)::qA 78 1 (yK ts i o.at_ o.lk.1).length tv (Jq ps)::MemC p m.s r.2:: .all (gi ps (yK ts i o.at_ o.lk.1))::R);rw[hwl];exact H
  ·rw[iQ c5];refine qu c5 (qZ (qq ⟨rfl,?_⟩));exact MacC.I (p:=p) (tv:=tv) (ps:=ps) (by show ps.length=ts.length;omega) HB
end
end
section
theorem qkt {h:AH} {d:Nat} {v:AV} (H:WT Tryz.prog h (d+3) 82 [v]):∃ks:List qO,Sl (λb=>b<h.nx) h 5 ks.length v (ks.flatMap jX)∧∀x∈ks,0≤x.2.2.2.2∧x.2.2.2.2<18446744073709551616:=by
 obtain⟨q,xs,S,_,H2⟩:=YO (sz:=5) Tryz.underlying82 (by kernel_rfl) omQ H
 obtain⟨ks,g1,g3,rfl⟩:=ZF (α:=qO) (Pr:=λx=>0≤x.2.2.2.2∧x.2.2.2.2<18446744073709551616) jX S.len (λi hi=>by
  have:=H2 i hi;generalize(xs.drop (i*5)).take 5=row at this;unfold WT at this;simp only[Tryz.underlying112]at this;obtain⟨g1,g2⟩:=this;rw[show Tryz.prog.cellsOf 112=5 by kernel_rfl]at g1
  match row,g1 with
  |[x,y,z,u,t],_=>
   have f1:=g2 _ (iK ..);have f2:=g2 _ (iX _ (iK ..));have f3:=g2 _ (iX _ (iX _ (iK ..)));have f4:=g2 _ (iX _ (iX _ (iX _ (iK ..))));have f5:=g2 _ (iX _ (iX _ (iX _ (iX _ (iK ..)))));rw[show Tryz.prog.cellsOf 3=1 by kernel_rfl]at f1 f2 f3 f4;rw[show Tryz.prog.cellsOf 22=1 by kernel_rfl]at f5;unfold WT at f1 f2 f3 f4 f5;simp only[Tryz.underlying3,List.drop_zero,List.take_succ_cons,List.take_zero,List.drop_succ_cons]at f1 f2 f3 f4;simp only[Tryz.underlying22,List.drop_succ_cons,List.drop_zero,List.take_succ_cons,List.take_zero]at f5;obtain⟨a,ha,_⟩:=f1;obtain⟨b,hb,_⟩:=f2;obtain⟨c,hc,_⟩:=f3;obtain⟨d,hd,_⟩:=f4;obtain⟨e,he,c5⟩:=f5;cases ha;cases hb;cases hc;cases hd;cases he
   exact⟨(a,b,c,d,e),⟨c5.1,Int.lt_of_le_of_lt c5.2 od⟩,rfl⟩)
 exact⟨ks,g1▸S,g3⟩
end
section
def JP (k:Nat) (x:qO):qO:=if x.1=12∨x.1=13 then(x.1,x.2.1,x.2.2.1,x.2.2.2.1+k,x.2.2.2.2)else x
theorem Qd {k:Nat} {x:qO}:(JP k x).1=x.1:=by unfold JP;split<;>rfl
theorem qzD (x:qO):JP 0 x=x:=by unfold JP;split<;>simp
structure Emb (l L:List qO) (k:Nat) (st0:List Int):Prop where
  le:k+l.length≤L.length
  ins:∀i:Nat,i<l.length→qL L ((k+i:Nat):Int)=JP k (qL l i)
  st:qD L k=st0
theorem qQH {st0 s:List Int} {k i:Nat} {op:Int} (h:0<jb op→s≠[]):q9 (st0++s.map (· +(k:Int))) ((k+i:Nat):Int) op=st0++(q9 s i op).map (· +(k:Int)):=by
 have hd:0<jb op→(st0++s.map (· +(k:Int))).dropLast=st0++s.dropLast.map (· +(k:Int)):=by intro h0;rw[List.dropLast_append_of_ne_nil (by simpa using h h0),List.map_dropLast]
 have e:[((k+i:Nat):Int)]=[(i:Int)].map (· +(k:Int)):=by simp;omega
 unfold q9;by_cases c1:zi op=true∨op=18
 ·rw[iJ c1,iJ c1];by_cases c2:0<jb op
  ·rw[iJ c2,iJ c2,hd c2,List.map_append,e,List.append_assoc]
  ·rw[iQ c2,iQ c2,List.map_append,e,List.append_assoc]
 ·rw[iQ c1,iQ c1];by_cases c2:0<jb op
  ·rw[iJ c2,iJ c2,hd c2]
  ·rw[iQ c2,iQ c2]
section
variable {l L:List qO} {k:Nat} {st0:List Int}
theorem Emb.stack (E:Emb l L k st0) (hw:∀j,j<l.length→zB l (qD l j) (qL l j)=0):∀i,i≤l.length→qD L (k+i)=st0++(qD l i).map (· +(k:Int)):=by
 intro i
 induction i with
 |zero=>intro _;rw[Nat.add_zero,E.st];simp[qD]
 |succ i ih=>intro hi;rw[← Nat.add_assoc,jG,ih omQ,E.ins i omQ,Qd,qQH λh=>(xK (hw i omQ)).2.1 (.inl h),jG]
theorem qQ8 {s:List Int} (h:s≠[]):qs (st0++s.map (· +(k:Int)))=qs s+k:=by unfold qs;rw[List.getLast?_append,List.getLast?_map,List.getLast?_eq_some_getLast h];rfl
theorem qWt (F:Fit l) {p e:Nat} (hp:p<l.length) (ho:(qL l p).1=14∨(qL l p).1=17∨(qL l p).1=18) (he:e<l.length) (h1:0<jb (qL l e).1) (h2:qs (qD l e)=p):qM (qS l) (p:Int)=e:=by
 obtain⟨e0,_,_,_,_,_,hu⟩:=KD F hp ho;obtain⟨e1,g1,g2,g3,g4,g5⟩:=gj F hp ho;have hin:qs (qD l (p+1))=p:=by rw[jG];unfold q9;rw[iJ (by unfold zi;simp;omega)];unfold qs;rw[List.getLast?_concat];rfl
 have a:=hu e he h1 h2;have b:=hu e1 g3 (by rw[g4];omega) (by rw[g5,hin]);rw[g1,a,b]
theorem qvb (F:Fit l) {u e:Nat} (hu:u<l.length) (ho:(qL l u).1=16) (he:e<l.length) (h1:0<jb (qL l e).1) (h2:qs (qD l e)=qs (qD l u)):qM (qS l) (u:Int)=e:=by obtain⟨e1,g1,g2,g3,g4,g5⟩:=kU F hu ho;obtain⟨q,q1,q2,_,q3⟩:=vG g5;have hq:=(x7 (F.ok u hu)).2.2.1 ho;rw[U6 g5 q1]at hq;obtain⟨e0,_,_,_,_,_,hU⟩:=KD F (p:=q) omQ (.inl hq);have a:=hU e he h1 (h2.trans q1);have b:=hU e1 g2 (by rw[g3];decide) (by rw[g4,q1]);rw[g1,a,b]
theorem Emb.mt (E:Emb l L k st0) (F:Fit l) (FL:Fit L) {i:Nat} (hi:i<l.length) (ho:(qL l i).1=14∨(qL l i).1=17∨(qL l i).1=18∨(qL l i).1=16):qM (qS L) ((k+i:Nat):Int)=qM (qS l) (i:Int)+k:=by
 have hle:=E.le;by_cases h:(qL l i).1=16
 ·obtain⟨e1,g1,g2,g3,g4,g5⟩:=kU F hi h;rw[g1,qvb FL (u:=k+i) (e:=k+e1) omQ (by rw[E.ins i hi,Qd];exact h) omQ (by rw[E.ins e1 g2,Qd,g3];decide) (by rw[E.stack F.ok _ omQ,E.stack F.ok _ omQ,g4])];omega
 ·obtain⟨e1,g1,g2,g3,g4,g5⟩:=gj F hi omQ;have hin:qs (qD l (i+1))=i:=by
   rw[jG];unfold q9;rw[iJ (by unfold zi;simp;omega)];unfold qs;rw[List.getLast?_concat];rfl
  have hne:qD l e1≠[]:=by intro h0;rw[← g5,h0,YX]at hin;omega
  rw[g1,qWt FL (p:=k+i) (e:=k+e1) omQ (by rw[E.ins i hi,Qd];omega) omQ (by rw[E.ins e1 g3,Qd,g4];omega) (by rw[E.stack F.ok _ omQ,qQ8 hne,g5,hin];omega)];omega
end
def X6 (k:Nat) (p:PtM):PtM:={ p with pc:=p.pc+k }
structure Sim (k:Nat) (o0:List PtM) (s S:IM):Prop where
  regs:S.regs=s.regs
  out:S.out=s.out
  pc:S.pc=s.pc+k
  opn:S.opn=s.opn.map (X6 k)++o0
structure SimS (k:Nat) (o0:List PtM) (d D:SM):Prop where
  e:D.e=d.e
  blk:D.blk=d.blk
  v:D.v=d.v
  nx:D.nx=d.nx+k
  regs:D.s.regs=d.s.regs
  out:D.s.out=d.s.out
  opn:D.s.opn=d.s.opn.map (X6 k)++o0
section
variable {l L:List qO} {k:Nat} {st0:List Int} {o0:List PtM} {s S:IM} {V:VM}
theorem qVF {x:qO} (h:Sim k o0 s S):(jM S V x).1=(jM s V x).1∧(jM S V x).2.2=(jM s V x).2.2∧(jM S V x).2.1.regs=(jM s V x).2.1.regs∧(jM S V x).2.1.out=(jM s V x).2.1.out∧(jM S V x).2.1.opn=(jM s V x).2.1.opn.map (X6 k)++o0:=by
 unfold jM setR;rw[h.regs];by_cases c1:x.1=8
 ·rw[iJ c1,iJ c1]
  split
  ·split
   ·exact⟨rfl,rfl,rfl,h.out,h.opn⟩
   ·exact⟨rfl,rfl,h.regs,h.out,h.opn⟩
  ·exact⟨rfl,rfl,h.regs,h.out,h.opn⟩
 rw[iQ c1,iQ c1];by_cases c2:x.1=9
 ·rw[iJ c2,iJ c2]
  split
  ·exact⟨rfl,rfl,h.regs,h.out,h.opn⟩
  ·exact⟨rfl,rfl,h.regs,h.out,h.opn⟩
 rw[iQ c2,iQ c2];by_cases c3:x.1=10
 ·rw[iJ c3,iJ c3]
  split
  ·exact⟨rfl,rfl,h.regs,h.out,h.opn⟩
  ·split
   ·exact⟨rfl,rfl,rfl,h.out,h.opn⟩
   ·exact⟨rfl,rfl,h.regs,h.out,h.opn⟩
 rw[iQ c3,iQ c3]
 split
 ·exact⟨rfl,rfl,h.regs,h.out,h.opn⟩
 ·exact⟨rfl,rfl,h.regs,h.out,h.opn⟩
theorem qKU {op:Int} (h:Sim k o0 s S):SimS k o0 (zW op s.pc (s.pc+1) s V) (zW op S.pc (S.pc+1) S V):=by
 unfold zW;have hp:=h.pc
 split
 ·refine⟨rfl,rfl,rfl,by show S.pc+1=s.pc+1+k;omega,h.regs,h.out,?_⟩;show _::S.opn=_::(s.opn.map (X6 k))++o0;rw[h.opn,List.cons_append];unfold X6;rw[h.regs,h.out,hp]
 ·exact⟨rfl,rfl,rfl,by show S.pc+1=s.pc+1+k;omega,h.regs,h.out,h.opn⟩
theorem qgT {mt MT:List Int} {x:qO} (h:Sim k o0 s S) (hx:1≤x.1∧x.1≤22) (h20:x.1≠20) (hm:x.1=16∨x.1=18→qM MT S.pc=qM mt s.pc+k) (ho:x.1=15∨x.1=16∨x.1=18∨x.1=19→s.opn≠[]) :
  SimS k o0 (doM mt s V x) (doM MT S V (JP k x)):=by
 have hp:=h.pc;have hr:=h.regs;have hnx:S.pc+1=s.pc+1+k:=by omega
 by_cases cj:x.1=12∨x.1=13
 ·have ex:JP k x=(x.1,x.2.1,x.2.2.1,x.2.2.2.1+k,x.2.2.2.2):=iJ cj;rw[ex];unfold doM;rcases cj with cj |cj
  ·simp only[cj];exact⟨rfl,rfl,rfl,rfl,h.regs,h.out,h.opn⟩
  ·simp only[cj];refine⟨rfl,rfl,rfl,?_,h.regs,h.out,h.opn⟩;show(if qM S.regs x.2.1=0 then x.2.2.2.1+(k:Int)else S.pc+1)=(if qM s.regs x.2.1=0 then x.2.2.2.1 else s.pc+1)+k;rw[hr]
   split
   ·rfl
   ·exact hnx
 have ex:JP k x=x:=iQ cj;rw[ex];unfold doM;by_cases c1:x.1=1
 ·rw[iJ c1,iJ c1];unfold setR;rw[hr];exact⟨rfl,rfl,rfl,hnx,rfl,h.out,h.opn⟩
 rw[iQ c1,iQ c1];by_cases c2:x.1=2
 ·rw[iJ c2,iJ c2];unfold setR;rw[hr];exact⟨rfl,rfl,rfl,hnx,rfl,h.out,h.opn⟩
 rw[iQ c2,iQ c2];by_cases c3:x.1=3
 ·rw[iJ c3,iJ c3];unfold setR;rw[hr];exact⟨rfl,rfl,rfl,hnx,rfl,h.out,h.opn⟩
 rw[iQ c3,iQ c3];by_cases c4:x.1=4
 ·rw[iJ c4,iJ c4];unfold setR;rw[hr];exact⟨rfl,rfl,rfl,hnx,rfl,h.out,h.opn⟩
 rw[iQ c4,iQ c4];by_cases c5:x.1=5
 ·rw[iJ c5,iJ c5];unfold setR;rw[hr];exact⟨rfl,rfl,rfl,hnx,rfl,h.out,h.opn⟩
 rw[iQ c5,iQ c5];by_cases c6:x.1=6
 ·rw[iJ c6,iJ c6];unfold setR;rw[hr];exact⟨rfl,rfl,rfl,hnx,rfl,h.out,h.opn⟩
 rw[iQ c6,iQ c6];by_cases c7:x.1=7
 ·rw[iJ c7,iJ c7];unfold setR;rw[hr];exact⟨rfl,rfl,rfl,hnx,rfl,h.out,h.opn⟩
 rw[iQ c7,iQ c7];rw[iQ (λh=>cj (.inl h)),iQ (λh=>cj (.inl h)),iQ (λh=>cj (.inr h)),iQ (λh=>cj (.inr h))];by_cases c21:x.1=21
 ·rw[iJ c21,iJ c21,h.out,hr]
  split
  ·exact⟨rfl,rfl,rfl,hnx,h.regs,h.out,h.opn⟩
  ·exact⟨rfl,rfl,rfl,hnx,rfl,rfl,h.opn⟩
 rw[iQ c21,iQ c21];by_cases c22:x.1=22
 ·rw[iJ c22,iJ c22];exact⟨rfl,rfl,rfl,hnx,h.regs,h.out,h.opn⟩
 rw[iQ c22,iQ c22];by_cases c8:x.1=8∨x.1=9∨x.1=10∨x.1=11
 ·rw[iJ c8,iJ c8];obtain⟨a,b,c,d,e⟩:=qVF (V:=V) (x:=x) h;exact⟨a,rfl,b,hnx,c,d,e⟩
 rw[iQ c8,iQ c8];unfold gn;by_cases t1:x.1=14∨x.1=17
 ·rw[iJ t1,iJ t1];exact qKU h
 rw[iQ t1,iQ t1];have tl:x.1=15∨x.1=16∨x.1=18∨x.1=19→S.opn.tail=s.opn.tail.map (X6 k)++o0:=by
  intro hh;have:=ho hh;rw[h.opn];cases hs:s.opn with
  |nil=>exact absurd hs this
  |cons p o=>rfl
 by_cases t2:x.1=15∨x.1=19
 ·rw[iJ t2,iJ t2];exact⟨rfl,rfl,rfl,hnx,h.regs,h.out,tl omQ⟩
 rw[iQ t2,iQ t2];by_cases t3:x.1=18
 ·rw[iJ t3,iJ t3];have:=hm (.inr t3);exact⟨rfl,rfl,rfl,by show qM MT S.pc+1=qM mt s.pc+1+k;omega,h.regs,h.out,tl omQ⟩
 rw[iQ t3,iQ t3];by_cases t4:x.1=16
 ·rw[iJ t4,iJ t4];have:=hm (.inl t4);have hh:UA S.opn=X6 k (UA s.opn):=by
   have:=ho (.inr (.inl t4));rw[h.opn];cases hs:s.opn with
   |nil=>exact absurd hs this
   |cons p o=>rfl
  refine⟨rfl,rfl,rfl,by show qM MT S.pc+1=qM mt s.pc+1+k;omega,?_,?_,tl omQ⟩
  ·show(UA S.opn).regs=(UA s.opn).regs;rw[hh];rfl
  ·show S.out.take (UA S.opn).told=s.out.take (UA s.opn).told;rw[hh,h.out];rfl
 omega
end
end
section
theorem do_nx {l:List qO} (F:Fit l) {s:IM} {V:VM} {i:Nat} (hi:s.pc=i) (hlt:i<l.length) (h20:(qL l i).1≠20) (h23:(qL l i).1≠23):∃j:Nat,(doM (qS l) s V (qL l i)).nx=j∧j≤l.length:=by
 have hm:=qZi (x7 (F.ok i hlt)).1 h23;have hj:=F.jump i hlt;have h1:∃j:Nat,s.pc+1=j∧j≤l.length:=⟨i+1,by omega,by omega⟩;have hmt:(qL l i).1=16∨(qL l i).1=18→∃j:Nat,qM (qS l) s.pc+1=j∧j≤l.length:=by
  intro h;rw[hi];rcases h with h |h
  ·obtain⟨e,e1,e2,_⟩:=kU F hlt h;exact⟨e+1,by omega,by omega⟩
  ·obtain⟨e,e1,_,e2,_⟩:=gj F hlt (.inr (.inr h));exact⟨e+1,by omega,by omega⟩
 have hc:(qL l i).1=12∨(qL l i).1=13→∃j:Nat,(qL l i).2.2.2.1=j∧j≤l.length:=by
  intro h;refine⟨(qL l i).2.2.2.1.toNat,by omega,?_⟩;by_cases hc:(l.length:Int)<(qL l i).2.2.2.1
  ·exact absurd ⟨h,.inl hc⟩ hj
  ·omega
 generalize qL l i=x at*;unfold doM;by_cases c1:x.1=1
 ·rw[iJ c1];exact h1
 rw[iQ c1];by_cases c2:x.1=2
 ·rw[iJ c2];exact h1
 rw[iQ c2];by_cases c3:x.1=3
 ·rw[iJ c3];exact h1
 rw[iQ c3];by_cases c4:x.1=4
 ·rw[iJ c4];exact h1
 rw[iQ c4];by_cases c5:x.1=5
 ·rw[iJ c5];exact h1
 rw[iQ c5];by_cases c6:x.1=6
 ·rw[iJ c6];exact h1
 rw[iQ c6];by_cases c7:x.1=7
 ·rw[iJ c7];exact h1
 rw[iQ c7];by_cases c12:x.1=12
 ·rw[iJ c12];exact hc (.inl c12)
 rw[iQ c12];by_cases c13:x.1=13
 ·rw[iJ c13];show∃j:Nat,(if qM s.regs x.2.1=0 then x.2.2.2.1 else s.pc+1)=j∧j≤l.length
  split
  ·exact hc (.inr c13)
  ·exact h1
 rw[iQ c13];by_cases c21:x.1=21
 ·rw[iJ c21];split<;>exact h1
 rw[iQ c21];by_cases c22:x.1=22
 ·rw[iJ c22];exact h1
 rw[iQ c22];by_cases c8:x.1=8∨x.1=9∨x.1=10∨x.1=11
 ·rw[iJ c8];exact h1
 rw[iQ c8];unfold gn;by_cases t1:x.1=14∨x.1=17
 ·rw[iJ t1];unfold zW;split<;>exact h1
 rw[iQ t1];by_cases t2:x.1=15∨x.1=19
 ·rw[iJ t2];exact h1
 rw[iQ t2];by_cases t3:x.1=18
 ·rw[iJ t3];exact hmt (.inr t3)
 rw[iQ t3];by_cases t4:x.1=16
 ·rw[iJ t4];exact hmt (.inl t4)
 clear h1 hmt hc;omega
section
variable {l L:List qO} {k:Nat} {st0:List Int} {o0:List PtM}
theorem qxt (E:Emb l L k st0) (F:Fit l) {s S:IM} {V:VM} (h:Sim k o0 s S) (G:GI L S V) {i:Nat} (hi:s.pc=i) (hil:i≤l.length) (h0:o0.length=st0.length):s.opn.length=(qD l i).length:=by have e:=congrArg List.length G.stk;rw[h.pc,hi,show((i:Int)+(k:Int)).toNat=k+i by omega,E.stack F.ok i hil,h.opn]at e;simp at e;omega
theorem qqt (E:Emb l L k st0) (F:Fit l) (FL:Fit L) (QL:Quiet L) (Cl:Calm l) (h0:o0.length=st0.length) {s S:IM} {V:VM} (h:Sim k o0 s S) (G:GI L S V) {i:Nat} (hi:s.pc=i) (hlt:i<l.length) :
  SimS k o0 (doM (qS l) s V (qL l i)) (doM (qS L) S V (qL L ((k+i:Nat):Int)))∧(doM (qS l) s V (qL l i)).blk=false∧∃j:Nat,(doM (qS l) s V (qL l i)).nx=j∧j≤l.length:=by
 have hle:=E.le;have hq:(qL l i).1≠23:=by
  have:=(QL.at (i:=k+i) omQ).1
  rwa [E.ins i hlt,Qd]at this
 have h20:(qL l i).1≠20:=by rw[xI hlt];exact Cl _ (List.getElem_mem hlt)
 have hw:=F.ok i hlt;have hb:=qZi (x7 hw).1 hq;have hlen:=qxt E F h G hi omQ h0;have hso:S.pc=((k+i:Nat):Int):=by have:=h.pc;omega
 rw[E.ins i hlt];refine⟨qgT h omQ h20 (λho=>?_) (λho hn=>?_),Zm omQ h20 hq,do_nx F hi hlt h20 hq⟩
 ·rw[hso,hi,E.mt F FL hlt omQ]
 ·rw[hn]at hlen
  have:qD l i≠[]:=(xK hw).2.1 (by
   rcases ho with ho |ho |ho |ho
   ·exact .inl (by rw[ho];decide)
   ·exact .inr ho
   ·exact .inl (by rw[ho];decide)
   ·exact .inl (by rw[ho];decide))
  exact this (iA hlen.symm)
theorem qk8 (E:Emb l L k st0) (F:Fit l) (FL:Fit L) (QL:Quiet L) (Cl:Calm l) (h0:o0.length=st0.length):∀(n:Nat) {s S:IM} {V:VM},Sim k o0 s S→GI L S V→(∃i:Nat,s.pc=i∧i≤l.length)→frS V.lv+n<9000→
  ((jf l (qS l) n s V).kind=2→∃S',jf L (qS L) n S V=jf L (qS L) (jf l (qS l) n s V).left S' (jf l (qS l) n s V).v∧Sim k o0 (jf l (qS l) n s V).s S'∧GI L S' (jf l (qS l) n s V).v∧
   frS (jf l (qS l) n s V).v.lv+(jf l (qS l) n s V).left<9000∧(jf l (qS l) n s V).s.pc=l.length∧(jf l (qS l) n s V).left≤n)∧
  ((jf l (qS l) n s V).kind≠2→(jf L (qS L) n S V).kind=(jf l (qS l) n s V).kind∧(jf L (qS L) n S V).err=(jf l (qS l) n s V).err):=by
 have hle:=E.le;intro n
 induction n with
 |zero=>
  rintro s S V h G ⟨i,hi,hil⟩ hf;have hp:=h.pc;rw[kH];by_cases c:s.pc=l.length
  ·rw[iJ c];exact⟨λ_=>⟨S,rfl,h,G,hf,c,Nat.le_refl _⟩,λhk=>absurd rfl hk⟩
  ·rw[iQ c,kH,iQ omQ];exact⟨λhk=>(by cases hk),λ_=>⟨rfl,rfl⟩⟩
 |succ n ih=>
  rintro s S V h G ⟨i,hi,hil⟩ hf;have hp:=h.pc;rw[QW];by_cases c:s.pc=l.length
  ·rw[iJ c];exact⟨λ_=>⟨S,rfl,h,G,hf,c,Nat.le_refl _⟩,λhk=>absurd rfl hk⟩
  ·have hlt:i<l.length:=by omega
   have hSp:S.pc=((k+i:Nat):Int):=by omega
   obtain⟨D,hb,j,hj,hjl⟩:=qqt E F FL QL Cl h0 h G hi hlt;have St:=GV FL G hSp omQ omQ (QL.at (i:=k+i) omQ).2 (QL.at (i:=k+i) omQ).1;have e1:=QW (l:=L) (mt:=qS L) (n:=n) (s:=S) (V:=V);rw[iQ (show¬S.pc=L.length by omega),hSp]at e1;rw[iQ c,e1,hi];clear e1;generalize doM (qS l) s V (qL l i)=d at*;generalize doM (qS L) S V (qL L ((k+i:Nat):Int))=D' at*;have hB:D'.blk=false:=D.blk.trans hb;by_cases c0:d.e=0
   ·rw[iJ c0,iQ (by rw[hb];simp),iJ (D.e.trans c0),iQ (by rw[hB];simp)];have hfr:=St.fr;have G2:=St.next (D.e.trans c0) hB;have S2:Sim k o0 { d.s with pc:=d.nx } { D'.s with pc:=D'.nx }:=⟨D.regs,D.out,D.nx,D.opn⟩;rw[D.v]at hfr G2 ⊢;obtain⟨a,b⟩:=ih S2 G2 ⟨j,hj,hjl⟩ omQ;refine⟨λhk=>?_,b⟩;obtain⟨S',x1,x2,x3,x4,x5,x6⟩:=a hk;exact⟨S',x1,x2,x3,x4,x5,by omega⟩
   ·have c0':¬D'.e=0:=by rw[D.e];exact c0
    rw[iQ c0,iQ c0'];by_cases c11:d.e=11
    ·rw[iJ c11,iJ (D.e.trans c11)];exact⟨λhk=>(by cases hk),λ_=>⟨rfl,rfl⟩⟩
    ·have c11':¬D'.e=11:=by rw[D.e];exact c11
     rw[iQ c11,iQ c11'];exact⟨λhk=>(by cases hk),λ_=>⟨rfl,D.e⟩⟩
end
end
section
variable {g h:AH} {L R:List SP}
end
section
theorem Bld.weak {l:List qO} {st:List Int} (B:Bld true l st):Bld false l st :=
 ⟨λx hx=>⟨(B.ok x hx).may,(B.ok x hx).no,(B.ok x hx).n,λh=>(by cases h)⟩,B.wr,B.top,λj hj ho=>(by
  obtain⟨c,c1,c2,c3,_⟩:=B.jp j hj ho
  exact⟨c,c1,c2,c3,λh=>by cases h⟩),B.five⟩
theorem qka (p t:List qO):Emb p (p++t) 0 []:=⟨by simp,λi hi=>by rw[qzD,Nat.zero_add,XQ hi],rfl⟩
section
variable {p:List qO} {op:Int}
theorem qYr (B:Bld true p []) (h:op=20∨op=22):Bld false (p++[one op]) [] :=
 B.weak.flat ⟨by rcases h with rfl |rfl<;>decide,by rcases h with rfl |rfl<;>decide,by rcases h with rfl |rfl<;>decide,λh=>(by cases h)⟩ (by rcases h with rfl |rfl<;>(unfold Flat;decide)) (by rcases h with rfl |rfl<;>decide)
theorem Gg {calm:Bool} {l:List qO} (B:Bld calm l []):Quiet l:=λx hx=>⟨(B.ok x hx).no,(B.ok x hx).n⟩
theorem qWN {l:List qO} (B:Bld true l []):Calm l:=λx hx=>((B.ok x hx).cal rfl).1
theorem fails (B:Bld true p []) (h0:0<p.length) (h39:p.length≤39) (h:op=20∨op=22) {zs:List Int} (hz:OkN zs) :
  (Yr (p++[one op]) 400 zs 96).kind≠2∧
  ((Yr p 400 zs 96).kind≠2→(Yr p 400 zs 96).kind=4∧(Yr (p++[one op]) 400 zs 96).kind=4∧(Yr (p++[one op]) 400 zs 96).err=(Yr p 400 zs 96).err)∧
  ((Yr p 400 zs 96).kind=2→op=20∧(Yr (p++[one op]) 400 zs 96).kind=3∧(Yr (p++[one op]) 400 zs 96).err=0∨op=22∧(Yr (p++[one op]) 400 zs 96).kind=4∧(Yr (p++[one op]) 400 zs 96).err=13∨
   (Yr (p++[one op]) 400 zs 96).kind=4∧(Yr (p++[one op]) 400 zs 96).err=6):=by
 have BL:=qYr B h;have F:Fit p:=GP (by rw[B.fit h0 omQ]);have FL:Fit (p++[one op]):=GP (by rw[BL.fit osQ (by simp;omega)]);have Q:=Gg B;have QL:=Gg BL;have C:=qWN B;have G:=qZd (l:=p) (m:=96) hz;have GL:=qZd (l:=p++[one op]) (m:=96) hz;have f0:=qGB zs 96;have n3:=qj1 F Q C 400 G omQ;have n1:=qKi F Q (n:=400) (zs:=zs) (m:=96) G rfl rfl omQ;have rk:=(qQo F Q 400 G omQ).2.2.2.2;obtain⟨a,b⟩:=qk8 (qka p [one op]) F FL QL C (o0:=[]) rfl 400 (s:=KU) (S:=KU) (V:=w6 zs 96) ⟨rfl,rfl,rfl,rfl⟩ GL ⟨0,rfl,Nat.zero_le _⟩ omQ;unfold Yr;generalize jf p (qS p) 400 KU (w6 zs 96)=A at*;by_cases k2:A.kind=2
 ·obtain⟨S',x1,x2,x3,x4,x5,x6⟩:=a k2;have hp:S'.pc=((p.length:Nat):Int):=by have:=x2.pc;omega
  have hne:¬S'.pc=(p++[one op]).length:=by rw[hp];simp;omega
  have hins:qL (p++[one op]) S'.pc=one op:=by have e:=Q3 (l:=p) (t:=[one op]) (k:=0) (x:=one op) rfl;rw[hp];exact e
  have ho:S'.opn=[]:=by have e:=x3.stk;rw[hp,Int.toNat_natCast,wX _ (Nat.le_refl _),F.nil]at e;simpa using e
  have key:op=20∧(jf (p++[one op]) (qS (p++[one op])) A.left S' A.v).kind=3∧(jf (p++[one op]) (qS (p++[one op])) A.left S' A.v).err=0∨op=22∧(jf (p++[one op]) (qS (p++[one op])) A.left S' A.v).kind=4∧(jf (p++[one op]) (qS (p++[one op])) A.left S' A.v).err=13∨
    (jf (p++[one op]) (qS (p++[one op])) A.left S' A.v).kind=4∧(jf (p++[one op]) (qS (p++[one op])) A.left S' A.v).err=6:=by
   cases A.left with
   |zero=>rw[kH,iQ hne];exact .inr (.inr ⟨rfl,rfl⟩)
   |succ m=>
    rw[QW,iQ hne,hins];rcases h with rfl |rfl
    ·have e:doM (qS (p++[one 20])) S' A.v (one 20)=⟨0,S'.pc,true,{ S' with opn:=[] },A.v⟩:=by
      show ye _ S'.opn S' A.v=_;rw[ho];rfl
     rw[e];exact .inl ⟨rfl,rfl,rfl⟩
    ·exact .inr (.inl ⟨rfl,rfl,rfl⟩)
  rw[x1];exact⟨by omega,λh=>absurd k2 h,λ_=>key⟩
 ·obtain⟨y1,y2⟩:=b k2;have k4:A.kind=4:=by omega
  exact⟨by rw[y1];exact k2,λ_=>⟨k4,by rw[y1];exact k4,y2⟩,λh=>absurd h k2⟩
end
end
section
variable {g h:AH} {L R:List SP}
def TsC (jss:List (List (List qO))) (v:AV):SP:=.ex λvs:List AV=>.all [.pur (vs.length=jss.length),qA 55 1 jss.length v vs,.all (List.zipWith (λv js=>JobsC js v) vs jss)]
theorem TsC.E {jss:List (List (List qO))} {v:AV} (H:HS g h (TsC jss v::R)):∃vs:List AV,vs.length=jss.length∧HS g h (qA 55 1 jss.length v vs:: .all (List.zipWith (λv js=>JobsC js v) vs jss)::R):=by obtain⟨vs,H⟩:=H.exE;exact⟨vs,H.allE.purE⟩
theorem TsC.I {jss:List (List (List qO))} {v:AV} {vs:List AV} (hl:vs.length=jss.length) (H:HS g h (qA 55 1 jss.length v vs:: .all (List.zipWith (λv js=>JobsC js v) vs jss)::R)):HS g h (TsC jss v::R) :=
 HS.exI vs (HS.allI (A:=[_,_,_]) (HS.purI hl H))
structure ArgP (h:AH) (x:AV) (kss:List (List qO)) (vs:List AV):Prop where
  len:vs.length=kss.length
  s:Sl (λb=>b<h.nx) h 1 vs.length x vs
  i:∀(i:Nat) (y:AV) (ks:List qO),vs[i]? =some y→kss[i]? =some ks→Sl (λb=>b<h.nx) h 5 ks.length y (ks.flatMap jX)
  n:∀ks∈kss,∀x∈ks,0≤x.2.2.2.2∧x.2.2.2.2<18446744073709551616
structure ArgT (h:AH) (x:AV) (T:List (List (List qO)×List AV)) (vs:List AV):Prop where
  len:vs.length=T.length
  s:Sl (λb=>b<h.nx) h 1 vs.length x vs
  i:∀(i:Nat) (y:AV) (p:List (List qO)×List AV),vs[i]? =some y→T[i]? =some p→ArgP h y p.1 p.2
structure qWu (calm:Bool) (most:Int) (l:List qO):Prop where
  b:Bld calm l []
  pos:0<l.length
  le:(l.length:Int)≤most
theorem qWu.chk {calm:Bool} {most:Int} {l:List qO} (J:qWu calm most l) (h:most≤40):(zt l).2=0∧Quiet l:=by have h1:=J.le;exact⟨by rw[J.b.fit J.pos omQ],Gg J.b⟩
theorem Ot {n:Nat} {calm:Bool} {most:Int} {a0:AV} {T:List (List (List qO)×List AV)} {vs:List AV} (hn:6≤n) (hm:1≤most∧most≤40) (A:ArgT g a0 T vs) (H:HS g h R) :
  t_w n 7 [a0,.int .i64 most,.bool calm] h λr h'=>∃jss:List (List (List qO)),jss.length≤3∧(vs=[]→jss=[])∧(∀js∈jss,js.length≤2∧∀l∈js,qWu calm most l)∧HS g h' (TsC jss r::R):=by
 refine t_e3 (S:=S7) rfl omQ λk hk=>?_;unfold S7;try simp only[iZ]
 have q0:HS g h (TsC [] .nils::R):=TsC.I (jss:=[]) (v:=.nils) (vs:=[]) rfl ((HS.allI (A:=[]) H).nils)
 refine jw (λc q h'=>∃(jss:List (List (List qO))) (lv:AV),q=(.int .i64 (jss.length:Int),lv,.bool calm,.int .i64 most,a0,())∧jss.length≤vs.length∧jss.length≤3∧c=3-jss.length∧(∀js∈jss,js.length≤2∧∀l∈js,qWu calm most l)∧
   HS g h' (TsC jss lv::R))
  ?_ (m:=3) od ⟨[],.nils,rfl,Nat.zero_le _,Nat.zero_le _,rfl,λ_ h=>(by cases h),q0⟩
 clear H q0;rintro c ih q h6 hih ⟨jss,lv,rfl,hjl,hj5,rfl,hjk,H⟩;dsimp only;have S0:=A.s;refine xC (S0.old H.old) ?_;refine kF (GW (λz g'=>g'=h6∧∃u:AV,z=(u,.bool (decide ((jss.length:Int)<(vs.length:Int))),.int .i64 (jss.length:Int),lv,.bool calm,.int .i64 most,a0,())∧(jss.length<vs.length→u=.bool (decide (jss.length<3)))) (λj hj=>?_) ?_)
 ·refine NQ (λc1=>?_) (λc1=>?_)
  ·refine kF (hj _ _ ⟨rfl,_,rfl,λ_=>?_⟩)
   congr 1
   exact decide_eq_decide.2 omQ
  ·exact hj _ _ ⟨rfl,_,rfl,λh=>absurd h omQ⟩
 rintro _ _ ⟨rfl,u,rfl,hu⟩;dsimp only;have hp:∀{K:AV→Go.Ae.R} {Q:AV→AH→Prop},(∀b:Bool,(b=true↔(jss.length<vs.length∧jss.length<3))→wp (K (.bool b)) Q)→wp (gp (.bool (decide ((jss.length:Int)<(vs.length:Int)))) u (.bool false) K) Q:=λ{K Q} hw=>by
  by_cases c1:jss.length<vs.length
  ·rw[iG (show(jss.length:Int)<(vs.length:Int) by omega),hu c1];exact qE (hw _ ⟨λh=>⟨c1,of_decide_eq_true h⟩,λh=>iG h.2⟩)
  ·rw[iV (show¬(jss.length:Int)<(vs.length:Int) by omega)];exact qC (hw _ ⟨λh=>(by cases h),λh=>absurd h.1 c1⟩)
 refine hp λbb hbb=>?_;clear hp hu;cases bb with
 |false=>refine qJ (qx (qq ⟨jss,hj5,λhv=>?_,hjk,H⟩));subst hv;exact iA (by simpa using hjl)
 |true=>
  obtain⟨c1,c2⟩:=hbb.1 rfl;have hTl:=A.len;have hv1:vs[jss.length]? =some vs[jss.length]:=iW c1;obtain⟨p,hp⟩:∃p,T[jss.length]? =some p:=⟨T[jss.length]'omQ,iW omQ⟩;have P:=A.i _ _ _ hv1 hp;obtain⟨kss,ws⟩:=p;dsimp only at P;refine qZ ?_;have q1:HS g _ (JobsC [] .nils::TsC jss lv::R):=JobsC.I (js:=[]) (v:=.nils) (vs:=[]) rfl ((HS.allI (A:=[]) H).nils);generalize hx:vs[jss.length]=x at*
  refine jw (λc q h'=>∃(js:List (List qO)) (jv:AV),q=(.int .i64 (js.length:Int),jv,.int .i64 (jss.length:Int),lv,.bool calm,.int .i64 most,a0,())∧js.length≤ws.length∧js.length≤2∧c=2-js.length∧(∀l∈js,qWu calm most l)∧
    HS g h' (JobsC js jv::TsC jss lv::R))
   ?_ (m:=2) od ⟨[],.nils,rfl,Nat.zero_le _,Nat.zero_le _,rfl,λ_ h=>(by cases h),q1⟩
  clear q1 H;rintro c ih2 q h6 hih2 ⟨js,jv,rfl,hil,hi2,rfl,hik,H⟩;dsimp only;refine jI (S0.old H.old) (x:=x) hv1 ?_;have S1:=P.s;refine xC (S1.old H.old) ?_;refine kF (GW (λz g'=>g'=h6∧∃u:AV,z=(u,.bool (decide ((js.length:Int)<(ws.length:Int))),.int .i64 (js.length:Int),jv,.int .i64 (jss.length:Int),lv,.bool calm,.int .i64 most,a0,())∧(js.length<ws.length→u=.bool (decide (js.length<2)))) (λj hj=>?_) ?_)
  ·refine NQ (λc1=>?_) (λc1=>?_)
   ·refine kF (hj _ _ ⟨rfl,_,rfl,λ_=>?_⟩)
    congr 1
    exact decide_eq_decide.2 omQ
   ·exact hj _ _ ⟨rfl,_,rfl,λh=>absurd h omQ⟩
  rintro _ _ ⟨rfl,u,rfl,hu⟩;dsimp only;have hp:∀{K:AV→Go.Ae.R} {Q:AV→AH→Prop},(∀b:Bool,(b=true↔(js.length<ws.length∧js.length<2))→wp (K (.bool b)) Q)→wp (gp (.bool (decide ((js.length:Int)<(ws.length:Int)))) u (.bool false) K) Q:=λ{K Q} hw=>by
   by_cases c1:js.length<ws.length
   ·rw[iG (show(js.length:Int)<(ws.length:Int) by omega),hu c1];exact qE (hw _ ⟨λh=>⟨c1,of_decide_eq_true h⟩,λh=>iG h.2⟩)
   ·rw[iV (show¬(js.length:Int)<(ws.length:Int) by omega)];exact qC (hw _ ⟨λh=>(by cases h),λh=>absurd h.1 c1⟩)
  refine hp λbb hbb=>?_;clear hp hu;cases bb with
  |false=>
   refine qJ ?_;obtain⟨us,hul,H8⟩:=JobsC.E H;have oj:=H8.one .here;have H7:=JobsC.I hul H8;refine qe (n:=1) (l:=[jv]) (sz:=1) H7 rfl rfl (by simp only[vY,yB,oj.1];rfl) (by simp[qo,oj.2]) λv2 h8 H9=>?_;obtain⟨zs,hzl,HA⟩:=TsC.E (H9.sel (P:=TsC jss lv) e_2);refine jR HA (HA.sl e_2) omQ omQ (by simp[qo,oj.2]) λv3 h9 HB=>?_;refine qb omQ ?_;have ez:List.zipWith (λv js=>JobsC js v) (zs++[jv]) (jss++[js])=List.zipWith (λv js=>JobsC js v) zs jss++[JobsC js jv]:=by rw[List.zipWith_append hzl];rfl
   have HC:=Y5 (A:=List.zipWith (λv js=>JobsC js v) zs jss) (B:=[JobsC js jv]) (HB.sub (.cons e_1 (.cons e_2 .refl)));have HD:=TsC.I (v:=v3) (jss:=jss++[js]) (vs:=zs++[jv]) (by rw[List.length_append,List.length_append,hzl];rfl) (by rw[ez,List.length_append];exact HC.sub (.cons e_1 (.cons .here .refl)));have hl1:(jss++[js]).length=jss.length+1:=by simp
   refine hih (3-(jss.length+1)) _ _ omQ ⟨jss++[js],v3,?_,by omega,by omega,by rw[hl1],λy hy=>?_,HD.sub (.cons .here (.drop .refl))⟩
   ·rw[hl1];rfl
   ·rcases List.mem_append.1 hy with hy |hy
    ·exact hjk y hy
    ·rcases List.mem_cons.1 hy with rfl |hy
     ·exact⟨hi2,hik⟩
     ·cases hy
  |true=>
   obtain⟨d1,d2⟩:=hbb.1 rfl;have hwl:=P.len;have hw1:ws[js.length]? =some ws[js.length]:=iW d1;have hk1:kss[js.length]? =some (kss[js.length]'omQ):=iW omQ;refine qZ (jI (S0.old H.old) (x:=x) hv1 ?_);refine jI (S1.old H.old) (x:=ws[js.length]) hw1 ?_;refine qW (qYL (ks:=kss[js.length]'omQ) (calm:=calm) (most:=most) omQ (P.n _ (List.getElem_mem _)) hm H (Rd.arg (P.i _ _ _ hw1 hk1))) ?_;rintro _ h7 ⟨pv,l,rfl,B,hl0,hl40,H7⟩;have op:=H7.one (e:=51) (sz:=5) (n:=l.length) .here;refine qe (n:=1) (l:=[pv]) (sz:=1) H7 rfl rfl (by simp only[vY,yB,AV.cells,op.1];rfl) (by simp[qo,op.2]) λv2 h8 H8=>?_;obtain⟨us,hul,H9⟩:=JobsC.E (H8.sel (P:=JobsC js jv) e_2);refine jR H9 (H9.sl e_2) omQ omQ (by simp[qo,op.2]) λv3 h9 HA=>?_;refine qb omQ ?_;have ez:List.zipWith zh (us++[pv]) (js++[l])=List.zipWith zh us js++[zh pv l]:=by rw[List.zipWith_append hul];rfl
   have HB:=Y5 (A:=List.zipWith zh us js) (B:=[zh pv l]) (HA.sub (.cons e_1 (.cons e_2 .refl)));have HC:=JobsC.I (v:=v3) (js:=js++[l]) (vs:=us++[pv]) (by rw[List.length_append,List.length_append,hul];rfl) (by rw[ez,List.length_append];exact HB.sub (.cons e_1 (.cons .here .refl)));have hl1:(js++[l]).length=js.length+1:=by simp
   refine hih2 (2-(js.length+1)) _ _ omQ ⟨js++[l],v3,?_,by omega,by omega,by rw[hl1],λy hy=>?_,HC.sub (.cons .here (.drop .refl))⟩
   ·rw[hl1];rfl
   ·rcases List.mem_append.1 hy with hy |hy
    ·exact hik y hy
    ·rcases List.mem_cons.1 hy with rfl |hy
     ·exact⟨B,hl0,hl40⟩
     ·cases hy
theorem qZH {α β:Type} {P:α→β→Prop}:∀{xs:List α},(∀x∈xs,∃k,P x k)→∃ks:List β,xs.length=ks.length∧(∀(i:Nat) (x:α) (k:β),xs[i]? =some x→ks[i]? =some k→P x k)∧∀k∈ks,∃x∈xs,P x k:=by
 intro xs
 induction xs with
 |nil=>intro _;exact⟨[],rfl,λi x k h=>(by cases h),λk h=>(by cases h)⟩
 |cons y r ih=>
  intro H;obtain⟨k,hk⟩:=H y (iK ..);obtain⟨ks,h1,h2,h3⟩:=ih λx hx=>H x (iX _ hx);refine⟨k::ks,by simp[h1],λi x z hx hz=>?_,λz hz=>?_⟩
  ·cases i with
   |zero=>cases hx;cases hz;exact hk
   |succ i=>exact h2 i x z hx hz
  ·rcases List.mem_cons.1 hz with rfl |hz
   ·exact⟨y,iK ..,hk⟩
   ·obtain⟨x,hx,hp⟩:=h3 z hz;exact⟨x,iX _ hx,hp⟩
theorem qwb {h:AH} {d:Nat} {v:AV} (H:WT Tryz.prog h (d+4) 80 [v]):∃p:List (List qO)×List AV,ArgP h v p.1 p.2:=by
 obtain⟨q,xs,S1,_,H1⟩:=YO (sz:=1) Tryz.underlying80 (by kernel_rfl) omQ H;have hl:=S1.len;obtain rfl:q=xs.length:=by omega
 obtain⟨kss,h1,h2,h3⟩:=qZH (xs:=xs) (P:=λ(x:AV) (ks:List qO)=>Sl (λb=>b<h.nx) h 5 ks.length x (ks.flatMap jX)∧∀y∈ks,0≤y.2.2.2.2∧y.2.2.2.2<18446744073709551616) λx hx=>by
  obtain⟨i,hi,rfl⟩:=List.mem_iff_getElem.1 hx;have:=H1 i omQ;rw[Nat.mul_one,List.drop_eq_getElem_cons hi]at this;obtain⟨ks,a,b⟩:=qkt (show WT Tryz.prog h (d+3) 82 [xs[i]]from this);exact⟨ks,a,b⟩
 exact⟨(kss,xs),h1,S1,λi x ks hx hk=>(h2 i x ks hx hk).1,λks hk=>(h3 ks hk).elim λ_ z=>z.2.2⟩
theorem qZA {h:AH} {d:Nat} {v:AV} (H:WT Tryz.prog h (d+5) 25 [v]):∃(T:List (List (List qO)×List AV)) (vs:List AV),ArgT h v T vs:=by
 obtain⟨q,xs,S1,_,H1⟩:=YO (sz:=1) Tryz.underlying25 (by kernel_rfl) omQ H;have hl:=S1.len;obtain rfl:q=xs.length:=by omega
 obtain⟨T,h1,h2,_⟩:=qZH (xs:=xs) (P:=λ(x:AV) (p:List (List qO)×List AV)=>ArgP h x p.1 p.2) λx hx=>by
  obtain⟨i,hi,rfl⟩:=List.mem_iff_getElem.1 hx;have:=H1 i omQ;rw[Nat.mul_one,List.drop_eq_getElem_cons hi]at this;exact qwb (show WT Tryz.prog h (d+4) 80 [xs[i]]from this)
 exact⟨T,xs,h1,S1,h2⟩
end
end Go.Proofs.YtepfejdhlgoekaaGreatDoor
