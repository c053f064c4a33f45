/- Lemmas for 'quietus/quietuslaw29.HistoryMade', walks of its functions among them. No condition. -/
import Derived.Test.YtaljafbgbfmcbaaGreatHistoryMadeM4
import Derived.Test.YtaljafbgbfmcbaaGreatHistoryMadeM2
import Derived.Test.YtaljafbgbfmcbaaGreatHistoryMadeM1
import Derived.Test.YtaljafbgbfmcbaaGreatHistoryMadeM3
namespace Go.Proofs.YtaljafbgbfmcbaaGreat
open Go Go.Ae
set_option maxRecDepth 100000
section
variable {g h:AH} {L R:List SP}
def xh (c:jX):Int:=if c.state≤1 then(c.aw.length:Int)else if c.state≤3 then 0 else c.at_
structure Yt where
  sp:Int
  ph:Int
  at_:Int
  t:Int
  z:Int×Int×Int
  sv:AV
  cv:AV
  tv:AV
  wv:AV
structure YV (c:jX) (q:Yt):Prop where
  p:c.p.fin=0→(c.state≤6→q.sp=c.p.spins)∧c.p.err=0∧c.p.bH= -1
  ph:c.p.fin=0→q.ph=c.state∧q.at_=xh c
  z:c.p.fin=0→c.state=7→q.z=(c.bn,c.fC,c.oT)
  f7:c.state=7→c.bn≠2
  a3:c.state≤3→c.at_=0
  t:3≤c.state→c.state≤6→q.t=c.now
  w:c.p.fin=0∨c.p.fin=2→(c.ag=true↔c.p.fin=2∨c.state=5∨c.state=6)
def xy (c:jX) (q:Yt):List AV:=zJ c.p q.sp++[.int .u64 c.aa,q.sv,q.cv,q.tv,q.wv,.int .u64 c.lk.1,.bool c.lk.2.1,.int .i64 c.lk.2.2,.int .i64 q.ph,.int .i64 q.at_,.int .u64 q.t,.int .i64 q.z.1,.int .i64 q.z.2.1,.int .i64 q.z.2.2]
abbrev yg (b:Nat) (c:jX) (q:Yt) (R:List SP):List SP :=
 qv b (xy c q)::qC 124 2 c.seen.length q.sv (c.seen.flatMap vW)::qC 63 2 c.cells.length q.cv (c.cells.flatMap jH)::qC 3 1 c.s.length q.tv (c.s.map (.int .i64))::qC 44 3 c.aw.length q.wv (c.aw.flatMap yb)::R
def bT (b:Nat) (c:jX):SP:=.ex λq:Yt=>.all (.fk (YV c q∧c.p.me=c.me)::yg b c q [])
section
variable {n b:Nat} {c:jX} {q:Yt}
theorem bT.E (H:HS g h (bT b c::R)):∃q,YV c q∧c.p.me=c.me∧HS g h (yg b c q R):=by obtain⟨q,H⟩:=H.iq;obtain⟨r,H⟩:=H.cE.dT;exact⟨q,r.1,r.2,H⟩
theorem bT.I (r:YV c q) (hm:c.p.me=c.me) (H:HS g h (yg b c q R)):HS g h (bT b c::R):=HS.iO q (HS.allI (A:=.fk (YV c q∧c.p.me=c.me)::yg b c q []) (HS.dU ⟨r,hm⟩ H))
def VK (g:AH) (b:Nat) (c:jX) (R:List SP) (h':AH):Prop:=∃q,YV c q∧HS g h' (yg b c q R)
structure rG (c:jX) (q:Yt):Prop where
  sp:q.sp=c.p.spins
  fin:c.p.fin=0
  err:c.p.err=0
  bH:c.p.bH= -1
theorem Ot (hn:1≤n) (P:rG c q) (qt:q.t=c.now) (hw:c.ag=true) (ht:0<c.s.length) (hl:c.s.length≤1000) (H:HS g h (yg b c q R)) :
  ba n 87 [.ptr b 0] h λ_ h'=>VK g b (zo { c with at_:=0,state:=6 }) R h':=by
 refine bw (S:=S87) rfl omQ λk hk=>?_;unfold S87;try simp only[iZ]
 have e:zo { c with at_:=0,state:=6 }={ c with at_:=0,state:=6 }:=by simp[zo];omega
 rw[e];unfold yg xy zJ at H;refine qX (qQ (qx H (b:=b) .here ⟨rfl,rfl⟩ aM λh2 H2=>?_));refine qX (qQ (qx H2 (b:=b) .here ⟨rfl,rfl⟩ aM λh3 H3=>?_));refine qX (qQ (qZ H3 (b:=b) .here (x:=q.tv) rfl ?_));refine qr H3 (n:=c.s.length) (v:=q.tv) e_3 ?_;refine qW omQ (qJ ?_);exact qq ⟨{ q with ph:=6,at_:=0 },⟨λ_=>⟨λ_=>P.sp,P.err,P.bH⟩,λ_=>⟨rfl,rfl⟩,λ_ h=>(by grind),λh=>(by grind),λh=>absurd h (by simp),λ_ _=>qt,λ_=>⟨λ_=>.inr (.inr rfl),λ_=>hw⟩⟩,H3⟩
theorem V5 (hn:2≤n) (P:rG c q) (qt:q.t=c.now) (ht:0<c.s.length) (hl:c.s.length≤1000) (H:HS g h (yg b c q R)) :
  ba n 85 [.ptr b 0] h λ_ h'=>VK g b (zf c) R h':=by
 refine bw (S:=S85) rfl omQ λk hk=>?_;unfold S85;try simp only[iZ]
 unfold zf zV;have H0:=H;unfold yg xy zJ at H;refine qX (qQ (qx H (b:=b) .here ⟨rfl,rfl⟩ aM λh2 H2=>?_));refine qX (qQ (qx H2 (b:=b) .here ⟨rfl,rfl⟩ aM λh3 H3=>?_));refine qX (qQ (qZ H3 (b:=b) .here (x:=q.cv) rfl ?_));refine qr H3 (n:=c.cells.length) (v:=q.cv) e_2 ?_;by_cases c0:c.cells.length=0
 ·refine qk omQ (qK ?_);rw[iJ (by grind)];refine qY (Ot (c:={ c with ag:=true,at_:=0,state:=5 }) (q:={ q with ph:=5,at_:=0 }) omQ ⟨P.sp,P.fin,P.err,P.bH⟩ qt rfl ht hl H3) λ_ h4 H4=>qq H4
 ·refine qW omQ (qJ ?_);rw[iQ (by grind)];exact qq ⟨{ q with ph:=5,at_:=0 },⟨λ_=>⟨λ_=>P.sp,P.err,P.bH⟩,λ_=>⟨rfl,rfl⟩,λ_ h=>(by grind),λh=>(by grind),λh=>absurd h (by simp),λ_ _=>qt,λ_=>⟨λ_=>.inr (.inl rfl),λ_=>rfl⟩⟩,H3⟩
theorem Kt {p1:Qd} {f e y:Int} (hn:1≤n) (hm:p1.me=c.p.me) (P:c.p.fin=0∧c.p.err=0∧c.p.bH= -1) (hf:f≠0∧f≠2) (hw:c.ag=false) (hl:c.aw.length≤1000) (H:HS g h (yg b { c with p:=p1 } q R)) :
  ba n 84 [.ptr b 0,.int .i64 f,.int .i64 e,.int .i64 y] h λ_ h'=>VK g b (zH c f e y) R h':=by
 refine tH (S:=S84) rfl omQ λk hk=>?_;unfold S84;try simp only[iZ]
 unfold zH xK;unfold yg xy zJ at H;dsimp only at H;rw[hm]at H;refine qX (qQ (qQ (qx H (b:=b) .here ⟨rfl,rfl⟩ aM λh2 H2=>?_)));refine qX (qQ (qQ (qx H2 (b:=b) .here ⟨rfl,rfl⟩ aM λh3 H3=>?_)));refine qX (qQ (qQ (qx H3 (b:=b) .here ⟨rfl,rfl⟩ aM λh4 H4=>?_)));clear H H2 H3;refine qX (qQ (qZ H4 (b:=b) .here (x:=q.wv) rfl ?_));refine qr H4 (n:=c.aw.length) (v:=q.wv) e_4 ?_;by_cases c0:c.aw.length=0
 ·refine xJ omQ (qJ ?_);rw[iJ (by grind)];exact qq ⟨q,⟨λh=>absurd h hf.1,λh=>absurd h hf.1,λh=>absurd h hf.1,λ_=>hf.2,λh=>absurd h (by simp),λ_ h=>absurd h (by simp),λh=>(by rcases h with h |h<;>first |exact absurd h hf.1 |exact absurd h hf.2)⟩,H4⟩
 ·refine xL omQ (qK ?_);rw[iQ (by grind)];refine qX (qQ (qx H4 (b:=b) .here ⟨rfl,rfl⟩ aM λh5 H5=>?_));refine qX (qQ (qx H5 (b:=b) .here ⟨rfl,rfl⟩ aM λh6 H6=>?_));refine qX (qQ (qx H6 (b:=b) .here ⟨rfl,rfl⟩ aM λh7 H7=>?_));clear H4 H5 H6;refine qX (qQ (qQ (qx H7 (b:=b) .here ⟨rfl,rfl⟩ aM λh8 H8=>?_)));refine qX (qQ (qQ (qx H8 (b:=b) .here ⟨rfl,rfl⟩ aM λh9 H9=>?_)));refine qX (qQ (qQ (qx H9 (b:=b) .here ⟨rfl,rfl⟩ aM λia dC=>?_)));clear H7 H8 H9;refine qX (qQ (qx dC (b:=b) .here ⟨rfl,rfl⟩ aM λdO eQ=>?_));refine qX (qQ (qx eQ (b:=b) .here ⟨rfl,rfl⟩ aM λiP fK=>?_));have nA:(c.ag=true↔c.p.fin=2∨(7:Int)=5∨(7:Int)=6):=by
   grind
  refine qq ⟨{ q with ph:=7,at_:=0,z:=(f,e,y) },⟨λ_=>⟨λh=>absurd h (by simp),P.2.1,P.2.2⟩,λ_=>⟨rfl,rfl⟩,λ_ _=>rfl,λ_=>hf.2,λh=>absurd h (by simp),λ_ h=>absurd h (by simp),λ_=>nA⟩,?_⟩;simp_all[yg,xy,zJ]
end
end
section
variable {g h:AH} {L R:List SP}
section
variable {c:jX} {a:cB}
abbrev Ua (c d:jX):Prop:=d.p.me=c.p.me∧d.me=c.me
theorem qWh:Ua c (zo c):=by unfold zo;split<;>exact⟨rfl,rfl⟩
theorem qQ4:Ua c (zV c):=by unfold zV;split;exact qWh (c:={ c with at_:=0,state:=6 });omega
theorem Vh:Ua c (zf c):=qQ4 (c:={ c with ag:=true,at_:=0,state:=5 })
theorem qXR:Ua c (xK c):=by unfold xK;split<;>exact⟨rfl,rfl⟩
theorem VE {f e y:Int}:Ua c (zH c f e y):=qXR (c:={ c with bn:=f,fC:=e,oT:=y,at_:=0,state:=7 })
theorem qZc {p:Qd} {l:dz}:(jQ p l).2.me=p.me:=by grind[jQ]
theorem qGo {l:dz}:Ua c (xq c l):=by
 unfold xq
 split
 ·exact⟨qZc,rfl⟩
 grind[VE,jQ,qZc]
theorem Oy:∀(n:Nat) {c:jX},Ua c (zv c n)
 | 0,_=>Vh
 |n+1,c=>by
  unfold zv
  split
  ·split
   ·omega
   ·split
    ·exact VE
    ·exact Oy n (c:={ c with at_:=c.at_+1 })
  ·exact Vh
theorem qgu (hm:c.p.me=c.me):(jV c a).p.me=(jV c a).me:=by
 suffices h:Ua c (jV c a) by grind
 have key:∀{d e:jX},Ua d e→Ua c d→Ua c e:=λh1 h2=>⟨h1.1.trans h2.1,h1.2.trans h2.2⟩;have prv:∀{d:jX},Ua c d→Ua c (xm d):=λh=>key (Oy _) (key (d:=_) (e:=_) ⟨rfl,rfl⟩ h);unfold jV
 repeat' split
 ·refine⟨?_,rfl⟩;unfold jJ
  split<;>rfl
 ·unfold yf
  repeat' split
  ·exact qGo
  all_goals trivial
 ·unfold yC
  repeat' split
  ·exact VE
  ·grind
  ·grind
  ·exact Vh
  grind
 ·unfold xe
  repeat' split
  ·exact qGo
  ·exact VE
  grind
 all_goals grind[qQ4,qWh,qXR]
end
section
variable {n b:Nat} {c:jX} {q:Yt} {a:cB}
theorem qzp {x:Int} (hn:1≤n) (hl:c.aw.length≤c.s.length) (hs:c.s.length≤1000) (H:HS g h (yg b c q R)) :
  ba n 104 [.ptr b 0,.int .i64 x] h λr h'=>r=.cA [.int .u64 ((XH c.s c.aw x).getD 0),.bool (XH c.s c.aw x).isSome]∧h'=h:=by
 refine cu (S:=S104) rfl omQ λk hk=>?_;unfold S104;try simp only[iZ]
 have H1:=H;unfold yg xy zJ at H1;have e0:XH (c.s.drop 0) (c.aw.drop 0) x=XH c.s c.aw x:=rfl;generalize XH c.s c.aw x=FF at e0 ⊢;refine jB (λm s h'=>∃i:Nat,s=(.int .i64 (i:Int),.int .i64 x,.ptr b 0,())∧i≤c.aw.length∧m=c.aw.length-i∧XH (c.s.drop i) (c.aw.drop i) x=FF∧h'=h)
  ?_ (m:=c.aw.length) (by grind) ⟨0,rfl,by omega,by rfl,e0,rfl⟩
 rintro m ih s h2 bj ⟨i,rfl,hi,rfl,hb,rfl⟩;dsimp only;refine qX (qQ (qZ ‹_› .here rfl ?_));refine qr ‹_› e_4 ?_;by_cases ap:i<c.aw.length
 ·refine jO omQ (qK ?_);have e1:c.s.drop i=qB c.s i::c.s.drop (i+1):=by
   rw[List.drop_eq_getElem_cons omQ]
   congr 1
   unfold qB;grind
  have e2:c.aw.drop i=jj c.aw i::c.aw.drop (i+1):=by
   rw[List.drop_eq_getElem_cons omQ]
   congr 1
   unfold jj;grind
  rw[e1,e2]at hb;unfold XH at hb;refine qX (qQ (qZ ‹_› .here rfl ?_));refine zO (H.sl e_3) (x:=.int .i64 (qB c.s i)) (by rw[List.getElem?_map,JJ omQ];rfl) ?_;by_cases hy:qB c.s i=x
  ·refine qk hy ?_;rw[iJ hy]at hb;refine qK (qX (qQ (qZ ‹_› .here rfl ?_)));refine jn (f:=0) (x:=.int .u64 (jj c.aw i).1) (H.sl e_4) omQ ap ?_ ?_
   ·have:=congrArg (·[0]?) (ZS (l:=c.aw) (k:=i) ap);simp only[List.getElem?_take_of_lt (show 0<3 by omega),List.getElem?_drop]at this;trivial
   refine qj ?_;rw[← hb];exact qq ⟨rfl,rfl⟩
  ·refine qW hy ?_;rw[iQ hy]at hb;refine qJ (qE omQ ?_);exact bj (c.aw.length-(i+1)) _ _ omQ ⟨i+1,rfl,by omega,rfl,hb,rfl⟩
 ·refine jM omQ (qJ ?_);obtain rfl:i=c.aw.length:=by omega
  rw[List.drop_of_length_le (Nat.le_refl c.aw.length)]at hb;refine qj ?_;rw[← hb];have e:∀s:List Int,XH s [] x=none:=λs=>by cases s<;>rfl
  rw[e];exact qq ⟨rfl,rfl⟩
theorem Zg (hn:3≤n) (O:ComL c) (hw:c.aw.length=c.s.length) (P:rG c q) (qt:q.t=c.now) (wf:c.ag=false) (qp:q.ph=4) (qa:q.at_=c.at_) (ha:c.at_≤c.seen.length) (H:HS g h (yg b c q R)) :
  ba n 86 [.ptr b 0] h λ_ h'=>VK g b (xm c) R h':=by
 refine bw (S:=S86) rfl omQ λk hk=>?_;unfold S86;try simp only[iZ]
 generalize hF:xm c=F;unfold xm at hF;have l1:=O.seen;have l2:=O.s;have l3:=O.pos;have l4:=O.lo;obtain⟨qsp,qph,qat,qtt,qz,qsv,qcv,qtv,qwv⟩:=q;dsimp only at qp qa qt;subst qp qa;refine jB (λm s h'=>s=(.ptr b 0,())∧∃a:Int,zv { c with state:=4,at_:=a } m=F∧0≤a∧a≤c.seen.length∧c.seen.length<a+m∧HS g h' (yg b c ⟨qsp,4,a,qtt,qz,qsv,qcv,qtv,qwv⟩ R))
  ?_ (m:=c.seen.length+1) (by grind) ⟨rfl,c.at_,hF,l4,ha,by omega,H⟩
 clear H hF;rintro m ih s h3 bj ⟨rfl,a,hF,ha0,ha,hm,H⟩;dsimp only;obtain⟨m,rfl⟩:∃k,m=k+1:=⟨m-1,by omega⟩;unfold zv at hF;dsimp only at hF;have H1:=H;unfold yg xy zJ at H1;dsimp only at H1;refine qX (qQ (qZ ‹_› .here rfl ?_));refine qX (qQ (qZ ‹_› .here rfl ?_));refine qr ‹_› e_1 ?_;by_cases ap:a<c.seen.length
 ·refine jO ap ?_;rw[iJ ap]at hF;obtain⟨k,rfl⟩:∃k:Nat,a=k:=⟨a.toNat,by omega⟩;refine qK (qX (qQ (qZ ‹_› .here rfl ?_)));refine qX (qQ (qZ ‹_› .here rfl ?_));refine jn (H.sl e_1) omQ (by grind) (JQ (by grind)).1 ?_;refine qY (qzp omQ omQ omQ H) ?_;rintro _ _ ⟨rfl,rfl⟩;cases ho:XH c.s c.aw (zW c.seen k).1 with
  |none=>
   rw[ho]at hF;dsimp only at hF;subst hF;refine qi rfl ?_;refine qi rfl ?_;have nA:(c.ag=true↔c.p.fin=2∨(4:Int)=5∨(4:Int)=6):=by rw[wf,P.fin];simp
   exact qq ⟨⟨qsp,4,(k:Int),qtt,qz,qsv,qcv,qtv,qwv⟩,⟨λ_=>⟨λ_=>P.sp,P.err,P.bH⟩,λ_=>⟨rfl,rfl⟩,λ_ h=>(by grind),λh=>(by grind),λh=>absurd h (by simp),λ_ _=>qt,λ_=>nA⟩,H⟩
  |some v=>
   rw[ho]at hF;dsimp only at hF;refine qi rfl (qi rfl (jE (qJ ?_)));refine qX (qQ (qZ ‹_› .here rfl ?_));refine qX (qQ (qZ ‹_› .here rfl ?_));refine jn (H.sl e_1) omQ (by grind) (JQ (by grind)).2 ?_;by_cases hv:v=(zW c.seen k).2
   ·refine jR hv ?_;rw[iQ (λh=>h hv)]at hF;refine qJ (qX (qQ (qZ ‹_› .here rfl ?_)));refine qE omQ ?_;refine qX (qQ (qx H1 (b:=b) .here ⟨rfl,rfl⟩ aM λh4 H4=>?_));exact bj m _ _ omQ ⟨rfl,(k:Int)+1,hF,by omega,by omega,by omega,H4⟩
   ·refine jb hv ?_;rw[iJ hv]at hF;subst hF;refine qK (qY (Kt (c:={ c with state:=4,at_:=(k:Int) }) (p1:=c.p) omQ rfl ⟨P.fin,P.err,P.bH⟩ ⟨by simp,by simp⟩ wf (by grind) H) λ_ h4 H4=>?_);refine qj ?_;exact qq H4
 ·refine jM ap ?_;rw[iQ ap]at hF;subst hF;refine qJ (qY (V5 (c:={ c with state:=4,at_:=a }) (q:=⟨qsp,4,a,qtt,qz,qsv,qcv,qtv,qwv⟩) omQ ⟨P.sp,P.fin,P.err,P.bH⟩ qt l3 (by grind) H) λ_ h4 H4=>?_);refine qj ?_;exact qq H4
end
end
section
variable {g h:AH} {L R:List SP}
theorem qgL {n:Nat} {p a w:Int} (hn:2≤n) (hp:p<4611686018427387904):ba n 99 [.int .i64 p,.int .i64 a,.int .i64 w] h λr h'=>r=.int .i64 (ofM p a w)∧h'=h:=by
 refine dV (S:=S99) rfl omQ λk hk=>?_;unfold S99;try simp only[iZ]
 unfold ofM;by_cases c:p<0
 ·refine jO c (qK ?_);rw[iJ c];exact qq ⟨rfl,rfl⟩
 ·refine jM c (qJ ?_);rw[iQ c];refine qY (vm omQ omQ) ?_;rintro _ _ ⟨rfl,rfl⟩;refine qv2 omQ ?_;have h1:p.tdiv (max ((1:Nat):Int) (min w ((16:Nat):Int)))=p/max 1 (min w 16):=Int.tdiv_eq_ediv_of_nonneg omQ;have h2:0≤p/max 1 (min w 16):=Int.ediv_nonneg omQ omQ;have h3:p/max 1 (min w 16)≤p:=Int.ediv_le_self _ omQ;rw[h1,Ic omQ];refine qY (vm omQ omQ) ?_;rintro _ _ ⟨rfl,rfl⟩;refine Xb omQ ?_;rw[Int.tmod_eq_emod_of_nonneg h2];exact qq ⟨rfl,rfl⟩
def AY (cs:List Cl) (a w:Int):List AV:=(List.range 16).map λi:Nat=>.bool (cs.any λc=>decide (ofM c.1 a w=(i:Int)))
theorem qQA {cs:List Cl} {a w:Int} {i:Nat} (hi:i<16):(AY cs a w)[i]? =some (.bool (cs.any λc=>decide (ofM c.1 a w=(i:Int)))):=by grind[AY,List.getElem?_range]
theorem Vz {cs:List Cl} {a w:Int}:(AY cs a w).length=16:=by rfl
theorem qg7 {cs:List Cl} {c:Cl} {a w:Int} {k:Nat} (hk:ofM c.1 a w=(k:Int)):AY (cs++[c]) a w=(AY cs a w).set k (.bool true):=by
 apply List.ext_getElem?;intro i;by_cases hi:i<16
 ·rw[List.getElem?_set,qQA hi,qQA hi,Vz,List.any_append];grind
 grind[List.getElem?_eq_none,Vz,List.length_set]
def D9 (cs:List Cl) (a w:Int) (i:Nat):List Int:=((List.range i).map λi:Nat=>(i:Int)).filter λs=>cs.any λc=>decide (ofM c.1 a w=s)
theorem qZS {cs:List Cl} {a w:Int} {i:Nat}:D9 cs a w (i+1)=D9 cs a w i++if(cs.any λc=>decide (ofM c.1 a w=(i:Int)))=true then[(i:Int)]else[]:=by
 grind[D9,List.range_succ]
theorem qwe {cs:List Cl} {a w:Int} {i:Nat}:(D9 cs a w i).length≤i:=by grind[D9,List.length_filter_le,decide,ofM,List.range]
theorem qZt {n:Nat} {cv:AV} {cs:List Cl} {a w:Int} (hn:3≤n) (H:HS g h R) (S:Rd g R 2 cs.length cv (cs.flatMap jH)) (hl:cs.length≤1000) (hc:∀c∈cs,0≤c.1∧c.1<100000) :
  ba n 116 [cv,.int .i64 a,.int .i64 w] h λr h'=>HS g h' (qC 3 1 (xn cs a w).length r ((xn cs a w).map (.int .i64))::R):=by
 refine dV (S:=S116) rfl omQ λk hk=>?_;unfold S116;try simp only[iZ]
 refine qh H (l:=AY [] a w) rfl λb h1 H1=>?_;refine jB (λm s h'=>∃i:Nat,s=(.int .i64 (i:Int),.ptr b 0,.int .i64 w,.int .i64 a,cv,())∧i≤cs.length∧m=cs.length-i∧HS g h' (qv b (AY (cs.take i) a w)::R))
  ?_ (m:=cs.length) (by grind) ⟨0,rfl,by omega,by rfl,H1⟩
 clear H H1;rintro m ih s h2 bj ⟨i,rfl,hi,rfl,H⟩;dsimp only;refine yH (S.sl H.drop) ?_;by_cases ap:i<cs.length
 ·refine jO omQ (qK ?_);have uJ:=hc _ (List.getElem_mem ap);have hr:=qZu (n:=a) (w:=w) uJ.1;refine qG ?_
  try dsimp only
  refine jn (S.sl H.drop) omQ ap (x:=.int .i64 cs[i].1) ?_ ?_
  ·have:=congrArg (·[0]?) (w5 (sz:=2) (enc:=jH) (λ_=>rfl) (iW ap));simp only[List.getElem?_take_of_lt (show 0<2 by omega),List.getElem?_drop]at this;trivial
  refine qY (qgL omQ omQ) ?_;rintro _ _ ⟨rfl,rfl⟩;refine zK omQ (qK ?_);obtain⟨k,hk⟩:∃k:Nat,ofM cs[i].1 a w=(k:Int):=⟨(ofM cs[i].1 a w).toNat,by omega⟩;rw[hk];refine vz omQ ?_;refine qx H (b:=b) .here (x:=.bool true) ⟨rfl,rfl⟩ (by grind[Vz]) λh4 H4=>?_;refine qE omQ ?_;refine bj (cs.length-(i+1)) _ _ omQ ⟨i+1,rfl,by omega,rfl,?_⟩;have e:cs.take (i+1)=cs.take i++[cs[i]]:=by simp
  grind[qg7]
 ·obtain rfl:i=cs.length:=by omega
  refine jM omQ (qJ ?_);rw[List.take_of_length_le (Nat.le_refl _)]at H;refine jB (λm s h'=>∃(i:Nat) (v:AV),s=(.int .i64 (i:Int),v,.ptr b 0,())∧i≤16∧m=16-i∧HS g h' (qC 3 1 (D9 cs a w i).length v ((D9 cs a w i).map (.int .i64))::qv b (AY cs a w)::R))
   ?_ (m:=16) od ⟨0,.aj,rfl,by omega,by rfl,H.aj⟩
  clear H bj ih;rintro m ih s h3 bj ⟨i,v,rfl,hi,rfl,H⟩;dsimp only;have hu:=qwe (cs:=cs) (a:=a) (w:=w) (i:=i);by_cases mB:i<16
  ·refine jO omQ (qK ?_);refine qG ?_
   try dsimp only
   refine vz mB ?_;refine qZ H (b:=b) e_1 (by rw[show 0+i*1=i by omega];exact qQA mB) ?_;cases hb:cs.any λc=>decide (ofM c.1 a w=(i:Int))with
   |true=>refine qK (jY (n:=1) (l:=[.int .i64 (i:Int)]) (sz:=1) H rfl rfl rfl rfl λv2 h5 H5=>?_);refine zA (H5.aJ e_1) (H5.sl .here) omQ omQ rfl λv3 h6 H6=>?_;refine qE omQ ?_;refine bj (16-(i+1)) _ _ omQ ⟨i+1,v3,rfl,by omega,rfl,?_⟩;rw[qZS,hb,iJ rfl,List.length_append,List.map_append];exact H6.sub (.cons .here (.cons e_1 (.drop .refl)))
   |false=>refine qJ (qE omQ ?_);refine bj (16-(i+1)) _ _ omQ ⟨i+1,v,rfl,by omega,rfl,?_⟩;rw[qZS,hb,iQ od,List.append_nil];grind
  ·obtain rfl:i=16:=by omega
   refine jM omQ (qJ ?_);exact qj (qq (H.sub (.cons .here (.drop .refl))))
end
section
variable {g h:AH} {L R:List SP}
section
variable {n b:Nat} {c:jX} {q:Yt} {a:cB}
theorem YV.go (r:YV c q) (hg:c.p.fin=0) (h6:c.state≤6):rG c q:=⟨(r.p hg).1 h6,hg,(r.p hg).2.1,(r.p hg).2.2⟩
theorem YV.wf (r:YV c q) (hg:c.p.fin=0) (h:c.state≤4∨c.state=7):c.ag=false:=by
 cases hw:c.ag with
 |false=>rfl
 |true=>rcases(r.w (.inl hg)).1 hw with h' |h'<;>omega
theorem rG.r {s:Int} (P:rG c q) (wf:c.ag=false) (hs:c.state=s) (h:s≤4) (qp:q.ph=s) (qa:q.at_=xh c) (a3:s≤3→c.at_=0) (t:3≤s→q.t=c.now):YV c q :=
 ⟨λ_=>⟨λ_=>P.sp,P.err,P.bH⟩,λ_=>⟨qp.trans hs.symm,qa⟩,λ_ h7=>absurd h7 omQ,λh7=>absurd h7 omQ,λh3=>a3 omQ,λh3 _=>t omQ,λ_=>⟨λh'=>(by grind),λh'=>(by
  have:=P.fin
  grind)⟩⟩
theorem K6 {p:Qd} {l:dz}:(jQ p l).2.fin=p.fin∧(jQ p l).2.err=p.err∧(jQ p l).2.bH=p.bH∧(jQ p l).2.me=p.me:=by unfold jQ;grind
theorem qqC {l:dz} {P0:AV→AH→Go.Ae.R} {Q0:AV→AH→Prop} (hn:2≤n) (G:rG c q) (r:YV c q) (h6:c.state≤6) (wf:c.ag=false) (hs:0≤c.p.spins∧c.p.spins≤4) (_:c.aw.length≤1000) (H:HS g h (yg b c q R))
  (w1:∀h',VK g b { c with p:=(jQ c.p l).2 } R h'→(jQ c.p l).1=true→wp (P0 (.bool true) h') Q0)
  (w2:∀h' sp,HS g h' (yg b { c with p:=jI (jQ c.p l).2 5 0 l.2.2 } { q with sp:=sp } R)→(jQ c.p l).1=false→wp (P0 (.bool false) h') Q0) :
  wp (xS (callT tab qL n) (.fn 80 [] []) [.ptr b 0,.agg (yb l)] h P0) Q0:=by
 have H':HS g h (qv b (zJ c.p c.p.spins++(xy c q).drop 5)::(yg b c q R).tail):=by rw[show zJ c.p c.p.spins=zJ c.p q.sp by rw[G.sp]];exact H
 refine qY (Ui (l:=l) omQ G.fin (λ_=>⟨rfl,G.err,G.bH⟩) hs H') ?_;rintro _ h2 ⟨fL,rfl,Q',H2⟩;cases hw:(jQ c.p l).1 with
 |true=>
  rw[hw,iJ rfl]at Q' H2;obtain⟨a1,a2,a3,a4⟩:=K6 (p:=c.p) (l:=l);obtain⟨b1,b2,b3⟩:=Q' (a1.trans G.fin)
  exact w1 h2 ⟨{ q with sp:=fL },⟨λ_=>⟨λ_=>b1,b2,b3⟩,λ_=>r.ph G.fin,λ_ h7=>absurd h7 (by grind),r.f7,r.a3,r.t,λ_=>(by
   have:=r.w (.inl G.fin);grind)⟩,H2⟩ hw
 |false=>rw[hw,iQ od]at H2;exact w2 h2 fL H2 hw
def Km (c:jX) (a:cB):jX:=if c.state=4 then xe c a.lk else yf c a
theorem qX4 (hn:4≤n) (O:xf c) (hg:c.p.fin=0) (r:YV c q) (h014:c.state=0∨c.state=1∨c.state=4) (H:HS g h (yg b c q R)) :
  ba n 83 [.ptr b 0,.agg (zY a)] h λ_ h'=>VK g b (Km c a) R h':=by
 refine cu (S:=S83) rfl omQ λk hk=>?_;unfold S83;try simp only[iZ]
 generalize hF:Km c a=F;unfold Km at hF;have wf:=r.wf hg omQ;have G:=r.go hg omQ;obtain⟨qp,qa⟩:=r.ph hg;have l1:=O.s;have l2:=O.aw;have l3:=O.seen;have l4:=O.lo;refine qh H rfl λb0 h1 H1=>?_;clear H;have Ea:∀{x:AV} {f:Nat} {K:AV→Go.Ae.R} {Q:AV→AH→Prop},(xy c q)[f]? =some x→wp (K x) Q→wp (zn (.ptr b 0) λv=>qH v f λv=>jK h1 v K) Q:=λe w=>qX (qQ (qZ H1 (b:=b) e_1 e w));refine Ea (f:=13) (x:=.int .i64 c.state) (by rw[← qp];rfl) ?_;by_cases c1:c.state=1
 ·refine qk c1 (qK ?_);have Ay:xh c=(c.aw.length:Int):=by unfold xh;grind
  rw[iQ omQ]at hF;unfold yf at hF;rw[iQ (λh=>by omega),iQ omQ]at hF;refine qQ (qZ H1 (b:=b0) .here (x:=.bool a.done) rfl ?_);cases hd:a.done with
  |false=>rw[iQ (by grind)]at hF;subst hF;refine jo (qK ?_);refine qX (qQ (qx H1 (b:=b) e_1 (x:=.int .i64 0) ⟨rfl,rfl⟩ (by simp[xy,zJ]) λh2 H2=>qq ?_));exact⟨{ q with ph:=0 },rG.r (c:={ c with state:=0 }) (s:=0) ⟨G.sp,G.fin,G.err,G.bH⟩ wf rfl od rfl (qa.trans (Ay.trans (by rfl))) (λ_=>r.a3 omQ) (λh=>absurd h od),H2.sub (.cons .here (.drop .refl))⟩
  |true=>
   rw[iJ hd]at hF;refine jE (qJ ?_);refine Ea (f:=9) (x:=q.wv) rfl ?_;refine qX (qQ (qo H1 (b:=b) (off:=10) e_1 rfl omQ (l:=yb c.lk) rfl ?_));refine jY (n:=1) (l:=yb c.lk) (sz:=3) H1 rfl rfl rfl rfl λv2 h2 H2=>?_;refine zA (H2.aJ (P:=qC 44 3 c.aw.length q.wv (c.aw.flatMap yb)) e_6) (H2.sl .here) omQ omQ rfl λv3 h3 H3=>?_;have o3:=H3.one .here;refine qX (qQ (qx H3 (b:=b) e_3 o3 (by simp[xy,zJ]) λh4 H4=>?_));refine qX (qQ (qZ H4 (b:=b) .here (x:=.int .i64 (c.aw.length:Int)) (by rw[← Ay,← qa];rfl) ?_));refine qE omQ ?_;refine qX (qQ (qx H4 (b:=b) .here ⟨rfl,rfl⟩ (by simp[xy,zJ]) λh5 H5=>?_));refine qX (qQ (qx H5 (b:=b) .here ⟨rfl,rfl⟩ (by simp[xy,zJ]) λh6 H6=>?_));have lL:(c.aw++[c.lk]).length=c.aw.length+1:=by simp
   have H7:HS g h6 (yg b { c with aw:=c.aw++[c.lk] } { q with wv:=v3,at_:=(c.aw.length:Int)+((1:Nat):Int),ph:=0 } R):=by unfold yg;rw[show({ c with aw:=c.aw++[c.lk] }:jX).aw.length=c.aw.length+1 from lL,show({ c with aw:=c.aw++[c.lk] }:jX).aw.flatMap yb=c.aw.flatMap yb++yb c.lk by simp];exact H6.sub (.cons .here (.cons e_3 (.cons e_3 (.cons e_3 (.cons .here (.drop (.drop .refl)))))))
   clear H1 H2 H3 H4 H5 H6 Ea;refine jc [] (λ_ h'=>VK g b F R h') (λj hj=>?_) λ_ h' H'=>qj (qq H');refine qX (qQ (qZ H7 (b:=b) .here (x:=.int .i64 ((c.aw.length:Int)+((1:Nat):Int))) rfl ?_));refine qX (qQ (qZ H7 (b:=b) .here (x:=q.tv) rfl ?_));refine qr H7 (n:=c.s.length) (v:=q.tv) e_3 ?_;unfold zk at hF;rw[show({ c with aw:=c.aw++[c.lk] }:jX).aw.length=c.aw.length+1 from lL]at hF;by_cases c2:c.aw.length+1=c.s.length
   ·refine qk omQ (qK ?_);rw[iJ (by grind)]at hF;subst hF;refine qX (qQ (qx H7 (b:=b) .here (x:=.int .i64 2) ⟨rfl,rfl⟩ (by simp[xy,zJ]) λh8 H8=>?_));refine qX (qQ (qx H8 (b:=b) .here (x:=.int .i64 0) ⟨rfl,rfl⟩ (by simp[xy,zJ]) λh9 H9=>?_));refine hj _ _ ⟨{ q with wv:=v3,at_:=0,ph:=2 },rG.r (c:={ c with aw:=c.aw++[c.lk],state:=2 }) (s:=2) ⟨G.sp,G.fin,G.err,G.bH⟩ wf rfl od rfl (by rfl) (λ_=>r.a3 omQ) (λh=>absurd h od),H9⟩
   ·refine qW omQ (qJ ?_);rw[iQ (by grind)]at hF;subst hF;refine hj _ _ ⟨{ q with wv:=v3,at_:=(c.aw.length:Int)+((1:Nat):Int),ph:=0 },rG.r (c:={ c with aw:=c.aw++[c.lk],state:=0 }) (s:=0) ⟨G.sp,G.fin,G.err,G.bH⟩ wf rfl od rfl (by simp[xh]) (λ_=>r.a3 omQ) (λh=>absurd h od),H7⟩
 refine qW c1 (qJ ?_);have c04:c.state=0∨c.state=4:=by omega
 refine qQ (qI (qZ H1 (b:=b0) .here (x:=.bool a.lk.2.1) rfl ?_));cases hd:a.lk.2.1 with
 |true=>
  have hF2:xq c a.lk=F:=by
   rw[← hF];rcases c04 with h |h
   all_goals simp_all[omQ,yf,xe]
  clear hF;subst hF2;refine qK (jc [] (λ_ h'=>VK g b (xq c a.lk) R h') (λj hj=>?_) λ_ h' H'=>qj (qq H'));refine qX (qQ (qQ (qo H1 (b:=b0) (off:=1) .here rfl omQ (l:=yb a.lk) rfl ?_)));refine qqC omQ G r omQ wf (O.p hg omQ) omQ H1.drop (λh2 H2 hw=>?_) (λh2 sp H2 hw=>?_)
  ·refine jE (qJ ?_);unfold xq at hj ⊢;rw[iJ hw]at hj ⊢;exact hj _ _ H2
  ·refine jo (qK ?_);unfold xq at hj ⊢;rw[iQ (by grind)]at hj ⊢;refine qX (qQ (qI (qZ H2 (b:=b) .here (x:=.int .i64 5) rfl ?_)));refine qX (qQ (qI (qZ H2 (b:=b) .here (x:=.int .i64 0) rfl ?_)));refine qX (qQ (qI (qZ H2 (b:=b) .here (x:=.int .i64 a.lk.2.2) rfl ?_)));obtain⟨a1,a2,a3,a4⟩:=K6 (p:=c.p) (l:=a.lk);refine qY (Kt (c:={ c with p:=(jQ c.p a.lk).2 }) (p1:=jI (jQ c.p a.lk).2 5 0 a.lk.2.2) (q:={ q with sp:=sp }) omQ rfl ⟨a1.trans G.fin,a2.trans G.err,a3.trans G.bH⟩ ⟨by simp,by simp⟩ wf (by grind) H2) λ_ h4 H4=>?_;exact hj _ _ H4
 |false=>
  refine qJ (Ea (f:=13) (x:=.int .i64 c.state) (by rw[← qp];rfl) ?_);by_cases c0:c.state=0
  ·refine qk c0 (qK ?_);rw[iQ omQ]at hF;unfold yf at hF;rw[iQ (λh=>by grind),iJ c0]at hF;subst hF;have Ay:xh c=(c.aw.length:Int):=by unfold xh;grind
   refine qQ (qo H1 (b:=b0) (off:=1) .here rfl omQ (l:=yb a.lk) rfl ?_);refine qX (qQ (zq H1 (b:=b) e_1 rfl (by simp[xy,zJ]) rfl λh2 H2=>?_));have H2:HS g h2 (qv b (xy { c with lk:=a.lk } q)::qv b0 (zY a)::(yg b c q R).tail):=H2;refine qX (qQ (qx H2 (b:=b) .here (x:=.int .i64 1) ⟨rfl,rfl⟩ (by simp[xy,zJ]) λh3 H3=>qq ?_));exact⟨{ q with ph:=1 },rG.r (c:={ c with lk:=a.lk,state:=1 }) (s:=1) ⟨G.sp,G.fin,G.err,G.bH⟩ wf rfl od rfl (qa.trans (Ay.trans (by rfl))) (λ_=>r.a3 omQ) (λh=>absurd h od),H3.sub (.cons .here (.drop .refl))⟩
  ·have c4:c.state=4:=by omega
   have pN:xh c=c.at_:=by simp_all[xh,omQ]
   have cx:=O.DD hg c4;refine qW c0 (qJ ?_);rw[iJ c4]at hF;unfold xe at hF;rw[iQ (by grind)]at hF;refine qQ (qI (qZ H1 (b:=b0) .here (x:=.int .u64 a.lk.1) rfl ?_));refine Ea (f:=6) (x:=q.sv) rfl ?_;refine Ea (f:=14) (x:=.int .i64 c.at_) (by rw[← pN,← qa];rfl) ?_;obtain⟨k,hk⟩:∃k:Nat,c.at_=(k:Int):=⟨c.at_.toNat,by omega⟩;have fR:k<c.seen.length:=by omega
   rw[hk]at hF ⊢;refine jn (H1.sl (v:=q.sv) (xs:=c.seen.flatMap vW) e_2) omQ fR (JQ fR).2 ?_;by_cases hv:a.lk.1=(zW c.seen (k:Int)).2
   ·refine jR hv (qJ ?_);rw[iQ (λh=>h hv)]at hF;refine Ea (f:=14) (x:=.int .i64 (k:Int)) (by rw[← hk,← pN,← qa];rfl) ?_;refine qE omQ ?_;refine qX (qQ (qx H1 (b:=b) e_1 ⟨rfl,rfl⟩ (by simp[xy,zJ]) λh2 H2=>?_));have bK:=O.Rv omQ omQ;refine qY (Zg (c:={ c with at_:=(k:Int)+1 }) (q:={ q with at_:=(k:Int)+1 }) omQ { O.toComL with lo:=(by grind),hi:=(by grind) } bK.1 ⟨G.sp,G.fin,G.err,G.bH⟩ (r.t omQ omQ) wf (qp.trans c4) rfl (by grind) (H2.sub (.cons .here (.drop .refl)))) λ_ h3 H3=>qq ?_;grind
   ·refine jb hv (qK ?_);rw[iJ hv]at hF;subst hF;refine qY (Kt (c:=c) (p1:=c.p) omQ rfl ⟨G.fin,G.err,G.bH⟩ ⟨by simp,by simp⟩ wf omQ H1.drop) λ_ h3 H3=>qq H3
theorem qY7 (hn:5≤n) (O:xf c) (H:HS g h (bT b c::R)):ba n 60 [.ptr b 0,.agg (zY a)] h λ_ h'=>HS g h' (bT b (jV c a)::R):=by
 refine cu (S:=S60) rfl omQ λk hk=>?_;unfold S60;try simp only[iZ]
 obtain⟨q,r,hm,H0⟩:=bT.E H;clear H;have Hu:=qgu (a:=a) hm;generalize hF:jV c a=F at*;refine wp.mono (Q:=λ_ h'=>VK g b F R h') ?_ λ_ _ ⟨q',r',H'⟩=>bT.I r' Hu H';refine qh H0 rfl λb0 h1 H1=>?_;clear H0;refine qX (qQ (qI (qZ H1 (b:=b) e_1 (x:=.int .i64 c.p.fin) rfl ?_)));by_cases hf:c.p.fin=0
 rotate_left
 ·refine jb hf ?_;refine qG ?_
  try dsimp only
  refine ql (qF (qK (qq ?_)));have e:F=c:=by
   have e0:jJ c.p a=(true,c.p):=by simp_all[jJ,iG]
   rw[← hF];unfold jV;simp_all
  rw[e];exact⟨q,r,H1.drop⟩
 refine jR hf ?_;refine qG ?_
 try dsimp only
 refine qP (qX (qQ ?_));refine qo H1 (b:=b0) (off:=0) .here rfl omQ (l:=zY a) rfl ?_;have hpb:=r.p hf;refine qY (GZ (p:={ c.p with spins:=q.sp }) (sp:=q.sp) (ys:=(xy c q).drop 5) omQ hf (λ_=>⟨rfl,hpb.2⟩) (H1.aJ (P:=qv b (xy c q)) e_1)) ?_;rintro _ h2 ⟨fL,rfl,Q',H2⟩;clear H1;refine qy ?_;by_cases he:a.err=0
 rotate_left
 ·have e0:jJ { c.p with spins:=q.sp } a=(true,jI { c.p with spins:=q.sp } 4 a.err (-1)):=by
   simp_all[jJ]
  have e1:F={ c with p:=jI c.p 4 a.err (-1) }:=by
   have e2:jJ c.p a=(true,jI c.p 4 a.err (-1)):=by simp_all[jJ]
   rw[← hF];unfold jV;grind
  rw[e0]at H2 ⊢;rw[e1];refine qK (qq ?_);exact⟨{ q with sp:=fL },⟨λh=>(by cases h),λh=>(by cases h),λh=>(by cases h),r.f7,r.a3,r.t,λh=>(by rcases h with h |h<;>cases h)⟩,H2.sub (.cons .here (.drop .refl))⟩
 have e0:jJ { c.p with spins:=q.sp } a=(false,{ c.p with spins:=q.sp }):=by
  simp_all[jJ,iV]
 rw[e0]at Q' H2 ⊢;obtain⟨q1,_,_⟩:=Q' hf;have q1:fL=q.sp:=q1;subst q1;have H2:HS g h2 (yg b c q (qv b0 (zY a)::R)):=H2.sub (.cons .here (.cons e_1 (.cons e_1 (.cons e_1 (.cons e_1 (.cons .here .refl))))));refine qJ ?_;rw[zX hf he]at hF;obtain⟨qp,qa⟩:=r.ph hf;have bK:=O.st;have l1:=O.s;have l2:=O.aw;have l3:=O.seen;have l4:=O.lo;have l5:=O.hi;have lp:=O.toComL.pos;have lc:c.cells.length≤1000:=O.toComL.cells;have fM:∀{x:AV} {f:Nat} {g':AH} {c':jX} {q':Yt} {T:List SP} {K:AV→Go.Ae.R} {Q:AV→AH→Prop},HS g g' (qv b (xy c' q')::T)→(xy c' q')[f]? =some x→wp (K x) Q→wp (zn (.ptr b 0) λv=>qH v f λv=>jK g' v K) Q:=λH e w=>qX (qQ (qZ H (b:=b) .here e w));refine fM H2 (f:=13) (x:=.int .i64 c.state) (by rw[← qp];rfl) ?_;refine jc [] (λ_ h'=>VK g b F R h') (λj hj=>?_) λ_ h' H'=>qj (qq H');refine jc [] (λz g'=>g'=h2∧z=(.bool (decide (c.state=0∨c.state=1∨c.state=4)),.int .i64 c.state,.ptr b0 0,.ptr b 0,())) (λj2 oO=>?_) ?_
 ·refine wX (λc0=>qK ?_) (λc0=>qJ ?_)
  ·exact oO _ _ ⟨rfl,by grind⟩
  ·refine wX (λc1=>qK ?_) (λc1=>qJ ?_)
   ·exact oO _ _ ⟨rfl,by grind⟩
   ·refine wX (λc4=>?_) (λc4=>?_)
    ·exact oO _ _ ⟨rfl,by grind⟩
    ·exact oO _ _ ⟨rfl,by grind⟩
 rintro _ hq ⟨e3,rfl⟩;rw[e3];clear e3;dsimp only;by_cases AZ:c.state=0∨c.state=1∨c.state=4
 ·rw[iG AZ];refine qK (qo H2 (b:=b0) (off:=0) e_5 rfl omQ (l:=zY a) rfl ?_);refine qY (qX4 (a:=a) omQ O hf r AZ (H2.sub (.cons .here (.cons .here (.cons .here (.cons .here (.cons .here (.drop .refl)))))))) λ_ h3 H3=>?_;refine hj _ _ ?_;rw[← hF];unfold Km at H3;grind
 rw[iV AZ];refine qJ ?_;have H2:HS g h2 (yg b c q (qv b0 (zY a)::R)):=H2;have G6:c.state≤6→rG c q:=λh=>r.go hf h;have mu:∀{h':AH} {c':jX},VK g b c' (qv b0 (zY a)::R) h'→VK g b c' R h':=λ⟨q',r',H'⟩=>⟨q',r',H'.sub (.cons .here (.cons .here (.cons .here (.cons .here (.cons .here (.drop .refl))))))⟩;rw[iQ omQ]at hF;by_cases c2:c.state=2
 ·refine qk c2 (qK ?_);have G:=G6 omQ;have wf:=r.wf hf omQ;rw[iJ (.inl c2)]at hF;unfold yC at hF;refine qQ (qZ H2 (b:=b0) e_5 (x:=.int .u64 a.word) rfl ?_);refine qX (qQ (qx H2 (b:=b) .here ⟨rfl,rfl⟩ (by simp[xy,zJ]) λh3 H3=>?_));refine qX (qQ (qx H3 (b:=b) .here ⟨rfl,rfl⟩ (by simp[xy,zJ]) λh4 H4=>?_));have H4:HS g h4 (yg b c { q with t:=a.word,ph:=3 } (qv b0 (zY a)::R)):=H4;refine fM H4 (f:=15) (x:=.int .u64 a.word) rfl ?_;by_cases cw:4611686018427387903≤a.word
  ·refine zK cw (qK ?_);rw[iJ ⟨c2,cw⟩]at hF;subst hF;refine qY (Kt (c:=c) (p1:=c.p) omQ rfl ⟨G.fin,G.err,G.bH⟩ ⟨by simp,by simp⟩ wf omQ H4) λ_ h5 H5=>?_;exact hj _ _ (mu H5)
  ·refine jt cw (qJ ?_);rw[iQ (λh=>cw h.2),iJ c2]at hF;subst hF;exact hj _ _ (mu ⟨{ q with t:=a.word,ph:=3 },rG.r (c:={ c with now:=a.word,state:=3 }) (s:=3) ⟨G.sp,G.fin,G.err,G.bH⟩ wf rfl od rfl (qa.trans (by simp[xh,omQ];omega)) (λ_=>r.a3 omQ) (λ_=>rfl),H4⟩)
 refine qW c2 (qJ ?_);by_cases c3:c.state=3
 ·refine qk c3 (qK ?_);have G:=G6 omQ;have wf:=r.wf hf omQ;have ha3:=r.a3 omQ;have cx:xh c=0:=by simp[xh];omega
  have hw:=O.Rv omQ omQ;rw[iJ (.inr c3)]at hF;unfold yC at hF;rw[iQ (λh=>by omega),iQ c2]at hF;refine qQ (qZ H2 (b:=b0) e_5 (x:=.bool a.done) rfl ?_);cases hd:a.done with
  |false=>rw[hd,iJ rfl]at hF;subst hF;refine jo (qK ?_);refine qX (qQ (qx H2 (b:=b) .here (x:=.int .i64 2) ⟨rfl,rfl⟩ (by simp[xy,zJ]) λh3 H3=>qj (qq (mu ?_))));exact⟨{ q with ph:=2 },rG.r (c:={ c with state:=2 }) (s:=2) ⟨G.sp,G.fin,G.err,G.bH⟩ wf rfl od rfl (qa.trans (cx.trans (by rfl))) (λ_=>ha3) (λh=>absurd h od),H3⟩
  |true=>
   rw[hd,iQ od]at hF;refine jE (qJ ?_);refine qX (qQ (qx H2 (b:=b) .here ⟨rfl,rfl⟩ (by simp[xy,zJ]) λh3 H3=>?_));refine qX (qQ (qx H3 (b:=b) .here ⟨rfl,rfl⟩ (by simp[xy,zJ]) λh4 H4=>?_));have H4:HS g h4 (yg b c { q with ph:=4,at_:=0 } (qv b0 (zY a)::R)):=H4;have qt:=r.t omQ omQ;refine fM H4 (f:=15) (x:=.int .u64 c.now) (by rw[← qt];rfl) ?_;refine fM H4 (f:=5) (x:=.int .u64 c.aa) rfl ?_;by_cases cs:c.now=c.aa
   ·refine qk cs (qK ?_);rw[iJ cs]at hF;subst hF;refine qY (V5 (c:=c) (q:={ q with ph:=4,at_:=0 }) omQ ⟨G.sp,G.fin,G.err,G.bH⟩ qt lp omQ H4) λ_ h5 H5=>qj (qq (mu H5))
   ·refine qW cs (qJ ?_);rw[iQ cs]at hF;subst hF;refine qY (Zg (c:=c) (q:={ q with ph:=4,at_:=0 }) omQ O.toComL hw.1 ⟨G.sp,G.fin,G.err,G.bH⟩ qt wf rfl ha3.symm hw.2 H4) λ_ h5 H5=>hj _ _ (mu H5)
 refine qW c3 (qJ ?_);rw[iQ omQ,iQ omQ]at hF;have cx:xh c=c.at_:=by simp[xh];omega
 by_cases c5:c.state=5
 ·refine qk c5 (qK ?_);have G:=G6 omQ;have qt:=r.t omQ omQ;have wt:c.ag=true:=(r.w (.inl hf)).2 (.inr (.inl c5));rw[iJ c5]at hF;unfold zV at hF;refine fM H2 (f:=14) (x:=.int .i64 c.at_) (by rw[← cx,← qa];rfl) ?_;refine qE omQ ?_;refine qX (qQ (qx H2 (b:=b) .here ⟨rfl,rfl⟩ (by simp[xy,zJ]) λh3 H3=>?_));have H3:HS g h3 (yg b c { q with at_:=c.at_+1 } (qv b0 (zY a)::R)):=H3;refine fM H3 (f:=14) (x:=.int .i64 (c.at_+1)) rfl ?_;refine fM H3 (f:=7) (x:=q.cv) rfl ?_;refine qr H3 (n:=c.cells.length) (v:=q.cv) e_2 ?_;by_cases ce:c.at_+1=(c.cells.length:Int)
  ·refine qk ce (qK ?_);rw[iJ ce]at hF;subst hF;refine qY (Ot (c:={ c with at_:=c.at_+1 }) (q:={ q with at_:=c.at_+1 }) omQ ⟨G.sp,G.fin,G.err,G.bH⟩ qt wt lp (by grind) H3) λ_ h5 H5=>hj _ _ (mu H5)
  ·refine qW ce (qJ ?_);rw[iQ ce]at hF;subst hF;refine hj _ _ (mu ⟨{ q with at_:=c.at_+1 },⟨r.p,λ_=>⟨qp,?_⟩,r.z,r.f7,λh=>absurd h (by grind),r.t,r.w⟩,H3⟩);simp[xh];omega
 refine qW c5 (qJ ?_);rw[iQ c5]at hF;by_cases c6:c.state=6
 ·refine qk c6 (qK ?_);have G:=G6 omQ;have qt:=r.t omQ omQ;have wt:c.ag=true:=(r.w (.inl hf)).2 (.inr (.inr c6));rw[iJ c6]at hF;unfold zo at hF;refine fM H2 (f:=14) (x:=.int .i64 c.at_) (by rw[← cx,← qa];rfl) ?_;refine qE omQ ?_;refine qX (qQ (qx H2 (b:=b) .here ⟨rfl,rfl⟩ (by simp[xy,zJ]) λh3 H3=>?_));have H3:HS g h3 (yg b c { q with at_:=c.at_+1 } (qv b0 (zY a)::R)):=H3;refine fM H3 (f:=14) (x:=.int .i64 (c.at_+1)) rfl ?_;refine fM H3 (f:=8) (x:=q.tv) rfl ?_;refine qr H3 (n:=c.s.length) (v:=q.tv) e_3 ?_;by_cases ce:c.at_+1=(c.s.length:Int)
  ·refine qk ce (qK ?_);rw[iJ ce]at hF;subst hF;refine qX (qQ (qI (qx H3 (b:=b) .here (x:=.int .i64 2) ⟨rfl,rfl⟩ (by simp[xy,zJ]) λh4 H4=>?_)));refine hj _ _ (mu ⟨{ q with at_:=c.at_+1 },⟨λh=>(by cases h),λh=>(by cases h),λh=>(by grind),r.f7,λh=>absurd h (by grind),r.t,λ_=>⟨λ_=>.inl rfl,λ_=>wt⟩⟩,?_⟩);have e:xy { c with at_:=c.at_+1,p:=jI c.p 2 0 (-1) } { q with at_:=c.at_+1 }=(xy c { q with at_:=c.at_+1 }).set 2 (.int .i64 2):=by
    grind[xy,zJ,jI]
   grind
  ·refine qW ce (qJ ?_);rw[iQ ce]at hF;subst hF;refine hj _ _ (mu ⟨{ q with at_:=c.at_+1 },⟨r.p,λ_=>⟨qp,?_⟩,r.z,r.f7,λh=>absurd h (by grind),r.t,r.w⟩,H3⟩);simp[xh];omega
 refine qW c6 (qJ ?_);rw[iQ c6]at hF;have c7:c.state=7:=by omega
 have wf:=r.wf hf omQ;have hz:=r.z hf c7;unfold xK at hF;refine fM H2 (f:=14) (x:=.int .i64 c.at_) (by rw[← cx,← qa];rfl) ?_;refine qE omQ ?_;refine qX (qQ (qx H2 (b:=b) .here ⟨rfl,rfl⟩ (by simp[xy,zJ]) λh3 H3=>?_));have H3:HS g h3 (yg b c { q with at_:=c.at_+1 } (qv b0 (zY a)::R)):=H3;refine fM H3 (f:=14) (x:=.int .i64 (c.at_+1)) rfl ?_;refine fM H3 (f:=9) (x:=q.wv) rfl ?_;refine qr H3 (n:=c.aw.length) (v:=q.wv) e_4 ?_;by_cases ce:c.at_+1=(c.aw.length:Int)
 ·refine qk ce (qK ?_);rw[iJ ce]at hF;subst hF;have Tc:=r.f7 c7;refine fM H3 (f:=16) (x:=.int .i64 c.bn) (by show some (AV.int .i64 q.z.1)=_;rw[hz]) ?_;refine fM H3 (f:=17) (x:=.int .i64 c.fC) (by show some (AV.int .i64 q.z.2.1)=_;rw[hz]) ?_;refine fM H3 (f:=18) (x:=.int .i64 c.oT) (by show some (AV.int .i64 q.z.2.2)=_;rw[hz]) ?_;refine qX (qQ (qI (qx H3 (b:=b) .here ⟨rfl,rfl⟩ (by simp[xy,zJ]) λh4 H4=>?_)));refine qX (qQ (qI (qx H4 (b:=b) .here ⟨rfl,rfl⟩ (by simp[xy,zJ]) λh5 H5=>?_)));refine qX (qQ (qI (qx H5 (b:=b) .here ⟨rfl,rfl⟩ (by simp[xy,zJ]) λh6 H6=>?_)));have lA:c.bn≠0:=by have h:=O.ar;grind[zi]
  exact hj _ _ (mu ⟨{ q with at_:=c.at_+1 },⟨λh=>absurd h lA,λh=>absurd h lA,λh=>absurd h lA,r.f7,λh=>absurd h (by grind),r.t,λh=>(by rcases h with h |h;all_goals trivial)⟩,H6⟩)
 ·refine qW ce (qJ ?_);rw[iQ ce]at hF;subst hF;refine hj _ _ (mu ⟨{ q with at_:=c.at_+1 },⟨r.p,λ_=>⟨qp,?_⟩,r.z,r.f7,λh=>absurd h (by grind),r.t,r.w⟩,H3⟩);simp[xh];omega
end
end
section
variable {g h:AH} {L R:List SP}
section
variable {n b:Nat} {c:jX} {q:Yt}
theorem qqc (hn:1≤n) (O:xf c) (hf:c.p.fin=0) (H:HS g h (bT b c::R)):ba n 51 [.ptr b 0] h λz h'=>some z=(yq c).map (λo=>.agg (xB o))∧HS g h' (bT b c::R):=by
 refine bw (S:=S51) rfl omQ λk hk=>?_;unfold S51;try simp only[iZ]
 obtain⟨q,r,hm,H0⟩:=bT.E H;clear H;refine qh H0 rfl λb0 h1 H1=>?_;clear H0;obtain⟨qp,qa⟩:=r.ph hf;have bK:=O.st;have l1:=O.s;have l2:=O.aw;have l3:=O.seen;have l4:=O.lo;have l5:=O.hi;have mI:=O.now;have lc:c.cells.length≤1000:=O.toComL.cells;have fM:∀{x:AV} {f:Nat} {K:AV→Go.Ae.R} {Q:AV→AH→Prop},(xy c q)[f]? =some x→wp (K x) Q→wp (zn (.ptr b 0) λv=>qH v f λv=>jK h1 v K) Q:=λe w=>qX (qQ (qZ H1 (b:=b) e_1 e w));have fin:∀{o:dj},yq c=some o→wp (jw h1 (.ptr b0 0) (.agg (xB o)) 10 λh'=>jr h' (.ptr b0 0) 10 λv=>some (v,h')) (λz h'=>some z=(yq c).map (λo=>.agg (xB o))∧HS g h' (bT b c::R)):=λ{o} e=>by
  refine zq H1 (b:=b0) .here rfl (by simp) rfl λh2 H2=>?_;refine qo H2 (b:=b0) (off:=0) .here rfl omQ (l:=xB o) rfl (qq ⟨by grind,bT.I r hm H2.drop⟩)
 generalize hN:yq c=N at fin ⊢;unfold yq at hN;rw[iQ (λh=>h hf)]at hN;have num:∀{k:Nat},k<c.s.length→(c.s.map (AV.int .i64))[k]? =some (.int .i64 (qB c.s (k:Int))):=λ{k} hk=>by grind[JJ]
 refine fM (f:=13) (x:=.int .i64 c.state) (by rw[← qp];rfl) ?_;by_cases c0:c.state=0
 ·have hw:=O.hJ hf omQ;have cx:xh c=(c.aw.length:Int):=by unfold xh;grind
  refine qk c0 (qK ?_);rw[iJ c0]at hN;refine fM (f:=8) (x:=q.tv) rfl ?_;refine fM (f:=14) (x:=.int .i64 (c.aw.length:Int)) (by rw[← cx,← qa];rfl) ?_;refine zO (H1.sl (v:=q.tv) (xs:=c.s.map (.int .i64)) e_4) (num hw) ?_;refine qA (l:=xB (bx 3 (qB c.s c.aw.length) 0)) rfl ?_;exact fin hN.symm
 refine qW c0 (qJ ?_);rw[iQ c0]at hN;by_cases c1:c.state=1
 ·have hw:=O.hJ hf omQ;have cx:xh c=(c.aw.length:Int):=by unfold xh;grind
  refine qk c1 (qK ?_);rw[iJ c1]at hN;refine fM (f:=8) (x:=q.tv) rfl ?_;refine fM (f:=14) (x:=.int .i64 (c.aw.length:Int)) (by rw[← cx,← qa];rfl) ?_;refine zO (H1.sl (v:=q.tv) (xs:=c.s.map (.int .i64)) e_4) (num hw) ?_;refine qX (qQ (qo H1 (b:=b) (off:=10) e_1 rfl omQ (l:=yb c.lk) rfl ?_));refine qX (qQ (qI (qZ H1 (b:=b) e_1 (x:=.int .u64 c.lk.1) rfl ?_)));refine qX (qQ (qI (qZ H1 (b:=b) e_1 (x:=.int .i64 c.p.me) rfl ?_)));refine qA (l:=yb (c.lk.1,true,c.me)) (by rw[hm];rfl) ?_;refine qA (l:=xB ⟨4,qB c.s c.aw.length,0,0,c.lk,(c.lk.1,true,c.me)⟩) rfl ?_;exact fin hN.symm
 refine qW c1 (qJ ?_);rw[iQ c1]at hN;by_cases c2:c.state=2
 ·refine qk c2 (qK ?_);rw[iJ c2]at hN;refine qA (l:=xB (bx 6 0 0)) rfl ?_;exact fin hN.symm
 refine qW c2 (qJ ?_);rw[iQ c2]at hN;by_cases c3:c.state=3
 ·have qt:=r.t omQ omQ;refine qk c3 (qK ?_);rw[iJ c3]at hN;refine fM (f:=15) (x:=.int .u64 c.now) (by rw[← qt];rfl) ?_;refine fM (f:=15) (x:=.int .u64 c.now) (by rw[← qt];rfl) ?_;refine KD ?_;rw[MY omQ];refine qA (l:=xB (⟨7,0,c.now,c.now+1,cC,cC⟩)) rfl ?_;exact fin hN.symm
 refine qW c3 (qJ ?_);rw[iQ c3]at hN;have cx:xh c=c.at_:=by simp[xh];omega
 rw[cx]at qa;obtain⟨k,hk⟩:∃k:Nat,c.at_=k:=⟨c.at_.toNat,by omega⟩;rw[hk]at qa hN;have AS:∀{K:AV→Go.Ae.R} {Q:AV→AH→Prop},wp (K (.int .i64 (k:Int))) Q→wp (zn (.ptr b 0) λv=>qH v 14 λv=>jK h1 v K) Q:=λw=>fM (f:=14) (by rw[← qa];rfl) w;by_cases c4:c.state=4
 ·have ap:=O.DD hf c4;refine qk c4 (qK ?_);rw[iJ c4]at hN;refine fM (f:=6) (x:=q.sv) rfl (AS ?_);refine jn (H1.sl (v:=q.sv) (xs:=c.seen.flatMap vW) e_2) omQ omQ (JQ omQ).1 ?_;refine qA (l:=xB (bx 3 (zW c.seen k).1 0)) rfl ?_;exact fin hN.symm
 refine qW c4 (qJ ?_);rw[iQ c4]at hN;by_cases c5:c.state=5
 ·have ap:=O.Rw hf c5;refine qk c5 (qK ?_);rw[iJ c5]at hN;refine fM (f:=7) (x:=q.cv) rfl (AS ?_);refine jn (H1.sl (v:=q.cv) (xs:=c.cells.flatMap jH) e_3) omQ omQ (qZR omQ).1 ?_;refine fM (f:=7) (x:=q.cv) rfl (AS ?_);refine jn (H1.sl (v:=q.cv) (xs:=c.cells.flatMap jH) e_3) omQ omQ (qZR omQ).2 ?_;refine qA (l:=xB (bx 2 (yp c.cells k).1 (yp c.cells k).2)) rfl ?_;exact fin hN.symm
 refine qW c5 (qJ ?_);rw[iQ c5]at hN;by_cases c6:c.state=6
 ·have ap:=O.Rx hf c6;have qt:=r.t omQ omQ;refine qk c6 (qK ?_);rw[iJ c6]at hN;refine fM (f:=8) (x:=q.tv) rfl (AS ?_);refine zO (H1.sl (v:=q.tv) (xs:=c.s.map (.int .i64)) e_4) (num omQ) ?_;refine fM (f:=15) (x:=.int .u64 c.now) (by rw[← qt];rfl) ?_;refine KD ?_;rw[MY omQ];refine qA (l:=yb (c.now+1,false,0)) rfl ?_;refine qA (l:=xB (⟨5,qB c.s k,0,0,cC,(c.now+1,false,0)⟩)) rfl ?_;exact fin hN.symm
 refine qW c6 (qJ ?_);rw[iQ c6]at hN;have ap:=O.Ry hf omQ;refine fM (f:=8) (x:=q.tv) rfl (AS ?_);refine zO (H1.sl (v:=q.tv) (xs:=c.s.map (.int .i64)) e_4) (num omQ) ?_;refine fM (f:=9) (x:=q.wv) rfl (AS ?_);refine xI (l:=yb (jj c.aw k)) (H1.sl (v:=q.wv) (xs:=c.aw.flatMap yb) e_5) omQ omQ (ZS omQ) ?_;refine qA (l:=xB (⟨5,qB c.s k,0,0,cC,jj c.aw k⟩)) rfl ?_;exact fin hN.symm
theorem qkf {me sp st a w:Int} {v1 v2:AV} {r:List z6} {cs:List Cl} (hn:4≤n) (hr:r.length≤1000) (h0:0<cs.length) (hl:cs.length≤1000) (hc:∀c∈cs,0≤c.1∧c.1<100000)
  (H:HS g h R) (S1:Rd g R 2 r.length v1 (r.flatMap vW)) (S2:Rd g R 2 cs.length v2 (cs.flatMap jH)) (uY:0<(xn cs a w).length) :
  ba n 101 [.int .i64 me,.int .i64 sp,.int .u64 st,v1,v2,.int .i64 a,.int .i64 w] h λv h'=>∃b,v=.ptr b 0∧HS g h' (bT b (Xz me sp st r cs a w)::R):=by
 refine TV (S:=S101) rfl omQ λk hk=>?_;unfold S101;try simp only[iZ]
 refine qY (KQ omQ H) ?_;rintro _ h0 ⟨rfl,H⟩;have H0:=H.aj (e:=124) (sz:=2);refine zA H0 (S1.sl H) omQ omQ (Mu (λ_=>rfl) _) λu1 h1 H1=>?_;rw[Nat.zero_add,List.nil_append]at H1;have H1':=H1.aj (e:=63) (sz:=2);refine zA H1' (S2.sl H1.drop) omQ omQ (Mu (λ_=>rfl) _) λu2 h2 H2=>?_;rw[Nat.zero_add,List.nil_append]at H2;have o1:=H2.one e_1;have o2:=H2.one .here
 let c0:jX:=⟨Uv me sp,me,st,r,cs,[],[],0,0,cC,0,false,0,0,0⟩
 let q0:Yt:=⟨(Uv me sp).spins,0,0,0,(0,0,0),u1,u2,.aj,.aj⟩
 refine qA (l:=xy c0 q0) (by simp only[gn,o1.1,o2.1];rfl) ?_;refine qh H2 (by simp only[xy,zJ,jW,List.all_cons,o1.2,o2.2,List.cons_append,List.nil_append,q0,c0];rfl) λb h3 H3=>?_;refine qX (qQ (qZ H3 (b:=b) .here (x:=u2) rfl ?_));refine qY (qZt omQ H3 (H3.rd e_1) hl hc) λu3 h4 H4=>?_;have o3:=H4.one .here;refine qX (qQ (qx H4 (b:=b) e_1 o3 (by simp[xy,zJ]) λh5 H5=>?_));have H6:=H5.aj (e:=44) (sz:=3);have bK:(Xz me sp st r cs a w).state=0:=by show(if(0:Nat)=(xn cs a w).length then(2:Int)else 0)=0;grind
 have H7:HS g h5 (yg b (Xz me sp st r cs a w) { q0 with tv:=u3 } R):=H6.sub (.cons e_1 (.cons e_3 (.cons e_2 (.cons e_1 (.cons .here .refl)))));refine jc [] (λz h'=>z=(.ptr b 0,())∧h'=h5) (λj hj=>?_) ?_
 ·refine qX (qQ (qZ H7 (b:=b) .here (x:=u3) rfl ?_));refine qr H7 (n:=(xn cs a w).length) (v:=u3) e_3 ?_;refine qW omQ (qJ ?_);exact hj _ _ ⟨rfl,rfl⟩
 rintro _ _ ⟨rfl,rfl⟩
 refine qj (qq ⟨b,rfl,bT.I (q:={ q0 with tv:=u3 }) ⟨λ_=>⟨λ_=>rfl,rfl,rfl⟩,λ_=>⟨bK.symm,?_⟩,λ_ h7=>absurd h7 (by grind),λh7=>absurd h7 (by grind),λ_=>rfl,λh3=>absurd h3 (by grind),λ_=>⟨λh=>(by cases h),λh=>(by
  rcases h with h |h |h
  ·cases h
  all_goals grind)⟩⟩ rfl H7⟩)
 unfold xh;rw[iJ (by grind)];rfl
end
end
section
variable {g h:AH} {L R:List SP}
def Jj (x:wc):Int:=if x.aU=true then x.at_ else-1
def gL (x:wc) (sp at_:Int) (sv:AV):List AV:=zJ x.p sp++[sv,.int .i64 at_,.int .u64 x.aa]
def cm (b:Nat) (x:wc):SP:=.ex λq:Int×Int×AV=>.all [.fk (MV x.p q.1∧(x.p.fin=0→q.2.1=Jj x)),qv b (gL x q.1 q.2.1 q.2.2),qC 124 2 x.seen.length q.2.2 (x.seen.flatMap vW)]
section
variable {n b m:Nat} {x:wc} {a:cB} {e:TypeId} {v:AV} {r:List z6}
theorem cm.E (H:HS g h (cm b x::R)):∃sp at_ sv,MV x.p sp∧(x.p.fin=0→at_=Jj x)∧HS g h (qv b (gL x sp at_ sv)::qC 124 2 x.seen.length sv (x.seen.flatMap vW)::R):=by obtain⟨⟨sp,at_,sv⟩,H⟩:=H.iq;obtain⟨⟨q1,q2⟩,H⟩:=H.cE.dT;exact⟨sp,at_,sv,q1,q2,H⟩
theorem cm.I {sp at_:Int} {sv:AV} (Q:MV x.p sp) (q:x.p.fin=0→at_=Jj x) (H:HS g h (qv b (gL x sp at_ sv)::qC 124 2 x.seen.length sv (x.seen.flatMap vW)::R)):HS g h (cm b x::R) :=
 HS.iO (sp,at_,sv) (HS.allI (A:=[_,_,_]) (HS.dU ⟨Q,q⟩ H))
theorem qVm {me spins:Int} (hn:3≤n) (hr:r.length≤1000) (H:HS g h L) (s:bB L (qC e 2 r.length v (r.flatMap vW)) R) :
  ba n 100 [.int .i64 me,.int .i64 spins,v] h λz h'=>∃b,z=.ptr b 0∧HS g h' (cm b (BZ me spins r)::L):=by
 refine dV (S:=S100) rfl omQ λk hk=>?_;unfold S100;try simp only[iZ]
 refine qY (KQ omQ H) ?_;rintro _ h0 ⟨rfl,H⟩;have H0:=H.aj (e:=124) (sz:=2);refine zA H0 (H0.sl (.there s)) omQ omQ (Mu (λ_=>rfl) _) λv2 h2 H2=>?_;rw[Nat.zero_add,List.nil_append]at H2;have o2:=H2.one .here;refine qA (l:=gL (BZ me spins r) (Uv me spins).spins (-1) v2) (by simp only[gn,o2.1];rfl) ?_;refine qh H2 (by simp only[gL,zJ,jW,List.all_cons,o2.2,List.cons_append,List.nil_append];rfl) λb h3 H3=>?_;exact qq ⟨b,rfl,cm.I (λ_=>⟨rfl,rfl,rfl⟩) (λ_=>rfl) H3⟩
theorem qZ3 (hn:1≤n) (hf:x.p.fin=0) (ha:x.aU=true→0≤x.at_∧x.at_<x.seen.length) (H:HS g h (cm b x::R)) :
  ba n 50 [.ptr b 0] h λz h'=>some z=(Qi x).map (λo=>.agg (xB o))∧HS g h' (cm b x::R):=by
 refine bw (S:=S50) rfl omQ λk hk=>?_;unfold S50;try simp only[iZ]
 obtain⟨sp,at_,sv,Q,q,H0⟩:=cm.E H;have q0:=q hf;refine qh H0 rfl λb0 h1 H1=>?_;have fin:∀{o:dj},Qi x=some o→wp (jw h1 (.ptr b0 0) (.agg (xB o)) 10 λh'=>jr h' (.ptr b0 0) 10 λv=>some (v,h')) (λz h'=>some z=(Qi x).map (λo=>.agg (xB o))∧HS g h' (cm b x::R)):=λ{o} e=>by
  refine zq H1 (b:=b0) .here rfl (by simp) rfl λh2 H2=>?_;refine qo H2 (b:=b0) (off:=0) .here rfl omQ (l:=xB o) rfl (qq ⟨by grind,cm.I Q q H2.drop⟩)
 generalize hN:Qi x=N at fin ⊢;unfold Qi at hN;rw[iQ (λh=>h hf)]at hN;refine qX (qQ (qZ H1 (b:=b) e_1 (x:=.int .i64 (Jj x)) (by rw[← q0];rfl) ?_));cases hl:x.aU with
 |false=>
  have e:Jj x= -1:=by grind[Jj]
  rw[iJ hl]at hN;refine jO omQ (qK ?_);refine qA (l:=xB (bx 6 0 0)) rfl ?_;exact fin hN.symm
 |true=>
  have e:Jj x=x.at_:=by grind[Jj]
  obtain⟨a0,a1⟩:=ha hl;rw[iQ (by grind)]at hN;refine jM omQ (qJ ?_);obtain⟨k,hk⟩:∃k:Nat,x.at_=(k:Int):=⟨x.at_.toNat,by omega⟩;have fR:k<x.seen.length:=by omega
  refine qX (qQ (qZ H1 (b:=b) e_1 (x:=sv) rfl ?_));refine qX (qQ (qZ H1 (b:=b) e_1 (x:=.int .i64 (k:Int)) (by rw[← hk,← e,← q0];rfl) ?_));refine jn (H1.sl (v:=sv) (xs:=x.seen.flatMap vW) e_2) omQ fR (JQ fR).1 ?_;refine qA (l:=xB (bx 3 (zW x.seen (k:Int)).1 0)) rfl ?_;rw[hk]at hN;exact fin hN.symm
end
end
section
variable {g h:AH} {L R:List SP}
def mo (f:Int×Int):Int:=if f.2=0 then-1 else f.2
theorem qyB {l:List AV} {x:AV} {z:Int} {n:Nat} {k:IntKind} {K:AV→Go.Ae.R} {Q:AV→AH→Prop} (h0:0≤z) (hi:z.toNat<n) (hx:l[z.toNat]? =some x) (w:wp (K x) Q):wp (J6 (.agg l) (.int k z) n 1 K) Q:=by obtain⟨i,rfl⟩:∃i:Nat,z=i:=⟨z.toNat,by omega⟩;rw[Int.toNat_natCast]at hi hx;show wp (bif Nat.ble (i+1) n then ob (kN l (i*1)) K else none) Q;rw[iY hi,Nat.mul_one,yv,hx];exact w
set_option maxHeartbeats 4000000 in
theorem qw5 {n:Nat} (hn:1≤n) {op:Int} (ho:1≤op∧op≤22) (H:HS g h R):ba n 118 [.int .i64 op] h λr h'=>(∃nm,r=.cA [.agg [.str nm,.int .i64 (mo (xY op).1),.int .i64 (mo (xY op).2.1),.int .i64 (mo (xY op).2.2),.bool (decide (op=1))],.bool true])∧HS g h' R:=by
 (refine q8 (g:=W118) rfl omQ λk hk=>?_;show wp (S118 (callT tab qL k) _ _) _;unfold S118;try simp only[iI,iZ])
 refine qh H rfl λb0 h1 H1=>?_;have fin:∀(nm:List UInt8) (a b c:Int) (t:Bool),wp (jw h1 (.ptr b0 0) (.agg [.str nm,.int .i64 a,.int .i64 b,.int .i64 c,.bool t]) 5 λh4=>jr h4 (.ptr b0 0) 5 λv5=>some (.cA [v5,.bool true],h4)) λr h'=>r=.cA [.agg [.str nm,.int .i64 a,.int .i64 b,.int .i64 c,.bool t],.bool true]∧HS g h' R:=by intro nm a b c t;refine zq H1 (b:=b0) .here rfl (by show 0+5≤5;omega) rfl λh2 H2=>?_;have H2:HS g h2 (qv b0 [.str nm,.int .i64 a,.int .i64 b,.int .i64 c,.bool t]::R):=H2;refine qo H2 (b:=b0) (off:=0) .here rfl omQ (l:=[.str nm,.int .i64 a,.int .i64 b,.int .i64 c,.bool t]) rfl ?_;exact qq ⟨rfl,H2.drop⟩
 have hc:op=1∨op=2∨op=3∨op=4∨op=5∨op=6∨op=7∨op=8∨op=9∨op=10∨op=11∨op=12∨op=13∨op=14∨op=15∨op=16∨op=17∨op=18∨op=19∨op=20∨op=21∨op=22:=by omega
 rcases hc with rfl |rfl |rfl |rfl |rfl |rfl |rfl |rfl |rfl |rfl |rfl |rfl |rfl |rfl |rfl |rfl |rfl |rfl |rfl |rfl |rfl |rfl
 all_goals repeat (first |with_reducible refine qW omQ ?_ |with_reducible refine qk omQ ?_ |with_reducible refine qJ ?_ |with_reducible refine qK ?_ |(with_reducible refine qG ?_;try dsimp only) |with_reducible refine qn omQ ?_ |with_reducible refine qyB od od rfl ?_ |with_reducible refine qA rfl ?_)
 all_goals exact wp.mono (fin _ _ _ _ _) λr h' ⟨e,H'⟩=>⟨⟨_,e⟩,H'⟩
theorem kh {n:Nat} (hn:1≤n) {z:Int} {f:Int×Int} (hf:f.1=0∧0≤f.2):ba n 119 [.int .i64 z,.int .i64 (mo f)] h λr h'=>r=.bool (Qb f z)∧h'=h:=by
 refine cu (S:=S119) rfl omQ λk hk=>?_;unfold S119;try simp only[iZ]
 have hm:(f.2=0∧mo f= -1)∨(0<f.2∧mo f=f.2):=by
  unfold mo
  omega
 generalize mo f=m at*;by_cases c1:z=0<;>by_cases c2:m<0<;>by_cases c3:0≤z<;>by_cases c4:z≤m
 all_goals first |(exfalso;omega) |skip
 all_goals repeat (first |with_reducible refine qK ?_ |with_reducible refine qJ ?_ |(with_reducible refine qf ?_;try dsimp only) |(with_reducible refine ql ?_;try dsimp only) |(with_reducible refine qe ?_;try dsimp only) |(with_reducible refine qP ?_;try dsimp only) |(with_reducible refine zQ ?_;try dsimp only) |with_reducible refine qF ?_ |with_reducible refine qy ?_ |(with_reducible refine qG ?_;try dsimp only) |with_reducible refine qj ?_ |with_reducible refine jE ?_ |with_reducible refine jo ?_ |with_reducible refine qn omQ ?_ |with_reducible refine qX ?_ |with_reducible refine qQ ?_ |with_reducible refine qi rfl ?_ |with_reducible refine qZ ‹_› .here rfl ?_ |with_reducible refine qr ‹_› .here ?_ |with_reducible refine qA rfl ?_ |with_reducible refine qk omQ ?_ |with_reducible refine qW omQ ?_ |with_reducible refine jb omQ ?_ |with_reducible refine jR omQ ?_ |with_reducible refine jO omQ ?_ |with_reducible refine jM omQ ?_ |with_reducible refine ve omQ ?_ |with_reducible refine vj omQ ?_ |with_reducible refine xL omQ ?_ |with_reducible refine xJ omQ ?_ |with_reducible refine zK omQ ?_ |with_reducible refine jt omQ ?_)
 all_goals refine qq ⟨?_,rfl⟩
 all_goals first |rw[show Qb f z=true from iG omQ] |simp[Qb];omega
theorem qWt (op:Int) (h:op≠23):((xY op).1.1=0∧0≤(xY op).1.2)∧((xY op).2.1.1=0∧0≤(xY op).2.1.2)∧((xY op).2.2.1=0∧0≤(xY op).2.2.2):=by
 unfold xY;grind
theorem qwB {n:Nat} (hn:2≤n) {x:qO} (hm:kC x=true) (hx:x.1≠23) (H:HS g h R):ba n 109 [.agg (ju x)] h λr h'=>r=.bool true∧HS g h' R:=by
 refine bw (S:=S109) rfl omQ λk hk=>?_;unfold S109;try simp only[iZ]
 obtain⟨op,a,b,c,q⟩:=x;unfold kC at hm;simp only[Bool.and_eq_true,decide_eq_true_eq]at hm;obtain⟨⟨⟨⟨ho,fa⟩,fb⟩,fc⟩,hq⟩:=hm;dsimp only at hx;obtain⟨oa,ob,oc⟩:=qWt op hx;refine qh H rfl λb0 h1 H1=>?_;have H1:HS g h1 (qv b0 [.int .i64 op,.int .i64 a,.int .i64 b,.int .i64 c,.int .u64 q]::R):=H1;refine qQ (qZ ‹_› .here rfl ?_);refine qY (qw5 omQ omQ H1) ?_;rintro _ h2 ⟨⟨nm,rfl⟩,H2⟩;refine qi rfl ?_;refine qi rfl ?_;refine qh H2 rfl λb2 h3 H3=>?_;refine zq H3 (b:=b2) .here rfl (by simp) rfl λh4 H4=>?_;have H4:HS g h4 (qv b2 [.str nm,.int .i64 (mo (xY op).1),.int .i64 (mo (xY op).2.1),.int .i64 (mo (xY op).2.2),.bool (decide (op=1))]::qv b0 [.int .i64 op,.int .i64 a,.int .i64 b,.int .i64 c,.int .u64 q]::R):=H4;clear H1 H2 H3;by_cases Ay:op=1
 ·rw[iG Ay]at H4;refine jE (qG ?_);(try dsimp only);refine qP ?_;(try dsimp only);refine qQ (qZ ‹_› .here rfl ?_);refine jE (qG ?_);(try dsimp only);refine qe ?_;(try dsimp only);refine qG ?_;(try dsimp only);refine qP ?_;(try dsimp only);refine qy (qy (qG ?_));(try dsimp only);refine qP ?_;(try dsimp only);refine qQ (qZ ‹_› e_1 rfl ?_);refine qQ (qZ ‹_› .here rfl ?_)
  refine qY (kh omQ oa) ?_;rintro _ _ ⟨rfl,rfl⟩;rw[fa];refine jE (qy (qG ?_));(try dsimp only);refine qP ?_;(try dsimp only);refine qQ (qZ ‹_› e_1 rfl ?_);refine qQ (qZ ‹_› .here rfl ?_)
  refine qY (kh omQ ob) ?_;rintro _ _ ⟨rfl,rfl⟩;rw[fb];refine jE (qy (qG ?_));(try dsimp only);refine qP ?_;(try dsimp only);refine qQ (qZ ‹_› e_1 rfl ?_);refine qQ (qZ ‹_› .here rfl ?_)
  refine qY (kh omQ oc) ?_;rintro _ _ ⟨rfl,rfl⟩;rw[fc];refine jE (qy (qJ (qQ (qZ ‹_› e_1 rfl ?_))));refine jb omQ ?_;refine qG ?_;(try dsimp only);refine ql ?_;(try dsimp only);refine qF ?_
  exact qq ⟨rfl,H4.drop.drop⟩
 ·rw[iV Ay]at H4;have hq0:q=0:=by
   grind
  subst hq0;refine jE (qG ?_);(try dsimp only);refine qP ?_;(try dsimp only);refine qQ (qZ ‹_› .here rfl ?_);refine jo (qG ?_);(try dsimp only);refine qf ?_;(try dsimp only);refine qQ (qZ ‹_› e_1 rfl ?_);refine jR omQ ?_;refine qG ?_;(try dsimp only);refine qP ?_;(try dsimp only);refine qF (qy (qG ?_));(try dsimp only);refine qP ?_;(try dsimp only);refine qQ (qZ ‹_› e_1 rfl ?_);refine qQ (qZ ‹_› .here rfl ?_)
  refine qY (kh omQ oa) ?_;rintro _ _ ⟨rfl,rfl⟩;rw[fa];refine jE (qy (qG ?_));(try dsimp only);refine qP ?_;(try dsimp only);refine qQ (qZ ‹_› e_1 rfl ?_);refine qQ (qZ ‹_› .here rfl ?_)
  refine qY (kh omQ ob) ?_;rintro _ _ ⟨rfl,rfl⟩;rw[fb];refine jE (qy (qG ?_));(try dsimp only);refine qP ?_;(try dsimp only);refine qQ (qZ ‹_› e_1 rfl ?_);refine qQ (qZ ‹_› .here rfl ?_)
  refine qY (kh omQ oc) ?_;rintro _ _ ⟨rfl,rfl⟩;rw[fc];refine jE (qy (qJ (qQ (qZ ‹_› e_1 rfl ?_))));refine jb omQ ?_;refine qG ?_;(try dsimp only);refine ql ?_;(try dsimp only);refine qF ?_
  exact qq ⟨rfl,H4.drop.drop⟩
end
section
variable {g h:AH} {L R:List SP}
def Je (l:List qO) (p:Int):List AV:=[.int .i64 p,.int .i64 (qM l p).1]
theorem Q6 (l:List qO) (st:List Int):(st.flatMap (Je l)).length=st.length*2:=wo (sz:=2) _ (λ_=>rfl) _
theorem qy3 {l:List qO} (F:Fit l):∀i j,i≤j→j<l.length→(rD l (ym l 0 []) i)[j]? =some (-1):=by
 intro i
 induction i with
 |zero=>simp[rD,List.getElem?_replicate]
 |succ i ih=>
  intro j h1 h2;rw[IX]
  split
  ·rename_i he;rw[List.getElem?_set_ne,ih j omQ h2];rw[gA F omQ];have hn:=(x8 (F.ok i omQ)).2.1 (.inl he);have:=(Gb (l:=l) i).1.fo hn;omega
  grind
def Ki (l:List qO) (i:Nat):List Int:=(rD l (ym l 0 []) i).take i++List.replicate (l.length-i) 0
def Ch (l:List qO) (i:Nat):List Int:=(rD l (ym l 0 []) i).take (i+1)++List.replicate (l.length-(i+1)) 0
theorem qXp {n i:Nat} (h:i<n):List.replicate (n-i) (0:Int)=0 ::List.replicate (n-(i+1)) 0:=by rw[show n-i=(n-(i+1))+1 by omega,List.replicate_succ]
theorem jQm {l:List qO} (F:Fit l) {i:Nat} (h:i<l.length):(Ki l i).set i (-1)=Ch l i:=by have hl:=GY (l:=l) (A:=ym l 0 []) i;unfold Ki Ch;rw[qXp h,List.set_append_right _ _ (by grind),List.length_take,Nat.min_eq_left omQ,Nat.sub_self,List.set_cons_zero,List.take_add_one,qy3 F i i (Nat.le_refl _) h,List.append_assoc];rfl
theorem qvs {l:List qO} {i:Nat} (h:¬0<zr (qM l i).1):Ch l i=Ki l (i+1):=by simp_all[Ch,Ki,IX,iQ]
theorem jQO {l:List qO} (F:Fit l) {i p:Nat} (h:i<l.length) (he:0<zr (qM l i).1) (hp:jD (qw l i)=p) (su:p<i):(Ch l i).set p i=Ki l (i+1):=by have hl:=GY (l:=l) (A:=ym l 0 []) i;unfold Ch Ki;rw[IX,iJ he,gA F h,hp,Int.toNat_natCast,List.take_set,List.set_append_left _ _ (by grind)]
theorem qw7 {l:List qO} {i:Nat} (h:i<l.length):(Ch l i).length=l.length:=by grind[GY,ym,Ch]
theorem qx2 {l:List qO} (F:Fit l) {i:Nat} (h:i<l.length):((ym l 0 []).take i++List.replicate (l.length-i) 0).set i (jD (qw l i))=(ym l 0 []).take (i+1)++List.replicate (l.length-(i+1)) 0:=by have hl:(ym l 0 []).length=l.length:=VU;rw[qXp h,List.set_append_right _ _ (by grind),List.length_take,Nat.min_eq_left omQ,Nat.sub_self,List.set_cons_zero,List.take_add_one,F.tU i h,List.append_assoc];rfl
theorem Zs {op:Int}:(op=15→zr op=14)∧(op=18→zr op=17)∧(op=19→zr op=18)∧(op≠15→op≠18→op≠19→zr op=0):=by simp_all[zr,omQ]
theorem Zi {st:List Int} (h:st≠[]):st=st.dropLast++[jD st]:=by grind[List.dropLast_concat_getLast,jD,List.getLast?_eq_some_getLast]
theorem qzE {x:qO} {i:Nat} {st:List Int} (uK:0<zr x.1∨x.1=16→st≠[]) (dY:dv i st) (c:x.1=15∨x.1=19∨x.1=18):0<zr x.1∧st≠[]∧∃p:Nat,jD st=p∧p<i:=by
 have ix:=Zs (op:=x.1);have he:0<zr x.1:=by
  grind
 have hn:=uK (.inl he);have:=dY.fo hn;exact⟨he,hn,(jD st).toNat,by omega,by omega⟩
set_option maxHeartbeats 8000000 in
theorem qja {n:Nat} (hn:3≤n) {l:List qO} {sv:AV} (F:Fit l) (Q:bO l) (H:HS g h R) (S:Rd g R 5 l.length sv (l.flatMap ju)) :
  ba n 93 [.agg [sv]] h λr h'=>∃rv mv,r=.cA [.int .i64 0,.int .i64 0,rv,mv]∧HS g h' (qC 3 1 l.length mv ((qT l).map (.int .i64))::R):=by
 refine bw (S:=S93) rfl omQ λk hk=>?_;unfold S93;try simp only[iZ]
 have uY:=F.pos;have hle:=F.le;refine qh H (MC (Zd (S.sl H))) λb0 h1 H1=>?_;have LC:=(S.sl H).Ij;clear H;refine qQ (qZ ‹_› .here rfl ?_);refine wV ‹_› ?_;refine qW omQ ?_;refine qG ?_;(try dsimp only);refine qP ?_;(try dsimp only);refine qQ (qZ ‹_› .here rfl ?_);refine wV ‹_› ?_;refine xJ omQ ?_;refine qy (qJ (qQ (qZ ‹_› .here rfl ?_)));refine wV ‹_› ?_
 refine Xy (n:=l.length) H1 omQ λrv h2 H2=>?_;refine qQ (qZ ‹_› e_1 rfl ?_);refine wV ‹_› ?_;refine Xy (n:=l.length) H2 omQ λmv h3 H3=>?_;clear H1 H2
 refine jB (λm s h'=>∃(i:Nat) (tv:AV),s=(.int .i64 (i:Int),mv,rv,tv,.ptr b0 0,())∧i≤l.length∧m=l.length-i∧
  HS g h' (qC 3 1 l.length mv ((Ki l i).map (.int .i64))::qC 3 1 l.length rv (((ym l 0 []).take i++List.replicate (l.length-i) 0).map (.int .i64))::
   qC 198 2 (qw l i).length tv ((qw l i).flatMap (Je l))::qv b0 [sv]::R))
  ?_ (m:=l.length) (by show _<1000000000;omega) ⟨0,.aj,rfl,by omega,by omega,by
   have e1:Ki l 0=List.replicate l.length 0:=by unfold Ki;simp
   rw[e1,List.take_zero,List.nil_append,Nat.sub_zero,List.map_replicate]
   exact(H3.aj (e:=198) (sz:=2)).sub (.cons e_1 (.cons e_1 (.cons .here .refl)))⟩
 clear H3;rintro m ih s h4 bj ⟨i,tv,rfl,hi,rfl,H⟩;dsimp only;by_cases ap:i<l.length
 ·have nT:=Wk ap;have hw:=yy (F.ok i ap);have uK:=x8 (F.ok i ap);have hq:=(Q.at ap).1;have dY:=(Gb (l:=l) i).1;have WR:=Xe F i omQ;have bK:qw l (i+1)=jN (qw l i) i (qM l i).1:=ji;have CM:=qvs (l:=l) (i:=i);have pJ:=λ{p:Nat}=>jQO (i:=i) (p:=p) F ap;have hps:=jQm F ap;have RO:=qx2 F ap;have pz:=qw7 (l:=l) ap;have Tb:=Q6 l (qw l i);rw[yw ap]at bK hw uK hq CM pJ;have fJ:l[i]? =some l[i]:=iW ap;have PF:((l.flatMap ju)[i*5+0]?)=some (.int .i64 l[i].1):=by rw[y9 (sz:=5) ju (λ_=>rfl) _ _ _ omQ,fJ];rfl
  have Ci:(qM l (i:Int)).1=l[i].1:=by rw[yw ap]
  generalize hx:l[i]=x at*;generalize hST:qw l i=st at*;refine qQ (qZ ‹_› e_3 rfl ?_);refine wV ‹_› ?_;refine jO omQ ?_;refine qK (qA rfl ?_);refine qh H rfl λbi h5 H5=>?_;refine zq H5 (b:=bi) .here rfl (by show 0+2≤2;omega) rfl λh6 H6=>?_
  have H6:HS g h6 (qv bi [.int .i64 (-1),.int .i64 ((0:Nat):Int)]::qC 3 1 l.length mv ((Ki l i).map (.int .i64))::qC 3 1 l.length rv (((ym l 0 []).take i++List.replicate (l.length-i) 0).map (.int .i64))::
   qC 198 2 st.length tv (st.flatMap (Je l))::qv b0 [sv]::R):=H6
  clear H H5
  refine jc [] (λs h'=>s=(.ptr bi 0,.int .i64 (i:Int),mv,rv,tv,.ptr b0 0,())∧HS g h' (qv bi [.int .i64 (jD st),.int .i64 (cQ l st)]::qC 3 1 l.length mv ((Ki l i).map (.int .i64))::qC 3 1 l.length rv (((ym l 0 []).take i++List.replicate (l.length-i) 0).map (.int .i64))::
   qC 198 2 st.length tv (st.flatMap (Je l))::qv b0 [sv]::R)) ?_ ?_
  ·intro j hj;refine qr H6 e_3 ?_;by_cases h0:st=[]
   ·subst h0;refine xJ aM (qJ ?_);exact hj _ _ ⟨rfl,H6⟩
   ·have fY:st.length≠0:=λh=>h0 (iA h);refine xL omQ (qK ?_);refine qr H6 e_3 (qn omQ ?_);rw[show(st.length:Int)-((1:Nat):Int)=((st.length-1:Nat):Int) by omega];refine xI (l:=Je l (jD st)) (H6.sl e_3) omQ omQ ?_ ?_
    ·have e:=Zi h0;generalize jD st=z at*;rw[e,List.length_append,List.length_singleton,Nat.add_sub_cancel,List.flatMap_append,List.drop_append_of_le_length (by rw[Q6];exact Nat.le_refl _),List.drop_of_length_le (by rw[Q6];exact Nat.le_refl _)];rfl
    refine zq H6 (b:=bi) .here rfl (by show 0+2≤2;omega) rfl λh7 H7=>?_;refine hj _ _ ⟨rfl,?_⟩;have e:cQ l st=(qM l (jD st)).1:=by unfold cQ;rw[iQ h0]
    rw[e];exact H7
  clear H6;rintro s h7 ⟨rfl,H7⟩;dsimp only;refine qQ (qZ H7 (b:=bi) .here rfl ?_);refine Q9 (H7.aJ e_2) ap ⟨rfl,rfl⟩ λh8 H8=>?_;rw[← List.map_set,RO]at H8;clear H7;refine Q9 (H8.aJ e_2) ap ⟨rfl,rfl⟩ λh9 H9=>?_;have em:(AV.int .i64 (Int.negSucc 0))=.int .i64 (-1):=rfl;rw[em,← List.map_set,hps]at H9;clear H8;refine qQ (qZ H9 (b:=b0) e_4 rfl ?_);refine xI (S.sl H9.drop.drop.drop.drop.drop) ap omQ nT ?_;refine qY (qwB omQ hw.1 hq H9) ?_;rintro _ ia ⟨rfl,dC⟩;clear H9;refine jE (qJ ?_);refine qQ (qZ dC (b:=b0) e_4 rfl ?_);refine jn (S.sl dC.drop.drop.drop.drop.drop) omQ ap PF ?_;have mz:cQ l st=14∧(x.1=15∨x.1=16)∨cQ l st=17∧x.1=18∨cQ l st=18∧x.1=19∨(x.1≠15∧x.1≠16∧x.1≠18∧x.1≠19):=by
   have e:=Zs (op:=x.1);have e2:=hw.2.1;have e3:=hw.2.2.1;by_cases k1:x.1=15
   ·rw[e.1 k1]at e2;have:=e2 omQ;omega
   by_cases k2:x.1=18
   ·rw[e.2.1 k2]at e2;have:=e2 omQ;omega
   by_cases k3:x.1=19
   ·rw[e.2.2.1 k3]at e2;have:=e2 omQ;omega
   by_cases k4:x.1=16
   ·have:=e3 k4;omega
   ·omega
  have ix:=Zs (op:=x.1)
  have mT:∀(RP:AV) (h':AH),HS g h' (qC 3 1 l.length mv ((Ki l (i+1)).map (.int .i64))::qC 3 1 l.length rv (((ym l 0 []).take (i+1)++List.replicate (l.length-(i+1)) 0).map (.int .i64))::
    qC 198 2 (qw l (i+1)).length RP ((qw l (i+1)).flatMap (Je l))::qv b0 [sv]::R)→
    wp (j6 .add (.int .i64 (i:Int)) (.int .i64 ((1:Nat):Int)) λv=>ih (v,mv,rv,RP,.ptr b0 0,()) h' []) λr h'=>∃rv mv,r=.cA [.int .i64 0,.int .i64 0,rv,mv]∧HS g h' (qC 3 1 l.length mv ((qT l).map (.int .i64))::R):=by
   intro RP h' H';exact qE omQ (bj (l.length-(i+1)) _ _ omQ ⟨i+1,RP,rfl,by omega,rfl,H'⟩)
  generalize cQ l st=oi at*;have hc:(x.1=14∨x.1=17)∨(x.1=15∨x.1=19)∨x.1=18∨x.1=16∨(x.1≠14∧x.1≠17∧x.1≠15∧x.1≠19∧x.1≠18∧x.1≠16):=by omega
  have push:(x.1=14∨x.1=17)→wp (j6 .geq (.int .i64 (st.length:Int)) (.int .i64 ((5:Nat):Int)) λDG=>zU DG (zT [] ia λh102=>some (.cA [.int .i64 (i:Int),.int .i64 ((9:Nat):Int),.aj,.aj],h102))
    (zc [.int .i64 ((0:Nat):Int),.int .i64 ((0:Nat):Int)] [(0,1,.int .i64 (i:Int)),(1,1,.int .i64 x.1)] λv103=>xd ia 198 [.int .i64 ((0:Nat):Int),.int .i64 ((0:Nat):Int)] 1 [(0,2,v103)] λEb h105=>
     xH h105 198 2 tv Eb λv106 h107=>j6 .add (.int .i64 (i:Int)) (.int .i64 ((1:Nat):Int)) λv95=>ih (v95,mv,rv,v106,.ptr b0 0,()) h107 [])) λr h'=>∃rv mv,r=.cA [.int .i64 0,.int .i64 0,rv,mv]∧HS g h' (qC 3 1 l.length mv ((qT l).map (.int .i64))::R):=by
   intro c;have hb:=hw.2.2.2 (by unfold xc;exact iG c);have hz:=ix.2.2.2 omQ omQ omQ;refine jt omQ (qJ ?_);refine qA (l:=[.int .i64 (i:Int),.int .i64 x.1]) rfl ?_;refine jY (n:=1) (l:=[.int .i64 (i:Int),.int .i64 x.1]) (sz:=2) dC rfl rfl rfl rfl λv11 dO eQ=>?_;refine zA (eQ.aJ e_4) (eQ.sl .here) omQ omQ rfl λIE iP fK=>?_;refine mT IE iP ?_;have e:jN st i x.1=st++[(i:Int)]:=by unfold jN;rw[iJ (.inl (by unfold xc;exact iG c)),iQ omQ]
   rw[bK,e,← CM omQ,List.length_append,List.flatMap_append];have e2:[(i:Int)].flatMap (Je l)=[.int .i64 (i:Int),.int .i64 x.1]:=by rw[← Ci];rfl
   rw[e2];exact fK.sub (.cons e_2 (.cons e_2 (.cons .here (.drop (.drop (.cons .here .refl))))))
  have pop:(x.1=15∨x.1=19)→wp (yt mv (.int .i64 (jD st)) 1 λv114=>jw ia v114 (.int .i64 (i:Int)) 1 λLD=>kH tv λv116=>j6 .sub v116 (.int .i64 ((1:Nat):Int)) λv117=>xC LD 198 2 tv none (some v117) λv118=>
    j6 .add (.int .i64 (i:Int)) (.int .i64 ((1:Nat):Int)) λv95=>ih (v95,mv,rv,v118,.ptr b0 0,()) LD []) λr h'=>∃rv mv,r=.cA [.int .i64 0,.int .i64 0,rv,mv]∧HS g h' (qC 3 1 l.length mv ((qT l).map (.int .i64))::R):=by
   intro c;obtain⟨he,hn,p,hp,su⟩:=qzE uK.2.1 dY omQ;have fY:st.length≠0:=λh=>hn (iA h);rw[hp];refine Q9 (dC.aJ .here) omQ ⟨rfl,rfl⟩ λdO eQ=>?_;rw[← List.map_set,pJ he hp su]at eQ;refine qr eQ e_3 (qn omQ ?_);rw[show(st.length:Int)-((1:Nat):Int)=((st.length-1:Nat):Int) by omega];refine JS (eQ.aJ e_3) omQ omQ λIE fK=>?_;refine mT IE dO ?_;have e:jN st i x.1=st.dropLast:=by unfold jN;rw[iQ (by unfold xc;rw[iV omQ];simp;omega),iJ he]
   have e2:(st.flatMap (Je l)).take ((st.length-1)*2)=st.dropLast.flatMap (Je l):=by have e3:=congrArg (List.flatMap (Je l)) (Zi hn);rw[e3,List.flatMap_append,List.take_append_of_le_length (by rw[Q6,List.length_dropLast];exact Nat.le_refl _),List.take_of_length_le (by rw[Q6,List.length_dropLast];exact Nat.le_refl _)]
   rw[e2]at fK;rw[bK,e,List.length_dropLast];exact fK.sub (.cons e_1 (.cons e_1 (.cons .here (.drop (.cons .here .refl)))))
  rcases hc with(c |c) |(c |c) |c |c |c
  all_goals repeat (first |with_reducible refine qK ?_ |with_reducible refine qJ ?_ |(with_reducible refine qf ?_;try dsimp only) |(with_reducible refine ql ?_;try dsimp only) |(with_reducible refine qe ?_;try dsimp only) |(with_reducible refine qP ?_;try dsimp only) |(with_reducible refine zQ ?_;try dsimp only) |with_reducible refine qF ?_ |with_reducible refine qy ?_ |(with_reducible refine qG ?_;try dsimp only) |with_reducible refine qj ?_ |with_reducible refine jE ?_ |with_reducible refine jo ?_ |with_reducible refine qn omQ ?_ |with_reducible refine qX ?_ |with_reducible refine qQ ?_ |with_reducible refine qi rfl ?_ |with_reducible refine qZ ‹_› e_2 rfl ?_ |with_reducible refine qr ‹_› e_3 ?_ |with_reducible refine qA rfl ?_ |with_reducible refine qk omQ ?_ |with_reducible refine qW omQ ?_ |with_reducible refine jb omQ ?_ |with_reducible refine jR omQ ?_ |with_reducible refine jO omQ ?_ |with_reducible refine jM omQ ?_ |with_reducible refine ve omQ ?_ |with_reducible refine vj omQ ?_ |with_reducible refine xL omQ ?_ |with_reducible refine xJ omQ ?_ |with_reducible refine zK omQ ?_ |with_reducible refine jt omQ ?_)
  ·exact push (.inl c)
  ·exact push (.inr c)
  ·exact pop (.inl c)
  ·exact pop (.inr c)
  ·obtain⟨he,hn,p,hp,su⟩:=qzE uK.2.1 dY omQ;have fY:st.length≠0:=λh=>hn (iA h);rw[hp]at dC ⊢;refine Q9 (dC.aJ .here) omQ ⟨rfl,rfl⟩ λdO eQ=>?_;rw[← List.map_set,pJ he hp su]at eQ;refine qr eQ e_3 (qn omQ ?_);rw[show(st.length:Int)-((1:Nat):Int)=((st.length-1:Nat):Int) by omega];refine qA (l:=[.int .i64 (i:Int),.int .i64 x.1]) rfl ?_;refine P2 (eQ.aJ e_3) omQ rfl rfl λiP fK=>?_;refine mT tv iP ?_;have e:jN st i x.1=st.dropLast++[(i:Int)]:=by
    unfold jN;rw[iJ (.inr c),iJ he]
   have e2:QH (st.flatMap (Je l)) ((st.length-1)*2) [.int .i64 (i:Int),.int .i64 x.1]=(st.dropLast++[(i:Int)]).flatMap (Je l):=by have e3:=congrArg (List.flatMap (Je l)) (Zi hn);rw[e3,List.flatMap_append,List.flatMap_append,show[(i:Int)].flatMap (Je l)=[.int .i64 (i:Int),.int .i64 x.1] by rw[← Ci];rfl];exact Zw _ _ _ _ _ _ (by rw[Q6,List.length_dropLast])
   rw[e2]at fK;rw[bK,e,List.length_append,List.length_dropLast,List.length_singleton,show st.length-1+1=st.length by omega];exact fK.sub (.cons e_1 (.cons e_1 (.cons .here (.drop (.cons .here .refl)))))
  all_goals
   have hz:=ix.2.2.2 omQ omQ omQ;refine mT tv ia ?_;have e:jN st i x.1=st:=by unfold jN;rw[iQ (by unfold xc;rw[iV omQ];simp;omega),iQ omQ]
   rw[bK,e,← CM omQ];exact dC.sub (.cons .here (.cons .here (.cons e_1 (.drop (.cons .here .refl)))))
 ·obtain rfl:i=l.length:=by omega
  clear bj;have hnil:=F.nil;rw[hnil]at H;have eA:(ym l 0 []).take l.length++List.replicate (l.length-l.length) 0=ym l 0 []:=by rw[Nat.sub_self,List.replicate_zero,List.append_nil,List.take_of_length_le (by rw[VU];exact Nat.le_refl _)]
  have eM:Ki l l.length=li l (ym l 0 []) 0:=by unfold Ki;rw[Nat.sub_self,List.replicate_zero,List.append_nil,List.take_of_length_le (by rw[GY];exact Nat.le_refl _)];rfl
  rw[eA,eM]at H;have H:=H.sub (L':=qC 3 1 l.length mv ((li l (ym l 0 []) 0).map (.int .i64))::qC 3 1 l.length rv ((ym l 0 []).map (.int .i64))::qC 198 2 0 tv []::qv b0 [sv]::R) (.cons .here (.cons .here (.cons .here (.cons .here .refl))));refine qQ (qZ ‹_› e_3 rfl ?_);refine wV ‹_› ?_;refine jM omQ ?_;refine qJ (qr ‹_› e_2 ?_);refine xJ omQ ?_;refine qJ ?_;have hM:qT l=li l (ym l 0 []) l.length:=rfl;rw[hM];have hA:(ym l 0 []).length=l.length:=VU;have hrg:=λ{j:Nat} (h:j<l.length)=>F.tU j h;have hnr:=λ{j:Nat} (h:j<l.length)=>gA F h;have EU:=λ{j:Nat} (h:j<l.length)=>F.jump j h;have hmy:=λ{j:Nat} (h:j<l.length)=>(yy (F.ok j h)).1;have hL2:∀i,(li l (ym l 0 []) i).length=l.length:=λi=>Zm i;have hri:=λ{j:Nat} (h:j<l.length) (ho:(qM l j).1=16)=>(vM (l:=l) (i:=j) ((x8 (F.ok j h)).2.1 (.inr ho)));generalize ym l 0 []=A at*
  refine jB (λm s h'=>∃i:Nat,s=(.int .i64 (i:Int),mv,rv,.ptr b0 0,())∧i≤l.length∧m=l.length-i∧
   HS g h' (qC 3 1 l.length mv ((li l A i).map (.int .i64))::qC 3 1 l.length rv (A.map (.int .i64))::qv b0 [sv]::R))
   ?_ (m:=l.length) (by show _<1000000000;omega) ⟨0,rfl,by omega,by omega,H.sub (.cons .here (.cons .here (.drop (.cons .here .refl))))⟩
  clear H eA eM hM;rintro m ih s h6 bj ⟨i,rfl,hi,rfl,H⟩;dsimp only;by_cases ap:i<l.length
  ·have nT:=Wk ap;have hrgi:=hrg ap;have hnri:=hnr ap;have oI:=EU ap;have LH:=hmy ap;have A0:=hri ap;have oJ:li l A (i+1)=if(qM l (i:Int)).1=16 then(li l A i).set i (qB (li l A i) (qB A (i:Int)))else li l A i:=rfl
   rw[yw ap]at oJ oI LH A0;generalize l[i]=x at*;refine qQ (qZ H (b:=b0) e_2 rfl (wV LC ?_));refine jO omQ (qK (qG ?_));dsimp only;refine qQ (qZ H (b:=b0) e_2 rfl ?_);refine xI (S.sl H.drop.drop.drop) ap omQ nT ?_;refine qh H rfl λb h7 H7=>?_;refine zq H7 (b:=b) .here rfl (by simp) rfl λh8 H8=>?_;have H8:HS g h8 (qv b [.int .i64 x.1,.int .i64 x.2.1,.int .i64 x.2.2.1,.int .i64 x.2.2.2.1,.int .u64 x.2.2.2.2]::qC 3 1 l.length mv ((li l A i).map (.int .i64))::qC 3 1 l.length rv (A.map (.int .i64))::qv b0 [sv]::R):=H8;clear H H7
   refine jc [] (λs h'=>s=(.ptr b 0,.int .i64 (i:Int),mv,rv,.ptr b0 0,())∧
    HS g h' (qv b [.int .i64 x.1,.int .i64 x.2.1,.int .i64 x.2.2.1,.int .i64 x.2.2.2.1,.int .u64 x.2.2.2.2]::qC 3 1 l.length mv ((li l A (i+1)).map (.int .i64))::qC 3 1 l.length rv (A.map (.int .i64))::qv b0 [sv]::R)) ?_ ?_
   ·intro j hj;refine qQ (qZ H8 (b:=b) .here rfl ?_);by_cases he:x.1=16
    ·obtain⟨p,hp,nR,_⟩:=A0 he;rw[iJ he,hnri,hp]at oJ;refine qk he (qK ?_);refine zO (H8.sl e_2) (x:=.int .i64 (p:Int)) (by rw[List.getElem?_map,hrgi,hp];rfl) ?_;refine zO (H8.sl e_1) (x:=.int .i64 (qB (li l A i) (p:Int))) (by rw[List.getElem?_map,JJ (by rw[hL2];omega)];rfl) ?_;refine Q9 (H8.aJ e_1) ap ⟨rfl,rfl⟩ λh9 H9=>?_;rw[← List.map_set,← oJ]at H9;exact hj _ _ ⟨rfl,H9.sub (.cons e_1 (.cons .here .refl))⟩
    ·refine qW he (qJ ?_);rw[iQ he]at oJ;exact hj _ _ ⟨rfl,by rw[oJ];exact H8⟩
   clear H8;rintro s h9 ⟨rfl,H9⟩;dsimp only;have mT:wp (j6 .add (.int .i64 (i:Int)) (.int .i64 ((1:Nat):Int)) λv=>ih (v,mv,rv,.ptr b0 0,()) h9 []) λr h'=>∃rv mv,r=.cA [.int .i64 0,.int .i64 0,rv,mv]∧HS g h' (qC 3 1 l.length mv ((li l A l.length).map (.int .i64))::R) :=
    qE omQ (bj (l.length-(i+1)) _ _ omQ ⟨i+1,rfl,by omega,rfl,H9.drop⟩)
   by_cases hj:x.1=12∨x.1=13
   ·obtain⟨c,LI,dE⟩:∃c:Nat,x.2.2.2.1=c∧c≤40:=by
     have:=qzl LH hj;exact⟨x.2.2.2.1.toNat,by omega,by omega⟩
    rw[LI]at H9;have fJ:∀k:Nat,k<l.length→(A.map (AV.int .i64))[k]? =some (.int .i64 (qB A (k:Int))):=by intro k hk;rw[List.getElem?_map,JJ omQ];rfl
    unfold YP at oI;rw[LI]at oI;have sE:c≤l.length:=by
     rcases Nat.lt_or_ge l.length c with h |h
     ·exact absurd ⟨hj,.inl omQ⟩ oI
     ·exact h
    by_cases c2:c=l.length
    ·have c3:qB A (i:Int)= -1:=Classical.not_not.1 λh=>oI ⟨hj,.inr (.inl ⟨by omega,h⟩)⟩;clear oI A0;subst c2;rcases hj with hj |hj
     all_goals repeat (first |with_reducible refine qK ?_ |with_reducible refine qJ ?_ |(with_reducible refine qf ?_;try dsimp only) |(with_reducible refine ql ?_;try dsimp only) |(with_reducible refine qe ?_;try dsimp only) |(with_reducible refine qP ?_;try dsimp only) |(with_reducible refine zQ ?_;try dsimp only) |with_reducible refine qF ?_ |with_reducible refine qy ?_ |(with_reducible refine qG ?_;try dsimp only) |with_reducible refine qj ?_ |with_reducible refine jE ?_ |with_reducible refine jo ?_ |with_reducible refine qn omQ ?_ |with_reducible refine qX ?_ |with_reducible refine qQ ?_ |with_reducible refine qi rfl ?_ |with_reducible refine qZ ‹_› (by first |exact .here |exact e_3) rfl ?_ |with_reducible refine qr ‹_› .here ?_ |with_reducible refine qA rfl ?_ |with_reducible refine qk omQ ?_ |with_reducible refine qW omQ ?_ |with_reducible refine jb omQ ?_ |with_reducible refine jR omQ ?_ |with_reducible refine jO omQ ?_ |with_reducible refine jM omQ ?_ |with_reducible refine ve omQ ?_ |with_reducible refine vj omQ ?_ |with_reducible refine xL omQ ?_ |with_reducible refine xJ omQ ?_ |with_reducible refine zK omQ ?_ |with_reducible refine jt omQ ?_)
     all_goals refine wV LC ?_
     all_goals repeat (first |with_reducible refine qK ?_ |with_reducible refine qJ ?_ |(with_reducible refine qf ?_;try dsimp only) |(with_reducible refine ql ?_;try dsimp only) |(with_reducible refine qe ?_;try dsimp only) |(with_reducible refine qP ?_;try dsimp only) |(with_reducible refine zQ ?_;try dsimp only) |with_reducible refine qF ?_ |with_reducible refine qy ?_ |(with_reducible refine qG ?_;try dsimp only) |with_reducible refine qj ?_ |with_reducible refine jE ?_ |with_reducible refine jo ?_ |with_reducible refine qn omQ ?_ |with_reducible refine qX ?_ |with_reducible refine qQ ?_ |with_reducible refine qi rfl ?_ |with_reducible refine qZ ‹_› (by first |exact .here |exact e_3) rfl ?_ |with_reducible refine qr ‹_› .here ?_ |with_reducible refine qA rfl ?_ |with_reducible refine qk omQ ?_ |with_reducible refine qW omQ ?_ |with_reducible refine jb omQ ?_ |with_reducible refine jR omQ ?_ |with_reducible refine jO omQ ?_ |with_reducible refine jM omQ ?_ |with_reducible refine ve omQ ?_ |with_reducible refine vj omQ ?_ |with_reducible refine xL omQ ?_ |with_reducible refine xJ omQ ?_ |with_reducible refine zK omQ ?_ |with_reducible refine jt omQ ?_)
     all_goals refine wV LC ?_
     all_goals repeat (first |with_reducible refine qK ?_ |with_reducible refine qJ ?_ |(with_reducible refine qf ?_;try dsimp only) |(with_reducible refine ql ?_;try dsimp only) |(with_reducible refine qe ?_;try dsimp only) |(with_reducible refine qP ?_;try dsimp only) |(with_reducible refine zQ ?_;try dsimp only) |with_reducible refine qF ?_ |with_reducible refine qy ?_ |(with_reducible refine qG ?_;try dsimp only) |with_reducible refine qj ?_ |with_reducible refine jE ?_ |with_reducible refine jo ?_ |with_reducible refine qn omQ ?_ |with_reducible refine qX ?_ |with_reducible refine qQ ?_ |with_reducible refine qi rfl ?_ |with_reducible refine qZ ‹_› .here rfl ?_ |with_reducible refine qr ‹_› .here ?_ |with_reducible refine qA rfl ?_ |with_reducible refine qk omQ ?_ |with_reducible refine qW omQ ?_ |with_reducible refine jb omQ ?_ |with_reducible refine jR omQ ?_ |with_reducible refine jO omQ ?_ |with_reducible refine jM omQ ?_ |with_reducible refine ve omQ ?_ |with_reducible refine vj omQ ?_ |with_reducible refine xL omQ ?_ |with_reducible refine xJ omQ ?_ |with_reducible refine zK omQ ?_ |with_reducible refine jt omQ ?_)
     all_goals refine zO (H9.sl e_2) (fJ i ap) ?_
     all_goals rw[c3]
     all_goals refine qk rfl ?_
     all_goals repeat (first |with_reducible refine qK ?_ |with_reducible refine qJ ?_ |(with_reducible refine qf ?_;try dsimp only) |(with_reducible refine ql ?_;try dsimp only) |(with_reducible refine qe ?_;try dsimp only) |(with_reducible refine qP ?_;try dsimp only) |(with_reducible refine zQ ?_;try dsimp only) |with_reducible refine qF ?_ |with_reducible refine qy ?_ |(with_reducible refine qG ?_;try dsimp only) |with_reducible refine qj ?_ |with_reducible refine jE ?_ |with_reducible refine jo ?_ |with_reducible refine qn omQ ?_ |with_reducible refine qX ?_ |with_reducible refine qQ ?_ |with_reducible refine qi rfl ?_ |with_reducible refine qZ ‹_› .here rfl ?_ |with_reducible refine qr ‹_› .here ?_ |with_reducible refine qA rfl ?_ |with_reducible refine qk omQ ?_ |with_reducible refine qW omQ ?_ |with_reducible refine jb omQ ?_ |with_reducible refine jR omQ ?_ |with_reducible refine jO omQ ?_ |with_reducible refine jM omQ ?_ |with_reducible refine ve omQ ?_ |with_reducible refine vj omQ ?_ |with_reducible refine xL omQ ?_ |with_reducible refine xJ omQ ?_ |with_reducible refine zK omQ ?_ |with_reducible refine jt omQ ?_)
     all_goals exact mT
    ·have c3:qB A (c:Int)=qB A (i:Int):=Classical.not_not.1 λh=>oI ⟨hj,.inr (.inr ⟨by omega,h⟩)⟩;clear oI A0;rcases hj with hj |hj
     all_goals repeat (first |with_reducible refine qK ?_ |with_reducible refine qJ ?_ |(with_reducible refine qf ?_;try dsimp only) |(with_reducible refine ql ?_;try dsimp only) |(with_reducible refine qe ?_;try dsimp only) |(with_reducible refine qP ?_;try dsimp only) |(with_reducible refine zQ ?_;try dsimp only) |with_reducible refine qF ?_ |with_reducible refine qy ?_ |(with_reducible refine qG ?_;try dsimp only) |with_reducible refine qj ?_ |with_reducible refine jE ?_ |with_reducible refine jo ?_ |with_reducible refine qn omQ ?_ |with_reducible refine qX ?_ |with_reducible refine qQ ?_ |with_reducible refine qi rfl ?_ |with_reducible refine qZ ‹_› (by first |exact .here |exact e_3) rfl ?_ |with_reducible refine qr ‹_› .here ?_ |with_reducible refine qA rfl ?_ |with_reducible refine qk omQ ?_ |with_reducible refine qW omQ ?_ |with_reducible refine jb omQ ?_ |with_reducible refine jR omQ ?_ |with_reducible refine jO omQ ?_ |with_reducible refine jM omQ ?_ |with_reducible refine ve omQ ?_ |with_reducible refine vj omQ ?_ |with_reducible refine xL omQ ?_ |with_reducible refine xJ omQ ?_ |with_reducible refine zK omQ ?_ |with_reducible refine jt omQ ?_)
     all_goals refine wV LC ?_
     all_goals repeat (first |with_reducible refine qK ?_ |with_reducible refine qJ ?_ |(with_reducible refine qf ?_;try dsimp only) |(with_reducible refine ql ?_;try dsimp only) |(with_reducible refine qe ?_;try dsimp only) |(with_reducible refine qP ?_;try dsimp only) |(with_reducible refine zQ ?_;try dsimp only) |with_reducible refine qF ?_ |with_reducible refine qy ?_ |(with_reducible refine qG ?_;try dsimp only) |with_reducible refine qj ?_ |with_reducible refine jE ?_ |with_reducible refine jo ?_ |with_reducible refine qn omQ ?_ |with_reducible refine qX ?_ |with_reducible refine qQ ?_ |with_reducible refine qi rfl ?_ |with_reducible refine qZ ‹_› .here rfl ?_ |with_reducible refine qr ‹_› .here ?_ |with_reducible refine qA rfl ?_ |with_reducible refine qk omQ ?_ |with_reducible refine qW omQ ?_ |with_reducible refine jb omQ ?_ |with_reducible refine jR omQ ?_ |with_reducible refine jO omQ ?_ |with_reducible refine jM omQ ?_ |with_reducible refine ve omQ ?_ |with_reducible refine vj omQ ?_ |with_reducible refine xL omQ ?_ |with_reducible refine xJ omQ ?_ |with_reducible refine zK omQ ?_ |with_reducible refine jt omQ ?_)
     all_goals refine zO (H9.sl e_2) (fJ c omQ) ?_
     all_goals refine zO (H9.sl e_2) (fJ i ap) ?_
     all_goals refine qk c3 ?_
     all_goals repeat (first |with_reducible refine qK ?_ |with_reducible refine qJ ?_ |(with_reducible refine qf ?_;try dsimp only) |(with_reducible refine ql ?_;try dsimp only) |(with_reducible refine qe ?_;try dsimp only) |(with_reducible refine qP ?_;try dsimp only) |(with_reducible refine zQ ?_;try dsimp only) |with_reducible refine qF ?_ |with_reducible refine qy ?_ |(with_reducible refine qG ?_;try dsimp only) |with_reducible refine qj ?_ |with_reducible refine jE ?_ |with_reducible refine jo ?_ |with_reducible refine qn omQ ?_ |with_reducible refine qX ?_ |with_reducible refine qQ ?_ |with_reducible refine qi rfl ?_ |with_reducible refine qZ ‹_› .here rfl ?_ |with_reducible refine qr ‹_› .here ?_ |with_reducible refine qA rfl ?_ |with_reducible refine qk omQ ?_ |with_reducible refine qW omQ ?_ |with_reducible refine jb omQ ?_ |with_reducible refine jR omQ ?_ |with_reducible refine jO omQ ?_ |with_reducible refine jM omQ ?_ |with_reducible refine ve omQ ?_ |with_reducible refine vj omQ ?_ |with_reducible refine xL omQ ?_ |with_reducible refine xJ omQ ?_ |with_reducible refine zK omQ ?_ |with_reducible refine jt omQ ?_)
     all_goals exact mT
   ·repeat (first |with_reducible refine qK ?_ |with_reducible refine qJ ?_ |(with_reducible refine qf ?_;try dsimp only) |(with_reducible refine ql ?_;try dsimp only) |(with_reducible refine qe ?_;try dsimp only) |(with_reducible refine qP ?_;try dsimp only) |(with_reducible refine zQ ?_;try dsimp only) |with_reducible refine qF ?_ |with_reducible refine qy ?_ |(with_reducible refine qG ?_;try dsimp only) |with_reducible refine qj ?_ |with_reducible refine jE ?_ |with_reducible refine jo ?_ |with_reducible refine qn omQ ?_ |with_reducible refine qX ?_ |with_reducible refine qQ ?_ |with_reducible refine qi rfl ?_ |with_reducible refine qZ ‹_› .here rfl ?_ |with_reducible refine qr ‹_› .here ?_ |with_reducible refine qA rfl ?_ |with_reducible refine qk omQ ?_ |with_reducible refine qW omQ ?_ |with_reducible refine jb omQ ?_ |with_reducible refine jR omQ ?_ |with_reducible refine jO omQ ?_ |with_reducible refine jM omQ ?_ |with_reducible refine ve omQ ?_ |with_reducible refine vj omQ ?_ |with_reducible refine xL omQ ?_ |with_reducible refine xJ omQ ?_ |with_reducible refine zK omQ ?_ |with_reducible refine jt omQ ?_)
    exact mT
  ·obtain rfl:i=l.length:=by omega
   refine qQ (qZ H (b:=b0) e_2 rfl (wV LC ?_));refine jM omQ (qJ (qj ?_));exact qq ⟨rv,mv,rfl,H.sub (.cons .here (.drop (.drop .refl)))⟩
end
section
variable {g h:AH} {L R:List SP}
def ul (bs:List UInt8):List AV:=bs.map λc=>.int .u8 (.ofNat c.toNat)
theorem qjL:∀(bs:List UInt8),Xo (ul bs)=some bs:=by
 intro bs
 induction bs with
 |nil=>rfl
 |cons b bs ih=>simp_all[Xo,ul,UInt8.ofNat]
theorem qQL (bs:List UInt8):jW (ul bs)=true:=by unfold jW ul;rw[List.all_eq_true];intro y hy;obtain⟨z,_,rfl⟩:=List.mem_map.1 hy;rfl
theorem jJo {e:TypeId} {n:Nat} {v:AV} {bs:List UInt8} {K:AV→Go.Ae.R} {Q:AV→AH→Prop} (H:HS g h L) (s:bB L (qC e 1 n v (ul bs)) R) (w:wp (K (.str bs)) Q):wp (Nf h v K) Q:=by
 obtain⟨D,hl,⟨rfl,rfl,_⟩ |⟨b,cp,o,ys,rfl,_,A,h1,h2,_⟩⟩:=H.p s
 ·have:bs=[]:=iA (by grind[ul]);subst this;exact w
 ·unfold Nf;dsimp only;rw[Mi A omQ,List.drop_zero];rw[Nat.mul_one]at h2;rw[h2];simp only[ob,qjL];exact w
theorem O0 {u:Nat} (h:u<10):Lib.decDigits u=[UInt8.ofNat (48+u)]:=Lib.decDigits_one h
theorem qJo {u:Nat} (h:¬u<10):Lib.decDigits u=Lib.decDigits (u/10)++[UInt8.ofNat (48+u%10)]:=by rw[Lib.decDigits,dif_neg h]
def M2 (m:Nat):List UInt8:=if m<10 then[]else Lib.decDigits (m/10)
theorem qX0 {m:Nat} (h:¬m<10):M2 m=M2 (m/10)++[UInt8.ofNat (48+m/10%10)]:=by
 unfold M2;rw[iQ h];by_cases h1:m/10<10
 all_goals simp_all[O0,Nat.mod_eq_of_lt,iQ,qJo]
theorem qWn (u:Nat):Lib.decDigits u=M2 u++[UInt8.ofNat (48+u%10)]:=by
 unfold M2;by_cases h:u<10
 all_goals simp_all[O0,Nat.mod_eq_of_lt,iQ,qJo]
theorem qXb {n:Nat} (hn:1≤n) {u:Nat} (h2:u<18446744073709551616) (H:HS g h R):ba n 107 [.int .u64 (u:Int)] h λr h'=>r=.str (Lib.decDigits u)∧HS g h' R:=by
 refine bw (S:=S107) rfl omQ λk hk=>?_;unfold S107;try simp only[iZ]
 have hd:∀m:Nat,Int.tmod (m:Int) ((10:Nat):Int)=((m%10:Nat):Int):=λm=>by rfl
 have hc:∀m:Nat,AV.int .u8 (((48:Nat):Int)+((m%10:Nat):Int))=.int .u8 (.ofNat (UInt8.ofNat (48+m%10)).toNat):=λm=>by
  simp;omega
 refine Xb omQ ?_;rw[hd];refine yK omQ (KP ?_);rw[jQ3 omQ,hc];refine jY (n:=1) (l:=ul [UInt8.ofNat (48+u%10)]) (sz:=1) H rfl rfl rfl (qQL _) λv3 h3 H3=>?_;refine jB (λc s h'=>∃(m:Nat) (bs:List UInt8) (bv:AV),s=(bv,.int .u64 (m:Int),())∧m<10 ^ c∧m<18446744073709551616∧bs.length+c≤21∧Lib.decDigits u=M2 m++bs∧HS g h' (qC 5 1 bs.length bv (ul bs)::R))
  ?_ (m:=20) (by simp) ⟨u,_,v3,rfl,by omega,h2,by simp,qWn u,H3⟩
 clear H3 H;rintro c ih s h4 bj ⟨m,bs,bv,rfl,hm,Hu,hl,LJ,H⟩;dsimp only;by_cases ia:m<10
 ·refine jt omQ (qJ ?_);refine jJo H .here ?_;refine qj (qq ⟨?_,H.drop⟩);rw[LJ];simp[M2];omega
 ·refine zK omQ (qK ?_);have hq:Int.tdiv (m:Int) ((10:Nat):Int)=((m/10:Nat):Int):=by rfl
  refine qv2 omQ ?_;rw[hq,MY omQ];refine Xb omQ ?_;rw[hd];refine yK omQ (KP ?_);rw[jQ3 omQ,hc];refine jY (n:=1) (l:=ul [UInt8.ofNat (48+m/10%10)]) (sz:=1) H rfl rfl rfl (qQL _) λv5 h5 H5=>?_;refine zA (H5.aJ (P:=qC 5 1 1 v5 (ul [UInt8.ofNat (48+m/10%10)])) .here) (H5.sl e_1) omQ omQ (qQL _) λv6 h6 H6=>?_;obtain⟨c,rfl⟩:∃c',c=c'+1:=by
   cases c with
   |zero=>grind
   |succ c=>simp
  refine bj c _ _ omQ ⟨m/10,UInt8.ofNat (48+m/10%10)::bs,v6,rfl,by grind,by omega,by grind,?_,?_⟩
  ·rw[LJ,qX0 ia,List.append_assoc];rfl
  ·have e:(UInt8.ofNat (48+m/10%10)::bs).length=1+bs.length:=by grind
   rw[e];have H7:HS g h6 (qC 5 1 (1+bs.length) v6 (ul (UInt8.ofNat (48+m/10%10)::bs))::_):=H6;exact H7.sub (.cons .here (.drop .refl))
theorem ZV {a b:List UInt8} {K:AV→Go.Ae.R} {Q:AV→AH→Prop} (h:a.length+b.length≤1073741824) (w:wp (K (.str (a++b))) Q):wp (Uc .add (.str a) (.str b) K) Q:=by show wp (ob (bif Nat.ble (a.length+b.length) 1073741824 then some (.str (a++b))else none) K) Q;rw[iY h];exact w
theorem Nh (sep x:List UInt8) (r:List (List UInt8)):Lib.joinTail sep (r++[x])=Lib.joinTail sep r++(sep++x):=by simp[Lib.joinTail]
theorem qqR {sep x:List UInt8} {xs:List (List UInt8)} (h:xs≠[]):Lib.join (xs++[x]) sep=Lib.join xs sep++sep++x:=by
 cases xs with
 |nil=>grind
 |cons y r=>simp[List.cons_append,Lib.join_cons,Nh]
theorem qz9 {n:Nat} (hn:2≤n) {l:List Dz} {lv:AV} (H:HS g h R) (S:Rd g R 2 l.length lv (l.flatMap jH)) (hl:l.length≤1000) (hi:∀x∈l,x.1=1∧DA x) :
  ba n 90 [lv] h λr h'=>r=.str (IV l)∧HS g h' R:=by
 (refine q8 (g:=W90) rfl omQ λk hk=>?_;show wp (S90 (callT tab qL k) _ _) _;unfold S90;try simp only[iI,uU,iZ])
 refine jB (λc s h'=>∃i:Nat,s=(.int .i64 (i:Int),.str (Lib.join ((l.take i).map pI) [32]),lv,())∧i≤l.length∧c=l.length-i∧HS g h' R) ?_ (m:=l.length) (by show _<1000000000;omega) ⟨0,rfl,by omega,by rfl,H⟩;clear H;rintro c ih s h1 bj ⟨i,rfl,h1l,rfl,H⟩;dsimp only;refine yH (S.sl H) ?_;refine j8 (λap=>qK ?_) λeO=>qJ (qj (qq ⟨?_,H⟩))
 rotate_left
 ·obtain rfl:i=l.length:=by omega
  rw[List.take_length];rfl
 have ap:i<l.length:=by omega
 have hx:=hi l[i] (List.getElem_mem ap)
 have hlen:=qkD (m:=20) ((l.take i).map pI) (by
  intro y hy;obtain⟨x,rj,rfl⟩:=List.mem_map.1 hy
  grind[qGN,List.mem_of_mem_take])
 have oQ:=qGN _ hx.2;have CW:(l.take (i+1)).map pI=(l.take i).map pI++[pI l[i]]:=by rw[List.take_add_one,iW ap,Option.toList_some,List.map_append,List.map_singleton]
 have e1:pI l[i]=Lib.decDigits l[i].2.toNat:=iJ hx.1;have nT:∀f,f<2→(l.flatMap jH)[i*2+f]? =(jH l[i])[f]?:=λf hf=>y9 (sz:=2) jH (λ_=>rfl) _ _ _ hf |>.trans (by grind);rw[List.length_map,List.length_take]at hlen;have hmi:min i l.length=i:=by omega
 rw[hmi]at hlen;generalize l[i]=x at*;refine jc [] (λs h'=>s=(.int .i64 (i:Int),.str (Lib.join ((l.take i).map pI) [32]++(if i=0 then[]else[32])),lv,())∧h'=h1) ?_ ?_
 ·intro j hj;by_cases h0:i=0
  ·refine xJ omQ (qJ (hj _ _ ⟨?_,rfl⟩));grind
  ·refine xL omQ (qK (ZV (by grind) (hj _ _ ⟨?_,rfl⟩)));grind
 rintro s h1 ⟨rfl,rfl⟩;dsimp only;have oG:Lib.join ((l.take i).map pI) [32]++(if i=0 then[]else[32])++pI x=Lib.join ((l.take (i+1)).map pI) [32]:=by
  rw[CW];by_cases h0:i=0
  ·subst h0;rw[iJ rfl];simp[Lib.join,pI]
  ·rw[iQ h0,qqR];intro hn;have:=congrArg List.length hn;grind
 refine jc [] (λs h'=>s=(.int .i64 (i:Int),.str (Lib.join ((l.take (i+1)).map pI) [32]),lv,())∧HS g h' R) ?_ ?_
 rotate_left
 ·rintro s h2 ⟨rfl,H2⟩;dsimp only;exact qE omQ (bj (l.length-(i+1)) _ _ omQ ⟨i+1,rfl,by omega,rfl,H2⟩)
 intro j hj;refine jn (x:=.int .i64 x.1) (S.sl H) omQ ap (nT 0 omQ) ?_;refine qk hx.1 (qK ?_);refine jn (x:=.int .u64 x.2) (S.sl H) omQ ap (nT 1 omQ) ?_;obtain⟨u,hu⟩:∃u:Nat,x.2=u:=⟨x.2.toNat,by have:=hx.2.1;omega⟩;have CK:=hx.2.2;rw[hu];refine qY (qXb omQ omQ H) ?_;rintro _ h3 ⟨rfl,H3⟩;rw[hu,Int.toNat_natCast]at e1;rw[← e1];refine ZV ?_ (hj _ _ ⟨by rw[oG],H3⟩);grind
end
section
def JO (s:IM):Prop:=∀x∈s.out,x.1=1
theorem OL {op a nx:Int} {s:IM} {V:VM} (h:JO s):JO (xE op a nx s V).s:=by unfold xE;split<;>exact h
theorem qZr {s:IM} {p:cZ} (h:JO s):JO (Yb s p):=λx hx=>h x (List.mem_of_mem_take hx)
theorem qqT {mt:List Int} {s:IM} (h:JO s):∀{o:List cZ} {V:VM},JO (yl mt o s V).s:=by
 intro o
 induction o with
 |nil=>intro V;exact h
 |cons p o ih=>
  intro V;unfold yl
  split
  ·split
   ·exact OL (s:={ Yb s p with aO:=o }) (qZr h)
   grind
  trivial
theorem qqm {s:IM} {V:VM} {x:qO} (h:JO s):JO (zB s V x).2.1:=by
 unfold zB
 repeat' split
 all_goals exact h
theorem vZ {c:Prop} [Decidable c] {a b:SM} (ha:JO a.s) (hb:JO b.s):JO (if c then a else b).s:=by grind
theorem qgO {mt:List Int} {s:IM} {V:VM} {op:Int} (h:JO s):JO (gY mt s V op).s:=by unfold gY;exact vZ (OL h) (vZ h (vZ h (vZ (qZr (s:=s) h) (qqT h))))
theorem jZs {mt:List Int} {s:IM} {V:VM} {x:qO} (h:JO s):JO (bG mt s V x).s:=by
 unfold bG;refine vZ h (vZ h (vZ h (vZ h (vZ h (vZ h (vZ h (vZ h (vZ h (vZ (vZ h ?_) (vZ h (vZ (qqm h) (qgO h))))))))))));intro y hy;rcases List.mem_append.1 hy with hy |hy
 ·exact h y hy
 grind
theorem qyo {l:List qO} {mt:List Int}:∀(n:Nat) {s:IM} {V:VM},JO s→JO (zh l mt n s V).s:=by
 intro n
 induction n with
 |zero=>grind[QD]
 |succ n ih=>
  intro s V h;have hd:=jZs (mt:=mt) (V:=V) (x:=qM l s.pc) h;rw[QR];generalize bG mt s V (qM l s.pc)=D at*
  repeat' split
  ·grind
  ·exact hd
  ·exact ih hd
  all_goals grind
end
section
variable {g h:AH} {L R:List SP}
theorem qg2 {e:TypeId} {sz n hi:Nat} {v:AV} {xs:List AV} {k:IntKind} {K:AV→Go.Ae.R} {Q:AV→AH→Prop} (H:HS g h (qC e sz n v xs::R)) (bz:0<sz) (hle:hi≤n)
  (w:∀v',(∀{g' h':AH} {R':List SP} {um:List AV},HS g' h' (qC e sz n v um::R')→HS g' h' (qC e sz hi v' (um.take (hi*sz))::R'))→wp (K v') Q):wp (xC h e sz v none (some (.int k (hi:Int))) K) Q:=by
 have Ec:∀{g' h':AH} {R':List SP} {um:List AV} {v:AV},HS g' h' (qC e sz 0 v um::R')→HS g' h' (qC e sz 0 v (um.take (0*sz))::R'):=by intro g' h' R' um v H';have hx:=H'.pE .here;grind
 by_cases hn:n=0
 ·subst hn;obtain rfl:hi=0:=by omega
  obtain⟨D,⟨hl,⟨rfl,_,hD⟩ |⟨b,cp,o,zs,rfl,hD,A,q1,q2,q3⟩⟩,hb,k⟩:=H.act
  ·exact w .aj Ec
  ·cases o with
   |false=>
    refine UC (hi:=0) (lo:=0) (yz (Nat.zero_le _)) rfl ?_;have:=w (.slice b 0 0 cp false) Ec;have e0:(bif Nat.beq cp 0 then 0 else 0+0*sz)=0:=by simp
    rw[e0];exact this
   |true=>rw[iJ rfl]at q3;subst q3;refine K9 (i0:=0) (hi:=0) (lo:=0) A bz omQ omQ (yz (Nat.zero_le _)) rfl (.inr rfl) ?_;have:=w (.slice b 0 0 0 true) Ec;simpa using this
 ·obtain⟨b,cp,o,zs,rfl,H',q1,q2,q3⟩:=H.EI omQ;have tF:=Nat.mul_le_mul_right sz hle;cases o with
  |false=>
   rw[iQ aM]at q3;refine UC (hi:=hi) (lo:=0) (yz omQ) rfl ?_
   have:=w (.slice b 0 hi cp false) (by
    intro g' h' R' um G;obtain⟨b2,cp2,o2,r9,e2,G2,p1,p2,p3⟩:=G.EI omQ;cases e2;rw[iQ aM]at p3;have e1:r9.take (hi*sz)=um.take (hi*sz):=by grind
    rw[← e1];exact G2.Ik omQ (by grind))
   have e0:(bif Nat.beq cp 0 then 0 else 0+0*sz)=0:=by simp
   rw[e0];exact this
  |true=>
   rw[iJ rfl]at q3;subst q3;obtain⟨D,_,A⟩:=H'.p .here;refine K9 (i0:=0) (hi:=hi) (lo:=0) A bz omQ omQ (yz hle) rfl (.inr rfl) ?_
   have:=w (.slice b 0 hi 0 true) (by
    intro g' h' R' um G;obtain⟨b2,cp2,o2,r9,e2,G2,p1,p2,p3⟩:=G.EI omQ;cases e2;have e1:r9.take (hi*sz)=um.take (hi*sz):=by grind
    rw[← e1];exact G2.Ik omQ (by rfl))
   simpa using this
def kz (q:cZ×Int):List AV:=[.int .i64 q.2,.int .u64 (qB q.1.ao 0),.int .u64 (qB q.1.ao 1),.int .u64 (qB q.1.ao 2),.int .u64 (qB q.1.ao 3),.int .u64 (qB q.1.ao 4),.int .u64 (qB q.1.ao 5),.int .u64 (qB q.1.ao 6),.int .u64 (qB q.1.ao 7),.int .i64 (q.1.told:Int),.bool (decide (q.1.op=17))]
theorem Kb (o:List (cZ×Int)):(o.reverse.flatMap kz).length=o.length*11:=by rw[wo (sz:=11) _ (λ_=>rfl),List.length_reverse]
theorem Gq (p:cZ×Int) (o:List (cZ×Int)):(p::o).reverse.flatMap kz=o.reverse.flatMap kz++kz p:=by simp
def fF (qs:List (cZ×Int)) (o:List cZ):Prop:=qs.map (·.1)=o∧∀q∈qs,q.1.op=17→q.2=q.1.pc
def wx (sv lv ov mv:AV) (o:Nat) (kind err left pc:Int) (r:List Int):List AV :=
 [sv,.ptr o 0,.int .u64 (qB r 0),.int .u64 (qB r 1),.int .u64 (qB r 2),.int .u64 (qB r 3),.int .u64 (qB r 4),.int .u64 (qB r 5),.int .u64 (qB r 6),.int .u64 (qB r 7),.int .i64 pc,.int .i64 left,lv,.int .i64 kind,.int .i64 err,ov,mv]
abbrev JK (lv:AV) (l:List Dz):SP:=qC 194 2 l.length lv (l.flatMap jH)
abbrev Qk (ov:AV) (qs:List (cZ×Int)):SP:=qC 213 11 qs.length ov (qs.reverse.flatMap kz)
abbrev QO (mv:AV) (mt:List Int):SP:=qC 3 1 mt.length mv (mt.map (.int .i64))
def aG (y o:Nat) (sv:AV) (mt:List Int) (s:IM) (kind err left:Int):SP:=.ex λlv=>.ex λov=>.ex λmv=>.ex λqs=>.all
 [.fk (fF qs s.aO),qv y (wx sv lv ov mv o kind err left s.pc s.ao),JK lv s.out,Qk ov qs,QO mv mt]
section
variable {y o:Nat} {sv:AV} {mt:List Int} {s:IM} {kind err left:Int}
theorem aG.E (H:HS g h (aG y o sv mt s kind err left::R)):∃lv ov mv qs,fF qs s.aO∧HS g h (qv y (wx sv lv ov mv o kind err left s.pc s.ao)::JK lv s.out::Qk ov qs::QO mv mt::R):=by obtain⟨lv,H⟩:=H.iq;obtain⟨ov,H⟩:=H.iq;obtain⟨mv,H⟩:=H.iq;obtain⟨qs,H⟩:=H.iq;obtain⟨e,H⟩:=H.cE.dT;exact⟨lv,ov,mv,qs,e,H⟩
theorem aG.I {lv ov mv:AV} {qs:List (cZ×Int)} (e:fF qs s.aO) (H:HS g h (qv y (wx sv lv ov mv o kind err left s.pc s.ao)::JK lv s.out::Qk ov qs::QO mv mt::R)):HS g h (aG y o sv mt s kind err left::R) :=
 HS.iO lv (HS.iO ov (HS.iO mv (HS.iO qs (HS.allI (HS.dU e H)))))
theorem wG {lv ov mv:AV} {pc:Int} {r:List Int} {a:Nat} (ha:a<8):(wx sv lv ov mv o kind err left pc r)[2+a*1]? =some (.int .u64 (qB r (a:Int))):=by
 rcases(show a=0∨a=1∨a=2∨a=3∨a=4∨a=5∨a=6∨a=7 by omega)with rfl |rfl |rfl |rfl |rfl |rfl |rfl |rfl<;>rfl
theorem qk9 {lv ov mv:AV} {pc:Int} {r:List Int} {a:Nat} {z:Int} (hr:r.length=8) (ha:a<8):(wx sv lv ov mv o kind err left pc r).set (2+a*1) (.int .u64 z)=wx sv lv ov mv o kind err left pc (r.set a z):=by have hs:=λk:Nat=>qY4 (r:=r) (i:=a) (k:=k) (z:=z) omQ;have e0:=hs 0;have e1:=hs 1;have e2:=hs 2;have e3:=hs 3;have e4:=hs 4;have e5:=hs 5;have e6:=hs 6;have e7:=hs 7;simp only[show((0:Nat):Int)=0 from rfl,show((1:Nat):Int)=1 from rfl,show((2:Nat):Int)=2 from rfl,show((3:Nat):Int)=3 from rfl,show((4:Nat):Int)=4 from rfl,show((5:Nat):Int)=5 from rfl,show((6:Nat):Int)=6 from rfl,show((7:Nat):Int)=7 from rfl]at e0 e1 e2 e3 e4 e5 e6 e7;unfold wx;rw[e0,e1,e2,e3,e4,e5,e6,e7];rcases(show a=0∨a=1∨a=2∨a=3∨a=4∨a=5∨a=6∨a=7 by omega)with rfl |rfl |rfl |rfl |rfl |rfl |rfl |rfl<;>rfl
theorem qWa {lv ov mv:AV} {qs:List (cZ×Int)} {a:Nat} {z ai:Int} (e:fF qs s.aO) (hr:s.ao.length=8) (ha:a<8) (hai:ai=a)
  (H:HS g h (qv y ((wx sv lv ov mv o kind err left s.pc s.ao).set (2+a*1) (.int .u64 z))::JK lv s.out::Qk ov qs::QO mv mt::R)):HS g h (aG y o sv mt (cN s ai z) kind err left::R):=by
 rw[qk9 hr ha]at H;have e2:s.ao.set a z=(cN s ai z).ao:=by grind[cN,Int.toNat_natCast]
 rw[e2]at H;exact aG.I (s:=cN s ai z) e H
theorem qgC {n:Nat} (hn:1≤n) {K:AV→AH→Go.Ae.R} {Q:AV→AH→Prop} {V:VM} (O:fm V) (H:HS g h (aR o V::R)) (w:∀h',HS g h' (aR o (yN V).2::R)→wp (K (.int .i64 (yN V).1) h') Q) :
  wp (zn (.ptr o 0) λa=>qH a 2 λa=>jK h a λa=>xS (callT tab qL n) (.fn 124 [] []) [a] h K) Q:=by
 obtain⟨kv,q,H⟩:=aR.E H;refine qX (qQ (qZ H (b:=o) .here rfl ?_));refine qY (qW6 hn (H.aJ (P:=cF q V.most V.lv) e_2) O.lR) ?_;rintro _ h1 ⟨rfl,H1⟩;exact w _ (aR.I (M:=(yN V).2) (kv:=kv) (q:=q) (H1.sub (.cons e_1 (.cons e_1 (.cons .here .refl)))))
theorem qvP {n:Nat} (hn:1≤n) {K:AV→AH→Go.Ae.R} {Q:AV→AH→Prop} {V:VM} (O:fm V) (H:HS g h (aR o V::R)) (w:∀h',HS g h' (aR o (xa V).2::R)→wp (K (.int .i64 (xa V).1) h') Q) :
  wp (zn (.ptr o 0) λa=>qH a 2 λa=>jK h a λa=>xS (callT tab qL n) (.fn 125 [] []) [a] h K) Q:=by
 obtain⟨kv,q,H⟩:=aR.E H;refine qX (qQ (qZ H (b:=o) .here rfl ?_));refine qY (qjf hn (H.aJ (P:=cF q V.most V.lv) e_2) O.lR) ?_;rintro _ h1 ⟨rfl,H1⟩;exact w _ (aR.I (M:=(xa V).2) (kv:=kv) (q:=q) (H1.sub (.cons e_1 (.cons e_1 (.cons .here .refl)))))
theorem jJa {n:Nat} (hn:3≤n) {K:AV→AH→Go.Ae.R} {Q:AV→AH→Prop} {V:VM} (O:fm V) (hf:bE V.lv<1000000) (H:HS g h (aR o V::R)) (w:∀h',HS g h' (aR o (gM V).2::R)→wp (K (.int .i64 (gM V).1) h') Q) :
  wp (zn (.ptr o 0) λa=>qH a 2 λa=>jK h a λa=>xS (callT tab qL n) (.fn 106 [] []) [a] h K) Q:=by
 obtain⟨kv,q,H⟩:=aR.E H;refine qX (qQ (qZ H (b:=o) .here rfl ?_));refine qY (Om hn (H.aJ (P:=cF q V.most V.lv) e_2) O.lR hf) ?_;rintro _ h1 ⟨rfl,H1⟩;exact w _ (aR.I (M:=(gM V).2) (kv:=kv) (q:=q) (H1.sub (.cons e_1 (.cons e_1 (.cons .here .refl)))))
theorem jJA {b:Nat} {p:cZ} {z:Int} {K0:AH→Go.Ae.R} {Q:AV→AH→Prop} (ht:p.told≤s.out.length) (H:HS g h (aG y o sv mt s kind err left::qv b (kz (p,z))::R))
  (w:∀h',HS g h' (aG y o sv mt (Yb s p) kind err left::qv b (kz (p,z))::R)→wp (K0 h') Q) :
  wp (qH (.ptr b 0) 1 λIC=>jr h IC 8 λID=>zn (.ptr y 0) λRh=>qH Rh 12 λRi=>jK h Ri λIK=>qH (.ptr b 0) 9 λIL=>jK h IL λIN=>xC h 194 2 IK none (some IN) λIP=>
   zn (.ptr y 0) λT9=>qH T9 2 λRj=>jw h Rj ID 8 λh90=>zn (.ptr y 0) λRk=>qH Rk 12 λRl=>jw h90 Rl IP 1 λh93=>kA IK (some (194*65536+2)) IP h h90 h.nx<| kA IL none IN h h90 h.nx<| K0 h93) Q:=by
 obtain⟨lv,ov,mv,qs,e,H⟩:=aG.E H;refine qQ (qo H (b:=b) (off:=1) e_4 rfl omQ (l:=Wt p.ao) rfl ?_);refine qX (qQ (qZ H (b:=y) .here rfl ?_));refine qQ (qZ H (b:=b) (off:=9) e_4 rfl ?_);refine qg2 (H.aJ e_1) omQ ht λv2 cut=>?_;refine qX (qQ ?_);refine zq H (b:=y) .here rfl (by show 2+8≤17;omega) rfl λh1 H1=>?_;have H1:HS g h1 (qv y (wx sv lv ov mv o kind err left s.pc p.ao)::JK lv s.out::Qk ov qs::QO mv mt::qv b (kz (p,z))::R):=H1;have H2:=cut (H1.aJ e_1);have o2:=H2.one .here;have el:(s.out.flatMap jH).take (p.told*2)=(s.out.take p.told).flatMap jH:=by
  conv=>lhs;rw[← List.take_append_drop p.told s.out,List.flatMap_append]
  rw[List.take_append_of_le_length (by rw[wo (sz:=2) _ (λ_=>rfl),List.length_take,Nat.min_eq_left ht];simp),List.take_of_length_le (by rw[wo (sz:=2) _ (λ_=>rfl),List.length_take,Nat.min_eq_left ht];simp)]
 refine qX (qQ ?_);refine qx H2 (b:=y) e_1 o2 (by show 12<17;omega) λh3 H3=>?_;refine qZP H (s:=e_1) H1 e_1 H e_1 omQ omQ rfl ?_;refine jU H (b:=b) e_4 rfl H1 e_4 rfl (HS.lt H e_4) ?_;refine w h3 (aG.I (s:=Yb s p) (lv:=v2) (ov:=ov) (mv:=mv) e ?_);show HS g h3 (qv y (wx sv v2 ov mv o kind err left s.pc p.ao)::JK v2 (s.out.take p.told)::Qk ov qs::QO mv mt::qv b (kz (p,z))::R);unfold JK;rw[← el,show(s.out.take p.told).length=p.told by grind];exact H3
end
end
section
variable {g h:AH} {L R:List SP}
section
variable {y o:Nat} {sv:AV} {mt:List Int} {s:IM} {kind err left:Int}
theorem fF.cons {qs:List (cZ×Int)} {p:cZ} {r:List cZ} (h:fF qs (p::r)):∃z qs',qs=(p,z)::qs'∧fF qs' r∧(p.op=17→z=p.pc):=by
 obtain⟨h1,h2⟩:=h;cases qs with
 |nil=>grind
 |cons q qs=>obtain⟨q1,q2⟩:=q;rw[List.map_cons,List.cons.injEq]at h1;obtain⟨rfl,h1⟩:=h1;exact⟨q2,qs,rfl,⟨h1,λq hq=>h2 q (iX _ hq)⟩,h2 _ (iK ..)⟩
theorem fF.push {qs:List (cZ×Int)} {p:cZ} {z:Int} {r:List cZ} (h:fF qs r) (hz:p.op=17→z=p.pc):fF ((p,z)::qs) (p::r):=by
 refine⟨by rw[List.map_cons,h.1],λq hq=>?_⟩;rcases List.mem_cons.1 hq with rfl |hq
 ·grind
 ·exact h.2 q hq
theorem fF.len {qs:List (cZ×Int)} {r:List cZ} (h:fF qs r):qs.length=r.length:=by rw[← h.1,List.length_map]
theorem qGi {q:cZ×Int} {qs:List (cZ×Int)}:(((q::qs).reverse.flatMap kz).drop (qs.length*11)).take 11=kz q:=by rw[Gq,List.drop_append_of_le_length (by rw[Kb];simp),List.drop_of_length_le (by rw[Kb];simp)];rfl
theorem ZI {q:cZ×Int} {qs:List (cZ×Int)}:((q::qs).reverse.flatMap kz).take (qs.length*11)=qs.reverse.flatMap kz:=by rw[Gq,List.take_append_of_le_length (by rw[Kb];simp),List.take_of_length_le (by rw[Kb];simp)]
theorem qY8 {n:Nat} (hn:2≤n) {V:VM} (G:zj V) (iD:V.lv.length=s.aO.length+1) (h5:s.aO.length≤5) (told:dy s.out.length s.aO) (hm:∀p∈s.aO,p.op=17→lF mt p.pc) (_:0≤s.pc∧s.pc≤100)
  (H:HS g h (aG y o sv mt s 0 err left::aR o V::R)) :
  ba n 126 [.ptr y 0] h λ_ h'=>(yl mt s.aO s V).e=0∧
   HS g h' (aG y o sv mt { (yl mt s.aO s V).s with pc:=(yl mt s.aO s V).nx } (if(yl mt s.aO s V).bR=true then 3 else 0) err left::aR o (yl mt s.aO s V).v::R):=by
 refine bw (S:=S126) rfl omQ λk hk=>?_;unfold S126;try simp only[iZ]
 generalize hD:yl mt s.aO s V=D;refine jB (λm st h'=>∃(r:List cZ) (V':VM),st=(.ptr y 0,())∧m=r.length∧r.length≤5∧HS g h' (aG y o sv mt { s with aO:=r } 0 err left::aR o V'::R)∧zj V'∧V'.lv.length=r.length+1∧dy s.out.length r∧(∀p∈r,p.op=17→lF mt p.pc)∧yl mt r s V'=D)
  ?_ (m:=s.aO.length) (by grind) ⟨s.aO,V,rfl,rfl,h5,H,G,iD,told,hm,hD⟩
 clear H G iD told hm hD h5;rintro m ih st h2 bj ⟨r,V,rfl,rfl,h5,H,G,iD,told,hm,hD⟩;dsimp only;obtain⟨lv,ov,mv,qs,e,H1⟩:=aG.E H;clear H;have H1:HS g h2 (qv y (wx sv lv ov mv o 0 err left s.pc s.ao)::JK lv s.out::Qk ov qs::QO mv mt::aR o V::R):=H1;have e:fF qs r:=e;have el:=e.len;refine qX (qQ (qZ H1 (b:=y) .here rfl ?_));refine qr H1 e_2 ?_;cases r with
 |nil=>refine xJ (by grind) (qJ ?_);refine qX (qQ ?_);refine qx H1 (b:=y) .here ⟨rfl,rfl⟩ (by show 13<17;omega) λh3 H3=>?_;subst hD;exact qj (qq ⟨rfl,aG.I (s:={ s with aO:=[] }) (kind:=3) (lv:=lv) (ov:=ov) (mv:=mv) e H3⟩)
 |cons p r=>
  obtain⟨z,qs,rfl,e,hz⟩:=e.cons;have el:=e.len;have hd0:=Qr (V:=V) (by grind);simp at h5;refine xL (by simp) (qK ?_);refine qX (qQ (qZ H1 (b:=y) .here rfl ?_));refine qr H1 e_2 ?_;rw[show(((p,z)::qs).length:Int)=((qs.length+1:Nat):Int)from rfl];refine qn omQ ?_;rw[show((qs.length+1:Nat):Int)-((1:Nat):Int)=(qs.length:Int) by omega];refine qX (qQ (qZ H1 (b:=y) .here rfl ?_));refine xI (l:=kz (p,z)) (H1.sl e_2) (i:=qs.length) aM omQ qGi ?_;refine qh H1 rfl λb h3 H3=>zq H3 .here rfl (by simp) rfl λh4 H4=>?_;have H4:HS g h4 (qv b (kz (p,z))::qv y (wx sv lv ov mv o 0 err left s.pc s.ao)::JK lv s.out::Qk ov ((p,z)::qs)::QO mv mt::aR o V::R):=H4;clear H1 H3;refine qX (qQ (qZ H4 (b:=y) e_1 rfl ?_));refine qvP omQ G.ok (H4.aJ (P:=aR o V) e_5) λh5 H5=>?_;clear H4;refine qX (qQ (qZ H5 (b:=y) e_2 rfl ?_));refine JS (H5.aJ (P:=Qk ov ((p,z)::qs)) e_4) omQ aM λsc H6=>?_;rw[ZI]at H6;have o6:=H6.one .here;refine qX (qQ ?_);refine qx H6 (b:=y) e_3 o6 (by show 15<17;omega) λh7 H7=>?_;have H7:HS g h7 (qv y (wx sv lv sc mv o 0 err left s.pc s.ao)::Qk sc qs::aR o (xa V).2::qv b (kz (p,z))::JK lv s.out::QO mv mt::R):=H7;clear H5 H6;refine qQ (qZ H7 (b:=b) e_3 rfl ?_);unfold yl at hD;rw[iJ hd0.1]at hD;have GD:=G.cV.1;have H8:HS g h7 (aG y o sv mt { s with aO:=r } 0 err left::qv b (kz (p,z))::aR o (xa V).2::R):=aG.I (s:={ s with aO:=r }) (lv:=lv) (ov:=sc) (mv:=mv) e (H7.sub (.cons .here (.cons e_3 (.cons .here (.cons e_2 (.cons e_1 (.cons .here .refl)))))));clear H7;have tW:(xa V).2.lv.length=r.length+1:=by grind
  by_cases nb:p.op=17
  ·rw[iJ nb]at hD;rw[show decide ((p,z).1.op=17)=true from iG nb];refine jE (qJ (qG ?_));dsimp only;refine jJA (s:={ s with aO:=r }) told.1 H8 λh9 H9=>?_;clear H8;obtain⟨lv,ov,mv,A7,e2,dC⟩:=aG.E H9;have dC:HS g h9 (qv y (wx sv lv ov mv o 0 err left s.pc p.ao)::JK lv (s.out.take p.told)::Qk ov A7::QO mv mt::qv b (kz (p,z))::aR o (xa V).2::R):=dC;have e2:fF A7 r:=e2;have el2:=e2.len;clear H9;refine qX (qQ (qZ dC (b:=y) .here rfl ?_));refine qgC omQ GD.ok (dC.aJ (P:=aR o (xa V).2) e_5) λdO eQ=>?_;clear dC;obtain⟨kk,mg,w,iN,RQ,RS⟩:=hm p (iK ..) nb;rw[lF.num mg iN]at hD;have hzk:z=(kk:Int):=(hz nb).trans mg;subst hzk;refine qX (qQ (qZ eQ (b:=y) e_1 rfl ?_));refine qQ (qZ eQ (b:=b) e_5 rfl ?_);refine zO (eQ.sl e_4) (lF.idx iN).1 (qE omQ ?_);refine qX (qQ ?_);refine qx eQ (b:=y) e_1 ⟨rfl,rfl⟩ (by show 10<17;omega) λiP fK=>?_;have fK:HS g iP (qv y (wx sv lv ov mv o 0 err left (w+1) p.ao)::aR o (yN (xa V).2).2::JK lv (s.out.take p.told)::Qk ov A7::QO mv mt::qv b (kz (p,(kk:Int)))::R):=fK;clear eQ;refine qX (qQ (qZ fK (b:=y) .here rfl ?_));refine qQ (qZ fK (b:=b) e_5 rfl ?_);refine qQ (qo fK (b:=b) (off:=1) e_5 rfl omQ (l:=Wt p.ao) rfl ?_);refine qQ (qZ fK (b:=b) e_5 rfl ?_);refine qA (l:=kz (⟨18,w,p.ao,p.told⟩,(kk:Int))) rfl ?_;refine jY (n:=1) (l:=kz (⟨18,w,p.ao,p.told⟩,(kk:Int))) (sz:=11) fK rfl rfl rfl rfl λuG RD r6=>?_;refine zA (r6.aJ (P:=Qk ov A7) e_4) (r6.sl .here) omQ omQ rfl λnD B5 uP=>?_;have o14:=uP.one .here;refine qX (qQ ?_);refine qx uP (b:=y) e_2 o14 (by show 15<17;omega) λLK Fj=>?_;have ho:(yN (xa V).2).1=0:=by
    unfold yN kV;grind
   unfold xE at hD;rw[iJ ho]at hD;subst hD;have ht:(s.out.take p.told).length=p.told:=by have:=told.1;grind
   refine qj (qq ⟨rfl,aG.I (s:={ { Yb s p with aO:=⟨18,w,p.ao,(s.out.take p.told).length⟩::r }with pc:=w+1 }) (kind:=0) (lv:=lv) (ov:=nD) (mv:=mv) (qs:=(⟨18,w,p.ao,p.told⟩,(kk:Int))::A7) ?_ ?_⟩)
   ·grind[fF]
   ·show HS g LK (qv y (wx sv lv nD mv o 0 err left (w+1) p.ao)::JK lv (s.out.take p.told)::qC 213 11 (A7.length+1) nD (((⟨18,w,p.ao,p.told⟩,(kk:Int))::A7).reverse.flatMap kz)::QO mv mt::aR o (yN (xa V).2).2::R);rw[Gq];exact Fj.sub (.cons .here (.cons e_3 (.cons .here (.cons e_2 (.cons e_1 (.drop (.drop .refl)))))))
  ·rw[iQ nb]at hD;rw[show decide ((p,z).1.op=17)=false from iV nb];refine jo (qK ?_);exact bj r.length _ _ aM ⟨r,(xa V).2,rfl,rfl,by omega,H8.sub (.cons .here (.cons e_1 (.drop .refl))),GD,tW,told.tail,λq hq=>hm q (iX _ hq),hD⟩
theorem qVo {n:Nat} (hn:3≤n) {V:VM} (O:fm V) (hf:bE V.lv<1000000) {lv ov mv:AV} {q:cZ×Int} {qs:List (cZ×Int)} {r:List cZ} (e:fF qs r) (hq:qs.length≤100) {K0:AH→Go.Ae.R} {Q:AV→AH→Prop}
  (H:HS g h (qv y (wx sv lv ov mv o kind err left s.pc s.ao)::JK lv s.out::Qk ov (q::qs)::QO mv mt::aR o V::R)) (w:∀h',HS g h' (aG y o sv mt { s with aO:=r } kind err left::aR o (gM V).2::R)→wp (K0 h') Q) :
  wp (zn (.ptr y 0) λDm=>qH Dm 1 λtN=>jK h tN λDn=>zn Dn λAq=>qH Aq 2 λAr=>jK h Ar λDp=>xS (callT tab qL n) (.fn 106 [] []) [Dp] h λ_ IJ=>zn (.ptr y 0) λIz=>qH Iz 15 λDt=>jK IJ Dt λAs=>
   j6 .sub (.int .i64 ((q::qs).length:Int)) (.int .i64 ((1:Nat):Int)) λDu=>xC IJ 213 11 As none (some Du) λAt=>zn (.ptr y 0) λIA=>qH IA 15 λAu=>jw IJ Au At 1 λh77=>K0 h77) Q:=by
 refine qX (qQ (qZ H (b:=y) .here rfl ?_));refine jJa hn O hf (H.aJ (P:=aR o V) e_4) λh3 H3=>?_;refine qX (qQ (qZ H3 (b:=y) e_1 rfl ?_));rw[show((q::qs).length:Int)=((qs.length+1:Nat):Int)from rfl];refine qn omQ ?_;rw[show((qs.length+1:Nat):Int)-((1:Nat):Int)=(qs.length:Int) by omega];refine JS (H3.aJ (P:=Qk ov (q::qs)) e_3) omQ aM λsc H6=>?_;rw[ZI]at H6;have o6:=H6.one .here;refine qX (qQ ?_);refine qx H6 (b:=y) e_2 o6 (by show 15<17;omega) λh7 H7=>?_;have H7:HS g h7 (qv y (wx sv lv sc mv o kind err left s.pc s.ao)::Qk sc qs::aR o (gM V).2::JK lv s.out::QO mv mt::R):=H7;exact w h7 (aG.I (s:={ s with aO:=r }) (lv:=lv) (ov:=sc) (mv:=mv) e (H7.sub (.cons .here (.cons e_2 (.cons .here (.cons e_1 (.cons .here .refl)))))))
theorem RU {z:Int} {K0:AH→Go.Ae.R} {Q:AV→AH→Prop} (H:HS g h (aG y o sv mt s kind err left::R)) (w:∀h',HS g h' (aG y o sv mt { s with pc:=z } kind err left::R)→wp (K0 h') Q) :
  wp (zn (.ptr y 0) λv=>qH v 10 λv=>jw h v (.int .i64 z) 1 K0) Q:=by
 obtain⟨lv,ov,mv,qs,e,H⟩:=aG.E H;refine qX (qQ ?_);refine qx H (b:=y) .here ⟨rfl,rfl⟩ (by show 10<17;omega) λh1 H1=>?_;exact w _ (aG.I (s:={ s with pc:=z }) (lv:=lv) (ov:=ov) (mv:=mv) e H1)
theorem jQ0 {z:Int} {kk:Nat} {K0:AH→Go.Ae.R} {Q:AV→AH→Prop} (h1:s.pc=kk) (h2:mt[kk]? =some z) (h3:-1≤z∧z≤1000) (H:HS g h (aG y o sv mt s kind err left::R)) (w:∀h',HS g h' (aG y o sv mt { s with pc:=z+1 } kind err left::R)→wp (K0 h') Q) :
  wp (zn (.ptr y 0) λv=>qH v 16 λv=>jK h v λEb=>zn (.ptr y 0) λv=>qH v 10 λv=>jK h v λEd=>yt Eb Ed 1 λEe=>jK h Ee λEf=>j6 .add Ef (.int .i64 ((1:Nat):Int)) λEg=>zn (.ptr y 0) λv=>qH v 10 λv=>jw h v Eg 1 K0) Q:=by
 have hH:=H;obtain⟨lv,ov,mv,qs,e,H⟩:=aG.E H;refine qX (qQ (qZ H (b:=y) .here rfl ?_));refine qX (qQ (qZ H (b:=y) .here rfl ?_));rw[h1];refine zO (H.sl e_3) (lF.idx h2).1 (qE omQ ?_);exact RU hH w
theorem qkB {n:Nat} (hn:5≤n) {V:VM} {x:qO} {l:List qO} (P:Rt l mt s V x) (iD:V.lv.length=s.aO.length+1) (h5:s.aO.length≤5) (hb:x.1=14∨x.1=17→s.aO.length<5) (hf:bE V.lv<1000000) (hx:14≤x.1∧x.1≤20)
  (H:HS g h (aG y o sv mt s 0 err left::aR o V::R)) :
  ba n 114 [.ptr y 0,.agg (ju x)] h λr h'=>r=.int .i64 0∧(gY mt s V x.1).e=0∧
   HS g h' (aG y o sv mt { (gY mt s V x.1).s with pc:=(gY mt s V x.1).nx } (if(gY mt s V x.1).bR=true then 3 else 0) err left::aR o (gY mt s V x.1).v::R):=by
 refine cu (S:=S114) rfl omQ λk hk=>?_;unfold S114;try simp only[iZ]
 have G:=P.aE;have told:=P.told;have mY:=P.out;have hpc:=P.pc;have bW:=P.ne;have pJ:=P.mt;have hm:=P.ways;refine qh H rfl λb h1 H1=>?_;have H1:HS g h1 (qv b (ju x)::aG y o sv mt s 0 err left::aR o V::R):=H1;obtain⟨lv,ov,mv,qs,e,H2⟩:=aG.E (H1.aJ (P:=aG y o sv mt s 0 err left) e_1);have el:=e.len;refine qX (qQ (qZ H2 (b:=y) .here rfl ?_));refine qr H2 e_2 ?_;refine qQ (qZ H1 (b:=b) .here rfl ?_);unfold gY;generalize mz:x.1=op at*;have hc:op=14∨op=17∨op=15∨op=19∨op=18∨op=16∨op=20:=by omega
 have uo:(op=14∨op=17)→wp (zn (.ptr y 0) λpF=>qH pF 1 λry=>jK h1 ry λtK=>zn tK λv20=>qH v20 2 λtL=>jK h1 tL λBP=>xS (callT tab qL k) (.fn 124 [] []) [BP] h1 λBQ sy=>
   j6 .neq BQ (.int .i64 ((0:Nat):Int)) λtP=>zU tP (zT [] sy λE5=>some (BQ,E5)) (zn (.ptr y 0) λAl=>qH Al 15 λDd=>jK sy Dd λAm=>zn (.ptr y 0) λv30=>qH v30 10 λrz=>jK sy rz λrW=>
   zn (.ptr y 0) λBR=>qH BR 2 λDe=>jr sy De 8 λtM=>zn (.ptr y 0) λAn=>qH An 12 λDf=>jK sy Df λTX=>kH TX λTY=>qH (.ptr b 0) 0 λIp=>jK sy Ip λIq=>j6 .eql Iq (.int .i64 ((17:Nat):Int)) λIr=>
   zc [.int .i64 ((0:Nat):Int),.int .u64 ((0:Nat):Int),.int .u64 ((0:Nat):Int),.int .u64 ((0:Nat):Int),.int .u64 ((0:Nat):Int),.int .u64 ((0:Nat):Int),.int .u64 ((0:Nat):Int),.int .u64 ((0:Nat):Int),.int .u64 ((0:Nat):Int),.int .i64 ((0:Nat):Int),.bool false] [(0,1,rW),(1,8,tM),(9,1,TY),(10,1,Ir)] λIs=>
   xd sy 213 [.int .i64 ((0:Nat):Int),.int .u64 ((0:Nat):Int),.int .u64 ((0:Nat):Int),.int .u64 ((0:Nat):Int),.int .u64 ((0:Nat):Int),.int .u64 ((0:Nat):Int),.int .u64 ((0:Nat):Int),.int .u64 ((0:Nat):Int),.int .u64 ((0:Nat):Int),.int .i64 ((0:Nat):Int),.bool false] 1 [(0,11,Is)] λIt AO=>
   xH AO 213 11 Am It λIF h47=>zn (.ptr y 0) λT5=>qH T5 15 λIw=>jw h47 Iw IF 1 λh50=>zn (.ptr y 0) λEL=>qH EL 10 λDh=>jK h50 Dh λDi=>j6 .add Di (.int .i64 ((1:Nat):Int)) λDj=>
   zn (.ptr y 0) λAo=>qH Ao 10 λAp=>jw h50 Ap Dj 1 λh57=>zT [] h57 λiP=>some (.int .i64 ((0:Nat):Int),iP))) λr h'=>r=.int .i64 0∧(xE op s.pc (s.pc+1) s V).e=0∧
    HS g h' (aG y o sv mt { (xE op s.pc (s.pc+1) s V).s with pc:=(xE op s.pc (s.pc+1) s V).nx } (if(xE op s.pc (s.pc+1) s V).bR=true then 3 else 0) err left::aR o (xE op s.pc (s.pc+1) s V).v::R):=by
  intro c;have hb:=hb c;have ho:(yN V).1=0:=by simp_all[yN,kV,iQ,omQ]
  unfold xE;rw[iJ ho];refine qX (qQ (qZ H2 (b:=y) .here rfl ?_));refine qgC omQ G.ok (H2.aJ (P:=aR o V) e_5) λh3 H3=>?_;refine jR ho (qJ ?_);refine qX (qQ (qZ H3 (b:=y) e_1 rfl ?_));refine qX (qQ (qZ H3 (b:=y) e_1 rfl ?_));refine qX (qQ (qo H3 (b:=y) (off:=2) e_1 rfl omQ (l:=Wt s.ao) rfl ?_));refine qX (qQ (qZ H3 (b:=y) e_1 rfl ?_));refine qr H3 e_2 ?_;refine qQ (qZ H3 (b:=b) e_5 (x:=.int .i64 op) (by rw[← mz];rfl) ?_);refine J7 (qA (l:=kz (⟨op,s.pc,s.ao,s.out.length⟩,s.pc)) rfl ?_);refine jY (n:=1) (l:=kz (⟨op,s.pc,s.ao,s.out.length⟩,s.pc)) (sz:=11) H3 rfl rfl rfl rfl λuG RD r6=>?_;refine zA (r6.aJ (P:=Qk ov qs) e_4) (r6.sl .here) omQ omQ rfl λnD B5 uP=>?_;have o14:=uP.one .here;refine qX (qQ ?_);refine qx uP (b:=y) e_3 o14 (by show 15<17;omega) λLK Fj=>?_;have Fj:HS g LK (qv y (wx sv lv nD mv o 0 err left s.pc s.ao)::_):=Fj;refine qX (qQ (qZ Fj (b:=y) .here rfl ?_));refine qE omQ (qX (qQ ?_));refine qx Fj (b:=y) .here ⟨rfl,rfl⟩ (by show 10<17;omega) λmB H16=>?_;refine qj (qq ⟨rfl,rfl,aG.I (s:={ { s with aO:=⟨op,s.pc,s.ao,s.out.length⟩::s.aO }with pc:=s.pc+1 }) (kind:=0) (lv:=lv) (ov:=nD) (mv:=mv) (qs:=(⟨op,s.pc,s.ao,s.out.length⟩,s.pc)::qs) (e.push λ_=>rfl) ?_⟩);show HS g mB (qv y (wx sv lv nD mv o 0 err left (s.pc+1) s.ao)::JK lv s.out::qC 213 11 (qs.length+1) nD (((⟨op,s.pc,s.ao,s.out.length⟩,s.pc)::qs).reverse.flatMap kz)::QO mv mt::aR o (yN V).2::R);rw[Gq];exact H16.sub (.cons .here (.cons e_3 (.cons .here (.cons e_2 (.cons e_1 (.drop (.drop .refl)))))))
 rcases hc with c |c |c |c |c |c |c
 all_goals repeat (first |with_reducible refine qW omQ ?_ |with_reducible refine qk omQ ?_ |(with_reducible refine qG ?_;try dsimp only) |with_reducible refine qK ?_ |with_reducible refine qJ ?_)
 ·rw[iJ (.inl c)];exact uo (.inl c)
 ·rw[iJ (.inr c)];exact uo (.inr c)
 rotate_right
 ·rw[iQ omQ,iQ omQ,iQ omQ,iQ omQ];refine qY (qY8 omQ G iD h5 told hm hpc (H1.sub (L':=aG y o sv mt s 0 err left::aR o V::qv b (ju x)::R) (.cons e_1 (.cons e_1 (.cons .here .refl))))) ?_;rintro _ h3 ⟨e3,H3⟩;exact qj (qq ⟨rfl,e3,H3.sub (.cons .here (.cons .here (.drop .refl)))⟩)
 all_goals
  obtain⟨p,r,ho⟩:∃p r,s.aO=p::r:=List.exists_cons_of_ne_nil (bW omQ);rw[ho]at e iD told hm;obtain⟨z,qs,rfl,e,hz⟩:=e.cons;have el:=e.len;rw[ho]at h5;simp at h5
 ·rw[iQ omQ,iJ (.inl c)];refine qVo omQ G.ok hf e omQ (H2.sub (L':=qv y (wx sv lv ov mv o 0 err left s.pc s.ao)::JK lv s.out::Qk ov ((p,z)::qs)::QO mv mt::aR o V::qv b (ju x)::R) (.cons .here (.cons .here (.cons .here (.cons .here (.cons e_1 (.cons .here .refl))))))) λh3 H3=>?_;obtain⟨lv2,sc,mv2,A7,e2,H4⟩:=aG.E H3;refine qX (qQ (qZ H4 (b:=y) .here rfl (qE (by grind) ?_)));refine RU H3 λh5 H5=>?_;rw[ho];exact qj (qq ⟨rfl,(kP (by grind)).1,H5.sub (.cons .here (.cons .here (.drop .refl)))⟩)
 ·rw[iQ omQ,iJ (.inr c)];refine qVo omQ G.ok hf e omQ (H2.sub (L':=qv y (wx sv lv ov mv o 0 err left s.pc s.ao)::JK lv s.out::Qk ov ((p,z)::qs)::QO mv mt::aR o V::qv b (ju x)::R) (.cons .here (.cons .here (.cons .here (.cons .here (.cons e_1 (.cons .here .refl))))))) λh3 H3=>?_;obtain⟨lv2,sc,mv2,A7,e2,H4⟩:=aG.E H3;refine qX (qQ (qZ H4 (b:=y) .here rfl (qE (by grind) ?_)));refine RU H3 λh5 H5=>?_;rw[ho];exact qj (qq ⟨rfl,(kP (by grind)).1,H5.sub (.cons .here (.cons .here (.drop .refl)))⟩)
 ·rw[iQ omQ,iQ omQ,iJ c];obtain⟨kk,mg,w,iN,RQ,RS⟩:=pJ (.inl c);rw[lF.num mg iN,ho];refine qVo omQ G.ok hf e omQ (H2.sub (L':=qv y (wx sv lv ov mv o 0 err left s.pc s.ao)::JK lv s.out::Qk ov ((p,z)::qs)::QO mv mt::aR o V::qv b (ju x)::R) (.cons .here (.cons .here (.cons .here (.cons .here (.cons e_1 (.cons .here .refl))))))) λh3 H3=>?_;refine jQ0 (s:={ s with aO:=r }) mg iN ⟨RQ,RS⟩ H3 λh5 H5=>?_;exact qj (qq ⟨rfl,(kP (by grind)).1,H5.sub (.cons .here (.cons .here (.drop .refl)))⟩)
 ·rw[iQ omQ,iQ omQ,iQ omQ,iJ c];obtain⟨kk,mg,w,iN,RQ,RS⟩:=pJ (.inr c);rw[lF.num mg iN,ho];have H2:=H2.sub (L':=qv y (wx sv lv ov mv o 0 err left s.pc s.ao)::JK lv s.out::Qk ov ((p,z)::qs)::QO mv mt::aR o V::qv b (ju x)::R) (.cons .here (.cons .here (.cons .here (.cons .here (.cons e_1 (.cons .here .refl))))));refine qX (qQ (qZ H2 (b:=y) .here rfl ?_));rw[show(((p,z)::qs).length:Int)=((qs.length+1:Nat):Int)from rfl];refine qn omQ ?_;rw[show((qs.length+1:Nat):Int)-((1:Nat):Int)=(qs.length:Int) by omega];refine xI (l:=kz (p,z)) (H2.sl e_2) (i:=qs.length) aM omQ qGi ?_;refine qh H2 rfl λb2 h3 H3=>zq H3 .here rfl (by simp) rfl λh4 H4=>?_;have H4:HS g h4 (qv b2 (kz (p,z))::qv y (wx sv lv ov mv o 0 err left s.pc s.ao)::JK lv s.out::Qk ov ((p,z)::qs)::QO mv mt::aR o V::qv b (ju x)::R):=H4;clear H3 H1;refine qX (qQ (qZ H4 (b:=y) e_1 rfl ?_));refine qvP omQ G.ok (H4.aJ (P:=aR o V) e_5) λh5 H5=>?_;clear H4;refine qX (qQ (qZ H5 (b:=y) e_2 rfl ?_));refine qn omQ ?_;rw[show((qs.length+1:Nat):Int)-((1:Nat):Int)=(qs.length:Int) by omega];refine JS (H5.aJ (P:=Qk ov ((p,z)::qs)) e_4) omQ aM λsc H6=>?_;rw[ZI]at H6;have o6:=H6.one .here;refine qX (qQ ?_);refine qx H6 (b:=y) e_3 o6 (by show 15<17;omega) λh7 H7=>?_;have H7:HS g h7 (qv y (wx sv lv sc mv o 0 err left s.pc s.ao)::Qk sc qs::aR o (xa V).2::qv b2 (kz (p,z))::JK lv s.out::QO mv mt::qv b (ju x)::R):=H7;clear H5 H6;have H8:HS g h7 (aG y o sv mt { s with aO:=r } 0 err left::qv b2 (kz (p,z))::aR o (xa V).2::qv b (ju x)::R):=aG.I (s:={ s with aO:=r }) (lv:=lv) (ov:=sc) (mv:=mv) e (H7.sub (.cons .here (.cons e_3 (.cons .here (.cons e_2 (.cons e_1 (.cons .here .refl)))))));refine qG ?_;dsimp only;refine jJA (s:={ s with aO:=r }) told.1 H8 λh9 H9=>?_;refine jQ0 (s:=Yb { s with aO:=r } p) mg iN ⟨RQ,RS⟩ H9 λia dC=>?_;exact qj (qq ⟨rfl,(Qr (by grind)).1,dC.sub (.cons .here (.cons e_1 (.drop (.drop .refl))))⟩)
end
end
section
variable {g h:AH} {L R:List SP}
theorem Ut {n:Nat} (hn:1≤n) {b off:Int} (hb:0≤b∧b<18446744073709551616) (ho:0≤off∧off≤100) :
  ba n 121 [.int .u64 b,.int .i64 off] h λr h'=>r=.int .i64 (if(xU b off).2=0 then(xU b off).1 else-1)∧h'=h:=by
 refine cu (S:=S121) rfl omQ λk hk=>?_;unfold S121;try simp only[iZ]
 by_cases h1:2147483648≤b
 ·rw[show xU b off=(0,2) by simp_all[xU]];refine zK omQ ?_;refine qG ?_;(try dsimp only);refine ql ?_;(try dsimp only);refine qF (qG ?_);(try dsimp only);refine ql ?_;(try dsimp only);refine qF (qK ?_)
  exact qq ⟨rfl,rfl⟩
 by_cases h2:2147483648≤b+off
 ·rw[show xU b off=(0,2) by simp_all[xU]];refine jt omQ ?_;refine qG ?_;(try dsimp only);refine qP ?_;(try dsimp only);refine yP omQ ?_;refine qE omQ ?_;refine zK omQ ?_;refine qy (qG ?_);(try dsimp only);refine ql ?_;(try dsimp only);refine qF (qK ?_)
  exact qq ⟨rfl,rfl⟩
 by_cases h3:b+off<6
 ·rw[show xU b off=(0,2) by simp_all[xU]];refine jt omQ ?_;refine qG ?_;(try dsimp only);refine qP ?_;(try dsimp only);refine yP omQ ?_;refine qE omQ ?_;refine jt omQ ?_;refine qy (qG ?_);(try dsimp only);refine qP ?_;(try dsimp only);refine yP omQ ?_;refine qE omQ ?_;refine jO omQ ?_;refine qy (qK ?_)
  exact qq ⟨rfl,rfl⟩
 ·rw[show xU b off=(b+off,0) by unfold xU;grind];refine jt omQ ?_;refine qG ?_;(try dsimp only);refine qP ?_;(try dsimp only);refine yP omQ ?_;refine qE omQ ?_;refine jt omQ ?_;refine qy (qG ?_);(try dsimp only);refine qP ?_;(try dsimp only);refine yP omQ ?_;refine qE omQ ?_;refine jM omQ ?_;refine qy (qJ (yP omQ ?_));refine qE omQ ?_
  exact qq ⟨rfl,rfl⟩
def RV (op a b:Int):Int:=if op=3 then zu .u64 (a+b)else if op=4 then zu .u64 (a-b)else if op=5 then zu .u64 (a*b)else if op=6 then Q8 (a<b)else Q8 (a=b)
theorem qK9 {n:Nat} (hn:1≤n) {op a b:Int} (ho:3≤op∧op≤7):ba n 112 [.int .i64 op,.int .u64 a,.int .u64 b] h λr h'=>r=.int .u64 (RV op a b)∧h'=h:=by
 refine dV (S:=S112) rfl omQ λk hk=>?_;unfold S112;try simp only[iZ]
 unfold RV;by_cases c3:op=3
 ·rw[iJ c3];refine qG ?_;(try dsimp only);refine qk omQ ?_;refine qK ?_
  exact KD (qq ⟨rfl,rfl⟩)
 rw[iQ c3];by_cases c4:op=4
 ·rw[iJ c4];refine qG ?_;(try dsimp only);refine qW omQ ?_;refine qJ (qk omQ ?_);refine qK ?_
  exact TK (qq ⟨rfl,rfl⟩)
 rw[iQ c4];by_cases c5:op=5
 ·rw[iJ c5];refine qG ?_;(try dsimp only);refine qW omQ ?_;refine qJ (qW omQ ?_);refine qJ (qk omQ ?_);refine qK ?_
  exact qkc (qq ⟨rfl,rfl⟩)
 rw[iQ c5];by_cases c6:op=6
 ·rw[iJ c6];by_cases h:a<b
  ·refine qG ?_;(try dsimp only);refine qW omQ ?_;refine qJ (qW omQ ?_);refine qJ (qW omQ ?_);refine qJ (qk omQ ?_);refine qK (jO omQ ?_);refine qK ?_
   exact qq ⟨by simp_all[Q8],rfl⟩
  ·refine qG ?_;(try dsimp only);refine qW omQ ?_;refine qJ (qW omQ ?_);refine qJ (qW omQ ?_);refine qJ (qk omQ ?_);refine qK (jM omQ ?_);refine qJ (qj ?_)
   exact qq ⟨by simp_all[Q8,iQ],rfl⟩
 ·rw[iQ c6];by_cases h:a=b
  ·refine qG ?_;(try dsimp only);refine qW omQ ?_;refine qJ (qW omQ ?_);refine qJ (qW omQ ?_);refine qJ (qW omQ ?_);refine qJ (qk omQ ?_);refine qK (qk omQ ?_);refine qK ?_
   exact qq ⟨by simp_all[Q8],rfl⟩
  ·refine qG ?_;(try dsimp only);refine qW omQ ?_;refine qJ (qW omQ ?_);refine qJ (qW omQ ?_);refine qJ (qW omQ ?_);refine qJ (qk omQ ?_);refine qK (qW omQ ?_);refine qJ (qj ?_)
   exact qq ⟨by simp_all[Q8],rfl⟩
theorem qgl {M:VM} {p z:Int} (hp:1≤p∧p<M.sz):z7 M [(p,z)]=((gc M.most M.lv p z).1,{ M with lv:=(gc M.most M.lv p z).2 }):=by
 unfold z7;rw[iJ (by grind),wC]
 split
 ·rename_i h0;rw[h0];rfl
 grind[qzI]
theorem qvc {M:VM} {p z:Int} (hp:¬(1≤p∧p<M.sz)):z7 M [(p,z)]=(2,M):=by simp_all[z7,iQ]
theorem OJ {s:IM} {V:VM} {x:qO} (h:(zB s V x).1≠0):(zB s V x).2.1=s:=by
 grind[zB]
section
variable {y o:Nat} {sv:AV} {mt:List Int} {s:IM} {kind err left:Int}
theorem qgs {n:Nat} (hn:8≤n) {V:VM} {x:qO} (G:zj V) (ro:X7 s.ao) (_:x.1=8∨x.1=9∨x.1=10∨x.1=11) (ha:0≤x.2.1∧x.2.1≤7) (hb:0≤x.2.2.1∧x.2.2.1≤7) (hc:0≤x.2.2.2.1∧x.2.2.2.1≤100)
  (H:HS g h (aG y o sv mt s kind err left::aR o V::R)) :
  ba n 113 [.ptr y 0,.agg (ju x)] h λr h'=>r=.int .i64 (zB s V x).1∧HS g h' (aG y o sv mt (zB s V x).2.1 kind err left::aR o (zB s V x).2.2::R):=by
 refine cu (S:=S113) rfl omQ λk hk=>?_;unfold S113;try simp only[iZ]
 refine qh H rfl λb h1 H1=>?_;have H1:HS g h1 (qv b (ju x)::aG y o sv mt s kind err left::aR o V::R):=H1;have HB:=H1.sub (L':=aG y o sv mt s kind err left::aR o V::qv b (ju x)::R) (.cons e_1 (.cons e_1 (.cons .here .refl)));clear H;obtain⟨lv,ov,mv,qs,e,H2⟩:=aG.E HB;obtain⟨a,mE⟩:∃a:Nat,x.2.1=a:=⟨x.2.1.toNat,by omega⟩;obtain⟨bb,Fk⟩:∃a:Nat,x.2.2.1=a:=⟨x.2.2.1.toNat,by omega⟩;have oW:a<8:=by omega
 have sd:bb<8:=by omega
 have hra:=ro.at (a:Int);have hrb:=ro.at (bb:Int);have se:(ju x)[1]? =some (.int .i64 (a:Int)):=by rw[← mE];rfl
 have Eh:(ju x)[2]? =some (.int .i64 (bb:Int)):=by rw[← Fk];rfl
 unfold zB;rw[mE,Fk];refine qQ (qZ H1 (b:=b) .here rfl ?_);have fX:∀{h':AH} {V':VM} {a0:Nat} {z:Int},a0<8→HS g h' (aG y o sv mt s kind err left::aR o V'::qv b (ju x)::R)→∀{K0:AH→Go.Ae.R} {Q},(∀oM,HS g oM (aG y o sv mt (cN s (a0:Int) z) kind err left::aR o V'::R)→wp (K0 oM) Q)→
   wp (zn (.ptr y 0) λv=>qH v 2 λv=>Ji v (.int .i64 (a0:Int)) 8 1 λv=>jw h' v (.int .u64 z) 1 K0) Q:=by
  intro h' V' a0 z h8 H' K0 Q w;obtain⟨lv,ov,mv,qs,e,H3⟩:=aG.E H';refine qX (qQ (vz h8 ?_));refine qx H3 (b:=y) .here ⟨rfl,rfl⟩ (by show 2+a0*1<17;omega) λh4 H4=>w h4 ?_;exact(qWa e ro.len h8 rfl H4).sub (.cons .here (.cons .here (.drop .refl)))
 by_cases c8:x.1=8
 ·rw[iJ c8];refine qk c8 (qK ?_);refine qQ (qZ H1 (b:=b) .here Eh ?_);refine qX (qQ (vz sd (qZ H2 (b:=y) .here (wG sd) ?_)));refine qQ (qZ H1 (b:=b) .here rfl ?_);refine qY (Ut omQ hrb hc) ?_;rintro _ _ ⟨rfl,rfl⟩;by_cases h0:(xU (qB s.ao (bb:Int)) x.2.2.2.1).2=0
  ·rw[iJ h0,iJ h0];have nR:6≤(xU (qB s.ao (bb:Int)) x.2.2.2.1).1:=by
    unfold xU at h0 ⊢
    grind
   generalize(xU (qB s.ao (bb:Int)) x.2.2.2.1).1=p at*;refine jM omQ (qJ ?_);refine qX (qQ (qZ H2 (b:=y) .here rfl ?_));refine qY (kT omQ (HB.aJ (P:=aR o V) e_1) G.ok) ?_;rintro _ h3 ⟨rfl,H3⟩;refine qi rfl (qi rfl (qG ?_))
   try dsimp only
   by_cases h4:(qm V p).1.2=0
   ·rw[iJ h4];refine qk h4 (qK ?_);refine qQ (qZ H3 (b:=b) e_2 se ?_);refine fX oW (H3.sub (.cons e_1 (.cons .here (.cons .here .refl)))) λh5 H5=>?_;exact qj (qq ⟨by rw[h4],H5⟩)
   ·rw[iQ h4];refine qW h4 (qJ ?_);exact qj (qq ⟨rfl,H3.sub (.cons e_1 (.cons .here (.drop .refl)))⟩)
  ·rw[iQ h0,iQ h0];refine jO omQ (qK ?_);exact qq ⟨rfl,HB.sub (.cons .here (.cons .here (.drop .refl)))⟩
 rw[iQ c8];refine qW c8 (qJ ?_);by_cases c9:x.1=9
 ·rw[iJ c9];refine qk c9 (qK ?_);refine qQ (qZ H1 (b:=b) .here se ?_);refine qX (qQ (vz oW (qZ H2 (b:=y) .here (wG oW) ?_)));refine qQ (qZ H1 (b:=b) .here rfl ?_);refine qY (Ut omQ hra hc) ?_;rintro _ _ ⟨rfl,rfl⟩;by_cases h0:(xU (qB s.ao (a:Int)) x.2.2.2.1).2=0
  ·rw[iJ h0,iJ h0];have nR:6≤(xU (qB s.ao (a:Int)) x.2.2.2.1).1:=by
    unfold xU at h0 ⊢
    grind
   generalize(xU (qB s.ao (a:Int)) x.2.2.2.1).1=p at*;refine jM omQ (qG ?_)
   try dsimp only
   refine qP ?_
   try dsimp only
   refine qX (qQ (qZ H2 (b:=y) .here rfl ?_));refine qY (VC omQ (HB.aJ (P:=aR o V) e_1)) ?_;rintro _ _ ⟨rfl,rfl⟩;by_cases dY:1≤p∧p<V.sz
   ·rw[iG dY,qgl dY];refine jE (qy (qJ ?_));obtain⟨kv,q,H3⟩:=aR.E (H2.aJ (P:=aR o V) e_4);refine qX (qQ (qZ H2 (b:=y) .here rfl ?_));refine qX (qQ (qZ H3 (b:=o) .here rfl ?_));refine qQ (qZ H1 (b:=b) .here Eh ?_);refine qX (qQ (vz sd (qZ H2 (b:=y) .here (wG sd) ?_)));refine qY (qZ1 omQ (H3.aJ (P:=cF q V.most V.lv) e_2) G.ok.lR) ?_;rintro _ h4 ⟨rfl,H4⟩;have H5:HS g h4 (aG y o sv mt s kind err left::cF q V.most (gc V.most V.lv p (qB s.ao (bb:Int))).2::qv o [.int .i64 (V.sz:Int),kv,.ptr q 0,.int .i64 V.aB]::qC 63 2 V.K.length kv (V.K.flatMap jH)::qv b (ju x)::R) :=
     aG.I e (H4.sub (.cons e_3 (.cons e_3 (.cons e_3 (.cons e_3 (.cons .here (.cons .here (.cons .here (.cons .here .refl)))))))))
    refine qq ⟨rfl,?_⟩;have H6:=aR.I (o:=o) (M:={ V with lv:=(gc V.most V.lv p (qB s.ao (bb:Int))).2 }) (kv:=kv) (q:=q) (R:=aG y o sv mt s kind err left::R) (H5.sub (.cons e_2 (.cons e_2 (.cons e_1 (.cons .here (.drop .refl))))));exact H6.sub (.cons e_1 (.cons .here .refl))
   ·rw[iV dY,qvc dY];refine jo (qy (qK ?_));exact qq ⟨rfl,HB.sub (.cons .here (.cons .here (.drop .refl)))⟩
  ·rw[iQ h0,iQ h0];refine jO omQ (qG ?_)
   try dsimp only
   refine ql ?_
   try dsimp only
   refine qF (qK ?_);exact qq ⟨rfl,HB.sub (.cons .here (.cons .here (.drop .refl)))⟩
 rw[iQ c9];refine qW c9 (qJ ?_);by_cases RX:x.1=10
 ·rw[iJ RX];refine qk RX (qK ?_);refine qQ (qZ H1 (b:=b) .here Eh ?_);refine qX (qQ (vz sd (qZ H2 (b:=y) .here (wG sd) ?_)));by_cases h0:2147483648≤qB s.ao (bb:Int)
  ·rw[iJ h0];refine zK omQ (qK ?_);exact qq ⟨rfl,HB.sub (.cons .here (.cons .here (.drop .refl)))⟩
  ·rw[iQ h0];refine jt omQ (qJ ?_);refine qX (qQ (qZ H2 (b:=y) .here rfl ?_));refine qQ (qZ H1 (b:=b) .here Eh ?_);refine qX (qQ (vz sd (qZ H2 (b:=y) .here (wG sd) ?_)));refine yP omQ ?_;refine qY (qYp omQ (HB.aJ (P:=aR o V) e_1) G.ok G.wd) ?_;rintro _ h3 ⟨rfl,H3⟩;refine qi rfl (qi rfl (qG ?_))
   try dsimp only
   by_cases h4:(xO V (qB s.ao (bb:Int))).1.2=0
   ·rw[iJ h4];have si:=qG7 (x:=qB s.ao (bb:Int)) G.wd h4;refine qk h4 (qK ?_);refine qQ (qZ H3 (b:=b) e_2 se ?_);refine gC omQ ?_;refine fX oW (H3.sub (.cons e_1 (.cons .here (.cons .here .refl)))) λh5 H5=>?_;exact qj (qq ⟨by rw[h4],H5⟩)
   ·rw[iQ h4];refine qW h4 (qJ ?_);exact qj (qq ⟨rfl,H3.sub (.cons e_1 (.cons .here (.drop .refl)))⟩)
 ·rw[iQ RX];refine qW RX (qJ ?_);refine qQ (qZ H1 (b:=b) .here se ?_);refine qX (qQ (vz oW (qZ H2 (b:=y) .here (wG oW) ?_)));by_cases h0:2147483648≤qB s.ao (a:Int)
  ·rw[iJ h0];refine zK omQ (qK ?_);exact qq ⟨rfl,HB.sub (.cons .here (.cons .here (.drop .refl)))⟩
  ·rw[iQ h0];refine jt omQ (qJ ?_);refine qX (qQ (qZ H2 (b:=y) .here rfl ?_));refine qQ (qZ H1 (b:=b) .here se ?_);refine qX (qQ (vz oW (qZ H2 (b:=y) .here (wG oW) ?_)));refine yP omQ ?_;refine qY (qz3 omQ (HB.aJ (P:=aR o V) e_1) G.ok G.wd) ?_;rintro _ h3 ⟨rfl,H3⟩;exact qq ⟨rfl,H3.sub (.cons e_1 (.cons .here (.drop .refl)))⟩
end
end
section
variable {g h:AH} {L R:List SP}
section
variable {y o:Nat} {sv:AV} {mt:List Int} {s:IM} {kind err left:Int}
theorem jQp {mt:List Int} {s:IM} {V:VM} {x:qO} (h:3≤x.1∧x.1≤7):bG mt s V x=⟨0,s.pc+1,false,cN s x.2.1 (RV x.1 (qB s.ao x.2.2.1) (qB s.ao x.2.2.2.1)),V⟩:=by
 unfold bG RV;grind
set_option maxHeartbeats 4000000 in
theorem qk8 {n:Nat} (hn:9≤n) {V:VM} {x:qO} {l:List qO} (P:Rt l mt s V x) (iD:V.lv.length=s.aO.length+1) (h5:s.aO.length≤5) (hb:x.1=14∨x.1=17→s.aO.length<5) (hf:bE V.lv<1000000)
  (H:HS g h (aG y o sv mt s 0 err left::aR o V::R)) :
  ba n 97 [.ptr y 0,.agg (ju x)] h λr h'=>r=.int .i64 (bG mt s V x).e∧
   HS g h' (aG y o sv mt (if(bG mt s V x).e=0 then{ (bG mt s V x).s with pc:=(bG mt s V x).nx }else s) (if(bG mt s V x).bR=true then 3 else 0) err left::aR o (bG mt s V x).v::R):=by
 refine cu (S:=S97) rfl omQ λk hk=>?_;unfold S97;try simp only[iZ]
 have G:=P.aE;have ro:=P.ao;have hpc:=P.pc;have mY:=P.out;refine qh H rfl λb h1 H1=>?_;have H1:HS g h1 (qv b (ju x)::aG y o sv mt s 0 err left::aR o V::R):=H1;have HB:=H1.sub (L':=aG y o sv mt s 0 err left::aR o V::qv b (ju x)::R) (.cons e_1 (.cons e_1 (.cons .here .refl)));clear H;obtain⟨lv,ov,mv,qs,e,H2⟩:=aG.E HB;obtain⟨a,mE⟩:∃a:Nat,x.2.1=a:=⟨x.2.1.toNat,by have:=P.a;omega⟩;obtain⟨bb,Fk⟩:∃a:Nat,x.2.2.1=a:=⟨x.2.2.1.toNat,by have:=P.b;omega⟩;have oW:a<8:=by have:=P.a;omega
 have sd:bb<8:=by have:=P.b;omega
 have se:(ju x)[1]? =some (.int .i64 (a:Int)):=by rw[← mE];rfl
 have Eh:(ju x)[2]? =some (.int .i64 (bb:Int)):=by rw[← Fk];rfl
 refine qX (qQ (qZ H2 (b:=y) .here rfl (qE omQ ?_)));refine qQ (qZ H1 (b:=b) .here rfl ?_);have fX:∀{h':AH} {a0:Nat} {z:Int},a0<8→HS g h' (aG y o sv mt s 0 err left::aR o V::qv b (ju x)::R)→∀{K0:AH→Go.Ae.R} {Q},(∀oM,HS g oM (aG y o sv mt (cN s (a0:Int) z) 0 err left::aR o V::qv b (ju x)::R)→wp (K0 oM) Q)→
   wp (zn (.ptr y 0) λv=>qH v 2 λv=>Ji v (.int .i64 (a0:Int)) 8 1 λv=>jw h' v (.int .u64 z) 1 K0) Q:=by
  intro h' a0 z h8 H' K0 Q w;obtain⟨lv,ov,mv,qs,e,H3⟩:=aG.E H';refine qX (qQ (vz h8 ?_));refine qx H3 (b:=y) .here ⟨rfl,rfl⟩ (by show 2+a0*1<17;omega) λh4 H4=>w h4 ?_;exact qWa e ro.len h8 rfl H4
 have fin:∀{e nx:Int} {s':IM} {V':VM} {h0:AH} {D:SM},HS g h0 (aG y o sv mt s' 0 err left::aR o V'::qv b (ju x)::R)→(e≠0→s'=s)→D=⟨e,nx,false,s',V'⟩→
   wp (j6 .eql (.int .i64 e) (.int .i64 ((0:Nat):Int)) λpF=>zU pF (zn (.ptr y 0) λry=>qH ry 10 λtK=>jw h0 tK (.int .i64 nx) 1 λnI=>zT [] nI λmB=>some (.int .i64 e,mB)) (zT [] h0 λmB=>some (.int .i64 e,mB)))
    λr h'=>r=.int .i64 D.e∧HS g h' (aG y o sv mt (if D.e=0 then{ D.s with pc:=D.nx }else s) (if D.bR=true then 3 else 0) err left::aR o D.v::R):=by
  rintro e nx s' V' h0 D H0 he rfl;by_cases h:e=0
  ·refine qk h (qK ?_);refine RU H0 λh3 H3=>qj (qq ⟨rfl,?_⟩);dsimp only;rw[iJ h];exact H3.sub (.cons .here (.cons .here (.drop .refl)))
  ·refine qW h (qJ (qj (qq ⟨rfl,?_⟩)));dsimp only;rw[iQ h,← he h];exact H0.sub (.cons .here (.cons .here (.drop .refl)))
 have mz:=P.op;have hc:x.1=1∨x.1=2∨(x.1=3∨x.1=4∨x.1=5∨x.1=6∨x.1=7)∨(x.1=8∨x.1=9∨x.1=10∨x.1=11)∨x.1=12∨x.1=13∨x.1=21∨x.1=22∨(14≤x.1∧x.1≤20):=by omega
 have uq:(3≤x.1∧x.1≤7)→wp (qH (.ptr b 0) 1 λEJ=>jK h1 EJ λEL=>qH (.ptr b 0) 0 λDh=>jK h1 Dh λDi=>qH (.ptr b 0) 2 λDj=>jK h1 Dj λAo=>zn (.ptr y 0) λAp=>qH Ap 2 λDk=>Ji Dk Ao 8 1 λDl=>jK h1 Dl λIx=>
   qH (.ptr b 0) 3 λIy=>jK h1 Iy λIG=>zn (.ptr y 0) λDm=>qH Dm 2 λtN=>Ji tN IG 8 1 λDn=>jK h1 Dn λAq=>xS (callT tab qL k) (.fn 112 [] []) [Di,Ix,Aq] h1 λAr IH=>zn (.ptr y 0) λDq=>qH Dq 2 λDr=>Ji Dr EL 8 1 λIz=>
   jw IH Iz Ar 1 λRc=>kA EJ none EL h1 IH h1.nx<| j6 .eql (.int .i64 ((0:Nat):Int)) (.int .i64 ((0:Nat):Int)) λpF=>zU pF (zn (.ptr y 0) λry=>qH ry 10 λtK=>jw Rc tK (.int .i64 (s.pc+((1:Nat):Int))) 1 λnI=>zT [] nI λmB=>some (.int .i64 ((0:Nat):Int),mB))
    (zT [] Rc λmB=>some (.int .i64 ((0:Nat):Int),mB))) λr h'=>r=.int .i64 (bG mt s V x).e∧
   HS g h' (aG y o sv mt (if(bG mt s V x).e=0 then{ (bG mt s V x).s with pc:=(bG mt s V x).nx }else s) (if(bG mt s V x).bR=true then 3 else 0) err left::aR o (bG mt s V x).v::R):=by
  intro c;obtain⟨cc,LI⟩:∃a:Nat,x.2.2.2.1=a:=⟨x.2.2.2.1.toNat,by have:=P.c;omega⟩;have hc8:cc<8:=by have:=P.c7 c;omega
  have ldC:(ju x)[3]? =some (.int .i64 (cc:Int)):=by rw[← LI];rfl
  refine qQ (qZ H1 (b:=b) .here se ?_);refine qQ (qZ H1 (b:=b) .here rfl ?_);refine qQ (qZ H1 (b:=b) .here Eh ?_);refine qX (qQ (vz sd (qZ H2 (b:=y) .here (wG sd) ?_)));refine qQ (qZ H1 (b:=b) .here ldC ?_);refine qX (qQ (vz hc8 (qZ H2 (b:=y) .here (wG hc8) ?_)));refine qY (qK9 omQ c) ?_;rintro _ _ ⟨rfl,rfl⟩;refine fX oW HB λh3 H3=>?_;refine jU H1 (b:=b) .here se H1 .here se (HS.lt H1 .here) ?_;refine fin H3 (λh=>absurd rfl h) ?_;rw[jQp c,mE,Fk,LI];rfl
 have mem:(x.1=8∨x.1=9∨x.1=10∨x.1=11)→wp (jr h1 (.ptr b 0) 5 λAu=>xS (callT tab qL k) (.fn 113 [] []) [.ptr y 0,Au] h1 λtO RY=>j6 .eql tO (.int .i64 ((0:Nat):Int)) λpF=>
   zU pF (zn (.ptr y 0) λry=>qH ry 10 λtK=>jw RY tK (.int .i64 (s.pc+((1:Nat):Int))) 1 λnI=>zT [] nI λmB=>some (tO,mB)) (zT [] RY λmB=>some (tO,mB))) λr h'=>r=.int .i64 (bG mt s V x).e∧
   HS g h' (aG y o sv mt (if(bG mt s V x).e=0 then{ (bG mt s V x).s with pc:=(bG mt s V x).nx }else s) (if(bG mt s V x).bR=true then 3 else 0) err left::aR o (bG mt s V x).v::R):=by
  intro c;refine qo H1 (b:=b) (off:=0) .here rfl omQ (l:=ju x) rfl ?_;refine qY (qgs omQ G ro c P.a P.b P.c HB) ?_;rintro _ h3 ⟨rfl,H3⟩;refine fin H3 OJ ?_;unfold bG;rw[iQ omQ,iQ omQ,iQ omQ,iQ omQ,iQ omQ,iQ omQ,iQ omQ,iQ omQ,iQ omQ,iQ omQ,iQ omQ,iJ c];rfl
 rcases hc with c |c |(c |c |c |c |c) |(c |c |c |c) |c |c |c |c |c
 all_goals repeat (first |with_reducible refine qW omQ ?_ |with_reducible refine qk omQ ?_ |(with_reducible refine qG ?_;try dsimp only) |with_reducible refine qK ?_ |with_reducible refine qJ ?_)
 ·refine qQ (qZ H1 (b:=b) .here se ?_);refine qQ (qZ H1 (b:=b) .here rfl ?_);refine fX oW HB λh3 H3=>?_;refine fin H3 (λh=>absurd rfl h) ?_;unfold bG;rw[iJ c,mE];rfl
 ·refine qQ (qZ H1 (b:=b) .here se ?_);refine qQ (qZ H1 (b:=b) .here Eh ?_);refine qX (qQ (vz sd (qZ H2 (b:=y) .here (wG sd) ?_)));refine fX oW HB λh3 H3=>?_;refine fin H3 (λh=>absurd rfl h) ?_;unfold bG;rw[iQ omQ,iJ c,mE,Fk];rfl
 ·exact uq omQ
 ·exact uq omQ
 ·exact uq omQ
 ·exact uq omQ
 ·exact uq omQ
 ·exact mem omQ
 ·exact mem omQ
 ·exact mem omQ
 ·exact mem omQ
 ·refine qQ (qZ H1 (b:=b) .here rfl ?_);refine fin HB (λh=>absurd rfl h) ?_;unfold bG;rw[iQ omQ,iQ omQ,iQ omQ,iQ omQ,iQ omQ,iQ omQ,iQ omQ,iJ c];rfl
 ·refine qQ (qZ H1 (b:=b) .here se ?_);refine qX (qQ (vz oW (qZ H2 (b:=y) .here (wG oW) ?_)));have ed:bG mt s V x=⟨0,if qB s.ao (a:Int)=0 then x.2.2.2.1 else s.pc+1,false,s,V⟩:=by
   unfold bG;rw[iQ omQ,iQ omQ,iQ omQ,iQ omQ,iQ omQ,iQ omQ,iQ omQ,iQ omQ,iJ c,mE]
  by_cases hz:qB s.ao (a:Int)=0
  ·refine qk hz (qK ?_);refine qQ (qZ H1 (b:=b) .here rfl ?_);refine fin HB (λh=>absurd rfl h) ?_;rw[ed,iJ hz];rfl
  ·refine qW hz (qJ ?_);refine fin HB (λh=>absurd rfl h) ?_;rw[ed,iQ hz];rfl
 ·refine qX (qQ (qZ H2 (b:=y) .here rfl ?_));refine qr H2 e_1 ?_;by_cases mB:16≤s.out.length
  ·refine zK omQ (qK (qj ?_));have ed:bG mt s V x=⟨5,s.pc+1,false,s,V⟩:=by
    unfold bG;rw[iQ omQ,iQ omQ,iQ omQ,iQ omQ,iQ omQ,iQ omQ,iQ omQ,iQ omQ,iQ omQ,iJ c,iJ mB]
   rw[ed];exact qq ⟨rfl,HB.sub (.cons .here (.cons .here (.drop .refl)))⟩
  ·refine jt omQ (qJ ?_);refine qX (qQ (qZ H2 (b:=y) .here rfl ?_));refine qQ (qZ H1 (b:=b) .here se ?_);refine qX (qQ (vz oW (qZ H2 (b:=y) .here (wG oW) ?_)));refine qA (l:=jH (1,qB s.ao (a:Int))) rfl ?_;refine jY (n:=1) (l:=jH (1,qB s.ao (a:Int))) (sz:=2) H2 rfl rfl rfl rfl λv3 h3 H3=>?_;refine zA (H3.aJ (P:=JK lv s.out) e_2) (H3.sl .here) omQ omQ rfl λv4 h4 H4=>?_;have o4:=H4.one .here;refine qX (qQ ?_);refine qx H4 (b:=y) e_2 o4 (by show 12<17;omega) λh5 H5=>?_;have H5:HS g h5 (qv y (wx sv v4 ov mv o 0 err left s.pc s.ao)::qC 194 2 (s.out.length+1) v4 (s.out.flatMap jH++jH (1,qB s.ao (a:Int)))::qC 194 2 1 v3 (jH (1,qB s.ao (a:Int)))::Qk ov qs::QO mv mt::aR o V::qv b (ju x)::R):=H5
   have H6:HS g h5 (aG y o sv mt { s with out:=s.out++[(1,qB s.ao (a:Int))] } 0 err left::aR o V::qv b (ju x)::R):=aG.I (s:={ s with out:=s.out++[(1,qB s.ao (a:Int))] }) (lv:=v4) (ov:=ov) (mv:=mv) e (by
    show HS g h5 (qv y (wx sv v4 ov mv o 0 err left s.pc s.ao)::qC 194 2 (s.out++[(1,qB s.ao (a:Int))]).length v4 ((s.out++[(1,qB s.ao (a:Int))]).flatMap jH)::Qk ov qs::QO mv mt::aR o V::qv b (ju x)::R);rw[List.length_append,List.flatMap_append,List.flatMap_cons,List.flatMap_nil,List.append_nil]
    exact H5.sub (.cons .here (.cons .here (.drop .refl))))
   refine fin H6 (λh=>absurd rfl h) ?_;unfold bG;rw[iQ omQ,iQ omQ,iQ omQ,iQ omQ,iQ omQ,iQ omQ,iQ omQ,iQ omQ,iQ omQ,iJ c,iQ mB,mE];rfl
 ·refine qj ?_;have ed:bG mt s V x=⟨13,s.pc+1,false,s,V⟩:=by
   unfold bG;rw[iQ omQ,iQ omQ,iQ omQ,iQ omQ,iQ omQ,iQ omQ,iQ omQ,iQ omQ,iQ omQ,iQ omQ,iJ c]
  rw[ed];exact qq ⟨rfl,HB.sub (.cons .here (.cons .here (.drop .refl)))⟩
 ·have ed:bG mt s V x=gY mt s V x.1:=by
   unfold bG;rw[iQ omQ,iQ omQ,iQ omQ,iQ omQ,iQ omQ,iQ omQ,iQ omQ,iQ omQ,iQ omQ,iQ omQ,iQ omQ,iQ omQ]
  rw[ed];refine qo H1 (b:=b) (off:=0) .here rfl omQ (l:=ju x) rfl ?_;refine qY (qkB omQ P iD h5 hb hf c HB) ?_;rintro _ h3 ⟨rfl,e3,H3⟩;refine qj (qq ⟨by rw[e3],?_⟩);rw[iJ e3];exact H3.sub (.cons .here (.cons .here (.drop .refl)))
end
theorem jQh {mt:List Int} {s:IM}:∀{r:List cZ} {V:VM},V.lv.length=r.length+1→r.length≤5→(yl mt r s V).e=0:=by
 intro r
 induction r with
 |nil=>intro V _ _;rfl
 |cons p r ih=>
  intro V h1 h2;have hd:=Qr (V:=V) (by grind);simp at h2;have hl:(xa V).2.lv.length=r.length+1:=by grind
  unfold yl;rw[iJ hd.1]
  split
  ·have ho:(yN (xa V).2).1=0:=by
    unfold yN kV;grind
   simp_all[xE]
  grind
theorem jJ7 {mt:List Int} {s:IM} {V:VM} {x:qO} {l:List qO} (P:Rt l mt s V x) (iD:V.lv.length=s.aO.length+1) (h5:s.aO.length≤5) (hb:x.1=14∨x.1=17→s.aO.length<5):(gY mt s V x.1).e=0:=by
 have bW:(x.1=15∨x.1=19∨x.1=18∨x.1=16)→2≤V.lv.length:=by intro c;have:=P.ne c;have:s.aO.length≠0:=λh=>this (iA h);omega
 unfold gY;by_cases c1:x.1=14∨x.1=17
 ·rw[iJ c1];simp_all[yN,kV,iQ,omQ,xE]
 rw[iQ c1];by_cases c2:x.1=15∨x.1=19
 ·rw[iJ c2];exact(kP (bW omQ)).1
 rw[iQ c2];by_cases c3:x.1=18
 ·simp_all[kP,omQ]
 rw[iQ c3];by_cases c4:x.1=16
 all_goals simp_all[Qr,omQ,jQh]
theorem jZE {mt:List Int} {s:IM} {V:VM} {x:qO} (ht:(gY mt s V x.1).e=0) (h:(bG mt s V x).e≠0):(bG mt s V x).s=s:=by
 unfold bG at h ⊢;by_cases c1:x.1=1
 ·grind
 rw[iQ c1]at h ⊢;by_cases c2:x.1=2
 ·grind
 rw[iQ c2]at h ⊢;by_cases c3:x.1=3
 ·grind
 rw[iQ c3]at h ⊢;by_cases c4:x.1=4
 ·grind
 rw[iQ c4]at h ⊢;by_cases c5:x.1=5
 ·grind
 rw[iQ c5]at h ⊢;by_cases c6:x.1=6
 ·grind
 rw[iQ c6]at h ⊢;by_cases c7:x.1=7
 ·grind
 rw[iQ c7]at h ⊢;by_cases pG:x.1=12
 ·grind
 rw[iQ pG]at h ⊢;by_cases rE:x.1=13
 ·grind
 rw[iQ rE]at h ⊢;by_cases nF:x.1=21
 ·grind
 rw[iQ nF]at h ⊢;by_cases oS:x.1=22
 ·grind
 rw[iQ oS]at h ⊢;by_cases ct:x.1=8∨x.1=9∨x.1=10∨x.1=11
 all_goals simp_all[OJ]
section
variable {y o:Nat} {sv:AV} {s:IM} {kind:Int}
theorem LL {K0:AH→Go.Ae.R} {Q:AV→AH→Prop} {mt:List Int} {k1 k2 err left:Int} (H:HS g h (aG y o sv mt s k1 err left::R)) (w:∀h',HS g h' (aG y o sv mt s k2 err left::R)→wp (K0 h') Q) :
  wp (zn (.ptr y 0) λv=>qH v 13 λv=>jw h v (.int .i64 k2) 1 K0) Q:=by
 obtain⟨lv,ov,mv,qs,e,H⟩:=aG.E H;refine qX (qQ ?_);refine qx H (b:=y) .here ⟨rfl,rfl⟩ (by show 13<17;omega) λh1 H1=>?_;exact w _ (aG.I (lv:=lv) (ov:=ov) (mv:=mv) e H1)
theorem LM {K0:AH→Go.Ae.R} {Q:AV→AH→Prop} {mt:List Int} {e1 e2 left:Int} (H:HS g h (aG y o sv mt s kind e1 left::R)) (w:∀h',HS g h' (aG y o sv mt s kind e2 left::R)→wp (K0 h') Q) :
  wp (zn (.ptr y 0) λv=>qH v 14 λv=>jw h v (.int .i64 e2) 1 K0) Q:=by
 obtain⟨lv,ov,mv,qs,e,H⟩:=aG.E H;refine qX (qQ ?_);refine qx H (b:=y) .here ⟨rfl,rfl⟩ (by show 14<17;omega) λh1 H1=>?_;exact w _ (aG.I (lv:=lv) (ov:=ov) (mv:=mv) e H1)
theorem jQl {n:Nat} (hn:10≤n) {l:List qO} (F:Fit l) (Q:bO l) {left:Nat} {V:VM} (G:GI l s V) (hf:bE V.lv+left<9000) (hl:left≤1000) (S:Rd g R 5 l.length sv (l.flatMap ju)) (RZ:kind=0∨kind=1)
  (H:HS g h (aG y o sv (qT l) s kind 0 left::aR o V::R)) :
  ba n 76 [.ptr y 0] h λr h'=>r=.int .i64 (zh l (qT l) left s V).kind∧
   HS g h' (aG y o sv (qT l) (zh l (qT l) left s V).s (zh l (qT l) left s V).kind (zh l (qT l) left s V).err ((zh l (qT l) left s V).left:Int)::aR o (zh l (qT l) left s V).v::R):=by
 refine bw (S:=S76) rfl omQ λk hk=>?_;unfold S76;try simp only[iZ]
 generalize mV:zh l (qT l) left s V=RM;refine jc [] (λst h'=>st=(.ptr y 0,())∧HS g h' (aG y o sv (qT l) RM.s RM.kind RM.err (RM.left:Int)::aR o RM.v::R)) ?_ ?_
 rotate_left
 ·rintro st h1 ⟨rfl,H1⟩;dsimp only;obtain⟨lv,ov,mv,qs,e,H2⟩:=aG.E H1;refine qX (qQ (qZ H2 (b:=y) .here rfl ?_));exact qj (qq ⟨rfl,H1⟩)
 intro j hj
 refine jB (λm st h'=>st=(.ptr y 0,())∧((∃(s':IM) (V':VM) (oK:Nat) (ur:Int),m=oK+1∧oK≤1000∧GI l s' V'∧bE V'.lv+oK<9000∧zh l (qT l) oK s' V'=RM∧(ur=0∨ur=1)∧HS g h' (aG y o sv (qT l) s' ur 0 oK::aR o V'::R))∨
   (m=0∧RM.kind≠0∧RM.kind≠1∧HS g h' (aG y o sv (qT l) RM.s RM.kind RM.err (RM.left:Int)::aR o RM.v::R))))
  ?_ (m:=left+1) (by grind) ⟨rfl,.inl ⟨s,V,left,kind,rfl,hl,G,hf,mV,RZ,H⟩⟩
 clear H G hf mV hl RZ;rintro m ih st h2 bj ⟨rfl,⟨s,V,left,kind,rfl,hl,G,hf,mV,RZ,H⟩ |⟨rfl,mU,mg,H⟩⟩
 rotate_left
 ·dsimp only;obtain⟨lv,ov,mv,qs,e,H1⟩:=aG.E H;refine qX (qQ (qZ H1 (b:=y) .here rfl ?_));refine qW mU (qG ?_)
  try dsimp only
  refine qP ?_
  try dsimp only
  refine qX (qQ (qZ H1 (b:=y) .here rfl ?_));refine qW mg (qy (qJ ?_));exact hj _ _ ⟨rfl,H⟩
 dsimp only;have hlen:=F.le;obtain⟨lv,ov,mv,qs,e,H1⟩:=aG.E H;refine qX (qQ (qZ H1 (b:=y) .here rfl ?_));refine J7 (wW (λst h'=>∃(u:Bool) (r:AV),st=(r,.bool u,.ptr y 0,())∧h'=h2∧(u=false→r=.bool true)) ?_ ?_)
 ·intro j2 oO;rcases RZ with rfl |rfl
  ·rw[iG (show(0:Int)=((0:Nat):Int)from rfl)];refine ql ?_;exact oO _ _ ⟨true,_,rfl,rfl,λh=>by grind⟩
  ·rw[iV (show¬(1:Int)=((0:Nat):Int) by simp)];refine qP (qX (qQ (qZ H1 (b:=y) .here rfl ?_)));refine qk rfl ?_;exact oO _ _ ⟨false,_,rfl,rfl,λ_=>rfl⟩
 rintro st h2 ⟨u,r,rfl,rfl,hu⟩;dsimp only;have hp:∀{K:AV→Go.Ae.R} {Q},wp (K (.bool true)) Q→wp (w4 (.bool u) (.bool true) r K) Q:=by
  intro K Q w;cases u
  ·rw[hu rfl];exact w
  ·exact w
 refine hp (qK ?_);clear H1 e;refine LL H λh3 H3=>?_;clear H;obtain⟨i,hi,oQ⟩:=G.pc;obtain⟨lv,ov,mv,qs,e,H1⟩:=aG.E H3;refine qX (qQ (qZ H1 (b:=y) .here rfl ?_));refine qX (qQ (qQ (qZ H1 (b:=y) .here rfl ?_)));refine yH (S.sl H1.drop.drop.drop.drop.drop) ?_;by_cases h0:s.pc=l.length
 ·refine zK omQ (qK ?_);rw[qvf h0]at mV;subst mV;refine LL H3 λh4 H4=>hj _ _ ⟨rfl,H4⟩
 refine jt omQ (qJ ?_);refine qX (qQ (qZ H1 (b:=y) .here rfl ?_));cases left with
 |zero=>refine qk rfl (qK ?_);rw[QD,iQ h0]at mV;subst mV;exact LL H3 λh4 H4=>LM H4 λh5 H5=>hj _ _ ⟨rfl,H5⟩
 |succ left=>
  refine qW omQ (qJ ?_);rw[QR,iQ h0]at mV;have ap:i<l.length:=by omega
  have St:=Uz F G hi ap omQ (Q.at ap).2 (Q.at ap).1;have P:=jZO F G hi ap (Q.at ap).1;have ei:=UG G;rw[hi,Int.toNat_natCast]at ei;have h5:=Xe F i omQ;have hb:(qM l i).1=14∨(qM l i).1=17→s.aO.length<5:=λc=>by
   have:=(x8 (F.ok i ap)).2.2 (by simp_all[xc,iG]);omega
  have AK:=jZE (jJ7 P G.lv omQ hb);refine qX (qQ (qQ (qZ H1 (b:=y) .here rfl ?_)));refine qX (qQ (qZ H1 (b:=y) .here rfl ?_));rw[hi];refine xI (l:=ju l[i]) (S.sl H1.drop.drop.drop.drop.drop) ap omQ (Wk ap) ?_;clear H1 e;rw[← yw ap];refine qY (qk8 omQ P G.lv omQ hb omQ H3) ?_;rintro _ h5 ⟨rfl,H5⟩;rw[hi]at mV;generalize bG (qT l) s V (qM l i)=D at*;by_cases h1:D.e=0
  ·rw[iJ h1]at mV H5;refine qW omQ (qJ ?_);refine jR h1 (qJ ?_);obtain⟨lv,ov,mv,qs,e,H6⟩:=aG.E H5;refine qX (qQ (qZ H6 (b:=y) .here rfl (qn omQ ?_)));rw[show((left+1:Nat):Int)-((1:Nat):Int)=(left:Int) by omega];refine qX (qQ ?_);refine qx H6 (b:=y) .here ⟨rfl,rfl⟩ (by show 11<17;omega) λh7 H7=>?_;have H8:HS g h7 (aG y o sv (qT l) { D.s with pc:=D.nx } (if D.bR=true then 3 else 0) 0 left::aR o D.v::R):=aG.I (s:={ D.s with pc:=D.nx }) (lv:=lv) (ov:=ov) (mv:=mv) e H7;cases h2:D.bR with
   |true=>rw[h2,iJ rfl]at mV H8;subst mV;exact bj 0 _ _ omQ ⟨rfl,.inr ⟨rfl,by simp,by simp,H8⟩⟩
   |false=>rw[h2,iQ aM]at mV H8;have:=St.fr;exact bj (left+1) _ _ omQ ⟨rfl,.inl ⟨_,D.v,left,0,rfl,by omega,St.next h1 h2,by omega,mV,.inl rfl,H8⟩⟩
  ·rw[iQ h1]at mV H5;have hb:D.bR=false:=by
    cases hb:D.bR with
    |false=>rfl
    |true=>exact absurd (St.bl hb) h1
   rw[hb,iQ aM]at H5;rw[AK h1]at mV;by_cases dO:D.e=11
   ·rw[iJ dO]at mV;subst mV;refine qk dO (qK ?_);exact LL H5 λh7 H7=>hj _ _ ⟨rfl,H7⟩
   ·rw[iQ dO]at mV;subst mV;refine qW dO (qJ ?_);refine jb h1 (qK ?_);exact LL H5 λh7 H7=>LM H7 λh8 H8=>hj _ _ ⟨rfl,H8⟩
end
theorem qvB {n:Nat} (hn:4≤n) {l:List qO} {sv:AV} {o:Nat} {fuel:Int} (F:Fit l) (Q:bO l) (H:HS g h R) (S:Rd g R 5 l.length sv (l.flatMap ju)) :
  ba n 73 [.agg [sv],.ptr o 0,.int .i64 fuel] h λr h'=>∃y,r=.ptr y 0∧HS g h' (aG y o sv (qT l) KO 0 0 (Xq fuel:Nat)::R):=by
 refine dV (S:=S73) rfl omQ λk hk=>?_;unfold S73;try simp only[iZ]
 have o1:=Zd (S.sl H);refine qh H (MC o1) λb h1 H1=>?_;refine qo H1 (b:=b) (off:=0) .here rfl omQ (l:=[sv]) rfl ?_;refine vy (vX ?_);rw[show min (max fuel ((0:Nat):Int)) ((400:Nat):Int)=((Xq fuel:Nat):Int) by grind[Xq]];refine qA (l:=wx sv .aj .aj .aj o 0 0 (Xq fuel:Nat) 0 [0,0,0,0,0,0,0,0]) rfl ?_;refine qh H1 (by unfold wx;simp only[jW,List.all_cons,o1.2];rfl) λy h2 H2=>?_;refine qo H2 (b:=b) (off:=0) e_1 rfl omQ (l:=[sv]) rfl ?_;refine qY (qja omQ F Q H2 S.more.more) ?_;rintro _ h3 ⟨rv,mv,rfl,H3⟩;have om:=H3.one .here;refine qi rfl (qi rfl (qi rfl (qi rfl ?_)));refine qX (qQ ?_);refine qx H3 (b:=y) e_1 om (by show 16<17;omega) λh4 H4=>?_;refine qG ?_
 try dsimp only
 refine jR rfl (qJ (qj (qq ⟨y,rfl,?_⟩)));have H5:=(H4.aj (e:=213) (sz:=11)).aj (e:=194) (sz:=2);have hm:=Oa l;have H6:HS g h4 (qC 194 2 0 .aj []::qC 213 11 0 .aj []::qv y (wx sv .aj .aj mv o 0 0 (Xq fuel:Nat) 0 [0,0,0,0,0,0,0,0])::QO mv (qT l)::qv b [sv]::R):=by unfold QO;rw[hm];exact H5
 exact aG.I (s:=KO) (lv:=.aj) (ov:=.aj) (mv:=mv) (qs:=[]) ⟨rfl,λq hq=>by grind⟩ (H6.sub (.cons e_2 (.cons .here (.cons .here (.cons .here (.drop .refl))))))
end
end Go.Proofs.YtaljafbgbfmcbaaGreat
