/- Lemmas for 'quietus/quietustop.TopBank': An attempt does as its job does on any whole words that have what it has read: plain;What a threads attempts come to is what their jobs come to on any whole ... No condition. -/
import Derived.Test.YtolpbdncppeohaaGreatDoorTopBankM4
import Derived.Test.YtolpbdncppeohaaGreatDoorTopBankM6
import Derived.Test.YtolpbdncppeohaaGreatDoorTopBankM5
import Derived.Test.YtolpbdncppeohaaGreatDoorTopBankM2
namespace Go.Proofs.YtolpbdncppeohaaGreatDoor
open Go Go.Ae
set_option maxRecDepth 100000
section
def uX (c:jw):Prop:=c.bx=5
def VW (c:jw):Prop:=(c.p.fin=0∧(c.state=7→uX c))∨(c.p.fin=2∧c.p.err=0)∨c.p.fin=5
section
variable {c:jw}
theorem qWR (hp:c.p.fin=0) (h:uX c):VW (xw c):=by
 unfold xw
 split
 ·exact .inr (.inr h)
 ·exact .inl ⟨hp,λ_=>h⟩
theorem SX {f e y:Int} (hp:c.p.fin=0) (h:f=5):VW (zP c f e y):=qWR (c:={ c with bx:=f,iF:=e,rp:=y,at_:=0,state:=7 }) hp h
theorem qwN {l:di} (hp:c.p.fin=0) (h7:c.state≠7):VW (xn c l):=by
 have hf:(jA c.p l).2.fin=0:=by
  grind[jA]
 unfold xn
 split
 ·exact .inl ⟨hf,λh=>absurd h h7⟩
 ·exact SX (c:={ c with p:=(jA c.p l).2 }) hf rfl
theorem qg7 (hp:c.p.fin=0) (h7:c.state≠7):VW (xX c):=by
 unfold xX
 split
 ·exact .inr (.inl ⟨rfl,rfl⟩)
 ·exact .inl ⟨hp,λh=>absurd h h7⟩
theorem qWr (hp:c.p.fin=0) (h7:c.state≠7):VW (zG c):=by
 unfold zG
 split
 ·grind[qg7]
 ·exact .inl ⟨hp,λh=>absurd h h7⟩
theorem SY (hp:c.p.fin=0):VW (zp c):=qWr hp (by simp)
theorem qv7 (hp:c.p.fin=0):VW (zV c):=.inl ⟨hp,λh=>by
 grind[zV]⟩
theorem qzs:∀(n:Nat) {c:jw},c.p.fin=0→c.state≠7→VW (zM c n):=by
 intro n
 induction n with
 |zero=>intro c hp _;exact SY hp
 |succ n ih=>
  intro c hp h7;unfold zM
  split
  ·split
   ·exact .inl ⟨hp,λh=>absurd h h7⟩
   ·split
    ·exact SX hp rfl
    grind
  grind[SY]
theorem qGe (hp:c.p.fin=0):VW (xu c):=qzs _ hp (by simp)
theorem qql {a:cx} (hp:c.p.fin=0) (h7:c.state=7→uX c) (h0:0≤c.state∧c.state≤7) (ha:a.err=0) (ta:c.state=2→a.word<4611686018427387903):VW (qp c a):=by
 have e:jV c.p a=(false,c.p):=by
  simp_all[jV,iV]
 unfold qp;rw[e];rw[iQ (λh=>by grind)]
 split
 ·rename_i hs;unfold vV
  split
  ·exact qwN hp omQ
  ·split
   ·exact .inl ⟨hp,λh=>absurd h (by simp)⟩
   ·split
    ·grind[qv7]
    ·exact .inl ⟨hp,λh=>absurd h (by simp)⟩
 ·split
  ·unfold yB
   split
   ·grind
   ·split
    ·exact .inl ⟨hp,λh=>absurd h (by simp)⟩
    ·split
     ·exact .inl ⟨hp,λh=>absurd h (by simp)⟩
     grind[SY,qGe]
  ·split
   ·unfold yQ
    split
    ·exact qwN hp omQ
    ·split
     ·exact SX hp rfl
     grind[qGe]
   ·split
    ·grind[qWr]
    ·split
     ·grind[qg7]
     ·exact qWR hp (h7 omQ)
theorem jX1 {me sp st:Int} {r:List zm} {cs:List Cl} {a b:Int}:VW (Xu me sp st r cs a b):=qv7 rfl
end
structure wn (S:jD) (h:List Int):Prop where
  len:(h.length:Int)=S.words
  wd:∀z∈h,0≤z∧z<18446744073709551616
def tP (K:List Cl) (h:List Int):Prop:=∀p x,jO p K=some x→x=qC h p
def Cy (S:jD) (j0 j:wc) (V:VM):Prop :=
 ∀h,wn S h→tP V.K h→∃W,xR V W∧ji W∧W.K=kW h∧W.sz=eL h.length∧aX True W j∧zC j0 (zN h S.writes)=zC j W
def Q9 (S:jD) (j0 j:wc) (V:VM) (k e:Int):Prop :=
 ∀h,wn S h→tP V.K h→(zC j0 (zN h S.writes)).1=(k,e)∧(zC j0 (zN h S.writes)).2.1=j∧(zC j0 (zN h S.writes)).2.2.lv=V.lv
structure yu (S:jD) (j0:wc) (x:qr):Prop where
  ok:∀h,wn S h→aX True (zN h S.writes) j0
  set:x.set=S
  early:x.state≤2→x.ap=j0∧x.v=Nl S.words S.writes
  go:3≤x.state→x.state≤4→Cy S j0 x.ap x.v
  f0:x.state=3→x.f.p.fin=0
  e0:x.state=4∨x.state=5→x.e.p.fin=0
  d3:x.state=5→Q9 S j0 x.ap x.v 3 0
  d2:x.state=6→Q9 S j0 x.ap x.v 2 0
  c:x.state=6→∀c,x.c=some c→VW c∧c.p.fin=0
  ff:7≤x.state→x.fin=2∨x.fin=3∨x.fin=4∨x.fin=5
  e2:7≤x.state→x.fin=2→Q9 S j0 x.ap x.v 2 0
  e3:7≤x.state→x.fin=3→Q9 S j0 x.ap x.v 3 0
  e4:7≤x.state→x.fin=4→Q9 S j0 x.ap x.v 4 x.err
section
variable {S:jD} {j0 j:wc} {V:VM} {x:qr}
theorem yu.same (J:yu S j0 x) {z:Int}:yu S j0 { x with aa:=z }:=⟨J.ok,J.set,J.early,J.go,J.f0,J.e0,J.d3,J.d2,J.c,J.ff,J.e2,J.e3,J.e4⟩
theorem yu.out {f e y:Int} (ok:∀h,wn S h→aX True (zN h S.writes) j0) (hs:x.set=S) (I8:f=2∨f=3∨f=4∨f=5) (h2:f=2→Q9 S j0 x.ap x.v 2 0) (h3:f=3→Q9 S j0 x.ap x.v 3 0) (h4:f=4→Q9 S j0 x.ap x.v 4 e):yu S j0 (zh x f e y) :=
 ⟨ok,hs,λh=>absurd h (by nofun),λ_ h=>absurd h (by nofun),λh=>absurd h (by nofun),λh=>absurd h (by nofun),λh=>absurd h (by nofun),
  λh=>absurd h (by nofun),λh=>absurd h (by nofun),λ_=>I8,λ_=>h2,λ_=>h3,λ_=>h4⟩
theorem yu.gone {f e y:Int} (ok:∀h,wn S h→aX True (zN h S.writes) j0) (hs:x.set=S) (I8:f=2∨f=3∨f=4∨f=5) (h2:f=2→Q9 S j0 x.ap x.v 2 0) (h3:f=3→Q9 S j0 x.ap x.v 3 0) (h4:f=4→Q9 S j0 x.ap x.v 4 e):yu S j0 { zh x f e y with state:=8 } :=
 ⟨ok,hs,λh=>absurd h (by simp),λ_ h=>absurd h (by simp),λh=>absurd h (by simp),λh=>absurd h (by simp),λh=>absurd h (by simp),
  λh=>absurd h (by simp),λh=>absurd h (by simp),λ_=>I8,λ_=>h2,λ_=>h3,λ_=>h4⟩
theorem yu.ask {p:Int} (ok:∀h,wn S h→aX True (zN h S.writes) j0) (hs:x.set=S) (G:Cy S j0 x.ap x.v):yu S j0 (J3 x p) :=
 ⟨ok,hs,λh=>absurd h (by nofun),λ_ _=>G,λ_=>rfl,λh=>absurd h (by nofun),λh=>absurd h (by nofun),λh=>absurd h (by nofun),λh=>absurd h (by nofun),
  λh=>absurd h (by nofun),λh=>absurd h (by nofun),λh=>absurd h (by nofun),λh=>absurd h (by nofun)⟩
theorem yu.Cz (ok:∀h,wn S h→aX True (zN h S.writes) j0) (hs:x.set=S) (G:Cy S j0 x.ap x.v):yu S j0 (gV x 4) :=
 ⟨ok,hs,λh=>absurd h (by nofun),λ_ _=>G,λh=>absurd h (by nofun),λ_=>rfl,λh=>absurd h (by nofun),λh=>absurd h (by nofun),λh=>absurd h (by nofun),
  λh=>absurd h (by nofun),λh=>absurd h (by nofun),λh=>absurd h (by nofun),λh=>absurd h (by nofun)⟩
theorem yu.CA {b:Bool} (ok:∀h,wn S h→aX True (zN h S.writes) j0) (hs:x.set=S) (D:Q9 S j0 x.ap x.v 3 0):yu S j0 (gV { x with cS:=b } 5) :=
 ⟨ok,hs,λh=>absurd h (by nofun),λ_ h=>absurd h (by nofun),λh=>absurd h (by nofun),λ_=>rfl,λ_=>D,λh=>absurd h (by nofun),λh=>absurd h (by nofun),
  λh=>absurd h (by nofun),λh=>absurd h (by nofun),λh=>absurd h (by nofun),λh=>absurd h (by nofun)⟩
theorem qqM {j:wc} {V:VM} (h:(zC j V).1.1≠4):(zC j V).1.2=0:=by
 cases j with
 |prog q=>exact qvr q.left h
 |au bs k=>
  unfold zC at h ⊢;grind
theorem yu.iH (ok:∀h,wn S h→aX True (zN h S.writes) j0) (B:QR x) (hj:aX True x.v x.ap) (hs:x.set=S) (G:Cy S j0 x.ap x.v):yu S j0 (xp x):=by
 have D:=Gj B.aH B.fr hj;have KD:=qGa B.aH hj;have ER:=qqM (j:=x.ap) (V:=x.v);rw[Kc]at D;have A8:=D.kept;unfold xp;rw[Kc];dsimp only at A8 ⊢;have keep:∀h,tP (zC x.ap x.v).2.2.K h→tP x.v.K h:=λh A=>by grind
 have fin:∀k e,(zC x.ap x.v).1=(k,e)→k≠1→Q9 S j0 (zC x.ap x.v).2.1 (zC x.ap x.v).2.2 k e:=λk e hk h1 h Hh A=>by
  obtain⟨W,P,GW,eK,eS,jW,e0⟩:=G h Hh (keep h A);rcases qWL P B.aH GW hj jW with⟨k1,_⟩ |⟨_,e1,e2,p⟩
  ·grind
  ·rw[e0];exact⟨e1.trans hk,e2,p.lv.symm⟩
 unfold xd;by_cases k1:(zC x.ap x.v).1.1=1
 ·rw[iJ k1];refine yu.ask ok hs λh Hh A=>?_;obtain⟨W,P,GW,eK,eS,jW,e0⟩:=G h Hh (keep h A);rcases qWL P B.aH GW hj jW with⟨_,W',p,gW,fK,fS,fj,e⟩ |⟨n1,_⟩
  all_goals grind
 ·rw[iQ k1];have fh:=fin _ _ rfl k1;by_cases k3:(zC x.ap x.v).1.1=3
  ·rw[iJ k3];rw[k3,ER omQ]at fh;exact yu.CA ok (x:={ x with ap:=(zC x.ap x.v).2.1,v:=(zC x.ap x.v).2.2 }) hs fh
  ·rw[iQ k3];by_cases k4:(zC x.ap x.v).1.1=4
   ·rw[iJ k4];rw[k4]at fh;exact yu.out ok (x:={ x with ap:=(zC x.ap x.v).2.1,v:=(zC x.ap x.v).2.2 }) hs omQ (λh=>by grind) (λh=>by grind) λ_=>fh
   ·rw[iQ k4];have k2:(zC x.ap x.v).1.1=2:=by omega
    rw[k2,ER omQ]at fh
    split
    ·exact yu.out ok (x:={ x with ap:=(zC x.ap x.v).2.1,v:=(zC x.ap x.v).2.2 }) hs omQ (λ_=>fh) (λh=>by grind) (λh=>by grind)
    ·refine⟨ok,hs,λh=>absurd h (by simp),λ_ h=>absurd h (by simp),λh=>absurd h (by simp),λh=>absurd h (by simp),λh=>absurd h (by simp),λ_=>fh,λ_ c hc=>?_,
      λh=>absurd h (by simp),λh=>absurd h (by simp),λh=>absurd h (by simp),λh=>absurd h (by simp)⟩
     have hc:=Option.some.inj hc;subst hc;exact⟨jX1,rfl⟩
theorem Cy.hX {w:Int} (hn:1≤V.aB∧V.aB<V.sz∧jO V.aB V.K=none) (_:(V.sz:Int)=S.words) (G:Cy S j0 j V):Cy S j0 j (xc V V.aB w).2:=by
 have hkn:xc V V.aB w=(0,{ V with K:=V.K++[(V.aB,w)] }):=qx5 hn.1 hn.2.1 hn.2.2;rw[hkn];intro h Hh A
 have A0:tP V.K h:=λp x hp=>A p x (by
  show jO p (V.K++[(V.aB,w)])=some x;rw[← wM (v:=w) hn.2.2,Yq];grind)
 have hw:w=qC h V.aB:=A V.aB w (by
  show jO V.aB (V.K++[(V.aB,w)])=some w
  rw[← wM (v:=w) hn.2.2,Yq,iJ rfl])
 obtain⟨W,P,GW,eK,eS,jW,e0⟩:=G h Hh A0;refine⟨W,⟨P.sz,P.most,P.lv,λq z hz=>?_⟩,GW,eK,eS,jW,e0⟩;have hz:jO q (V.K++[(V.aB,w)])=some z:=hz;rw[← wM (v:=w) hn.2.2,Yq]at hz;by_cases hq:q=V.aB
 ·rw[iJ hq]at hz;cases hz;rw[eK,hq,hw];refine qxP hn.1 ?_;have h1:=P.sz;grind
 ·rw[iQ hq]at hz;exact P.K q z hz
theorem qxm {e:kc} {a:cx} (hp:e.p.fin=0) (ha:a.err=0):(je e a).p.fin=0∨(je e a).p.fin=2∨(je e a).p.fin=5:=by
 have hs:jV e.p a=(false,e.p):=by
  simp_all[jV,iV]
 have on:∀e:kc,e.p.fin=0→(Qa e).p.fin=0∨(Qa e).p.fin=2∨(Qa e).p.fin=5:=λe h=>by
  unfold Qa
  split
  ·exact .inr (.inl rfl)
  grind
 unfold je;rw[hs,iQ (λh=>by grind)]
 split
 ·grind
 ·split
  ·split
   ·refine .inl ?_;show(jA e.p a.lk).2.fin=0;grind[jA]
   ·exact .inr (.inr rfl)
  ·split
   ·exact .inr (.inr rfl)
   grind
theorem qxU {f:Qg} {a:cx} (hp:f.p.fin=0) (ha:a.err=0):(jE f a).p.fin=0∨(jE f a).p.fin=2∨(jE f a).p.fin=5∨(jE f a).p.fin=6:=by
 have hs:jV f.p a=(false,f.p):=by
  simp_all[jV,iV]
 unfold jE;rw[hs,iQ (λh=>by grind)]
 split
 ·grind
 ·split
  ·exact .inr (.inl rfl)
  ·unfold gA
   split
   ·split
    ·refine .inl ?_;show(jA f.p a.lk).2.fin=0;grind[jA]
    ·exact .inr (.inr (.inl rfl))
   ·split
    ·exact .inr (.inr (.inr rfl))
    grind
theorem yu.stamped (J:yu S j0 x):yu S j0 (q9 x):=by
 unfold q9
 split
 ·split
  ·exact J.same
  grind
 grind
theorem yu.step {a:cx} (O:zH x) (lZ:∀c,x.c=some c→0≤c.state∧c.state≤7) (ha:vz a) (h0:a.err=0) (ta:x.state=6→∀c,x.c=some c→c.state=2→a.word<4611686018427387903) (CC:x.state=3→(jE x.f a).p.fin=2→(vw x.r (xE (jE x.f a))).1=0∨(vw x.r (xE (jE x.f a))).1=14) (J:yu S j0 x):yu S j0 (qS x a):=by
 have bZ:=O.st;unfold qS;by_cases s8:x.state=8
 ·grind
 rw[iQ s8];rw[iQ (λh=>h h0)];by_cases s0:x.state=0
 ·rw[iJ s0];exact⟨J.ok,J.set,λ_=>J.early omQ,λh=>absurd h (by simp),λh=>absurd h (by simp),λh=>absurd h (by simp),λh=>absurd h (by simp),λh=>absurd h (by simp),λh=>absurd h (by simp),λh=>absurd h (by simp),λh=>absurd h (by simp),λh=>absurd h (by simp),λh=>absurd h (by simp)⟩
 rw[iQ s0];by_cases s1:x.state=1
 ·rw[iJ s1];exact⟨J.ok,J.set,λ_=>J.early omQ,λh=>absurd h (by simp),λh=>absurd h (by simp),λh=>absurd h (by simp),λh=>absurd h (by simp),λh=>absurd h (by simp),λh=>absurd h (by simp),λh=>absurd h (by simp),λh=>absurd h (by simp),λh=>absurd h (by simp),λh=>absurd h (by simp)⟩
 rw[iQ s1];by_cases s2:x.state=2
 ·rw[iJ s2];obtain⟨e1,e2⟩:=J.early omQ;have I9:aX True x.v x.ap:=O.ap.same λ_=>by omega
  refine yu.iH J.ok O.b I9 J.set λh Hh A=>?_;have hW:=U0 (m:=S.writes) Hh.wd;have bF:eL (h.length:Int)=eL S.words:=by rw[Hh.len]
  rw[e2];refine⟨zN h S.writes,⟨bF.symm,rfl,rfl,λp x h=>by cases h⟩,hW,rfl,rfl,?_,by rw[e1]⟩;rw[e1];exact J.ok h Hh
 rw[iQ s2];by_cases s7:x.state=7
 ·rw[iJ s7];exact⟨J.ok,J.set,λh=>absurd h (by simp),λ_ h=>absurd h (by simp),λh=>absurd h (by simp),λh=>absurd h (by simp),λh=>absurd h (by simp),λh=>absurd h (by simp),λh=>absurd h (by simp),λ_=>J.ff omQ,λ_=>J.e2 omQ,λ_=>J.e3 omQ,λ_=>J.e4 omQ⟩
 rw[iQ s7];by_cases s3:x.state=3
 ·rw[iJ s3];have hF:=qxU (a:=a) (J.f0 s3) h0;have hG:=J.go omQ omQ;have hN:=O.aB omQ omQ;have I9:aX True x.v x.ap:=O.ap.same λ_=>by omega
  have hw:=Q3 (f:=x.f) (a:=a) (O.f s3).2 ha;unfold jZ;refine yu.stamped ?_;have ef:zA { x with f:=jE x.f a }=((jE x.f a).p.fin,(jE x.f a).p.dj):=iJ s3;rw[ef];dsimp only;by_cases c0:(jE x.f a).p.fin=0
  ·rw[iJ c0];exact⟨J.ok,J.set,λh=>J.early h,λh h'=>J.go h h',λ_=>c0,λh=>J.e0 h,λh=>J.d3 h,λh=>J.d2 h,λh=>J.c h,λh=>J.ff h,λh=>J.e2 h,λh=>J.e3 h,λh=>J.e4 h⟩
  rw[iQ c0];by_cases c5:(jE x.f a).p.fin=5
  ·rw[iJ c5];exact yu.out J.ok (x:={ x with f:=jE x.f a }) J.set omQ (λh=>by grind) (λh=>by grind) (λh=>by grind)
  rw[iQ c5];have ee:jF { x with f:=jE x.f a }=jh { x with f:=jE x.f a }:=iJ s3;rw[ee];unfold jh;dsimp only;by_cases c6:(jE x.f a).p.fin=6
  ·rw[iJ c6];exact yu.Cz J.ok (x:={ x with f:=jE x.f a }) J.set hG
  rw[iQ c6];have hx:=Xj hw;rcases CC s3 omQ with q0 |q14
  ·rw[iJ q0];refine yu.iH J.ok ?_ (I9.hX hx) J.set (hG.hX hN (by rw[← J.set];exact O.sz));exact⟨O.set,Qo O.aH hx,by show((xc x.v x.v.aB (xm (jE x.f a))).2.sz:Int)=_;rw[wV.2];exact O.sz,by show bO (xc x.v x.v.aB (xm (jE x.f a))).2.lv<9000;rw[wV.1];exact O.fr,XY O.r,(I9.hX hx).same λh=>h.elim,O.c⟩
  ·rw[iQ omQ,iJ q14];exact yu.out J.ok (x:={ x with f:=jE x.f a }) J.set omQ (λh=>by grind) (λh=>by grind) (λh=>by grind)
 rw[iQ s3];by_cases s6:x.state=6
 ·rw[iJ s6];unfold jZ;refine yu.stamped ?_;have D:=J.d2 s6;cases hc:x.c with
  |none=>exact absurd hc (O.c6 s6)
  |some c=>
   obtain⟨g1,g2⟩:=J.c s6 c hc;have g3:c.state=7→uX c:=by
    rcases g1 with g |g |g
    all_goals grind
   have G:=qql (a:=a) g2 g3 (lZ c hc) h0 (ta s6 c hc);have ef:zA { x with c:=(some c).map λc=>qp c a }=((qp c a).p.fin,(qp c a).p.dj):=by simp_all[zA]
   rw[ef];dsimp only;by_cases c0:(qp c a).p.fin=0
   ·rw[iJ c0];refine⟨J.ok,J.set,λh=>J.early h,λh h'=>J.go h h',λh=>J.f0 h,λh=>J.e0 h,λh=>J.d3 h,λh=>J.d2 h,λ_ d hd=>?_,λh=>J.ff h,λh=>J.e2 h,λh=>J.e3 h,λh=>J.e4 h⟩;grind
   rw[iQ c0];by_cases c5:(qp c a).p.fin=5
   ·rw[iJ c5];exact yu.out J.ok (x:={ x with c:=some (qp c a) }) J.set omQ (λh=>by grind) (λh=>by grind) (λh=>by grind)
   rw[iQ c5];have ee:jF { x with c:=(some c).map λc=>qp c a }=zh { x with c:=some (qp c a) } (qp c a).p.fin (qp c a).p.err (-1):=by simp_all[jF]
   rw[ee];refine yu.out J.ok (x:={ x with c:=some (qp c a) }) J.set (by rcases G with g |g |g<;>omega) (λ_=>D) (λh=>?_) λh=>?_
   ·rcases G with g |g |g<;>omega
   ·rcases G with g |g |g<;>omega
 rw[iQ s6];have oW:x.state=4∨x.state=5:=by omega
 have hE:=qxm (a:=a) (J.e0 oW) h0;unfold jZ;refine yu.stamped ?_;have ef:zA { x with e:=je x.e a }=((je x.e a).p.fin,(je x.e a).p.dj):=by simp_all[zA]
 rw[ef];dsimp only;by_cases c0:(je x.e a).p.fin=0
 ·rw[iJ c0];exact⟨J.ok,J.set,λh=>J.early h,λh h'=>J.go h h',λh=>J.f0 h,λ_=>c0,λh=>J.d3 h,λh=>J.d2 h,λh=>J.c h,λh=>J.ff h,λh=>J.e2 h,λh=>J.e3 h,λh=>J.e4 h⟩
 rw[iQ c0];by_cases c5:(je x.e a).p.fin=5
 ·rw[iJ c5];exact yu.out J.ok (x:={ x with e:=je x.e a }) J.set omQ (λh=>by grind) (λh=>by grind) (λh=>by grind)
 rw[iQ c5];by_cases s4:x.state=4
 ·have ee:jF { x with e:=je x.e a }=J3 { x with e:=je x.e a,aa:=yC (je x.e a) } x.v.aB:=by
   simp_all[jF]
  rw[ee];exact yu.ask J.ok (x:={ x with e:=je x.e a,aa:=yC (je x.e a) }) J.set (J.go omQ omQ)
 ·have ee:jF { x with e:=je x.e a }=zh { x with e:=je x.e a,aa:=yC (je x.e a) } 3 0 (-1):=by
   simp_all[jF]
  rw[ee];exact yu.out J.ok (x:={ x with e:=je x.e a,aa:=yC (je x.e a) }) J.set omQ (λh=>by grind) (λ_=>J.d3 omQ) (λh=>by grind)
end
end
section
def Yg (S:jD) (l:List qa):wc:=.prog ⟨l,Q4,0,0,kN S.fuel⟩
def vY (jobs:List (List qa)) (j:Int):List qa:=(jobs[j.toNat]?).getD []
def JX (S:jD) (t:qe):wc:=if t.au=true then .au (t.al.map (·.1)) 0 else Yg S (vY t.jobs t.ap)
def NK:wc→List UInt8
 | .au _ _=>[]
 | .prog q=>Nm q.s.out
abbrev XA (S:jD) (l:List qa) (h:List Int):=zC (Yg S l) (zN h S.writes)
structure Hl (S:jD) (jobs:List (List qa)) (r:xB):Prop where
  wd:∀c∈r.reads,0≤c.2∧c.2<18446744073709551616
  at_:∀c∈r.reads,1≤c.1∧c.1<S.words
  done:r.au=false→r.kind=2→∀h,wn S h→tP r.reads h→(XA S (vY jobs r.ap) h).1=(2,0)∧jz (XA S (vY jobs r.ap) h).2.2.lv=r.cells∧vD (XA S (vY jobs r.ap) h).2.2.lv=r.ik∧NK (XA S (vY jobs r.ap) h).2.1=r.dT
  blocked:r.au=false→r.kind=3→∀h,wn S h→tP r.reads h→(XA S (vY jobs r.ap) h).1=(3,0)
  Hm:r.au=false→r.kind=4→∀h,wn S h→tP r.reads h→(XA S (vY jobs r.ap) h).1=(4,r.err)
  swept:r.au=true→r.kind=2→∀h,wn S h→tP r.reads h→(zC (.au r.ik 0) (zN h S.writes)).1=(2,0)∧jz (zC (.au r.ik 0) (zN h S.writes)).2.2.lv=r.cells
def tc (x:qr):Prop:=(x.r.map (·.1)).Nodup
structure X5 (S:jD) (t:qe):Prop where
  set:t.set=S
  a:t.state=1→∀x,t.now=some x→yu S (JX S t) x∧tc x
  p:∀r∈t.af,Hl S t.jobs r
section
variable {S:jD} {t:qe} {x y:qr} {d p:Int} {a:cx}
theorem wu (t:qe):(zJ t).jobs=t.jobs:=by grind[zJ]
theorem qZ1 (t:qe) (d:Int):(zo t d).jobs=t.jobs:=by
 grind[zo,wu]
theorem qGm (t:qe):(yE t).jobs=t.jobs:=by
 have key:∀u:qe,(yy u).jobs=u.jobs:=λu=>by
  unfold yy
  split
  ·rfl
  ·split
   ·exact wu _
   simp[wu]
 grind[yE]
theorem qxo (t:qe) (x:qr) (d p:Int):(zv t x d p).jobs=t.jobs:=by
 unfold zv;dsimp only
 split
 ·grind[qZ1]
 grind[wu,kX,xx,wq,qGm]
theorem SZ (t:qe) (a:cx) (d p:Int):(ql t a d p).jobs=t.jobs:=by
 grind[ql,xz,qxo,qZ1,qGm]
theorem UC (t:qe):(qs t).jobs=t.jobs:=by
 grind[qs,wu]
theorem Tb (t:qe) (s v:Int):(jN t s v).jobs=t.jobs:=by
 grind[jN,wu]
def td (t:qe):Prop:=t.state=1→∀x,t.now=some x→x=if t.au=true then w8 t.me t.set (t.al.map (·.1))else gL t.me t.set (vY t.jobs t.ap)
theorem Q6 (h:t.state≠1):td t:=λh'=>absurd h' h
theorem cT:td (zJ t):=by
 unfold zJ
 split
 ·nofun
 ·intro _ x hx;exact(Option.some.inj hx).symm
theorem mD:td (zo t d):=by
 grind[zo,cT,Q6]
theorem qwL (h5:t.state≠1):td (yE t):=by
 have key:∀u:qe,u.state≠1→td (yy u):=λu c=>by
  unfold yy
  split
  ·exact Q6 c
  ·split
   ·exact cT
   simp[cT]
 grind[yE]
theorem Tc:td (zv t x d p):=by
 unfold zv;dsimp only
 split
 ·grind[Q6,mD]
 ·split
  ·grind[cT,Q6]
  ·split
   ·exact cT
   ·unfold wq
    split
    ·exact cT
    simp[qwL]
theorem qJu (h:t.state≠1):td (qs t):=by
 grind[qs,cT,Q6]
theorem jJH {l:List qa} (hc:(zi l).2=0) (hQ:Quiet l) (h:List Int) (Hh:wn S h):aX True (zN h S.writes) (Yg S l):=by
 have G:=U0 (m:=S.writes) Hh.wd;have hf:kN S.fuel≤400:=by grind[kN]
 exact⟨Mb hc,hQ,(VP (l:=l) rfl G).gb,λ_=>⟨VP rfl G,rfl,rfl,by grind[bO,zN,kN,qzL]⟩,hf⟩
theorem qXO {me:Int} {j:wc} (ok:∀h,wn S h→aX True (zN h S.writes) j):yu S j (K4 me S j) :=
 ⟨ok,rfl,λ_=>⟨rfl,rfl⟩,λh=>absurd h (by nofun),λh=>absurd h (by nofun),λh=>absurd h (by nofun),λh=>absurd h (by nofun),λh=>absurd h (by nofun),λh=>absurd h (by nofun),λh=>absurd h (by nofun),λh=>absurd h (by nofun),λh=>absurd h (by nofun),λh=>absurd h (by nofun)⟩
theorem X5.fresh (SO:xM S) (hs:t.set=S) (hf:td t) (O:yK t) (hp:∀r∈t.af,Hl S t.jobs r):X5 S t :=
 ⟨hs,λh1 x hx=>by
  have B:=O.b;have aw:=(O.c omQ).lt;have Sh:=B.ap;have AE:=B.len (by have:=O.cW;grind);have e:=hf h1 x hx;have hS:=kT SO;rw[hs]at e;unfold JX;by_cases c:t.au=true
  ·rw[iJ c]at e ⊢;subst e;unfold w8;rw[hS];exact⟨qXO λh Hh=>⟨Nat.zero_le _,by grind⟩,List.nodup_nil⟩
  ·rw[iQ c]at e ⊢;subst e;unfold gL;rw[hS];have hl:vY t.jobs t.ap∈t.jobs:=by
    simp_all[vY,List.getElem_mem]
   obtain⟨q1,q2⟩:=B.jobs _ hl
   exact⟨qXO λh Hh=>jJH q1 q2 h Hh,List.nodup_nil⟩,hp⟩
theorem qyB {l:List qa} {V:VM}:∃q,(zC (Yg S l) V).2.1=.prog q:=⟨_,rfl⟩
theorem La (J:yu S (JX S t) y) (O:zH y) (hw:y.state=7→qM y=true→y.fin=2) (pick:Int):Hl S t.jobs (jJ t y pick):=by
 have bZ:=O.st;have hj:∀(hs:(jJ t y pick).au=false),JX S t=Yg S (vY t.jobs t.ap):=λhs=>by
  have hs:t.au=false:=hs;simp_all[JX]
 have hk:(jJ t y pick).kind=if qM y=true then 2 else jK y:=rfl
 have h6:qM y=true→y.state=6∨y.state=7:=λh=>by
  unfold qM at h;have h8:y.state≠8:=by grind
  rcases Int.lt_or_le y.state 6 with h5 |h5
  ·rw[O.c0 omQ]at h;grind
  grind
 have e8:jK y≠0→y.state=8∧jK y=y.fin:=λh=>by
  unfold jK at h ⊢
  grind
 refine⟨λc hc=>O.aH.wd.k c hc,λc hc=>by
  have h1:=O.aH.ok.ins c hc;have h2:=O.sz;rw[J.set]at h2
  omega,λhs k2=>?_,λhs k3=>?_,λhs k4=>?_,λhs k2=>?_⟩
 rotate_left 3
 ·have hs:t.au=true:=hs;have rs:JX S t=.au (t.al.map (·.1)) 0:=by
   simp_all[JX]
  have D:Q9 S (JX S t) y.ap y.v 2 0:=by
   by_cases w:qM y=true
   ·rcases h6 w with h |h
    ·exact J.d2 h
    ·exact J.e2 omQ (hw h w)
   ·rw[hk,iQ w]at k2;obtain⟨a,b⟩:=e8 omQ;exact J.e2 omQ omQ
  have hc:zd y=true:=by
   unfold zd;grind
  rw[rs]at D;intro h Hh A;obtain⟨q1,q2,q3⟩:=D h Hh A;have Dj:(jJ t y pick).ik=t.al.map (·.1):=by show zk y=_;unfold zk;rw[iJ hc,← q2];rfl
  rw[Dj];refine⟨q1,?_⟩;show _=gZ y;simp_all[gZ]
 ·have D:Q9 S (Yg S (vY t.jobs t.ap)) y.ap y.v 2 0:=by
   rw[← hj hs];by_cases w:qM y=true
   ·rcases h6 w with h |h
    ·exact J.d2 h
    ·exact J.e2 omQ (hw h w)
   ·rw[hk,iQ w]at k2;obtain⟨a,b⟩:=e8 omQ;exact J.e2 omQ omQ
  have hc:zd y=true:=by
   unfold zd;grind
  intro h Hh A;obtain⟨q1,q2,q3⟩:=D h Hh A;obtain⟨q,hq⟩:=qyB (S:=S) (l:=vY t.jobs t.ap) (V:=zN h S.writes);have hyj:y.ap=.prog q:=q2▸hq;refine⟨q1,?_,?_,?_⟩
  ·show jz (zC (Yg S (vY t.jobs t.ap)) (zN h S.writes)).2.2.lv=gZ y;simp_all[gZ]
  ·show vD (zC (Yg S (vY t.jobs t.ap)) (zN h S.writes)).2.2.lv=zk y;simp_all[zk]
  ·show NK (zC (Yg S (vY t.jobs t.ap)) (zN h S.writes)).2.1=zc y;unfold zc;rw[iJ hc,q2,hyj];rfl
 ·have w:¬qM y=true:=λw=>by grind
  rw[hk,iQ w]at k3;obtain⟨a,b⟩:=e8 omQ;have D:=J.e3 omQ omQ;rw[hj hs]at D;exact λh Hh A=>(D h Hh A).1
 ·have w:¬qM y=true:=λw=>by grind
  rw[hk,iQ w]at k4;obtain⟨a,b⟩:=e8 omQ;have sG:(jJ t y pick).err=y.err:=by show yJ y=y.err;simp_all[yJ]
  rw[sG];have D:=J.e4 omQ omQ;rw[hj hs]at D;exact λh Hh A=>(D h Hh A).1
theorem qk5 (x:qr):(xp x).r=x.r:=by
 have e:(z8 x).2.r=x.r:=by grind[z8]
 unfold xp xd
 repeat' split
 all_goals exact e
theorem Og {r:List zm} {s:Int} (h:r.find? (λy=>decide (y.1=s))=none):s∉r.map (·.1):=λhm=>by
 grind
theorem jZB {r:List zm} {s:zm} (h:(r.map (·.1)).Nodup):((vw r s).2.map (·.1)).Nodup:=by
 unfold vw
 grind
theorem qy8 (h:tc x) (a:cx):tc (qS x a):=by
 have st:∀y:qr,(q9 y).r=y.r:=λy=>by
  grind[q9]
 have fe:∀y:qr,tc y→tc (jh y):=λy hy=>by
  unfold jh
  split
  ·exact hy
  ·split
   ·grind[tc,qk5,jZB]
   ·split<;>exact hy
 have to:∀y:qr,tc y→tc (jZ y):=λy hy=>by
  unfold jZ tc;rw[st]
  split
  ·exact hy
  ·split
   ·exact hy
   ·unfold jF
    split
    ·exact fe y hy
    ·split
     ·exact hy
     ·split
      ·exact hy
      ·split<;>exact hy
 unfold qS
 repeat' split
 ·grind
 ·exact h
 ·exact h
 ·exact h
 ·grind[tc,qk5]
 ·exact h
 ·exact to _ h
 ·exact to _ h
 ·exact to _ h
theorem qkm {r:List zm} {s:zm} {n:Int} (hn:n≤16) (h:(r.map (·.1)).Nodup) (hr:∀y∈r,0≤y.1∧y.1<n) (hs:0≤s.1∧s.1<n) (hv:s.2<4611686018427387904):(vw r s).1=0∨(vw r s).1=14:=by
 unfold vw;rw[iQ omQ]
 split
 ·grind
 ·rename_i hf
  split
  ·rename_i uv;exfalso;have bW:=Og hf;have nQ:((s.1::r.map (·.1))).Nodup:=List.nodup_cons.2 ⟨bW,h⟩
   have hlen:=KC 16 _ nQ (λz hz=>by
    grind)
   grind
  simp
end
end
section
variable {S:jD} {w0:List Int} {E F:Env} {G:gS} {i:Nat} {x y:qr} {t:qe} {r:xB} {d p:Int} {m:yj} {o:dC}
def mE (m:yj):Prop:=∀(i:Nat) (t:qe),m.t[i]? =some t→X5 m.s t
theorem jQU {f:Qg} {a:cx} (hp:f.p.fin=0) (ha:a.err=0) (h2:(jE f a).p.fin=2):f.state=2∧a.lk=f.lk∧xE (jE f a)=(f.aG,f.lk.1):=by
 have hs:jV f.p a=(false,f.p):=by
  simp_all[jV,iV]
 unfold jE at h2 ⊢;rw[hs,iQ (λh=>by grind)]at h2 ⊢;by_cases c1:f.state=1
 ·grind
 ·rw[iQ c1]at h2 ⊢;by_cases c2:f.state=2∧a.lk=f.lk
  ·rw[iJ c2];exact⟨c2.1,c2.2,rfl⟩
  ·rw[iQ c2]at h2;exfalso;unfold gA at h2
   split at h2
   ·split at h2
    ·have hw:(jA f.p a.lk).2.fin=f.p.fin:=by
      grind[jA]
     grind
    ·cases h2
   ·split at h2
    ·cases h2
    grind
theorem X5.same {u:qe} (J:X5 S t) (h1:u.set=t.set) (h2:u.state=1→t.state=1) (h3:u.now=t.now) (h4:JX S u=JX S t) (h5:u.af=t.af) (h6:u.jobs=t.jobs):X5 S u :=
 ⟨h1.trans J.set,λh x hx=>by rw[h4];exact J.a (h2 h) x (h3▸hx),λr hr=>by rw[h6];exact J.p r (h5▸hr)⟩
theorem Td (K:kC m) (mh:m.m.n<4611686018427387903) (Z:X6 w0 m G) (J:X5 m.s t) (ht:m.t[i]? =some t) (hn:zO t=some o) (h1:t.state=1) :
  ∃x,t.now=some x∧yu m.s (JX m.s t) (qS x (qL m.m o).1)∧tc (qS x (qL m.m o).1)∧zH (qS x (qL m.m o).1)∧((qS x (qL m.m o).1).state=7→qM (qS x (qL m.m o).1)=true→(qS x (qL m.m o).1).fin=2)∧Bg (qS x (qL m.m o).1)∧
   ∀d p,ql t (qL m.m o).1 d p=xz t x (qS x (qL m.m o).1) d p:=by
 obtain⟨O,W,L⟩:=K.t i t ht;have hi:=(List.getElem?_eq_some_iff.1 ht).1;have sZ:i<4:=by have:=K.len;have:=K.th;omega
 have hs:(i:Int)<(xO m G).M.s.length:=by have:=Z.len;show(i:Int)<m.m.s.length;omega
 have T:=Z.t i t ht;have lE:=(Ql K.r (wI O W hn)).1;obtain⟨x,hx⟩:∃x,t.now=some x:=by
  cases h:t.now with
  |none=>exact absurd h (O.c omQ).some
  |some x=>simp
 have OA:=((O.c omQ).now x hx).1;have bW:zT x=some o:=by simp_all[zO]
 have A:=T.a h1 x hx;have ha:(qL m.m o).1.err=0:=A.ai.err Z.mem OA sZ hs bW;obtain⟨JS,JU⟩:=J.a h1 x hx;have bZ:=K.so.ae;have CC:x.state=3→(jE x.f (qL m.m o).1).p.fin=2→(vw x.r (xE (jE x.f (qL m.m o).1))).1=0∨(vw x.r (xE (jE x.f (qL m.m o).1))).1=14:=λh3 h2=>by
  have AN:=A.ai.Du Z.mem OA hs omQ bW;obtain⟨f1,f2⟩:=A.ai.lk.f h3;obtain⟨g1,g2,g3⟩:=jQU f2 ha h2;rw[g3];have hk:=AN.hk h3 omQ;have hl:=(K.mem.lk x.f.aG f1.1 f1.2).2;have hnn:=K.mem.n;have hk:(qL m.m o).1.lk=q8 m.m.l x.f.aG:=hk;refine qkm (n:=m.s.ae) omQ JU A.ai.lk.r f1 ?_;grind
 have lZ:∀c,x.c=some c→0≤c.state∧c.state≤7:=λc hc=>(OA.c c hc).st;have ta:x.state=6→∀c,x.c=some c→c.state=2→(qL m.m o).1.word<4611686018427387903:=λh6 c hc h2=>by
  have hf:=(A.ai.lk.c h6 c hc).2;unfold zT at bW;rw[iQ omQ,iQ omQ,iQ omQ,iQ omQ,iQ omQ,iQ omQ,iJ h6,hc]at bW;have bW:yD c=some o:=bW;unfold yD at bW;rw[iQ (λh=>h hf),iQ omQ,iQ omQ,iJ h2]at bW;have bW:=Option.some.inj bW;subst bW;exact mh
 have Lb:=yu.step OA lZ lE ha ta CC JS;have Te:=qy8 JU (qL m.m o).1;have Tf:=Xy OA lE;have w7:=qGp OA (A.ai.SE Z.mem (by show(m.t[i]?).bind xr=_;grind[YM]) OA) ha;refine⟨x,hx,Lb,Te,Tf,λh7 hw=>((w7 h7).1 hw).1,Zb A.bg OA.st.1 ha,λd p=>?_⟩;simp_all[ql]
theorem Hn (K:kC m) (mh:m.m.n<4611686018427387903) (Z:X6 w0 m G) (J:X5 m.s t) (ht:m.t[i]? =some t) (hn:zO t=some o) (hd:0≤d) (Lu:ThrLk m.s (qL m.m o).2.n (ql t (qL m.m o).1 d p) i):X5 m.s (ql t (qL m.m o).1 d p):=by
 obtain⟨O,W,L⟩:=K.t i t ht;have hi:=(List.getElem?_eq_some_iff.1 ht).1;have sZ:i<4:=by have:=K.len;have:=K.th;omega
 have hs:(i:Int)<(xO m G).M.s.length:=by have:=Z.len;show(i:Int)<m.m.s.length;omega
 have T:=Z.t i t ht;have lE:=(Ql K.r (wI O W hn)).1;have O':=GG O lE hd (pick:=p);have jb:=SZ t (qL m.m o).1 d p;by_cases h1:t.state=1
 ·obtain⟨x,hx,Lb,Te,Tf,hw,_,et⟩:=Td K mh Z J ht hn h1;have et:=et d p;rw[et]at O' Lu jb ⊢;generalize qL m.m o=q at*;generalize qS x q.1=y at*;unfold xz at O' Lu jb ⊢;dsimp only at O' Lu jb ⊢;by_cases he:jK y=0
  ·rw[iJ he]at Lu ⊢
   exact⟨Lu.set,λ_ z hz=>by
    have hz:=Option.some.inj hz;subst hz
    trivial,J.p⟩
  ·rw[iQ he]at O' Lu jb ⊢;refine X5.fresh K.so Lu.set Tc O' λr hr=>?_;rw[jb];rw[QX]at hr;rcases List.mem_append.1 hr with hr |hr
   ·exact J.p r hr
   ·rw[List.mem_singleton.1 hr];exact La (t:={ t with now:=some y,born:=if y.begun=true∧x.begun=false then p else t.born }) Lb Tf hw p
 ·have hk:td (ql t (qL m.m o).1 d p)∧(ql t (qL m.m o).1 d p).af=t.af:=by
   unfold ql;rw[iQ h1]
   split
   ·split
    ·exact⟨Q6 h1,rfl⟩
    ·exact⟨mD,(ww _ _).af⟩
   ·split
    ·exact⟨qwL (by grind),(Q2 _).af⟩
    ·exact⟨Q6 h1,rfl⟩
  exact X5.fresh K.so Lu.set hk.1 O' λr hr=>by rw[jb];exact J.p r (hk.2▸hr)
theorem qvs (SO:xM S) (J:X5 S t) {s v:Int} (O':yK (jN t s v)) (hs:(jN t s v).set=S):X5 S (jN t s v):=by
 have jb:=Tb t s v;unfold jN at O' hs jb ⊢
 split
 ·grind
 ·rename_i x hx;rw[hx]at O' hs jb;dsimp only at O' hs jb
  split
  ·rename_i IW;rw[iJ IW]at O' hs jb
   split
   ·rename_i h4;rw[iJ h4]at O' hs jb;exact X5.fresh SO hs cT O' λr hr=>by rw[jb];exact J.p r ((xZ t).af▸hr)
   ·split
    ·exact J.same rfl id rfl rfl rfl rfl
    grind
  grind
theorem qYr (K:kC m) (mh:m.m.n<4611686018427387903) (Z:X6 w0 m G) (J:mE m) (hi:i<m.t.length) (hd:0≤d):mE (jn m i d):=by
 obtain⟨K',hS,_⟩:=QB K hi hd;obtain⟨t,ht⟩:∃t,m.t[i]? =some t:=⟨m.t[i],iW hi⟩;obtain⟨O,W,L⟩:=K.t i t ht;have Ca:0≤(i:Int)∧(i:Int)<4:=by have:=K.len;have:=K.th;omega
 have dO:∀(u:qe) {k:Nat} {v:qe},(m.t.set i u)[k]? =some v→(k=i∧v=u)∨(k≠i∧m.t[k]? =some v):=λu k v h=>by
  grind
 intro k v hv;obtain⟨O',_,L'⟩:=K'.t k v hv;have lO:v.set=m.s:=L'.set.trans hS;rw[hS];clear L' K' hS;unfold jn at hv;rw[ht]at hv;dsimp only at hv;cases hn:zO t with
 |none=>
  rw[hn]at hv;have hv:(m.t.set i (qs t))[k]? =some v:=hv;rcases dO _ hv with⟨rfl,rfl⟩ |⟨_,h⟩
  ·by_cases h3:t.state=3
   ·exact X5.fresh K.so lO (qJu omQ) O' λr hr=>by rw[UC];exact(J k t ht).p r (Yv t▸hr)
   ·have e:qs t=t:=iQ h3;rw[e];exact J k t ht
  ·exact J k v h
 |some o=>
  rw[hn]at hv;dsimp only at hv;have T:=qkl K.so K.mem K.r O W L Ca hn d (m.aA+1);have ju:=Hn (p:=m.aA+1) K mh Z (J i t ht) ht hn hd T.lk;generalize ql t (qL m.m o).1 d (m.aA+1)=u at*;have one:∀(k:Nat) (v:qe),(m.t.set i u)[k]? =some v→X5 m.s v:=λk v hv=>by
   rcases dO _ hv with⟨_,rfl⟩ |⟨_,h⟩
   ·grind
   ·exact J k v h
  by_cases h5:o.kind=5
  ·rw[iJ h5,Xd]at hv;cases hq:(m.t.set i u)[k]? with
   |none=>grind
   |some q=>
    rw[hq]at hv;have hv:(if k=i then q else jN q o.at_ o.lk.1)=v:=Option.some.inj hv;have jq:=one k q hq;by_cases hk:k=i
    ·grind
    ·rw[iQ hk]at hv;subst hv;exact qvs K.so jq O' lO
  grind
theorem qzr {s:jD} {jobs:List (List (List qa))} (hs:0≤s.start) (hj:∀js∈jobs,∀l∈js,(zi l).2=0∧Quiet l):mE (xP s jobs):=by have K:=VR hs hj;intro i t ht;obtain⟨O,_,L⟩:=K.t i t ht;have ht:((List.range (xP s jobs).s.ad.toNat).map λi:Nat=>gr i (xP s jobs).s (((jobs.take 4)[i]?).getD []))[i]? =some t:=ht;rw[List.getElem?_map]at ht;obtain⟨j,_,rfl⟩:=Option.map_eq_some_iff.1 ht;refine X5.fresh K.so L.set cT O λr hr=>?_;have e:(gr (j:Int) (xP s jobs).s (((jobs.take 4)[j]?).getD [])).af=[]:=(yM _).af;grind
theorem mE.lG (J:mE m) (K:kC m) (Z:X6 w0 m G) (ht:m.t[i]? =some t) (hr:r∈qH t):Hl m.s t.jobs r:=by
 have JT:=J i t ht;rcases List.mem_append.1 hr with hr |hr
 ·exact JT.p r hr
 ·cases hx:t.now with
  |none=>grind
  |some x=>
   rw[hx]at hr;dsimp only at hr;by_cases hb:t.state=1∧x.begun=true
   ·rw[iJ hb]at hr;rw[List.mem_singleton.1 hr];have OA:=(((K.t i t ht).1.c omQ).now x hx).1;have A:=(Z.t i t ht).a hb.1 x hx;exact La (JT.a hb.1 x hx).1 OA (λh7 hw=>((A.w7 h7).1 hw).1) 0
   grind
end
section
variable {mt:List Int} {f sz most:Nat} {a b n x y nd:Int} {K:List Cl}
theorem qx8 (ha:6≤a∧a≤13) (hz:32≤sz) (h1:jO a K=some x) (hx:x<n):∃s,jr (wm a b n) mt (f+5) Q4 ⟨sz,K,most,[([],[])],nd⟩=⟨2,0,f,s,⟨sz,K,most,[([],[])],nd⟩⟩∧s.out=[]:=by
 refine⟨⟨[x,n,1,0,0,0,0,0],[],10,[]⟩,?_,rfl⟩;refine(zX (nx:=1) (by nofun) (wo (s:=Q4) (r:=0) (k:=0) ha rfl hz (.inr ⟨rfl,h1⟩))).trans ?_;refine(zX (nx:=2) (by nofun) (show bK mt _ _ (1,1,0,0,n)=⟨0,2,false,_,_⟩from rfl)).trans ?_;refine(zX (nx:=3) (by nofun) (show bK mt _ _ (6,2,0,1,0)=⟨0,3,false,_,_⟩from rfl)).trans ?_;have t:kP (x<n)=1:=iJ hx;have e:(⟨[x,n,kP (x<n),0,0,0,0,0],[],3,[]⟩:IM)=⟨[x,n,1,0,0,0,0,0],[],3,[]⟩:=by rw[t]
 show jr (wm a b n) mt (f+2) ⟨[x,n,kP (x<n),0,0,0,0,0],[],3,[]⟩ ⟨sz,K,most,[([],[])],nd⟩=_;rw[e];refine(zX (nx:=4) (by nofun) (show bK mt _ _ (13,2,0,5,0)=⟨0,4,false,_,_⟩from rfl)).trans ?_;refine(zX (nx:=10) (by nofun) (show bK mt _ _ (12,0,0,10,0)=⟨0,10,false,_,_⟩from rfl)).trans ?_;exact Jg rfl f
theorem qxN (ha:6≤a∧a≤13) (hb:6≤b∧b≤13) (nu:a≠b) (hz:32≤sz) (hm:4≤most) (h1:jO a K=some x) (h2:jO b K=some y) (hx:¬x<n) :
  ∃s,jr (wm a b n) mt (f+9) Q4 ⟨sz,K,most,[([],[])],nd⟩=⟨2,0,f,s,⟨sz,K,most,[([(a,jR .u64 (x-n)),(b,jR .u64 (y+n))],[])],nd⟩⟩∧s.out=[]:=by
 refine⟨⟨[jR .u64 (x-n),n,0,jR .u64 (y+n),0,0,0,0],[],10,[]⟩,?_,rfl⟩;refine(zX (nx:=1) (by nofun) (wo (s:=Q4) (r:=0) (k:=0) ha rfl hz (.inr ⟨rfl,h1⟩))).trans ?_;refine(zX (nx:=2) (by nofun) (show bK mt _ _ (1,1,0,0,n)=⟨0,2,false,_,_⟩from rfl)).trans ?_;refine(zX (nx:=3) (by nofun) (show bK mt _ _ (6,2,0,1,0)=⟨0,3,false,_,_⟩from rfl)).trans ?_;have t:kP (x<n)=0:=iQ hx;have e:(⟨[x,n,kP (x<n),0,0,0,0,0],[],3,[]⟩:IM)=⟨[x,n,0,0,0,0,0,0],[],3,[]⟩:=by rw[t]
 show jr (wm a b n) mt (f+6) ⟨[x,n,kP (x<n),0,0,0,0,0],[],3,[]⟩ ⟨sz,K,most,[([],[])],nd⟩=_;rw[e];refine(zX (nx:=5) (by nofun) (show bK mt _ _ (13,2,0,5,0)=⟨0,5,false,_,_⟩from rfl)).trans ?_;refine(zX (nx:=6) (by nofun) (show bK mt _ _ (4,0,0,1,0)=⟨0,6,false,_,_⟩from rfl)).trans ?_;refine(zX (nx:=7) (by nofun) (SU (r:=0) (k:=0) (cs:=[]) (fs:=[]) ha rfl hz rfl (by show 0<most;omega))).trans ?_;refine(zX (nx:=8) (by nofun) (wo (r:=3) (k:=0) (x:=y) hb rfl hz (.inr ⟨?_,h2⟩))).trans ?_
 ·show(match jO b [(a,_)]with |some x=>some x |none=>YW b [])=none;rw[UJ nu];rfl
 refine(zX (nx:=9) (by nofun) (show bK mt _ _ (3,3,3,1,0)=⟨0,9,false,_,_⟩from rfl)).trans ?_;refine(zX (nx:=10) (by nofun) (SU (r:=3) (k:=0) (cs:=[(a,jR .u64 (x-n))]) (fs:=[]) hb rfl hz rfl (by show 1<most;omega))).trans ?_;have e:yo b (jR .u64 (y+n)) [(a,jR .u64 (x-n))]=[(a,jR .u64 (x-n)),(b,jR .u64 (y+n))]:=wM (by rw[UJ nu];rfl);show jr (wm a b n) mt f ⟨[jR .u64 (x-n),n,0,jR .u64 (y+n),0,0,0,0],[],10,[]⟩ ⟨sz,K,most,[(yo b (jR .u64 (y+n)) [(a,jR .u64 (x-n))],[])],nd⟩=_;rw[e];exact Jg rfl f
theorem jKa {v:Int} (hz:32≤sz) (hm:4≤most):∃s,jr (yz v) mt (f+2) Q4 ⟨sz,K,most,[([],[])],nd⟩=⟨2,0,f,s,⟨sz,K,most,[([(9,v)],[])],nd⟩⟩∧s.out=[]:=by refine⟨⟨[v,0,0,0,0,0,0,0],[],2,[]⟩,?_,rfl⟩;refine(zX (nx:=1) (by nofun) (show bK mt _ _ (1,0,0,0,v)=⟨0,1,false,_,_⟩from rfl)).trans ?_;refine(zX (nx:=2) (by nofun) (SU (r:=0) (k:=0) (cs:=[]) (fs:=[]) od rfl hz rfl (by show 0<most;omega))).trans ?_;exact Jg rfl f
theorem Jr {r0 T:Int} {i:Nat} (hi:i<8) (hz:32≤sz) (h1:jO (6+(i:Int)) K=some x):jr dU mt (f+2) ⟨[r0,T,0,0,0,0,0,0],[],2*(i:Int),[]⟩ ⟨sz,K,most,[([],[])],nd⟩=jr dU mt f ⟨[x,jR .u64 (T+x),0,0,0,0,0,0],[],2*(i:Int)+2,[]⟩ ⟨sz,K,most,[([],[])],nd⟩:=by
 rcases(show i=0∨i=1∨i=2∨i=3∨i=4∨i=5∨i=6∨i=7 by omega)with rfl |rfl |rfl |rfl |rfl |rfl |rfl |rfl
 ·have h1:jO 6 K=some x:=h1;refine(zX (s:=⟨[r0,T,0,0,0,0,0,0],[],0,[]⟩) (nx:=1) (by nofun) (wo (r:=0) (k:=0) (p:=6) od rfl hz (.inr ⟨rfl,h1⟩))).trans ?_;rfl
 ·have h1:jO 7 K=some x:=h1;refine(zX (s:=⟨[r0,T,0,0,0,0,0,0],[],2,[]⟩) (nx:=3) (by nofun) (wo (r:=0) (k:=0) (p:=7) od rfl hz (.inr ⟨rfl,h1⟩))).trans ?_;rfl
 ·have h1:jO 8 K=some x:=h1;refine(zX (s:=⟨[r0,T,0,0,0,0,0,0],[],4,[]⟩) (nx:=5) (by nofun) (wo (r:=0) (k:=0) (p:=8) od rfl hz (.inr ⟨rfl,h1⟩))).trans ?_;rfl
 ·have h1:jO 9 K=some x:=h1;refine(zX (s:=⟨[r0,T,0,0,0,0,0,0],[],6,[]⟩) (nx:=7) (by nofun) (wo (r:=0) (k:=0) (p:=9) od rfl hz (.inr ⟨rfl,h1⟩))).trans ?_;rfl
 ·have h1:jO 10 K=some x:=h1;refine(zX (s:=⟨[r0,T,0,0,0,0,0,0],[],8,[]⟩) (nx:=9) (by nofun) (wo (r:=0) (k:=0) (p:=10) od rfl hz (.inr ⟨rfl,h1⟩))).trans ?_;rfl
 ·have h1:jO 11 K=some x:=h1;refine(zX (s:=⟨[r0,T,0,0,0,0,0,0],[],10,[]⟩) (nx:=11) (by nofun) (wo (r:=0) (k:=0) (p:=11) od rfl hz (.inr ⟨rfl,h1⟩))).trans ?_;rfl
 ·have h1:jO 12 K=some x:=h1;refine(zX (s:=⟨[r0,T,0,0,0,0,0,0],[],12,[]⟩) (nx:=13) (by nofun) (wo (r:=0) (k:=0) (p:=12) od rfl hz (.inr ⟨rfl,h1⟩))).trans ?_;rfl
 ·have h1:jO 13 K=some x:=h1;refine(zX (s:=⟨[r0,T,0,0,0,0,0,0],[],14,[]⟩) (nx:=15) (by nofun) (wo (r:=0) (k:=0) (p:=13) od rfl hz (.inr ⟨rfl,h1⟩))).trans ?_;rfl
def cA (a b:Int):Prop:=∃q,a=b+18446744073709551616*q
theorem cA.wrap {a b:Int} (h:cA a b):cA (jR .u64 a) b:=by obtain⟨q1,e1⟩:=Z9 a;obtain⟨q,e⟩:=h;exact⟨q+q1,by grind⟩
theorem Z8 (z:Int):0≤jR .u64 z∧jR .u64 z<18446744073709551616:=by
 cases z with
 |ofNat k=>exact⟨by show(0:Int)≤((k%18446744073709551616:Nat):Int);omega,by show((k%18446744073709551616:Nat):Int)<_;omega⟩
 |negSucc k=>exact⟨by show(0:Int)≤((18446744073709551615-k%18446744073709551616:Nat):Int);omega,by show((18446744073709551615-k%18446744073709551616:Nat):Int)<_;omega⟩
theorem Tg {g:Int→Int} (hz:32≤sz) (hg:∀p,6≤p→p≤13→jO p K=some (g p)):∃s T,jr dU mt (f+17) Q4 ⟨sz,K,most,[([],[])],nd⟩=⟨2,0,f,s,⟨sz,K,most,[([],[])],nd⟩⟩∧s.out=[(1,T)]∧cA T (kH g)∧0≤T∧T<18446744073709551616:=by have k0:=Jr (mt:=mt) (f:=f+15) (most:=most) (nd:=nd) (r0:=0) (T:=0) (i:=0) omQ hz (hg 6 od od);have k1:=Jr (mt:=mt) (f:=f+13) (most:=most) (nd:=nd) (r0:=g 6) (T:=jR .u64 (0+g 6)) (i:=1) omQ hz (hg 7 od od);have k2:=Jr (mt:=mt) (f:=f+11) (most:=most) (nd:=nd) (r0:=g 7) (T:=jR .u64 (jR .u64 (0+g 6)+g 7)) (i:=2) omQ hz (hg 8 od od);have a0:cA (jR .u64 (0+g 6)) (g 6):=cA.wrap ⟨0,by omega⟩;have st:∀{T s z:Int},cA T s→cA (jR .u64 (T+z)) (s+z):=λ⟨q,e⟩=>cA.wrap ⟨q,by grind⟩;have a1:=st (z:=g 7) a0;have a2:=st (z:=g 8) a1;generalize jR .u64 (jR .u64 (jR .u64 (0+g 6)+g 7)+g 8)=T2 at*;have k3:=Jr (mt:=mt) (f:=f+9) (most:=most) (nd:=nd) (r0:=g 8) (T:=T2) (i:=3) omQ hz (hg 9 od od);have a3:=st (z:=g 9) a2;generalize jR .u64 (T2+g 9)=T3 at*;have k4:=Jr (mt:=mt) (f:=f+7) (most:=most) (nd:=nd) (r0:=g 9) (T:=T3) (i:=4) omQ hz (hg 10 od od);have a4:=st (z:=g 10) a3;generalize jR .u64 (T3+g 10)=T4 at*;have k5:=Jr (mt:=mt) (f:=f+5) (most:=most) (nd:=nd) (r0:=g 10) (T:=T4) (i:=5) omQ hz (hg 11 od od);have a5:=st (z:=g 11) a4;generalize jR .u64 (T4+g 11)=T5 at*;have k6:=Jr (mt:=mt) (f:=f+3) (most:=most) (nd:=nd) (r0:=g 11) (T:=T5) (i:=6) omQ hz (hg 12 od od);have a6:=st (z:=g 12) a5;generalize jR .u64 (T5+g 12)=T6 at*;have k7:=Jr (mt:=mt) (f:=f+1) (most:=most) (nd:=nd) (r0:=g 12) (T:=T6) (i:=7) omQ hz (hg 13 od od);have a7:=st (z:=g 13) a6;have b7:=Z8 (T6+g 13);generalize jR .u64 (T6+g 13)=T7 at*;refine⟨⟨[g 13,T7,0,0,0,0,0,0],[(1,T7)],17,[]⟩,T7,?_,rfl,a7,b7⟩;refine k0.trans (k1.trans (k2.trans (k3.trans (k4.trans (k5.trans (k6.trans (k7.trans ?_)))))));exact(zX (nx:=17) (by nofun) (show bK mt _ _ (21,1,0,0,0)=⟨0,17,false,_,_⟩from rfl)).trans (Jg rfl f)
structure uY (S:jD):Prop where
  words:32≤S.words∧S.words≤256
  writes:4≤S.writes
  fuel:S.fuel=120
section
variable {S:jD} {h:List Int}
theorem O1 (B:uY S) (H:wn S h):∃sz most:Nat,zN h S.writes=⟨sz,kW h,most,[([],[])],0⟩∧32≤sz∧4≤most∧kN S.fuel=120∧∀p,6≤p→p≤13→jO p (kW h)=some (qC h p):=by have h1:=B.words;have h2:=B.writes;have h3:=H.len;refine⟨eL h.length,(max 0 (min S.writes 96)).toNat,rfl,by grind[eL],by omega,by rw[B.fuel];rfl,λp p1 p2=>qxP omQ (by grind[eL])⟩
theorem UW {l:List qa} {k:Int} {n:Nat} {s:IM} {V:VM} (hf:kN S.fuel=120) (e:jr l (qT l) 120 Q4 (zN h S.writes)=⟨k,0,n,s,V⟩) (hk:k=2):(XA S l h).1=(2,0)∧(XA S l h).2.2=V∧NK (XA S l h).2.1=Nm s.out:=by
 subst hk
 have e1:XA S l h=(((jr l (qT l) 120 Q4 (zN h S.writes)).kind,(jr l (qT l) 120 Q4 (zN h S.writes)).err),
   .prog ⟨l,(jr l (qT l) 120 Q4 (zN h S.writes)).s,if(jr l (qT l) 120 Q4 (zN h S.writes)).kind=1 then 0 else(jr l (qT l) 120 Q4 (zN h S.writes)).kind,(jr l (qT l) 120 Q4 (zN h S.writes)).err,(jr l (qT l) 120 Q4 (zN h S.writes)).left⟩,
   (jr l (qT l) 120 Q4 (zN h S.writes)).v):=by
  grind[zC,Yg,zN]
 rw[e1,e];trivial
inductive jKT (g:Int→Int) (cs:List Cl) (sl:List UInt8):Prop
  |no (c:cs=[]) (s:sl=[])
  |te (a b n:Int) (ha:6≤a∧a≤13) (hb:6≤b∧b≤13) (nu:a≠b) (c:cs=[(a,jR .u64 (g a-n)),(b,jR .u64 (g b+n))]) (s:sl=[])
  |sum (T:Int) (c:cs=[]) (s:sl=Nm [(1,T)]) (t:cA T (kH g)) (tb:0≤T∧T<18446744073709551616)
def GP (l:List qa):Prop:=l=dU∨∃a b n,(6≤a∧a≤13)∧(6≤b∧b≤13)∧a≠b∧l=wm a b n
theorem Kr {l:List qa} (B:uY S) (H:wn S h) (hl:GP l):(XA S l h).1=(2,0)∧vD (XA S l h).2.2.lv=[]∧jKT (qC h) (jz (XA S l h).2.2.lv) (NK (XA S l h).2.1):=by
 obtain⟨sz,most,e,hz,hm,hf,hg⟩:=O1 B H;rcases hl with rfl |⟨a,b,n,ha,hb,nu,rfl⟩
 ·obtain⟨s,T,r,o,t,tb⟩:=Tg (mt:=qT dU) (f:=103) (most:=most) (nd:=0) (g:=qC h) hz hg;rw[← e]at r;obtain⟨q1,q2,q3⟩:=UW hf r rfl;rw[q2,q3,o];exact⟨q1,rfl,.sum T rfl rfl t tb⟩
 ·by_cases hx:qC h a<n
  ·obtain⟨s,r,o⟩:=qx8 (mt:=qT (wm a b n)) (f:=115) (most:=most) (nd:=0) (b:=b) ha hz (hg a ha.1 ha.2) hx;rw[← e]at r;obtain⟨q1,q2,q3⟩:=UW hf r rfl;rw[q2,q3,o];exact⟨q1,rfl,.no rfl rfl⟩
  ·obtain⟨s,r,o⟩:=qxN (mt:=qT (wm a b n)) (f:=111) (most:=most) (nd:=0) ha hb nu hz hm (hg a ha.1 ha.2) (hg b hb.1 hb.2) hx;rw[← e]at r;obtain⟨q1,q2,q3⟩:=UW hf r rfl;rw[q2,q3,o];refine⟨q1,rfl,.te a b n ha hb nu ?_ rfl⟩;rfl
theorem US {v:Int} (B:uY S) (H:wn S h):(XA S (yz v) h).1=(2,0)∧vD (XA S (yz v) h).2.2.lv=[]∧jz (XA S (yz v) h).2.2.lv=[(9,v)]∧NK (XA S (yz v) h).2.1=[]:=by obtain⟨sz,most,e,hz,hm,hf,hg⟩:=O1 B H;obtain⟨s,r,o⟩:=jKa (mt:=qT (yz v)) (f:=118) (K:=kW h) (most:=most) (nd:=0) (v:=v) hz hm;rw[← e]at r;obtain⟨q1,q2,q3⟩:=UW hf r rfl;rw[q2,q3,o];trivial
end
end
section
variable {g h:AH} {L R:List SP}
theorem qWB {x:Int} {K:AV→Go.Ae.R} {Q:AV→AH→Prop} (w:∀y:Nat,y<8→wp (K (.int .u16 (y:Int))) Q):wp (zB .and (.int .u16 x) (.int .u16 ((7:Nat):Int)) K) Q:=by
 have e:∃y:Nat,y<8∧IntKind.u16.wrap (BitVec.ofInt 16 x&&&BitVec.ofInt 16 ((7:Nat):Int)).toNat=(y:Int):=by
  refine⟨(BitVec.ofInt 16 x&&&BitVec.ofInt 16 ((7:Nat):Int)).toNat,?_,?_⟩
  ·rw[BitVec.toNat_and,show(BitVec.ofInt 16 ((7:Nat):Int)).toNat=7 from rfl];grind[Nat.and_le_right,BitVec.ofInt]
  ·have h1:=(BitVec.ofInt 16 x&&&BitVec.ofInt 16 ((7:Nat):Int)).isLt;generalize(BitVec.ofInt 16 x&&&BitVec.ofInt 16 ((7:Nat):Int)).toNat=y at*;rw[← QC];show((y%65536:Nat):Int)=_;omega
 obtain⟨y,hy,e⟩:=e;show wp (K (.int .u16 (IntKind.u16.wrap (BitVec.ofInt 16 x&&&BitVec.ofInt 16 ((7:Nat):Int)).toNat))) Q;rw[e];exact w y hy
theorem NU {n b:Nat} {m:yj} (hn:6≤n) (hb:m.t.length≤1000) (O:∀t∈m.t,yK t) (H:HS g h (bL b m::R)):aE n 13 [.ptr b 0] h λr h'=>r=.bool (wx m)∧HS g h' (bL b m::R):=by
 refine aF (S:=S13) rfl omQ λk hk=>?_;unfold S13;try simp only[iZ]
 obtain⟨p,tv,ps,hl,H⟩:=bL.E H;refine qK (qQ (qZ H (b:=b) .here (x:=tv) rfl ?_));refine jQ H (sz:=1) (n:=m.t.length) (v:=tv) e_1 ?_;refine zQ (λc s h'=>∃i:Nat,s=(.int .i64 (i:Int),.int .i64 (m.t.length:Int),tv,())∧i≤m.t.length∧c=m.t.length-i∧(m.t.take i).any vC=false∧HS g h' (VY b m p tv ps R))
  ?_ (m:=m.t.length) (by grind) ⟨0,rfl,Nat.zero_le _,rfl,rfl,H⟩
 clear H;rintro c ih s h6 bQ ⟨i,rfl,hi,rfl,ha,H⟩;dsimp only;by_cases aw:i<m.t.length
 ·refine jt omQ (qX ?_);have ht:m.t[i]? =some m.t[i]:=iW aw;have h1:ps[i]? =some (ps[i]'omQ):=iW omQ;refine zj (H.sl (v:=tv) (xs:=Xi ps) e_1) (x:=.ptr (ps[i]'omQ) 0) (I0 h1) ?_;refine qG (qZo omQ (O _ (List.getElem_mem aw)) (Ze h1 ht (H.aM (P:=.all (wh ps m.t)) e_3))) ?_;rintro _ h7 ⟨rfl,H7⟩;have H8:HS g h7 (VY b m p tv ps R):=(qZ8 h1 ht H7).sub (.cons e_1 (.cons e_1 (.cons e_1 (.cons .here .refl))));clear H H7;cases hw:vC m.t[i]with
  |true=>refine qX (qx (qW ⟨?_,bL.I hl H8⟩));grind[wx,List.any_eq_true,List.getElem_mem]
  |false=>refine qJ (qi omQ ?_);refine bQ (m.t.length-(i+1)) _ _ omQ ⟨i+1,rfl,by omega,rfl,?_,H8⟩;rw[List.take_add_one,ht,List.any_append,ha];grind
 ·obtain rfl:i=m.t.length:=by omega
  refine jP omQ (qJ (qx (qW ⟨?_,bL.I hl H⟩)));grind[List.take_length,wx]
theorem qz4 (i:Nat) (h:i<8):dU.take (2*(i+1))=dU.take (2*i)++[(8,0,7,6+(i:Int),0),(3,1,1,0,0)]∧(dU.take (2*i)).length=2*i:=by
 rcases(show i=0∨i=1∨i=2∨i=3∨i=4∨i=5∨i=6∨i=7 by omega)with rfl |rfl |rfl |rfl |rfl |rfl |rfl |rfl<;>exact⟨rfl,rfl⟩
theorem qwE:(zi dU).2=0∧Quiet dU:=⟨by rfl,λx hx=>by
 simp only[dU,List.mem_cons,List.not_mem_nil,or_false]at hx
 rcases hx with rfl |rfl |rfl |rfl |rfl |rfl |rfl |rfl |rfl |rfl |rfl |rfl |rfl |rfl |rfl |rfl |rfl<;>decide⟩
theorem qwd {a b v:Int} (ha:6≤a∧a≤13) (hb:6≤b∧b≤13) (hv:0≤v∧v<18446744073709551616):(zi (wm a b v)).2=0∧Quiet (wm a b v):=by
 have h1:0≤a∧a≤15:=by omega
 have h2:0≤b∧b≤15:=by omega
 refine⟨?_,λx hx=>?_⟩
 ·simp[zi,l9,xv,Xg,zD,Qb,zU,xo,jU,Xr,J2,wm,qC,gi,jc,dG,h1,h2]
 ·simp only[wm,List.mem_cons,List.not_mem_nil,or_false]at hx;grind
theorem qvu {v:Int} (hv:0≤v∧v<18446744073709551616):(zi (yz v)).2=0∧Quiet (yz v):=by
 refine⟨?_,λx hx=>?_⟩
 ·simp[zi,l9,xv,Xg,zD,Qb,zU,xo,jU,Xr,J2,yz,qC,gi,jc,dG]
 ·simp only[yz,List.mem_cons,List.not_mem_nil,or_false]at hx;grind
theorem bX.nil (H:HS g h L):HS g h (bX .ak []::L):=H.ak
theorem qGd {v:AV} {l:List qa} (H:HS g h (bX v l::R)):One v:=H.one (e:=32) (sz:=5) (n:=l.length) .here
theorem qgp {n a b:Nat} {v:Int} (hn:1≤n) (ha:a<8) (hb:b<8) (hv:0≤v∧v<18446744073709551616) (H:HS g h R) :
  aE n 5 [.int .i64 (a:Int),.int .i64 (b:Int),.int .u64 v] h λr h'=>∃pv l,r=.agg [pv]∧GP l∧(zi l).2=0∧Quiet l∧HS g h' (bX pv l::R):=by
 refine cX (S:=S5) rfl omQ λk hk=>?_;unfold S5;try simp only[iZ]
 refine qP H rfl λb0 h1 H1=>?_;refine qi omQ (qi omQ ?_);by_cases c:a=b
 ·refine jI omQ (qJ ?_);refine qR (l:=[.ak]) rfl ?_;refine qP H1 rfl λb1 h2 H2=>?_;refine qm H2 (b:=b1) .here rfl (by simp) rfl λh3 H3=>?_;have H4:HS g h3 (qw b1 [.ak]::bX .ak (dU.take (2*0))::qw b0 [.ak]::R):=(bX.nil (show HS g h3 (qw b1 [.ak]::qw b0 [.ak]::R)from H3)).sub (.cons e_1 (.cons .here (.cons .here .refl)));clear H1 H2 H3;refine zQ (λc q h'=>∃(i:Nat) (lv:AV),q=(.int .i64 (i:Int),.ptr b1 0,.ptr b0 0,())∧i≤8∧c=8-i∧HS g h' (qw b1 [lv]::bX lv (dU.take (2*i))::qw b0 [.ak]::R)) ?_ (m:=8) od ⟨0,.ak,rfl,by omega,rfl,H4⟩;clear H4;rintro c ih q h6 bQ ⟨i,lv,rfl,hi,rfl,H⟩;dsimp only;by_cases aw:i<8
  ·obtain⟨t1,t2⟩:=qz4 i aw;refine jt omQ (qX ?_);refine qQ (qZ H (b:=b1) .here (x:=lv) rfl ?_);refine qi omQ ?_;refine qR (l:=[.int .i64 8,.int .i64 0,.int .i64 7,.int .i64 (((6:Nat):Int)+(i:Int)),.int .u64 0]) rfl ?_;refine qR (l:=[.int .i64 3,.int .i64 1,.int .i64 1,.int .i64 0,.int .u64 0]) rfl ?_;refine qt (n:=2) (l:=[.int .i64 8,.int .i64 0,.int .i64 7,.int .i64 (((6:Nat):Int)+(i:Int)),.int .u64 0,.int .i64 3,.int .i64 1,.int .i64 1,.int .i64 0,.int .u64 0]) (sz:=5) H rfl rfl rfl rfl λv2 h4 H4=>?_;refine zw (H4.aM (P:=bX lv (dU.take (2*i))) e_2) (H4.sl .here) omQ omQ rfl λv3 h5 H5=>?_;refine qQ (qy H5 (b:=b1) e_2 (H5.one .here) (by simp) λh7 H7=>?_);refine qi omQ ?_;refine bQ (8-(i+1)) _ _ omQ ⟨i+1,v3,rfl,by omega,rfl,?_⟩;have e:bX v3 (dU.take (2*(i+1)))=qB 32 5 ((dU.take (2*i)).length+2) v3 ((dU.take (2*i)).flatMap xW++[.int .i64 8,.int .i64 0,.int .i64 7,.int .i64 (((6:Nat):Int)+(i:Int)),.int .u64 0,.int .i64 3,.int .i64 1,.int .i64 1,.int .i64 0,.int .u64 0]):=by
    unfold bX;rw[t1,List.length_append,List.flatMap_append];rfl
   rw[e];exact H7.sub (.cons .here (.cons .here (.drop (.cons .here .refl))))
  ·obtain rfl:i=8:=by omega
   refine jP omQ (qJ ?_);refine qQ (qZ H (b:=b1) .here (x:=lv) rfl ?_);refine qR (l:=[.int .i64 21,.int .i64 1,.int .i64 0,.int .i64 0,.int .u64 0]) rfl ?_;refine qt (n:=1) (l:=[.int .i64 21,.int .i64 1,.int .i64 0,.int .i64 0,.int .u64 0]) (sz:=5) H rfl rfl rfl rfl λv2 h4 H4=>?_;refine zw (H4.aM (P:=bX lv (dU.take (2*8))) e_2) (H4.sl .here) omQ od rfl λv3 h5 H5=>?_;have ov:=H5.one .here;refine qQ (qy H5 (b:=b1) e_2 ov (by simp) λh7 H7=>?_);have H7:HS g h7 (qw b1 [v3]::bX v3 dU::qw b0 [.ak]::R):=H7.sub (.cons .here (.cons .here (.drop (.cons .here .refl))));refine qF H7 (b:=b1) (off:=0) .here rfl omQ (l:=[v3]) rfl ?_;refine qm H7 (b:=b0) e_2 (x:=.agg [v3]) (by rfl) (by simp) (by simp[jY,AV.cells,ov.2]) λh8 H8=>?_;refine qx (qF H8 (b:=b0) (off:=0) .here (l:=[v3]) rfl omQ (by rfl) ?_);exact qW ⟨v3,dU,rfl,.inl rfl,qwE.1,qwE.2,H8.sub (.cons e_2 (.drop (.drop .refl)))⟩
 ·refine jH omQ (qX ?_);refine qR (l:=[.int .i64 8,.int .i64 0,.int .i64 7,.int .i64 (((6:Nat):Int)+(a:Int)),.int .u64 0]) rfl ?_;refine qR (l:=[.int .i64 1,.int .i64 1,.int .i64 0,.int .i64 0,.int .u64 v]) rfl ?_;refine qR (l:=[.int .i64 6,.int .i64 2,.int .i64 0,.int .i64 1,.int .u64 0]) rfl ?_;refine qR (l:=[.int .i64 13,.int .i64 2,.int .i64 0,.int .i64 5,.int .u64 0]) rfl ?_;refine qR (l:=[.int .i64 12,.int .i64 0,.int .i64 0,.int .i64 10,.int .u64 0]) rfl ?_;refine qR (l:=[.int .i64 4,.int .i64 0,.int .i64 0,.int .i64 1,.int .u64 0]) rfl ?_;refine qR (l:=[.int .i64 9,.int .i64 7,.int .i64 0,.int .i64 (((6:Nat):Int)+(a:Int)),.int .u64 0]) rfl ?_;refine qR (l:=[.int .i64 8,.int .i64 3,.int .i64 7,.int .i64 (((6:Nat):Int)+(b:Int)),.int .u64 0]) rfl ?_;refine qR (l:=[.int .i64 3,.int .i64 3,.int .i64 3,.int .i64 1,.int .u64 0]) rfl ?_;refine qR (l:=[.int .i64 9,.int .i64 7,.int .i64 3,.int .i64 (((6:Nat):Int)+(b:Int)),.int .u64 0]) rfl ?_;refine qt (n:=10) (l:=(wm (((6:Nat):Int)+(a:Int)) (((6:Nat):Int)+(b:Int)) v).flatMap xW) (sz:=5) H1 rfl rfl rfl rfl λv3 h4 H4=>?_;have ov:=H4.one .here;refine qR (l:=[v3]) (by simp only[vj,ov.1];rfl) ?_;refine qm H4 (b:=b0) e_1 (x:=.agg [v3]) (by rfl) (by simp) (by simp[jY,AV.cells,ov.2]) λh8 H8=>?_;refine qF H8 (b:=b0) (off:=0) .here (l:=[v3]) rfl omQ (by rfl) ?_;have OM:=qwd (a:=((6:Nat):Int)+(a:Int)) (b:=((6:Nat):Int)+(b:Int)) omQ omQ hv;exact qW ⟨v3,wm (((6:Nat):Int)+(a:Int)) (((6:Nat):Int)+(b:Int)) v,rfl,.inr ⟨((6:Nat):Int)+(a:Int),((6:Nat):Int)+(b:Int),v,by omega,by omega,by omega,rfl⟩,OM.1,OM.2,H8.sub (.cons e_1 (.drop .refl))⟩
theorem qw4 {n b:Nat} {T D N:Int} (hn:2≤n) (H:HS g h R):aE n 8 [.ptr b 0,.agg [.int .i64 T,.int .u8 D,.int .i64 N],.int .i64 ((14:Nat):Int)] h λr h'=>r=.int .i64 (yp N ((0:Nat):Int) ((14:Nat):Int))∧HS g h' R:=by
 refine qA (g:=(da S8)) rfl omQ λk hk=>?_;show wp (S8 (callT tab qz k) (.ptr b 0) _ _ _).1 _;unfold S8
 try simp only[iZ]
 refine qP H rfl λb0 h1 H1=>?_;refine qQ (qZ H1 (b:=b0) .here rfl ?_);refine qG (wF omQ omQ omQ omQ) ?_;rintro _ _ ⟨rfl,rfl⟩;exact qW ⟨rfl,H1.drop⟩
theorem jXE {n b:Nat} {T D N:Int} {m:yj} (hn:2≤n) (hm:1≤m.t.length∧m.t.length≤1000) (H:HS g h (bL b m::R)):aE n 10 [.ptr b 0,.agg [.int .i64 T,.int .u8 D,.int .i64 N]] h λr h'=>r=.int .i64 (yp T ((0:Nat):Int) ((m.t.length:Int)-1))∧HS g h' (bL b m::R):=by
 refine bj (S:=S10) rfl omQ λk hk=>?_;unfold S10;try simp only[iZ]
 refine qP H rfl λb0 h1 H1=>?_;refine qY ?_
 try dsimp only
 refine qQ (qZ H1 (b:=b0) .here rfl ?_);refine qG (Ni omQ H1.drop) ?_;rintro _ _ ⟨rfl,rfl⟩;refine xg (zu omQ ?_);rw[show max (m.t.length:Int) ((1:Nat):Int)-((1:Nat):Int)=(m.t.length:Int)-1 by omega];refine qG (wF omQ omQ omQ omQ) ?_;rintro _ _ ⟨rfl,rfl⟩;refine qh H1 .here rfl H1 .here rfl (HS.lt H1 .here) ?_;exact qW ⟨rfl,H1.drop⟩
end
section
def GU (S:jD) (K:List Cl) (g:Int→Int):List Int:=(List.range S.words.toNat).map λp:Nat=>match jO (p:Int) K with
 |some x=>x
 |none=>jR .u64 (g p)
section
variable {S:jD} {K:List Cl} {g:Int→Int}
theorem Uh {p x:Int}:∀{l:List Cl},jO p l=some x→(p,x)∈l:=by
 intro l
 induction l with
 |nil=>nofun
 |cons c r ih=>
  obtain⟨a,b⟩:=c;intro h;by_cases e:a=p
  all_goals simp_all[qWF,UJ]
theorem Nt {p:Int} (h0:0≤p) (h1:p<S.words):qC (GU S K g) p=match jO p K with |some x=>x |none=>jR .u64 (g p):=by obtain⟨i,rfl⟩:∃i:Nat,p=i:=⟨p.toNat,by omega⟩;simp_all[qC,GU,Int.toNat_natCast]
theorem Uq (hw:0≤S.words) (wd:∀c∈K,0≤c.2∧c.2<18446744073709551616) (at_:∀c∈K,1≤c.1∧c.1<S.words):wn S (GU S K g)∧tP K (GU S K g):=by
 refine⟨⟨?_,λz hz=>?_⟩,λp x hx=>?_⟩
 ·grind[GU,List.length_map,List.length_range]
 ·obtain⟨i,_,rfl⟩:=List.mem_map.1 hz
  split
  ·rename_i x hx;exact wd _ (Uh hx)
  simp[Z8]
 ·have h1:=at_ _ (Uh hx);dsimp only at h1;rw[Nt omQ h1.2,hx]
end
def pV (t:qe):Prop:=t.au=false∧t.al=[]∧t.ao=[]
def cU (total:Int) (i:Nat) (jobs:List (List qa)):Prop:=if i=0 then∃r,jobs=yz total::r∧∀l∈r,GP l else∀l∈jobs,GP l
structure Kt (jobs:List (List qa)) (P:Int) (r:xB):Prop where
  sw:r.au=false
  ap:GP (vY jobs r.ap)
  born:P<r.born
def Th (t:qe):Prop:=t.state=1→∀x,t.now=some x→x.begun=false
def uZ (t:qe):Prop:=∀q∈t.results,∃r∈t.af,r.au=false∧r.kind=q.kind∧r.dT=q.dT
structure u0 (t u:qe):Prop where
  s5:t.state≠5→u.state≠5
  ap:u.ap=t.ap
  cW:u.results=t.results
  nf:pV u
  af:u.af=t.af
  jobs:u.jobs=t.jobs
section
variable {S:jD} {t u:qe} {x y:qr} {a:cx} {d p total:Int} {i:Nat}
theorem td.b (h:td t):Th t:=λh1 x hx=>by
 rw[h h1 x hx]
 split<;>rfl
theorem Z7 (t:qe):(zJ t).state≠5:=by
 grind[zJ]
theorem vP (h:pV t):u0 t (zJ t):=by
 unfold zJ
 split
 ·exact⟨λ_=>by simp,rfl,rfl,h,rfl,rfl⟩
 ·exact⟨λ_=>by simp,rfl,rfl,h,rfl,rfl⟩
theorem qZ3 (h:pV t):u0 t (zo t d):=by
 unfold zo
 split
 ·have:=vP (t:={ t with bz:=0,state:=3 }) h;exact⟨λ_=>this.s5 (by simp),this.ap,this.cW,this.nf,this.af,this.jobs⟩
 ·exact⟨λ_=>by simp,rfl,rfl,h,rfl,rfl⟩
theorem Y6 (h:pV t):u0 t (qs t):=by
 unfold qs
 split
 ·split
  ·have:=vP (t:={ t with bz:=0 }) h;exact⟨this.s5,this.ap,this.cW,this.nf,this.af,this.jobs⟩
  ·exact⟨id,rfl,rfl,h,rfl,rfl⟩
 ·exact⟨id,rfl,rfl,h,rfl,rfl⟩
theorem qGo (h:pV t) {s v:Int}:u0 t (jN t s v):=by
 unfold jN
 split
 ·exact⟨id,rfl,rfl,h,rfl,rfl⟩
 ·split
  ·split
   ·exact vP h
   ·split<;>exact⟨id,rfl,rfl,h,rfl,rfl⟩
  ·exact⟨id,rfl,rfl,h,rfl,rfl⟩
theorem qJT (h:pV t) (hf:zk y=[]):((jK y=5∨jK y=3)∧u0 { t with af:=t.af++[jJ t y p] } (zv t y d p))∨
  (jK y≠5∧jK y≠3∧(zv t y d p).state≠5∧pV (zv t y d p)∧(zv t y d p).ap=t.ap+1∧(zv t y d p).af=t.af++[jJ t y p]∧(zv t y d p).jobs=t.jobs∧(zv t y d p).results=t.results++[⟨jK y,yJ y,zc y,y.aa⟩]):=by
 obtain⟨h1,h2,h3⟩:=h;unfold zv;dsimp only;by_cases e5:jK y=5
 ·rw[iJ e5];refine .inl ⟨.inl e5,?_⟩
  split
  ·exact⟨λ_=>by simp,rfl,rfl,⟨h1,h2,h3⟩,rfl,rfl⟩
  ·have:=qZ3 (t:={ t with af:=t.af++[jJ t y p],ah:=t.ah+1,aI:=t.aI+1 }) (d:=d) ⟨h1,h2,h3⟩;exact⟨this.s5,this.ap,this.cW,this.nf,this.af,this.jobs⟩
 ·rw[iQ e5];by_cases e3:jK y=3
  ·rw[iJ e3];refine .inl ⟨.inr e3,?_⟩
   split
   ·have:=vP (t:={ t with af:=t.af++[jJ t y p],ah:=t.ah+1 }) ⟨h1,h2,h3⟩;exact⟨this.s5,this.ap,this.cW,this.nf,this.af,this.jobs⟩
   ·exact⟨λ_=>by simp,rfl,rfl,⟨h1,h2,h3⟩,rfl,rfl⟩
  ·rw[iQ e3,iQ (by grind)];refine .inr ⟨e5,e3,?_⟩;have er:t.ao++(zk y).map (λb=>(b,y.aa))=[]:=by grind
   unfold wq;rw[iJ er];have:=vP (t:={ t with af:=t.af++[jJ t y p],ah:=0,results:=t.results++[⟨jK y,yJ y,zc y,y.aa⟩],ao:=t.ao++(zk y).map (λb=>(b,y.aa)),ap:=t.ap+1,au:=false,al:=[],aI:=0 }) ⟨rfl,rfl,er⟩;exact⟨Z7 _,this.nf,this.ap,this.af,this.jobs,this.cW⟩
theorem qZ0 (B:uY S) (J:Hl S t.jobs (jJ t y p)) (hs:t.au=false) (hj:GP (vY t.jobs t.ap)∨vY t.jobs t.ap=yz total) (h8:y.state=8) (I8:y.fin=2∨y.fin=3∨y.fin=4∨y.fin=5):zk y=[]∧(jK y=5∨jK y=2):=by
 have hfe:jK y=y.fin:=iQ (λh=>h h8);have hw:qM y=false:=by grind[qM]
 have hk:(jJ t y p).kind=jK y:=by show(if qM y=true then 2 else jK y)=_;grind
 obtain⟨H,A⟩:=Uq (g:=λ_=>0) (by have:=B.words;omega) J.wd J.at_;have out:(XA S (vY t.jobs t.ap) (GU S (jJ t y p).reads λ_=>0)).1=(2,0)∧vD (XA S (vY t.jobs t.ap) (GU S (jJ t y p).reads λ_=>0)).2.2.lv=[]:=by
  grind[Kr,US]
 have n3:jK y≠3:=λh=>by
  have:=J.blocked hs (hk.trans h) _ H A;rw[show(jJ t y p).ap=t.ap from rfl,out.1]at this;grind
 have n4:jK y≠4:=λh=>by
  have:=J.Hm hs (hk.trans h) _ H A;rw[show(jJ t y p).ap=t.ap from rfl,out.1]at this;grind
 by_cases e2:jK y=2
 ·have:=(J.done hs (hk.trans e2) _ H A).2.2.1;rw[show(jJ t y p).ap=t.ap from rfl,out.2]at this;exact⟨this.symm,.inr e2⟩
 simp_all[zk,zd,iV]
end
end
section
structure TJ (S:jD) (js:List (List qa)) (k:Nat) (t:qe) (M:zZ):Prop where
  set:t.set=S
  me:t.me=0
  jobs:t.jobs=js
  ap:t.ap=k
  au:t.au=false
  al:t.al=[]
  ao:t.ao=[]
  dz:t.dz=false
  now:(k=js.length∧t.state=6)∨(k<js.length∧t.state=1∧t.now=some (gL 0 S ((js[k]?).getD [])))
  cW:t.results.length=k
  calm:GL S M 0
  sl:M.s=[0]
  w0:M.w[0]? =some 0
  n:M.n≤S.start+2*k
end
section
inductive CD (d p:Nat→Int):Nat→Nat→qe→zZ→qe→zZ→Prop
  |nil {i:Nat} {t:qe} {M:zZ}:CD d p i 0 t M t M
  |cons {i m:Nat} {t u:qe} {M N:zZ} {o:dC} (hn:zO t=some o) (r:CD d p (i+1) m (ql t (qL M o).1 (d i) (p i)) (qL M o).2 u N):CD d p i (m+1) t M u N
variable {d p:Nat→Int}
theorem CD.trans {i m k:Nat} {t u v:qe} {M N P:zZ} (s:CD d p i m t M u N):CD d p (i+m) k u N v P→CD d p i (m+k) t M v P:=by
 induction s with
 |nil=>simp
 |cons hn r ih=>rename_i i m t u M N o;intro q;rw[show m+1+k=(m+k)+1 by omega];exact .cons hn (ih (by grind))
def eZ (l:List Int):Prop:=∀z∈l,z=0
theorem eZ.num {l:List Int} (h:eZ l) (i:Int):qC l i=0:=by
 unfold qC;cases hx:l[i.toNat]? with
 |none=>rfl
 |some z=>exact h z (List.mem_of_getElem? hx)
theorem eZ.set {l:List Int} (h:eZ l) {i:Nat}:eZ (l.set i 0):=λz hz=>by
 rcases List.mem_or_eq_of_mem_set hz with h1 |h1
 ·exact h z h1
 grind
theorem eZ.iM {l:List Int} (h:eZ l):eZ (l++[0]):=λz hz=>by
 rcases List.mem_append.1 hz with h1 |h1
 ·exact h z h1
 grind
structure TQ (S:jD) (js:List (List qa)) (me B:Int) (k:Nat) (t:qe) (M:zZ):Prop where
  set:t.set=S
  nr:t.me=me
  jobs:t.jobs=js
  ap:t.ap=k
  au:t.au=false
  al:t.al=[]
  ao:t.ao.length≤9000*k
  now:(k=js.length∧t.state=6∧t.now=none)∨(k<js.length∧t.state=1∧t.now=some (gL me S ((js[k]?).getD [])))
  cW:t.results.length=k
  calm:GL S M me
  sl:eZ M.s
  w0:M.w[0]? =some 0
  n:M.n≤B+2*k
end
section
variable {d p:Nat→Int}
structure FactQ (S:jD) (l:List qa) (w:List Int):Prop where
  wd:∀z∈w,0≤z∧z<18446744073709551616
  len:(w.length:Int)=S.words
  w0:w[0]? =some 0
  az:∀z∈jKs w (FT (FR l (kN S.fuel) w S.writes)),0≤z∧z<18446744073709551616
  fs:(FU (FR l (kN S.fuel) w S.writes)).length≤9000
def Ho (u:qe):Prop:=∀s v,jN u s v=u
structure MacQ (S:jD) (jss:List (List (List qa))) (t:Nat) (m:yj):Prop where
  s:m.s=S
  len:(m.t.length:Int)=S.ad
  af:∀(k:Nat) (u:qe),k<t→m.t[k]? =some u→u.state=6∧u.now=none
  tM:∀(k:Nat) (u:qe),t≤k→m.t[k]? =some u→u=gr k S ((jss[k]?).getD [])
  calm:∀k:Nat,(k:Int)<S.ad→GL S m.m k
  sl:eZ m.m.s
  w0:m.m.w[0]? =some 0
  n:m.m.n≤S.start+4*t
theorem qq1 {S:jD} {k:Int} {js:List (List qa)}:Ho (gr k S js):=λs v=>by
 have hk:∀t:qe,t.au=false→Ho (zJ t):=λt ht s v=>by
  grind[zJ,jN,gL,K4,gO]
 exact hk _ rfl s v
end
section
variable {S:jD} {w0:List Int} {G:gS} {t u v:qe} {x y:qr} {d p P total:Int} {i k:Nat} {m:yj} {o:dC} {r0:xB}
structure UI (i:Nat) (P:Int) (t:qe):Prop where
  nf:pV t
  s5:t.state≠5
  ap:i=0→1≤t.ap
  live:t.state=1→∀x,t.now=some x→x.begun=true→P<t.born
  cW:uZ t
structure DB (t:qe):Prop where
  nf:pV t
  s5:t.state≠5
  ap:t.ap=0
  cW:t.results=[]
  af:∀r∈t.af,r.kind≠2
theorem uZ.kp (h:uZ t) (K:u0 t u):uZ u:=λq hq=>by
 rw[K.af];exact h q (K.cW▸hq)
theorem UI.kp (T:UI i P t) (K:u0 t u) (hf:Th u):UI i P u :=
 ⟨K.nf,K.s5 T.s5,λh=>by rw[K.ap];exact T.ap h,λh1 x hx hb=>(by rw[hf h1 x hx]at hb;grind),T.cW.kp K⟩
theorem DB.kp (T:DB t) (K:u0 t u):DB u :=
 ⟨K.nf,K.s5 T.s5,K.ap.trans T.ap,K.cW.trans T.cW,λr hr=>T.af r (K.af▸hr)⟩
theorem O7 {a:cx} (h:pV t) (h1:t.state≠1) (h5:t.state≠5):u0 t (ql t a d p)∧Th (ql t a d p):=by
 unfold ql;rw[iQ h1]
 split
 ·split
  ·exact⟨⟨id,rfl,rfl,h,rfl,rfl⟩,(Q6 h1).b⟩
  ·exact⟨qZ3 h,mD.b⟩
 ·exact⟨⟨id,rfl,rfl,h,rfl,rfl⟩,(Q6 h1).b⟩
theorem jX6 (hj:0≤t.ap∧t.ap<t.jobs.length):vY t.jobs t.ap∈t.jobs:=by
 simp_all[vY,List.getElem_mem]
theorem cU.later (JB:cU total i t.jobs) (hj:0≤t.ap∧t.ap<t.jobs.length) (h1:i=0→1≤t.ap):GP (vY t.jobs t.ap):=by
 unfold cU at JB;by_cases h:i=0
 ·rw[iJ h]at JB;obtain⟨r,e,hr⟩:=JB;have h1:=h1 h;obtain⟨k,hk⟩:∃k:Nat,t.ap=(k:Int)+1:=⟨(t.ap-1).toNat,by omega⟩;simp_all[List.length_cons,vY,List.getElem_mem]
 simp_all[jX6]
theorem cU.first (JB:cU total 0 t.jobs) (h:t.ap=0):vY t.jobs t.ap=yz total:=by obtain⟨r,e,_⟩:=(show∃r,t.jobs=yz total::r∧∀l∈r,GP l from JB);rw[e,h];rfl
section
variable (B:uY m.s) (K:kC m) (mh:m.m.n<4611686018427387903) (Z:X6 w0 m G) (J:X5 m.s t) (ht:m.t[i]? =some t)
include B K mh Z J ht
theorem qj1 (T:UI i P t) (JB:cU total i t.jobs) (hn:zO t=some o) (hP:P<p) :
  UI i P (ql t (qL m.m o).1 d p)∧((ql t (qL m.m o).1 d p).af=t.af∨∃r,(ql t (qL m.m o).1 d p).af=t.af++[r]∧Kt t.jobs P r)∧(t.results≠[]→(ql t (qL m.m o).1 d p).results≠[]):=by
 by_cases h1:t.state=1
 ·obtain⟨x,hx,JS,JU,OA,hw,bg,et⟩:=Td K mh Z J ht hn h1;obtain⟨O,W,L⟩:=K.t i t ht;have C:=O.c omQ;have lz:0≤t.ap∧t.ap<t.jobs.length:=⟨C.ap.1,C.lt⟩;rw[et d p];generalize qS x (qL m.m o).1=y at*;unfold xz;dsimp only;generalize hb:(if y.begun=true∧x.begun=false then p else t.born)=b;have Ak:y.begun=true→P<b:=λhy=>by
   rw[← hb];cases s9:x.begun with
   |true=>rw[iQ (λh=>by grind)];exact T.live h1 x hx s9
   |false=>grind
  by_cases he:jK y=0
  ·rw[iJ he];refine⟨⟨T.nf,T.s5,T.ap,λ_ z hz hy=>?_,T.cW⟩,.inl rfl,id⟩;grind
  ·rw[iQ he];have h8:y.state=8:=by
    unfold jK at he
    grind
   have Cs:qM y=false:=by grind[qM]
   have RJ:=La (t:={ t with now:=some y,born:=b }) JS OA hw p;have hmj:=JB.later lz T.ap;obtain⟨ef,ee⟩:=qZ0 (t:={ t with now:=some y,born:=b }) (total:=total) B RJ T.nf.1 (.inl hmj) h8 (JS.ff omQ);have late:Kt t.jobs P (jJ { t with now:=some y,born:=b } y p):=⟨T.nf.1,hmj,Ak (bg.2 omQ)⟩;have fb:=(Tc (t:={ t with now:=some y,born:=b }) (x:=y) (d:=d) (p:=p)).b;have key:=qJT (t:={ t with now:=some y,born:=b }) (y:=y) (d:=d) (p:=p) T.nf ef;generalize zv { t with now:=some y,born:=b } y d p=u at*;rcases key with⟨_,KP⟩ |⟨n5,n3,s5,nf,ej,ep,ejs,er⟩
   ·refine⟨⟨KP.nf,KP.s5 T.s5,λh=>by rw[KP.ap];exact T.ap h,λh1 x hx hb=>(by rw[fb h1 x hx]at hb;grind),λq hq=>?_⟩,.inr ⟨_,KP.af,late⟩,λh=>by rw[KP.cW];grind⟩;obtain⟨r,hr,e⟩:=T.cW q (by rw[KP.cW]at hq;grind);exact⟨r,by rw[KP.af];grind,e⟩
   ·refine⟨⟨nf,s5,λh=>by grind,λh1 x hx hb=>(by rw[fb h1 x hx]at hb;grind),λq hq=>?_⟩,.inr ⟨_,ep,late⟩,λ_=>by simp_all⟩;rw[ep];rw[er]at hq;rcases List.mem_append.1 hq with hq |hq
    ·obtain⟨r,hr,e⟩:=T.cW q hq;grind
    ·rw[List.mem_singleton.1 hq];refine⟨_,List.mem_append_right _ (List.mem_singleton.2 rfl),T.nf.1,?_,rfl⟩;show(if qM y=true then 2 else jK y)=jK y;grind
 ·obtain⟨KP,fb⟩:=O7 (a:=(qL m.m o).1) (d:=d) (p:=p) T.nf h1 T.s5;exact⟨T.kp KP fb,.inl KP.af,λh=>by rw[KP.cW];grind⟩
theorem qjL (_:i=0) (T:DB t) (JB:cU total 0 t.jobs) (hn:zO t=some o) :
  DB (ql t (qL m.m o).1 d p)∨∃r,(ql t (qL m.m o).1 d p).af=t.af++[r]∧r.kind=2∧r.au=false∧r.ap=0∧r.ended=p∧UI 0 p (ql t (qL m.m o).1 d p)∧(ql t (qL m.m o).1 d p).results≠[]:=by
 by_cases h1:t.state=1
 ·obtain⟨x,hx,JS,JU,OA,hw,bg,et⟩:=Td K mh Z J ht hn h1;rw[et d p];generalize qS x (qL m.m o).1=y at*;unfold xz;dsimp only;generalize hb:(if y.begun=true∧x.begun=false then p else t.born)=b;by_cases he:jK y=0
  ·rw[iJ he];exact .inl ⟨T.nf,T.s5,T.ap,T.cW,T.af⟩
  ·rw[iQ he];have h8:y.state=8:=by
    unfold jK at he
    grind
   have Cs:qM y=false:=by grind[qM]
   have hk:(jJ { t with now:=some y,born:=b } y p).kind=jK y:=by show(if qM y=true then 2 else jK y)=jK y;grind
   have RJ:=La (t:={ t with now:=some y,born:=b }) JS OA hw p;obtain⟨ef,ee⟩:=qZ0 (t:={ t with now:=some y,born:=b }) (total:=total) B RJ T.nf.1 (.inr (JB.first T.ap)) h8 (JS.ff omQ);have fb:=(Tc (t:={ t with now:=some y,born:=b }) (x:=y) (d:=d) (p:=p)).b;have key:=qJT (t:={ t with now:=some y,born:=b }) (y:=y) (d:=d) (p:=p) T.nf ef;generalize zv { t with now:=some y,born:=b } y d p=u at*;rcases key with⟨e53,KP⟩ |⟨n5,n3,s5,nf,ej,ep,ejs,er⟩
   ·refine .inl ⟨KP.nf,KP.s5 T.s5,KP.ap.trans T.ap,KP.cW.trans T.cW,λr hr=>?_⟩;rw[KP.af]at hr;rcases List.mem_append.1 hr with hr |hr
    ·exact T.af r hr
    grind
   ·refine .inr ⟨_,ep,by grind,T.nf.1,T.ap,rfl,⟨nf,s5,λ_=>by rw[ej];show 1≤t.ap+1;have:=T.ap;omega,λh1 x hx hb=>(by rw[fb h1 x hx]at hb;grind),λq hq=>?_⟩,by simp_all⟩;rw[er]at hq;have hq:q∈t.results++[⟨jK y,yJ y,zc y,y.aa⟩]:=hq;rw[T.cW,List.nil_append]at hq;rw[List.mem_singleton.1 hq,ep];exact⟨_,List.mem_append_right _ (List.mem_singleton.2 rfl),T.nf.1,hk,rfl⟩
 ·obtain⟨KP,fb⟩:=O7 (a:=(qL m.m o).1) (d:=d) (p:=p) T.nf h1 T.s5;exact .inl (T.kp KP)
end
theorem qXa (T:UI i P t):UI i P (qs t):=by
 by_cases h3:t.state=3
 ·exact T.kp (Y6 T.nf) (qJu omQ).b
 simp_all[qs]
theorem qjh {s v:Int} (T:UI i P t):UI i P (jN t s v):=by
 unfold jN
 split
 ·grind
 ·split
  ·split
   ·exact T.kp (vP T.nf) cT.b
   ·split
    ·exact⟨T.nf,T.s5,T.ap,T.live,T.cW⟩
    grind
  grind
structure Lc (m:yj):Prop where
  t0:∃t,m.t[0]? =some t∧DB t
  DC:∀(i:Nat) (t:qe),i≠0→m.t[i]? =some t→∃js,t=gr i m.s js
structure lW (m:yj) (r0:xB):Prop where
  kind:r0.kind=2
  sw:r0.au=false
  ap:r0.ap=0
  e0:0<r0.ended
  e1:r0.ended≤m.aA
  t0:∃t A C,m.t[0]? =some t∧t.results≠[]∧t.af=A++r0::C∧(∀r∈A,r.kind≠2)∧∀r∈C,Kt t.jobs r0.ended r
  oC:∀(i:Nat) (t:qe),m.t[i]? =some t→UI i r0.ended t∧(i≠0→∀r∈t.af,Kt t.jobs r0.ended r)
def u4 (total:Int) (m:yj):Prop:=∀(i:Nat) (t:qe),m.t[i]? =some t→cU total i t.jobs
theorem qqb (hv:(jn m i d).t[k]? =some v):∃t,m.t[k]? =some t∧v.jobs=t.jobs:=by
 obtain⟨t,ht,h⟩:=GQ hv;refine⟨t,ht,?_⟩;rcases h with⟨_,rfl |⟨a,b,rfl⟩⟩ |⟨_,⟨_,rfl⟩ |⟨o,_,rfl⟩⟩
 all_goals simp[Tb,UC,SZ]
theorem qYe (A:u4 total m):u4 total (jn m i d):=λk v hv=>by
 obtain⟨t,ht,e⟩:=qqb hv;rw[e];exact A k t ht
theorem qYm {js:List (List qa)} (h:i≠0):UI i P (gr i S js)∧(gr i S js).af=[]:=by have e:(gr i S js).af=[]:=(yM _).af;have r:(gr i S js).results=[]:=(xZ _).cW;have kp:∀t:qe,pV t→pV (zJ t):=λt h=>(vP h).nf;exact⟨⟨kp _ ⟨rfl,rfl,rfl⟩,Z7 _,λh'=>absurd h' h,λh1 x hx hb=>(by rw[cT.b h1 x hx]at hb;grind),λq hq=>(by grind)⟩,e⟩
theorem V7 (A:Xw w0 m G) (hi:i<m.t.length) (hd:0≤d):(jn m i d).t.length=m.t.length:=by obtain⟨K',hS,_⟩:=QB A.k hi hd;have h1:=A.k.len;have h2:=K'.len;grind
theorem qxi (B:uY m.s) (mh:m.m.n<4611686018427387903) (A:Xw w0 m G) (J:mE m) (AB:u4 total m) (H:Lc m) (hd:0≤d):Lc (jn m 0 d)∨∃r0,lW (jn m 0 d) r0:=by
 obtain⟨t,ht,T⟩:=H.t0;have h0:0<m.t.length:=(List.getElem?_eq_some_iff.1 ht).1;obtain⟨K',hS,Ch,_⟩:=QB A.k h0 hd;have hl:=V7 A h0 hd;have DC:∀(i:Nat) (v:qe),i≠0→(jn m 0 d).t[i]? =some v→∃js,v=gr i m.s js:=λi v hi hv=>by
  obtain⟨t',mf,h⟩:=GQ hv;obtain⟨js,e⟩:=H.DC i t' hi mf;subst e;rcases h with⟨_,rfl |⟨a,b,rfl⟩⟩ |⟨h,_⟩
  ·grind
  ·exact⟨js,qq1 a b⟩
  grind
 obtain⟨v,hv⟩:∃v,(jn m 0 d).t[0]? =some v:=⟨(jn m 0 d).t[0]'omQ,iW omQ⟩;obtain⟨t',mf,h⟩:=GQ hv;rw[ht]at mf;have mf:=Option.some.inj mf;subst mf;rcases h with⟨h,_⟩ |⟨_,⟨_,rfl⟩ |⟨o,hn,rfl⟩⟩
 ·grind
 ·exact .inl ⟨⟨_,hv,T.kp (Y6 T.nf)⟩,λi v hi hv=>by grind⟩
 ·rcases qjL (d:=d) (p:=m.aA+1) B A.k mh A.z (J 0 t ht) ht rfl T (AB 0 t ht) hn with T' |⟨r,e1,e2,e3,e4,e5,T2,e6⟩
  ·exact .inl ⟨⟨_,hv,T'⟩,λi v hi hv=>by grind⟩
  ·have Ld:=A.p;refine .inr ⟨r,e2,e3,e4,by omega,by omega,⟨_,t.af,[],hv,e6,e1,T.af,λr hr=>(by grind)⟩,λi v' Bo=>?_⟩;by_cases hi:i=0
   ·grind
   grind[qYm]
theorem qzf (B:uY m.s) (mh:m.m.n<4611686018427387903) (A:Xw w0 m G) (J:mE m) (AB:u4 total m) (H:lW m r0) (hi:i<m.t.length) (hd:0≤d):lW (jn m i d) r0:=by
 obtain⟨K',hS,Ch,_⟩:=QB A.k hi hd;have hl:=V7 A hi hd;have he:=H.e1;have any:∀(k:Nat) (v:qe),(jn m i d).t[k]? =some v→∃t,m.t[k]? =some t∧v.jobs=t.jobs∧UI k r0.ended v∧(v.af=t.af∨∃r,v.af=t.af++[r]∧Kt t.jobs r0.ended r)∧(t.results≠[]→v.results≠[]):=λk v hv=>by
  obtain⟨t,ht,h⟩:=GQ hv;obtain⟨T,_⟩:=H.oC k t ht;refine⟨t,ht,?_⟩;rcases h with⟨_,rfl |⟨a,b,rfl⟩⟩ |⟨rfl,⟨_,rfl⟩ |⟨o,hn,rfl⟩⟩
  ·grind
  ·exact⟨Tb _ _ _,qjh T,.inl (qGo T.nf).af,λh=>by rw[(qGo T.nf).cW];grind⟩
  ·exact⟨UC _,qXa T,.inl (Y6 T.nf).af,λh=>by rw[(Y6 T.nf).cW];grind⟩
  ·obtain⟨q1,q2,q3⟩:=qj1 (d:=d) (p:=m.aA+1) B A.k mh A.z (J k t ht) ht T (AB k t ht) hn omQ;grind[SZ]
 refine⟨H.kind,H.sw,H.ap,H.e0,by omega,?_,λk v hv=>?_⟩
 ·obtain⟨t,A',C,ht,hr,hp,hA,hC⟩:=H.t0;have h0:0<m.t.length:=(List.getElem?_eq_some_iff.1 ht).1;obtain⟨v,hv⟩:∃v,(jn m i d).t[0]? =some v:=⟨(jn m i d).t[0]'omQ,iW omQ⟩;obtain⟨t',mf,e,T2,nN,o9⟩:=any 0 v hv;rw[ht]at mf;have mf:=Option.some.inj mf;subst mf;rcases nN with nN |⟨r,nN,late⟩
  ·grind
  ·refine⟨v,A',C++[r],hv,o9 hr,by grind,hA,λq hq=>?_⟩;grind
 ·obtain⟨t,ht,e,T2,nN,_⟩:=any k v hv;refine⟨T2,λhk r hr=>?_⟩;rw[e];have cI:=(H.oC k t ht).2 hk;grind
end
section
variable {w0:List Int} {G:gS} {t:qe} {total:Int} {i k:Nat} {m:yj} {r r0:xB}
theorem cA.refl (a:Int):cA a a:=⟨0,by omega⟩
theorem cA.trans {a b c:Int} (h1:cA a b) (h2:cA b c):cA a c:=by obtain⟨p,e1⟩:=h1;obtain⟨q,e2⟩:=h2;exact⟨p+q,by omega⟩
theorem cA.eq {a b:Int} (h:cA a b) (ha:0≤a∧a<18446744073709551616) (hb:0≤b∧b<18446744073709551616):a=b:=by obtain⟨q,e⟩:=h;omega
theorem qYt {f g:Int→Int} (h:∀p,6≤p→p≤13→cA (f p) (g p)):cA (kH f) (kH g):=by obtain⟨a0,e0⟩:=h 6 od od;obtain⟨a1,e1⟩:=h 7 od od;obtain⟨a2,e2⟩:=h 8 od od;obtain⟨a3,e3⟩:=h 9 od od;obtain⟨a4,e4⟩:=h 10 od od;obtain⟨a5,e5⟩:=h 11 od od;obtain⟨a6,e6⟩:=h 12 od od;obtain⟨a7,e7⟩:=h 13 od od;exact⟨a0+a1+a2+a3+a4+a5+a6+a7,by grind[kH]⟩
theorem qZ9 {h:Int→Int} {a b n x y:Int} (ha:6≤a∧a≤13) (hb:6≤b∧b≤13) (nu:a≠b) (hx:cA x (h a)) (hy:cA y (h b)):cA (kH (ga h [(a,jR .u64 (x-n)),(b,jR .u64 (y+n))])) (kH h):=by obtain⟨p1,f1⟩:=hx;obtain⟨p2,f2⟩:=hy;obtain⟨q1,e1⟩:=Z9 (x-n);obtain⟨q2,e2⟩:=Z9 (y+n);refine⟨q1+q2+p1+p2,?_⟩;rw[e1,e2,YB (by rw[UJ (Ne.symm nu)];rfl),Mf ha,YB rfl,Mf hb,XT];grind
theorem ON {S:jD} {E:Env} {T:Int} {K:List Cl} (hw:32≤S.words) (R:RT S w0 E T K) (hk:(T-S.start).toNat=k) {p:Int} (h1:6≤p) (h2:p≤13):cA (qC (GU S K (hv E.G w0 k)) p) (hv E.G w0 k p):=by
 rw[Nt omQ omQ];cases hx:jO p K with
 |none=>exact(cA.refl _).wrap
 |some x=>have:=(R _ (Uh hx)).1;grind[hv,cA.refl]
theorem qzE (K:kC m) (AB:u4 total m) (H:lW m r0) (ht:m.t[i]? =some t) (hr:r∈qH t):(r∈t.af)∨Kt t.jobs r0.ended r:=by
 rcases List.mem_append.1 hr with hr |hr
 ·grind
 ·cases hx:t.now with
  |none=>grind
  |some x=>
   rw[hx]at hr;dsimp only at hr;by_cases hb:t.state=1∧x.begun=true
   ·rw[iJ hb]at hr;rw[List.mem_singleton.1 hr];obtain⟨T,_⟩:=H.oC i t ht;have C:=(K.t i t ht).1.c omQ;exact .inr ⟨T.nf.1,(AB i t ht).later ⟨C.ap.1,C.lt⟩ T.ap,T.live hb.1 x hx hb.2⟩
   grind
theorem qGi (K:kC m) (AB:u4 total m) (H:lW m r0) (ht:m.t[i]? =some t) (hr:r∈qH t) (k2:r.kind=2):r=r0∧i=0∨Kt t.jobs r0.ended r:=by
 rcases qzE K AB H ht hr with hp |h
 ·by_cases hi:i=0
  ·subst hi;obtain⟨t',A,C,mf,_,e,hA,hC⟩:=H.t0;grind
  ·exact .inr ((H.oC i t ht).2 hi r hp)
 grind
theorem qG3 (ht:m.t[i]? =some t) (hr:r∈qH t):r∈gj m:=List.mem_flatMap.2 ⟨t,List.mem_of_getElem? ht,hr⟩
theorem Mm (A:Xw w0 m G) (H:lW m r0) (ht:m.t[i]? =some t) (hr:r∈qH t) (L:Kt t.jobs r0.ended r):r0.aa≤r.aa:=by obtain⟨t',A',C,mf,_,e,_,_⟩:=H.t0;have h0:r0∈qH t':=List.mem_append_left _ (by grind);have:=A.keeps (qG3 mf h0) (qG3 ht hr) H.e0 L.born;rcases this with h |⟨h,_⟩<;>omega
section
variable (B:uY m.s) (A:Xw w0 m G) (J:mE m) (AB:u4 total m) (H:lW m r0)
include B A J AB H
theorem qKC:∃k0:Nat,1≤k0∧r0.aa=m.s.start+(k0:Int)∧G k0=[(9,total)]∧r0.dT=[]:=by
 obtain⟨t,A',C,ht,_,e,_,_⟩:=H.t0;have hr:r0∈qH t:=List.mem_append_left _ (by grind);have R:=A.z.lG A.k ht hr;have RJ:=J.lG A.k A.z ht hr;have hj:vY t.jobs r0.ap=yz total:=by obtain⟨q,e,_⟩:=(show∃q,t.jobs=yz total::q∧∀l∈q,GP l from AB 0 t ht);rw[e,H.ap];rfl
 obtain⟨HH,HA⟩:=Uq (g:=λ_=>0) (by have:=B.words;omega) RJ.wd RJ.at_;obtain⟨_,q2,_,q4⟩:=RJ.done H.sw H.kind _ HH HA;rw[hj]at q2 q4;obtain⟨_,_,o3,o4⟩:=US (v:=total) B HH;rw[o3]at q2;rw[o4]at q4;obtain⟨_,y2,y3⟩:=R.yes ⟨H.kind,by grind⟩;refine⟨(r0.aa-m.s.start).toNat,by omega,by omega,?_,q4.symm⟩;exact y3.trans q2.symm
theorem Mq (hw:∀p:Int,6≤p→p≤13→qC w0 p=0):∃k0:Nat,1≤k0∧r0.aa=m.s.start+(k0:Int)∧r0.dT=[]∧∀k,k0≤k→cA (kH (hv G w0 k)) total:=by
 obtain⟨k0,h1,hs,hG,nO⟩:=qKC B A J AB H;have mA:=B.words;have la:∀k,G k≠[]→k=k0∨(k0<k∧∃(i:Nat) (t:qe) (r:xB),m.t[i]? =some t∧r∈qH t∧Kt t.jobs r0.ended r∧jT r∧r.cells=G k∧r.aa=m.s.start+k):=λk hk=>by
  obtain⟨i,t,r,ht,hr,lK,hc,bZ⟩:=A.z.src k hk;rcases qGi A.k AB H ht hr lK.1 with⟨rfl,_⟩ |L
  ·omega
  ·have:=Mm A H ht hr L;grind
 refine⟨k0,h1,hs,nO,λk hk=>?_⟩
 induction k with
 |zero=>omega
 |succ k ih=>
  by_cases e:k+1=k0
  ·have z:∀p:Int,6≤p→p≤13→hv G w0 k p=0:=λp p1 p2=>by
    have:=qWT (G:=G) (w0:=w0) (p:=p) k 0 (λj j0 j1=>by
     by_cases hj:G j=[]
     ·rw[hj];rfl
     grind)
    rw[Nat.zero_add]at this;rw[this];exact hw p p1 p2
   have es:kH (hv G w0 (k+1))=kH (ga (hv G w0 k) [(9,total)]):=by rw[← hG,← e];rfl
   rw[es,qGB (z 9 od od)];have z0:kH (hv G w0 k)=0:=by unfold kH;grind
   simp_all[Int.zero_add,cA.refl]
  ·have ih:=ih omQ;have es:kH (hv G w0 (k+1))=kH (ga (hv G w0 k) (G (k+1))):=rfl;rw[es];by_cases hg:G (k+1)=[]
   ·grind[XT]
   ·rcases la (k+1) hg with h |⟨_,i,t,r,ht,hr,L,lK,hc,bZ⟩
    ·grind
    ·have R:=A.z.lG A.k ht hr;have RJ:=J.lG A.k A.z ht hr;obtain⟨HH,HA⟩:=Uq (g:=hv G w0 k) omQ RJ.wd RJ.at_;obtain⟨_,q2,_,q4⟩:=RJ.done L.sw lK.1 _ HH HA;obtain⟨_,_,MO⟩:=Kr B HH L.ap;rw[q2,q4,hc]at MO;obtain⟨rt,_,_⟩:=R.yes lK;have u5:∀p:Int,6≤p→p≤13→cA (qC (GU m.s r.reads (hv G w0 k)) p) (hv G w0 k p):=λp p1 p2=>ON (E:=xO m G) mA.1 rt omQ p1 p2;cases MO with
     |no c _=>grind
     |sum T c _ _ _=>grind
     |te a b n ha hb nu c _=>rw[c];exact(qZ9 ha hb nu (u5 a ha.1 ha.2) (u5 b hb.1 hb.2)).trans ih
theorem qqH (hw:∀p:Int,6≤p→p≤13→qC w0 p=0) (ry:0≤total∧total<18446744073709551616) (ht:m.t[i]? =some t) {q:VV} (hq:q∈t.results) (k2:q.kind=2):q.dT=[]∨q.dT=Nm [(1,total)]:=by
 obtain⟨k0,_,hs,nO,hk⟩:=Mq B A J AB H hw;have mA:=B.words;obtain⟨T2,_⟩:=H.oC i t ht;obtain⟨r,hr,sw,kr,sr⟩:=T2.cW q hq;have o9:r∈qH t:=List.mem_append_left _ hr;rw[← sr];rcases qGi A.k AB H ht o9 (kr.trans k2)with⟨rfl,_⟩ |L
 ·grind
 ·have R:=A.z.lG A.k ht o9;have RJ:=J.lG A.k A.z ht o9;have bZ:=Mm A H ht o9 L;obtain⟨HH,HA⟩:=Uq (g:=hv G w0 (r.aa-m.s.start).toNat) omQ RJ.wd RJ.at_;obtain⟨_,q2,_,q4⟩:=RJ.done L.sw (kr.trans k2) _ HH HA;obtain⟨_,_,MO⟩:=Kr B HH L.ap;rw[q2,q4]at MO;cases MO with
  |no _ s=>grind
  |te _ _ _ _ _ _ _ s=>grind
  |sum T c s tm tb=>refine .inr ?_;have rt:=R.no λh=>h.2 c;have u5:cA (kH (qC (GU m.s r.reads (hv G w0 (r.aa-m.s.start).toNat)))) (kH (hv G w0 (r.aa-m.s.start).toNat)):=qYt λp p1 p2=>ON (E:=xO m G) mA.1 rt rfl p1 p2;have:=((tm.trans u5).trans (hk _ omQ)).eq tb ry;grind
theorem qZh (hw:∀p:Int,6≤p→p≤13→qC w0 p=0) (hq:wx m=false):cA (kH (qC m.m.w)) total:=by
 obtain⟨k0,_,hs,_,hk⟩:=Mq B A J AB H hw;have mA:=B.words;obtain⟨t,A',C,ht,_,e,_,_⟩:=H.t0;have hr:r0∈qH t:=List.mem_append_left _ (by grind);have R:=A.z.lG A.k ht hr;have hle:r0.aa≤m.m.n:=R.t.2;have z:kH (qC m.m.w)=kH (hv G w0 (m.m.n-m.s.start).toNat):=by have g:∀p:Int,6≤p→p≤13→qC m.m.w p=hv G w0 (m.m.n-m.s.start).toNat p:=λp p1 p2=>A.z.quiet hq omQ omQ;simp_all[kH,od]
 grind
end
theorem qyr {s:jD} {jobs:List (List (List qa))} {j0:List (List qa)} (hs:0≤s.start) (h0:jobs[0]? =some j0) (_:j0≠[]):Lc (xP s jobs):=by
 have so:xM (jk { s with ad:=((jobs.take 4).length:Int) }):=yr hs;have q3:=so.ad;have tat:∀(i:Nat) (t:qe),(xP s jobs).t[i]? =some t→∃js,t=gr i (xP s jobs).s js:=λi t ht=>by
  have ht:((List.range (xP s jobs).s.ad.toNat).map λi:Nat=>gr i (xP s jobs).s (((jobs.take 4)[i]?).getD []))[i]? =some t:=ht;grind
 refine⟨?_,λi t _ ht=>tat i t ht⟩;have hi:0<(xP s jobs).s.ad.toNat:=by show 0<(jk { s with ad:=((jobs.take 4).length:Int) }).ad.toNat;omega
 have e:(xP s jobs).t[0]? =some (gr ((0:Nat):Int) (xP s jobs).s j0):=by show((List.range (xP s jobs).s.ad.toNat).map λi:Nat=>gr i (xP s jobs).s (((jobs.take 4)[i]?).getD []))[0]? =_;grind
 refine⟨_,e,?_⟩;have kp:pV (gr ((0:Nat):Int) (xP s jobs).s j0):=(vP ⟨rfl,rfl,rfl⟩).nf;have kj:(gr ((0:Nat):Int) (xP s jobs).s j0).ap=0:=(vP ⟨rfl,rfl,rfl⟩).ap;have kr:(gr ((0:Nat):Int) (xP s jobs).s j0).results=[]:=(vP ⟨rfl,rfl,rfl⟩).cW;have kq:(gr ((0:Nat):Int) (xP s jobs).s j0).af=[]:=(vP ⟨rfl,rfl,rfl⟩).af;exact⟨kp,Z7 _,kj,kr,λr hr=>by grind⟩
theorem qvS {s:jD} {jobs:List (List (List qa))} (hj:∀(i:Nat) (js:List (List qa)),jobs[i]? =some js→js.length≤6∧cU total i js) (h0:∃js,jobs[0]? =some js):u4 total (xP s jobs):=λi t ht=>by
 have ht:((List.range (xP s jobs).s.ad.toNat).map λi:Nat=>gr i (xP s jobs).s (((jobs.take 4)[i]?).getD []))[i]? =some t:=ht;rw[List.getElem?_map]at ht;by_cases hi:i<(xP s jobs).s.ad.toNat
 ·rw[List.getElem?_range hi]at ht;have ht:=Option.some.inj ht;subst ht;have e:∀js:List (List qa),(gr (i:Int) (xP s jobs).s js).jobs=js.take 6:=λjs=>wu _;rw[e];cases hx:(jobs.take 4)[i]? with
  |none=>
   show cU total i ([]:List (List qa));unfold cU;grind
  |some js=>
   rw[List.getElem?_take]at hx
   grind[cU,List.take_of_length_le]
 grind
end
section
variable {w0:List Int} {total:Int} {m:yj} {G:gS} {t:qe} {i:Nat} {d:Int} {r0:xB}
structure XH (w0:List Int) (total:Int) (m:yj) (G:gS):Prop where
  a:Xw w0 m G
  j:mE m
  ab:u4 total m
  b:uY m.s
  o:Zj m
  ph:Lc m∨∃r0,lW m r0
  n:m.m.n≤1000+m.aA
  th:m.t.length=3
theorem XH.Hp (I:XH w0 total m G) (ht:m.t[0]? =some t) (h:t.results≠[]):∃r0,lW m r0:=by
 rcases I.ph with P |P
 ·obtain⟨u,e,H⟩:=P.t0;rw[ht]at e;cases e;exact absurd H.cW h
 grind
theorem XH.pick (I:XH w0 total m G) (hi:i<m.t.length) (hd:0≤d) (hp:m.aA≤100000) (h0:(∃r0,lW m r0)∨i=0) :
  ∃G',XH w0 total (jn m i d) G'∧(jn m i d).aA=m.aA+1∧((∃r0,lW m r0)→∃r0,lW (jn m i d) r0):=by
 obtain⟨G',A'⟩:=qvA I.a hi hd;obtain⟨K',hs,Ld,nL,mh⟩:=QB I.a.k hi hd;have hn:=I.n;have CE:m.m.n<4611686018427387903:=by omega
 have two:(∃r0,lW m r0)→∃r0,lW (jn m i d) r0:=λ⟨r0,H⟩=>⟨r0,qzf I.b CE I.a I.j I.ab H hi hd⟩;refine⟨G',⟨A',qYr I.a.k CE I.a.z I.j hi hd,qYe I.ab,by rw[hs];exact I.b,(qVa I.o hi hd).1,?_,by omega,(V7 I.a hi hd).trans I.th⟩,Ld,two⟩;rcases I.ph with P |P
 ·rcases h0 with h |rfl
  ·grind
  ·exact qxi I.b CE I.a I.j I.ab P hd
 grind
theorem XH.told (I:XH w0 total m G) (hw:∀p:Int,6≤p→p≤13→qC w0 p=0) (ry:0≤total∧total<18446744073709551616) (ht:m.t[i]? =some t) {q:VV} (hq:q∈t.results) (k2:q.kind=2):q.dT=[]∨q.dT=Nm [(1,total)]:=by
 rcases I.ph with P |⟨r0,H⟩
 ·by_cases hi:i=0
  ·subst hi;obtain⟨u,e,H⟩:=P.t0;rw[ht]at e;cases e;rw[H.cW]at hq;grind
  ·obtain⟨js,rfl⟩:=P.DC i t hi ht;have e:(gr (i:Int) m.s js).results=[]:=(vP ⟨rfl,rfl,rfl⟩).cW;grind
 ·exact qqH I.b I.a I.j I.ab H hw ry ht hq k2
theorem XH.memory (I:XH w0 total m G) (hw:∀p:Int,6≤p→p≤13→qC w0 p=0) (h2:∃r0,lW m r0) (hq:wx m=false):cA (kH (qC m.m.w)) total:=by obtain⟨r0,H⟩:=h2;exact qZh I.b I.a I.j I.ab H hw hq
theorem qws {M:zZ} {at_ w:Int} (h:¬(at_<1∨(M.w.length:Int)≤at_)):(qL M (bA 2 at_ w)).2.w=M.w.set at_.toNat w:=by
 have eW:yl M (bA 2 at_ w)=(dS,{ M with w:=M.w.set at_.toNat w }):=by show(if at_<1∨(M.w.length:Int)≤at_ then(lT 2,M)else if(2:Int)=1 then _ else _)=_;rw[iQ h];rfl
 grind[vM]
theorem qgs {s:jD} {jobs:List (List (List qa))} (hs:0≤s.start) {p:Int} (h1:6≤p) (h2:p≤13):qC (xP s jobs).m.w p=0:=by
 have so:xM (jk { s with ad:=((jobs.take 4).length:Int) }):=yr hs;have hw:=so.words;have e:(xP s jobs).m.w=(List.replicate (jk { s with ad:=((jobs.take 4).length:Int) }).words.toNat (0:Int)).set 5 14:=by refine qws (M:=yq (jk { s with ad:=((jobs.take 4).length:Int) })) (at_:=5) ?_;show¬((5:Int)<1∨((List.replicate (jk { s with ad:=((jobs.take 4).length:Int) }).words.toNat (0:Int)).length:Int)≤5);grind
 rw[e];unfold qC;grind
theorem qq6 {s:jD} {jobs:List (List (List qa))} (h:s.start≤1000):(xP s jobs).m.n≤1000:=by
 have e:(xP s jobs).m.n=(jk { s with ad:=((jobs.take 4).length:Int) }).start:=by
  show(qL (yq (jk { s with ad:=((jobs.take 4).length:Int) })) (bA 2 5 14)).2.n=_;rw[vM];have:∀r:cx×zZ,r.2.n=(jk { s with ad:=((jobs.take 4).length:Int) }).start→(if r.1.err=0 then(r.1,{ r.2 with bh:=r.2.bh+1 })else r).2.n=(jk { s with ad:=((jobs.take 4).length:Int) }).start:=λr h=>by grind
  refine this _ ?_;show(if((5:Int)<1∨((yq (jk { s with ad:=((jobs.take 4).length:Int) })).w.length:Int)≤5)then(lT 2,yq (jk { s with ad:=((jobs.take 4).length:Int) }))else if(2:Int)=1 then _ else(dS,{ yq (jk { s with ad:=((jobs.take 4).length:Int) })with w:=(yq (jk { s with ad:=((jobs.take 4).length:Int) })).w.set 5 14 })).2.n=_
  split
  ·rfl
  rfl
 rw[e];show min s.start 4611686018427387903≤1000;omega
theorem qz5 {s:jD} {jobs:List (List (List qa))} {j0:List (List qa)} (hs:0≤s.start) (C6:s.start≤1000) (hl:jobs.length=3) (hj:∀js∈jobs,∀l∈js,(zi l).2=0∧Quiet l)
  (h0:jobs[0]? =some j0) (cg:j0≠[]) (hb:∀(i:Nat) (js:List (List qa)),jobs[i]? =some js→js.length≤6∧cU total i js) (mA:32≤s.words∧s.words≤256) (lK:4≤s.writes∧s.writes≤96) (hf:s.fuel=120) :
  XH (xP s jobs).m.w total (xP s jobs) (λ_=>[]):=by
 have K:=VR hs hj;have t4:(jobs.take 4).length=3:=by grind
 refine⟨jZd hs hj,qzr hs hj,qvS hb ⟨_,h0⟩,⟨?_,?_,?_⟩,jXA hs hj,.inl (qyr hs h0 cg),?_,?_⟩
 ·show 32≤kz s.words 32 256∧kz s.words 32 256≤256;grind[yw]
 ·show 4≤kz s.writes 0 96;rw[yw omQ];grind
 ·show kz s.fuel 0 400=120;simp_all[yw,omQ]
 ·have:=qq6 (s:=s) (jobs:=jobs) C6;trivial
 ·have h1:=K.len;have h2:(xP s jobs).s.ad=kz ((jobs.take 4).length:Int) 1 4:=rfl;rw[h2,t4]at h1;have h3:kz ((3:Nat):Int) 1 4=3:=rfl;omega
end
section
variable {g h:AH} {L R:List SP}
structure CF (s:jD):Prop where
  words:32≤s.words∧s.words≤80
  ae:1≤s.ae∧s.ae≤16
  wide:1≤s.wide∧s.wide≤4
  ad:s.ad=0
  start:0≤s.start∧s.start<1000
  ay:0≤s.ay∧s.ay≤4
  writes:4≤s.writes∧s.writes≤40
  fuel:20≤s.fuel∧s.fuel≤120
theorem CF.held {s:jD} (K:CF s):jk s={ s with ad:=1 }:=by obtain⟨a,b,c,d,e,f,g,i⟩:=K;simp[jk,min,kz];omega
theorem jQ9 {n:Nat} (hn:2≤n) {w st wi sp wr fu t:Int} (ht:0≤t∧t<18446744073709551616) (H:HS g h R) :
  aE n 6 [.agg [.int .i64 w,.int .i64 st,.int .i64 wi,.int .i64 sp,.int .i64 wr,.int .i64 fu,.int .u64 t]] h λr h'=>∃s,r=.agg (yA s)∧CF s∧HS g h' R:=by
 refine aF (S:=S6) rfl omQ λk hk=>?_;unfold S6;try simp only[iZ]
 refine qP H rfl λb0 h1 H1=>?_;refine qP H1 rfl λb1 h2 H2=>?_;have e1:=QH (x:=sp) (lo:=((0:Nat):Int)) (hi:=((4:Nat):Int)) omQ;have e2:=QH (x:=wr) (lo:=((4:Nat):Int)) (hi:=((40:Nat):Int)) omQ;have e3:=QH (x:=fu) (lo:=((20:Nat):Int)) (hi:=((120:Nat):Int)) omQ;have e4:=QH (x:=w) (lo:=((32:Nat):Int)) (hi:=((80:Nat):Int)) omQ;have e5:=QH (x:=st) (lo:=((1:Nat):Int)) (hi:=((16:Nat):Int)) omQ;have e6:=QH (x:=wi) (lo:=((1:Nat):Int)) (hi:=((4:Nat):Int)) omQ;refine qY ?_
 try dsimp only
 refine qQ (qZ H2 (b:=b0) e_1 rfl ?_);refine qG (wF omQ omQ omQ omQ) ?_;rintro _ _ ⟨rfl,rfl⟩;refine qQ (qZ H2 (b:=b0) e_1 rfl ?_);refine qG (wF omQ omQ omQ omQ) ?_;rintro _ _ ⟨rfl,rfl⟩;refine qQ (qZ H2 (b:=b0) e_1 rfl ?_);refine qG (wF omQ omQ omQ omQ) ?_;rintro _ _ ⟨rfl,rfl⟩;generalize yp sp ((0:Nat):Int) ((4:Nat):Int)=Hq at*;generalize yp wr ((4:Nat):Int) ((40:Nat):Int)=Hr at*;generalize yp fu ((20:Nat):Int) ((120:Nat):Int)=Hs at*;refine qR (l:=[.int .i64 0,.int .i64 0,.int .i64 0,.int .i64 0,.int .u64 0,.int .i64 Hq,.int .i64 Hr,.int .i64 Hs]) rfl ?_;refine qP H2 rfl λb2 h3 H3=>?_;refine qm H3 (b:=b2) .here rfl (by simp) rfl λh4 H4=>?_
 have H4:HS g h4 (qw b2 [.int .i64 0,.int .i64 0,.int .i64 0,.int .i64 0,.int .u64 0,.int .i64 Hq,.int .i64 Hr,.int .i64 Hs]::qw b1 [.int .i64 0,.int .i64 0,.int .i64 0,.int .i64 0,.int .u64 0,.int .i64 0,.int .i64 0,.int .i64 0]::
  qw b0 [.int .i64 w,.int .i64 st,.int .i64 wi,.int .i64 sp,.int .i64 wr,.int .i64 fu,.int .u64 t]::R):=H4
 refine qh H2 e_1 rfl H2 e_1 rfl (HS.lt H2 e_1) ?_;refine qh H2 e_1 rfl H2 e_1 rfl (HS.lt H2 e_1) ?_;refine qh H2 e_1 rfl H2 e_1 rfl (HS.lt H2 e_1) ?_;refine qY ?_
 try dsimp only
 refine qQ (qZ H4 (b:=b0) e_2 rfl ?_);refine qG (wF omQ omQ omQ omQ) ?_;rintro _ _ ⟨rfl,rfl⟩;refine qQ (qZ H4 (b:=b0) e_2 rfl ?_);refine qG (wF omQ omQ omQ omQ) ?_;rintro _ _ ⟨rfl,rfl⟩;refine qQ (qZ H4 (b:=b0) e_2 rfl ?_);refine qG (wF omQ omQ omQ omQ) ?_;rintro _ _ ⟨rfl,rfl⟩;refine qQ (qZ H4 (b:=b0) e_2 rfl ?_);refine ka od ?_;generalize yp w ((32:Nat):Int) ((80:Nat):Int)=w' at*;generalize yp st ((1:Nat):Int) ((16:Nat):Int)=st' at*;generalize yp wi ((1:Nat):Int) ((4:Nat):Int)=Le at*;have Rt:0≤t.tmod ((1000:Nat):Int)∧t.tmod ((1000:Nat):Int)<1000:=by grind
 generalize t.tmod ((1000:Nat):Int)=t' at*;refine qR (l:=[.int .i64 w',.int .i64 st',.int .i64 Le,.int .i64 0,.int .u64 t']) rfl ?_;refine qQ (qm H4 (b:=b2) .here rfl (by simp) rfl λh5 H5=>?_)
 have H5:HS g h5 (qw b2 (yA ⟨w',st',Le,0,t',Hq,Hr,Hs⟩)::qw b1 [.int .i64 0,.int .i64 0,.int .i64 0,.int .i64 0,.int .u64 0,.int .i64 0,.int .i64 0,.int .i64 0]::
  qw b0 [.int .i64 w,.int .i64 st,.int .i64 wi,.int .i64 sp,.int .i64 wr,.int .i64 fu,.int .u64 t]::R):=H5
 refine qh H4 e_2 rfl H4 e_2 rfl (HS.lt H4 e_2) ?_;refine qh H4 e_2 rfl H4 e_2 rfl (HS.lt H4 e_2) ?_;refine qh H4 e_2 rfl H4 e_2 rfl (HS.lt H4 e_2) ?_;refine qh H4 e_2 rfl H4 e_2 rfl (HS.lt H4 e_2) ?_;refine qh H4 e_2 rfl H4 e_2 rfl (HS.lt H4 e_2) ?_;refine qh H4 e_2 rfl H4 e_2 rfl (HS.lt H4 e_2) ?_;refine qF H5 (b:=b2) (off:=0) .here rfl omQ (l:=yA ⟨w',st',Le,0,t',Hq,Hr,Hs⟩) rfl ?_;refine qm H5 (b:=b1) e_1 rfl (by simp) rfl λh6 H6=>?_;refine qF H6 (b:=b1) (off:=0) .here rfl omQ (l:=yA ⟨w',st',Le,0,t',Hq,Hr,Hs⟩) rfl ?_;exact qW ⟨_,rfl,⟨by omega,by omega,by omega,rfl,Rt,by omega,by omega,by omega⟩,H6.drop.drop.drop⟩
end
section
variable {g h:AH} {L R:List SP}
def tf (bs:List UInt8):List AV:=bs.map λc=>.int .u8 (.ofNat c.toNat)
theorem qj6:∀(bs:List UInt8),Qz (tf bs)=some bs:=by
 intro bs
 induction bs with
 |nil=>rfl
 |cons b bs ih=>simp_all[Qz,tf,UInt8.ofNat]
theorem Ti (bs:List UInt8):jY (tf bs)=true:=by unfold jY tf;rw[List.all_eq_true];intro y hy;obtain⟨z,_,rfl⟩:=List.mem_map.1 hy;rfl
theorem jKD {e:TypeId} {n:Nat} {v:AV} {bs:List UInt8} {K:AV→Go.Ae.R} {Q:AV→AH→Prop} (H:HS g h L) (s:bi L (qB e 1 n v (tf bs)) R) (w:wp (K (.str bs)) Q):wp (GC h v K) Q:=by
 obtain⟨D,hl,⟨rfl,rfl,_⟩ |⟨b,cp,o,ys,rfl,_,A,h1,h2,_⟩⟩:=H.p s
 ·have:bs=[]:=iA (by grind[tf]);subst this;exact w
 ·unfold GC;dsimp only;rw[G9 A omQ,List.drop_zero];rw[Nat.mul_one]at h2;rw[h2];simp only[ob,qj6];exact w
theorem ZJ {u:Nat} (h:u<10):Lib.decDigits u=[UInt8.ofNat (48+u)]:=Lib.decDigits_one h
theorem qZH {u:Nat} (h:¬u<10):Lib.decDigits u=Lib.decDigits (u/10)++[UInt8.ofNat (48+u%10)]:=by rw[Lib.decDigits,dif_neg h]
def M9 (m:Nat):List UInt8:=if m<10 then[]else Lib.decDigits (m/10)
theorem qKO {m:Nat} (h:¬m<10):M9 m=M9 (m/10)++[UInt8.ofNat (48+m/10%10)]:=by
 unfold M9;rw[iQ h];by_cases h1:m/10<10
 all_goals simp_all[ZJ,Nat.mod_eq_of_lt,iQ,qZH]
theorem Np (u:Nat):Lib.decDigits u=M9 u++[UInt8.ofNat (48+u%10)]:=by
 unfold M9;by_cases h:u<10
 all_goals simp_all[ZJ,Nat.mod_eq_of_lt,iQ,qZH]
theorem qX6 {n:Nat} (hn:1≤n) {u:Nat} (h2:u<18446744073709551616) (H:HS g h R):aE n 14 [.int .u64 (u:Int)] h λr h'=>r=.str (Lib.decDigits u)∧HS g h' R:=by
 refine aF (S:=S14) rfl omQ λk hk=>?_;unfold S14;try simp only[iZ]
 have hd:∀m:Nat,Int.tmod (m:Int) ((10:Nat):Int)=((m%10:Nat):Int):=λm=>by rfl
 have hc:∀m:Nat,AV.int .u8 (((48:Nat):Int)+((m%10:Nat):Int))=.int .u8 (.ofNat (UInt8.ofNat (48+m%10)).toNat):=λm=>by
  simp;omega
 refine ka omQ ?_;rw[hd];refine yT omQ (YQ ?_);rw[WO omQ,hc];refine qt (n:=1) (l:=tf [UInt8.ofNat (48+u%10)]) (sz:=1) H rfl rfl rfl (Ti _) λv3 h3 H3=>?_;refine zQ (λc s h'=>∃(m:Nat) (bs:List UInt8) (bv:AV),s=(bv,.int .u64 (m:Int),())∧m<10 ^ c∧m<18446744073709551616∧bs.length+c≤21∧Lib.decDigits u=M9 m++bs∧HS g h' (qB 5 1 bs.length bv (tf bs)::R))
  ?_ (m:=20) (by simp) ⟨u,_,v3,rfl,by omega,h2,by simp,Np u,H3⟩
 clear H3 H;rintro c ih s h4 bQ ⟨m,bs,bv,rfl,hm,L3,hl,uB,H⟩;dsimp only;by_cases fk:m<10
 ·refine zn omQ (qJ ?_);refine jKD H .here ?_;refine qx (qW ⟨?_,H.drop⟩);rw[uB];simp[M9];omega
 ·refine z7 omQ (qX ?_);have hq:Int.tdiv (m:Int) ((10:Nat):Int)=((m/10:Nat):Int):=by rfl
  refine WR omQ ?_;rw[hq,Iy omQ];refine ka omQ ?_;rw[hd];refine yT omQ (YQ ?_);rw[WO omQ,hc];refine qt (n:=1) (l:=tf [UInt8.ofNat (48+m/10%10)]) (sz:=1) H rfl rfl rfl (Ti _) λv5 h5 H5=>?_;refine zw (H5.aM (P:=qB 5 1 1 v5 (tf [UInt8.ofNat (48+m/10%10)])) .here) (H5.sl e_1) omQ omQ (Ti _) λv6 h6 H6=>?_;obtain⟨c,rfl⟩:∃c',c=c'+1:=by
   cases c with
   |zero=>grind
   |succ c=>simp
  refine bQ c _ _ omQ ⟨m/10,UInt8.ofNat (48+m/10%10)::bs,v6,rfl,by grind,by omega,by grind,?_,?_⟩
  ·rw[uB,qKO fk,List.append_assoc];rfl
  ·have e:(UInt8.ofNat (48+m/10%10)::bs).length=1+bs.length:=by grind
   rw[e];have H7:HS g h6 (qB 5 1 (1+bs.length) v6 (tf (UInt8.ofNat (48+m/10%10)::bs))::_):=H6;exact H7.sub (.cons .here (.drop .refl))
end
namespace topBank
variable {g h:AH} {L R:List SP}
abbrev Lf:Type:=Int×Int×Int
def yU (x:Lf):List AV:=[.int .i64 x.1,.int .u8 x.2.1,.int .i64 x.2.2]
theorem Tj {α:Type} {sz:Nat} {enc:α→List AV} (he:∀a,(enc a).length=sz) {l:List α} {i f:Nat} {a:α} (h:l[i]? =some a) (hf:f<sz):(l.flatMap enc)[i*sz+f]? =(enc a)[f]?:=by rw[← gF he h,List.getElem?_take_of_lt hf,List.getElem?_drop]
theorem jZP {D:Nat→Prop} {n i:Nat} {v x:AV} {xs:List AV} {k:IntKind} {K:AV→AV→Go.Ae.R} {Q:AV→AH→Prop} (S:Sl D h 1 n v xs) (hx:xs[i]? =some x)
  (w:∀b off,b<h.nx→(∀(h':AH) (D':Nat→Prop) (ys:List AV),Sl D' h' 1 n v ys→ys[i]? =some x→h'.at b off=some x)→wp (K (.ptr b off) x) Q):wp (gT v (.int k (i:Int)) 1 λp=>ja h p λx=>K p x) Q:=by
 have hi:i<n:=by have:=(List.getElem?_eq_some_iff.1 hx).1;have:=S.len;omega
 cases S with
 |ak=>omega
 |ch a=>omega
 |tail b o o' i=>omega
 |mk hd hb hr hl ha=>
  refine Xn hi (JV (x:=x) ?_ (w _ _ hb λh' D' ys S' hy=>?_))
  ·grind
  ·cases S' with
   |mk hd' bJ o9 eH uf=>grind
theorem qgU {D:Nat→Prop} {n i f sz:Nat} {v x:AV} {xs:List AV} {k:IntKind} {K:AV→AV→Go.Ae.R} {Q:AV→AH→Prop} (S:Sl D h sz n v xs) (hf:f<sz) (hi:i<n) (hx:xs[i*sz+f]? =some x)
  (w:∀b off,b<h.nx→(∀(h':AH) (D':Nat→Prop) (ys:List AV),Sl D' h' sz n v ys→ys[i*sz+f]? =some x→h'.at b off=some x)→wp (K (.ptr b off) x) Q):wp (gT v (.int k (i:Int)) sz λp=>jG p f λq=>ja h q λy=>K q y) Q:=by
 have aw:i*sz+f<n*sz:=by
  have:i*sz+sz≤n*sz:=by rw[← Nat.succ_mul];exact Nat.mul_le_mul_right sz hi
  omega
 cases S with
 |ak=>omega
 |ch a=>omega
 |tail b o o' i=>omega
 |mk hd hb hr hl ha=>
  refine Xn hi (qu (JV (x:=x) ?_ (w _ _ hb λh' D' ys S' hy=>?_)))
  ·grind
  ·cases S' with
   |mk hd' bJ o9 eH uf=>grind
theorem jQC {vs:List AV} {jss:List (List (List qa))} {t:Nat} (hl:vs.length=jss.length) (h:t<jss.length):vs[t]? =some (vs[t]'omQ)∧(List.zipWith (λv js=>aR js v) vs jss)[t]? =some (aR jss[t] (vs[t]'omQ)) :=
 ⟨iW _,by grind⟩
theorem qJh {vs:List AV} {jss:List (List (List qa))} {t:Nat} {v:AV} {js:List (List qa)}:List.zipWith (λv js=>aR js v) (vs.set t v) (jss.set t js)=(List.zipWith (λv js=>aR js v) vs jss).set t (aR js v):=by
 apply List.ext_getElem?;grind
structure Ht (total:Int) (i:Nat) (jss:List (List (List qa))):Prop where
  len:jss.length=3
  j:∀(k:Nat) (js:List (List qa)),jss[k]? =some js→js.length≤(if k=0 then 1 else 0)+(i+2-k)/3∧cU total k js∧∀l∈js,(zi l).2=0∧Quiet l
theorem jZR {total:Int} (h:0≤total∧total<18446744073709551616):Ht total 0 [[yz total],[],[]]:=by
 have OT:=qvu h;have nl:∀k,k≠0→cU total k []:=λk h=>by
  simp_all[cU]
 refine⟨rfl,λk js hk=>?_⟩;rcases k with _ |_ |_ |k
 ·cases hk;refine⟨by simp,?_,λl hl=>by grind⟩;unfold cU;simp
 all_goals grind
theorem Ht.next {total:Int} {i:Nat} {jss:List (List (List qa))} (J:Ht total i jss) {l:List qa} (hl:GP l) (h1:(zi l).2=0) (h2:Quiet l) (h:i%3<jss.length):Ht total (i+1) (jss.set (i%3) (jss[i%3]++[l])):=by
 refine⟨by rw[List.length_set];exact J.len,λk js hk=>?_⟩;rw[List.getElem?_set]at hk;by_cases c:i%3=k
 ·subst c;rw[iJ rfl,iJ h]at hk;cases hk;obtain⟨a,b,c⟩:=J.j (i%3) _ (iW h);refine⟨?_,?_,λx hx=>?_⟩
  ·grind
  ·unfold cU at*;grind
  grind
 ·rw[iQ c]at hk;obtain⟨a,b,c⟩:=J.j k js hk;grind
def u6 (f:Int→Int):Nat→Int
 | 0=>0
 |n+1=>u6 f n+f (6+(n:Int))
theorem jKE (f:Int→Int):u6 f 8=kH f:=by show 0+f 6+f 7+f 8+f 9+f 10+f 11+f 12+f 13=_;simp[kH]
theorem jKR {u:Nat}:Lib.decDigits u≠[]:=by simp[Np]
theorem qy9 (u:Nat):Nm [(1,(u:Int))]=Lib.decDigits u:=by
 show Lib.join [nS (1,(u:Int))] [32]=_;have:nS (1,(u:Int))=Lib.decDigits u:=by rfl
 simp_all[Lib.join]
theorem qXd {s t:List UInt8} {K:AV→Go.Ae.R} {Q:AV→AH→Prop} (w:wp (K (.bool (decide (s≠t)))) Q):wp (Nb .neq (.str s) (.str t) K) Q:=by
 show wp (K (.bool (!iu s t))) Q;rw[fF];have e:(!(s==t))=decide (s≠t):=by grind
 rw[e];exact w
theorem law {k0:Nat} (hk:40≤k0) {w st wi sp wr fu t start:Int} {a1 a3:AV} {ls:List Int} {pk:List Lf} (ht:0≤t∧t<18446744073709551616) (SL:Sl (λb=>b<h.nx) h 1 ls.length a1 (ls.map (.int .u16))) (bZ:0≤start∧start<65536)
  (SK:Sl (λb=>b<h.nx) h 3 pk.length a3 (pk.flatMap yU)) (Ch:∀x∈pk,0≤x.2.1∧x.2.1<256) :
  wp ((lf S3) (Qj 4 (callT tab qz k0)) [.agg [.int .i64 w,.int .i64 st,.int .i64 wi,.int .i64 sp,.int .i64 wr,.int .i64 fu,.int .u64 t],a1,.int .u16 start,a3] h) λv _=>v=.bool true:=by
 show wp (S3 (Qj _ (callT tab qz _)) _ _ _ _ _).1 _;unfold S3
 try simp only[ iZ]
 refine qP (HS.nil h) rfl λb0 h1 H1=>?_;refine jKS (jd (qJ ?_));have htm:0≤start.tmod ((1000:Nat):Int)∧start.tmod ((1000:Nat):Int)<1000:=by grind
 refine kh omQ (ka od (yT omQ ?_));obtain⟨tn,Lg,hto1⟩:∃tn:Nat,start.tmod ((1000:Nat):Int)+((1:Nat):Int)=(tn:Int)∧1≤tn∧tn≤1000:=⟨(start.tmod ((1000:Nat):Int)+1).toNat,by omega,by omega⟩;rw[Lg];clear Lg htm;refine Xv (n:=3) H1 omQ λjv h2 H2=>?_;have H2:HS h h2 (qB 30 1 3 jv [.ak,.ak,.ak]::qw b0 [.int .i64 w,.int .i64 st,.int .i64 wi,.int .i64 sp,.int .i64 wr,.int .i64 fu,.int .u64 t]::[]):=H2;refine zj (i:=0) (H2.sl (v:=jv) (xs:=[.ak,.ak,.ak]) .here) (x:=.ak) rfl ?_;refine qR (l:=[.int .i64 1,.int .i64 0,.int .i64 0,.int .i64 0,.int .u64 (tn:Int)]) rfl ?_;refine qR (l:=[.int .i64 9,.int .i64 7,.int .i64 0,.int .i64 9,.int .u64 0]) rfl ?_;refine qt (n:=2) (l:=(yz (tn:Int)).flatMap xW) (sz:=5) H2 rfl rfl rfl rfl λpv h3 H3=>?_;have H3:HS h h3 (bX pv (yz (tn:Int))::qB 30 1 3 jv [.ak,.ak,.ak]::qw b0 [.int .i64 w,.int .i64 st,.int .i64 wi,.int .i64 sp,.int .i64 wr,.int .i64 fu,.int .u64 t]::[]):=H3;have op:=qGd H3;refine qR (l:=[pv]) (by simp only[vj,op.1];rfl) ?_;refine qt (n:=1) (l:=[pv]) (sz:=1) H3 rfl rfl (by rfl) (by simp[jY,op.2]) λv2 h4 H4=>?_;refine zw (e:=35) (v:=.ak) (xs:=[]) (n:=0) (sz:=1) H4.ak (H4.sl .here) omQ omQ (by simp[jY,op.2]) λv3 h5 H5=>?_;have ov:=H5.one .here;refine XL (i:=0) (H5.aM (P:=qB 30 1 3 jv [.ak,.ak,.ak]) e_3) omQ ov λh6 H6=>?_;have HA:HS h h6 (aR [yz (tn:Int)] v3::qB 30 1 3 jv [v3,.ak,.ak]::qw b0 [.int .i64 w,.int .i64 st,.int .i64 wi,.int .i64 sp,.int .i64 wr,.int .i64 fu,.int .u64 t]::[]) :=
  aR.I (js:=[yz (tn:Int)]) (v:=v3) (vs:=[pv]) rfl (HS.sub (L':=qB 35 1 1 v3 [pv]:: .all [bX pv (yz (tn:Int))]::qB 30 1 3 jv [v3,.ak,.ak]::qw b0 [.int .i64 w,.int .i64 st,.int .i64 wi,.int .i64 sp,.int .i64 wr,.int .i64 fu,.int .u64 t]::[]) (HS.allI (A:=[bX pv (yz (tn:Int))]) (H6.sub (.cons e_3 (.cons e_1 (.cons .here (.drop (.cons .here .refl))))))) (.cons e_1 (.cons .here .refl)))
 have nj:∀{L:List SP} {h':AH},HS h h' L→HS h h' (aR [] .ak::L):=λH=>aR.I (js:=[]) (v:=.ak) (vs:=[]) rfl ((HS.allI (A:=[]) H).ak);have HB:HS h h6 (nU [[yz (tn:Int)],[],[]] jv::qw b0 [.int .i64 w,.int .i64 st,.int .i64 wi,.int .i64 sp,.int .i64 wr,.int .i64 fu,.int .u64 t]::[]) :=
  nU.I (vs:=[v3,.ak,.ak]) rfl ((HS.allI (A:=[aR [yz (tn:Int)] v3,aR [] .ak,aR [] .ak]) ((nj (nj HA)).sub (.cons e_2 (.cons .here (.cons .here .refl))))).sub (.cons e_1 (.cons .here .refl)))
 clear H1 H2 H3 H4 H5 H6 HA nj;have J0:=jZR (total:=(tn:Int)) omQ;refine zQ (λc q h'=>∃(i:Nat) (jss:List (List (List qa))),q=(.int .i64 (i:Int),jv,.int .u64 (tn:Int),.ptr b0 0,a3,a1,())∧i≤ls.length∧i≤15∧c=15-i∧Ht (tn:Int) i jss∧HS h h' (nU jss jv::qw b0 [.int .i64 w,.int .i64 st,.int .i64 wi,.int .i64 sp,.int .i64 wr,.int .i64 fu,.int .u64 t]::[]))
  ?_ (m:=15) od ⟨0,_,rfl,Nat.zero_le _,Nat.zero_le _,rfl,J0,HB⟩
 clear HB J0;rintro c ih q h6 bQ ⟨i,jss,rfl,oT,Tk,rfl,J,H⟩;dsimp only;refine vQ (SL.cI H.cI) ?_;refine XI (UG (λz g'=>g'=h6∧∃u:AV,z=(u,.bool (decide ((i:Int)<(ls.length:Int))),.int .i64 (i:Int),jv,.int .u64 (tn:Int),.ptr b0 0,a3,a1,())∧(i<ls.length→u=.bool (decide (i<15)))) (λj hj=>?_) ?_)
 ·refine WU (λc1=>?_) (λc1=>?_)
  ·refine XI (hj _ _ ⟨rfl,_,rfl,λ_=>?_⟩)
   simp;omega
  ·exact hj _ _ ⟨rfl,_,rfl,λh=>absurd h omQ⟩
 rintro _ _ ⟨rfl,u,rfl,hu⟩;dsimp only;have hp:∀{K:AV→Go.Ae.R} {Q:AV→AH→Prop},(∀b:Bool,(b=true↔(i<ls.length∧i<15))→wp (K (.bool b)) Q)→wp (gt (.bool (decide ((i:Int)<(ls.length:Int)))) u (.bool false) K) Q:=λ{K Q} hw=>by
  by_cases c1:i<ls.length
  ·rw[iG (show(i:Int)<(ls.length:Int) by omega),hu c1];exact qE (hw _ ⟨λh=>⟨c1,of_decide_eq_true h⟩,λh=>iG h.2⟩)
  ·rw[iV (show¬(i:Int)<(ls.length:Int) by omega)];exact qI (hw _ ⟨λh=>(by grind),λh=>absurd h.1 c1⟩)
 refine hp λbb rI=>?_;clear hp hu;cases bb with
 |true=>
  obtain⟨c1,c2⟩:=rI.1 rfl;clear rI;refine qX (qY ?_)
  try dsimp only
  have uy:i%3<jss.length:=by rw[J.len];omega
  have em:((i:Int)).tmod ((3:Nat):Int)=((i%3:Nat):Int):=rfl;refine ka od (ka od ?_);rw[em];obtain⟨vs,AY,HT⟩:=nU.E H;obtain⟨Bt,hz1⟩:=jQC AY uy;have hx:ls[i]? =some ls[i]:=iW c1;have Tl:=SL.cI H.cI;have Tm:(ls.map (AV.int .u16))[i]? =some (.int .u16 ls[i]):=by simp
  refine jZP (HT.sl (v:=jv) (xs:=vs) .here) Bt λbb off Ak dw=>?_;refine zj Tl Tm (qWB λx1 hx1=>yZ omQ ?_);refine zj Tl Tm (WS omQ (qWB λx2 rf=>yZ omQ ?_));refine zj Tl Tm (WS omQ (YQ ?_));have uM:=Z8 (ls[i].fdiv (2 ^ min ((6:Nat):Int).toNat IntKind.u16.bits));generalize jR .u64 (ls[i].fdiv (2 ^ min ((6:Nat):Int).toNat IntKind.u16.bits))=y at*;refine yT omQ (ka omQ ?_);have hyb:0≤y.tmod ((tn:Int)+((2:Nat):Int))∧y.tmod ((tn:Int)+((2:Nat):Int))<18446744073709551616:=by rw[Int.tmod_eq_emod_of_nonneg uM.1];have:=Int.emod_nonneg y (show(tn:Int)+((2:Nat):Int)≠0 by omega);have:=Int.emod_lt_of_pos y (show 0<(tn:Int)+((2:Nat):Int) by omega);omega
  refine vU od (qgp omQ hx1 rf hyb HT) ?_;rintro _ h7 ⟨pv,l,rfl,hM,k1,k2,H7⟩;have op:=qGd H7;have Tn:=dw h7 _ _ (H7.sl (v:=jv) (xs:=vs) e_1) Bt;have To:=dw _ _ _ (HT.sl (v:=jv) (xs:=vs) .here) Bt;refine qt (n:=1) (l:=[pv]) (sz:=1) H7 rfl rfl (by rfl) (by simp[jY,op.2]) λv2 h8 H8=>?_;have H9:=HS.oy (Kj hz1) (H8.aM (P:=.all (List.zipWith (λv js=>aR js v) vs jss)) e_3);obtain⟨us,B9,HA⟩:=aR.E H9;have hj6:=J.j _ _ (iW uy);have Sh:jss[i%3].length≤10:=by grind
  refine zw HA (HA.sl e_3) omQ omQ (by simp[jY,op.2]) λv3 h9 HC=>?_;have ov:=HC.one .here;refine XL (i:=i%3) (H:=HC.aM (P:=qB 30 1 jss.length jv vs) e_5) uy ov λhA HD=>?_;refine PH To Tn Ak ?_;have ez:List.zipWith bX (us++[pv]) (jss[i%3]++[l])=List.zipWith bX us jss[i%3]++[bX pv l]:=by rw[List.zipWith_append B9];rfl
  have HE:=VN (A:=List.zipWith bX us jss[i%3]) (B:=[bX pv l]) (HD.sub (.cons e_2 (.cons e_4 .refl)));have HF:=aR.I (v:=v3) (js:=jss[i%3]++[l]) (vs:=us++[pv]) (by grind) (by rw[ez,List.length_append];exact HE.sub (.cons e_2 (.cons .here .refl)));have eE:(List.zipWith (λv js=>aR js v) vs jss).eraseIdx (i%3)=(List.zipWith (λv js=>aR js v) (vs.set (i%3) v3) (jss.set (i%3) (jss[i%3]++[l]))).eraseIdx (i%3):=by rw[qJh,List.eraseIdx_set_eq]
  rw[eE]at HF;have hz2:(List.zipWith (λv js=>aR js v) (vs.set (i%3) v3) (jss.set (i%3) (jss[i%3]++[l])))[i%3]? =some (aR (jss[i%3]++[l]) v3):=by grind
  have HG:=HS.oZ (Kj hz2) (HF.sub (.cons .here (.cons e_1 .refl)));have HI:=nU.I (v:=jv) (jss:=jss.set (i%3) (jss[i%3]++[l])) (vs:=vs.set (i%3) v3) (by grind) (by rw[List.length_set];exact HG.sub (.cons e_1 (.cons .here .refl)));refine qi omQ ?_;exact bQ (15-(i+1)) _ _ omQ ⟨i+1,_,rfl,by omega,by omega,rfl,J.next hM k1 k2 uy,HI.sub (.cons .here (.drop (.cons .here .refl)))⟩
 |false=>
  refine qJ ?_;clear bQ ih rI;refine qF H (b:=b0) (off:=0) e_1 rfl omQ (l:=[.int .i64 w,.int .i64 st,.int .i64 wi,.int .i64 sp,.int .i64 wr,.int .i64 fu,.int .u64 t]) rfl ?_;refine vU od (jQ9 omQ ht H) ?_;rintro _ h2 ⟨s,rfl,K,H2⟩;refine qP H2 rfl λb1 h3 H3=>?_;refine qm H3 (b:=b1) .here rfl (by simp) rfl λh4 H4=>?_;have H4:HS h h4 (qw b1 (yA s)::nU jss jv::[]):=H4.sub (.cons .here (.cons .here (.drop .refl)));refine qQ (qy H4 (b:=b1) .here ⟨rfl,rfl⟩ (by simp) λh5 H5=>?_);have H5:HS h h5 (qw b1 (yA { s with fuel:=120 })::nU jss jv::[]):=H5;clear H H2 H3 H4;refine qF H5 (b:=b1) (off:=0) .here rfl omQ (l:=yA { s with fuel:=120 }) rfl ?_;have dI:∀js∈jss,js.length≤6∧∀l∈js,(zi l).2=0∧Quiet l:=λjs rs=>by
   obtain⟨k,hk,rfl⟩:=List.mem_iff_getElem.1 rs;obtain⟨q1,_,q3⟩:=J.j k _ (iW hk);grind
  have Tp:=K.start;have hkw:=K.words;have hkr:=K.writes;refine vU od (qzc (s:={ s with fuel:=120 }) (jss:=jss) omQ Tp.1 (λjs rs=>⟨by grind,(dI js rs).2⟩) (by have:=J.len;omega) (H5.aM (P:=nU jss jv) e_1)) ?_;rintro _ h6 ⟨mb,rfl,H6⟩;have j0:jss[0]? =some (jss[0]'(by have:=J.len;omega)):=iW _;have cg:jss[0]'(by grind)≠[]:=by obtain⟨_,q,_⟩:=J.j 0 _ j0;unfold cU at q;grind
  have I:=qz5 (total:=(tn:Int)) (s:={ s with fuel:=120 }) (jobs:=jss) Tp.1 (by grind) J.len (λjs rs=>(dI js rs).2) j0 cg (λk js A3=>⟨(dI js (List.mem_of_getElem? A3)).1,(J.j k js A3).2.1⟩) (by grind) (by grind) rfl;have fW:∀p:Int,6≤p→p≤13→qC (xP { s with fuel:=120 } jss).m.w p=0:=λp p1 p2=>qgs Tp.1 p1 p2;have hp0:(xP { s with fuel:=120 } jss).aA=0:=rfl;generalize(xP { s with fuel:=120 } jss).m.w=w0 at*;generalize xP { s with fuel:=120 } jss=m0 at*;generalize(λ_=>[]:gS)=G0 at*;have HN:HS h h6 [bL mb m0]:=H6.sub (.cons .here (.drop (.drop .refl)));clear H5 H6 cg j0 dI J;refine Vz (qJ ?_);refine zQ (λc q h'=>∃(i:Nat) (bg:Bool) (m:yj) (G:gS),q=(.int .i64 (i:Int),.bool bg,.ptr mb 0,.int .u64 (tn:Int),a3,())∧i≤pk.length∧i≤80∧c=80-i∧XH w0 (tn:Int) m G∧(bg=true→∃r0,lW m r0)∧m.aA≤15*i∧HS h h' [bL mb m])
   ?_ (m:=80) od ⟨0,false,m0,G0,rfl,Nat.zero_le _,Nat.zero_le _,rfl,I,λh=>(by grind),by omega,HN⟩
  clear HN I hp0;clear i oT Tk;rintro c ih q h6 bQ ⟨i,bg,m,G,rfl,oT,hi80,rfl,I,o8,Ic,H⟩;dsimp only;refine vQ (SK.cI H.cI) ?_;refine XI (UG (λz g'=>g'=h6∧∃u:AV,z=(u,.bool (decide ((i:Int)<(pk.length:Int))),.int .i64 (i:Int),.bool bg,.ptr mb 0,.int .u64 (tn:Int),a3,())∧(i<pk.length→u=.bool (decide (i<80)))) (λj hj=>?_) ?_)
  ·refine WU (λc1=>?_) (λc1=>?_)
   ·refine XI (hj _ _ ⟨rfl,_,rfl,λ_=>?_⟩)
    simp;omega
   ·exact hj _ _ ⟨rfl,_,rfl,λh=>absurd h omQ⟩
  rintro _ _ ⟨rfl,u,rfl,hu⟩;dsimp only;have hp:∀{K:AV→Go.Ae.R} {Q:AV→AH→Prop},(∀b:Bool,(b=true↔(i<pk.length∧i<80))→wp (K (.bool b)) Q)→wp (gt (.bool (decide ((i:Int)<(pk.length:Int)))) u (.bool false) K) Q:=λ{K Q} hw=>by
   by_cases c1:i<pk.length
   ·rw[iG (show(i:Int)<(pk.length:Int) by omega),hu c1];exact qE (hw _ ⟨λh=>⟨c1,of_decide_eq_true h⟩,λh=>iG h.2⟩)
   ·rw[iV (show¬(i:Int)<(pk.length:Int) by omega)];exact qI (hw _ ⟨λh=>(by grind),λh=>absurd h.1 c1⟩)
  refine hp λbb rI=>?_;clear hp hu;have pc:∀{m:yj} {G:gS} {k:Nat} {t:qe},XH w0 (tn:Int) m G→m.t[k]? =some t→t.results.length≤1000000:=λ{m G k t} I ht=>by
   have O:=(I.o.t k t ht).1;have h1:=O.cW;have h2:=O.b.ap;have h3:=O.b.jl
   grind
  cases bb with
  |false=>
   refine qJ ?_;clear bQ ih rI o8;have tA:=I.th;refine zQ (λc q h'=>∃x:Nat,q=(.int .i64 (x:Int),.ptr mb 0,.int .u64 (tn:Int),())∧x≤3∧c=3-x∧HS h h' [bL mb m]) ?_ (m:=3) od ⟨0,rfl,by omega,rfl,H⟩;clear H;rintro c ih2 q h6 CG ⟨x,rfl,hx,rfl,H⟩;dsimp only;by_cases L5:x<3
   ·refine jt omQ (qX ?_);obtain⟨t,ht⟩:∃t,m.t[x]? =some t:=⟨m.t[x]'omQ,iW _⟩;have Br:=pc I ht;refine vU od (J4 omQ ht Br omQ H) λrv h7 H7=>?_;refine zQ (λc q h'=>∃k:Nat,q=(.int .i64 (k:Int),rv,.int .i64 (x:Int),.ptr mb 0,.int .u64 (tn:Int),())∧k≤t.results.length∧c=t.results.length-k∧HS h h' (qB 56 4 t.results.length rv (t.results.flatMap XB)::bL mb m::[]))
     ?_ (m:=t.results.length) (by grind) ⟨0,rfl,by omega,rfl,H7⟩
    clear H H7;rintro c ih3 q h8 u7 ⟨k,rfl,hk,rfl,H8⟩;dsimp only;refine jQ H8 (n:=t.results.length) (v:=rv) .here ?_;by_cases AZ:k<t.results.length
    ·refine jt omQ (qX (qY ?_))
     try dsimp only
     have hr:t.results[k]? =some t.results[k]:=iW AZ;have Lg:t.results[k].kind=2→_:=I.told fW omQ ht (List.getElem_mem AZ);generalize t.results[k]=r at*;have f0:(t.results.flatMap XB)[k*4+0]? =some (.int .i64 r.kind):=Tj (sz:=4) (λ_=>rfl) hr omQ;have f2:(t.results.flatMap XB)[k*4+2]? =some (.str r.dT):=Tj (sz:=4) (λ_=>rfl) hr omQ;have next:∀g':AH,HS h g' (qB 56 4 t.results.length rv (t.results.flatMap XB)::bL mb m::[])→wp (zB .add (.int .i64 (k:Int)) (.int .i64 ((1:Nat):Int)) λv=>ih3 (v,rv,.int .i64 (x:Int),.ptr mb 0,.int .u64 (tn:Int),()) g' []) λv _=>v=.bool true:=λg' H=>by
      refine qi omQ ?_;exact u7 (t.results.length-(k+1)) _ _ omQ ⟨k+1,rfl,by omega,rfl,H⟩
     refine vF (H8.sl (v:=rv) (xs:=t.results.flatMap XB) .here) omQ AZ f0 ?_;by_cases k2:r.kind=2
     ·refine qk k2 (qd ?_);refine vF (H8.sl (v:=rv) (xs:=t.results.flatMap XB) .here) omQ AZ f2 ?_;refine qXd (qE ?_);rcases Lg k2 with e |e
      ·rw[e,iV aS];refine qb (qI (qJ ?_));exact next _ H8
      ·rw[qy9]at e;rw[e]at f2 ⊢;rw[iG jKR];refine qd (qgU (H8.sl (v:=rv) (xs:=t.results.flatMap XB) .here) omQ AZ f2 λbb off Ak dw=>?_);refine vU od (qX6 (u:=tn) omQ omQ H8) ?_;rintro _ h9 ⟨rfl,H9⟩;refine qXd ?_;rw[iV aS];refine qE (PH (dw _ _ _ (H8.sl (v:=rv) (xs:=t.results.flatMap XB) .here) f2) (dw _ _ _ (H9.sl (v:=rv) (xs:=t.results.flatMap XB) .here) f2) Ak ?_);exact qJ (next _ H9)
     ·refine qj k2 (qb (qI (qb (qI (qJ ?_)))));exact next _ H8
    ·obtain rfl:k=t.results.length:=by omega
     refine jP omQ (qJ (qi omQ ?_));exact CG (3-(x+1)) _ _ omQ ⟨x+1,rfl,by omega,rfl,H8.drop⟩
   ·refine jP omQ (qJ (qx (qW rfl)))
  |true=>
   obtain⟨c1,c2⟩:=rI.1 rfl;clear rI;refine qX ?_;have C8:pk[i]? =some pk[i]:=iW c1;have Se:=Ch _ (List.getElem_mem c1);have hw14:=QH (x:=pk[i].2.2) (lo:=((0:Nat):Int)) (hi:=((14:Nat):Int)) omQ;have e1:(pk.flatMap yU)[i*3+1]? =some (.int .u8 pk[i].2.1):=Tj (sz:=3) (λ_=>rfl) C8 omQ;have eN:((pk.flatMap yU).drop (i*3)).take 3=yU pk[i]:=gF (enc:=yU) (sz:=3) (λ_=>rfl) C8;generalize pk[i]=x at*;obtain⟨xT,xD,xN⟩:=x;dsimp only at*;refine zQ (λc q h'=>∃(k:Nat) (bg:Bool) (m:yj) (G:gS),q=(.int .i64 (k:Int),.int .i64 (i:Int),.bool bg,.ptr mb 0,.int .u64 (tn:Int),a3,())∧(k:Int)≤yp xN ((0:Nat):Int) ((14:Nat):Int)+1∧c=15-k∧XH w0 (tn:Int) m G∧(bg=true→∃r0,lW m r0)∧m.aA≤15*i+k∧HS h h' [bL mb m])
    ?_ (m:=15) od ⟨0,bg,m,G,rfl,by omega,rfl,I,o8,by omega,H⟩
   clear H I o8 Ic;clear bg m G;rintro c ih2 q h6 CG ⟨k,bg,m,G,rfl,hk14,rfl,I,o8,Ic,H⟩;dsimp only;refine xV (SK.cI H.cI) c1 omQ (l:=[.int .i64 xT,.int .u8 xD,.int .i64 xN]) eN ?_;refine vU od (qw4 omQ H) ?_;rintro _ h7 ⟨rfl,H7⟩;clear H;have tA:=I.th;by_cases aw:(k:Int)≤yp xN ((0:Nat):Int) ((14:Nat):Int)
   ·refine Jh aw (qX ?_);obtain⟨t0,ry⟩:∃t0,m.t[0]? =some t0:=⟨m.t[0]'omQ,iW _⟩;refine zb [] (λz g'=>∃ti:Nat,z=(.int .i64 (ti:Int),.int .i64 (k:Int),.int .i64 (i:Int),.bool bg,.ptr mb 0,.int .u64 (tn:Int),a3,())∧ti<m.t.length∧((∃r0,lW m r0)∨ti=0)∧HS h g' [bL mb m]) (λj hj=>?_) ?_
    ·refine vU od (J4 (i:=0) omQ ry (pc I ry) omQ H7) λrv h8 H8=>?_;refine jQ H8 (n:=t0.results.length) (v:=rv) .here ?_;by_cases hr:0<t0.results.length
     ·refine vr omQ (qX ?_);refine xV (SK.cI H8.cI) c1 omQ (l:=[.int .i64 xT,.int .u8 xD,.int .i64 xN]) eN ?_;refine vU od (jXE omQ omQ H8.drop) ?_;rintro _ h9 ⟨rfl,H9⟩;have hwT:=QH (x:=xT) (lo:=((0:Nat):Int)) (hi:=(m.t.length:Int)-1) omQ;obtain⟨ti,F4⟩:∃ti:Nat,yp xT ((0:Nat):Int) ((m.t.length:Int)-1)=(ti:Int):=⟨(yp xT ((0:Nat):Int) ((m.t.length:Int)-1)).toNat,by omega⟩;rw[F4]at hwT ⊢;exact hj _ _ ⟨ti,rfl,by omega,.inl (I.Hp ry (λe=>by grind)),H9⟩
     ·refine vE omQ (qJ ?_);exact hj _ _ ⟨0,rfl,by omega,.inr rfl,H8.drop⟩
    rintro _ h8 ⟨ti,rfl,F4,hph,H8⟩;clear H7 ry;clear t0;dsimp only;refine vF (SK.cI H8.cI) omQ c1 e1 ?_;refine vU od (qGP (i:=ti) (draw:=xD) omQ I.o F4 omQ omQ Se H8) ?_;rintro _ h9 ⟨rfl,H9⟩;obtain⟨G',I',Ld,AL⟩:=I.pick F4 Se.1 omQ hph;have Tq:bg=true→∃r0,lW (jn m ti xD) r0:=λh=>AL (o8 h);have hp2:(jn m ti xD).aA≤15*i+((k+1:Nat):Int):=by omega
    clear Ld AL H8;generalize jn m ti xD=m2 at*;have hw2:=I'.o.w;have mA:=I'.b.words;refine vU od (qZi omQ omQ H9) λwv hA HA=>?_;refine jQ HA (n:=m2.m.w.length) (v:=wv) .here ?_;refine jP omQ (qJ ?_);refine zQ (λc q h'=>∃(x:Nat) (S:Int),q=(.int .i64 (x:Int),.int .u64 S,wv,.int .i64 (k:Int),.int .i64 (i:Int),.bool bg,.ptr mb 0,.int .u64 (tn:Int),a3,())∧x≤8∧c=8-x∧cA S (u6 (qC m2.m.w) x)∧(0≤S∧S<18446744073709551616)∧h'=hA)
     ?_ (m:=8) od ⟨0,0,rfl,by omega,rfl,⟨0,rfl⟩,by omega,rfl⟩
    rintro c ih3 q hB u7 ⟨x,S,rfl,hx,rfl,hS,hSb,rfl⟩;dsimp only;by_cases hx8:x<8
    ·refine jt omQ (qX (qi omQ ?_));have hgx:m2.m.w[6+x]? =some (qC m2.m.w (6+(x:Int))):=by
      unfold qC;rw[show(6+(x:Int)).toNat=6+x by rfl,iW omQ];rfl
     rw[show((6:Nat):Int)+(x:Int)=((6+x:Nat):Int) by rfl];refine zj (HA.sl (v:=wv) (xs:=m2.m.w.map (.int .u64)) .here) (x:=.int .u64 (qC m2.m.w (6+(x:Int)))) (by grind) ?_;refine NP (qi omQ ?_);obtain⟨qq,eS⟩:=hS;exact u7 (8-(x+1)) _ _ omQ ⟨x+1,_,rfl,by omega,rfl,cA.wrap ⟨qq,by grind[u6,qC]⟩,Z8 _,rfl⟩
    ·obtain rfl:x=8:=by omega
     refine jP omQ (qJ ?_);rw[jKE]at hS;clear u7;clear ih3;have next:∀(nb:Bool) (g':AH),(nb=true→∃r0,lW m2 r0)→HS h g' [bL mb m2]→wp (zB .add (.int .i64 (k:Int)) (.int .i64 ((1:Nat):Int)) λv=>ih2 (v,.int .i64 (i:Int),.bool nb,.ptr mb 0,.int .u64 (tn:Int),a3,()) g' []) λv _=>v=.bool true:=λnb g' Ap H=>by
      refine qi omQ ?_;exact CG (15-(k+1)) _ _ omQ ⟨k+1,nb,m2,G',rfl,by omega,rfl,I',Ap,hp2,H⟩
     have hm3':=I'.th;obtain⟨t0,ry⟩:∃t0,m2.t[0]? =some t0:=⟨m2.t[0]'omQ,iW _⟩;refine UG (λz g'=>∃u:AV,z=(u,.bool bg,.int .u64 S,.int .i64 (k:Int),.int .i64 (i:Int),.ptr mb 0,.int .u64 (tn:Int),a3,())∧(bg=false→u=.bool (decide (0<t0.results.length)))∧HS h g' [bL mb m2]) (λj hj=>?_) ?_
     ·cases bg with
      |true=>exact jC (hj _ _ ⟨_,rfl,λh=>(by grind),HA.drop⟩)
      |false=>
       refine qo (vU od (J4 (i:=0) omQ ry (pc I' ry) omQ HA.drop) λrv hC HC=>?_);refine jQ HC (n:=t0.results.length) (v:=rv) .here ?_;refine Ix (hj _ _ ⟨_,rfl,λ_=>?_,HC.drop⟩)
       simp
     rintro _ hC ⟨u,rfl,hu,HC⟩;dsimp only;clear HA H9;have Hu:∀{K:AV→Go.Ae.R} {Q:AV→AH→Prop},(∀nb:Bool,(nb=true→∃r0,lW m2 r0)→wp (K (.bool nb)) Q)→wp (gt (.bool bg) (.bool true) u K) Q:=λ{K Q} hw=>by
      cases bg with
      |true=>exact qE (hw true λ_=>Tq rfl)
      |false=>rw[hu rfl];refine qI (hw _ λh=>?_);exact I'.Hp ry (λe=>by grind)
     refine Hu λnb Ap=>?_;clear Hu;refine qY ?_
     try dsimp only
     cases nb with
     |false=>
      refine qb (qI (qY ?_))
      try dsimp only
      exact qb (qI (qJ (next false _ Ap HC)))
     |true=>
      refine qd (vU od (NU omQ omQ (λt ht=>by obtain⟨k,hk,rfl⟩:=List.mem_iff_getElem.1 ht;exact(I'.o.t k _ (iW hk)).1) HC) ?_);rintro _ hD ⟨rfl,HD⟩;cases hw:wx m2 with
      |true=>
       refine jd (qE (qY ?_))
       try dsimp only
       exact qb (qI (qJ (next true _ Ap HD)))
      |false=>
       refine jo (qE (qY ?_))
       try dsimp only
       have sx:S=(tn:Int):=(hS.trans (I'.memory fW (Ap rfl) hw)).eq hSb omQ;exact qd (jI sx (qE (qJ (next true _ Ap HD))))
   ·refine XR aw (qJ (qi omQ ?_));exact bQ (80-(i+1)) _ _ omQ ⟨i+1,bg,m,G,rfl,by omega,by omega,rfl,I,o8,by omega,H7⟩
theorem qzm {h:AH} {d:Nat} {v:AV} (H:WT Tryz.prog h (d+3) 27 [v]):∃pk:List Lf,Sl (λb=>b<h.nx) h 3 pk.length v (pk.flatMap yU)∧∀x∈pk,0≤x.2.1∧x.2.1<256:=by
 obtain⟨q,xs,S,_,H2⟩:=qJP (sz:=3) Tryz.underlying27 (by rfl) omQ H
 obtain⟨ks,g1,g3,rfl⟩:=W9 (α:=Lf) (Pr:=λx=>0≤x.2.1∧x.2.1<256) yU S.len (λi hi=>by
  have:=H2 i hi;generalize(xs.drop (i*3)).take 3=row at this;unfold WT at this;simp only[Tryz.underlying47]at this;obtain⟨g1,g2⟩:=this;rw[show Tryz.prog.cellsOf 47=3 by rfl]at g1
  match row,g1 with
  |[x,y,z],_=>
   have f1:=g2 _ (iK ..);have f2:=g2 _ (iX _ (iK ..));have f3:=g2 _ (iX _ (iX _ (iK ..)));rw[show Tryz.prog.cellsOf 3=1 by rfl]at f1 f3;rw[show Tryz.prog.cellsOf 5=1 by rfl]at f2;unfold WT at f1 f2 f3;simp only[Tryz.underlying3,List.drop_zero,List.take_succ_cons,List.take_zero,List.drop_succ_cons]at f1 f3;simp only[Tryz.underlying5,List.drop_succ_cons,List.drop_zero,List.take_succ_cons,List.take_zero]at f2;obtain⟨a,ha,_⟩:=f1;obtain⟨b,hb,c5⟩:=f2;obtain⟨c,hc,_⟩:=f3;cases ha;cases hb;cases hc
   exact⟨(a,b,c),⟨c5.1,Int.lt_of_le_of_lt c5.2 od⟩,rfl⟩)
 grind
theorem told {h:AH} {l:List AV} (H:Iw Tryz.prog h 8 Tryz.f3.params.toList l):wp ((lf S3) (Qj 4 (callT tab qz 60)) l h) λv _=>v=.bool true:=by
 have e:Tryz.f3.params.toList=[24,25,26,27]:=by rfl
 rw[e]at H;obtain⟨a0,a1,a2,a3,rfl,H0,H1,H2,H3⟩:=PD H;simp only[AD,Tryz.underlying24,Tryz.underlying25,Tryz.underlying26,Tryz.underlying27]at H0 H1 H2 H3;obtain⟨ls,SL,_⟩:=qyT Tryz.underlying25 Tryz.underlying26 (by rfl) H1;obtain⟨pk,SK,Ch⟩:=qzm H3;obtain⟨ya,ea,ca⟩:=H2;cases ea;obtain⟨xs,rfl,H0⟩:=H0;unfold WT at H0;simp only[Tryz.underlying24]at H0;obtain⟨g1,g2⟩:=H0;rw[show Tryz.prog.cellsOf 24=7 by rfl]at g1
 match xs,g1 with
 |[x0,x1,x2,x3,x4,x5,x6],_=>have f0:=g2 _ (iK ..);have f1:=g2 _ (iX _ (iK ..));have f2:=g2 _ (iX _ (iX _ (iK ..)));have f3:=g2 _ (iX _ (iX _ (iX _ (iK ..))));have f4:=g2 _ (iX _ (iX _ (iX _ (iX _ (iK ..)))));have f5:=g2 _ (iX _ (iX _ (iX _ (iX _ (iX _ (iK ..))))));have f6:=g2 _ (iX _ (iX _ (iX _ (iX _ (iX _ (iX _ (iK ..)))))));rw[show Tryz.prog.cellsOf 3=1 by rfl]at f0 f1 f2 f3 f4 f5;rw[show Tryz.prog.cellsOf 22=1 by rfl]at f6;simp only[List.drop_succ_cons,List.drop_zero,List.take_succ_cons,List.take_zero]at f0 f1 f2 f3 f4 f5 f6;unfold WT at f0 f1 f2 f3 f4 f5 f6;simp only[Tryz.underlying3]at f0 f1 f2 f3 f4 f5;simp only[Tryz.underlying22]at f6;obtain⟨y0,e0,_⟩:=f0;obtain⟨y1,e1,_⟩:=f1;obtain⟨y2,e2,_⟩:=f2;obtain⟨y3,e3,_⟩:=f3;obtain⟨y4,e4,_⟩:=f4;obtain⟨y5,e5,_⟩:=f5;obtain⟨y6,e6,e6'⟩:=f6;cases e0;cases e1;cases e2;cases e3;cases e4;cases e5;cases e6;exact law omQ ⟨e6'.1,Int.lt_of_le_of_lt e6'.2 od⟩ SL ⟨ca.1,Int.lt_of_le_of_lt ca.2 od⟩ SK Ch
end topBank
end Go.Proofs.YtolpbdncppeohaaGreatDoor
