/- Lemmas for 'quietus/quietuslaw29.HistoryMade', walks of its functions among them. No condition. -/
import Derived.Test.YtaljafbgbfmcbaaGreatHistoryMadeM3
import Derived.Test.YtaljafbgbfmcbaaGreatHistoryMadeM1
namespace Go.Proofs.YtaljafbgbfmcbaaGreat
open Go Go.Ae
set_option maxRecDepth 100000
section
variable {S:je} {w0:List Int} {E F:Env} {i:Nat} {x:q9} {c:jX}
def gW (x:q9):Option jX:=if x.state=6 then x.c else none
structure VR (S:je) (w0:List Int) (E:Env) (x:q9):Prop where
  ok:∀y∈x.r,oV S E x.aa y.1 y.2
  rt:RT S w0 E x.aa x.v.K
  kr:∀c∈x.v.K,∃v,(nq S c.1,v)∈x.r
def jQ4 (E:Env) (j v:Int):Prop:=v<(jj E.M.l j).1∨nr E j
structure Lo (S:je) (w0:List Int) (E:Env) (x:q9):Prop where
  at_:x.f.at_=x.v.aB
  st:x.f.aA=nq S x.v.aB
  aa:x.f.aa=x.aa
  lk:x.f.state=1∨x.f.state=2→x.f.lk.2=(false,0)∧x.f.lk.1≤x.aa∧x.f.lk.1≤(jj E.M.l x.f.aA).1
  s2:x.f.state=2→jQ4 E x.f.aA x.f.lk.1∨((jj E.M.l x.f.aA).1=x.f.lk.1∧x.f.word=hv E.G w0 (x.aa-S.start).toNat x.v.aB∧Gd S E x.f.aA x.f.lk.1 x.aa)
structure Lp (S:je) (E:Env) (x:q9):Prop where
  seen:x.e.seen=x.r
  fin:x.e.p.fin=0
  a0:0≤x.e.at_
  ld:x.e.aU=true→x.aa≤x.e.aa∧x.e.aa≤E.M.n∧∀(k:Nat) (y:z6),(k:Int)<x.e.at_→x.r[k]? =some y→oV S E x.e.aa y.1 y.2
  l0:x.e.aU=false→x.e.at_=0
structure DU (S:je) (w0:List Int) (E:Env) (x:q9) (c:jX):Prop where
  seen:c.seen=x.r
  cells:c.cells=jP x.v.lv
  aa:c.state≤4→c.aa=x.aa
  wg:c.ag=true↔bV c
  a0:c.state≤3→c.at_=0
  pr:c.state=4→∀(k:Nat) (y:z6),(k:Int)<c.at_→x.r[k]? =some y→oV S E c.now y.1 y.2
  wr:bV c→x.aa=c.now+1∧RT S w0 E c.now x.v.K
  sn:3≤c.state→c.state≤4→x.aa≤c.now
  f7:c.state=7→c.bn=4∨c.bn=5
def qKR (x:q9):Prop:=x.fin=2∧jP x.v.lv≠[]
structure EndI (S:je) (w0:List Int) (E:Env) (x:q9):Prop where
  no:¬qKR x→RT S w0 E x.aa x.v.K
  yes:qKR x→RT S w0 E (x.aa-1) x.v.K∧S.start<x.aa∧E.G (x.aa-S.start).toNat=jP x.v.lv
structure yJ (S:je) (w0:List Int) (E:Env) (i:Nat) (x:q9):Prop where
  lk:vp S E.M.n x i
  z:x.state≤1→x.v.K=[]∧x.r=[]
  t:2≤x.state→S.start≤x.aa∧x.aa≤E.M.n
  live:2≤x.state→x.state≤6→(∀c,x.state=6→x.c=some c→¬bV c)→VR S w0 E x
  f:x.state=3→Lo S w0 E x
  e:x.state=4∨x.state=5→Lp S E x
  c:x.state=6→∀c,x.c=some c→DU S w0 E x c
  end_:7≤x.state→EndI S w0 E x
theorem VR.later (V:VR S w0 E x) (L:yi S E F) (O:Ys S E) (t:S.start≤x.aa∧x.aa≤E.M.n):VR S w0 F x :=
 ⟨λy hy=>(V.ok y hy).later L O t.2,V.rt.later L O t.1 t.2,V.kr⟩
theorem Lo.later (V:Lo S w0 E x) (L:yi S E F) (_:Ys S E) (t:S.start≤x.aa∧x.aa≤E.M.n) (h0:0≤x.f.aA∧x.f.aA<S.ae):Lo S w0 F x:=by
 have hv:=L.v _ h0.1 h0.2;refine⟨V.at_,V.st,V.aa,λh=>?_,λh=>?_⟩
 ·obtain⟨a,b,c⟩:=V.lk h;grind
 ·obtain⟨_,_,l3⟩:=V.lk (.inr h);by_cases hw:nr F x.f.aA
  ·exact .inl (.inr hw)
  ·rcases V.s2 h with(g |g) |⟨g1,g2,g3⟩
   ·exact .inl (.inl (Int.lt_of_lt_of_le g hv))
   ·rcases L.w _ h0.1 h0.2 g with g |g
    ·grind
    ·exact .inl (.inl (Int.lt_of_le_of_lt l3 g))
   ·by_cases e:(jj F.M.l x.f.aA).1=(jj E.M.l x.f.aA).1
    ·refine .inr ⟨e.trans g1,?_,λs h1 h2 ht=>?_⟩
     ·rw[g2];refine(qKO _ λk hk=>?_).symm;rcases L.g k with e1 |e1 |⟨e1,_⟩
      ·rw[e1]
      ·omega
      ·have hnt:¬Touch S (F.G k) (nq S x.v.aB):=λht=>by
        rw[← V.st]at ht;rcases L.b k _ h0.1 h0.2 omQ ht with h' |h' |h'
        ·rw[e1]at h';obtain⟨q,hq,_⟩:=h';grind
        all_goals grind
       rw[Touch.none hnt,e1];rfl
     ·rcases L.b _ _ h0.1 h0.2 omQ ht with h' |h' |h'
      ·exact g3 s h1 h2 h'
      all_goals grind
    ·exact .inl (.inl omQ)
theorem yJ.later (A:yJ S w0 E i x) (L:yi S E F) (O:Ys S E) (hn:∀c,x.state=6→x.c=some c→4≤c.state→c.state≤6→S.start≤c.now∧c.now+1≤E.M.n):yJ S w0 F i x:=by
 refine⟨A.lk.mono L.n,A.z,λh=>⟨(A.t h).1,Int.le_trans (A.t h).2 L.n⟩,λh1 h2 h3=>(A.live h1 h2 h3).later L O (A.t h1),λh=>(A.f h).later L O (A.t omQ) (A.lk.f h).1,λh=>?_,λh c hc=>?_,λh=>?_⟩
 ·have V:=A.e h;exact⟨V.seen,V.fin,V.a0,λhl=>⟨(V.ld hl).1,Int.le_trans (V.ld hl).2.1 L.n,λk y h1 h2=>((V.ld hl).2.2 k y h1 h2).later L O (V.ld hl).2.1⟩,V.l0⟩
 ·have V:=A.c h c hc;refine⟨V.seen,V.cells,V.aa,V.wg,V.a0,λh4 k y h1 h2=>(V.pr h4 k y h1 h2).later L O ?_,λhw=>⟨(V.wr hw).1,(V.wr hw).2.later L O ?_ ?_⟩,V.sn,V.f7⟩
  ·grind
  all_goals grind[bV]
 ·have V:=A.end_ h;have t:=A.t omQ;refine⟨λhw=>(V.no hw).later L O t.1 t.2,λhw=>?_⟩;obtain⟨v1,v2,v3⟩:=V.yes hw;refine⟨v1.later L O omQ omQ,v2,?_⟩;rcases L.g (x.aa-S.start).toNat with e |e |⟨e,_⟩
  ·grind
  ·omega
  ·rw[v3]at e;exact absurd e hw.2
structure Yv (S:je) (w0:List Int) (E:Env) (i:Nat) (x:q9):Prop where
  l0:AttL0 S x i
  t:S.start≤x.aa∧x.aa≤E.M.n
  lv:VR S w0 E x
theorem Yv.out (X:Yv S w0 E i x) {f e z:Int} (h:f≠2∨jP x.v.lv=[]):yJ S w0 E i (z4 x f e z) :=
 ⟨X.l0.out,λh=>absurd h (by nofun),λ_=>X.t,λ_ h=>absurd h (by nofun),λh=>(by cases h),λh=>(by rcases h with h |h<;>cases h),λh=>(by cases h),
  λ_=>⟨λ_=>X.lv.rt,λhw=>by rcases h with h |h;exact absurd hw.1 h;exact absurd h hw.2⟩⟩
theorem Yv.ask (SO:xo S) (X:Yv S w0 E i x) (h0:0≤x.v.aB):yJ S w0 E i (Xi x x.v.aB) :=
 ⟨X.l0.ask SO h0,λh=>absurd h (by nofun),λ_=>X.t,λ_ _ _=>⟨X.lv.ok,X.lv.rt,X.lv.kr⟩,
  λ_=>⟨rfl,by show ofM x.v.aB x.set.ae x.set.wide=_;rw[X.l0.set];rfl,rfl,λh=>(by rcases h with h |h<;>cases h),λh=>by cases h⟩,λh=>(by rcases h with h |h<;>cases h),λh=>(by cases h),λh=>absurd h (by nofun)⟩
theorem Yv.ui (X:Yv S w0 E i x) {s:Int} (hs:s=4∨s=5):yJ S w0 E i (Qz x s):=by have e:(Qz x s).state=s:=rfl;refine⟨X.l0.later hs,λh=>omQ,λ_=>X.t,λ_ _ _=>⟨X.lv.ok,X.lv.rt,X.lv.kr⟩,λh=>omQ,λ_=>⟨rfl,rfl,Int.le_refl _,λh=>(by cases h),λ_=>rfl⟩,λh=>omQ,λh=>by omega⟩
theorem jQH (x:q9):(zl x).2.c=x.c∧(zl x).2.state=x.state:=by
 unfold zl
 grind
theorem Yv.mq (SO:xo S) (X:Yv S w0 E i x) (B:JC x) (hj:bS True x.v x.aD):yJ S w0 E i (yX x):=by
 have D:=Uq B.aE B.fr hj;have K:vp S E.M.n (yX x) i:=X.l0.mq SO B hj;have X':Yv S w0 E i (zl x).2:=by
  refine⟨⟨D.same.1.trans X.l0.me,D.same.2.1.trans X.l0.set,by rw[D.same.2.2.1];exact X.l0.r,by rw[qJU];exact qJM X.l0.inv⟩,by rw[D.same.2.2.2.1];exact X.t,⟨?_,?_,?_⟩⟩
  ·rw[D.same.2.2.1,D.same.2.2.2.1];exact X.lv.ok
  ·rw[D.same.2.2.2.1,D.kept.2.1];exact X.lv.rt
  ·rw[D.same.2.2.1,D.kept.2.1];exact X.lv.kr
 unfold yX at K ⊢;generalize(zl x).1=ke at*;generalize(zl x).2=d at*;unfold xx at K ⊢
 split
 ·rename_i h1;exact X'.ask SO (by have:=(D.aB h1).1;omega)
 ·rename_i h1;rw[iQ h1]at K
  split
  ·exact Yv.ui (x:={ d with aL:=true }) ⟨⟨X'.l0.me,X'.l0.set,X'.l0.r,X'.l0.inv⟩,X'.t,⟨X'.lv.ok,X'.lv.rt,X'.lv.kr⟩⟩ (.inr rfl)
  ·rename_i h3;rw[iQ h3]at K
   split
   ·exact X'.out (.inl od)
   ·rename_i h4;rw[iQ h4]at K
    split
    ·rename_i h;exact X'.out (.inr h)
    ·rename_i bW;rw[iQ bW]at K;have bK:∀me sp st r cs a w,(Xz me sp st r cs a w).state=0∨(Xz me sp st r cs a w).state=2:=λme sp st r cs a w=>by
      unfold Xz zk;grind
     refine⟨K,λh=>absurd h (by simp),λ_=>X'.t,λ_ _ _=>⟨X'.lv.ok,X'.lv.rt,X'.lv.kr⟩,λh=>(by grind),λh=>(by grind),λ_ c hc=>?_,λh=>absurd h (by simp)⟩;cases hc;have:=bK d.me d.set.spins d.aa d.r (jP d.v.lv) d.set.ae d.set.wide;exact⟨rfl,rfl,λ_=>rfl,⟨λh=>(by cases h),λh=>by grind[bV]⟩,λ_=>rfl,λh=>omQ,λh=>(by grind[bV]),λh=>omQ,λh=>by omega⟩
theorem yJ.stamped (A:yJ S w0 E i x) (h:x.c=none):yJ S w0 E i (jZ x):=by
 grind[jZ,j4]
end
section
variable {S:je} {w0:List Int} {F:Env} {i:Nat} {x:q9}
theorem qx1 {r:List z6} {s:z6} (h:(gE r s).1=0):(∀y∈r,y∈(gE r s).2)∧s∈(gE r s).2∧∀y∈(gE r s).2,y∈r∨y=s:=by
 unfold gE at*
 grind
theorem qkO {V:VM} {p w:Int}:(yE V p w).2.K=V.K∨(yE V p w).2.K=V.K++[(p,w)]:=by
 unfold yE
 grind
theorem yJ.DV (A:yJ S w0 F i x) (h2:2≤x.state) (h5:x.state≤5):Yv S w0 F i x:=⟨A.lk.toAttL0,A.t h2,A.live h2 omQ λc h _=>by omega⟩
theorem wS {y:q9} (_:x.c=none) (e:(if(zd x).1=0 then x else if(zd x).1=5 then z4 x 5 0 (zd x).2 else jd x)=y) (hy:yJ S w0 F i y) (r4:y.c=none∨(qS y=false)):yJ S w0 F i (jz x):=by
 grind[jz,jZ,j4]
theorem xk.cC (I:xk S w0 F) {j:Int} (h0:0≤j) (h1:j<S.ae) (hf:¬(jj F.M.l j).2.1=true):(jj F.M.l j).2=(false,0):=by have:=(I.ml.lk j h0 h1).1;unfold kB at this;grind
theorem yJ.Lq (SO:xo S) (I:xk S w0 F) (A:yJ S w0 F i x) (O:zm x) (h3:x.state=3) {a:cB} (ha:a.err=0) (DW:vB a) (hw:x.f.state=1→a.word=qB F.M.w x.v.aB) (hk:x.f.state≠1→a.lk=jj F.M.l x.f.aA):yJ S w0 F i (jz { x with f:=zC x.f a }):=by
 have X:=A.DV omQ omQ;have V:=A.f h3;obtain⟨oE,oG⟩:=A.lk.f h3;have mG:=O.c0 omQ;have uj:=O.aB omQ omQ;have bz:(x.v.sz:Int)=S.words:=by rw[O.sz,A.lk.set]
 have uM:=XI (O.f h3).2 DW;have ef:∀f:QE,zd { x with f:=f }=(f.p.fin,f.p.bH):=λf=>by simp_all[zd]
 have going:∀f:QE,f.p.fin=0→f.aA=x.f.aA→Lo S w0 F { x with f:=f }→yJ S w0 F i (jz { x with f:=f }):=λf h0 hs hf=>by
  refine wS (x:={ x with f:=f }) (y:={ x with f:=f }) mG (by grind) ⟨⟨⟨A.lk.me,A.lk.set,A.lk.r,A.lk.inv⟩,λ_=>⟨by grind,h0⟩,A.lk.c⟩,A.z,A.t,λa b c=>⟨X.lv.ok,X.lv.rt,X.lv.kr⟩,λ_=>hf,λh=>?_,λh=>?_,λh=>?_⟩ (.inl mG)
  all_goals grind
 have XF:∀f:QE,Yv S w0 F i { x with f:=f }:=λf=>⟨⟨A.lk.me,A.lk.set,A.lk.r,A.lk.inv⟩,X.t,⟨X.lv.ok,X.lv.rt,X.lv.kr⟩⟩;have ft:zC x.f a=(if x.f.state=1 then{ x.f with word:=a.word,state:=2 }else if x.f.state=2∧a.lk=x.f.lk then{ x.f with p:=jI x.f.p 2 0 (-1) }else w9 x.f a.lk):=by simp_all[zC,Qx]
 rw[ft]at uM ⊢;by_cases s1:x.f.state=1
 ·rw[iJ s1];refine going _ oG rfl ⟨V.at_,V.st,V.aa,λ_=>V.lk (.inl s1),λ_=>?_⟩;obtain⟨l1,l2,l3⟩:=V.lk (.inl s1);show jQ4 F x.f.aA x.f.lk.1∨((jj F.M.l x.f.aA).1=x.f.lk.1∧a.word=_∧_);by_cases nA:nr F x.f.aA
  ·exact .inl (.inr nA)
  ·by_cases ap:x.f.lk.1<(jj F.M.l x.f.aA).1
   ·exact .inl (.inl ap)
   ·have he:(jj F.M.l x.f.aA).1=x.f.lk.1:=by omega
    have q:Gd S F x.f.aA x.f.lk.1 F.M.n:=λs g1 g2 ht=>by
     obtain⟨i',c',h1,h2,_,h4⟩:=I.dH _ s oE.1 oE.2 omQ g2 ht;exact nA ⟨i',c',h1,h2,h4⟩
    have q2:Gd S F x.f.aA x.f.lk.1 x.aa:=λs g1 g2=>q s g1 (by have:=X.t.2;omega);refine .inr ⟨he,?_,q2⟩;have t:=X.t;rw[hw s1,I.word uj.1 omQ λi' c' h1 h2 h4=>nA ⟨i',c',h1,h2,by rw[V.st];grind⟩];rw[V.st]at q q2;exact Mw (v:=x.f.lk.1) omQ t.1 omQ l2 q q2
 ·rw[iQ s1]at uM ⊢;have hk:=hk s1;by_cases s2:x.f.state=2∧a.lk=x.f.lk
  ·rw[iJ s2]at uM ⊢;obtain⟨l1,l2,l3⟩:=V.lk (.inr s2.1);have hm:jj F.M.l x.f.aA=x.f.lk:=by grind
   have mQ:(jj F.M.l x.f.aA).2.1=false:=by grind
   have cH:oV S F x.aa x.f.aA x.f.lk.1:=by
    have:=I.free oE.1 oE.2 mQ (T:=x.aa) (by grind) X.t.2
    grind
   have DX:x.f.word=hv F.G w0 (x.aa-S.start).toNat x.v.aB:=by
    rcases V.s2 s2.1 with(g |⟨i',c',g1,_,g2⟩) |⟨_,g,_⟩
    ·grind
    ·rw[(I.own g1 g2).1]at mQ;grind
    grind
   refine wS (x:={ x with f:={ x.f with p:=jI x.f.p 2 0 (-1) } }) mG (y:=zZ { x with f:={ x.f with p:=jI x.f.p 2 0 (-1) } }) ?_ ?_ ?_
   ·rw[ef,iQ (by nofun),iQ (by nofun)];simp_all[jd]
   ·have es:xl { x.f with p:=jI x.f.p 2 0 (-1) }=(x.f.aA,x.f.lk.1):=by
     rfl
    have ew:yj { x.f with p:=jI x.f.p 2 0 (-1) }=x.f.word:=by rfl
    unfold zZ;rw[iQ (by nofun)];dsimp only;rw[es,ew]
    split
    ·rename_i h0;obtain⟨a1,a2,a3⟩:=qx1 h0;have B:=O.b;have hj:bS True x.v x.aD:=O.aD.same λ_=>by omega
     have uL:=(O.f h3).2;have k:=QJ (V:=x.v) (p:=x.v.aB) (x:=x.f.word);refine Yv.mq SO (x:={ x with f:={ x.f with p:=jI x.f.p 2 0 (-1) },r:=(gE x.r (x.f.aA,x.f.lk.1)).2,v:=(yE x.v x.v.aB x.f.word).2 }) ⟨⟨A.lk.me,A.lk.set,qGI A.lk.r oE,qXi A.lk.inv⟩,X.t,⟨λy hy=>?_,λc fZ=>?_,λc fZ=>?_⟩⟩
      ⟨B.set,XJ B.aE uL,by rw[k.2];exact B.sz,by rw[k.1];exact B.fr,Ya B.r,(hj.nh (p:=x.v.aB) uL).dead not_false,B.c⟩ (hj.nh (p:=x.v.aB) uL)
     ·rcases a3 y hy with h |h
      ·exact X.lv.ok y h
      grind
     ·have fZ:c∈(yE x.v x.v.aB x.f.word).2.K:=fZ;rcases qkO (V:=x.v) (p:=x.v.aB) (w:=x.f.word)with e |e
      ·rw[e]at fZ;exact X.lv.rt c fZ
      ·rw[e]at fZ;rcases List.mem_append.1 fZ with fZ |fZ
       ·exact X.lv.rt c fZ
       ·rw[List.mem_singleton.1 fZ];exact⟨DX,by rw[← V.st];exact cH.np⟩
     ·have fZ:c∈(yE x.v x.v.aB x.f.word).2.K:=fZ;rcases qkO (V:=x.v) (p:=x.v.aB) (w:=x.f.word)with e |e
      ·rw[e]at fZ;obtain⟨v,hv⟩:=X.lv.kr c fZ;grind
      ·rw[e]at fZ;rcases List.mem_append.1 fZ with fZ |fZ
       ·obtain⟨v,hv⟩:=X.lv.kr c fZ;grind
       ·rw[List.mem_singleton.1 fZ];exact⟨x.f.lk.1,by show(nq S x.v.aB,x.f.lk.1)∈_;rw[← V.st];grind⟩
    ·split
     ·exact(XF _).out (.inl od)
     ·exact(XF _).out (.inl od)
   ·--it doesn't write
    refine .inr ?_;unfold zZ;rw[iQ (by nofun)]
    split
    ·grind[Ku]
    ·split<;>exact j4 mG
  ·rw[iQ s2]at uM ⊢;rw[hk];unfold w9
   split
   ·split
    ·exact going _ (cD.trans oG) rfl ⟨V.at_,V.st,V.aa,λh=>(by grind),λh=>by grind⟩
    ·refine wS (x:={ x with f:=_ }) mG (by rw[ef];exact(iQ (by nofun)).trans (iJ rfl)) ((XF _).out (.inl od)) (.inl mG)
   ·rename_i hf
    split
    ·refine wS (x:={ x with f:={ x.f with state:=0,p:=jI x.f.p 6 0 (-1) } }) mG (y:=Qz { x with f:={ x.f with state:=0,p:=jI x.f.p 6 0 (-1) } } 4) ?_ ((XF _).ui (.inl rfl)) (.inl mG);rw[ef,iQ (by nofun),iQ (by nofun)];unfold jd;rw[iJ (by grind)];rfl
    ·rename_i eO;refine going _ oG rfl ⟨V.at_,V.st,V.aa,λ_=>⟨I.cC oE.1 oE.2 hf,?_,Int.le_refl _⟩,λh=>by grind⟩;have eO:¬x.f.aa<(jj F.M.l x.f.aA).1:=eO;rw[V.aa]at eO;grind
theorem yJ.ext (SO:xo S) (I:xk S w0 F) (A:yJ S w0 F i x) (O:zm x) (AO:x.state=4∨x.state=5) {a:cB} (ha:a.err=0) (hw:x.e.aU=false→a.word=F.M.n) (hk:x.e.aU=true→a.lk=jj F.M.l (zW x.e.seen x.e.at_).1):yJ S w0 F i (jz { x with e:=zS x.e a }):=by
 have X:=A.DV omQ omQ;have V:=A.e AO;have EO:=O.e omQ omQ;have mG:=O.c0 omQ;have t:=X.t;have ef:∀e:wc,zd { x with e:=e }=(e.p.fin,e.p.bH):=λe=>by
  unfold zd;grind
 have going:∀e:wc,Lp S F { x with e:=e }→yJ S w0 F i (jz { x with e:=e }):=λe he=>by
  refine wS (x:={ x with e:=e }) (y:={ x with e:=e }) mG (by rw[ef];exact iJ he.fin) ⟨⟨⟨A.lk.me,A.lk.set,A.lk.r,A.lk.inv⟩,A.lk.f,A.lk.c⟩,A.z,A.t,λa b c=>⟨X.lv.ok,X.lv.rt,X.lv.kr⟩,λh=>absurd h (by grind),λ_=>he,λh=>absurd h (by grind),λh=>absurd h (by grind)⟩ (.inl mG)
 have XE:∀(e:wc),Yv S w0 F i { x with e:=e }:=λe=>⟨⟨A.lk.me,A.lk.set,A.lk.r,A.lk.inv⟩,X.t,⟨X.lv.ok,X.lv.rt,X.lv.kr⟩⟩;have aC:∀e:wc,e.p.fin=5→yJ S w0 F i (jz { x with e:=e }):=λe h5=>wS (x:={ x with e:=e }) (y:=z4 { x with e:=e } 5 0 (zd { x with e:=e }).2) mG ((iQ (by grind)).trans (iJ (by grind))) ((XE _).out (.inl od)) (.inl mG)
 have done:∀e:wc,e.p.fin=2→S.start≤e.aa∧e.aa≤F.M.n→(∀y∈x.r,oV S F e.aa y.1 y.2)→yJ S w0 F i (jz { x with e:=e }):=λe h2 ht cH=>by
  have XD:Yv S w0 F i { x with e:=e,aa:=e.aa }:=⟨⟨A.lk.me,A.lk.set,A.lk.r,A.lk.inv⟩,ht,⟨cH,λc hc=>?_,X.lv.kr⟩⟩
  ·have est:yT e=e.aa:=by simp_all[yT]
   rcases AO with h4 |h5
   ·refine wS (x:={ x with e:=e }) mG (y:=Xi { x with e:=e,aa:=e.aa } x.v.aB) ?_ (XD.ask SO (by have:=O.aB omQ omQ;grind)) (.inl mG);simp_all[jd]
   ·refine wS (x:={ x with e:=e }) mG (y:=z4 { x with e:=e,aa:=e.aa } 3 0 (-1)) ?_ (XD.out (.inl od)) (.inl mG);simp_all[jd]
  ·obtain⟨v,hv⟩:=X.lv.kr c hc;have o1:=X.lv.ok _ hv;have o2:=cH _ hv;obtain⟨k1,k2⟩:=X.lv.rt c hc;refine⟨?_,o2.np⟩;rw[k1];exact Mw t.1 ht.1 o1.le o2.le o1.q o2.q
 have et:zS x.e a=(if x.e.aU=false then Qg { x.e with aU:=true,aa:=a.word }
   else if a.lk.2.1=true then(if(jQ x.e.p a.lk).1=true then{ x.e with p:=(jQ x.e.p a.lk).2 }else{ x.e with p:=jI (jQ x.e.p a.lk).2 5 0 a.lk.2.2 })
   else if a.lk.1≠(zW x.e.seen x.e.at_).2 then{ x.e with p:=jI x.e.p 5 0 (-1) }
   else Qg { x.e with at_:=x.e.at_+1 }):=by
  unfold zS;rw[Qx V.fin ha,iQ (λh=>by grind)]
 rw[et];cases hl:x.e.aU with
 |false=>
  rw[iJ rfl,hw hl];have h0:=V.l0 hl;have hn:x.aa≤F.M.n:=t.2;unfold Qg
  split
  ·rename_i he;have he:x.e.at_=(x.e.seen.length:Int):=he;refine done _ rfl ⟨I.st,Int.le_refl _⟩ λy hy=>?_;rw[V.seen,h0]at he;grind
  ·exact going _ ⟨V.seen,V.fin,V.a0,λ_=>⟨hn,Int.le_refl _,λk y h1 h2=>absurd h1 (by grind)⟩,λh=>by grind⟩
 |true=>
  rw[iQ od];obtain⟨l1,l2,l3⟩:=V.ld hl;have ap:=EO.mH V.fin hl;have hk:=hk hl;obtain⟨k,mU⟩:∃k:Nat,x.e.at_=k:=⟨x.e.at_.toNat,by have:=V.a0;omega⟩;have fR:k<x.r.length:=by rw[V.seen]at ap;omega
  have Fb:zW x.e.seen x.e.at_=x.r[k]:=by unfold zW;rw[V.seen,mU,Int.toNat_natCast,iW fR];rfl
  rw[Fb]at hk ⊢;have Lr:=List.getElem_mem fR;have hr:=A.lk.r _ Lr;rw[hk]
  split
  ·split
   ·refine going _ ⟨V.seen,cD.trans V.fin,V.a0,λ_=>⟨l1,l2,l3⟩,λh=>?_⟩;grind
   ·exact aC _ rfl
  ·rename_i hf
   split
   ·exact aC _ rfl
   ·rename_i hv;have hv:(jj F.M.l (x.r[k]).1).1=(x.r[k]).2:=by grind
    have o1:=X.lv.ok _ Lr;have ok1:oV S F x.e.aa (x.r[k]).1 (x.r[k]).2:=by
     have:=I.free hr.1 hr.2 (by grind) (T:=x.e.aa) (by rw[hv];have:=o1.le;omega) l2
     grind
    have all:∀(q:Nat) (y:z6),(q:Int)<x.e.at_+1→x.r[q]? =some y→oV S F x.e.aa y.1 y.2:=λq y h1 h2=>by
     grind
    unfold Qg
    split
    ·rename_i he;have he:x.e.at_+1=(x.e.seen.length:Int):=he;rw[V.seen]at he;refine done _ rfl ⟨by grind,l2⟩ λy hy=>?_;obtain⟨q,hq,e⟩:=List.mem_iff_getElem.1 hy;exact all q y omQ (by grind)
    ·refine going _ ⟨V.seen,V.fin,by grind,λ_=>⟨l1,l2,all⟩,λh=>?_⟩;grind
theorem yJ.DY (SO:xo S) (I:xk S w0 F) (A:yJ S w0 F i x) (O:zm x) (h6:x.state≠6) {a:cB} (ha:a.err=0) (DW:vB a) (h1:x.state=1→a.word=F.M.n)
  (hw:x.state=3→x.f.state=1→a.word=qB F.M.w x.v.aB) (hk:x.state=3→x.f.state≠1→a.lk=jj F.M.l x.f.aA)
  (dS:x.state=4∨x.state=5→x.e.aU=false→a.word=F.M.n) (oh:x.state=4∨x.state=5→x.e.aU=true→a.lk=jj F.M.l (zW x.e.seen x.e.at_).1):yJ S w0 F i (qd x a):=by
 have bK:=O.st;unfold qd;by_cases h8:x.state=8
 ·grind
 rw[iQ h8,iQ (λh=>h ha)];by_cases s0:x.state=0
 ·rw[iJ s0];exact⟨⟨⟨A.lk.me,A.lk.set,A.lk.r,A.lk.inv⟩,λh=>(by grind),λh=>by grind⟩,λ_=>A.z omQ,λh=>absurd h (by simp),λh=>absurd h (by simp),λh=>(by grind),λh=>(by grind),λh=>(by grind),λh=>absurd h (by simp)⟩
 rw[iQ s0];by_cases s1:x.state=1
 ·rw[iJ s1,h1 s1];have hz:=A.z omQ;refine⟨⟨⟨A.lk.me,A.lk.set,A.lk.r,A.lk.inv⟩,λh=>(by grind),λh=>by grind⟩,λh=>absurd h (by simp),λ_=>⟨I.st,Int.le_refl _⟩,λ_ _ _=>⟨λy hy=>?_,λc hc=>?_,λc hc=>?_⟩,λh=>(by grind),λh=>(by grind),λh=>(by grind),λh=>absurd h (by simp)⟩
  all_goals grind
 rw[iQ s1];by_cases s2:x.state=2
 ·rw[iJ s2];exact(A.DV omQ omQ).mq SO O.b (O.aD.same λ_=>by omega)
 rw[iQ s2];by_cases s7:x.state=7
 ·rw[iJ s7];have V:=A.end_ omQ;exact⟨⟨⟨A.lk.me,A.lk.set,A.lk.r,A.lk.inv⟩,λh=>(by grind),λh=>by grind⟩,λh=>absurd h (by simp),λ_=>A.t omQ,λ_ h=>absurd h (by simp),λh=>(by grind),λh=>(by grind),λh=>(by grind),λ_=>⟨V.no,V.yes⟩⟩
 rw[iQ s7];by_cases s3:x.state=3
 ·rw[iJ s3];exact A.Lq SO I O s3 ha DW (hw s3) (hk s3)
 rw[iQ s3,iQ h6];exact A.ext SO I O omQ ha (dS omQ) (oh omQ)
end
section
variable {S:je} {w0:List Int} {E F:Env} {i:Nat} {x:q9} {c d:jX} {M':zG}
def dA (S:je) (w0:List Int) (E:Env) (i:Nat) (M':zG) (y:q9):Prop :=
 ∃G',xk S w0 ⟨M',G',cU E.C i (gW y)⟩∧yi S E ⟨M',G',cU E.C i (gW y)⟩∧yJ S w0 ⟨M',G',cU E.C i (gW y)⟩ i y∧(∀k,G' k=E.G k∨(G' k=jP y.v.lv∧qS y=true∧(y.aa-S.start).toNat=k))∧(qS y=true→(∃c,E.C i=some c∧bV c)∨E.G (y.aa-S.start).toNat=[])
theorem Lt (h6:x.state=6):zd { x with c:=some d }=(d.p.fin,d.p.bH):=by simp_all[zd]
theorem yu {y:q9} {e:jX} (h8:y.state≠8) (hc:y.c=some e):qS y=((e.ag&&decide (e.p.fin=0))||decide (e.p.fin=2)):=by simp_all[qS,xG,iG]
theorem Y6 {y:q9} {e:jX} (h8:y.state≠8) (hc:y.c=some e) (hw:e.ag=false) (hf:e.p.fin≠2):qS y=false:=by simp_all[yu,iV]
theorem Cb {y:q9} {P:Prop} (h:qS y=false):qS y=true→P:=λh'=>by grind
theorem wA {y:q9} (h:qS y=false):jZ y=y:=by grind[jZ]
theorem Yn {y:q9} {e:jX} (hc:y.c=some e) (h:qS y=true):jZ y={ y with aa:=vF e }:=by simp_all[jZ]
theorem Zj (h6:x.state=6) (h0:d.p.fin=0):jz { x with c:=some d }=if d.ag=true then{ x with c:=some d,aa:=d.now+1 }else{ x with c:=some d }:=by
 unfold jz;rw[Lt h6,iJ h0];cases hw:d.ag with
 |true=>rw[iJ rfl,Yn (e:=d) rfl (by rw[yu (e:=d) (by grind) rfl,hw,iG h0];rfl)];simp_all[vF]
 |false=>rw[iQ od,wA];rw[yu (e:=d) (by grind) rfl,hw,iV (by omega:¬d.p.fin=2)];rfl
theorem OP (h6:x.state=6) (hf:d.p.fin=4∨d.p.fin=5) (hw:d.ag=false):∃e z,jz { x with c:=some d }=z4 { x with c:=some d } d.p.fin e z:=by
 have hs:∀y:q9,y.state≠8→y.c=some d→jZ y=y:=λy h8 hy=>by
  refine wA ?_;rw[yu h8 hy,hw,iV (by omega:¬d.p.fin=2)];rfl
 unfold jz;rw[Lt h6];rcases hf with h |h
 ·refine⟨d.p.err,-1,?_⟩;rw[iQ (by grind),iQ (by grind)];unfold jd;rw[iQ (by grind),iQ (by grind),iQ (by grind)];exact hs _ (by nofun) rfl
 ·refine⟨0,d.p.bH,?_⟩;rw[iQ (by grind),iJ (by grind),h];exact hs _ (by nofun) rfl
theorem V4 (h6:x.state=6) (h2:d.p.fin=2) (hw:d.ag=true):jz { x with c:=some d }={ z4 { x with c:=some d } 2 d.p.err (-1)with aa:=d.now+1 }:=by unfold jz;rw[Lt h6,iQ (by grind),iQ (by grind)];unfold jd;rw[iQ (by grind),iQ (by grind),iQ (by grind)];dsimp only;rw[Yn (y:=z4 { x with c:=some d } d.p.fin d.p.err (-1)) (e:=d) rfl (by rw[yu (e:=d) (by nofun) rfl,hw,iG h2,Bool.or_true]),h2];simp_all[vF]
theorem yJ.Cc {z:Int} (l0:AttL0 S x i) (h6:x.state=6) (lk:wT S F.M.n d i) (h0:d.p.fin=0) (t:S.start≤z∧z≤F.M.n) (lv:¬bV d→VR S w0 F { x with c:=some d,aa:=z }) (J:DU S w0 F { x with c:=some d,aa:=z } d):yJ S w0 F i { x with c:=some d,aa:=z } :=
 ⟨⟨⟨l0.me,l0.set,l0.r,l0.inv⟩,λh=>absurd h (by grind),λ_ e he=>by grind⟩,λh=>absurd h (by grind),λ_=>t,λ_ _ h=>lv (h d h6 rfl),λh=>absurd h (by grind),λh=>absurd h (by grind),
  λ_ e he=>by grind,λh=>absurd h (by grind)⟩
theorem wD (hM:M'.w=E.M.w∧M'.l=E.M.l∧M'.n=E.M.n):yi S E ⟨M',E.G,E.C⟩ :=
 ⟨by grind,λ_=>.inl rfl,λ_ e he h4=>.inr ⟨e,he,h4,rfl,rfl,rfl⟩,λj _ _=>by grind,λ_ _ _ h=>.inl h,λ_ _ _ _ _ h=>.inl h⟩
structure UU (S:je) (w0:List Int) (E:Env) (i:Nat) (x:q9) (c:jX):Prop where
  l0:AttL0 S x i
  t:S.start≤x.aa∧x.aa≤E.M.n
  lv:¬bV c→VR S w0 E x
  J:DU S w0 E x c
theorem yJ.att6 (A:yJ S w0 E i x) (h6:x.state=6) (hc:x.c=some c):UU S w0 E i x c :=
 ⟨A.lk.toAttL0,A.t omQ,λnw=>A.live omQ omQ λe _ he=>by grind,A.c h6 c hc⟩
theorem Mh (I:xk S w0 E) (A:UU S w0 E i x c) (h6:x.state=6) (hC:E.C i=some c) (h4:c.state≤4) (hM:M'.w=E.M.w∧M'.l=E.M.l∧M'.n=E.M.n)
  (hd:wT S E.M.n d i) (es:d.s=c.s) (ee:d.seen=c.seen) (ec:d.cells=c.cells) (ew:d.aw=c.aw) (et:d.aa=c.aa) (eg:d.ag=false) (nw:¬bV d)
  (mI:3≤d.state→d.state≤6→S.start≤d.now∧∀w∈d.aw,w.1≤d.now) (p4:d.state=4→c.state=4∧d.now=c.now∧∀(k:Nat) (y:z6),(k:Int)<d.at_→x.r[k]? =some y→oV S E d.now y.1 y.2) (a0:d.state≤3→d.at_=0)
  (hf:d.p.fin=0∨d.p.fin=4∨d.p.fin=5) (hsn:3≤d.state→d.state≤4→x.aa≤d.now) (hf7:d.state=7→d.bn=4∨d.bn=5):dA S w0 E i M' (jz { x with c:=some d }):=by
 have ib:¬bV c:=by grind[bV]
 have CI:=I.dL i c hC;have J:=A.J;have V:=A.lv ib;have t:=A.t;have I1:=I.same hM;have hCI:d.p.fin=0→Gn S M'.n d i:=λh0=>⟨by rw[hM.2.2];exact hd.mJ h0,h0,by rw[ec,es];exact CI.mH,by rw[ec];exact CI.un,by rw[ec];exact CI.ne,mI⟩;have fX:∀o:Option jX,(∀e,o=some e→e=d∧d.p.fin=0)→xk S w0 ⟨M',E.G,cU E.C i o⟩∧yi S E ⟨M',E.G,cU E.C i o⟩:=λo ho=>by
  obtain⟨a,b⟩:=I1.swap (i:=i) (λe he=>by grind) (o:=o) λe he=>by
   obtain⟨rfl,h0⟩:=ho e he;refine⟨hCI h0,λk z w g1 g2 g3=>?_,nw,λh=>?_⟩
   ·show jj M'.l z=_;rw[hM.2.1];exact I.hold i c hC k z w (by grind) (by grind) λh=>by omega
   grind
  exact⟨a,(wD hM).trans b I.env⟩
 rcases hf with h0 |hf
 ·have ey:jz { x with c:=some d }={ x with c:=some d }:=by rw[Zj h6 h0,iQ (by grind)]
  have ea:gW { x with c:=some d }=some d:=iJ h6;obtain⟨r1,r2⟩:=fX (some d) λe he=>by grind
  rw[ey];refine⟨E.G,by grind,by grind,?_,λ_=>.inl rfl,Cb (Y6 (e:=d) (by grind) rfl eg omQ)⟩;rw[ea];have V':=V.later r2 I.env t;refine yJ.Cc (z:=x.aa) A.l0 h6 (by grind) h0 ⟨t.1,by grind⟩ (λ_=>⟨V'.ok,V'.rt,V'.kr⟩) ⟨by rw[ee];exact J.seen,by rw[ec];exact J.cells,λ_=>by rw[et];exact J.aa h4,⟨λh=>(by grind),λh=>absurd h nw⟩,a0,λh k y g1 g2=>?_,λh=>absurd h nw,hsn,hf7⟩;obtain⟨q1,q2,q3⟩:=p4 h;have:=CI.lk.s4 omQ omQ;exact(q3 k y g1 g2).later r2 I.env omQ
 ·obtain⟨e,z,ey⟩:=OP (x:=x) h6 hf eg;have ea:gW (z4 { x with c:=some d } d.p.fin e z)=none:=iQ (by nofun);obtain⟨r1,r2⟩:=fX none λe he=>by grind
  rw[ey];refine⟨E.G,by grind,by grind,?_,λ_=>.inl rfl,Cb (Y6 (e:=d) (by nofun) rfl eg omQ)⟩;rw[ea];have V':=V.later r2 I.env t;exact Yv.out (x:={ x with c:=some d }) ⟨⟨A.l0.me,A.l0.set,A.l0.r,A.l0.inv⟩,⟨t.1,by grind⟩,⟨V'.ok,V'.rt,V'.kr⟩⟩ (.inl omQ)
theorem qkC (I:xk S w0 E) (A:UU S w0 E i x c) (h6:x.state=6) (hC:E.C i=some c) (h4:c.state=4) (hd:wT S E.M.n (zf c) i) (DZ:RT S w0 E c.now x.v.K):dA S w0 E i E.M (jz { x with c:=some (zf c) }):=by
 have CI:=I.dL i c hC;have J:=A.J;have dE:0<c.cells.length:=List.length_pos_iff.2 CI.ne;have eb:zf c={ c with ag:=true,at_:=0,state:=5 }:=by simp[zf,zV];omega
 rw[eb]at hd ⊢;have hn:=(CI.now omQ omQ);have pf:=CI.lk.s4 omQ omQ;have h0:({ c with ag:=true,at_:=0,state:=5 }:jX).p.fin=0:=CI.fin;have hCI:Gn S E.M.n { c with ag:=true,at_:=0,state:=5 } i:=⟨hd.mJ h0,h0,CI.mH,CI.un,CI.ne,λ_ _=>hn⟩;obtain⟨r1,r2⟩:=I.aI hC h4 hCI rfl rfl rfl rfl rfl rfl;have ey:jz { x with c:=some { c with ag:=true,at_:=0,state:=5 } }={ x with c:=some { c with ag:=true,at_:=0,state:=5 },aa:=c.now+1 }:=by rw[Zj h6 h0,iJ rfl]
 rw[ey];have ea:gW { x with c:=some { c with ag:=true,at_:=0,state:=5 },aa:=c.now+1 }=some { c with ag:=true,at_:=0,state:=5 }:=iJ h6;refine⟨_,by rw[ea];exact r1,by grind,?_,λk=>?_,λ_=>.inr (I.uN i c hC h4)⟩;rw[ea];refine yJ.Cc A.l0 h6 hd h0 ⟨by omega,pf⟩ (λh=>absurd (.inl rfl) h) ⟨J.seen,J.cells,λh=>absurd h (by simp),⟨λ_=>.inl rfl,λ_=>rfl⟩,λh=>absurd h (by simp),λh=>(by grind),λ_=>⟨rfl,?_⟩,λ_ h=>absurd h (by simp),λh=>by grind⟩;exact DZ.later r2 I.env hn.1 omQ;by_cases hk:k=(c.now+1-S.start).toNat
 ·subst hk;refine .inr ⟨?_,?_,rfl⟩
  ·show UI E.G _ c.cells _=jP x.v.lv;rw[← J.cells];exact iJ rfl
  ·rw[yu (e:={ c with ag:=true,at_:=0,state:=5 }) (by grind) rfl,iG h0];rfl
 ·exact .inl (iQ hk)
theorem qkU:∀{s:List Int} {w:List dz} {j v:Int},XH s w j=some v→∃(k:Nat) (q:dz),s[k]? =some j∧w[k]? =some q∧q.1=v:=by
 intro s
 induction s with
 |nil=>nofun
 |cons a s ih=>
  intro w j v h;cases w with
  |nil=>trivial
  |cons b w=>
   unfold XH at h
   split at h
   ·rename_i e;cases h;exact⟨0,b,by grind,rfl,rfl⟩
   ·obtain⟨k,q,h1,h2,h3⟩:=ih h;exact⟨k+1,q,h1,h2,h3⟩
theorem qKL:∀(n:Nat) {c:jX},0≤c.at_→(c.seen.length:Int)<c.at_+n→c.state=4→
  (∃b,zv c n={ c with at_:=b }∧c.at_≤b∧b<c.seen.length∧∀k:Nat,c.at_≤k→(k:Int)<b→∃v,XH c.s c.aw (zW c.seen k).1=some v∧v=(zW c.seen k).2)∨
  (∃b,zv c n=zH { c with at_:=b } 5 0 (-1))∨
  (∃b,zv c n=zf { c with at_:=b }∧∀k:Nat,c.at_≤k→k<c.seen.length→∃v,XH c.s c.aw (zW c.seen k).1=some v∧v=(zW c.seen k).2):=by
 intro n
 induction n with
 |zero=>intro c h0 hl h4;exact .inr (.inr ⟨c.at_,rfl,λk h1 h2=>by omega⟩)
 |succ n ih=>
  intro c h0 hl h4;unfold zv;by_cases ap:c.at_<(c.seen.length:Int)
  ·rw[iJ ap];cases ho:XH c.s c.aw (zW c.seen c.at_).1 with
   |none=>grind
   |some v=>
    dsimp only;by_cases hv:v=(zW c.seen c.at_).2
    ·rw[iQ (λh=>h hv)];have step:∀k:Nat,c.at_≤k→¬c.at_+1≤(k:Int)→∃v,XH c.s c.aw (zW c.seen k).1=some v∧v=(zW c.seen k).2:=λk h1 h2=>by
      grind
     rcases ih (c:={ c with at_:=c.at_+1 }) (by grind) (by grind) h4 with⟨b,e,g1,g2,g3⟩ |⟨b,e⟩ |⟨b,e,g⟩
     ·grind
     all_goals grind
    ·rw[iJ hv];grind
  ·rw[iQ ap];grind
theorem Of {f e y:Int} (hp:c.p.fin=0):(zH c f e y).s=c.s∧(zH c f e y).seen=c.seen∧(zH c f e y).cells=c.cells∧(zH c f e y).aw=c.aw∧(zH c f e y).aa=c.aa∧(zH c f e y).ag=c.ag∧(zH c f e y).state=7∧(zH c f e y).at_=0∧((zH c f e y).p.fin=0∨(zH c f e y).p.fin=f)∧(zH c f e y).bn=f:=by
 unfold zH xK
 split
 ·exact⟨rfl,rfl,rfl,rfl,rfl,rfl,rfl,rfl,.inr rfl,rfl⟩
 grind
theorem RN (I:xk S w0 E) (A:UU S w0 E i x c) (h6:x.state=6) (hC:E.C i=some c) (h4:c.state≤4) (hM:M'.w=E.M.w∧M'.l=E.M.l∧M'.n=E.M.n) {e:jX} (he:e.s=c.s∧e.seen=c.seen∧e.cells=c.cells∧e.aw=c.aw∧e.aa=c.aa∧e.ag=c.ag∧e.p.fin=0)
  {f er y:Int} (hf:f=4∨f=5) (hd:wT S E.M.n (zH e f er y) i):dA S w0 E i M' (jz { x with c:=some (zH e f er y) }):=by
 obtain⟨a1,a2,a3,a4,a5,a6,a7⟩:=he;obtain⟨b1,b2,b3,b4,b5,b6,b7,b8,b9,b10⟩:=Of (c:=e) (f:=f) (e:=er) (y:=y) a7;have J:=A.J;have hwf:c.ag=false:=by
  cases hw:c.ag with
  |false=>rfl
  |true=>have:=J.wg.1 hw;grind[bV]
 exact Mh I A h6 hC h4 hM hd (b1.trans a1) (b2.trans a2) (b3.trans a3) (b4.trans a4) (b5.trans a5) (b6.trans (a6.trans hwf)) (by grind[bV]) (λ_ h=>by omega) (λh=>by omega) (λh=>by omega) omQ (λ_ h=>by omega) (λ_=>by omega)
theorem jQ6 (I:xk S w0 E) (A:UU S w0 E i x c) (h6:x.state=6) (hC:E.C i=some c) (h4:c.state=4) {a:Int} (ha0:0≤a) (hpr:∀(k:Nat) (y:z6),(k:Int)<a→x.r[k]? =some y→oV S E c.now y.1 y.2)
  (hd:wT S E.M.n (xm { c with at_:=a }) i):dA S w0 E i E.M (jz { x with c:=some (xm { c with at_:=a }) }):=by
 have CI:=I.dL i c hC;have J:=A.J;have ib:¬bV c:=by grind[bV]
 have hn:=CI.now omQ omQ;have pf:=CI.lk.s4 omQ omQ;have hfull:=CI.full omQ omQ;have V:=A.lv ib;have hwf:c.ag=false:=by
  cases hw:c.ag with
  |false=>rfl
  |true=>exact absurd (J.wg.1 hw) ib
 have own:∀(k:Nat) (y:z6),x.r[k]? =some y→(∃v,XH c.s c.aw (zW c.seen k).1=some v∧v=(zW c.seen k).2)→oV S E c.now y.1 y.2:=λk y hy ⟨v,h1,h2⟩=>by
  have hs:zW c.seen (k:Int)=y:=by unfold zW;rw[J.seen,Int.toNat_natCast,hy];rfl
  rw[hs]at h1 h2;obtain⟨q,l,g1,g2,g3⟩:=qkU h1;have hh:holds c y.1:=⟨q,g1,(List.getElem?_eq_some_iff.1 g2).1,λh=>by omega⟩;have hl:=I.hold i c hC q y.1 l g1 g2 λh=>by omega
  have hr:=CI.lk.s y.1 (List.mem_of_getElem? g1);have hv:(jj E.M.l y.1).1=y.2:=by grind
  have hle:y.2≤c.now:=by grind
  have:=I.pB hC ib hr.1 hr.2 hh (T:=c.now) omQ omQ (λ_=>Int.le_refl _)
  grind
 have ec4:({ ({ c with at_:=a }:jX)with state:=4 }:jX)={ c with at_:=a }:=by grind
 have ep:xm { c with at_:=a }=zv { c with at_:=a } (c.seen.length+1):=by grind[xm]
 rw[ep]at hd ⊢;rcases qKL (c.seen.length+1) (c:={ c with at_:=a }) ha0 (by grind) h4 with⟨b,e,g1,g2,g3⟩ |⟨b,e⟩ |⟨b,e,g⟩
 ·rw[e]at hd ⊢;refine Mh I A h6 hC omQ ⟨rfl,rfl,rfl⟩ hd rfl rfl rfl rfl rfl hwf ib (λ_ _=>hn) (λ_=>⟨h4,rfl,λk y h1 h2=>?_⟩) (λh=>by grind) (.inl CI.fin) (λ_ _=>J.sn omQ omQ) (λh=>by grind);grind
 ·rw[e]at hd ⊢;exact RN I A h6 hC omQ ⟨rfl,rfl,rfl⟩ ⟨rfl,rfl,rfl,rfl,rfl,rfl,CI.fin⟩ (.inr rfl) hd
 ·rw[e]at hd ⊢;have eb:zf { ({ c with at_:=a }:jX)with at_:=b }=zf c:=rfl;rw[eb]at hd ⊢;refine qkC I A h6 hC h4 hd λq hq=>?_;obtain⟨v,hv⟩:=V.kr q hq;obtain⟨k,hk,ek⟩:=List.mem_iff_getElem.1 hv;have oh:x.r[k]? =some (nq S q.1,v):=by grind
  have ok:oV S E c.now (nq S q.1) v:=by
   by_cases hka:(k:Int)<a
   ·grind
   ·exact own k _ oh (g k (by grind) (by show k<c.seen.length;rw[J.seen];grind))
  have o1:=V.ok _ hv;obtain⟨k1,k2⟩:=V.rt q hq;have t:=A.t;refine⟨?_,ok.np⟩;rw[k1];exact Mw t.1 hn.1 o1.le ok.le o1.q ok.q
end
section
variable {S:je} {w0:List Int} {E F:Env} {i:Nat} {x y:q9} {c d:jX} {M':zG}
theorem RT.at_ {T T':Int} {K:List Cl} (h:RT S w0 E T K) (e:T'=T):RT S w0 E T' K:=e▸h
theorem qwH {C:Nat→Option jX} {o o':Option jX}:cU (cU C i o) i o'=cU C i o':=by
 funext j
 simp_all[cU]
theorem dA.after (O:Ys S E) {M1:zG} {o1:Option jX} (ho:∀c,o1=some c→¬bV c) (L:yi S E ⟨M1,E.G,cU E.C i o1⟩) (h:dA S w0 ⟨M1,E.G,cU E.C i o1⟩ i M' y):dA S w0 E i M' y:=by
 obtain⟨G',a,b,c,f,f2⟩:=h;have e:cU (cU E.C i o1) i (gW y)=cU E.C i (gW y):=qwH;refine⟨G',?_,?_,?_,f,λhw=>?_⟩
 ·grind
 ·rw[← e];exact L.trans b O
 all_goals grind[cU,Ju,absurd]
theorem dA.aN {M1:zG} (I:xk S w0 E) (hM:M1.w=E.M.w∧M1.l=E.M.l∧M1.n=E.M.n) (h:dA S w0 ⟨M1,E.G,E.C⟩ i M' y):dA S w0 E i M' y:=by obtain⟨G',a,b,c,f,f2⟩:=h;exact⟨G',a,(wD hM).trans b I.env,c,f,f2⟩
theorem UU.later (A:UU S w0 E i x c) (L:yi S E F) (O:Ys S E) (hn:4≤c.state→c.state≤6→S.start≤c.now∧c.now+1≤E.M.n):UU S w0 F i x c:=by
 have V:=A.J;refine⟨A.l0,⟨A.t.1,Int.le_trans A.t.2 L.n⟩,λnw=>(A.lv nw).later L O A.t,⟨V.seen,V.cells,V.aa,V.wg,V.a0,λh4 k y h1 h2=>(V.pr h4 k y h1 h2).later L O ?_,λhw=>⟨(V.wr hw).1,(V.wr hw).2.later L O ?_ ?_⟩,V.sn,V.f7⟩⟩
 ·omega
 all_goals grind[bV]
theorem UU.wf (A:UU S w0 E i x c) (h:¬bV c):c.ag=false:=by
 cases hw:c.ag with
 |false=>rfl
 |true=>exact absurd (A.J.wg.1 hw) h
theorem jJB (I:xk S w0 E) (A:UU S w0 E i x c) (h6:x.state=6) (hC:E.C i=some c) (h4:c.state≤4) (hM:M'.w=E.M.w∧M'.l=E.M.l∧M'.n=E.M.n) {l:dz} (hd:wT S E.M.n (xq c l) i):dA S w0 E i M' (jz { x with c:=some (xq c l) }):=by
 have CI:=I.dL i c hC;have J:=A.J;have ib:¬bV c:=by grind[bV]
 unfold xq at hd ⊢;by_cases hw:(jQ c.p l).1=true
 ·rw[iJ hw]at hd ⊢;exact Mh I A h6 hC h4 hM hd rfl rfl rfl rfl rfl (A.wf ib) ib CI.now (λh=>⟨h,rfl,J.pr h⟩) J.a0 (.inl (cD.trans CI.fin)) J.sn (λh=>by grind)
 ·rw[iQ hw]at hd ⊢;exact RN (e:={ c with p:=(jQ c.p l).2 }) I A h6 hC h4 hM ⟨rfl,rfl,rfl,rfl,rfl,rfl,cD.trans CI.fin⟩ (.inr rfl) hd
theorem go6 (I:xk S w0 E) (A:UU S w0 E i x c) (h6:x.state=6) (hC:E.C i=some c) (hw:bV c) (r:xk S w0 ⟨M',E.G,cU E.C i (some d)⟩∧yi S E ⟨M',E.G,cU E.C i (some d)⟩) (hk:wT S M'.n d i) (h0:d.p.fin=0) (wd:bV d) (es:d.seen=c.seen) (ec:d.cells=c.cells) (en:d.now=c.now) (ew:d.ag=c.ag):dA S w0 E i M' (jz { x with c:=some d }):=by
 have CI:=I.dL i c hC;have J:=A.J;obtain⟨r1,r2⟩:=r;have h56:5≤c.state∧c.state≤6:=by grind[bV]
 have d56:5≤d.state∧d.state≤6:=by grind[bV]
 have hn:=(CI.now omQ omQ).1;have pf:=CI.lk.s4 omQ omQ;have nA:d.ag=true:=by rw[ew];exact J.wg.2 hw
 rw[Zj h6 h0,iJ nA];have ea:gW { x with c:=some d,aa:=d.now+1 }=some d:=iJ h6;refine⟨E.G,by grind,by grind,?_,λ_=>.inl rfl,λ_=>.inl ⟨c,hC,hw⟩⟩;rw[ea];have hM:=r2.n;refine yJ.Cc A.l0 h6 hk h0 ⟨by omega,by grind⟩ (λh=>absurd wd h) ⟨by rw[es];exact J.seen,by rw[ec];exact J.cells,λh=>omQ,⟨λ_=>wd,λ_=>nA⟩,λh=>omQ,λh=>omQ,λ_=>⟨rfl,?_⟩,λ_ h=>omQ,λh=>by omega⟩;rw[en];exact(J.wr hw).2.later r2 I.env hn omQ
theorem yJ.com6 (I:xk S w0 E) (B:yJ S w0 E i x) (h6:x.state=6) (hi:i<4) (hc:x.c=some c) (hC:E.C i=some c) {o:dj} (hn:yq c=some o) :
  dA S w0 E i (qR E.M o).2 (jz { x with c:=some (jV c (qR E.M o).1) }):=by
 have CI:=I.dL i c hC;have C:=(B.lk.c h6 c hc).1;have A:=B.att6 h6 hc;have O:=C.ok;have hp:=CI.fin;have J:=A.J;have t:=A.t;have MO:=I.ml;have bK:=O.st;have hnn:=MO.n;have hM:({ E.M with aN:=E.M.aN+1 }:zG).w=E.M.w∧({ E.M with aN:=E.M.aN+1 }:zG).l=E.M.l∧({ E.M with aN:=E.M.aN+1 }:zG).n=E.M.n:=⟨rfl,rfl,rfl⟩;obtain⟨o',ma,st⟩:=ZT I.ml C omQ hp;rw[hn]at ma;cases ma;have hk:=st.dL;clear st
 have mT:yq c=(if c.state=0 then some (bx 3 (qB c.s c.aw.length) 0)
   else if c.state=1 then some ⟨4,qB c.s c.aw.length,0,0,c.lk,(c.lk.1,true,c.me)⟩
   else if c.state=2 then some (bx 6 0 0)
   else if c.state=3 then some ⟨7,0,c.now,c.now+1,cC,cC⟩
   else if c.state=4 then some (bx 3 (zW c.seen c.at_).1 0)
   else if c.state=5 then some (bx 2 (yp c.cells c.at_).1 (yp c.cells c.at_).2)
   else if c.state=6 then some ⟨5,qB c.s c.at_,0,0,cC,(c.now+1,false,0)⟩
   else some ⟨5,qB c.s c.at_,0,0,cC,jj c.aw c.at_⟩):=by
  simp[yq];omega
 rw[mT]at hn;clear mT;have nl:∀k:Nat,k<c.s.length→∃z,c.s[k]? =some z∧qB c.s (k:Int)=z∧0≤z∧z<S.ae:=λk hk=>⟨c.s[k],iW hk,OO hk,C.s _ (List.getElem_mem hk)⟩
 by_cases s0:c.state=0
 ·rw[iJ s0]at hn;obtain⟨z,hz,D4,z0,z1⟩:=nl _ (O.hJ hp omQ);rw[D4]at hn;cases hn;rw[N8 MO z0 z1]at hk ⊢;have et:jV c ⟨0,jj E.M.l z,false,0⟩=if(jj E.M.l z).2.1=true then xq c (jj E.M.l z)else{ c with lk:=jj E.M.l z,state:=1 }:=by
   rw[zX hp rfl,iJ (.inl s0)];unfold yf;grind
  dsimp only at hk ⊢;rw[et]at hk ⊢;by_cases hh:(jj E.M.l z).2.1=true
  ·rw[iJ hh]at hk ⊢;exact jJB I A h6 hC omQ hM hk
  ·rw[iQ hh]at hk ⊢;exact Mh I A h6 hC omQ hM hk rfl rfl rfl rfl rfl (A.wf (by grind[bV])) (by nofun) (λh _=>absurd h (by simp)) (λh=>(by grind)) (λ_=>J.a0 omQ) (.inl hp) (λh=>absurd h (by simp)) (λh=>by grind)
 rw[iQ s0]at hn;by_cases s1:c.state=1
 ·rw[iJ s1]at hn;obtain⟨z,hz,D4,z0,z1⟩:=nl _ (O.hJ hp omQ);obtain⟨l1,l2⟩:=C.s1 s1;have hl:=MO.l;rw[D4]at hn;cases hn;have hx:kB (c.lk.1,true,c.me):=by rw[Ge,C.me];omega
  by_cases he:jj E.M.l z=c.lk
  ·have e:qR E.M ⟨4,z,0,0,c.lk,(c.lk.1,true,c.me)⟩=(⟨0,cC,true,0⟩,{ E.M with l:=E.M.l.set z.toNat (c.lk.1,true,(i:Int)),aN:=E.M.aN+1 }):=by
    rw[← C.me];refine GH (M:=E.M) (N:={ E.M with l:=E.M.l.set z.toNat (c.lk.1,true,c.me) }) (.inr (.inl rfl)) ?_ rfl;simp_all[Xp,iQ]
   rw[e]at hk ⊢;have et:jV c ⟨0,cC,true,0⟩=zk { c with aw:=c.aw++[c.lk] }:=by rw[zX hp rfl,iJ (.inr s1)];unfold yf;grind
   dsimp only at hk ⊢;rw[et]at hk ⊢;have Ew:(zk { c with aw:=c.aw++[c.lk] }).state=0∨(zk { c with aw:=c.aw++[c.lk] }).state=2:=by
    unfold zk;grind
   have hdI:Gn S E.M.n (zk { c with aw:=c.aw++[c.lk] }) i:=⟨hk.mJ hp,hp,CI.mH,CI.un,CI.ne,λh=>by omega⟩;obtain⟨r1,r2⟩:=I.take hC s1 hi hz he hdI (k:=E.M.aN+1);have q1:(zk { c with aw:=c.aw++[c.lk] }).p.fin=0:=hp;have q2:(zk { c with aw:=c.aw++[c.lk] }).seen=c.seen:=rfl;have q3:(zk { c with aw:=c.aw++[c.lk] }).cells=c.cells:=rfl;have q4:(zk { c with aw:=c.aw++[c.lk] }).aa=c.aa:=rfl;have q5:(zk { c with aw:=c.aw++[c.lk] }).ag=c.ag:=rfl;have q6:(zk { c with aw:=c.aw++[c.lk] }).at_=c.at_:=rfl;generalize zk { c with aw:=c.aw++[c.lk] }=d at*;have ib:¬bV c:=by grind[bV]
   have uO:¬bV d:=by grind[bV]
   have wf:=q5.trans (A.wf ib);rw[Zj h6 q1,iQ (by grind)];have ea:gW { x with c:=some d }=some d:=iJ h6;refine⟨E.G,by grind,by grind,?_,λ_=>.inl rfl,Cb (Y6 (e:=d) (by grind) rfl wf omQ)⟩;rw[ea];have V':=(A.lv ib).later r2 I.env t;exact yJ.Cc (z:=x.aa) A.l0 h6 hk q1 t (λ_=>⟨V'.ok,V'.rt,V'.kr⟩) ⟨by rw[q2];exact J.seen,by rw[q3];exact J.cells,λ_=>by rw[q4];exact J.aa omQ,⟨λh=>(by grind),λh=>absurd h uO⟩,λ_=>by rw[q6];exact J.a0 omQ,λh=>omQ,λh=>absurd h uO,λh=>omQ,λh=>by omega⟩
  ·have e:qR E.M ⟨4,z,0,0,c.lk,(c.lk.1,true,c.me)⟩=(cO,{ E.M with aN:=E.M.aN+1 }):=by
    refine GH (M:=E.M) (N:=E.M) (.inr (.inl rfl)) ?_ rfl;simp_all[Xp,iQ]
   rw[e]at hk ⊢;have et:jV c cO={ c with state:=0 }:=by rw[zX hp rfl,iJ (.inr s1)];unfold yf;rw[iQ (λh=>s0 h.1),iQ s0,iQ (by nofun)]
   dsimp only at hk ⊢;rw[et]at hk ⊢;exact Mh I A h6 hC omQ hM hk rfl rfl rfl rfl rfl (A.wf (by grind[bV])) (by nofun) (λh _=>absurd h (by simp)) (λh=>(by grind)) (λ_=>J.a0 omQ) (.inl hp) (λh=>absurd h (by simp)) (λh=>by grind)
 rw[iQ s1]at hn;by_cases s2:c.state=2
 ·rw[iJ s2]at hn;cases hn;have e:qR E.M (bx 6 0 0)=(⟨E.M.n,cC,false,0⟩,{ E.M with aN:=E.M.aN+1 }):=X6 (.inl rfl) rfl rfl;rw[e]at hk ⊢;have et:jV c ⟨E.M.n,cC,false,0⟩=if 4611686018427387903≤E.M.n then zH c 4 7 (-1)else{ c with now:=E.M.n,state:=3 }:=by
   rw[zX hp rfl,iQ omQ,iJ (.inl s2)];simp_all[yC]
  dsimp only at hk ⊢;rw[et]at hk ⊢;by_cases hc:4611686018427387903≤E.M.n
  ·rw[iJ hc]at hk ⊢;exact RN I A h6 hC omQ hM ⟨rfl,rfl,rfl,rfl,rfl,rfl,hp⟩ (.inl rfl) hk
  ·rw[iQ hc]at hk ⊢;exact Mh I A h6 hC omQ hM hk rfl rfl rfl rfl rfl (A.wf (by grind[bV])) (by nofun) (λ_ _=>⟨I.st,λw hw=>(C.aw w hw).2⟩) (λh=>(by grind)) (λ_=>J.a0 omQ) (.inl hp) (λ_ _=>t.2) (λh=>by grind)
 rw[iQ s2]at hn;by_cases s3:c.state=3
 ·rw[iJ s3]at hn;cases hn;have mI:=C.s3 s3;have lA:0≤c.now:=by have:=O.ar;grind[zi]
  have sE:=CI.now omQ omQ;have ib:¬bV c:=by grind[bV]
  by_cases hq:E.M.n=c.now
  ·have e:qR E.M ⟨7,0,c.now,c.now+1,cC,cC⟩=(⟨0,cC,true,0⟩,{ E.M with n:=c.now+1,aN:=E.M.aN+1 }):=by
    refine X6 (M:=E.M) (N:={ E.M with n:=c.now+1 }) (.inr rfl) ?_ rfl;unfold YA;grind
   rw[e]at hk ⊢;have et:jV c ⟨0,cC,true,0⟩=if c.now=c.aa then zf c else xm c:=by rw[zX hp rfl,iQ omQ,iJ (.inr s3)];simp_all[yC]
   dsimp only at hk ⊢;rw[et]at hk ⊢;have n4:({ c with state:=4 }:jX).state=4:=rfl;have W:E8 S (c.now+1) { c with state:=4 }:=⟨CI.lk.dw,CI.lk.s,CI.lk.cells,λh=>(by grind),λh=>(by grind),λ_ _=>Int.le_refl _,λ_ _=>CI.lk.full omQ omQ,λh=>absurd h (by simp)⟩;obtain⟨r1,r2⟩:=I.raise hC s3 hq (k:=E.M.aN+1) ⟨W,hp,CI.mH,CI.un,CI.ne,λ_ _=>sE⟩;have uO:¬bV ({ c with state:=4 }:jX):=by nofun
   refine dA.after I.env (λe he=>by grind) r2 ?_;have h0:=J.a0 omQ;have A1:UU S w0 ⟨{ E.M with n:=c.now+1,aN:=E.M.aN+1 },E.G,cU E.C i (some { c with state:=4 })⟩ i x { c with state:=4 } :=
    ⟨A.l0,⟨t.1,by grind⟩,λ_=>(A.lv ib).later r2 I.env t,⟨J.seen,J.cells,λ_=>J.aa omQ,⟨λh=>absurd (show c.ag=true from h) (by rw[A.wf ib];simp),λh=>absurd h uO⟩,λh=>absurd h (by simp),λ_ k y h=>absurd h (by grind),λh=>absurd h uO,λ_ _=>J.sn omQ omQ,λh=>by grind⟩⟩
   by_cases hs:c.now=c.aa
   ·rw[iJ hs]at hk ⊢;have DZ:=(A1.lv uO).rt;exact qkC (c:={ c with state:=4 }) r1 A1 h6 Ju rfl hk (DZ.at_ (hs.trans (J.aa omQ)))
   ·rw[iQ hs]at hk ⊢;have e0:({ c with state:=4,at_:=0 }:jX)={ c with state:=4 }:=congrArg (λz=>({ c with state:=4,at_:=z }:jX)) h0.symm;have ep:xm c=xm { ({ c with state:=4 }:jX)with at_:=0 }:=by
     unfold xm;grind
    rw[ep]at hk ⊢;exact jQ6 (c:={ c with state:=4 }) r1 A1 h6 Ju rfl (Int.le_refl _) (λk y h=>by omega) hk
  ·have e:qR E.M ⟨7,0,c.now,c.now+1,cC,cC⟩=(cO,{ E.M with aN:=E.M.aN+1 }):=by
    refine X6 (M:=E.M) (N:=E.M) (.inr rfl) ?_ rfl;unfold YA;grind
   rw[e]at hk ⊢;have et:jV c cO={ c with state:=2 }:=by rw[zX hp rfl,iQ omQ,iJ (.inr s3)];unfold yC;rw[iQ (λh=>s2 h.1),iQ s2,iJ (by rfl)]
   dsimp only at hk ⊢;rw[et]at hk ⊢;exact Mh I A h6 hC omQ hM hk rfl rfl rfl rfl rfl (A.wf ib) (by nofun) (λh _=>absurd h (by simp)) (λh=>(by grind)) (λ_=>J.a0 omQ) (.inl hp) (λh=>absurd h (by simp)) (λh=>by grind)
 rw[iQ s3]at hn;by_cases s4:c.state=4
 ·rw[iJ s4]at hn;cases hn;have cx:=O.DD hp s4;have fh:=O.lo;have ib:¬bV c:=by grind[bV]
  obtain⟨k,mU⟩:∃k:Nat,c.at_=k:=⟨c.at_.toNat,by omega⟩;have fR:k<x.r.length:=by rw[J.seen]at cx;omega
  have Fb:zW c.seen c.at_=x.r[k]:=by unfold zW;rw[J.seen,mU,Int.toNat_natCast,iW fR];rfl
  have Lr:=List.getElem_mem fR;have hr:=A.l0.r _ Lr;rw[Fb]at hk ⊢;rw[N8 MO hr.1 hr.2]at hk ⊢;have et:jV c ⟨0,jj E.M.l (x.r[k]).1,false,0⟩=xe c (jj E.M.l (x.r[k]).1):=by rw[zX hp rfl,iQ omQ,iQ omQ,iJ s4]
  dsimp only at hk ⊢;rw[et]at hk ⊢;unfold xe at hk ⊢;by_cases hh:(jj E.M.l (x.r[k]).1).2.1=true
  ·rw[iJ hh]at hk ⊢;exact jJB I A h6 hC omQ hM hk
  rw[iQ hh,Fb]at hk ⊢;by_cases hv:(jj E.M.l (x.r[k]).1).1=(x.r[k]).2
  ·rw[iQ (λh=>h hv)]at hk ⊢;have sE:=CI.now omQ omQ;have pf:=CI.lk.s4 omQ omQ;refine dA.aN I hM ?_;have I':=I.same hM;have A':=A.later (wD hM) I.env λ_ _=>⟨sE.1,pf⟩;have o1:=(A.lv ib).ok _ Lr;have hsn:=J.sn omQ omQ;refine jQ6 I' A' h6 hC s4 omQ (λq y h1 h2=>?_) hk;by_cases hq:q=k
   ·subst hq;rw[iW fR]at h2;cases h2;have:=I'.free hr.1 hr.2 (by grind) (T:=c.now) (by show(jj E.M.l (x.r[q]).1).1≤c.now;rw[hv];have:=o1.le;omega) (by grind)
    grind
   ·exact A'.J.pr s4 q y omQ h2
  ·rw[iJ hv]at hk ⊢;exact RN I A h6 hC omQ hM ⟨rfl,rfl,rfl,rfl,rfl,rfl,hp⟩ (.inr rfl) hk
 rw[iQ s4]at hn;by_cases s5:c.state=5
 ·rw[iJ s5]at hn;cases hn;have cx:=O.Rw hp s5;have fh:=O.lo;have hw:=MO.w;obtain⟨k,mU⟩:∃k:Nat,c.at_=k:=⟨c.at_.toNat,by omega⟩;have fR:k<c.cells.length:=by omega
  have SA:yp c.cells c.at_=c.cells[k]:=by simp_all[yp,Int.toNat_natCast]
  have hq:c.cells[k]? =some (c.cells[k]):=iW fR;have hz:=C.cells _ (List.getElem_mem fR);rw[SA]at hk ⊢;generalize c.cells[k]=q at*;have e:qR E.M (bx 2 q.1 q.2)=(cO,{ E.M with w:=E.M.w.set q.1.toNat q.2,aN:=E.M.aN+1 }):=by refine Uy (M:=E.M) (N:={ E.M with w:=E.M.w.set q.1.toNat q.2 }) (.inr rfl) ?_ rfl;unfold Xm;rw[iQ (by show¬(q.1<1∨(E.M.w.length:Int)≤q.1);omega),iQ (by nofun)];rfl
  rw[e]at hk ⊢;have et:jV c cO=zV { c with at_:=c.at_+1 }:=by rw[zX hp rfl,iQ omQ,iQ omQ,iQ omQ,iJ s5]
  dsimp only at hk ⊢;rw[et]at hk ⊢;have hs0:0<c.s.length:=by have:=O.ar;grind[zi]
  have sE:=CI.now omQ omQ;unfold zV at hk ⊢;by_cases hl:c.at_+1=(c.cells.length:Int)
  ·rw[iJ hl]at hk ⊢;unfold zo at hk ⊢;rw[iQ (by grind)]at hk ⊢;exact go6 I A h6 hC (.inl s5) (I.store hC s5 mU hq ⟨hk.mJ hp,hp,CI.mH,CI.un,CI.ne,λ_ _=>sE⟩ rfl rfl rfl rfl (.inr ⟨rfl,rfl,by omega⟩)) hk hp (.inr rfl) rfl rfl rfl rfl
  ·rw[iQ hl]at hk ⊢;exact go6 I A h6 hC (.inl s5) (I.store hC s5 mU hq ⟨hk.mJ hp,hp,CI.mH,CI.un,CI.ne,λ_ _=>sE⟩ rfl rfl rfl rfl (.inl ⟨s5,by grind⟩)) hk hp (.inl s5) rfl rfl rfl rfl
 rw[iQ s5]at hn;by_cases s6:c.state=6
 ·rw[iJ s6]at hn;cases hn;have cx:=O.Rx hp s6;have fh:=O.lo;obtain⟨k,mU⟩:∃k:Nat,c.at_=k:=⟨c.at_.toNat,by omega⟩;obtain⟨z,hz,D4,z0,z1⟩:=nl k omQ;have sE:=CI.now omQ omQ;have pf:=CI.lk.s4 omQ omQ;have mI:0≤c.now:=by have:=O.ar;grind[zi]
  have AG:=CI.full omQ omQ;have hx:kB (c.now+1,false,0):=by grind[Uh]
  rw[mU,D4]at hk ⊢;rw[RE MO z0 z1 hx]at hk ⊢;have et:jV c cO=zo { c with at_:=c.at_+1 }:=by rw[zX hp rfl,iQ omQ,iQ omQ,iQ omQ,iQ omQ,iJ s6]
  dsimp only at hk ⊢;rw[et]at hk ⊢;have oP:k<c.aw.length:=by omega
  have Lv:=I.hold i c hC k z _ hz (iW oP) λ_=>by omega
  have eO:(jj E.M.l z).1<c.now+1:=by grind
  have LG:=λo:Option jX=>I.oD (o:=o) hC (.inl s6) mU hz (x:=(c.now+1,false,0)) rfl hx pf (Int.le_of_lt eO) (λ_=>eO) (I.AN hC s6 mU hz oP) (k:=E.M.aN+1);unfold zo at hk ⊢;by_cases hl:c.at_+1=(c.s.length:Int)
  ·rw[iJ hl]at hk ⊢;obtain⟨r1,r2⟩:=LG none (λd h=>by grind) (λ_=>by omega);have wr:bV c:=.inr s6;have nA:=J.wg.2 wr;rw[V4 (x:=x) (d:={ ({ c with at_:=c.at_+1 }:jX)with p:=jI c.p 2 0 (-1) }) h6 rfl nA];have ea:∀y:q9,y.state=7→gW y=none:=λy h=>iQ omQ;refine⟨E.G,by trivial,by trivial,?_,λ_=>.inl rfl,λ_=>.inl ⟨c,hC,wr⟩⟩;rw[ea _ rfl];obtain⟨j1,j2⟩:=J.wr wr;have hce:jP x.v.lv=c.cells:=J.cells.symm;refine⟨⟨⟨A.l0.me,A.l0.set,A.l0.r,A.l0.inv⟩,λh=>(by cases h),λh=>by cases h⟩,λh=>absurd h (by nofun),λ_=>⟨by grind,pf⟩,λ_ h=>absurd h (by nofun),λh=>(by cases h),λh=>(by rcases h with h |h<;>cases h),λh=>(by cases h),λ_=>⟨λh=>absurd ⟨rfl,?_⟩ h,λ_=>⟨?_,by grind,?_⟩⟩⟩
   ·show RT S w0 _ (c.now+1-1) x.v.K;rw[show c.now+1-1=c.now by omega];exact j2.later r2 I.env sE.1 omQ
   ·show E.G (c.now+1-S.start).toNat=jP x.v.lv;rw[hce];exact I.sD i c hC wr
   ·show jP x.v.lv≠[];rw[hce];exact CI.ne
  ·rw[iQ hl]at hk ⊢;exact go6 I A h6 hC (.inr s6) (LG (some { c with at_:=c.at_+1 }) (λd h=>by cases h;exact⟨⟨hk.mJ hp,hp,CI.mH,CI.un,CI.ne,λ_ _=>sE⟩,rfl,rfl,rfl,rfl,rfl,by grind⟩) (λh=>by grind)) hk hp (.inr s6) rfl rfl rfl rfl
 rw[iQ s6]at hn;have s7:c.state=7:=by omega
 cases hn;have cx:=O.Ry hp s7;have fh:=O.lo;have ib:¬bV c:=by grind[bV]
 obtain⟨k,mU⟩:∃k:Nat,c.at_=k:=⟨c.at_.toNat,by omega⟩;have oP:k<c.aw.length:=by omega
 obtain⟨z,hz,D4,z0,z1⟩:=nl k (by have:=O.aw;omega);have hw:=C.aw _ (List.getElem_mem oP);have ew:jj c.aw c.at_=c.aw[k]:=by simp_all[jj,Int.toNat_natCast]
 have hx:kB c.aw[k]:=by
  unfold kB;grind
 have Lv:=I.hold i c hC k z _ hz (iW oP) λ_=>by omega
 rw[ew,mU,D4]at hk ⊢;rw[RE MO z0 z1 hx]at hk ⊢;have et:jV c cO=xK { c with at_:=c.at_+1 }:=by rw[zX hp rfl,iQ omQ,iQ omQ,iQ omQ,iQ omQ,iQ omQ]
 dsimp only at hk ⊢;rw[et]at hk ⊢;have eO:(jj E.M.l z).1=(c.aw[k]).1:=by rw[Lv]
 have LG:=λo:Option jX=>I.oD (o:=o) hC (.inr s7) mU hz (x:=c.aw[k]) hw.1 hx hw.2 (Int.le_of_eq eO) (λh=>absurd h ib) (I.uh hC s7 mU hz oP) (k:=E.M.aN+1);have V:=A.lv ib;have wf:=A.wf ib;unfold xK at hk ⊢;by_cases hl:c.at_+1=(c.aw.length:Int)
 ·rw[iJ hl]at hk ⊢;obtain⟨r1,r2⟩:=LG none (λd h=>by grind) (λ_=>by omega);have hf:=J.f7 s7;have PL:(jI c.p c.bn c.fC c.oT).fin=4∨(jI c.p c.bn c.fC c.oT).fin=5:=hf;obtain⟨e,z',ey⟩:=OP (x:=x) (d:={ ({ c with at_:=c.at_+1 }:jX)with p:=jI c.p c.bn c.fC c.oT }) h6 PL wf;rw[ey];have ea:∀y:q9,y.state=7→gW y=none:=λy h=>iQ omQ;refine⟨E.G,by trivial,by trivial,?_,λ_=>.inl rfl,Cb (Y6 (e:={ ({ c with at_:=c.at_+1 }:jX)with p:=jI c.p c.bn c.fC c.oT }) (by nofun) rfl wf (λh2=>by grind))⟩;rw[ea _ rfl];have V':=V.later r2 I.env t;refine Yv.out (x:={ x with c:=some { ({ c with at_:=c.at_+1 }:jX)with p:=jI c.p c.bn c.fC c.oT } }) ⟨⟨A.l0.me,A.l0.set,A.l0.r,A.l0.inv⟩,?_,⟨V'.ok,V'.rt,V'.kr⟩⟩ (.inl (λh2=>by grind));grind
 ·rw[iQ hl]at hk ⊢;obtain⟨r1,r2⟩:=LG (some { c with at_:=c.at_+1 }) (λd h=>by cases h;exact⟨⟨hk.mJ hp,hp,CI.mH,CI.un,CI.ne,λ_ h=>by grind⟩,rfl,rfl,rfl,rfl,rfl,by grind⟩) (λh=>by grind);have q1:({ c with at_:=c.at_+1 }:jX).p.fin=0:=hp;rw[Zj h6 q1,iQ (by grind)];have ea:gW { x with c:=some { c with at_:=c.at_+1 } }=some { c with at_:=c.at_+1 }:=iJ h6;refine⟨E.G,by grind,by grind,?_,λ_=>.inl rfl,Cb (Y6 (e:={ c with at_:=c.at_+1 }) (by grind) rfl wf omQ)⟩;rw[ea];have V':=V.later r2 I.env t;have e7:({ c with at_:=c.at_+1 }:jX).state=7:=s7;have uO:¬bV ({ c with at_:=c.at_+1 }:jX):=ib;exact yJ.Cc (z:=x.aa) A.l0 h6 hk q1 t (λ_=>⟨V'.ok,V'.rt,V'.kr⟩) ⟨J.seen,J.cells,λh=>omQ,⟨λh=>absurd (show c.ag=true from h) (by grind),λh=>absurd h uO⟩,λh=>omQ,λh=>omQ,λh=>absurd h uO,λ_ h=>omQ,λ_=>J.f7 s7⟩
end
section
variable {S:je} {w0:List Int} {E F:Env} {i:Nat} {x y:q9} {c d:jX} {M:zG}
theorem qZ6 {V:VM} (O:fm V):lQ (jP V.lv):=by
 have key:∀(l:List bC) (a:List Cl),lQ a→(∀x∈l,lQ x.1)→lQ (l.foldl (λout x=>wU x.1 out) a):=by
  intro l
  induction l with
  |nil=>simp
  |cons x l ih=>exact λa h hl=>ih _ (lQ.pH (hl x (iK ..))) λy hy=>hl y (iX _ hy)
 exact key _ _ (show([]:List Int).Nodup from List.nodup_nil) O.lR.un
def Lw (y:q9):Prop:=y.state=6→jP y.v.lv≠[]∧∃me sp st r,y.c=some (Xz me sp st r (jP y.v.lv) y.set.ae y.set.wide)
theorem vD (h:y.state≠6):Lw y:=λh'=>absurd h' h
theorem qJS {k e:Int}:Lw (xx x k e):=by
 unfold xx
 split
 ·nofun
 ·split
  ·nofun
  ·split
   ·nofun
   ·split
    ·nofun
    ·rename_i bW;exact λ_=>⟨bW,_,_,_,_,rfl⟩
theorem Ur (h:Lw y):Lw (jZ y):=by
 unfold jZ
 split
 ·split
  all_goals trivial
 grind
theorem qxp {a:cB} (h6:x.state≠6):Lw (qd x a):=by
 unfold qd
 split
 ·grind[vD]
 split
 ·nofun
 split
 ·nofun
 split
 ·nofun
 split
 ·exact qJS
 split
 ·nofun
 split
 ·rename_i h3;unfold jz;refine Ur ?_
  split
  ·grind[vD]
  ·split
   ·nofun
   ·unfold jd;rw[iJ (by grind)];unfold zZ
    split
    ·nofun
    ·split
     ·exact qJS
     ·split
      all_goals nofun
 ·rename_i h3;unfold jz;refine Ur ?_
  split
  ·grind[vD]
  ·split
   ·nofun
   ·unfold jd;rw[iQ (by grind)]
    split
    ·nofun
    ·split
     ·nofun
     ·split
      ·nofun
      grind[vD]
theorem qJ1 {y:q9} (h:(if(zd x).1=0 then x else if(zd x).1=5 then z4 x 5 0 (zd x).2 else jd x)=y) (hy:qS y=false):qS (jz x)=false:=by grind[jz,wA]
theorem qZT {a:cB} (O:zm x) (h6:x.state≠6):qS (qd x a)=false:=by
 have bK:=O.st;have at8:∀y:q9,y.state=8→qS y=false:=λy h=>by
  simp_all[qS,iV]
 unfold qd
 split
 ·grind
 split
 ·rfl
 split
 ·exact j4 (x:={ x with state:=1 }) (O.c0 omQ)
 split
 ·exact j4 (x:={ x with begun:=true,aI:=a.word,aa:=a.word,state:=2 }) (O.c0 omQ)
 split
 ·exact Ku (O.c0 omQ)
 split
 ·rfl
 have hc:=O.c0 omQ
 split
 ·rename_i h3;refine qJ1 rfl ?_
  split
  ·grind[j4]
  split
  ·exact j4 hc
  unfold jd;rw[iJ (by grind)];unfold zZ
  split
  ·exact j4 hc
  split
  ·grind[Ku]
  split
  ·exact j4 hc
  ·exact j4 hc
 ·rename_i h3;refine qJ1 rfl ?_
  split
  ·grind[j4]
  split
  ·exact j4 hc
  unfold jd;rw[iQ (by grind)]
  split
  ·exact j4 hc
  split
  ·exact j4 hc
  grind
theorem qyS {p k:Int} (h0:0≤p) (h1:p<M.s.length):qR M (bx 9 p k)=(cO,{ M with s:=M.s.set p.toNat k,aN:=M.aN+1 }):=by
 have e':gX M (bx 9 p k)=(cO,{ M with s:=M.s.set p.toNat k }):=by unfold gX;rw[iQ (by nofun),iQ (by nofun),iQ (by nofun),iJ (.inr rfl)];unfold VJ;rw[iQ (by show¬(p<0∨(M.s.length:Int)≤p);omega),iQ (by nofun)];rfl
 rw[gG,e'];rfl
theorem qz6 {p:Int} (h0:1≤p) (h1:p<M.w.length):qR M (bx 1 p 0)=(⟨qB M.w p,cC,false,0⟩,{ M with aN:=M.aN+1 }):=by refine Uy (M:=M) (N:=M) (.inl rfl) ?_ rfl;unfold Xm;rw[iQ (by show¬(p<1∨(M.w.length:Int)≤p);omega)];rfl
theorem qx0:qR M (bx 6 0 0)=(⟨M.n,cC,false,0⟩,{ M with aN:=M.aN+1 }):=X6 (.inl rfl) rfl rfl
structure Lx (S:je) (M:zG) (x:q9) (r:cB×zG):Prop where
  err:r.1.err=0
  same:r.2.w=M.w∧r.2.l=M.l∧r.2.n=M.n
  h1:x.state=1→r.1.word=M.n
  hw:x.state=3→x.f.state=1→r.1.word=qB M.w x.v.aB
  hk:x.state=3→x.f.state≠1→r.1.lk=jj M.l x.f.aA
  dS:x.state=4∨x.state=5→x.e.aU=false→r.1.word=M.n
  oh:x.state=4∨x.state=5→x.e.aU=true→r.1.lk=jj M.l (zW x.e.seen x.e.at_).1
theorem yJ.Lj (I:xk S w0 E) (A:yJ S w0 E i x) (O:zm x) (hs:(i:Int)<E.M.s.length) (h6:x.state≠6) {o:dj} (hn:zp x=some o):Lx S E.M x (qR E.M o):=by
 have bK:=O.st;have Le:x.me=(i:Int):=A.lk.me;have slot:∀k:Int,x.state≠1→x.state≠3→x.state≠4→x.state≠5→Lx S E.M x (qR E.M (bx 9 x.me k)):=λk a1 a3 a4 a5=>by
  rw[qyS omQ omQ];exact⟨rfl,⟨rfl,rfl,rfl⟩,λh=>absurd h a1,λh=>absurd h a3,λh=>absurd h a3,λh=>absurd h omQ,λh=>absurd h omQ⟩
 unfold zp at hn;by_cases s0:x.state=0
 ·grind
 rw[iQ s0]at hn;by_cases s1:x.state=1
 ·rw[iJ s1]at hn;cases hn;rw[qx0];exact⟨rfl,⟨rfl,rfl,rfl⟩,λ_=>rfl,λh=>omQ,λh=>omQ,λh=>omQ,λh=>by omega⟩
 rw[iQ s1]at hn;by_cases s2:x.state=2
 ·grind
 rw[iQ s2]at hn;by_cases s7:x.state=7
 ·grind
 rw[iQ s7]at hn;by_cases s8:x.state=8
 ·grind
 rw[iQ s8]at hn;by_cases s3:x.state=3
 ·rw[iJ s3]at hn;obtain⟨hr,hf⟩:=A.lk.f s3;have V:=A.f s3;have uj:=O.aB omQ omQ;have bz:(x.v.sz:Int)=S.words:=by rw[O.sz,A.lk.set]
  have AG:=I.ml.w;unfold Qf at hn;rw[iQ (λh=>h hf)]at hn;by_cases f1:x.f.state=1
  ·rw[iJ f1,V.at_]at hn;cases hn;rw[qz6 uj.1 omQ];exact⟨rfl,⟨rfl,rfl,rfl⟩,λh=>omQ,λ_ _=>rfl,λ_ h=>absurd f1 h,λh=>omQ,λh=>by omega⟩
  ·rw[iQ f1]at hn;cases hn;rw[N8 I.ml hr.1 hr.2];exact⟨rfl,⟨rfl,rfl,rfl⟩,λh=>omQ,λ_ h=>absurd h f1,λ_ _=>rfl,λh=>omQ,λh=>by omega⟩
 rw[iQ s3,iQ h6]at hn;have AO:x.state=4∨x.state=5:=by omega
 have V:=A.e AO;have EO:=O.e omQ omQ;unfold Qi at hn;rw[iQ (λh=>h V.fin)]at hn;cases hl:x.e.aU with
 |false=>rw[iJ hl]at hn;cases hn;rw[qx0];exact⟨rfl,⟨rfl,rfl,rfl⟩,λh=>omQ,λh=>omQ,λh=>omQ,λ_ _=>rfl,λ_ h=>by grind⟩
 |true=>
  rw[iQ (by grind)]at hn;cases hn;have ap:=EO.mH V.fin hl;have ha0:=V.a0;have fR:x.e.at_.toNat<x.r.length:=by rw[V.seen]at ap;omega
  have Fb:zW x.e.seen x.e.at_=x.r[x.e.at_.toNat]:=by unfold zW;rw[V.seen,iW fR];rfl
  have hr:=A.lk.r _ (List.getElem_mem fR);rw[← Fb]at hr;rw[N8 I.ml hr.1 hr.2];exact⟨rfl,⟨rfl,rfl,rfl⟩,λh=>omQ,λh=>omQ,λh=>omQ,λ_ h=>(by grind),λ_ _=>rfl⟩
theorem yJ.step (SO:xo S) (I:xk S w0 E) (A:yJ S w0 E i x) (O:zm x) (hi:i<4) (hs:(i:Int)<E.M.s.length) (hC:E.C i=gW x) {o:dj} (hn:zp x=some o) (ha:vB (qR E.M o).1) :
  dA S w0 E i (qR E.M o).2 (qd x (qR E.M o).1):=by
 have bK:=O.st;by_cases h6:x.state=6
 ·obtain⟨c,hc⟩:∃c,x.c=some c:=by
   cases h:x.c with
   |none=>exact absurd h (O.c6 h6)
   |some c=>simp
  obtain⟨CL,hf⟩:=A.lk.c h6 c hc;obtain⟨o',bY,K⟩:=ZT I.ml CL omQ hf;have:o'=o:=by unfold zp at hn;grind
  subst this;have et:qd x (qR E.M o').1=jz { x with c:=some (jV c (qR E.M o').1) }:=by unfold qd;rw[iQ omQ,iQ (λh=>h K.err),iQ omQ,iQ omQ,iQ omQ,iQ omQ,iQ omQ,iJ h6,hc];rfl
  rw[et];have Cd:E.C i=some c:=by simp_all[gW]
  exact A.com6 I h6 hi hc Cd bY
 ·have K:=A.Lj I O hs h6 hn;have N:=qxp (a:=(qR E.M o).1) h6;have NW:=qZT (a:=(qR E.M o).1) O h6;have O':=XA O ha;generalize qR E.M o=r at*;have hM:=K.same;have I':=I.same hM;have A':=A.later (wD hM) I.env λc h=>absurd h h6;have B:=A'.DY SO I' O h6 K.err ha (λh=>by rw[K.h1 h];grind) (λh h'=>by rw[K.hw h h'];grind) (λh h'=>by rw[K.hk h h'];grind) (λh h'=>by rw[K.dS h h'];grind) (λh h'=>by rw[K.oh h h'];grind);generalize qd x r.1=y at*;have hCn:E.C i=none:=by
   rw[hC];exact iQ h6
  have fresh:∀d,y.state=6→y.c=some d→(d.state=0∨d.state=2)∧d.aw=[]∧d.cells=jP y.v.lv∧d.s=xn (jP y.v.lv) S.ae S.wide∧jP y.v.lv≠[]:=λd h hd=>by
   obtain⟨bW,me,sp,st,q,e⟩:=N h;rw[hd]at e;cases e;refine⟨?_,rfl,rfl,by show xn _ y.set.ae y.set.wide=_;rw[B.lk.set],bW⟩;unfold Xz zk;grind
  obtain⟨r1,r2⟩:=I'.swap (i:=i) (λe he=>by grind) (o:=gW y) λd hd=>by
   have Fc:y.state=6:=by
    grind[gW]
   have r4:y.c=some d:=by simp_all[gW]
   obtain⟨f1,f2,f3,f4,f5⟩:=fresh d Fc r4;obtain⟨CL,hf⟩:=B.lk.c Fc d r4;refine⟨⟨CL.mJ hf,hf,λq hq=>?_,by rw[f3];exact qZ6 O'.aE.ok,by grind,λh=>omQ⟩,λk z w _ h=>?_,by grind[bV],λh=>by omega⟩
   ·rw[f4,← f3];exact(Jr (λq hq=>by have:=CL.cells q hq;omega)).2 (List.mem_map_of_mem hq)
   grind
  refine⟨E.G,r1,(wD hM).trans r2 I.env,B.later r2 I'.env λd h hd h4=>?_,λ_=>.inl rfl,Cb NW⟩;grind
end
section
variable {S:je} {w0:List Int} {E F:Env} {i:Nat} {x y:q9} {a:cB}
structure AP (x y:q9):Prop where
  b:y.begun=x.begun
  t:y.aI=x.aI
  s:2≤y.state
def Bg (x:q9):Prop:=x.begun=true↔2≤x.state
theorem AP.at_ {k:Int} (b:y.begun=x.begun) (t:y.aI=x.aI) (s:y.state=k) (h:2≤k):AP x y:=⟨b,t,by omega⟩
theorem qW4 (x:q9) (k e:Int):AP x (xx x k e):=by
 unfold xx
 repeat' split
 ·exact .at_ rfl rfl rfl (show(2:Int)≤3 by simp)
 ·exact .at_ rfl rfl rfl (show(2:Int)≤5 by simp)
 ·exact .at_ rfl rfl rfl (show(2:Int)≤7 by simp)
 ·exact .at_ rfl rfl rfl (show(2:Int)≤7 by simp)
 ·exact .at_ rfl rfl rfl (show(2:Int)≤6 by simp)
theorem OR (x:q9):AP x (yX x):=by
 have h:(zl x).2.begun=x.begun∧(zl x).2.aI=x.aI:=by
  unfold zl
  grind
 have b:=qW4 (zl x).2 (zl x).1.1 (zl x).1.2;exact⟨b.b.trans h.1,b.t.trans h.2,b.s⟩
theorem qQP (x:q9):AP x (zZ x):=by
 unfold zZ
 split
 ·exact .at_ rfl rfl rfl (show(2:Int)≤4 by simp)
 ·split
  ·have b:=OR { x with r:=(gE x.r (xl x.f)).2,v:=(yE x.v x.v.aB (yj x.f)).2 };exact⟨b.b,b.t,b.s⟩
  ·split
   ·exact .at_ rfl rfl rfl (show(2:Int)≤7 by simp)
   ·exact .at_ rfl rfl rfl (show(2:Int)≤7 by simp)
theorem Ub (h2:2≤x.state):AP x (jz x):=by
 have hs:∀y:q9,AP x y→AP x (jZ y):=λy b=>by
  unfold jZ
  repeat' split
  all_goals exact⟨b.b,b.t,b.s⟩
 unfold jz;refine hs _ ?_
 split
 ·exact⟨rfl,rfl,h2⟩
 ·split
  ·exact .at_ rfl rfl rfl (show(2:Int)≤7 by simp)
  ·unfold jd
   split
   ·simp[qQP]
   ·split
    ·exact .at_ rfl rfl rfl (show(2:Int)≤3 by simp)
    ·split
     ·exact .at_ rfl rfl rfl (show(2:Int)≤7 by simp)
     ·split
      ·exact .at_ rfl rfl rfl (show(2:Int)≤7 by simp)
      ·exact⟨rfl,rfl,h2⟩
theorem XW (h2:2≤x.state):AP x (qd x a):=by
 unfold qd
 split
 ·exact⟨rfl,rfl,h2⟩
 split
 ·exact .at_ rfl rfl rfl (show(2:Int)≤8 by simp)
 rw[iQ omQ,iQ omQ]
 split
 ·simp[OR]
 split
 ·exact .at_ rfl rfl rfl (show(2:Int)≤8 by simp)
 split
 ·have b:=Ub (x:={ x with f:=zC x.f a }) h2;exact⟨b.b,b.t,b.s⟩
 split
 ·have b:=Ub (x:={ x with c:=x.c.map λc=>jV c a }) h2;exact⟨b.b,b.t,b.s⟩
 ·have b:=Ub (x:={ x with e:=zS x.e a }) h2;exact⟨b.b,b.t,b.s⟩
theorem qGL (B:Bg x) (h0:0≤x.state) (ha:a.err=0):Bg (qd x a):=by
 unfold Bg at B ⊢;by_cases h2:2≤x.state
 ·have b:=XW (a:=a) h2;rw[b.b];exact⟨λ_=>b.s,λ_=>B.2 h2⟩
 ·unfold qd;grind
def AQ (x:q9):Prop:=x.state=7→(qS x=true↔qKR x)
def N7 (x:q9):Prop:=x.state=7→x.c=none∧(x.fin≠2∨jP x.v.lv=[])
theorem N7.w (h:N7 x):AQ x:=λh7=>by
 obtain⟨hc,hf⟩:=h h7;rw[j4 hc];exact⟨λh=>(by grind),λh=>by rcases hf with hf |hf;exact absurd h.1 hf;exact absurd hf h.2⟩
theorem Yd (h:x.state≠7):N7 x:=λh'=>absurd h' h
theorem Uf {f e z:Int} (hc:x.c=none) (h:f≠2):N7 (z4 x f e z):=λ_=>⟨hc,.inl h⟩
theorem qge {k e:Int} (hc:x.c=none):N7 (xx x k e):=by
 unfold xx
 split
 ·nofun
 split
 ·nofun
 split
 ·exact Uf hc od
 split
 ·rename_i h;exact λ_=>⟨hc,.inr h⟩
 nofun
theorem qWe (hc:x.c=none):N7 (yX x):=qge ((jQH x).1.trans hc)
theorem NL (h:N7 y):N7 (jZ y):=by
 unfold jZ
 split
 ·split
  all_goals trivial
 grind
theorem qye (hc:x.c=none) (h5:x.state≤5) (h0:0≤x.state):N7 (qd x a):=by
 unfold qd;rw[iQ omQ]
 split
 ·nofun
 split
 ·nofun
 split
 ·nofun
 split
 ·grind[qWe]
 rw[iQ omQ]
 split
 ·rename_i h3;unfold jz;refine NL ?_
  split
  ·grind[Yd]
  split
  ·exact Uf hc od
  unfold jd;rw[iJ (by grind)];unfold zZ
  split
  ·nofun
  split
  ·grind[qWe]
  split
  all_goals simp_all[Uf,od]
 ·rename_i h3;rw[iQ omQ];unfold jz;refine NL ?_
  split
  ·grind[Yd]
  split
  ·exact Uf hc od
  unfold jd;rw[iQ (by grind)]
  split
  ·nofun
  split
  ·exact Uf hc od
  grind
theorem qgt (O:zm x) (bW:x.state=6→jP x.v.lv≠[]) (ha:a.err=0):AQ (qd x a):=by
 have bK:=O.st;by_cases h5:x.state≤5
 ·exact(qye (O.c0 h5) h5 bK.1).w
 by_cases h6:x.state=6
 ·obtain⟨c,hc⟩:∃c,x.c=some c:=by
   cases h:x.c with
   |none=>exact absurd h (O.c6 h6)
   |some c=>simp
  have et:qd x a=jz { x with c:=some (jV c a) }:=by simp_all[qd,omQ]
  rw[et];generalize jV c a=d;have bW:=bW h6;have sw:∀y:q9,AQ y→AQ (jZ y):=λy h=>by
   unfold jZ
   split
   ·split
    all_goals trivial
   grind
  unfold jz;refine sw _ ?_;rw[Lt h6]
  split
  ·exact λh=>absurd h (by grind)
  ·rename_i h0;have h0:¬d.p.fin=0:=h0;have key:∀f e z:Int,f=d.p.fin→AQ (z4 { x with c:=some d } f e z):=λf e z hf _=>by
    rw[yu (e:=d) (by grind) rfl,iV h0,Bool.and_false,Bool.false_or,decide_eq_true_iff];exact⟨λh=>⟨by show f=2;omega,bW⟩,λh=>by have:f=2:=h.1;omega⟩
   split
   ·grind
   ·unfold jd;grind
 ·refine λh=>?_;exfalso;revert h;unfold qd
  grind
theorem V6 (A:yJ S w0 E i x) (O:zm x) (W:AQ x) (hw:qS x=true) (ha:a.err=0) :
  (qd x a).v=x.v∧(qd x a).aa=x.aa∧(((qd x a).state=8∧(qd x a).fin=2)∨qS (qd x a)=true):=by
 have bK:=O.st;have h5:¬x.state≤5:=λh=>by
  rw[j4 (O.c0 h)]at hw;grind
 have h8:x.state≠8:=λh=>by
  simp_all[qS,iV]
 by_cases h6:x.state=6
 ·obtain⟨c,hc⟩:∃c,x.c=some c:=by
   cases h:x.c with
   |none=>exact absurd h (O.c6 h6)
   |some c=>simp
  obtain⟨CL,hp⟩:=A.lk.c h6 c hc;have J:=A.c h6 c hc;rw[yu h8 hc,iG hp,iV (by omega:¬c.p.fin=2),Bool.and_true,Bool.or_false]at hw;have wr:=J.wg.1 hw;have hx:=(J.wr wr).1;have h56:c.state=5∨c.state=6:=wr;have et:qd x a=jz { x with c:=some (jV c a) }:=by simp_all[qd,omQ]
  have nf:∀e:jX,(zo e).now=e.now∧(zo e).ag=e.ag∧((zo e).p.fin=e.p.fin∨(zo e).p.fin=2):=λe=>by
   unfold zo
   split
   ·exact⟨rfl,rfl,.inr rfl⟩
   simp
  have D:(jV c a).now=c.now∧(jV c a).ag=c.ag∧((jV c a).p.fin=c.p.fin∨(jV c a).p.fin=2):=by
   rw[zX hp ha,iQ omQ,iQ omQ,iQ omQ]
   split
   ·unfold zV
    grind
   grind
  rw[et];generalize jV c a=d at*;obtain⟨d1,d2,d3⟩:=D;rw[hp]at d3;have uM:d.ag=true:=d2.trans hw;rcases d3 with d3 |d3
  ·rw[Zj h6 d3,iJ uM];refine⟨rfl,by grind,.inr ?_⟩;rw[yu (e:=d) (by grind) rfl,uM,iG d3];rfl
  ·rw[V4 h6 d3 uM];refine⟨rfl,by grind,.inr ?_⟩;rw[yu (e:=d) (by nofun) rfl,iG d3,Bool.or_true]
 ·have h7:x.state=7:=by omega
  have et:qd x a={ x with state:=8 }:=by simp_all[qd,omQ]
  rw[et];exact⟨rfl,rfl,.inl ⟨rfl,((W h7).1 hw).1⟩⟩
def ja (r:zP):Prop:=r.kind=2∧r.cells≠[]
structure AR (S:je) (w0:List Int) (E:Env) (r:zP):Prop where
  t:S.start≤r.aa∧r.aa≤E.M.n
  no:¬ja r→RT S w0 E r.aa r.reads
  yes:ja r→RT S w0 E (r.aa-1) r.reads∧S.start<r.aa∧E.G (r.aa-S.start).toNat=r.cells
variable {r:zP} {t:qu} {pick:Int}
theorem AR.later (R:AR S w0 E r) (L:yi S E F) (O:Ys S E):AR S w0 F r:=by
 refine⟨⟨R.t.1,Int.le_trans R.t.2 L.n⟩,λh=>(R.no h).later L O R.t.1 R.t.2,λh=>?_⟩;obtain⟨v1,v2,v3⟩:=R.yes h;have:=R.t;refine⟨v1.later L O omQ omQ,v2,?_⟩;rcases L.g (r.aa-S.start).toNat with e |e |⟨e,_⟩
 ·grind
 ·omega
 ·rw[v3]at e;exact absurd e h.2
theorem vr:ja (jq t x pick)↔(qS x=true∨(x.state=8∧x.fin=2))∧jP x.v.lv≠[]:=by
 unfold ja jq yS yZ;dsimp only;cases hw:qS x with
 |true=>simp
 |false=>
  simp[Bool.or_false,jf];omega
theorem GE (h:ja (jq t x pick)):(jq t x pick).cells=jP x.v.lv:=by
 have h1:=(vr.1 h).1;show yS x=_;unfold yS;refine iJ ?_;unfold yZ;rcases h1 with h1 |⟨h1,h2⟩
 all_goals simp_all[Bool.or_true,jf,iG]
theorem yJ.ne6 (A:yJ S w0 E i x) (I:xk S w0 E) (hC:E.C i=gW x) (O:zm x) (h6:x.state=6):jP x.v.lv≠[]:=by
 obtain⟨c,hc⟩:∃c,x.c=some c:=by
  cases h:x.c with
  |none=>exact absurd h (O.c6 h6)
  |some c=>simp
 have Cd:E.C i=some c:=by simp_all[gW]
 rw[← (A.c h6 c hc).cells];exact(I.dL i c Cd).ne
theorem yJ.Ly (A:yJ S w0 E i x) (I:xk S w0 E) (hC:E.C i=gW x) (O:zm x) (W:AQ x) (h2:2≤x.state):AR S w0 E (jq t x pick):=by
 have bK:=O.st;have no5:x.state≤5→qS x=false:=λh=>j4 (O.c0 h);have Cc:x.state=6→∃c,x.c=some c∧E.C i=some c∧c.p.fin=0∧(qS x=true↔bV c):=λh6=>by
  obtain⟨c,hc⟩:∃c,x.c=some c:=by
   cases h:x.c with
   |none=>exact absurd h (O.c6 h6)
   |some c=>simp
  have hp:=(A.lk.c h6 c hc).2;refine⟨c,hc,by simp_all[gW],hp,?_⟩;rw[yu omQ hc,iG hp,iV (by omega:¬c.p.fin=2),Bool.and_true,Bool.or_false];exact(A.c h6 c hc).wg
 refine⟨A.t h2,λh=>?_,λh=>?_⟩
 ·rw[vr]at h;show RT S w0 E x.aa x.v.K;by_cases h7:x.state=7
  ·exact(A.end_ omQ).no λhx=>h ⟨.inl ((W h7).2 hx),hx.2⟩
  by_cases h8:x.state=8
  ·exact(A.end_ omQ).no λhx=>h ⟨.inr ⟨h8,hx.1⟩,hx.2⟩
  refine(A.live h2 omQ λc h6 hc hw=>?_).rt;obtain⟨c',bA,_,_,D5⟩:=Cc h6;rw[hc]at bA;cases bA;exact h ⟨.inl (D5.2 hw),A.ne6 I hC O h6⟩
 ·have e:=GE h;rw[vr]at h;rw[e];show RT S w0 E (x.aa-1) x.v.K∧S.start<x.aa∧E.G (x.aa-S.start).toNat=jP x.v.lv;by_cases h7:7≤x.state
  ·refine(A.end_ h7).yes ⟨?_,h.2⟩;rcases h.1 with h1 |⟨_,h1⟩
   ·by_cases h8:x.state=8
    ·simp_all[qS,iV]
    ·exact((W omQ).1 h1).1
   grind
  ·have hw:qS x=true:=by
    grind
   have h6:x.state=6:=by
    grind
   obtain⟨c,hc,Cd,hp,D5⟩:=Cc h6;have wr:=D5.1 hw;have J:=A.c h6 c hc;have CI:=I.dL i c Cd;have h56:c.state=5∨c.state=6:=wr;have hn:=(CI.now omQ omQ).1;obtain⟨j1,j2⟩:=J.wr wr;refine⟨by grind,by omega,?_⟩;rw[j1,← J.cells];exact I.sD i c Cd wr
end
section
theorem NK {M:zG} {o:dj}:(qR M o).2.w.length=M.w.length∧(qR M o).2.l.length=M.l.length∧(qR M o).2.s.length=M.s.length:=by
 have key:(gX M o).2.w.length=M.w.length∧(gX M o).2.l.length=M.l.length∧(gX M o).2.s.length=M.s.length:=by
  grind[gX,Xm,Xp,YA,VJ]
 grind[gG]
theorem qVp (t:qu) (W:cL t):cL (jC t):=by
 unfold jC
 split
 ·split
  ·simp[gV]
  trivial
 grind
theorem qku (t:qu) (W:cL t) (s v:Int):cL (zy t s v):=by
 unfold zy
 split
 ·grind
 ·split
  ·split
   ·simp[gV]
   ·split
    all_goals trivial
  grind
theorem YR (t:qu):(jC t).ah=t.ah:=by
 unfold jC
 split
 ·split
  ·exact(xb _).ah
  rfl
 rfl
theorem UA (t:qu) (s v:Int):(zy t s v).ah=t.ah:=by
 unfold zy
 split
 ·rfl
 ·split
  ·split
   ·exact(xb _).ah
   grind
  rfl
structure NJ (m:vY):Prop where
  so:xo m.s
  r:DP m.m
  len:(m.t.length:Int)=m.s.ad
  w:(m.m.w.length:Int)=m.s.words
  l:(m.m.l.length:Int)=m.s.ae
  sl:(m.m.s.length:Int)=m.s.ad
  t:∀(i:Nat) (t:qu),m.t[i]? =some t→xR t∧cL t∧(t.ah.length:Int)≤m.az
  az:0≤m.az
  aN:0≤m.m.aN∧m.m.aN≤m.az+1
theorem YL {ts:List qu} {i:Nat} {s v:Int} {k:Nat}:(yQ ts i s v)[k]? =(ts[k]?).map λt=>if k=i then t else zy t s v:=by simp[yQ,List.getElem?_mapIdx]
theorem qVM {m:vY} (K:NJ m) {i:Nat} (hi:i<m.t.length) {draw:Int} (hd:0≤draw):NJ (xZ m i draw)∧(xZ m i draw).s=m.s∧(xZ m i draw).az=m.az+1:=by
 obtain⟨t,ht⟩:∃t,m.t[i]? =some t:=⟨m.t[i],iW hi⟩;obtain⟨O,W,hp⟩:=K.t i t ht;have Ce:=K.az;have mD:=K.aN;have eI:∀(u:qu) {k:Nat} {v:qu},(m.t.set i u)[k]? =some v→(k=i∧v=u)∨(k≠i∧m.t[k]? =some v):=λu k v h=>by
  grind
 unfold xZ;rw[ht];dsimp only
 split
 ·refine⟨⟨K.so,K.r,by show((m.t.set i _).length:Int)=_;rw[List.length_set];exact K.len,K.w,K.l,K.sl,λk v hv=>?_,by grind,by grind⟩,rfl,rfl⟩;show xR v∧cL v∧(v.ah.length:Int)≤m.az+1;rcases eI _ hv with⟨_,rfl⟩ |⟨_,h⟩
  ·grind[U3,qVp,YR]
  ·obtain⟨a,b,c⟩:=K.t k v h;grind
 ·rename_i o hn;have ho:=kR O W hn;obtain⟨a1,a2⟩:=Jn K.r ho;have O':=Ue O a1 hd (pick:=m.az+1) (draw:=draw);have W':=O7 O W a1 draw (m.az+1);have G:=(qji t (qR m.m o).1 draw (m.az+1)).ah;obtain⟨l1,l2,l3⟩:=NK (M:=m.m) (o:=o);have lc:=Oh (M:=m.m) (o:=o);generalize qR m.m o=r at*;generalize jg t r.1 draw (m.az+1)=u at*;have one:∀(k:Nat) (v:qu),(m.t.set i u)[k]? =some v→xR v∧cL v∧(v.ah.length:Int)≤m.az+1:=λk v hv=>by
   rcases eI _ hv with⟨_,rfl⟩ |⟨_,h⟩
   ·grind
   ·obtain⟨a,b,c⟩:=K.t k v h;grind
  have base:∀ts:List qu,ts.length=m.t.length→(∀(k:Nat) (v:qu),ts[k]? =some v→xR v∧cL v∧(v.ah.length:Int)≤m.az+1)→NJ { m with az:=m.az+1,last:=o,did:=true,m:=r.2,t:=ts }:=λts hl H=>⟨K.so,a2,by show(ts.length:Int)=_;rw[hl];exact K.len,by show(r.2.w.length:Int)=_;rw[l1];exact K.w,by show(r.2.l.length:Int)=_;rw[l2];exact K.l,by show(r.2.s.length:Int)=_;rw[l3];exact K.sl,H,by grind,by grind⟩
  refine⟨?_,rfl,rfl⟩
  split
  ·refine base _ (by simp[yQ]) λk v hv=>?_;rw[YL]at hv;grind[zy,Option.some.inj,ZK,qku,UA]
  grind
theorem qWb {s:je} {jobs:List (List (List qO))} (hs:0≤s.start) (hj:∀js∈jobs,∀l∈js,(yn l).2=0∧bO l):NJ (wu s jobs):=by
 have so:xo (jT { s with ad:=((jobs.take 4).length:Int) }):=wY hs;have q1:=so.words;have q2:=so.ae;have q3:=so.ad;have q4:=so.start;have Q:=qWu (qG2 so) (at_:=5) (w:=14) od ⟨by simp,by simp⟩;unfold wu;dsimp only;generalize jT { s with ad:=((jobs.take 4).length:Int) }=S at*;refine⟨so,⟨Q.wd,by rw[Q.n];grind,λz hz=>?_⟩,?_,Q.w,?_,?_,λi t ht=>?_,Int.le_refl _,?_⟩
 ·rw[Q.s]at hz;grind
 ·grind
 ·rw[Q.l,List.length_replicate];grind
 ·rw[Q.s,List.length_replicate];grind
 ·rw[List.getElem?_map]at ht;by_cases hi:i<S.ad.toNat
  ·rw[List.getElem?_range hi]at ht;have ht:=Option.some.inj ht;subst ht;have ug:∀l∈(((jobs.take 4)[i]?).getD []),(yn l).2=0∧bO l:=λl hl=>by
    grind
   refine⟨qv0 q4.1 ug,gk _,?_⟩;have:(Vs (i:Int) S (((jobs.take 4)[i]?).getD [])).ah=[]:=(vk _).ah;grind
  grind
 ·have:=Q.aN;grind
end
section
variable {S S':je} {w0:List Int} {E F:Env} {i:Nat} {x y:q9} {t:qu} {r:zP} {d p:Int} {M:zG}
structure Fe (S:je) (w0:List Int) (E:Env) (i:Nat) (x:q9):Prop where
  ai:yJ S w0 E i x
  w7:AQ x
  bg:Bg x
structure VV (S:je) (w0:List Int) (E:Env) (i:Nat) (t:qu):Prop where
  a:t.state=1→∀x,t.now=some x→Fe S w0 E i x
  p:∀r∈t.ah,AR S w0 E r
theorem jJP {me:Int} {j:Xn} (L:vp S E.M.n (KK me S' j) i):Fe S w0 E i (KK me S' j) :=
 ⟨⟨L,λ_=>⟨rfl,rfl⟩,λh=>absurd h (by nofun),λh=>absurd h (by nofun),λh=>(by cases h),λh=>(by rcases h with h |h<;>cases h),λh=>(by cases h),λh=>absurd h (by nofun)⟩,
  λh=>(by cases h),⟨λh=>(by cases h),λh=>absurd h (by nofun)⟩⟩
def oH (t:qu):Prop:=t.state=1→∀x,t.now=some x→∃me S j,x=KK me S j
theorem kf (h:t.state≠1):oH t:=λh'=>absurd h' h
theorem vR:oH (z8 t):=by
 unfold z8
 split
 ·nofun
 ·intro _ x hx;have hx:=Option.some.inj hx;subst hx
  split
  ·exact⟨_,_,_,rfl⟩
  ·exact⟨_,_,_,rfl⟩
theorem VA:oH (yW t d):=by
 grind[yW,vR,kf]
theorem Zn (h5:t.state≠1):oH (vq t):=by
 have key:∀u:qu,u.state≠1→oH (vw u):=λu c=>by
  unfold vw
  split
  ·exact kf c
  ·split
   ·exact vR
   simp[vR]
 grind[vq]
theorem Kn:oH (yD t x d p):=by
 unfold yD;dsimp only
 split
 ·grind[kf,VA]
 ·split
  ·grind[vR,kf]
  ·split
   ·exact vR
   ·unfold Qn
    split
    ·exact vR
    simp[Zn]
theorem Ko (h:t.state≠1):oH (jC t):=by
 grind[jC,vR,kf]
theorem mr:Jw t (jC t):=by
 unfold jC
 split
 ·split
  ·exact(Jw.trans (u:={ t with aP:=0 }) ⟨rfl,rfl⟩ (xb _))
  ·exact⟨rfl,rfl⟩
 ·exact .refl t
theorem ko:(yD t x d p).ah=t.ah++[jq t x p]:=by
 unfold yD;dsimp only
 split
 ·split
  ·rfl
  ·exact(wy _ _).ah
 ·split
  ·split
   ·exact(xb _).ah
   rfl
  ·split
   ·exact(NX _ _).ah
   ·exact(O8 _).ah
theorem VV.fresh (L:ThrLk S E.M.n t i) (hf:oH t) (hp:∀r∈t.ah,AR S w0 E r):VV S w0 E i t :=
 ⟨λh1 x hx=>by
  have L1:=L.a h1 x hx;obtain⟨a,b,c,e⟩:=hf h1 x hx;grind[jJP],hp⟩
theorem Yo (h:t.state≠1):x9 t=none:=iQ h
theorem Kq (h1:t.state=1) (hx:t.now=some x):x9 t=gW x:=by simp_all[x9,gW]
theorem XK (hf:oH t):x9 t=none:=by
 by_cases h1:t.state=1
 ·cases hx:t.now with
  |none=>simp_all[x9]
  |some x=>obtain⟨a,b,c,e⟩:=hf h1 x hx;rw[Kq h1 hx,e];rfl
 grind[Yo]
theorem Fe.later (Z:Fe S w0 E i x) (I:xk S w0 E) (hC:E.C i=gW x) (L:yi S E F):Fe S w0 F i x :=
 ⟨Z.ai.later L I.env λc h6 hc h4 Fc=>by
  have Cd:E.C i=some c:=by simp_all[gW]
  have:=I.dL i c Cd
  exact⟨(this.now omQ Fc).1,this.lk.s4 h4 Fc⟩,Z.w7,Z.bg⟩
theorem VV.later (T:VV S w0 E i t) (I:xk S w0 E) (hC:E.C i=x9 t) (L:yi S E F):VV S w0 F i t :=
 ⟨λh1 x hx=>(T.a h1 x hx).later I (hC.trans (Kq h1 hx)) L,λr hr=>(T.p r hr).later L I.env⟩
theorem YN (h:r∈t.ah):r∈qg t:=List.mem_append_left _ h
theorem jZL {s v:Int} (T:VV S w0 E i t) (L:ThrLk S E.M.n (zy t s v) i):VV S w0 E i (zy t s v)∧x9 (zy t s v)=x9 t∧∀r∈qg t,r∈qg (zy t s v):=by
 unfold zy at L ⊢
 split
 ·grind
 ·rename_i x hx;rw[hx]at L;dsimp only at L
  split
  ·rename_i hs;rw[iJ hs]at L
   split
   ·rename_i h4;rw[iJ h4]at L;refine⟨.fresh L vR λr hr=>T.p r ((xb t).ah▸hr),(XK vR).trans (Yo omQ).symm,λr hr=>YN ?_⟩;rw[(xb t).ah];simp_all[qg,List.append_nil]
   ·split
    ·exact⟨⟨T.a,T.p⟩,rfl,λr h=>h⟩
    grind
  grind
theorem jJC (Z:Fe S w0 F i y) (P:∀r∈t.ah,AR S w0 F r) (h1:t.state=1) (I:xk S w0 F) (hC:F.C i=gW y) (O:zm y) (L:ThrLk S F.M.n (xi t x y d p) i) :
  VV S w0 F i (xi t x y d p)∧x9 (xi t x y d p)=gW y:=by
 unfold xi at L ⊢;dsimp only at L ⊢;by_cases he:jf y=0
 ·rw[iJ he]at L ⊢;exact⟨⟨λ_ z hz=>by grind,P⟩,Kq h1 rfl⟩
 ·rw[iQ he]at L ⊢;have h8:y.state=8:=by
   unfold jf at he
   grind
  refine⟨.fresh L Kn λr hr=>?_,(XK Kn).trans (Eq.symm (iQ omQ))⟩;rw[ko]at hr;rcases List.mem_append.1 hr with hr |hr
  ·grind
  ·rw[List.mem_singleton.1 hr];exact Z.ai.Ly I hC O Z.w7 omQ
theorem qjo (h:r∈t.ah):r∈qg (xi t x y d p):=by
 grind[YN,xi,ko,List.mem_append_left]
theorem qJD (h1:t.state=1) (hb:y.begun=true) (hw:(y.state=8∧y.fin=2)∨qS y=true) (bW:jP y.v.lv≠[]) :
  ∃r∈qg (xi t x y d p),ja r∧r.cells=jP y.v.lv∧r.aa=y.aa:=by
 unfold xi;dsimp only
 split
 ·rename_i he;generalize hu:({ t with now:=some y,born:=if y.begun=true∧x.begun=false then p else t.born }:qu)=u;have e:qg u=u.ah++[jq u y 0]:=by
   subst hu;simp_all[qg]
  have w:ja (jq u y 0):=vr.2 ⟨by grind,bW⟩;exact⟨jq u y 0,by grind,w,GE w,rfl⟩
 ·generalize({ t with now:=some y,born:=if y.begun=true∧x.begun=false then p else t.born }:qu)=u;have w:ja (jq u y p):=vr.2 ⟨by grind,bW⟩;exact⟨jq u y p,YN (by rw[ko];simp),w,GE w,rfl⟩
structure Um (w0:List Int) (m:vY) (G:wB):Prop where
  mem:xk m.s w0 (yG m G)
  t:∀(i:Nat) (t:qu),m.t[i]? =some t→VV m.s w0 (yG m G) i t
  src:∀k:Nat,G k≠[]→∃(i:Nat) (t:qu) (r:zP),m.t[i]? =some t∧r∈qg t∧ja r∧r.cells=G k∧r.aa=m.s.start+k
  len:m.m.s.length=m.t.length
theorem qVf {m:vY} {G:wB} {M:zG} {C:Nat→Option jX} (h1:m.m=M) (h2:∀k,(m.t[k]?).bind x9=C k):yG m G=⟨M,G,C⟩:=by unfold yG;simp_all
theorem Um.D6 {m:vY} {G:wB} (Z:Um w0 m G) (K:JI m) {i:Nat} {t:qu} (ht:m.t[i]? =some t) {r:zP} (hr:r∈qg t):AR m.s w0 (yG m G) r:=by
 have T:=Z.t i t ht;rcases List.mem_append.1 hr with hr |hr
 ·exact T.p r hr
 ·cases hx:t.now with
  |none=>grind
  |some x=>
   rw[hx]at hr;dsimp only at hr;by_cases hb:t.state=1∧x.begun=true
   ·rw[iJ hb]at hr;rw[List.mem_singleton.1 hr];have A:=T.a hb.1 x hx;have OA:=(((K.t i t ht).1.c omQ).now x hx).1;refine A.ai.Ly Z.mem ?_ OA A.w7 (A.bg.1 hb.2);show(m.t[i]?).bind x9=_;grind[Kq]
   grind
end
section
variable {S:je} {w0:List Int} {E F:Env} {G:wB} {i:Nat} {x y:q9} {t:qu} {r:zP} {d p:Int} {m:vY} {o:dj}
theorem yJ.err (I:xk S w0 E) (A:yJ S w0 E i x) (O:zm x) (hi:i<4) (hs:(i:Int)<E.M.s.length) (hn:zp x=some o):(qR E.M o).1.err=0:=by
 have bK:=O.st;by_cases h6:x.state=6
 ·obtain⟨c,hc⟩:∃c,x.c=some c:=by
   cases h:x.c with
   |none=>exact absurd h (O.c6 h6)
   |some c=>simp
  obtain⟨CL,hf⟩:=A.lk.c h6 c hc;obtain⟨o',bY,K⟩:=ZT I.ml CL omQ hf;have:o'=o:=by unfold zp at hn;grind
  rw[← this];exact K.err
 ·exact(A.Lj I O hs h6 hn).err
theorem Jy (h:t.state≠1):qg t=t.ah:=by
 unfold qg
 grind
structure ThrS (S:je) (w0:List Int) (E:Env) (i:Nat) (t u:qu) (M':zG) (G':wB):Prop where
  mem:xk S w0 ⟨M',G',cU E.C i (x9 u)⟩
  AS:yi S E ⟨M',G',cU E.C i (x9 u)⟩
  AT:VV S w0 ⟨M',G',cU E.C i (x9 u)⟩ i u
  carry:∀r∈qg t,ja r→∃r'∈qg u,ja r'∧r'.cells=r.cells∧r'.aa=r.aa
  new:∀k,G' k≠[]→G' k=E.G k∨∃r'∈qg u,ja r'∧r'.cells=G' k∧r'.aa=S.start+(k:Int)
theorem qgI {C:Nat→Option jX} {o:Option jX} (h:C i=o):cU C i o=C:=by
 grind[Ju,gU]
theorem jQP (K:JI m) (Z:Um w0 m G) (ht:m.t[i]? =some t) (hn:xW t=some o) (Lu:ThrLk m.s (qR m.m o).2.n (jg t (qR m.m o).1 d p) i) :
  ∃G',ThrS m.s w0 (yG m G) i t (jg t (qR m.m o).1 d p) (qR m.m o).2 G':=by
 obtain⟨O,W,L⟩:=K.t i t ht;have hi:=(List.getElem?_eq_some_iff.1 ht).1;have Cf:i<4:=by have:=K.len;have:=K.th;omega
 have hs:(i:Int)<(yG m G).M.s.length:=by have:=Z.len;show(i:Int)<m.m.s.length;omega
 have T:=Z.t i t ht;have Ff:(yG m G).C i=x9 t:=by show(m.t[i]?).bind x9=_;grind
 by_cases h1:t.state=1
 ·obtain⟨x,hx⟩:∃x,t.now=some x:=by
   cases h:t.now with
   |none=>exact absurd h (O.c omQ).some
   |some x=>simp
  have OA:=((O.c omQ).now x hx).1;have bY:zp x=some o:=by simp_all[xW]
  have r8:=(Jn K.r (kR O W hn)).1;have A:=T.a h1 x hx;have hC:(yG m G).C i=gW x:=Ff.trans (Kq h1 hx);have ha:(qR m.m o).1.err=0:=A.ai.err Z.mem OA Cf hs bY;obtain⟨G',s1,s2,s3,s4,s5⟩:=A.ai.step K.so Z.mem OA Cf hs hC bY r8;have s1:xk m.s w0 ⟨(qR m.m o).2,G',cU (yG m G).C i (gW (qd x (qR m.m o).1))⟩:=s1;have s2:yi m.s (yG m G) ⟨(qR m.m o).2,G',cU (yG m G).C i (gW (qd x (qR m.m o).1))⟩:=s2;have s3:yJ m.s w0 ⟨(qR m.m o).2,G',cU (yG m G).C i (gW (qd x (qR m.m o).1))⟩ i (qd x (qR m.m o).1):=s3;have s4:∀k,G' k=G k∨(G' k=jP (qd x (qR m.m o).1).v.lv∧qS (qd x (qR m.m o).1)=true∧((qd x (qR m.m o).1).aa-m.s.start).toNat=k):=s4;have O':=XA OA r8;have w7:=qgt OA (A.ai.ne6 Z.mem hC OA) ha;have bg:=qGL A.bg OA.st.1 ha;have on:=λhw=>V6 A.ai OA A.w7 hw ha;have bb:=λh2=>XW (a:=(qR m.m o).1) (x:=x) h2;have et:jg t (qR m.m o).1 d p=xi t x (qd x (qR m.m o).1) d p:=by simp_all[jg]
  rw[et]at Lu ⊢;generalize qR m.m o=q at*;generalize qd x q.1=y at*;obtain⟨t1,t2⟩:=jJC (x:=x) (d:=d) (p:=p) ⟨s3,w7,bg⟩ (λr hr=>(T.p r hr).later s2 Z.mem.env) h1 s1 Ju O' Lu;refine⟨G',by grind,by grind,by grind,λr hr hw=>?_,λk hk=>?_⟩
  ·rcases List.mem_append.1 hr with hr |hr
   ·exact⟨r,qjo hr,hw,rfl,rfl⟩
   ·rw[hx]at hr;dsimp only at hr;by_cases hb:t.state=1∧x.begun=true
    ·rw[iJ hb]at hr;have er:=List.mem_singleton.1 hr;subst er;have hc:=GE hw;have h8:x.state≠8:=λh=>by
      simp_all[zp,omQ]
     obtain⟨w1,w2⟩:=vr.1 hw;have Cg:qS x=true:=by
      grind
     obtain⟨v1,v2,v3⟩:=on Cg;obtain⟨r',g1,g2,g3,g4⟩:=qJD (t:=t) (x:=x) (d:=d) (p:=p) h1 ((bb (A.bg.1 hb.2)).b.trans hb.2) v3 (by grind);exact⟨r',g1,g2,by grind,by rw[g4];exact v2⟩
    grind
  ·rcases s4 k with e |⟨e1,e2,e3⟩
   ·exact .inl e
   ·have h6:¬y.state≤5:=λh=>by
     rw[j4 (O'.c0 h)]at e2;grind
    obtain⟨r',g1,g2,g3,g4⟩:=qJD (t:=t) (x:=x) (d:=d) (p:=p) h1 (bg.2 omQ) (.inr e2) (by grind);have:=(s3.t omQ).1;grind
 ·have hk:o.kind=8:=by
   unfold xW at hn;rw[iQ h1]at hn
   split at hn
   ·cases hn;rfl
   ·split at hn
    ·cases hn;rfl
    grind
  have e3:=qQl (M:=m.m) (o:=o) omQ;have N:oH (jg t (qR m.m o).1 d p)∧(jg t (qR m.m o).1 d p).ah=t.ah:=by
   unfold jg;rw[iQ h1]
   split
   ·split
    ·exact⟨kf h1,rfl⟩
    ·exact⟨VA,(wy _ _).ah⟩
   ·split
    ·exact⟨Zn (by grind),(Q2 _).ah⟩
    ·exact⟨kf h1,rfl⟩
  generalize qR m.m o=q at*;generalize jg t q.1 d p=u at*;obtain⟨n1,n2⟩:=N;have eC:cU (yG m G).C i (x9 u)=(yG m G).C:=qgI (by grind[Yo,XK]);have s2:=wD (S:=m.s) (E:=yG m G) (M':=q.2) e3;refine⟨G,by rw[eC];exact Z.mem.same e3,by rw[eC];exact s2,?_,λr hr hw=>⟨r,YN ?_,hw,rfl,rfl⟩,λk _=>.inl rfl⟩
  ·rw[eC];exact .fresh Lu n1 λr hr=>(T.p r (n2▸hr)).later s2 Z.mem.env
  grind[Jy]
theorem qz2 (K:JI m) (Z:Um w0 m G) (hi:i<m.t.length) (hd:0≤d):∃G',Um w0 (xZ m i d) G'∧yi m.s (yG m G) (yG (xZ m i d) G'):=by
 obtain⟨K',ks,-,-,-⟩:=YI K hi hd;obtain⟨t,ht⟩:∃t,m.t[i]? =some t:=⟨m.t[i],iW hi⟩;have fD:∀(u:qu),(m.t.set i u)[i]? =some u:=λu=>by grind
 have eI:∀(u:qu) {k:Nat},k≠i→(m.t.set i u)[k]? =m.t[k]?:=λu k hk=>by grind
 have Ff:(yG m G).C i=x9 t:=by show(m.t[i]?).bind x9=_;grind
 unfold xZ at K' ks ⊢;rw[ht]at K' ks ⊢;dsimp only at K' ks ⊢;cases hn:xW t with
 |none=>
  rw[hn]at K';dsimp only at K' ⊢;have P:x9 (jC t)=x9 t∧VV m.s w0 (yG m G) i (jC t)∧∀r∈qg t,r∈qg (jC t):=by
   by_cases h1:t.state=1
   ·have e:jC t=t:=by unfold jC;grind
    rw[e];exact⟨rfl,Z.t i t ht,λr h=>h⟩
   ·refine⟨(XK (Ko h1)).trans (Yo h1).symm,.fresh (K'.t i _ (fD _)).2.2 (Ko h1) λr hr=>(Z.t i t ht).p r (mr.ah▸hr),λr hr=>YN ?_⟩;rw[Jy h1]at hr;rw[mr.ah];grind
  have ee:yG { m with az:=m.az+1,last:=bx 0 0 0,did:=false,t:=m.t.set i (jC t) } G=yG m G:=by
   refine qVf (M:=m.m) (C:=(yG m G).C) rfl λk=>?_;show((m.t.set i (jC t))[k]?).bind x9=_;by_cases hk:k=i
   ·grind
   ·rw[eI _ hk];rfl
  refine⟨G,⟨by rw[ee];exact Z.mem,λk v hv=>?_,λk hk=>?_,by show m.m.s.length=(m.t.set i _).length;rw[List.length_set];exact Z.len⟩,by rw[ee];exact wD ⟨rfl,rfl,rfl⟩⟩
  ·rw[ee];have hv:(m.t.set i (jC t))[k]? =some v:=hv;by_cases hk:k=i
   ·grind
   ·rw[eI _ hk]at hv;exact Z.t k v hv
  ·obtain⟨j,v,r,g1,g2,g3,g4,g5⟩:=Z.src k hk;by_cases hj:j=i
   ·grind
   ·exact⟨j,v,r,(eI _ hj).trans g1,g2,g3,g4,g5⟩
 |some o=>
  rw[hn]at K';dsimp only at K' ⊢;have hg:∃g:Nat→qu→qu,(∀(ts:List qu) (k:Nat),(if o.kind=5 then yQ ts i o.at_ o.lk.1 else ts)[k]? =(ts[k]?).map (g k))∧(∀v,g i v=v)∧∀k v,g k v=v∨∃a b,g k v=zy v a b:=by
   by_cases h5:o.kind=5
   ·refine⟨λk v=>if k=i then v else zy v o.at_ o.lk.1,λts k=>by simp_all[KW],λv=>iJ rfl,λk v=>?_⟩;grind
   ·exact⟨λ_ v=>v,λts k=>by grind,λv=>rfl,λk v=>.inl rfl⟩
  obtain⟨g,u7,pZ,hg3⟩:=hg;have hlen:(if o.kind=5 then yQ (m.t.set i (jg t (qR m.m o).1 d (m.az+1))) i o.at_ o.lk.1 else m.t.set i (jg t (qR m.m o).1 d (m.az+1))).length=m.t.length:=by
   grind[yQ,List.length_mapIdx,List.length_set]
  have Fg:∀k,(if o.kind=5 then yQ (m.t.set i (jg t (qR m.m o).1 d (m.az+1))) i o.at_ o.lk.1 else m.t.set i (jg t (qR m.m o).1 d (m.az+1)))[k]? =((m.t.set i (jg t (qR m.m o).1 d (m.az+1)))[k]?).map (g k):=λk=>u7 _ k;have CM:=(NK (M:=m.m) (o:=o)).2.2;have Lu:=(K'.t i (jg t (qR m.m o).1 d (m.az+1)) (by grind)).2.2;obtain⟨G',TS⟩:=jQP K Z ht hn (d:=d) (p:=m.az+1) Lu;have KL:∀(k:Nat) (v:qu),((m.t.set i (jg t (qR m.m o).1 d (m.az+1)))[k]?).map (g k)=some v→ThrLk m.s (qR m.m o).2.n v k:=λk v hv=>(K'.t k v (by grind)).2.2;generalize CW:(if o.kind=5 then yQ (m.t.set i (jg t (qR m.m o).1 d (m.az+1))) i o.at_ o.lk.1 else m.t.set i (jg t (qR m.m o).1 d (m.az+1)))=ts at*;clear K' CW Lu;generalize qR m.m o=q at*;generalize jg t q.1 d (m.az+1)=u at*;have other:∀(k:Nat) (v:qu),k≠i→m.t[k]? =some v→VV m.s w0 ⟨q.2,G',cU (yG m G).C i (x9 u)⟩ k (g k v)∧x9 (g k v)=x9 v∧∀r∈qg v,r∈qg (g k v):=λk v hk hv=>by
   have T0:=(Z.t k v hv).later Z.mem (by show(m.t[k]?).bind x9=_;grind) TS.AS;have L0:=KL k (g k v) (by grind);rcases hg3 k v with e |⟨a,b,e⟩
   ·grind
   grind[jZL]
  have ee:yG { m with az:=m.az+1,last:=o,did:=true,m:=q.2,t:=ts } G'=⟨q.2,G',cU (yG m G).C i (x9 u)⟩:=by
   refine qVf rfl λk=>?_;show(ts[k]?).bind x9=_;rw[Fg];by_cases hk:k=i
   ·grind[Ju]
   ·rw[eI _ hk,gU hk];show((m.t[k]?).map (g k)).bind x9=(m.t[k]?).bind x9;cases hv:m.t[k]? with
    |none=>rfl
    |some v=>grind
  refine⟨G',⟨by rw[ee];exact TS.mem,λk v hv=>?_,λk hk=>?_,by show q.2.s.length=ts.length;rw[CM,hlen];exact Z.len⟩,by rw[ee];exact TS.AS⟩
  ·rw[ee];have hv:ts[k]? =some v:=hv;rw[Fg]at hv;by_cases hk:k=i
   ·subst hk;rw[fD,Option.map_some,pZ]at hv;cases hv;exact TS.AT
   grind
  ·have Lz:ts[i]? =some u:=by grind
   rcases TS.new k hk with e |⟨r,g1,g2,g3,g4⟩
   ·rw[e]at hk ⊢;obtain⟨j,v,r,g1,g2,g3,g4,g5⟩:=Z.src k hk;by_cases hj:j=i
    ·subst hj;rw[ht]at g1;cases g1;obtain⟨r',f1,f2,f3,f4⟩:=TS.carry r g2 g3;exact⟨j,u,r',Lz,f1,f2,f3.trans g4,f4.trans g5⟩
    ·exact⟨j,g j v,r,by grind,(other j v hj g1).2.2 r g2,g3,g4,g5⟩
   grind
end
section
variable {S:je} {w0:List Int} {E F:Env} {G:wB} {i:Nat} {m:vY}
theorem qJt {M:zG} {p k:Int}:(qR M (bx 2 p k)).2.n=M.n∧(qR M (bx 2 p k)).2.s=M.s∧(qR M (bx 2 p k)).2.l=M.l:=by
 have key:(gX M (bx 2 p k)).2.n=M.n∧(gX M (bx 2 p k)).2.s=M.s∧(gX M (bx 2 p k)).2.l=M.l:=by
  unfold gX;rw[iJ (.inr rfl)];unfold Xm
  grind
 grind[gG]
theorem qwT {s:je} {jobs:List (List (List qO))} (hs:0≤s.start) (hj:∀js∈jobs,∀l∈js,(yn l).2=0∧bO l):Um (wu s jobs).m.w (wu s jobs) λ_=>[]:=by
 have K:=qWO hs hj;have AT:∀(i:Nat) (t:qu),(wu s jobs).t[i]? =some t→oH t∧t.ah=[]:=λi t ht=>by
  unfold wu at ht;dsimp only at ht;rw[List.getElem?_map]at ht;obtain⟨a,_,e⟩:=Option.map_eq_some_iff.1 ht;rw[← e];exact⟨vR,(xb _).ah⟩
 have st:(wu s jobs).m.n=(wu s jobs).s.start:=qJt.1;have sl:(wu s jobs).m.s.length=(wu s jobs).t.length:=by unfold wu;dsimp only;rw[qJt.2.1,List.length_map,List.length_range];exact List.length_replicate
 generalize wu s jobs=m at*;have ee:yG m (λ_=>[])=⟨m.m,λ_=>[],λ_=>none⟩:=by
  refine qVf rfl λk=>?_;grind[XK]
 refine⟨?_,λi t ht=>.fresh (K.t i t ht).2.2 (AT i t ht).1 λr hr=>(by grind),λk h=>absurd rfl h,sl⟩;rw[ee];refine⟨by grind,K.mem,λi c h=>(by grind),λi c h=>(by grind),λi c h=>(by grind),λi c h=>(by simp),λi j c d h=>(by simp),λ_ _=>rfl,rfl,λj z _ _ _ _ ht=>?_,λp _ _=>.inl ?_⟩
 ·obtain⟨q,hq,_⟩:=ht;grind
 ·show qB m.m.w p=hv (λ_=>[]) m.m.w (m.m.n-m.s.start).toNat p;exact(RJ (Nat.zero_le _) λ_ _ _=>rfl).symm
theorem Um.quiet (Z:Um w0 m G) (hw:qKH m=false) {p:Int} (h1:1≤p) (h2:p<m.s.words):qB m.m.w p=hv G w0 (m.m.n-m.s.start).toNat p:=by
 rcases Z.mem.mem p h1 h2 with h |⟨i,c,hc,h5,_⟩
 ·exact h
 ·exfalso;have hc:(m.t[i]?).bind x9=some c:=hc;obtain⟨t,ht,mD⟩:=Option.bind_eq_some_iff.1 hc;by_cases s1:t.state=1
  ·cases hx:t.now with
   |none=>simp_all[x9]
   |some x=>
    rw[Kq s1 hx]at mD;unfold gW at mD;by_cases h6:x.state=6
    ·rw[iJ h6]at mD;have A:=((Z.t i t ht).a s1 x hx).ai;have J:=A.c h6 c mD;have hp:=(A.lk.c h6 c mD).2;have Cg:qS x=true:=by
      rw[yu omQ mD,J.wg.2 (.inl h5),iG hp];rfl
     have ht':Gs t=true:=by simp_all[Gs,iG]
     have:=List.any_eq_false.1 hw t (List.mem_of_getElem? ht);grind
    grind
  grind[Yo]
end
section
variable {S:je} {w0:List Int} {E F:Env} {G:wB} {i:Nat} {x y:q9} {t:qu} {r:zP} {d p:Int} {m:vY} {o:dj} {a:cB}
theorem wM (hf:oH t):qg t=t.ah:=by
 by_cases h1:t.state=1
 ·unfold qg
  split
  ·rename_i x hx;obtain⟨_,_,_,e⟩:=hf h1 x hx;rw[iQ (λh=>by have h2:=h.2;rw[e]at h2;cases h2),List.append_nil]
  simp
 grind[Jy]
theorem qgE {k e:Int}:(xx x k e).state≠8:=by
 unfold xx
 split
 ·nofun
 split
 ·nofun
 split
 ·nofun
 split
 all_goals nofun
theorem qVr (h6:x.state≤6):(jz x).state≠8:=by
 unfold jz;rw[Gc.1]
 split
 ·omega
 split
 ·nofun
 unfold jd
 split
 ·unfold zZ
  split
  ·nofun
  split
  ·exact qgE
  split
  all_goals nofun
 split
 ·nofun
 split
 ·nofun
 split
 ·nofun
 grind
theorem qKP (h6:x.state≤6) (ha:a.err=0):(qd x a).state≠8:=by
 unfold qd;rw[iQ omQ,iQ (λh=>h ha)]
 split
 ·simp
 split
 ·simp
 split
 ·exact qgE
 rw[iQ omQ]
 grind[qVr,zC,jV,zS]
theorem qka (K:JI m) (Z:Um w0 m G) (ht:m.t[i]? =some t) (hn:xW t=some o) :
  ∀(b:Nat) (r':zP),(qg (jg t (qR m.m o).1 d p))[b]? =some r'→ja r'→(∃r,(qg t)[b]? =some r∧ja r∧r.aa=r'.aa)∨(G (r'.aa-m.s.start).toNat=[]∧b=t.ah.length):=by
 obtain⟨O,W,L⟩:=K.t i t ht;have hi:=(List.getElem?_eq_some_iff.1 ht).1;have Cf:i<4:=by have:=K.len;have:=K.th;omega
 have hs:(i:Int)<(yG m G).M.s.length:=by have:=Z.len;show(i:Int)<m.m.s.length;omega
 have T:=Z.t i t ht;have Ff:(yG m G).C i=x9 t:=by show(m.t[i]?).bind x9=_;grind
 by_cases h1:t.state=1
 ·obtain⟨x,hx⟩:∃x,t.now=some x:=by
   cases h:t.now with
   |none=>exact absurd h (O.c omQ).some
   |some x=>simp
  have OA:=((O.c omQ).now x hx).1;have bY:zp x=some o:=by simp_all[xW]
  have r8:=(Jn K.r (kR O W hn)).1;have A:=T.a h1 x hx;have hC:(yG m G).C i=gW x:=Ff.trans (Kq h1 hx);have ha:(qR m.m o).1.err=0:=A.ai.err Z.mem OA Cf hs bY;obtain⟨G',-,-,-,-,s5⟩:=A.ai.step K.so Z.mem OA Cf hs hC bY r8;have s5:qS (qd x (qR m.m o).1)=true→(∃c,(yG m G).C i=some c∧bV c)∨G ((qd x (qR m.m o).1).aa-m.s.start).toNat=[]:=s5;have on:=λhw=>V6 A.ai OA A.w7 hw ha;have bK:=OA.st;have h8:x.state≠8:=λh=>by
   simp_all[zp,omQ]
  have n8:=λh6=>qKP (x:=x) (a:=(qR m.m o).1) h6 ha;have e7:x.state=7→qd x (qR m.m o).1={ x with state:=8 }:=λh=>by
   simp_all[qd,omQ]
  have et:jg t (qR m.m o).1 d p=xi t x (qd x (qR m.m o).1) d p:=by simp_all[jg]
  rw[et];generalize qR m.m o=q at*;generalize qd x q.1=y at*;have aw:qS x=true→y.aa=x.aa→∀r':zP,r'.aa=y.aa→jP x.v.lv≠[]→∃r,(qg t)[t.ah.length]? =some r∧ja r∧r.aa=r'.aa:=λhw hs r' hr bW=>by
   have h2:2≤x.state:=by
    by_cases h5:x.state≤5
    ·rw[j4 (OA.c0 h5)]at hw;grind
    grind
   refine⟨jq t x 0,?_,vr.2 ⟨.inl hw,bW⟩,by rw[hr,hs];rfl⟩;unfold qg;rw[hx];dsimp only;rw[iJ ⟨h1,A.bg.2 h2⟩,List.getElem?_append_right (Nat.le_refl _),Nat.sub_self];rfl
  have left:∀(b:Nat) (r':zP),b<t.ah.length→t.ah[b]? =some r'→ja r'→∃r,(qg t)[b]? =some r∧ja r∧r.aa=r'.aa:=λb r' hb hr hw=>⟨r',by grind[qg,List.getElem?_append_left],hw,rfl⟩
  unfold xi;dsimp only;by_cases he:jf y=0
  ·rw[iJ he];generalize hu:({ t with now:=some y,born:=if y.begun=true∧x.begun=false then p else t.born }:qu)=u;have e:qg u=t.ah++if y.begun=true then[jq u y 0]else[]:=by
    subst hu;simp_all[qg]
   intro b r' hb hw;rw[e]at hb;by_cases ap:b<t.ah.length
   ·grind
   ·rw[List.getElem?_append_right omQ]at hb;by_cases sA:y.begun=true
    ·rw[iJ sA]at hb;obtain⟨q1,q2⟩:=List.getElem?_eq_some_iff.1 hb;have pX:b=t.ah.length:=by
      grind
     subst pX;have er:jq u y 0=r':=by grind
     subst er;obtain⟨w1,w2⟩:=vr.1 hw;have hwy:qS y=true:=by
      rcases w1 with w1 |⟨g1,g2⟩
      all_goals simp_all[jf]
     rcases s5 hwy with⟨c,c1,c2⟩ |g
     ·rw[hC]at c1;unfold gW at c1;by_cases h6:x.state=6
      ·rw[iJ h6]at c1;have J:=A.ai.c h6 c c1;have hp:=(A.ai.lk.c h6 c c1).2;have Cg:qS x=true:=by
        rw[yu h8 c1,J.wg.2 c2,iG hp];rfl
       obtain⟨v1,v2,_⟩:=on Cg;exact .inl (aw Cg v2 _ rfl (by grind))
      grind
     ·exact .inr ⟨g,rfl⟩
    grind
  ·rw[iQ he];have y8:y.state=8:=by
    unfold jf at he
    grind
   have x7:x.state=7:=by
    grind
   have ey:=e7 x7;intro b r' hb hw;generalize hu:({ t with now:=some y,born:=if y.begun=true∧x.begun=false then p else t.born }:qu)=u at hb;have up:u.ah=t.ah:=by grind
   rw[wM Kn,ko,up]at hb;by_cases ap:b<t.ah.length
   ·grind
   ·rw[List.getElem?_append_right omQ]at hb;obtain⟨q1,q2⟩:=List.getElem?_eq_some_iff.1 hb;have pX:b=t.ah.length:=by
     grind
    subst pX;rw[Nat.sub_self]at hb;have er:jq u y p=r':=Option.some.inj hb;subst er;obtain⟨w1,w2⟩:=vr.1 hw;have hf:y.fin=2:=by
     simp_all[qS,iV]
    rw[ey]at hf w2;have Cg:qS x=true:=(A.w7 x7).2 ⟨hf,w2⟩;exact .inl (aw Cg (by rw[ey]) _ rfl w2)
 ·have N:oH (jg t (qR m.m o).1 d p)∧(jg t (qR m.m o).1 d p).ah=t.ah:=by
   unfold jg;rw[iQ h1]
   split
   ·split
    ·exact⟨kf h1,rfl⟩
    ·exact⟨VA,(wy _ _).ah⟩
   ·split
    ·exact⟨Zn (by grind),(Q2 _).ah⟩
    ·exact⟨kf h1,rfl⟩
  intro b r' hb hw;rw[wM N.1,N.2]at hb;rw[Jy h1];grind
end
section
variable {S:je} {w0:List Int} {E F:Env} {G:wB} {i k:Nat} {t v':qu} {d p:Int} {m:vY} {o:dj}
theorem qQI (hv:(xZ m i d).t[k]? =some v'):∃v,m.t[k]? =some v∧((k≠i∧(v'=v∨∃a b,v'=zy v a b))∨(k=i∧((xW v=none∧v'=jC v)∨∃o,xW v=some o∧v'=jg v (qR m.m o).1 d (m.az+1)))):=by
 unfold xZ at hv;cases ht:m.t[i]? with
 |none=>grind
 |some t=>
  rw[ht]at hv;have hi:=(List.getElem?_eq_some_iff.1 ht).1;have fD:∀(u:qu),(m.t.set i u)[i]? =some u:=λu=>by grind
  have eI:∀(u:qu) {k:Nat},k≠i→(m.t.set i u)[k]? =m.t[k]?:=λu k hk=>by grind
  dsimp only at hv;cases hn:xW t with
  |none=>
   grind
  |some o=>
   rw[hn]at hv;have hv:(if o.kind=5 then yQ (m.t.set i (jg t (qR m.m o).1 d (m.az+1))) i o.at_ o.lk.1 else m.t.set i (jg t (qR m.m o).1 d (m.az+1)))[k]? =some v':=hv;by_cases h5:o.kind=5
   ·rw[iJ h5,KW]at hv;grind
   grind
theorem qXI {s v:Int}:qg (zy t s v)=qg t:=by
 unfold zy
 split
 ·rfl
 ·split
  ·split
   ·rename_i h4;rw[wM vR,(xb t).ah,Jy omQ]
   ·split
    all_goals rfl
  rfl
theorem Mb:qg (jC t)=qg t:=by
 by_cases h1:t.state=1
 ·simp_all[jC,omQ]
 ·rw[wM (Ko h1),mr.ah,Jy h1]
def AU (m:vY):Prop:=∀(i j:Nat) (t u:qu) (a b:Nat) (r r':zP),m.t[i]? =some t→m.t[j]? =some u→(qg t)[a]? =some r→(qg u)[b]? =some r'→ja r→ja r'→r.aa=r'.aa→i=j∧a=b
theorem qqo (K:JI m) (Z:Um w0 m G) (U:AU m):AU (xZ m i d):=by
 have bk:∀(k:Nat) (v':qu),(xZ m i d).t[k]? =some v'→∃v,m.t[k]? =some v∧∀(b:Nat) (r':zP),(qg v')[b]? =some r'→ja r'→(∃r,(qg v)[b]? =some r∧ja r∧r.aa=r'.aa)∨(G (r'.aa-m.s.start).toNat=[]∧k=i∧b=v.ah.length):=λk v' hv=>by
  obtain⟨v,mK,h⟩:=qQI hv;refine⟨v,mK,λb r' hb hw=>?_⟩;rcases h with⟨_,h⟩ |⟨hk,⟨_,h⟩ |⟨o,hn,h⟩⟩
  ·have e:qg v'=qg v:=by
    grind[qXI]
   grind
  ·rw[h,Mb]at hb;grind
  grind[qka]
 have bU:∀(k:Nat) (v:qu) (b:Nat) (r:zP),m.t[k]? =some v→(qg v)[b]? =some r→ja r→G (r.aa-m.s.start).toNat≠[]:=λk v b r hv hr hw=>by
  have R:=Z.D6 K hv (List.mem_of_getElem? hr);have e:G (r.aa-m.s.start).toNat=r.cells:=(R.yes hw).2.2;rw[e];exact hw.2
 intro k1 k2 v1 v2 b1 b2 r1 r2 h1 h2 g1 g2 w1 w2 hs;obtain⟨t1,a1,f1⟩:=bk k1 v1 h1;obtain⟨t2,a2,f2⟩:=bk k2 v2 h2;rcases f1 b1 r1 g1 w1 with⟨q1,c1,d1,e1⟩ |⟨c1,d1,e1⟩<;>rcases f2 b2 r2 g2 w2 with⟨q2,c2,d2,e2⟩ |⟨c2,d2,e2⟩
 ·exact U k1 k2 t1 t2 b1 b2 q1 q2 a1 a2 c1 c2 d1 d2 (by grind)
 all_goals grind
theorem qzM {s:je} {jobs:List (List (List qO))}:AU (wu s jobs):=by
 intro i j t u a b r r' ht _ hr;unfold wu at ht;dsimp only at ht;rw[List.getElem?_map]at ht;obtain⟨z,_,e⟩:=Option.map_eq_some_iff.1 ht;have e2:qg t=[]:=by rw[← e];exact(wM vR).trans (xb _).ah
 grind
end
section
variable {S:je} {w0:List Int} {E F:Env} {G:wB} {i k:Nat} {x y:q9} {c d:jX} {a:cB} {o:dj}
theorem qy7 {e:wc} (hp:e.p.fin=0) (ha:a.err=0):((zS e a).p.fin=0∨(zS e a).p.fin=5)∨((zS e a).p.fin=2∧(zS e a).aa=if e.aU=false then a.word else e.aa):=by
 unfold zS;rw[Qx hp ha,iQ (λh=>by grind)]
 split
 ·unfold Qg
  split
  ·exact .inr ⟨rfl,rfl⟩
  grind
 split
 ·split
  ·exact .inl (.inl (cD.trans hp))
  ·exact .inl (.inr rfl)
 split
 ·exact .inl (.inr rfl)
 ·unfold Qg
  split
  ·exact .inr ⟨rfl,rfl⟩
  grind
theorem AW {k e:Int}:(xx x k e).aa=x.aa:=by
 unfold xx
 repeat' split
 all_goals rfl
theorem qWI:(yX x).aa=x.aa:=by
 have h:(zl x).2.aa=x.aa:=by
  grind[zl]
 exact AW.trans h
theorem qV4 (A:yJ S w0 E i x) (O:zm x) (h6:x.state≠6) (h2:2≤x.state) (ha:a.err=0) (hw:x.state=4∨x.state=5→x.e.aU=false→a.word=E.M.n):x.aa≤(qd x a).aa:=by
 have bK:=O.st;have t:=A.t h2;unfold qd
 split
 ·simp
 rw[iQ (λh=>h ha),iQ omQ,iQ omQ]
 split
 ·simp[qWI]
 split
 ·simp
 have hc:=O.c0 omQ
 split
 ·rename_i h3;unfold jz
  rw[wA (by
   split
   ·grind[j4]
   split
   ·exact j4 hc
   unfold jd;rw[iJ (by grind)];unfold zZ
   split
   ·exact j4 hc
   split
   ·grind[Ku]
   split
   ·exact j4 hc
   ·exact j4 hc)]
  split
  ·simp
  split
  ·exact Int.le_refl _
  unfold jd;rw[iJ (by grind)];unfold zZ
  split
  ·exact Int.le_refl _
  split
  ·simp[qWI]
  split
  ·exact Int.le_refl _
  ·exact Int.le_refl _
 ·rename_i h3;have AO:x.state=4∨x.state=5:=by omega
  have V:=A.e AO;have ef:zd { x with e:=zS x.e a }=((zS x.e a).p.fin,(zS x.e a).p.bH):=by simp_all[zd]
  have H:=qy7 (a:=a) V.fin ha;generalize zS x.e a=e at*;have key:x.aa≤(if(zd { x with e:=e }).1=0 then{ x with e:=e }else if(zd { x with e:=e }).1=5 then z4 { x with e:=e } 5 0 (zd { x with e:=e }).2 else jd { x with e:=e }).aa∧qS (if(zd { x with e:=e }).1=0 then{ x with e:=e }else if(zd { x with e:=e }).1=5 then z4 { x with e:=e } 5 0 (zd { x with e:=e }).2 else jd { x with e:=e })=false:=by
   rw[ef];rcases H with(H |H) |⟨H,hs⟩
   ·simp_all[j4]
   ·rw[iQ (by grind),iJ (by grind)];exact⟨Int.le_refl _,j4 hc⟩
   ·have he:x.aa≤yT e:=by
     unfold yT;rw[iQ (λh=>h H),hs]
     split
     ·grind
     ·rename_i hl;exact(V.ld (by grind)).1
    rw[iQ (by grind),iQ (by grind)];unfold jd;rw[iQ (by grind)];by_cases h4:x.state=4
    ·rw[iJ (by grind)];exact⟨he,j4 hc⟩
    ·rw[iQ (by grind),iJ (by grind)];exact⟨he,j4 hc⟩
  grind[jz,wA]
theorem Vk {f e z:Int}:(zH c f e z).ag=c.ag∧(zH c f e z).now=c.now:=by
 unfold zH xK
 grind
theorem qGc {l:dz}:(xq c l).ag=c.ag∧(xq c l).now=c.now:=by
 unfold xq
 split
 ·simp
 simp[Vk]
theorem UN:(zf c).now=c.now:=by
 grind[zf,zV,zo]
theorem Mk:∀(n:Nat) (c:jX),(zv c n).now=c.now:=by
 intro n
 induction n with
 |zero=>exact λc=>UN
 |succ n ih=>
  grind[zv,Vk,UN]
theorem jJ3 (hp:c.p.fin=0) (ha:a.err=0) (h4:¬(c.state=5∨c.state=6)) (hw:c.ag=false) (hd:(jV c a).ag=true):(c.state=3∨c.state=4)∧(jV c a).now=c.now:=by
 have no:∀{d:jX},d.ag=c.ag→¬d.ag=true:=λe h=>by grind
 rw[zX hp ha]at hd ⊢
 split at hd
 ·exfalso;revert hd;unfold yf
  split
  ·grind[qGc]
  split
  ·grind
  split
  ·exact no rfl
  grind
 rename_i h01;rw[iQ h01]
 split at hd
 ·rename_i rA;rw[iJ rA];unfold yC at hd ⊢
  split at hd
  ·grind[absurd,Vk]
  rename_i g1;rw[iQ g1]
  split at hd
  ·grind
  rename_i g2;rw[iQ g2]
  split at hd
  ·grind
  rename_i g3;rw[iQ g3];refine⟨.inl omQ,?_⟩
  split
  ·exact UN
  ·exact Mk _ _
 rename_i rA;rw[iQ rA]
 split at hd
 ·rename_i g4;rw[iJ g4];refine⟨.inr g4,?_⟩;unfold xe
  split
  ·simp[qGc]
  split
  ·simp[Vk]
  ·exact Mk _ _
 rename_i g4;exfalso;rw[iQ omQ,iQ omQ]at hd;revert hd;unfold xK
 grind
end
section
variable {S:je} {w0:List Int} {E F:Env} {G:wB} {i k:Nat} {x y:q9} {c d:jX} {a:cB} {o:dj}
theorem Zf:(zf c).ag=true:=by
 grind[zf,zV,zo]
theorem Ug {f e z:Int} (hp:c.p.fin=0) (hf:f≠2):(zH c f e z).p.fin≠2:=by grind[Of]
theorem qZo {l:dz} (hp:c.p.fin=0):(xq c l).p.fin≠2:=by
 unfold xq
 split
 ·show(jQ c.p l).2.fin≠2;grind[cD]
 ·exact Ug (c:={ c with p:=(jQ c.p l).2 }) (cD.trans hp) od
theorem M3:∀(n:Nat) (c:jX),c.p.fin=0→(zv c n).ag=true∨(zv c n).p.fin≠2:=by
 intro n
 induction n with
 |zero=>exact λc _=>.inl Zf
 |succ n ih=>
  intro c hp;unfold zv
  split
  ·split
   ·omega
   ·split
    all_goals simp_all[Ug,od]
  simp[Zf]
theorem jZu (hp:c.p.fin=0) (ha:a.err=0) (h4:¬(c.state=5∨c.state=6)) (h0:0≤c.state∧c.state≤7) (hf:c.state=7→c.bn≠2):(jV c a).ag=true∨(jV c a).p.fin≠2:=by
 have p2:c.p.fin≠2:=by omega
 rw[zX hp ha]
 split
 ·unfold yf
  split
  ·grind[qZo]
  split
  ·grind
  split
  ·exact .inr p2
  grind
 split
 ·unfold yC
  split
  ·simp_all[Ug,od]
  split
  ·grind
  split
  ·grind
  split
  ·simp[Zf]
  ·exact M3 _ _ hp
 split
 ·unfold xe
  split
  ·grind[qZo]
  split
  ·simp_all[Ug,od]
  ·exact M3 _ _ hp
 rw[iQ omQ,iQ omQ];have hf:=hf omQ;unfold xK
 split
 ·exact .inr hf
 grind
structure Sg (x:q9):Prop where
  le:2≤x.state→x.aI≤x.aa
  lt:qS x=true∨(x.state=8∧x.fin=2∧jP x.v.lv≠[])→x.aI<x.aa
theorem VO {z:q9} (h8:z.state≠8) (hc:z.c=some d) (h:(d.ag=true∧z.aa≤d.now)∨(d.ag=false∧d.p.fin≠2)):z.aa≤(jZ z).aa∧(qS (jZ z)=true→z.aa<(jZ z).aa)∧(jZ z).state≠8:=by
 rcases h with⟨h1,h2⟩ |⟨h1,h2⟩
 ·cases hw:qS z with
  |true=>
   rw[Yn hc hw];have:vF d=d.now+1:=by simp_all[vF]
   grind
  |false=>simp_all[wA]
 simp_all[Y6,wA]
theorem qwd (A:yJ S w0 E i x) (I:xk S w0 E) (O:zm x) (W:AQ x) (SG:Sg x) (hi:i<4) (hs:(i:Int)<E.M.s.length) (hn:zp x=some o):Sg (qd x (qR E.M o).1):=by
 have bK:=O.st;have ha:=A.err I O hi hs hn;have h8:x.state≠8:=λh=>by
  simp_all[zp,omQ]
 by_cases h6:x.state=6
 ·obtain⟨c,hc⟩:∃c,x.c=some c:=by
   cases h:x.c with
   |none=>exact absurd h (O.c6 h6)
   |some c=>simp
  obtain⟨CL,hp⟩:=A.lk.c h6 c hc;have J:=A.c h6 c hc;have B:=XW (a:=(qR E.M o).1) (x:=x) omQ;have le:=SG.le omQ;cases hw:qS x with
  |true=>obtain⟨_,v2,_⟩:=V6 A O W hw ha;have lt:=SG.lt (.inl hw);exact⟨λ_=>by rw[B.t,v2];grind,λ_=>by rw[B.t,v2];grind⟩
  |false=>
   rw[yu h8 hc,iG hp,Bool.and_true]at hw;have Fh:c.ag=false:=(Bool.or_eq_false_iff.1 hw).1;have nw:¬(c.state=5∨c.state=6):=λh=>by rw[J.wg.2 h]at Fh;grind
   have et:qd x (qR E.M o).1=jz { x with c:=some (jV c (qR E.M o).1) }:=by simp_all[qd,omQ]
   have n1:=jZu hp ha nw CL.ok.st (λh=>by have:=J.f7 h;omega);have n2:=jJ3 hp ha nw Fh;rw[et]at B ⊢;generalize jV c (qR E.M o).1=d at*;have hd:(d.ag=true∧x.aa≤d.now)∨(d.ag=false∧d.p.fin≠2):=by
    cases hdw:d.ag with
    |true=>obtain⟨q1,q2⟩:=n2 hdw;exact .inl ⟨rfl,by rw[q2];exact J.sn omQ omQ⟩
    |false=>
     grind
   have key:x.aa≤(jz { x with c:=some d }).aa∧(qS (jz { x with c:=some d })=true→x.aa<(jz { x with c:=some d }).aa)∧(jz { x with c:=some d }).state≠8:=by
    unfold jz;rw[Lt h6]
    split
    ·exact VO (z:={ x with c:=some d }) h8 rfl hd
    split
    ·exact VO (z:=z4 { x with c:=some d } 5 0 d.p.bH) (by nofun) rfl hd
    ·unfold jd;rw[iQ (by grind),iQ (by grind),iQ (by grind)];exact VO (z:=z4 { x with c:=some d } d.p.fin d.p.err (-1)) (by nofun) rfl hd
   obtain⟨k1,k2,k3⟩:=key;have bt:(jz { x with c:=some d }).aI=x.aI:=B.t;refine⟨λ_=>by grind,λh=>?_⟩;grind
 ·have K:=A.Lj I O hs h6 hn;have tw:=qZT (a:=(qR E.M o).1) O h6;by_cases s7:x.state=7
  ·have e7:qd x (qR E.M o).1={ x with state:=8 }:=by
    simp_all[qd,omQ]
   rw[e7]at tw ⊢;refine⟨λ_=>SG.le omQ,λh=>?_⟩;rcases h with h |h
   ·grind
   ·exact SG.lt (.inl ((W s7).2 ⟨h.2.1,h.2.2⟩))
  have t8:=qKP (x:=x) (a:=(qR E.M o).1) omQ ha;refine⟨λh2=>?_,λh=>?_⟩
  ·by_cases s1:2≤x.state
   ·have B:=XW (a:=(qR E.M o).1) (x:=x) s1;have:=qV4 A O h6 s1 ha K.dS;have:=SG.le s1;rw[B.t];omega
   ·revert h2;unfold qd;grind
  grind
end
section
variable {w0:List Int} {G:wB} {i k:Nat} {x y:q9} {t v':qu} {d p:Int} {m:vY} {o:dj}
structure RecB (m:vY) (r:zP):Prop where
  le:r.aI≤r.aa
  lt:ja r→r.aI<r.aa
  born:r.born≤m.az
  ended:r.ended≤m.az
  be:0<r.ended→r.born≤r.ended
  n:r.aI≤m.m.n
structure Mc (m:vY):Prop where
  sg:∀(i:Nat) (t:qu),m.t[i]? =some t→t.state=1→∀x,t.now=some x→Sg x
  mL:∀(i:Nat) (t:qu) (b:Nat) (r:zP),m.t[i]? =some t→(qg t)[b]? =some r→RecB m r
  pair:∀(i j:Nat) (t u:qu) (b c:Nat) (r r':zP),m.t[i]? =some t→m.t[j]? =some u→(qg t)[b]? =some r→(qg u)[c]? =some r'→0<r.ended→r.ended<r'.born→r.aa≤r'.aI
def D7 (m:vY) (t:qu) (p:Int) (b:Nat) (r':zP):Prop :=
 (qg t)[b]? =some r'∨
 ((r'.aI≤r'.aa∧(ja r'→r'.aI<r'.aa))∧
  ((∃r,(qg t)[b]? =some r∧r.born=r'.born∧r.aI=r'.aI∧(r'.ended=0∨r'.ended=p))∨(r'.born=p∧r'.aI=m.m.n∧r'.ended=0)))
theorem qzO {y:q9} {u:qu} {q:Int} (S:Sg y) (h2:2≤y.state):(jq u y q).aI≤(jq u y q).aa∧(ja (jq u y q)→(jq u y q).aI<(jq u y q).aa):=by
 refine⟨S.le h2,λhw=>S.lt ?_⟩;grind[vr]
theorem qkA (K:JI m) (Z:Um w0 m G) (KR:Mc m) (ht:m.t[i]? =some t) (hn:xW t=some o) :
  (∀(b:Nat) (r':zP),(qg (jg t (qR m.m o).1 d p))[b]? =some r'→D7 m t p b r')∧
   ((jg t (qR m.m o).1 d p).state=1→∀x,(jg t (qR m.m o).1 d p).now=some x→Sg x):=by
 obtain⟨O,W,L⟩:=K.t i t ht;have hi:=(List.getElem?_eq_some_iff.1 ht).1;have Cf:i<4:=by have:=K.len;have:=K.th;omega
 have hs:(i:Int)<(yG m G).M.s.length:=by have:=Z.len;show(i:Int)<m.m.s.length;omega
 have T:=Z.t i t ht
 have s0:∀{me:Int} {S:je} {j:Xn},Sg (KK me S j):=λ{me S j}=>⟨λh=>absurd h (by nofun),λh=>by
  rcases h with h |h
  ·trivial
  ·exact absurd h.1 (by nofun)⟩
 have fresh:∀u:qu,oH u→u.state=1→∀x,u.now=some x→Sg x:=λu hf h1 x hx=>by
  obtain⟨_,_,_,e⟩:=hf h1 x hx;grind
 by_cases h1:t.state=1
 ·obtain⟨x,hx⟩:∃x,t.now=some x:=by
   cases h:t.now with
   |none=>exact absurd h (O.c omQ).some
   |some x=>simp
  have OA:=((O.c omQ).now x hx).1;have bY:zp x=some o:=by simp_all[xW]
  have A:=T.a h1 x hx;have ha:(qR m.m o).1.err=0:=A.ai.err Z.mem OA Cf hs bY;have SG:=qwd (E:=yG m G) A.ai Z.mem OA A.w7 (KR.sg i t ht h1 x hx) Cf hs bY;rw[show(yG m G).M=m.m from rfl]at SG;have BG:=qGL A.bg OA.st.1 ha;have bK:=OA.st;have h8:x.state≠8:=λh=>by
   simp_all[zp,omQ]
  have n8:=λh6=>qKP (x:=x) (a:=(qR m.m o).1) h6 ha;have bb:=λh2=>XW (a:=(qR m.m o).1) (x:=x) h2;have e0:x.state=0→qd x (qR m.m o).1={ x with state:=1 }:=λh=>by
   simp_all[qd]
  have e1:x.state=1→(qd x (qR m.m o).1).aI=m.m.n:=λh=>by
   have K1:(qR m.m o).1.word=m.m.n:=(A.ai.Lj Z.mem OA hs omQ bY).h1 h;simp_all[qd,omQ]
  have et:jg t (qR m.m o).1 d p=xi t x (qd x (qR m.m o).1) d p:=by simp_all[jg]
  rw[et];generalize qR m.m o=q at*;generalize qd x q.1=y at*;have aw:x.begun=true→(qg t)[t.ah.length]? =some (jq t x 0):=λhb=>by
   simp_all[qg,Nat.sub_self]
  have left:∀(b:Nat) (r':zP),b<t.ah.length→t.ah[b]? =some r'→D7 m t p b r':=λb r' hb hr=>.inl (by grind[qg,List.getElem?_append_left])
  unfold xi;dsimp only;by_cases he:jf y=0
  ·rw[iJ he];generalize hu:({ t with now:=some y,born:=if y.begun=true∧x.begun=false then p else t.born }:qu)=u;have ub:u.born=if y.begun=true∧x.begun=false then p else t.born:=by grind
   have un:u.now=some y:=by grind
   have e:qg u=t.ah++if y.begun=true then[jq u y 0]else[]:=by
    subst hu;simp_all[qg]
   refine⟨λb r' hb=>?_,λ_ z hz=>by grind⟩;rw[e]at hb;by_cases ap:b<t.ah.length
   ·grind
   ·rw[List.getElem?_append_right omQ]at hb;by_cases sA:y.begun=true
    ·rw[iJ sA]at hb;obtain⟨q1,q2⟩:=List.getElem?_eq_some_iff.1 hb;have pX:b=t.ah.length:=by
      grind
     subst pX;rw[Nat.sub_self]at hb;have er:jq u y 0=r':=Option.some.inj hb;subst er;have y2:=BG.1 sA;refine .inr ⟨qzO SG y2,?_⟩;cases uk:x.begun with
     |true=>refine .inl ⟨_,aw uk,?_,(bb (A.bg.1 uk)).t.symm,.inl rfl⟩;show t.born=u.born;grind
     |false=>
      have x1:¬2≤x.state:=λh=>by rw[A.bg.2 h]at uk;grind
      have xs:x.state=1:=by
       grind
      refine .inr ⟨?_,e1 xs,rfl⟩;show u.born=p;grind
    grind
  ·rw[iQ he];have y8:y.state=8:=by
    unfold jf at he
    grind
   have x7:x.state=7:=by
    grind
   have uk:=A.bg.2 omQ;refine⟨λb r' hb=>?_,fresh _ Kn⟩;generalize hu:({ t with now:=some y,born:=if y.begun=true∧x.begun=false then p else t.born }:qu)=u at hb;have up:u.ah=t.ah:=by grind
   have ub:u.born=t.born:=by grind
   rw[wM Kn,ko,up]at hb;by_cases ap:b<t.ah.length
   ·grind
   ·rw[List.getElem?_append_right omQ]at hb;obtain⟨q1,q2⟩:=List.getElem?_eq_some_iff.1 hb;have pX:b=t.ah.length:=by
     grind
    subst pX;rw[Nat.sub_self]at hb;have er:jq u y p=r':=Option.some.inj hb;subst er;exact .inr ⟨qzO SG omQ,.inl ⟨_,aw uk,ub.symm,(bb omQ).t.symm,.inr rfl⟩⟩
 ·have N:oH (jg t (qR m.m o).1 d p)∧(jg t (qR m.m o).1 d p).ah=t.ah:=by
   unfold jg;rw[iQ h1]
   split
   ·split
    ·exact⟨kf h1,rfl⟩
    ·exact⟨VA,(wy _ _).ah⟩
   ·split
    ·exact⟨Zn (by grind),(Q2 _).ah⟩
    ·exact⟨kf h1,rfl⟩
  refine⟨λb r' hb=>?_,fresh _ N.1⟩;rw[wM N.1,N.2]at hb;exact .inl (by grind[Jy])
end
section
variable {w0:List Int} {G:wB} {i k:Nat} {x y:q9} {t v':qu} {d p:Int} {m:vY} {o:dj}
theorem sg0 {me:Int} {S:je} {j:Xn}:Sg (KK me S j):=⟨λh=>absurd h (by nofun),λh=>by
 rcases h with h |h
 ·trivial
 ·exact absurd h.1 (by nofun)⟩
theorem Nc (hf:oH t):t.state=1→∀x,t.now=some x→Sg x:=λh1 x hx=>by
 obtain⟨_,_,_,e⟩:=hf h1 x hx;grind[sg0]
theorem qwi {s v:Int} (h:t.state=1→∀x,t.now=some x→Sg x):(zy t s v).state=1→∀x,(zy t s v).now=some x→Sg x:=by
 grind[zy,Nc,vR]
theorem qY2 (h:t.state=1→∀x,t.now=some x→Sg x):(jC t).state=1→∀x,(jC t).now=some x→Sg x:=by
 by_cases h1:t.state=1
 ·simp_all[jC,omQ]
 grind[Nc,Ko]
theorem qW7 (K:JI m) (Z:Um w0 m G) (KR:Mc m) (hi:i<m.t.length) (hd:0≤d) (hp:0≤m.az):Mc (xZ m i d):=by
 obtain⟨_,_,kp,kn,_⟩:=YI K hi hd;have bk:∀(k:Nat) (v':qu),(xZ m i d).t[k]? =some v'→∃v,m.t[k]? =some v∧(∀(b:Nat) (r':zP),(qg v')[b]? =some r'→D7 m v (m.az+1) b r')∧(v'.state=1→∀x,v'.now=some x→Sg x):=λk v' hv=>by
  obtain⟨v,mK,h⟩:=qQI hv;have S0:=KR.sg k v mK;refine⟨v,mK,?_⟩;rcases h with⟨_,h⟩ |⟨hk,⟨_,h⟩ |⟨o,hn,h⟩⟩
  ·rcases h with h |⟨s,z,h⟩
   ·rw[h];exact⟨λb r' hb=>.inl hb,S0⟩
   ·rw[h];exact⟨λb r' hb=>.inl (by grind[qXI]),qwi S0⟩
  ·rw[h];exact⟨λb r' hb=>.inl (by grind[Mb]),qY2 S0⟩
  grind[qkA]
 refine⟨λk v' hv=>?_,λk v' b r' hv hr=>?_,λk1 k2 v1 v2 b1 b2 r1 r2 h1 h2 g1 g2 he hb=>?_⟩
 ·grind
 ·obtain⟨v,mK,h,_⟩:=bk k v' hv;rcases h b r' hr with h |⟨⟨l1,l2⟩,⟨r,q1,q2,q3,q4⟩ |⟨q1,q2,q3⟩⟩
  ·have R:=KR.mL k v b r' mK h;exact⟨R.le,R.lt,by have:=R.born;omega,by have:=R.ended;omega,R.be,Int.le_trans R.n kn⟩
  ·have R:=KR.mL k v b r mK q1;have a1:=R.born;have a2:=R.n;exact⟨l1,l2,by omega,by omega,λh=>by omega,by omega⟩
  ·exact⟨l1,l2,by omega,by omega,λh=>by omega,by omega⟩
 ·obtain⟨t1,a1,f1,_⟩:=bk k1 v1 h1;obtain⟨t2,a2,f2,_⟩:=bk k2 v2 h2;have D8:(qg t1)[b1]? =some r1:=by
   rcases f1 b1 r1 g1 with h |⟨_,⟨r,q1,q2,q3,q4⟩ |⟨q1,q2,q3⟩⟩
   ·grind
   ·exfalso;have Wo:r2.born≤m.az+1:=by
     rcases f2 b2 r2 g2 with h |⟨_,⟨r',z1,z2,_⟩ |⟨z1,_⟩⟩
     ·have:=(KR.mL k2 t2 b2 r2 a2 h).born;omega
     ·have:=(KR.mL k2 t2 b2 r' a2 z1).born;omega
     grind
    omega
   grind
  rcases f2 b2 r2 g2 with h |⟨_,⟨r',z1,z2,z3,_⟩ |⟨_,z2,_⟩⟩
  ·exact KR.pair k1 k2 t1 t2 b1 b2 r1 r2 a1 a2 D8 h he hb
  ·rw[← z3];exact KR.pair k1 k2 t1 t2 b1 b2 r1 r' a1 a2 D8 z1 he omQ
  ·rw[z2];exact(Z.D6 K a1 (List.mem_of_getElem? D8)).t.2
theorem qgP {s:je} {jobs:List (List (List qO))}:Mc (wu s jobs):=by
 have AT:∀(i:Nat) (t:qu),(wu s jobs).t[i]? =some t→oH t∧qg t=[]:=λi t ht=>by
  unfold wu at ht;dsimp only at ht;rw[List.getElem?_map]at ht;obtain⟨a,_,e⟩:=Option.map_eq_some_iff.1 ht;rw[← e];exact⟨vR,(wM vR).trans (xb _).ah⟩
 exact⟨λi t ht=>Nc (AT i t ht).1,λi t b r ht hr=>(by grind),λi j t u b c r r' ht _ hr=>by grind⟩
def YY (a b:zP):Prop:=a.aa<b.aa∨(a.aa=b.aa∧((ja a∧¬ja b)∨((ja a↔ja b)∧a.born<b.born)))
theorem Mc.less (KR:Mc m) {i j:Nat} {t u:qu} {b c:Nat} {r r':zP} (ht:m.t[i]? =some t) (hu:m.t[j]? =some u) (hr:(qg t)[b]? =some r) (Ii:(qg u)[c]? =some r') (he:0<r.ended) (hb:r.ended<r'.born):YY r r':=by
 have P:=KR.pair i j t u b c r r' ht hu hr Ii he hb;have R:=KR.mL i t b r ht hr;have R':=KR.mL j u c r' hu Ii;have l1:=R'.le;have l2:=R'.lt;have l3:=R.be he;by_cases hs:r.aa<r'.aa
 ·exact .inl hs
 ·refine .inr ⟨by omega,?_⟩;grind
end
section
variable {w0:List Int} {G:wB} {start:Int}
instance (r:zP):Decidable (ja r):=by unfold ja;infer_instance
def Q7 (h:Int→Int) (cs:List Cl):Int→Int:=λp=>(zt p cs).getD (h p)
theorem qK0 {h:Int→Int}:Q7 h []=h:=rfl
theorem qKu {h:Int→Int} {cs:List Cl}:Q7 (Q7 h cs) cs=Q7 h cs:=by
 funext p
 unfold Q7;cases zt p cs<;>rfl
def Ye (h:Int→Int) (l:List zP):Int→Int:=l.foldl (λh r=>Q7 h r.cells) h
theorem qjF {C:List Cl}:∀{l:List zP} {h:Int→Int},l≠[]→(∀r∈l,r.cells=C)→Ye h l=Q7 h C:=by
 intro l
 induction l with
 |nil=>simp
 |cons a l ih=>
  intro h _ hc;have ha:=hc a (iK ..);have e:Ye h (a::l)=Ye (Q7 h a.cells) l:=rfl;rw[e,ha];by_cases hl:l=[]
  ·rw[hl];rfl
  simp_all[qKu]
theorem qQh {f:zP→Int} {s:Int}:∀{l:List zP},l.Pairwise (λa b=>f a≤f b)→l.filter (λa=>decide (f a≤s+1))=l.filter (λa=>decide (f a≤s))++l.filter (λa=>decide (f a=s+1)):=by
 intro l
 induction l with
 |nil=>simp
 |cons a l ih=>
  intro h;obtain⟨h1,h2⟩:=List.pairwise_cons.1 h;have ih:=ih h2;by_cases c1:f a≤s
  ·rw[List.filter_cons_of_pos (by grind),List.filter_cons_of_pos (by grind),List.filter_cons_of_neg (by grind),ih];rfl
  ·have e:l.filter (λa=>decide (f a≤s))=[]:=List.filter_eq_nil_iff.2 λb hb=>by
    grind
   grind
theorem qy0 {W:List zP} (hs:W.Pairwise λa b=>a.aa≤b.aa) (h1:∀r∈W,start<r.aa∧G (r.aa-start).toNat=r.cells) (h2:∀k:Nat,G k≠[]→∃r∈W,r.aa=start+k) :
  ∀k:Nat,Ye (qB w0) (W.filter λr=>decide (r.aa≤start+k))=hv G w0 k:=by
 intro k
 induction k with
 |zero=>
  have e:W.filter (λr=>decide (r.aa≤start+(0:Nat)))=[]:=List.filter_eq_nil_iff.2 λr hr=>by
   grind
  rw[e];rfl
 |succ k ih=>
  have e:(λr:zP=>decide (r.aa≤start+((k+1:Nat):Int)))=λr=>decide (r.aa≤(start+k)+1):=by
   grind
  rw[e,qQh (f:=λr=>r.aa) hs];have ea:∀(a b:List zP) (h:Int→Int),Ye h (a++b)=Ye (Ye h a) b:=λa b h=>List.foldl_append ..;rw[ea,ih];have hc:∀r∈W.filter (λr=>decide (r.aa=(start+k)+1)),r.cells=G (k+1):=λr hr=>by
   grind
  have en:hv G w0 (k+1)=Q7 (hv G w0 k) (G (k+1)):=rfl;by_cases hn:W.filter (λr=>decide (r.aa=(start+k)+1))=[]
  ·have g0:G (k+1)=[]:=Classical.byContradiction λh=>by
    obtain⟨r,q1,q2⟩:=h2 (k+1) h;grind
   grind[qK0]
  grind[qjF]
theorem qwr {L P Q:List zP} {r:zP} (e:L=P++r::Q) (hs:L.Pairwise λa b=>¬YY b a) (hu:L.Pairwise λa b=>ja a→ja b→a.aa≠b.aa) (h1:∀r∈L,ja r→start<r.aa∧G (r.aa-start).toNat=r.cells) (h2:∀k:Nat,G k≠[]→∃r∈L,ja r∧r.aa=start+k) (h3:start≤r.aa) :
  Ye (qB w0) (P.filter λr=>decide (ja r))=hv G w0 ((if ja r then r.aa-1 else r.aa)-start).toNat:=by
 have le:∀a b:zP,¬YY b a→a.aa≤b.aa:=λa b h=>by
  by_cases ap:b.aa<a.aa
  ·exact absurd (.inl ap) h
  grind
 have W:=qy0 (w0:=w0) (start:=start) (G:=G) (W:=L.filter λr=>decide (ja r)) ((hs.imp λh=>le _ _ h).filter _) (λr hr=>h1 r (List.mem_filter.1 hr).1 (by grind)) (λk hk=>by
  grind) ((if ja r then r.aa-1 else r.aa)-start).toNat
 rw[← W]
 congr 1
 have hw3:ja r→start<r.aa:=λh=>(h1 r (by grind) h).1;have hk:start+((((if ja r then r.aa-1 else r.aa)-start).toNat:Nat):Int)=if ja r then r.aa-1 else r.aa:=by
  grind
 rw[hk];rw[e]at hs hu;obtain⟨s1,s2,s3⟩:=List.pairwise_append.1 hs;obtain⟨u1,u2,u3⟩:=List.pairwise_append.1 hu;have s4:=(List.pairwise_cons.1 s2).1;rw[e,List.filter_append,List.filter_append];have p1:(P.filter λr=>decide (ja r)).filter (λa=>decide (a.aa≤if ja r then r.aa-1 else r.aa))=P.filter λr=>decide (ja r):=List.filter_eq_self.2 λa ha=>by
  grind
 have p2:((r::Q).filter λr=>decide (ja r)).filter (λa=>decide (a.aa≤if ja r then r.aa-1 else r.aa))=[]:=List.filter_eq_nil_iff.2 λa ha=>by
  obtain⟨m1,m2⟩:=List.mem_filter.1 ha;have m2:ja a:=by grind
  rcases List.mem_cons.1 m1 with rfl |m1
  ·grind
  ·have n1:=s4 a m1;have l1:=le r a n1;by_cases hw:ja r
   ·grind
   ·rw[iQ hw];have:¬a.aa=r.aa:=λh=>n1 (.inr ⟨h,.inl ⟨m2,hw⟩⟩);grind
 grind
end
section
variable {w0:List Int} {G:wB} {m:vY}
structure U4 (w0:List Int) (m:vY) (G:wB):Prop where
  k:JI m
  z:Um w0 m G
  u:AU m
  kr:Mc m
  p:0≤m.az
theorem jQM {s:je} {jobs:List (List (List qO))} (hs:0≤s.start) (hj:∀js∈jobs,∀l∈js,(yn l).2=0∧bO l):U4 (wu s jobs).m.w (wu s jobs) λ_=>[] :=
 ⟨qWO hs hj,qwT hs hj,qzM,qgP,Int.le_refl _⟩
theorem qx8 (A:U4 w0 m G) {i:Nat} {d:Int} (hi:i<m.t.length) (hd:0≤d):∃G',U4 w0 (xZ m i d) G':=by obtain⟨K',_,kp,_,_⟩:=YI A.k hi hd;obtain⟨G',Z',_⟩:=qz2 A.k A.z hi hd;have hp:=A.p;exact⟨G',K',Z',qqo A.k A.z A.u,qW7 A.k A.z A.kr hi hd hp,by omega⟩
theorem qW2 {R:zP→zP→Prop} (h:∀(i j:Nat) (t u:qu) (a b:Nat) (r r':zP),m.t[i]? =some t→m.t[j]? =some u→(qg t)[a]? =some r→(qg u)[b]? =some r'→¬(i=j∧a=b)→R r r'):(xz m).Pairwise R:=by
 unfold xz;rw[List.pairwise_flatMap];refine⟨λt ht=>?_,?_⟩
 ·obtain⟨i,hi,e⟩:=List.mem_iff_getElem.1 ht;rw[List.pairwise_iff_getElem];intro a b ha hb EH;exact h i i t t a b _ _ (by grind) (by grind) (iW ha) (iW hb) λhh=>by omega
 ·rw[List.pairwise_iff_getElem];intro i j hi hj BD x hx y hy;obtain⟨a,ha,ea⟩:=List.mem_iff_getElem.1 hx;obtain⟨b,hb,eb⟩:=List.mem_iff_getElem.1 hy;exact h i j _ _ a b x y (iW hi) (iW hj) (by grind) (by grind) λhh=>by omega
theorem U4.reads (A:U4 w0 m G) {L P Q:List zP} {r:zP} (hp:L.Perm (xz m)) (hs:L.Pairwise λa b=>¬YY b a) (e:L=P++r::Q):∀c∈r.reads,c.2=Ye (qB w0) (P.filter λr=>decide (ja r)) c.1:=by
 have mL:∀r∈L,AR m.s w0 (yG m G) r:=λr hr=>by
  obtain⟨t,ht,DZ⟩:=List.mem_flatMap.1 (hp.mem_iff.1 hr);obtain⟨i,hi,et⟩:=List.mem_iff_getElem.1 ht;exact A.z.D6 A.k (i:=i) (t:=t) (by grind) DZ
 have hr:r∈L:=by grind
 have R:=mL r hr;have hu:L.Pairwise λa b=>ja a→ja b→a.aa≠b.aa:=by refine(hp.pairwise_iff λ{a b} h w1 w2 hh=>h w2 w1 hh.symm).2 (qW2 λi j t u a b r r' h1 h2 h3 h4 bW w1 w2 hh=>bW (A.u i j t u a b r r' h1 h2 h3 h4 w1 w2 hh))
 have F:=qwr (w0:=w0) (start:=m.s.start) (G:=G) e hs hu (λq hq hw=>⟨((mL q hq).yes hw).2.1,((mL q hq).yes hw).2.2⟩) (λk hk=>by
  obtain⟨i,t,q,q1,q2,q3,_,q5⟩:=A.z.src k hk
  exact⟨q,hp.mem_iff.2 (List.mem_flatMap.2 ⟨t,List.mem_of_getElem? q1,q2⟩),q3,q5⟩) R.t.1
 intro c hc;rw[F];by_cases hw:ja r
 ·rw[iJ hw];exact((R.yes hw).1 c hc).1
 ·rw[iQ hw];exact(R.no hw c hc).1
theorem U4.keeps (A:U4 w0 m G) {r r':zP} (hr:r∈xz m) (Ii:r'∈xz m) (he:0<r.ended) (hb:r.ended<r'.born):YY r r':=by
 have at_:∀r∈xz m,∃(i:Nat) (t:qu) (b:Nat),m.t[i]? =some t∧(qg t)[b]? =some r:=λr hr=>by
  obtain⟨t,ht,DZ⟩:=List.mem_flatMap.1 hr;obtain⟨i,hi,et⟩:=List.mem_iff_getElem.1 ht;obtain⟨b,hb,eb⟩:=List.mem_iff_getElem.1 DZ;exact⟨i,t,b,by grind,by grind⟩
 obtain⟨i,t,b,h1,h2⟩:=at_ r hr;obtain⟨j,u,c,h3,h4⟩:=at_ r' Ii;exact A.kr.less h1 h3 h2 h4 he hb
end
section
structure LA (S:je) (r:zP):Prop where
  ins:∀c∈r.reads,1≤c.1∧c.1<S.words
  wd:∀c∈r.reads,0≤c.2∧c.2<18446744073709551616
  un:lQ r.cells
  le:r.reads.length≤256
  lc:r.cells.length≤96
variable {S:je} {t:qu} {x:q9} {m:vY} {d p:Int} {w0:List Int} {G:wB}
theorem qGe (O:zm x) (hs:x.set=S):LA S (jq t x p):=by
 have ok:=O.aE.ok;refine⟨λc hc=>?_,λc hc=>O.aE.wd.k c hc,?_,O.aE.ok.Ax,?_⟩
 ·have h1:=ok.ins c hc;have h2:=O.sz;grind
 ·show lQ (yS x);unfold yS
  split
  ·grind[qZ6]
  ·exact List.nodup_nil
 ·show(yS x).length≤96;unfold yS
  split
  all_goals simp_all[Ke,Nat.zero_le]
def fw (S:je) (t:qu):Prop:=∀r∈t.ah,LA S r
theorem fw.keep {u:qu} (P:fw S t) (h:u.ah=t.ah):fw S u:=λr hr=>P r (h▸hr)
theorem jJp {a:cB} (O:xR t) (ha:vB a) (hS:t.set=S) (P:fw S t):fw S (jg t a d p):=by
 unfold jg
 split
 ·rename_i h1;have C:=O.c omQ;cases hx:t.now with
  |none=>grind
  |some x=>
   dsimp only;have hN:=C.now x hx;have hS':=XN x a;unfold xi;dsimp only
   split
   ·exact P
   ·intro r hr;rw[ko]at hr;rcases List.mem_append.1 hr with hr |hr
    ·exact P r hr
    ·rw[List.mem_singleton.1 hr];exact qGe (XA hN.1 ha) ((hS'.set.trans hN.2.2.1).trans hS)
 ·split
  ·split
   ·exact P
   ·exact P.keep (wy t d).ah
  ·split
   ·exact P.keep (Q2 _).ah
   grind
theorem qVl {i:Nat} (K:JI m) (hi:i<m.t.length) (hd:0≤d) (B:∀(k:Nat) (t:qu),m.t[k]? =some t→fw m.s t):∀(k:Nat) (t:qu),(xZ m i d).t[k]? =some t→fw (xZ m i d).s t:=λk v' hv=>by
 rw[(YI K hi hd).2.1];obtain⟨v,mK,h⟩:=qQI hv;have P:=B k v mK;obtain⟨O,W,L⟩:=K.t k v mK;rcases h with⟨_,h |⟨a,b,h⟩⟩ |⟨_,⟨_,h⟩ |⟨o,hn,h⟩⟩
 ·grind
 ·rw[h];exact P.keep (UA v a b)
 ·rw[h];exact P.keep (YR v)
 ·rw[h];exact jJp O (Jn K.r (kR O W hn)).1 L.set P
theorem qWi {s:je} {jobs:List (List (List qO))}:∀(k:Nat) (t:qu),(wu s jobs).t[k]? =some t→fw (wu s jobs).s t:=λk t ht r hr=>by
 have ht:=List.mem_of_getElem? ht;obtain⟨i,_,rfl⟩:=List.mem_map.1 ht;have:(Vs (i:Int) (jT { s with ad:=((jobs.take 4).length:Int) }) (((jobs.take 4)[i]?).getD [])).ah=[]:=(vk _).ah;grind
theorem jZh {k:Nat} (K:JI m) (B:∀(k:Nat) (t:qu),m.t[k]? =some t→fw m.s t) (ht:m.t[k]? =some t) {r:zP} (hr:r∈qg t):LA m.s r:=by
 unfold qg at hr;rcases List.mem_append.1 hr with hr |hr
 ·exact B k t ht r hr
 ·split at hr
  ·rename_i x hx
   split at hr
   ·rename_i h;obtain⟨O,_,L⟩:=K.t k t ht;rw[List.mem_singleton.1 hr];have hN:=(O.c omQ).now x hx;exact qGe hN.1 (hN.2.2.1.trans L.set)
   grind
  grind
theorem qzL (K:JI m) (B:∀(k:Nat) (t:qu),m.t[k]? =some t→fw m.s t) {r:zP} (hr:r∈xz m):LA m.s r:=by obtain⟨t,ht,hr⟩:=List.mem_flatMap.1 hr;obtain⟨k,hk,rfl⟩:=List.mem_iff_getElem.1 ht;exact jZh K B (iW hk) hr
theorem qzF:∀{cs:List Cl} {l:List Int} {p:Int},lQ cs→1≤p→p<l.length→qB (cs.foldl Ca l) p=(zt p cs).getD (qB l p):=by
 intro cs
 induction cs with
 |nil=>intro l p _ _ _;rfl
 |cons c cs ih=>
  intro l p hu h1 h2;unfold lQ at hu;rw[List.map_cons,List.nodup_cons]at hu;rw[List.foldl_cons,ih hu.2 h1 (by grind[qZF])];have e:qB (Ca l c) p=if c.1=p then c.2 else qB l p:=by
   have:=qyO l c p.toNat;unfold vT at this;simp[qB];omega
  rw[e];show _=(if c.1=p then some c.2 else zt p cs).getD (qB l p);by_cases hc:c.1=p
  ·rw[iJ hc,iJ hc,V8.2 (by grind)];rfl
  grind
theorem Md {cs:List Cl} {l:List Int} {p:Int} (hl:32≤l.length∧l.length≤256) (hu:lQ cs) (h1:1≤p) (h2:p<l.length):qB (vA l cs) p=(zt p cs).getD (qB l p):=by
 have e:iR l.length=l.length:=by grind[iR]
 unfold vA;rw[qzF hu h1 (by grind[Np])]
 congr 1
 have:=qw4 l (i:=p.toNat) omQ (by grind);trivial
def kZ (h:List Int) (r:zP):Bool:=r.reads.all λc=>decide (1≤c.1∧c.1<h.length∧qB h c.1=c.2)
def kF (h:List Int) (r:zP):List Int:=if r.kind=2 then vA h r.cells else h
def Js:List Int→List zP→Bool
 |_,[]=>true
 |h,r::L=>kZ h r&&Js (kF h r) L
theorem qJ8:∀{L:List zP} {h:List Int},(∀P r Q,L=P++r::Q→kZ (P.foldl kF h) r=true)→Js h L=true
 |[],_,_=>rfl
 |r::L,h,H=>by
  unfold Js;rw[show kZ h r=true from H [] r L rfl,Bool.true_and];exact qJ8 λP q Q e=>H (r::P) q Q (by grind)
theorem qJd:∀{P:List zP} {r:zP} {Q:List zP} {h:List Int},kZ (P.foldl kF h) r=false→Js h (P++r::Q)=false
 |[],r,Q,h,H=>by
  show(kZ h r&&_)=false;grind
 |q::P,r,Q,h,H=>by
  show(kZ h q&&Js (kF h q) (P++r::Q))=false;rw[qJd (h:=kF h q) H,Bool.and_false]
theorem M7:∀{P:List zP} {h:List Int},32≤h.length∧h.length≤256→(P.foldl kF h).length=h.length
 |[],_,_=>rfl
 |r::P,h,hl=>by
  have e:(kF h r).length=h.length:=by
   grind[kF,XP,iR]
  rw[List.foldl_cons,M7 (by grind),e]
theorem MB:∀{P:List zP} {h:List Int} {f:Int→Int} {p:Int},32≤h.length∧h.length≤256→(∀r∈P,lQ r.cells)→1≤p→p<h.length→qB h p=f p→qB (P.foldl kF h) p=Ye f (P.filter λr=>decide (ja r)) p
 |[],_,_,_,_,_,_,_,e=>e
 |r::P,h,f,p,hl,hu,h1,h2,e=>by
  have e2:(kF h r).length=h.length:=M7 (P:=[r]) hl;have FU:=hu r aM;rw[List.foldl_cons];by_cases hw:ja r
  ·rw[List.filter_cons_of_pos (by grind)];show _=Ye (Q7 f r.cells) _ p;refine MB (by grind) (λq hq=>hu q (by grind)) h1 (by grind) ?_;unfold kF Q7;rw[iJ hw.1,Md hl FU h1 h2,e]
  ·rw[List.filter_cons_of_neg (by grind)];refine MB (by grind) (λq hq=>hu q (by grind)) h1 (by grind) ?_;unfold kF
   split
   ·rename_i hk;have hc:r.cells=[]:=Classical.byContradiction λhc=>hw ⟨hk,hc⟩;rw[hc,Md hl (by grind) h1 h2];exact e
   grind
def rec0:zP:=⟨0,0,0,false,0,0,0,0,0,0,[],[],[],[]⟩
def yx (zs:List iz) (j:Nat):zP:=((zs[j]?).map (·.1)).getD rec0
theorem JX {zs:List iz} {j:Nat} {z:iz} (h:zs[j]? =some z):yx zs j=z.1:=by grind[yx]
theorem NQ {zs:List iz} {ys:List Nat} (h:ys.Perm (List.range zs.length)):(ys.map (yx zs)).Perm (zs.map (·.1)):=by
 refine(h.map _).trans (List.Perm.of_eq ?_);apply List.ext_getElem?;intro i;rw[List.getElem?_map,List.getElem?_map];by_cases hi:i<zs.length
 all_goals simp_all[yx]
theorem qWH {r:zP}:nH r=true↔ja r:=by simp[nH,ja,Bool.and_eq_true,List.length_pos_iff]
theorem Vt {a b:zP}:vP a b=true↔YY a b:=by
 unfold vP YY;by_cases h1:a.aa=b.aa
 ·rw[iJ h1];grind[qWH,nH]
 grind
theorem VL {zs:List iz} {ys:List Nat} (h:ys.Perm (List.range zs.length)) (hs:ys.Pairwise λx y=>¬AF zs y x):(ys.map (yx zs)).Pairwise λa b=>¬YY b a:=by
 rw[List.pairwise_map];refine List.Pairwise.imp_of_mem (λ{x y} hx hy hxy hl=>hxy ?_) hs;have hx:=List.mem_range.1 (h.mem_iff.1 hx);have hy:=List.mem_range.1 (h.mem_iff.1 hy);refine⟨_,_,iW hy,iW hx,?_⟩;simp_all[Vt,JX]
end
section
variable {g h:AH} {L R:List SP}
def MV (p:Qd) (sp:Int):Prop:=p.fin=0→sp=p.spins∧p.err=0∧p.bH= -1
def zJ (p:Qd) (sp:Int):List AV:=[.int .i64 p.me,.int .i64 sp,.int .i64 p.fin,.int .i64 p.err,.int .i64 p.bH]
section
variable {n b:Nat} {p:Qd} {sp:Int} {ys:List AV} {l:dz} {a:cB}
theorem Ui (hn:1≤n) (hp:p.fin=0) (Q:MV p sp) (hs:0≤p.spins∧p.spins≤4) (H:HS g h (qv b (zJ p sp++ys)::R)) :
  ba n 80 [.ptr b 0,.agg (yb l)] h λr h'=>∃fL,r=.bool (jQ p l).1∧MV (if(jQ p l).1=true then(jQ p l).2 else jI (jQ p l).2 5 0 l.2.2) fL∧
   HS g h' (qv b (zJ (if(jQ p l).1=true then(jQ p l).2 else jI (jQ p l).2 5 0 l.2.2) fL++ys)::R):=by
 refine cu (S:=S80) rfl omQ λk hk=>?_;unfold S80;try simp only[iZ]
 obtain⟨e1,e2,e3⟩:=Q hp;subst e1;refine qh H rfl λb0 h1 H1=>?_;refine qQ (qZ H1 (b:=b0) .here (x:=.int .i64 l.2.2) rfl ?_);refine qX (qQ (qZ H1 (b:=b) e_1 (x:=.int .i64 p.me) rfl ?_));unfold jQ;by_cases c1:p.me<l.2.2
 ·rw[iJ c1];refine xL c1 (qK (qq ⟨p.spins,rfl,Q,H1.drop⟩))
 ·rw[iQ c1];refine xJ c1 (qJ ?_);refine qX (qQ (qZ H1 (b:=b) e_1 (x:=.int .i64 p.spins) rfl ?_));by_cases c2:0<p.spins
  ·have hd:decide (0≤p.spins-1)=true:=iG omQ;refine xL c2 (qK ?_);refine qX (qQ (qZ H1 (b:=b) e_1 (x:=.int .i64 p.spins) rfl ?_));refine qn omQ ?_;refine qX (qQ ?_);refine qx H1 (b:=b) e_1 ⟨rfl,rfl⟩ (by simp[zJ]) λh2 H2=>?_;dsimp only;rw[iJ hd];exact qq ⟨p.spins-1,by rw[hd],λ_=>⟨rfl,e2,e3⟩,H2.sub (.cons .here (.drop .refl))⟩
  ·have hd:decide (0≤p.spins-1)=false:=iV omQ;refine xJ c2 (qJ ?_);refine qG ?_
   try dsimp only
   refine qQ (qZ H1 (b:=b0) .here (x:=.int .i64 l.2.2) rfl ?_);refine qX (qQ ?_);refine qx H1 (b:=b) e_1 (x:=.int .i64 5) ⟨rfl,rfl⟩ (by simp[zJ]) λh2 H2=>?_;refine qX (qQ ?_);refine qx H2 (b:=b) .here ⟨rfl,rfl⟩ (by simp[zJ]) λh3 H3=>?_;refine jU H1 .here rfl H2 e_1 rfl (HS.lt H1 .here) ?_;rw[iQ (by grind)];refine qq ⟨p.spins,by rw[hd],λh=>(by cases h),?_⟩;have H4:=H3.sub (L':=qv b _::R) (.cons .here (.drop .refl));grind[zJ,jI]
theorem GZ (hn:1≤n) (hp:p.fin=0) (Q:MV p sp) (H:HS g h (qv b (zJ p sp++ys)::R)) :
  ba n 54 [.ptr b 0,.agg (zY a)] h λr h'=>∃fL,r=.bool (jJ p a).1∧MV (jJ p a).2 fL∧HS g h' (qv b (zJ (jJ p a).2 fL++ys)::R):=by
 refine cu (S:=S54) rfl omQ λk hk=>?_;unfold S54;try simp only[iZ]
 obtain⟨e1,e2,e3⟩:=Q hp;refine qh H rfl λb0 h1 H1=>?_;unfold jJ;refine jc [] (λz h'=>z=(.ptr b0 0,())∧∃fL,MV (if p.fin=0∧a.err≠0 then(true,jI p 4 a.err (-1))else(decide (p.fin≠0),p)).2 fL∧HS g h' (qv b0 (zY a)::qv b (zJ (if p.fin=0∧a.err≠0 then(true,jI p 4 a.err (-1))else(decide (p.fin≠0),p)).2 fL++ys)::R)) (λj hj=>?_) ?_
 ·refine qQ (qZ H1 (b:=b0) .here (x:=.int .i64 a.err) rfl ?_);by_cases c:a.err=0
  ·rw[iQ (λh=>h.2 c)]at hj ⊢;exact jR c (qJ (hj _ _ ⟨rfl,sp,Q,H1⟩))
  ·rw[iJ ⟨hp,c⟩]at hj ⊢;refine jb c (qK ?_);refine qG ?_
   try dsimp only
   refine qQ (qZ H1 (b:=b0) .here (x:=.int .i64 a.err) rfl ?_);refine qX (qQ ?_);refine qx H1 (b:=b) e_1 (x:=.int .i64 4) ⟨rfl,rfl⟩ (by simp[zJ]) λh2 H2=>?_;refine qX (qQ ?_);refine qx H2 (b:=b) .here ⟨rfl,rfl⟩ (by simp[zJ]) λh3 H3=>?_;refine jU H1 .here rfl H2 e_1 rfl (HS.lt H1 .here) ?_;refine hj _ _ ⟨rfl,sp,λh=>(by cases h),?_⟩;rw[show zJ (jI p 4 a.err (-1)) sp=[.int .i64 p.me,.int .i64 sp,.int .i64 4,.int .i64 a.err,.int .i64 p.bH] by rw[e3];rfl];exact H3.sub (.cons e_1 (.cons .here .refl))
 rintro _ h4 ⟨rfl,fL,Q',H4⟩;dsimp only;refine qQ (qZ H4 (b:=b0) .here (x:=.int .i64 a.err) rfl ?_);by_cases c:a.err=0
 ·rw[iQ (λh=>h.2 c)]at Q' H4 ⊢;exact jR c (qj (qq ⟨fL,by grind,Q',H4.drop⟩))
 ·rw[iJ ⟨hp,c⟩]at Q' H4 ⊢;exact jb c (qj (qq ⟨fL,rfl,Q',H4.drop⟩))
theorem KQ {me spins:Int} (hn:2≤n) (H:HS g h R):ba n 115 [.int .i64 me,.int .i64 spins] h λr h'=>r=.agg (zJ (Uv me spins) (Uv me spins).spins)∧HS g h' R:=by
 refine cu (S:=S115) rfl omQ λk hk=>?_;unfold S115;try simp only[iZ]
 refine qh H rfl λb0 h1 H1=>?_;refine qY (vm omQ omQ) ?_;rintro _ _ ⟨rfl,rfl⟩;refine qA (l:=zJ (Uv me spins) (Uv me spins).spins) rfl ?_;refine zq H1 (b:=b0) .here rfl (by simp) rfl λh2 H2=>?_;refine qo H2 (b:=b0) (off:=0) .here rfl omQ (l:=zJ (Uv me spins) (Uv me spins).spins) rfl ?_;exact qq ⟨rfl,H2.drop⟩
end
def vu (f:QE) (sp:Int):List AV:=zJ f.p sp++[.int .i64 f.at_,.int .i64 f.aA,.int .u64 f.aa,.int .i64 f.state,.int .u64 f.lk.1,.bool f.lk.2.1,.int .i64 f.lk.2.2,.int .u64 f.word]
def bP (b:Nat) (f:QE):SP:=.ex λsp:Int=>.all [.fk (MV f.p sp),qv b (vu f sp)]
section
variable {n b:Nat} {f:QE} {a:cB}
theorem bP.E (H:HS g h (bP b f::R)):∃sp,MV f.p sp∧HS g h (qv b (vu f sp)::R):=by obtain⟨sp,H⟩:=H.iq;exact⟨sp,H.cE.dT⟩
theorem bP.I {sp:Int} (Q:MV f.p sp) (H:HS g h (qv b (vu f sp)::R)):HS g h (bP b f::R):=HS.iO sp (HS.allI (A:=[_,_]) (HS.dU Q H))
theorem qKi {me at_ aA spins aa:Int} (hn:3≤n) (H:HS g h R):ba n 98 [.int .i64 me,.int .i64 at_,.int .i64 aA,.int .i64 spins,.int .u64 aa] h λr h'=>∃b,r=.ptr b 0∧HS g h' (bP b (EX me at_ aA spins aa)::R):=by
 refine tI (S:=S98) rfl omQ λk hk=>?_;unfold S98;try simp only[iZ]
 refine qY (KQ omQ H) ?_;rintro _ h0 ⟨rfl,H⟩;refine qA (l:=vu (EX me at_ aA spins aa) (Uv me spins).spins) rfl ?_;refine qh H rfl λb h1 H1=>?_;exact qq ⟨b,rfl,bP.I (λ_=>⟨rfl,rfl,rfl⟩) H1⟩
theorem qXf (hn:1≤n) (hf:f.p.fin=0) (H:HS g h (bP b f::R)):ba n 49 [.ptr b 0] h λz h'=>some z=(Qf f).map (λo=>.agg (xB o))∧HS g h' (bP b f::R):=by
 refine bw (S:=S49) rfl omQ λk hk=>?_;unfold S49;try simp only[iZ]
 obtain⟨sp,Q,H0⟩:=bP.E H;refine qh H0 rfl λb0 h1 H1=>?_;have fin:∀{o:dj},Qf f=some o→wp (jw h1 (.ptr b0 0) (.agg (xB o)) 10 λh'=>jr h' (.ptr b0 0) 10 λv=>some (v,h')) (λz h'=>some z=(Qf f).map (λo=>.agg (xB o))∧HS g h' (bP b f::R)):=λ{o} e=>by
  refine zq H1 (b:=b0) .here rfl (by simp) rfl λh2 H2=>?_;refine qo H2 (b:=b0) (off:=0) .here rfl omQ (l:=xB o) rfl (qq ⟨by grind,bP.I Q H2.drop⟩)
 have hN:Qf f=if f.state=1 then some (bx 1 f.at_ 0)else some (bx 3 f.aA 0):=by simp_all[Qf]
 refine qX (qQ (qZ H1 (b:=b) e_1 (x:=.int .i64 f.state) rfl ?_));by_cases c:f.state=1
 ·rw[iJ c]at hN;refine qk c (qK ?_);refine qX (qQ (qZ H1 (b:=b) e_1 (x:=.int .i64 f.at_) rfl ?_));refine qA (l:=xB (bx 1 f.at_ 0)) rfl ?_;exact fin hN
 ·rw[iQ c]at hN;refine qW c (qJ ?_);refine qX (qQ (qZ H1 (b:=b) e_1 (x:=.int .i64 f.aA) rfl ?_));refine qA (l:=xB (bx 3 f.aA 0)) rfl ?_;exact fin hN
theorem qqa (hn:2≤n) (hf:f.p.fin=0) (hs:0≤f.p.spins∧f.p.spins≤4) (H:HS g h (bP b f::R)):ba n 56 [.ptr b 0,.agg (zY a)] h λ_ h'=>HS g h' (bP b (zC f a)::R):=by
 (refine q8 (g:=W56) rfl omQ λk hk=>?_;show wp (S56 (callT tab qL k) _ _ _) _;unfold S56;try simp only[iI,iZ])
 obtain⟨sp,Q,H0⟩:=bP.E H;refine qh H0 rfl λb0 h1 H1=>?_;clear H H0;refine qX (qQ (qI (qZ H1 (b:=b) e_1 (x:=.int .i64 f.p.fin) rfl ?_)));refine jR hf ?_;refine qG ?_
 try dsimp only
 refine qP (qX (qQ ?_));refine qo H1 (b:=b0) (off:=0) .here rfl omQ (l:=zY a) rfl ?_;refine qY (GZ (p:=f.p) (sp:=sp) (ys:=(vu f sp).drop 5) omQ hf Q (H1.aJ (P:=qv b (vu f sp)) e_1)) ?_;rintro _ h2 ⟨fL,rfl,Q',H2⟩;refine qy ?_;unfold zC;by_cases he:a.err=0
 ·have e0:jJ f.p a=(false,f.p):=by
   simp_all[jJ,iV]
  rw[e0]at Q' H2 ⊢;obtain⟨q1,q2,q3⟩:=Q' hf;subst q1;have H2:HS g h2 (qv b (vu f f.p.spins)::qv b0 (zY a)::R):=H2;rw[iQ aM];refine qJ (qX (qQ (qZ H2 (b:=b) .here (x:=.int .i64 f.state) rfl ?_)));by_cases c1:f.state=1
  ·rw[iJ c1];refine qk c1 (qK ?_);refine qQ (qZ H2 (b:=b0) e_1 (x:=.int .u64 a.word) rfl ?_);refine qX (qQ ?_);refine qx H2 (b:=b) .here ⟨rfl,rfl⟩ (by simp[vu,zJ]) λh3 H3=>?_;refine qX (qQ ?_);refine qx H3 (b:=b) .here ⟨rfl,rfl⟩ (by simp[vu,zJ]) λh4 H4=>qq ?_;exact bP.I (f:={ f with word:=a.word,state:=2 }) Q' (H4.sub (.cons .here (.drop .refl)))
  rw[iQ c1];refine qW c1 (qJ ?_);refine qX (qQ (qZ H2 (b:=b) .here (x:=.int .i64 f.state) rfl ?_));refine J7 (wW (λz g'=>g'=h2∧∃u:AV,z=(u,.bool (decide (f.state=((2:Nat):Int))),.ptr b0 0,.ptr b 0,())∧(f.state=((2:Nat):Int)→u=.bool (decide (a.lk=f.lk)))) (λj hj=>?_) ?_)
  ·refine Xd (λc2=>?_) (λc2=>?_)
   ·refine qQ (qo H2 (b:=b0) (off:=1) e_1 rfl omQ (l:=yb a.lk) rfl ?_);refine qX (qQ (qo H2 (b:=b) (off:=9) .here rfl omQ (l:=yb f.lk) rfl ?_));exact qWL (p:=a.lk=f.lk) (jQu _ _) (λc3=>hj _ _ ⟨rfl,_,rfl,λ_=>by grind⟩) (λc3=>hj _ _ ⟨rfl,_,rfl,λ_=>by grind⟩)
   ·exact hj _ _ ⟨rfl,_,rfl,λh=>absurd h c2⟩
  rintro _ _ ⟨rfl,u,rfl,hu⟩;dsimp only;by_cases Fi:f.state=2∧a.lk=f.lk
  ·rw[iJ Fi,iG (show f.state=((2:Nat):Int)from Fi.1),hu Fi.1,iG Fi.2];refine qF (qK ?_);refine qX (qQ (qI ?_));refine qx H2 (b:=b) .here (x:=.int .i64 2) ⟨rfl,rfl⟩ (by simp[vu,zJ]) λh3 H3=>qq ?_;refine bP.I (f:={ f with p:=jI f.p 2 0 (-1) }) (sp:=f.p.spins) (λh=>(by cases h)) ?_;have e:vu { f with p:=jI f.p 2 0 (-1) } f.p.spins=(vu f f.p.spins).set 2 (.int .i64 2):=by
    grind[vu,zJ,jI]
   rw[e];exact H3.sub (.cons .here (.drop .refl))
  ·rw[iQ Fi];have Ce:∀{K:AV→Go.Ae.R} {Q:AV→AH→Prop},wp (K (.bool false)) Q→wp (w4 (.bool (decide (f.state=((2:Nat):Int)))) u (.bool false) K) Q:=λ{K Q} w=>by
    by_cases c2:f.state=((2:Nat):Int)
    ·rw[iG c2,hu c2,iV (λh=>Fi ⟨c2,h⟩)];exact qF w
    ·rw[iV c2];exact qy w
   refine Ce (qJ ?_);clear Ce hu;refine qX (qQ ?_);refine qx H2 (b:=b) .here (x:=.int .i64 0) ⟨rfl,rfl⟩ (by simp[vu,zJ]) λh3 H3=>?_;have H3:HS g h3 (qv b (vu { f with state:=0 } f.p.spins)::qv b0 (zY a)::R):=H3;refine qG ?_
   try dsimp only
   refine qQ (qI (qZ H3 (b:=b0) e_1 (x:=.bool a.lk.2.1) rfl ?_));unfold w9;cases hh:a.lk.2.1 with
   |true=>
    refine qK ?_;rw[iJ rfl];refine qX (qQ ?_);refine qQ (qo H3 (b:=b0) (off:=1) e_1 rfl omQ (l:=yb a.lk) rfl ?_);refine qY (Ui (l:=a.lk) (p:=f.p) (sp:=f.p.spins) (ys:=(vu { f with state:=0 } f.p.spins).drop 5) omQ hf Q' hs H3) ?_;rintro _ h4 ⟨fL,rfl,Q4,H4⟩;refine qj (qq ?_);by_cases hw:(jQ f.p a.lk).1=true
    ·rw[iJ hw]at Q4 H4 ⊢;exact bP.I (f:={ f with state:=0,p:=(jQ f.p a.lk).2 }) Q4 (H4.sub (.cons .here (.drop .refl)))
    ·rw[iQ hw]at Q4 H4 ⊢;exact bP.I (f:={ f with state:=0,p:=jI (jQ f.p a.lk).2 5 0 a.lk.2.2 }) Q4 (H4.sub (.cons .here (.drop .refl)))
   |false=>
    refine qJ ?_;rw[iQ od];refine qQ (qI (qZ H3 (b:=b0) e_1 (x:=.int .u64 a.lk.1) rfl ?_));refine qX (qQ (qZ H3 (b:=b) .here (x:=.int .u64 f.aa) rfl ?_));by_cases cs:f.aa<a.lk.1
    ·rw[iJ cs];refine xL cs (qK ?_);refine qX (qQ (qI ?_));refine qx H3 (b:=b) .here (x:=.int .i64 6) ⟨rfl,rfl⟩ (by simp[vu,zJ]) λh4 H4=>qj (qq ?_);refine bP.I (f:={ f with state:=0,p:=jI f.p 6 0 (-1) }) (sp:=f.p.spins) (λh=>(by cases h)) ?_;have e:vu { f with state:=0,p:=jI f.p 6 0 (-1) } f.p.spins=(vu { f with state:=0 } f.p.spins).set 2 (.int .i64 6):=by
      grind[vu,zJ,jI]
     rw[e];exact H4.sub (.cons .here (.drop .refl))
    ·rw[iQ cs];refine xJ cs (qJ ?_);refine qQ (qo H3 (b:=b0) (off:=1) e_1 rfl omQ (l:=yb a.lk) rfl ?_);refine qX (qQ ?_);refine zq H3 (b:=b) .here rfl (by simp[vu,zJ]) rfl λh4 H4=>?_;have H4:HS g h4 (qv b (vu { f with lk:=a.lk,state:=0 } f.p.spins)::qv b0 (zY a)::R):=H4;refine qX (qQ ?_);refine qx H4 (b:=b) .here (x:=.int .i64 1) ⟨rfl,rfl⟩ (by simp[vu,zJ]) λh5 H5=>qj (qq ?_);exact bP.I (f:={ f with lk:=a.lk,state:=1 }) (sp:=f.p.spins) Q' (H5.sub (.cons .here (.drop .refl)))
 ·have e0:jJ f.p a=(true,jI f.p 4 a.err (-1)):=by
   simp_all[jJ]
  rw[e0]at Q' H2 ⊢;rw[iJ rfl];refine qK (qq ?_);exact bP.I (f:={ f with p:=jI f.p 4 a.err (-1) }) Q' (H2.sub (.cons .here (.drop .refl)))
end
end
end Go.Proofs.YtaljafbgbfmcbaaGreat
