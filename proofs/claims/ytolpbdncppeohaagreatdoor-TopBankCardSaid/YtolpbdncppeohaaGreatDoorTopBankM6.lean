/- Lemmas for 'quietus/quietustop.TopBank': As if one by one: plain: the memory and the commits: words are stored, locks let go;As if one by one: plain: an attempt;others go on;As if one by one: ... No condition. -/
import Derived.Test.YtolpbdncppeohaaGreatDoorTopBankM5
import Derived.Test.YtolpbdncppeohaaGreatDoorTopBankM4
namespace Go.Proofs.YtolpbdncppeohaaGreatDoor
open Go Go.Ae
set_option maxRecDepth 100000
section
variable {S:jD} {w0:List Int} {E:Env} {i:Nat} {c d:jw}
theorem jQp {cs:List Cl} (h:lR cs) {q:Cl} (hq:q∈cs):jO q.1 cs=some q.2:=by
 induction cs with
 |nil=>grind
 |cons a l ih=>
  have h':(a.1::l.map (·.1)).Nodup:=h;rw[List.nodup_cons]at h';unfold jO;rcases List.mem_cons.1 hq with rfl |iL
  ·simp
  ·rw[iQ (λe:a.1=q.1=>h'.1 (by grind))];exact ih h'.2 iL
theorem qxe {w:List Int} {a b x:Int} (ha:0≤a) (hb:0≤b) (hl:a<w.length):qC (w.set a.toNat x) b=if a=b then x else qC w b:=by
 unfold qC;grind
theorem xG.store (I:xG S w0 E) (hc:E.C i=some c) (h5:c.state=5) {a:Nat} (ha:c.at_=a) {q:Cl} (hq:c.cells[a]? =some q) {k:Int} (hd:Gi S E.M.n d i) (es:d.s=c.s) (ew:d.ax=c.ax) (ec:d.cells=c.cells) (en:d.now=c.now)
  (hs:(d.state=5∧d.at_=a+1)∨(d.state=6∧d.at_=0∧a+1=c.cells.length)) :
  xG S w0 ⟨{ E.M with w:=E.M.w.set q.1.toNat q.2,bh:=k },E.G,cR E.C i (some d)⟩∧yd S E ⟨{ E.M with w:=E.M.w.set q.1.toNat q.2,bh:=k },E.G,cR E.C i (some d)⟩:=by
 have CI:=I.dM i c hc;have I5:=List.mem_of_getElem? hq;have hqr:=CI.lk.cells q I5;have mw:=(CI.now omQ omQ).1;have nL:=CI.lk.s4 omQ omQ;have hw:=I.ml.w;have wd:bU d:=by grind[bU]
 have fV:∀j,holds c j→holds d j:=λj ⟨k,h1,h2,_⟩=>⟨k,by grind,by grind,λh=>by omega⟩;refine⟨⟨I.st,⟨by grind,I.ml.l,I.ml.n,I.ml.lk⟩,λj e he=>?_,λj e he q y w g2 g3 g4=>?_,λj e he dR=>?_,λj e he h4=>?_,λj q e f he hf a1 a2 b1 b2 iL=>?_,I.tM,I.g0,λj s j0 j1 g1 g2 ht=>?_,λp p0 p1=>?_⟩,⟨Int.le_refl _,λk=>.inl rfl,λj e he h4=>?_,λ_ _ _=>Int.le_refl _,λj _ _ h=>.inl ?_,λ_ _ _ _ _ h=>.inl h⟩⟩
 ·rcases jL he with⟨rfl,h⟩ |⟨_,h⟩
  ·grind
  ·exact I.dM j e h
 ·rcases jL he with⟨rfl,h⟩ |⟨_,h⟩
  ·cases h;exact I.hold _ c hc q y w (by grind) (by grind) λh6=>by omega
  ·exact I.hold j e h q y w g2 g3 g4
 ·rcases jL he with⟨rfl,h⟩ |⟨_,h⟩
  ·cases h;show E.G (d.now+1-S.start).toNat=_;rw[en,ec];exact I.ru _ c hc (.inl h5)
  ·exact I.ru j e h dR
 ·rcases jL he with⟨rfl,h⟩ |⟨_,h⟩
  ·grind
  ·exact I.tL j e h h4
 ·rcases jL he with⟨rfl,h⟩ |⟨hj,h⟩<;>rcases jL hf with⟨rfl,h'⟩ |⟨hk,h'⟩
  ·rfl
  ·cases h;exact I.eO _ _ c f hc h' omQ omQ b1 b2 omQ
  ·cases h';exact I.eO _ _ e c h hc a1 a2 omQ omQ omQ
  ·exact I.eO j q e f h h' a1 a2 b1 b2 iL
 ·obtain⟨i',c',bE,dR,eh,fU⟩:=I.dX j s j0 j1 g1 g2 ht;by_cases e:i'=i
  ·subst e;rw[hc]at bE;cases bE;exact⟨i',d,Jo,wd,by grind,fV j fU⟩
  ·exact⟨i',c',(ge e).trans bE,dR,eh,fU⟩
 ·show qC (E.M.w.set q.1.toNat q.2) p=_∨_;rw[qxe omQ omQ omQ];by_cases hp:q.1=p
  ·subst hp;rw[iJ rfl];refine .inl ?_;have hg:E.G (c.now+1-S.start).toNat=c.cells:=I.ru i c hc (.inl h5);have hh:holds c (mB S q.1):=CI.holds omQ omQ (CI.lU q I5);have hver:(q8 E.M.l (mB S q.1)).1≤c.now:=by
    obtain⟨k',h1,h2,h3⟩:=hh;rw[I.hold i c hc k' _ _ h1 (iW h2) h3];show(c.ax[k']).1≤c.now;exact(CI.now omQ omQ).2 _ (List.getElem_mem h2)
   have hsr:=CI.lk.s _ (CI.lU q I5);have later:∀k',(c.now+1-S.start).toNat<k'→k'≤(E.M.n-S.start).toNat→jO q.1 (E.G k')=none:=λk' h1 h2=>by
    cases hx:jO q.1 (E.G k')with
    |none=>rfl
    |some v=>
     have cg:¬(∀c'∈E.G k',c'.1≠q.1):=λh=>by grind[Xp]
     have ht:Touch S (E.G (S.start+(k':Int)-S.start).toNat) (mB S q.1):=by
      rw[show(S.start+(k':Int)-S.start).toNat=k' by omega];rcases Classical.em (∃c'∈E.G k',c'.1=q.1)with⟨c',h3,h4⟩ |h
      ·exact⟨c',h3,by rw[h4]⟩
      grind
     obtain⟨i',c',bE,dR,eh,fU⟩:=I.dX _ (S.start+(k':Int)) hsr.1 hsr.2 omQ (by grind) ht;obtain⟨_,rfl⟩:=I.one hc bE hh fU;omega
   have e1:hv E.G w0 (E.M.n-S.start).toNat q.1=hv E.G w0 (c.now+1-S.start).toNat q.1:=I4 omQ later;show q.2=hv E.G w0 (E.M.n-S.start).toNat q.1;rw[e1];obtain⟨m,hm⟩:∃m,(c.now+1-S.start).toNat=m+1:=⟨(c.now-S.start).toNat,by omega⟩;rw[hm]at hg ⊢;show _=(jO q.1 (E.G (m+1))).getD _;rw[hg,jQp CI.un I5];rfl
  ·rw[iQ hp];rcases I.mem p p0 p1 with h |⟨i',c',bE,AT,k',q',sV,iL,e'⟩
   ·grind
   ·by_cases e:i'=i
    ·subst e;rw[hc]at bE;cases bE;have hka:k'≠a:=λh=>by
      grind
     have aw:=(List.getElem?_eq_some_iff.1 iL).1;rcases hs with⟨s5,sa⟩ |⟨_,_,sl⟩
     ·exact .inr ⟨i',d,Jo,s5,k',q',by omega,by grind,e'⟩
     grind
    ·exact .inr ⟨i',c',(ge e).trans bE,AT,k',q',sV,iL,e'⟩
 ·rcases jL he with⟨rfl,h⟩ |⟨_,h⟩
  all_goals grind
 ·obtain⟨i',c',bE,dR,fU⟩:=h;by_cases e:i'=i
  ·subst e;rw[hc]at bE;cases bE;exact⟨i',d,Jo,wd,fV j fU⟩
  ·exact⟨i',c',(ge e).trans bE,dR,fU⟩
theorem xG.nG (I:xG S w0 E) (hc:E.C i=some c) (h67:c.state=6∨c.state=7) {a:Nat} (ha:c.at_=a) {z:Int} (hz:c.s[a]? =some z) {x:di} (_:x.2=(false,0)) (hx0:wB x) (Su:x.1≤E.M.n) (eQ:(q8 E.M.l z).1≤x.1) (EL:bU c→(q8 E.M.l z).1<x.1)
  (bW:∀s:Int,x.1<s→s≤E.M.n→¬Touch S (E.G (s-S.start).toNat) z) {k:Int} {o:Option jw}
  (ho:∀d,o=some d→Gi S E.M.n d i∧d.s=c.s∧d.ax=c.ax∧d.cells=c.cells∧d.now=c.now∧d.state=c.state∧d.at_=a+1) (oJ:o=none→c.ax.length≤a+1) :
  xG S w0 ⟨{ E.M with l:=E.M.l.set z.toNat x,bh:=k },E.G,cR E.C i o⟩∧yd S E ⟨{ E.M with l:=E.M.l.set z.toNat x,bh:=k },E.G,cR E.C i o⟩:=by
 have CI:=I.dM i c hc;have fA:=CI.lk.s z (List.mem_of_getElem? hz);have hhz:∀y w,c.s[y]? =some z→c.ax[y]? =some w→y=a:=λy w h _=>qZE CI.lk.cY h hz;have Ck:a<c.ax.length→holds c z:=λh=>⟨a,hz,h,λ_=>by omega⟩;refine⟨⟨I.st,I.ml.put fA.1 fA.2 hx0 Su k,λj e he=>?_,λj e he q y w g2 g3 g4=>?_,λj e he dR=>?_,λj e he h4=>?_,λj q e f he hf a1 a2 b1 b2 iL=>?_,I.tM,I.g0,λj s j0 j1 g1 g2 ht=>?_,λp p0 p1=>?_⟩,⟨Int.le_refl _,λk=>.inl rfl,λj e he h4=>?_,λj j0 j1=>?_,λj j0 j1 h=>?_,λ_ _ _ _ _ h=>.inl h⟩⟩
 ·rcases jL he with⟨rfl,h⟩ |⟨_,h⟩
  ·grind
  ·exact I.dM j e h
 ·show q8 (E.M.l.set z.toNat x) y=_;rcases jL he with⟨rfl,h⟩ |⟨hj,h⟩
  ·obtain⟨_,e1,e2,_,_,e5,e6⟩:=ho e h;rw[e1]at g2;rw[e2]at g3;have hq:=g4 omQ;have fw:=CI.lk.s y (List.mem_of_getElem? g2);rw[Yc I fA.1 fA.2 fw.1,iQ λI6=>?_]
   ·exact I.hold _ c hc q y w g2 g3 λ_=>by omega
   grind
  ·have fw:=(I.dM j e h).lk.s y (List.mem_of_getElem? g2);have hy:holds e y:=⟨q,g2,(List.getElem?_eq_some_iff.1 g3).1,g4⟩;by_cases I6:z=y
   ·subst I6;by_cases hl:a<c.ax.length
    ·exact absurd (I.one hc h (Ck hl) hy).1 hj
    ·have h7:=CI.lk.a7 omQ;omega
   ·rw[Yc I fA.1 fA.2 fw.1,iQ I6];exact I.hold j e h q y w g2 g3 g4
 ·rcases jL he with⟨rfl,h⟩ |⟨_,h⟩
  ·obtain⟨_,e1,e2,e3,e4,e5,e6⟩:=ho e h;show E.G (e.now+1-S.start).toNat=_;rw[e4,e3];exact I.ru _ c hc (by grind[bU])
  ·exact I.ru j e h dR
 ·rcases jL he with⟨rfl,h⟩ |⟨_,h⟩
  ·grind
  ·exact I.tL j e h h4
 ·rcases jL he with⟨rfl,h⟩ |⟨hj,h⟩<;>rcases jL hf with⟨rfl,h'⟩ |⟨hk,h'⟩
  ·rfl
  ·obtain⟨_,_,_,_,e4,e5,_⟩:=ho e h;exact I.eO _ _ c f hc h' omQ omQ b1 b2 omQ
  ·obtain⟨_,_,_,_,e4,e5,_⟩:=ho f h';exact I.eO _ _ e c h hc a1 a2 omQ omQ omQ
  ·exact I.eO j q e f h h' a1 a2 b1 b2 iL
 ·have g1:(q8 (E.M.l.set z.toNat x) j).1<s:=g1;rw[Yc I fA.1 fA.2 j0]at g1;by_cases Dw:z=j
  ·grind
  ·rw[iQ Dw]at g1;obtain⟨i',c',bE,dR,eh,fU⟩:=I.dX j s j0 j1 g1 g2 ht;by_cases e:i'=i
   ·subst e;rw[hc]at bE;cases bE;obtain⟨q,h1,h2,h3⟩:=fU;have hqa:q≠a:=λh=>by
     grind
    have:=h3 omQ;cases ia:o with
    |none=>grind
    |some d=>obtain⟨_,e1,e2,_,e4,e5,e6⟩:=ho d ia;exact⟨i',d,by simp[Jo],by grind[bU],by grind,q,by grind,by grind,λ_=>by omega⟩
   ·exact⟨i',c',(ge e).trans bE,dR,eh,fU⟩
 ·rcases I.mem p p0 p1 with h |⟨i',c',bE,AT,hr⟩
  ·grind
  ·have:i'≠i:=λe=>by
    grind
   exact .inr ⟨i',c',(ge this).trans bE,AT,hr⟩
 ·rcases jL he with⟨rfl,h⟩ |⟨_,h⟩
  all_goals grind
 ·show _≤(q8 (E.M.l.set z.toNat x) j).1;rw[Yc I fA.1 fA.2 j0]
  grind
 ·show _∨_<(q8 (E.M.l.set z.toNat x) j).1;rw[Yc I fA.1 fA.2 j0];obtain⟨i',c',bE,dR,fU⟩:=h;by_cases e:i'=i
  ·subst e;rw[hc]at bE;cases bE;by_cases Dw:z=j
   ·grind
   ·obtain⟨q,h1,h2,h3⟩:=fU;have hqa:q≠a:=λh=>by
     grind
    have:=h3 omQ;cases ia:o with
    |none=>grind
    |some d=>obtain⟨_,e1,e2,_,e4,e5,e6⟩:=ho d ia;exact .inl ⟨i',d,by simp[cR],by grind[bU],q,by grind,by grind,λ_=>by omega⟩
  ·exact .inl ⟨i',c',(ge e).trans bE,dR,fU⟩
theorem xG.uO (I:xG S w0 E) (hc:E.C i=some c) (h6:c.state=6) {a:Nat} (ha:c.at_=a) {z:Int} (hz:c.s[a]? =some z) (hl:a<c.ax.length):∀s:Int,c.now+1<s→s≤E.M.n→¬Touch S (E.G (s-S.start).toNat) z:=λs h1 h2 ht=>by
 have CI:=I.dM i c hc;have fA:=CI.lk.s z (List.mem_of_getElem? hz);have hh:holds c z:=⟨a,hz,hl,λ_=>by omega⟩;have hv:(q8 E.M.l z).1≤c.now:=by rw[I.hold i c hc a z _ hz (iW hl) λ_=>by omega];show(c.ax[a]).1≤c.now;exact(CI.now omQ omQ).2 _ (List.getElem_mem hl)
 obtain⟨i',c',bE,_,eh,fU⟩:=I.dX z s fA.1 fA.2 omQ h2 ht;obtain⟨_,rfl⟩:=I.one hc bE hh fU;omega
theorem xG.sW (I:xG S w0 E) (hc:E.C i=some c) (h7:c.state=7) {a:Nat} (ha:c.at_=a) {z:Int} (hz:c.s[a]? =some z) (hl:a<c.ax.length):∀s:Int,(c.ax[a]).1<s→s≤E.M.n→¬Touch S (E.G (s-S.start).toNat) z:=λs h1 h2 ht=>by
 have CI:=I.dM i c hc;have fA:=CI.lk.s z (List.mem_of_getElem? hz);have hh:holds c z:=⟨a,hz,hl,λ_=>by omega⟩;have hv:(q8 E.M.l z).1=(c.ax[a]).1:=by rw[I.hold i c hc a z _ hz (iW hl) λ_=>by omega]
 obtain⟨i',c',bE,dR,_,fU⟩:=I.dX z s fA.1 fA.2 omQ h2 ht;obtain⟨_,rfl⟩:=I.one hc bE hh fU;grind[bU]
end
section
variable {S:jD} {w0:List Int} {E F:Env} {i:Nat} {x:qr} {c:jw}
def gQ (x:qr):Option jw:=if x.state=6 then x.c else none
structure Ve (S:jD) (w0:List Int) (E:Env) (x:qr):Prop where
  ok:∀y∈x.r,nV S E x.aa y.1 y.2
  rt:RT S w0 E x.aa x.v.K
  kr:∀c∈x.v.K,∃v,(mB S c.1,v)∈x.r
def jXT (E:Env) (j v:Int):Prop:=v<(q8 E.M.l j).1∨mC E j
structure F9 (S:jD) (w0:List Int) (E:Env) (x:qr):Prop where
  at_:x.f.at_=x.v.aB
  st:x.f.aG=mB S x.v.aB
  aa:x.f.aa=x.aa
  lk:x.f.state=1∨x.f.state=2→x.f.lk.2=(false,0)∧x.f.lk.1≤x.aa∧x.f.lk.1≤(q8 E.M.l x.f.aG).1
  s2:x.f.state=2→jXT E x.f.aG x.f.lk.1∨((q8 E.M.l x.f.aG).1=x.f.lk.1∧x.f.word=hv E.G w0 (x.aa-S.start).toNat x.v.aB∧Gd S E x.f.aG x.f.lk.1 x.aa)
structure Ha (S:jD) (E:Env) (x:qr):Prop where
  seen:x.e.seen=x.r
  fin:x.e.p.fin=0
  a0:0≤x.e.at_
  ld:x.e.bD=true→x.aa≤x.e.aa∧x.e.aa≤E.M.n∧∀(k:Nat) (y:zm),(k:Int)<x.e.at_→x.r[k]? =some y→nV S E x.e.aa y.1 y.2
  l0:x.e.bD=false→x.e.at_=0
structure Cm (S:jD) (w0:List Int) (E:Env) (x:qr) (c:jw):Prop where
  seen:c.seen=x.r
  cells:c.cells=jz x.v.lv
  aa:c.state≤4→c.aa=x.aa
  wg:c.writing=true↔bU c
  a0:c.state≤3→c.at_=0
  pr:c.state=4→∀(k:Nat) (y:zm),(k:Int)<c.at_→x.r[k]? =some y→nV S E c.now y.1 y.2
  wr:bU c→x.aa=c.now+1∧RT S w0 E c.now x.v.K
  sn:3≤c.state→c.state≤4→x.aa≤c.now
  f7:c.state=7→c.bx=4∨c.bx=5
def Sy (x:qr):Prop:=x.fin=2∧jz x.v.lv≠[]
structure Sz (S:jD) (w0:List Int) (E:Env) (x:qr):Prop where
  no:¬Sy x→RT S w0 E x.aa x.v.K
  yes:Sy x→RT S w0 E (x.aa-1) x.v.K∧S.start<x.aa∧E.G (x.aa-S.start).toNat=jz x.v.lv
structure yV (S:jD) (w0:List Int) (E:Env) (i:Nat) (x:qr):Prop where
  lk:vT S E.M.n x i
  z:x.state≤1→x.v.K=[]∧x.r=[]
  t:2≤x.state→S.start≤x.aa∧x.aa≤E.M.n
  live:2≤x.state→x.state≤6→(∀c,x.state=6→x.c=some c→¬bU c)→Ve S w0 E x
  f:x.state=3→F9 S w0 E x
  e:x.state=4∨x.state=5→Ha S E x
  c:x.state=6→∀c,x.c=some c→Cm S w0 E x c
  end_:7≤x.state→Sz S w0 E x
theorem Ve.later (V:Ve S w0 E x) (L:yd S E F) (O:Yb S E) (t:S.start≤x.aa∧x.aa≤E.M.n):Ve S w0 F x :=
 ⟨λy hy=>(V.ok y hy).later L O t.2,V.rt.later L O t.1 t.2,V.kr⟩
theorem F9.later (V:F9 S w0 E x) (L:yd S E F) (_:Yb S E) (t:S.start≤x.aa∧x.aa≤E.M.n) (h0:0≤x.f.aG∧x.f.aG<S.ae):F9 S w0 F x:=by
 have hv:=L.v _ h0.1 h0.2;refine⟨V.at_,V.st,V.aa,λh=>?_,λh=>?_⟩
 ·obtain⟨a,b,c⟩:=V.lk h;grind
 ·obtain⟨_,_,l3⟩:=V.lk (.inr h);by_cases hw:mC F x.f.aG
  ·exact .inl (.inr hw)
  ·rcases V.s2 h with(g |g) |⟨g1,g2,g3⟩
   ·exact .inl (.inl (Int.lt_of_lt_of_le g hv))
   ·rcases L.w _ h0.1 h0.2 g with g |g
    ·grind
    ·exact .inl (.inl (Int.lt_of_le_of_lt l3 g))
   ·by_cases e:(q8 F.M.l x.f.aG).1=(q8 E.M.l x.f.aG).1
    ·refine .inr ⟨e.trans g1,?_,λs h1 h2 ht=>?_⟩
     ·rw[g2];refine(Sw _ λk hk=>?_).symm;rcases L.g k with e1 |e1 |⟨e1,_⟩
      ·rw[e1]
      ·omega
      ·have hnt:¬Touch S (F.G k) (mB S x.v.aB):=λht=>by
        rw[← V.st]at ht;rcases L.b k _ h0.1 h0.2 omQ ht with h' |h' |h'
        ·rw[e1]at h';obtain⟨q,hq,_⟩:=h';grind
        all_goals grind
       rw[Touch.none hnt,e1];rfl
     ·rcases L.b _ _ h0.1 h0.2 omQ ht with h' |h' |h'
      ·exact g3 s h1 h2 h'
      all_goals grind
    ·exact .inl (.inl omQ)
theorem yV.later (A:yV S w0 E i x) (L:yd S E F) (O:Yb S E) (hn:∀c,x.state=6→x.c=some c→4≤c.state→c.state≤6→S.start≤c.now∧c.now+1≤E.M.n):yV S w0 F i x:=by
 refine⟨A.lk.mono L.n,A.z,λh=>⟨(A.t h).1,Int.le_trans (A.t h).2 L.n⟩,λh1 h2 h3=>(A.live h1 h2 h3).later L O (A.t h1),λh=>(A.f h).later L O (A.t omQ) (A.lk.f h).1,λh=>?_,λh c hc=>?_,λh=>?_⟩
 ·have V:=A.e h;exact⟨V.seen,V.fin,V.a0,λhl=>⟨(V.ld hl).1,Int.le_trans (V.ld hl).2.1 L.n,λk y h1 h2=>((V.ld hl).2.2 k y h1 h2).later L O (V.ld hl).2.1⟩,V.l0⟩
 ·have V:=A.c h c hc;refine⟨V.seen,V.cells,V.aa,V.wg,V.a0,λh4 k y h1 h2=>(V.pr h4 k y h1 h2).later L O ?_,λhw=>⟨(V.wr hw).1,(V.wr hw).2.later L O ?_ ?_⟩,V.sn,V.f7⟩
  ·grind
  all_goals grind[bU]
 ·have V:=A.end_ h;have t:=A.t omQ;refine⟨λhw=>(V.no hw).later L O t.1 t.2,λhw=>?_⟩;obtain⟨v1,v2,v3⟩:=V.yes hw;refine⟨v1.later L O omQ omQ,v2,?_⟩;rcases L.g (x.aa-S.start).toNat with e |e |⟨e,_⟩
  ·grind
  ·omega
  ·rw[v3]at e;exact absurd e hw.2
structure X9 (S:jD) (w0:List Int) (E:Env) (i:Nat) (x:qr):Prop where
  l0:AttL0 S x i
  t:S.start≤x.aa∧x.aa≤E.M.n
  lv:Ve S w0 E x
theorem X9.out (X:X9 S w0 E i x) {f e z:Int} (h:f≠2∨jz x.v.lv=[]):yV S w0 E i (zh x f e z) :=
 ⟨X.l0.out,λh=>absurd h (by nofun),λ_=>X.t,λ_ h=>absurd h (by nofun),λh=>(by cases h),λh=>(by rcases h with h |h<;>cases h),λh=>(by cases h),
  λ_=>⟨λ_=>X.lv.rt,λhw=>by rcases h with h |h;exact absurd hw.1 h;exact absurd h hw.2⟩⟩
theorem X9.ask (SO:xM S) (X:X9 S w0 E i x) (h0:0≤x.v.aB):yV S w0 E i (J3 x x.v.aB) :=
 ⟨X.l0.ask SO h0,λh=>absurd h (by nofun),λ_=>X.t,λ_ _ _=>⟨X.lv.ok,X.lv.rt,X.lv.kr⟩,
  λ_=>⟨rfl,by show ofM x.v.aB x.set.ae x.set.wide=_;rw[X.l0.set];rfl,rfl,λh=>(by rcases h with h |h<;>cases h),λh=>by cases h⟩,λh=>(by rcases h with h |h<;>cases h),λh=>(by cases h),λh=>absurd h (by nofun)⟩
theorem X9.sX (X:X9 S w0 E i x) {s:Int} (hs:s=4∨s=5):yV S w0 E i (gV x s):=by have e:(gV x s).state=s:=rfl;refine⟨X.l0.later hs,λh=>omQ,λ_=>X.t,λ_ _ _=>⟨X.lv.ok,X.lv.rt,X.lv.kr⟩,λh=>omQ,λ_=>⟨rfl,rfl,Int.le_refl _,λh=>(by cases h),λ_=>rfl⟩,λh=>omQ,λh=>by omega⟩
theorem jZU (x:qr):(z8 x).2.c=x.c∧(z8 x).2.state=x.state:=by
 unfold z8
 grind
theorem X9.iH (SO:xM S) (X:X9 S w0 E i x) (B:QR x) (hj:aX True x.v x.ap):yV S w0 E i (xp x):=by
 have D:=Gj B.aH B.fr hj;have K:vT S E.M.n (xp x) i:=X.l0.iH SO B hj;have X':X9 S w0 E i (z8 x).2:=by
  refine⟨⟨D.same.1.trans X.l0.me,D.same.2.1.trans X.l0.set,by rw[D.same.2.2.1];exact X.l0.r,by rw[Kc];exact qJp X.l0.inv⟩,by rw[D.same.2.2.2.1];exact X.t,⟨?_,?_,?_⟩⟩
  ·rw[D.same.2.2.1,D.same.2.2.2.1];exact X.lv.ok
  ·rw[D.same.2.2.2.1,D.kept.2.1];exact X.lv.rt
  ·rw[D.same.2.2.1,D.kept.2.1];exact X.lv.kr
 unfold xp at K ⊢;generalize(z8 x).1=ke at*;generalize(z8 x).2=d at*;unfold xd at K ⊢
 split
 ·rename_i h1;exact X'.ask SO (by have:=(D.aB h1).1;omega)
 ·rename_i h1;rw[iQ h1]at K
  split
  ·exact X9.sX (x:={ d with cS:=true }) ⟨⟨X'.l0.me,X'.l0.set,X'.l0.r,X'.l0.inv⟩,X'.t,⟨X'.lv.ok,X'.lv.rt,X'.lv.kr⟩⟩ (.inr rfl)
  ·rename_i h3;rw[iQ h3]at K
   split
   ·exact X'.out (.inl od)
   ·rename_i h4;rw[iQ h4]at K
    split
    ·rename_i h;exact X'.out (.inr h)
    ·rename_i cg;rw[iQ cg]at K;have bZ:∀me sp st r cs a w,(Xu me sp st r cs a w).state=0∨(Xu me sp st r cs a w).state=2:=λme sp st r cs a w=>by
      unfold Xu zV;grind
     refine⟨K,λh=>absurd h (by simp),λ_=>X'.t,λ_ _ _=>⟨X'.lv.ok,X'.lv.rt,X'.lv.kr⟩,λh=>(by grind),λh=>(by grind),λ_ c hc=>?_,λh=>absurd h (by simp)⟩;cases hc;have:=bZ d.me d.set.ay d.aa d.r (jz d.v.lv) d.set.ae d.set.wide;exact⟨rfl,rfl,λ_=>rfl,⟨λh=>(by cases h),λh=>by grind[bU]⟩,λ_=>rfl,λh=>omQ,λh=>(by grind[bU]),λh=>omQ,λh=>by omega⟩
theorem yV.stamped (A:yV S w0 E i x) (h:x.c=none):yV S w0 E i (q9 x):=by
 grind[q9,jm]
end
section
variable {S:jD} {w0:List Int} {F:Env} {i:Nat} {x:qr}
theorem qk0 {r:List zm} {s:zm} (h:(vw r s).1=0):(∀y∈r,y∈(vw r s).2)∧s∈(vw r s).2∧∀y∈(vw r s).2,y∈r∨y=s:=by
 unfold vw at*
 grind
theorem qvR {V:VM} {p w:Int}:(xc V p w).2.K=V.K∨(xc V p w).2.K=V.K++[(p,w)]:=by
 unfold xc
 grind
theorem yV.Cn (A:yV S w0 F i x) (h2:2≤x.state) (h5:x.state≤5):X9 S w0 F i x:=⟨A.lk.toAttL0,A.t h2,A.live h2 omQ λc h _=>by omega⟩
theorem wT {y:qr} (_:x.c=none) (e:(if(zA x).1=0 then x else if(zA x).1=5 then zh x 5 0 (zA x).2 else jF x)=y) (hy:yV S w0 F i y) (rq:y.c=none∨(qM y=false)):yV S w0 F i (jZ x):=by
 grind[jZ,q9,jm]
theorem xG.bT (I:xG S w0 F) {j:Int} (h0:0≤j) (h1:j<S.ae) (hf:¬(q8 F.M.l j).2.1=true):(q8 F.M.l j).2=(false,0):=by have:=(I.ml.lk j h0 h1).1;unfold wB at this;grind
theorem yV.Hb (SO:xM S) (I:xG S w0 F) (A:yV S w0 F i x) (O:zH x) (h3:x.state=3) {a:cx} (ha:a.err=0) (Co:vz a) (hw:x.f.state=1→a.word=qC F.M.w x.v.aB) (hk:x.f.state≠1→a.lk=q8 F.M.l x.f.aG):yV S w0 F i (jZ { x with f:=jE x.f a }):=by
 have X:=A.Cn omQ omQ;have V:=A.f h3;obtain⟨nI,uP⟩:=A.lk.f h3;have lQ:=O.c0 omQ;have sY:=O.aB omQ omQ;have bF:(x.v.sz:Int)=S.words:=by rw[O.sz,A.lk.set]
 have mA:=Q3 (O.f h3).2 Co;have ef:∀f:Qg,zA { x with f:=f }=(f.p.fin,f.p.dj):=λf=>by simp_all[zA]
 have going:∀f:Qg,f.p.fin=0→f.aG=x.f.aG→F9 S w0 F { x with f:=f }→yV S w0 F i (jZ { x with f:=f }):=λf h0 hs hf=>by
  refine wT (x:={ x with f:=f }) (y:={ x with f:=f }) lQ (by grind) ⟨⟨⟨A.lk.me,A.lk.set,A.lk.r,A.lk.inv⟩,λ_=>⟨by grind,h0⟩,A.lk.c⟩,A.z,A.t,λa b c=>⟨X.lv.ok,X.lv.rt,X.lv.kr⟩,λ_=>hf,λh=>?_,λh=>?_,λh=>?_⟩ (.inl lQ)
  all_goals grind
 have XF:∀f:Qg,X9 S w0 F i { x with f:=f }:=λf=>⟨⟨A.lk.me,A.lk.set,A.lk.r,A.lk.inv⟩,X.t,⟨X.lv.ok,X.lv.rt,X.lv.kr⟩⟩;have ft:jE x.f a=(if x.f.state=1 then{ x.f with word:=a.word,state:=2 }else if x.f.state=2∧a.lk=x.f.lk then{ x.f with p:=zR x.f.p 2 0 (-1) }else gA x.f a.lk):=by simp_all[jE,Yw]
 rw[ft]at mA ⊢;by_cases s1:x.f.state=1
 ·rw[iJ s1];refine going _ uP rfl ⟨V.at_,V.st,V.aa,λ_=>V.lk (.inl s1),λ_=>?_⟩;obtain⟨l1,l2,l3⟩:=V.lk (.inl s1);show jXT F x.f.aG x.f.lk.1∨((q8 F.M.l x.f.aG).1=x.f.lk.1∧a.word=_∧_);by_cases lK:mC F x.f.aG
  ·exact .inl (.inr lK)
  ·by_cases aw:x.f.lk.1<(q8 F.M.l x.f.aG).1
   ·exact .inl (.inl aw)
   ·have he:(q8 F.M.l x.f.aG).1=x.f.lk.1:=by omega
    have q:Gd S F x.f.aG x.f.lk.1 F.M.n:=λs g1 g2 ht=>by
     obtain⟨i',c',h1,h2,_,h4⟩:=I.dX _ s nI.1 nI.2 omQ g2 ht;exact lK ⟨i',c',h1,h2,h4⟩
    have q2:Gd S F x.f.aG x.f.lk.1 x.aa:=λs g1 g2=>q s g1 (by have:=X.t.2;omega);refine .inr ⟨he,?_,q2⟩;have t:=X.t;rw[hw s1,I.word sY.1 omQ λi' c' h1 h2 h4=>lK ⟨i',c',h1,h2,by rw[V.st];grind⟩];rw[V.st]at q q2;exact Mw (v:=x.f.lk.1) omQ t.1 omQ l2 q q2
 ·rw[iQ s1]at mA ⊢;have hk:=hk s1;by_cases s2:x.f.state=2∧a.lk=x.f.lk
  ·rw[iJ s2]at mA ⊢;obtain⟨l1,l2,l3⟩:=V.lk (.inr s2.1);have hm:q8 F.M.l x.f.aG=x.f.lk:=by grind
   have l7:(q8 F.M.l x.f.aG).2.1=false:=by grind
   have dI:nV S F x.aa x.f.aG x.f.lk.1:=by
    have:=I.free nI.1 nI.2 l7 (T:=x.aa) (by grind) X.t.2
    grind
   have Cp:x.f.word=hv F.G w0 (x.aa-S.start).toNat x.v.aB:=by
    rcases V.s2 s2.1 with(g |⟨i',c',g1,_,g2⟩) |⟨_,g,_⟩
    ·grind
    ·rw[(I.own g1 g2).1]at l7;grind
    grind
   refine wT (x:={ x with f:={ x.f with p:=zR x.f.p 2 0 (-1) } }) lQ (y:=jh { x with f:={ x.f with p:=zR x.f.p 2 0 (-1) } }) ?_ ?_ ?_
   ·rw[ef,iQ (by nofun),iQ (by nofun)];simp_all[jF]
   ·have es:xE { x.f with p:=zR x.f.p 2 0 (-1) }=(x.f.aG,x.f.lk.1):=by
     rfl
    have ew:xm { x.f with p:=zR x.f.p 2 0 (-1) }=x.f.word:=by rfl
    unfold jh;rw[iQ (by nofun)];dsimp only;rw[es,ew]
    split
    ·rename_i h0;obtain⟨a1,a2,a3⟩:=qk0 h0;have B:=O.b;have hj:aX True x.v x.ap:=O.ap.same λ_=>by omega
     have uM:=(O.f h3).2;have k:=wV (V:=x.v) (p:=x.v.aB) (x:=x.f.word);refine X9.iH SO (x:={ x with f:={ x.f with p:=zR x.f.p 2 0 (-1) },r:=(vw x.r (x.f.aG,x.f.lk.1)).2,v:=(xc x.v x.v.aB x.f.word).2 }) ⟨⟨A.lk.me,A.lk.set,qGl A.lk.r nI,qKI A.lk.inv⟩,X.t,⟨λy hy=>?_,λc fH=>?_,λc fH=>?_⟩⟩
      ⟨B.set,Qo B.aH uM,by rw[k.2];exact B.sz,by rw[k.1];exact B.fr,XY B.r,(hj.hX (p:=x.v.aB) uM).dead not_false,B.c⟩ (hj.hX (p:=x.v.aB) uM)
     ·rcases a3 y hy with h |h
      ·exact X.lv.ok y h
      grind
     ·have fH:c∈(xc x.v x.v.aB x.f.word).2.K:=fH;rcases qvR (V:=x.v) (p:=x.v.aB) (w:=x.f.word)with e |e
      ·rw[e]at fH;exact X.lv.rt c fH
      ·rw[e]at fH;rcases List.mem_append.1 fH with fH |fH
       ·exact X.lv.rt c fH
       ·rw[List.mem_singleton.1 fH];exact⟨Cp,by rw[← V.st];exact dI.np⟩
     ·have fH:c∈(xc x.v x.v.aB x.f.word).2.K:=fH;rcases qvR (V:=x.v) (p:=x.v.aB) (w:=x.f.word)with e |e
      ·rw[e]at fH;obtain⟨v,hv⟩:=X.lv.kr c fH;grind
      ·rw[e]at fH;rcases List.mem_append.1 fH with fH |fH
       ·obtain⟨v,hv⟩:=X.lv.kr c fH;grind
       ·rw[List.mem_singleton.1 fH];exact⟨x.f.lk.1,by show(mB S x.v.aB,x.f.lk.1)∈_;rw[← V.st];grind⟩
    ·split
     ·exact(XF _).out (.inl od)
     ·exact(XF _).out (.inl od)
   ·--it doesn't write
    refine .inr ?_;unfold jh;rw[iQ (by nofun)]
    split
    ·grind[Km]
    ·split<;>exact jm lQ
  ·rw[iQ s2]at mA ⊢;rw[hk];unfold gA
   split
   ·split
    ·exact going _ (cr.trans uP) rfl ⟨V.at_,V.st,V.aa,λh=>(by grind),λh=>by grind⟩
    ·refine wT (x:={ x with f:=_ }) lQ (by rw[ef];exact(iQ (by nofun)).trans (iJ rfl)) ((XF _).out (.inl od)) (.inl lQ)
   ·rename_i hf
    split
    ·refine wT (x:={ x with f:={ x.f with state:=0,p:=zR x.f.p 6 0 (-1) } }) lQ (y:=gV { x with f:={ x.f with state:=0,p:=zR x.f.p 6 0 (-1) } } 4) ?_ ((XF _).sX (.inl rfl)) (.inl lQ);rw[ef,iQ (by nofun),iQ (by nofun)];unfold jF;rw[iJ (by grind)];rfl
    ·rename_i eQ;refine going _ uP rfl ⟨V.at_,V.st,V.aa,λ_=>⟨I.bT nI.1 nI.2 hf,?_,Int.le_refl _⟩,λh=>by grind⟩;have eQ:¬x.f.aa<(q8 F.M.l x.f.aG).1:=eQ;rw[V.aa]at eQ;grind
theorem yV.ext (SO:xM S) (I:xG S w0 F) (A:yV S w0 F i x) (O:zH x) (oW:x.state=4∨x.state=5) {a:cx} (ha:a.err=0) (hw:x.e.bD=false→a.word=F.M.n) (hk:x.e.bD=true→a.lk=q8 F.M.l (jf x.e.seen x.e.at_).1):yV S w0 F i (jZ { x with e:=je x.e a }):=by
 have X:=A.Cn omQ omQ;have V:=A.e oW;have EO:=O.e omQ omQ;have lQ:=O.c0 omQ;have t:=X.t;have ef:∀e:kc,zA { x with e:=e }=(e.p.fin,e.p.dj):=λe=>by
  unfold zA;grind
 have going:∀e:kc,Ha S F { x with e:=e }→yV S w0 F i (jZ { x with e:=e }):=λe he=>by
  refine wT (x:={ x with e:=e }) (y:={ x with e:=e }) lQ (by rw[ef];exact iJ he.fin) ⟨⟨⟨A.lk.me,A.lk.set,A.lk.r,A.lk.inv⟩,A.lk.f,A.lk.c⟩,A.z,A.t,λa b c=>⟨X.lv.ok,X.lv.rt,X.lv.kr⟩,λh=>absurd h (by grind),λ_=>he,λh=>absurd h (by grind),λh=>absurd h (by grind)⟩ (.inl lQ)
 have XE:∀(e:kc),X9 S w0 F i { x with e:=e }:=λe=>⟨⟨A.lk.me,A.lk.set,A.lk.r,A.lk.inv⟩,X.t,⟨X.lv.ok,X.lv.rt,X.lv.kr⟩⟩;have aI:∀e:kc,e.p.fin=5→yV S w0 F i (jZ { x with e:=e }):=λe h5=>wT (x:={ x with e:=e }) (y:=zh { x with e:=e } 5 0 (zA { x with e:=e }).2) lQ ((iQ (by grind)).trans (iJ (by grind))) ((XE _).out (.inl od)) (.inl lQ)
 have done:∀e:kc,e.p.fin=2→S.start≤e.aa∧e.aa≤F.M.n→(∀y∈x.r,nV S F e.aa y.1 y.2)→yV S w0 F i (jZ { x with e:=e }):=λe h2 ht dI=>by
  have XD:X9 S w0 F i { x with e:=e,aa:=e.aa }:=⟨⟨A.lk.me,A.lk.set,A.lk.r,A.lk.inv⟩,ht,⟨dI,λc hc=>?_,X.lv.kr⟩⟩
  ·have est:yC e=e.aa:=by simp_all[yC]
   rcases oW with h4 |h5
   ·refine wT (x:={ x with e:=e }) lQ (y:=J3 { x with e:=e,aa:=e.aa } x.v.aB) ?_ (XD.ask SO (by have:=O.aB omQ omQ;grind)) (.inl lQ);simp_all[jF]
   ·refine wT (x:={ x with e:=e }) lQ (y:=zh { x with e:=e,aa:=e.aa } 3 0 (-1)) ?_ (XD.out (.inl od)) (.inl lQ);simp_all[jF]
  ·obtain⟨v,hv⟩:=X.lv.kr c hc;have o1:=X.lv.ok _ hv;have o2:=dI _ hv;obtain⟨k1,k2⟩:=X.lv.rt c hc;refine⟨?_,o2.np⟩;rw[k1];exact Mw t.1 ht.1 o1.le o2.le o1.q o2.q
 have et:je x.e a=(if x.e.bD=false then Qa { x.e with bD:=true,aa:=a.word }
   else if a.lk.2.1=true then(if(jA x.e.p a.lk).1=true then{ x.e with p:=(jA x.e.p a.lk).2 }else{ x.e with p:=zR (jA x.e.p a.lk).2 5 0 a.lk.2.2 })
   else if a.lk.1≠(jf x.e.seen x.e.at_).2 then{ x.e with p:=zR x.e.p 5 0 (-1) }
   else Qa { x.e with at_:=x.e.at_+1 }):=by
  unfold je;rw[Yw V.fin ha,iQ (λh=>by grind)]
 rw[et];cases hl:x.e.bD with
 |false=>
  rw[iJ rfl,hw hl];have h0:=V.l0 hl;have hn:x.aa≤F.M.n:=t.2;unfold Qa
  split
  ·rename_i he;have he:x.e.at_=(x.e.seen.length:Int):=he;refine done _ rfl ⟨I.st,Int.le_refl _⟩ λy hy=>?_;rw[V.seen,h0]at he;grind
  ·exact going _ ⟨V.seen,V.fin,V.a0,λ_=>⟨hn,Int.le_refl _,λk y h1 h2=>absurd h1 (by grind)⟩,λh=>by grind⟩
 |true=>
  rw[iQ od];obtain⟨l1,l2,l3⟩:=V.ld hl;have aw:=EO.lU V.fin hl;have hk:=hk hl;obtain⟨k,mc⟩:∃k:Nat,x.e.at_=k:=⟨x.e.at_.toNat,by have:=V.a0;omega⟩;have lS:k<x.r.length:=by rw[V.seen]at aw;omega
  have Dx:jf x.e.seen x.e.at_=x.r[k]:=by unfold jf;rw[V.seen,mc,Int.toNat_natCast,iW lS];rfl
  rw[Dx]at hk ⊢;have Hc:=List.getElem_mem lS;have hr:=A.lk.r _ Hc;rw[hk]
  split
  ·split
   ·refine going _ ⟨V.seen,cr.trans V.fin,V.a0,λ_=>⟨l1,l2,l3⟩,λh=>?_⟩;grind
   ·exact aI _ rfl
  ·rename_i hf
   split
   ·exact aI _ rfl
   ·rename_i hv;have hv:(q8 F.M.l (x.r[k]).1).1=(x.r[k]).2:=by grind
    have o1:=X.lv.ok _ Hc;have ok1:nV S F x.e.aa (x.r[k]).1 (x.r[k]).2:=by
     have:=I.free hr.1 hr.2 (by grind) (T:=x.e.aa) (by rw[hv];have:=o1.le;omega) l2
     grind
    have all:∀(q:Nat) (y:zm),(q:Int)<x.e.at_+1→x.r[q]? =some y→nV S F x.e.aa y.1 y.2:=λq y h1 h2=>by
     grind
    unfold Qa
    split
    ·rename_i he;have he:x.e.at_+1=(x.e.seen.length:Int):=he;rw[V.seen]at he;refine done _ rfl ⟨by grind,l2⟩ λy hy=>?_;obtain⟨q,hq,e⟩:=List.mem_iff_getElem.1 hy;exact all q y omQ (by grind)
    ·refine going _ ⟨V.seen,V.fin,by grind,λ_=>⟨l1,l2,all⟩,λh=>?_⟩;grind
theorem yV.Cq (SO:xM S) (I:xG S w0 F) (A:yV S w0 F i x) (O:zH x) (h6:x.state≠6) {a:cx} (ha:a.err=0) (Co:vz a) (h1:x.state=1→a.word=F.M.n)
  (hw:x.state=3→x.f.state=1→a.word=qC F.M.w x.v.aB) (hk:x.state=3→x.f.state≠1→a.lk=q8 F.M.l x.f.aG)
  (dR:x.state=4∨x.state=5→x.e.bD=false→a.word=F.M.n) (sV:x.state=4∨x.state=5→x.e.bD=true→a.lk=q8 F.M.l (jf x.e.seen x.e.at_).1):yV S w0 F i (qS x a):=by
 have bZ:=O.st;unfold qS;by_cases h8:x.state=8
 ·grind
 rw[iQ h8,iQ (λh=>h ha)];by_cases s0:x.state=0
 ·rw[iJ s0];exact⟨⟨⟨A.lk.me,A.lk.set,A.lk.r,A.lk.inv⟩,λh=>(by grind),λh=>by grind⟩,λ_=>A.z omQ,λh=>absurd h (by simp),λh=>absurd h (by simp),λh=>(by grind),λh=>(by grind),λh=>(by grind),λh=>absurd h (by simp)⟩
 rw[iQ s0];by_cases s1:x.state=1
 ·rw[iJ s1,h1 s1];have hz:=A.z omQ;refine⟨⟨⟨A.lk.me,A.lk.set,A.lk.r,A.lk.inv⟩,λh=>(by grind),λh=>by grind⟩,λh=>absurd h (by simp),λ_=>⟨I.st,Int.le_refl _⟩,λ_ _ _=>⟨λy hy=>?_,λc hc=>?_,λc hc=>?_⟩,λh=>(by grind),λh=>(by grind),λh=>(by grind),λh=>absurd h (by simp)⟩
  all_goals grind
 rw[iQ s1];by_cases s2:x.state=2
 ·rw[iJ s2];exact(A.Cn omQ omQ).iH SO O.b (O.ap.same λ_=>by omega)
 rw[iQ s2];by_cases s7:x.state=7
 ·rw[iJ s7];have V:=A.end_ omQ;exact⟨⟨⟨A.lk.me,A.lk.set,A.lk.r,A.lk.inv⟩,λh=>(by grind),λh=>by grind⟩,λh=>absurd h (by simp),λ_=>A.t omQ,λ_ h=>absurd h (by simp),λh=>(by grind),λh=>(by grind),λh=>(by grind),λ_=>⟨V.no,V.yes⟩⟩
 rw[iQ s7];by_cases s3:x.state=3
 ·rw[iJ s3];exact A.Hb SO I O s3 ha Co (hw s3) (hk s3)
 rw[iQ s3,iQ h6];exact A.ext SO I O omQ ha (dR omQ) (sV omQ)
end
section
variable {S:jD} {w0:List Int} {E F:Env} {i:Nat} {x:qr} {c d:jw} {M':zZ}
def dA (S:jD) (w0:List Int) (E:Env) (i:Nat) (M':zZ) (y:qr):Prop :=
 ∃G',xG S w0 ⟨M',G',cR E.C i (gQ y)⟩∧yd S E ⟨M',G',cR E.C i (gQ y)⟩∧yV S w0 ⟨M',G',cR E.C i (gQ y)⟩ i y∧(∀k,G' k=E.G k∨(G' k=jz y.v.lv∧qM y=true∧(y.aa-S.start).toNat=k))∧(qM y=true→(∃c,E.C i=some c∧bU c)∨E.G (y.aa-S.start).toNat=[])
theorem Hd (h6:x.state=6):zA { x with c:=some d }=(d.p.fin,d.p.dj):=by simp_all[zA]
theorem yn {y:qr} {e:jw} (h8:y.state≠8) (hc:y.c=some e):qM y=((e.writing&&decide (e.p.fin=0))||decide (e.p.fin=2)):=by simp_all[qM,QZ,iG]
theorem Yi {y:qr} {e:jw} (h8:y.state≠8) (hc:y.c=some e) (hw:e.writing=false) (hf:e.p.fin≠2):qM y=false:=by simp_all[yn,iV]
theorem A4 {y:qr} {P:Prop} (h:qM y=false):qM y=true→P:=λh'=>by grind
theorem wy {y:qr} (h:qM y=false):q9 y=y:=by grind[q9]
theorem YP {y:qr} {e:jw} (hc:y.c=some e) (h:qM y=true):q9 y={ y with aa:=kE e }:=by simp_all[q9]
theorem ZA (h6:x.state=6) (h0:d.p.fin=0):jZ { x with c:=some d }=if d.writing=true then{ x with c:=some d,aa:=d.now+1 }else{ x with c:=some d }:=by
 unfold jZ;rw[Hd h6,iJ h0];cases hw:d.writing with
 |true=>rw[iJ rfl,YP (e:=d) rfl (by rw[yn (e:=d) (by grind) rfl,hw,iG h0];rfl)];simp_all[kE]
 |false=>rw[iQ od,wy];rw[yn (e:=d) (by grind) rfl,hw,iV (by omega:¬d.p.fin=2)];rfl
theorem Oa (h6:x.state=6) (hf:d.p.fin=4∨d.p.fin=5) (hw:d.writing=false):∃e z,jZ { x with c:=some d }=zh { x with c:=some d } d.p.fin e z:=by
 have hs:∀y:qr,y.state≠8→y.c=some d→q9 y=y:=λy h8 hy=>by
  refine wy ?_;rw[yn h8 hy,hw,iV (by omega:¬d.p.fin=2)];rfl
 unfold jZ;rw[Hd h6];rcases hf with h |h
 ·refine⟨d.p.err,-1,?_⟩;rw[iQ (by grind),iQ (by grind)];unfold jF;rw[iQ (by grind),iQ (by grind),iQ (by grind)];exact hs _ (by nofun) rfl
 ·refine⟨0,d.p.dj,?_⟩;rw[iQ (by grind),iJ (by grind),h];exact hs _ (by nofun) rfl
theorem V8 (h6:x.state=6) (h2:d.p.fin=2) (hw:d.writing=true):jZ { x with c:=some d }={ zh { x with c:=some d } 2 d.p.err (-1)with aa:=d.now+1 }:=by unfold jZ;rw[Hd h6,iQ (by grind),iQ (by grind)];unfold jF;rw[iQ (by grind),iQ (by grind),iQ (by grind)];dsimp only;rw[YP (y:=zh { x with c:=some d } d.p.fin d.p.err (-1)) (e:=d) rfl (by rw[yn (e:=d) (by nofun) rfl,hw,iG h2,Bool.or_true]),h2];simp_all[kE]
theorem yV.A5 {z:Int} (l0:AttL0 S x i) (h6:x.state=6) (lk:wU S F.M.n d i) (h0:d.p.fin=0) (t:S.start≤z∧z≤F.M.n) (lv:¬bU d→Ve S w0 F { x with c:=some d,aa:=z }) (J:Cm S w0 F { x with c:=some d,aa:=z } d):yV S w0 F i { x with c:=some d,aa:=z } :=
 ⟨⟨⟨l0.me,l0.set,l0.r,l0.inv⟩,λh=>absurd h (by grind),λ_ e he=>by grind⟩,λh=>absurd h (by grind),λ_=>t,λ_ _ h=>lv (h d h6 rfl),λh=>absurd h (by grind),λh=>absurd h (by grind),
  λ_ e he=>by grind,λh=>absurd h (by grind)⟩
theorem wD (hM:M'.w=E.M.w∧M'.l=E.M.l∧M'.n=E.M.n):yd S E ⟨M',E.G,E.C⟩ :=
 ⟨by grind,λ_=>.inl rfl,λ_ e he h4=>.inr ⟨e,he,h4,rfl,rfl,rfl⟩,λj _ _=>by grind,λ_ _ _ h=>.inl h,λ_ _ _ _ _ h=>.inl h⟩
structure UU (S:jD) (w0:List Int) (E:Env) (i:Nat) (x:qr) (c:jw):Prop where
  l0:AttL0 S x i
  t:S.start≤x.aa∧x.aa≤E.M.n
  lv:¬bU c→Ve S w0 E x
  J:Cm S w0 E x c
theorem yV.SA (A:yV S w0 E i x) (h6:x.state=6) (hc:x.c=some c):UU S w0 E i x c :=
 ⟨A.lk.toAttL0,A.t omQ,λnw=>A.live omQ omQ λe _ he=>by grind,A.c h6 c hc⟩
theorem Mo (I:xG S w0 E) (A:UU S w0 E i x c) (h6:x.state=6) (hC:E.C i=some c) (h4:c.state≤4) (hM:M'.w=E.M.w∧M'.l=E.M.l∧M'.n=E.M.n)
  (hd:wU S E.M.n d i) (es:d.s=c.s) (ee:d.seen=c.seen) (ec:d.cells=c.cells) (ew:d.ax=c.ax) (et:d.aa=c.aa) (eg:d.writing=false) (nw:¬bU d)
  (mw:3≤d.state→d.state≤6→S.start≤d.now∧∀w∈d.ax,w.1≤d.now) (p4:d.state=4→c.state=4∧d.now=c.now∧∀(k:Nat) (y:zm),(k:Int)<d.at_→x.r[k]? =some y→nV S E d.now y.1 y.2) (a0:d.state≤3→d.at_=0)
  (hf:d.p.fin=0∨d.p.fin=4∨d.p.fin=5) (hsn:3≤d.state→d.state≤4→x.aa≤d.now) (hf7:d.state=7→d.bx=4∨d.bx=5):dA S w0 E i M' (jZ { x with c:=some d }):=by
 have fD:¬bU c:=by grind[bU]
 have CI:=I.dM i c hC;have J:=A.J;have V:=A.lv fD;have t:=A.t;have I1:=I.same hM;have SB:d.p.fin=0→Gi S M'.n d i:=λh0=>⟨by rw[hM.2.2];exact hd.nH h0,h0,by rw[ec,es];exact CI.lU,by rw[ec];exact CI.un,by rw[ec];exact CI.ne,mw⟩;have cW:∀o:Option jw,(∀e,o=some e→e=d∧d.p.fin=0)→xG S w0 ⟨M',E.G,cR E.C i o⟩∧yd S E ⟨M',E.G,cR E.C i o⟩:=λo ho=>by
  obtain⟨a,b⟩:=I1.swap (i:=i) (λe he=>by grind) (o:=o) λe he=>by
   obtain⟨rfl,h0⟩:=ho e he;refine⟨SB h0,λk z w g1 g2 g3=>?_,nw,λh=>?_⟩
   ·show q8 M'.l z=_;rw[hM.2.1];exact I.hold i c hC k z w (by grind) (by grind) λh=>by omega
   grind
  exact⟨a,(wD hM).trans b I.env⟩
 rcases hf with h0 |hf
 ·have ey:jZ { x with c:=some d }={ x with c:=some d }:=by rw[ZA h6 h0,iQ (by grind)]
  have ea:gQ { x with c:=some d }=some d:=iJ h6;obtain⟨r1,r2⟩:=cW (some d) λe he=>by grind
  rw[ey];refine⟨E.G,by grind,by grind,?_,λ_=>.inl rfl,A4 (Yi (e:=d) (by grind) rfl eg omQ)⟩;rw[ea];have V':=V.later r2 I.env t;refine yV.A5 (z:=x.aa) A.l0 h6 (by grind) h0 ⟨t.1,by grind⟩ (λ_=>⟨V'.ok,V'.rt,V'.kr⟩) ⟨by rw[ee];exact J.seen,by rw[ec];exact J.cells,λ_=>by rw[et];exact J.aa h4,⟨λh=>(by grind),λh=>absurd h nw⟩,a0,λh k y g1 g2=>?_,λh=>absurd h nw,hsn,hf7⟩;obtain⟨q1,q2,q3⟩:=p4 h;have:=CI.lk.s4 omQ omQ;exact(q3 k y g1 g2).later r2 I.env omQ
 ·obtain⟨e,z,ey⟩:=Oa (x:=x) h6 hf eg;have ea:gQ (zh { x with c:=some d } d.p.fin e z)=none:=iQ (by nofun);obtain⟨r1,r2⟩:=cW none λe he=>by grind
  rw[ey];refine⟨E.G,by grind,by grind,?_,λ_=>.inl rfl,A4 (Yi (e:=d) (by nofun) rfl eg omQ)⟩;rw[ea];have V':=V.later r2 I.env t;exact X9.out (x:={ x with c:=some d }) ⟨⟨A.l0.me,A.l0.set,A.l0.r,A.l0.inv⟩,⟨t.1,by grind⟩,⟨V'.ok,V'.rt,V'.kr⟩⟩ (.inl omQ)
theorem qvH (I:xG S w0 E) (A:UU S w0 E i x c) (h6:x.state=6) (hC:E.C i=some c) (h4:c.state=4) (hd:wU S E.M.n (zp c) i) (Cr:RT S w0 E c.now x.v.K):dA S w0 E i E.M (jZ { x with c:=some (zp c) }):=by
 have CI:=I.dM i c hC;have J:=A.J;have fz:0<c.cells.length:=List.length_pos_iff.2 CI.ne;have eb:zp c={ c with writing:=true,at_:=0,state:=5 }:=by simp[zp,zG];omega
 rw[eb]at hd ⊢;have hn:=(CI.now omQ omQ);have nL:=CI.lk.s4 omQ omQ;have h0:({ c with writing:=true,at_:=0,state:=5 }:jw).p.fin=0:=CI.fin;have SB:Gi S E.M.n { c with writing:=true,at_:=0,state:=5 } i:=⟨hd.nH h0,h0,CI.lU,CI.un,CI.ne,λ_ _=>hn⟩;obtain⟨r1,r2⟩:=I.aP hC h4 SB rfl rfl rfl rfl rfl rfl;have ey:jZ { x with c:=some { c with writing:=true,at_:=0,state:=5 } }={ x with c:=some { c with writing:=true,at_:=0,state:=5 },aa:=c.now+1 }:=by rw[ZA h6 h0,iJ rfl]
 rw[ey];have ea:gQ { x with c:=some { c with writing:=true,at_:=0,state:=5 },aa:=c.now+1 }=some { c with writing:=true,at_:=0,state:=5 }:=iJ h6;refine⟨_,by rw[ea];exact r1,by grind,?_,λk=>?_,λ_=>.inr (I.tL i c hC h4)⟩;rw[ea];refine yV.A5 A.l0 h6 hd h0 ⟨by omega,nL⟩ (λh=>absurd (.inl rfl) h) ⟨J.seen,J.cells,λh=>absurd h (by simp),⟨λ_=>.inl rfl,λ_=>rfl⟩,λh=>absurd h (by simp),λh=>(by grind),λ_=>⟨rfl,?_⟩,λ_ h=>absurd h (by simp),λh=>by grind⟩;exact Cr.later r2 I.env hn.1 omQ;by_cases hk:k=(c.now+1-S.start).toNat
 ·subst hk;refine .inr ⟨?_,?_,rfl⟩
  ·show UD E.G _ c.cells _=jz x.v.lv;rw[← J.cells];exact iJ rfl
  ·rw[yn (e:={ c with writing:=true,at_:=0,state:=5 }) (by grind) rfl,iG h0];rfl
 ·exact .inl (iQ hk)
theorem qve:∀{s:List Int} {w:List di} {j v:Int},Ul s w j=some v→∃(k:Nat) (q:di),s[k]? =some j∧w[k]? =some q∧q.1=v:=by
 intro s
 induction s with
 |nil=>nofun
 |cons a s ih=>
  intro w j v h;cases w with
  |nil=>trivial
  |cons b w=>
   unfold Ul at h
   split at h
   ·rename_i e;cases h;exact⟨0,b,by grind,rfl,rfl⟩
   ·obtain⟨k,q,h1,h2,h3⟩:=ih h;exact⟨k+1,q,h1,h2,h3⟩
theorem qKi:∀(n:Nat) {c:jw},0≤c.at_→(c.seen.length:Int)<c.at_+n→c.state=4→
  (∃b,zM c n={ c with at_:=b }∧c.at_≤b∧b<c.seen.length∧∀k:Nat,c.at_≤k→(k:Int)<b→∃v,Ul c.s c.ax (jf c.seen k).1=some v∧v=(jf c.seen k).2)∨
  (∃b,zM c n=zP { c with at_:=b } 5 0 (-1))∨
  (∃b,zM c n=zp { c with at_:=b }∧∀k:Nat,c.at_≤k→k<c.seen.length→∃v,Ul c.s c.ax (jf c.seen k).1=some v∧v=(jf c.seen k).2):=by
 intro n
 induction n with
 |zero=>intro c h0 hl h4;exact .inr (.inr ⟨c.at_,rfl,λk h1 h2=>by omega⟩)
 |succ n ih=>
  intro c h0 hl h4;unfold zM;by_cases aw:c.at_<(c.seen.length:Int)
  ·rw[iJ aw];cases ho:Ul c.s c.ax (jf c.seen c.at_).1 with
   |none=>grind
   |some v=>
    dsimp only;by_cases hv:v=(jf c.seen c.at_).2
    ·rw[iQ (λh=>h hv)];have step:∀k:Nat,c.at_≤k→¬c.at_+1≤(k:Int)→∃v,Ul c.s c.ax (jf c.seen k).1=some v∧v=(jf c.seen k).2:=λk h1 h2=>by
      grind
     rcases ih (c:={ c with at_:=c.at_+1 }) (by grind) (by grind) h4 with⟨b,e,g1,g2,g3⟩ |⟨b,e⟩ |⟨b,e,g⟩
     ·grind
     all_goals grind
    ·rw[iJ hv];grind
  ·rw[iQ aw];grind
theorem O0 {f e y:Int} (hp:c.p.fin=0):(zP c f e y).s=c.s∧(zP c f e y).seen=c.seen∧(zP c f e y).cells=c.cells∧(zP c f e y).ax=c.ax∧(zP c f e y).aa=c.aa∧(zP c f e y).writing=c.writing∧(zP c f e y).state=7∧(zP c f e y).at_=0∧((zP c f e y).p.fin=0∨(zP c f e y).p.fin=f)∧(zP c f e y).bx=f:=by
 unfold zP xw
 split
 ·exact⟨rfl,rfl,rfl,rfl,rfl,rfl,rfl,rfl,.inr rfl,rfl⟩
 grind
theorem I7 (I:xG S w0 E) (A:UU S w0 E i x c) (h6:x.state=6) (hC:E.C i=some c) (h4:c.state≤4) (hM:M'.w=E.M.w∧M'.l=E.M.l∧M'.n=E.M.n) {e:jw} (he:e.s=c.s∧e.seen=c.seen∧e.cells=c.cells∧e.ax=c.ax∧e.aa=c.aa∧e.writing=c.writing∧e.p.fin=0)
  {f er y:Int} (hf:f=4∨f=5) (hd:wU S E.M.n (zP e f er y) i):dA S w0 E i M' (jZ { x with c:=some (zP e f er y) }):=by
 obtain⟨a1,a2,a3,a4,a5,a6,a7⟩:=he;obtain⟨b1,b2,b3,b4,b5,b6,b7,b8,b9,b10⟩:=O0 (c:=e) (f:=f) (e:=er) (y:=y) a7;have J:=A.J;have Cs:c.writing=false:=by
  cases hw:c.writing with
  |false=>rfl
  |true=>have:=J.wg.1 hw;grind[bU]
 exact Mo I A h6 hC h4 hM hd (b1.trans a1) (b2.trans a2) (b3.trans a3) (b4.trans a4) (b5.trans a5) (b6.trans (a6.trans Cs)) (by grind[bU]) (λ_ h=>by omega) (λh=>by omega) (λh=>by omega) omQ (λ_ h=>by omega) (λ_=>by omega)
theorem jXa (I:xG S w0 E) (A:UU S w0 E i x c) (h6:x.state=6) (hC:E.C i=some c) (h4:c.state=4) {a:Int} (RX:0≤a) (hpr:∀(k:Nat) (y:zm),(k:Int)<a→x.r[k]? =some y→nV S E c.now y.1 y.2)
  (hd:wU S E.M.n (xu { c with at_:=a }) i):dA S w0 E i E.M (jZ { x with c:=some (xu { c with at_:=a }) }):=by
 have CI:=I.dM i c hC;have J:=A.J;have fD:¬bU c:=by grind[bU]
 have hn:=CI.now omQ omQ;have nL:=CI.lk.s4 omQ omQ;have hfull:=CI.full omQ omQ;have V:=A.lv fD;have Cs:c.writing=false:=by
  cases hw:c.writing with
  |false=>rfl
  |true=>exact absurd (J.wg.1 hw) fD
 have own:∀(k:Nat) (y:zm),x.r[k]? =some y→(∃v,Ul c.s c.ax (jf c.seen k).1=some v∧v=(jf c.seen k).2)→nV S E c.now y.1 y.2:=λk y hy ⟨v,h1,h2⟩=>by
  have hs:jf c.seen (k:Int)=y:=by unfold jf;rw[J.seen,Int.toNat_natCast,hy];rfl
  rw[hs]at h1 h2;obtain⟨q,l,g1,g2,g3⟩:=qve h1;have hh:holds c y.1:=⟨q,g1,(List.getElem?_eq_some_iff.1 g2).1,λh=>by omega⟩;have hl:=I.hold i c hC q y.1 l g1 g2 λh=>by omega
  have hr:=CI.lk.s y.1 (List.mem_of_getElem? g1);have hv:(q8 E.M.l y.1).1=y.2:=by grind
  have hle:y.2≤c.now:=by grind
  have:=I.nr hC fD hr.1 hr.2 hh (T:=c.now) omQ omQ (λ_=>Int.le_refl _)
  grind
 have ec4:({ ({ c with at_:=a }:jw)with state:=4 }:jw)={ c with at_:=a }:=by grind
 have ep:xu { c with at_:=a }=zM { c with at_:=a } (c.seen.length+1):=by grind[xu]
 rw[ep]at hd ⊢;rcases qKi (c.seen.length+1) (c:={ c with at_:=a }) RX (by grind) h4 with⟨b,e,g1,g2,g3⟩ |⟨b,e⟩ |⟨b,e,g⟩
 ·rw[e]at hd ⊢;refine Mo I A h6 hC omQ ⟨rfl,rfl,rfl⟩ hd rfl rfl rfl rfl rfl Cs fD (λ_ _=>hn) (λ_=>⟨h4,rfl,λk y h1 h2=>?_⟩) (λh=>by grind) (.inl CI.fin) (λ_ _=>J.sn omQ omQ) (λh=>by grind);grind
 ·rw[e]at hd ⊢;exact I7 I A h6 hC omQ ⟨rfl,rfl,rfl⟩ ⟨rfl,rfl,rfl,rfl,rfl,rfl,CI.fin⟩ (.inr rfl) hd
 ·rw[e]at hd ⊢;have eb:zp { ({ c with at_:=a }:jw)with at_:=b }=zp c:=rfl;rw[eb]at hd ⊢;refine qvH I A h6 hC h4 hd λq hq=>?_;obtain⟨v,hv⟩:=V.kr q hq;obtain⟨k,hk,ek⟩:=List.mem_iff_getElem.1 hv;have sV:x.r[k]? =some (mB S q.1,v):=by grind
  have ok:nV S E c.now (mB S q.1) v:=by
   by_cases hka:(k:Int)<a
   ·grind
   ·exact own k _ sV (g k (by grind) (by show k<c.seen.length;rw[J.seen];grind))
  have o1:=V.ok _ hv;obtain⟨k1,k2⟩:=V.rt q hq;have t:=A.t;refine⟨?_,ok.np⟩;rw[k1];exact Mw t.1 hn.1 o1.le ok.le o1.q ok.q
end
section
variable {S:jD} {w0:List Int} {E F:Env} {i:Nat} {x y:qr} {c d:jw} {M':zZ}
theorem RT.at_ {T T':Int} {K:List Cl} (h:RT S w0 E T K) (e:T'=T):RT S w0 E T' K:=e▸h
theorem jQM {C:Nat→Option jw} {o o':Option jw}:cR (cR C i o) i o'=cR C i o':=by
 funext j
 simp_all[cR]
theorem dA.after (O:Yb S E) {M1:zZ} {o1:Option jw} (ho:∀c,o1=some c→¬bU c) (L:yd S E ⟨M1,E.G,cR E.C i o1⟩) (h:dA S w0 ⟨M1,E.G,cR E.C i o1⟩ i M' y):dA S w0 E i M' y:=by
 obtain⟨G',a,b,c,f,f2⟩:=h;have e:cR (cR E.C i o1) i (gQ y)=cR E.C i (gQ y):=jQM;refine⟨G',?_,?_,?_,f,λhw=>?_⟩
 ·grind
 ·rw[← e];exact L.trans b O
 all_goals grind[cR,Jo,absurd]
theorem dA.bh {M1:zZ} (I:xG S w0 E) (hM:M1.w=E.M.w∧M1.l=E.M.l∧M1.n=E.M.n) (h:dA S w0 ⟨M1,E.G,E.C⟩ i M' y):dA S w0 E i M' y:=by obtain⟨G',a,b,c,f,f2⟩:=h;exact⟨G',a,(wD hM).trans b I.env,c,f,f2⟩
theorem UU.later (A:UU S w0 E i x c) (L:yd S E F) (O:Yb S E) (hn:4≤c.state→c.state≤6→S.start≤c.now∧c.now+1≤E.M.n):UU S w0 F i x c:=by
 have V:=A.J;refine⟨A.l0,⟨A.t.1,Int.le_trans A.t.2 L.n⟩,λnw=>(A.lv nw).later L O A.t,⟨V.seen,V.cells,V.aa,V.wg,V.a0,λh4 k y h1 h2=>(V.pr h4 k y h1 h2).later L O ?_,λhw=>⟨(V.wr hw).1,(V.wr hw).2.later L O ?_ ?_⟩,V.sn,V.f7⟩⟩
 ·omega
 all_goals grind[bU]
theorem UU.wf (A:UU S w0 E i x c) (h:¬bU c):c.writing=false:=by
 cases hw:c.writing with
 |false=>rfl
 |true=>exact absurd (A.J.wg.1 hw) h
theorem jXd (I:xG S w0 E) (A:UU S w0 E i x c) (h6:x.state=6) (hC:E.C i=some c) (h4:c.state≤4) (hM:M'.w=E.M.w∧M'.l=E.M.l∧M'.n=E.M.n) {l:di} (hd:wU S E.M.n (xn c l) i):dA S w0 E i M' (jZ { x with c:=some (xn c l) }):=by
 have CI:=I.dM i c hC;have J:=A.J;have fD:¬bU c:=by grind[bU]
 unfold xn at hd ⊢;by_cases hw:(jA c.p l).1=true
 ·rw[iJ hw]at hd ⊢;exact Mo I A h6 hC h4 hM hd rfl rfl rfl rfl rfl (A.wf fD) fD CI.now (λh=>⟨h,rfl,J.pr h⟩) J.a0 (.inl (cr.trans CI.fin)) J.sn (λh=>by grind)
 ·rw[iQ hw]at hd ⊢;exact I7 (e:={ c with p:=(jA c.p l).2 }) I A h6 hC h4 hM ⟨rfl,rfl,rfl,rfl,rfl,rfl,cr.trans CI.fin⟩ (.inr rfl) hd
theorem SC (I:xG S w0 E) (A:UU S w0 E i x c) (h6:x.state=6) (hC:E.C i=some c) (hw:bU c) (r:xG S w0 ⟨M',E.G,cR E.C i (some d)⟩∧yd S E ⟨M',E.G,cR E.C i (some d)⟩) (hk:wU S M'.n d i) (h0:d.p.fin=0) (wd:bU d) (es:d.seen=c.seen) (ec:d.cells=c.cells) (en:d.now=c.now) (ew:d.writing=c.writing):dA S w0 E i M' (jZ { x with c:=some d }):=by
 have CI:=I.dM i c hC;have J:=A.J;obtain⟨r1,r2⟩:=r;have h56:5≤c.state∧c.state≤6:=by grind[bU]
 have d56:5≤d.state∧d.state≤6:=by grind[bU]
 have hn:=(CI.now omQ omQ).1;have nL:=CI.lk.s4 omQ omQ;have lK:d.writing=true:=by rw[ew];exact J.wg.2 hw
 rw[ZA h6 h0,iJ lK];have ea:gQ { x with c:=some d,aa:=d.now+1 }=some d:=iJ h6;refine⟨E.G,by grind,by grind,?_,λ_=>.inl rfl,λ_=>.inl ⟨c,hC,hw⟩⟩;rw[ea];have hM:=r2.n;refine yV.A5 A.l0 h6 hk h0 ⟨by omega,by grind⟩ (λh=>absurd wd h) ⟨by rw[es];exact J.seen,by rw[ec];exact J.cells,λh=>omQ,⟨λ_=>wd,λ_=>lK⟩,λh=>omQ,λh=>omQ,λ_=>⟨rfl,?_⟩,λ_ h=>omQ,λh=>by omega⟩;rw[en];exact(J.wr hw).2.later r2 I.env hn omQ
theorem yV.SD (I:xG S w0 E) (B:yV S w0 E i x) (h6:x.state=6) (hi:i<4) (hc:x.c=some c) (hC:E.C i=some c) {o:dC} (hn:yD c=some o) :
  dA S w0 E i (qL E.M o).2 (jZ { x with c:=some (qp c (qL E.M o).1) }):=by
 have CI:=I.dM i c hC;have C:=(B.lk.c h6 c hc).1;have A:=B.SA h6 hc;have O:=C.ok;have hp:=CI.fin;have J:=A.J;have t:=A.t;have MO:=I.ml;have bZ:=O.st;have hnn:=MO.n;have hM:({ E.M with bh:=E.M.bh+1 }:zZ).w=E.M.w∧({ E.M with bh:=E.M.bh+1 }:zZ).l=E.M.l∧({ E.M with bh:=E.M.bh+1 }:zZ).n=E.M.n:=⟨rfl,rfl,rfl⟩;obtain⟨o',ia,st⟩:=Zm I.ml C omQ hp;rw[hn]at ia;cases ia;have hk:=st.dM;clear st
 have sR:yD c=(if c.state=0 then some (bA 3 (qC c.s c.ax.length) 0)
   else if c.state=1 then some ⟨4,qC c.s c.ax.length,0,0,c.lk,(c.lk.1,true,c.me)⟩
   else if c.state=2 then some (bA 6 0 0)
   else if c.state=3 then some ⟨7,0,c.now,c.now+1,bT,bT⟩
   else if c.state=4 then some (bA 3 (jf c.seen c.at_).1 0)
   else if c.state=5 then some (bA 2 (yf c.cells c.at_).1 (yf c.cells c.at_).2)
   else if c.state=6 then some ⟨5,qC c.s c.at_,0,0,bT,(c.now+1,false,0)⟩
   else some ⟨5,qC c.s c.at_,0,0,bT,q8 c.ax c.at_⟩):=by
  simp[yD];omega
 rw[sR]at hn;clear sR;have mz:∀k:Nat,k<c.s.length→∃z,c.s[k]? =some z∧qC c.s (k:Int)=z∧0≤z∧z<S.ae:=λk hk=>⟨c.s[k],iW hk,OU hk,C.s _ (List.getElem_mem hk)⟩
 by_cases s0:c.state=0
 ·rw[iJ s0]at hn;obtain⟨z,hz,Ct,z0,z1⟩:=mz _ (O.Dn hp omQ);rw[Ct]at hn;cases hn;rw[N9 MO z0 z1]at hk ⊢;have et:qp c ⟨0,q8 E.M.l z,false,0⟩=if(q8 E.M.l z).2.1=true then xn c (q8 E.M.l z)else{ c with lk:=q8 E.M.l z,state:=1 }:=by
   rw[zq hp rfl,iJ (.inl s0)];unfold vV;grind
  dsimp only at hk ⊢;rw[et]at hk ⊢;by_cases hh:(q8 E.M.l z).2.1=true
  ·rw[iJ hh]at hk ⊢;exact jXd I A h6 hC omQ hM hk
  ·rw[iQ hh]at hk ⊢;exact Mo I A h6 hC omQ hM hk rfl rfl rfl rfl rfl (A.wf (by grind[bU])) (by nofun) (λh _=>absurd h (by simp)) (λh=>(by grind)) (λ_=>J.a0 omQ) (.inl hp) (λh=>absurd h (by simp)) (λh=>by grind)
 rw[iQ s0]at hn;by_cases s1:c.state=1
 ·rw[iJ s1]at hn;obtain⟨z,hz,Ct,z0,z1⟩:=mz _ (O.Dn hp omQ);obtain⟨l1,l2⟩:=C.s1 s1;have hl:=MO.l;rw[Ct]at hn;cases hn;have hx:wB (c.lk.1,true,c.me):=by rw[Ug,C.me];omega
  by_cases he:q8 E.M.l z=c.lk
  ·have e:qL E.M ⟨4,z,0,0,c.lk,(c.lk.1,true,c.me)⟩=(⟨0,bT,true,0⟩,{ E.M with l:=E.M.l.set z.toNat (c.lk.1,true,(i:Int)),bh:=E.M.bh+1 }):=by
    rw[← C.me];refine Gk (M:=E.M) (N:={ E.M with l:=E.M.l.set z.toNat (c.lk.1,true,c.me) }) (.inr (.inl rfl)) ?_ rfl;simp_all[GE,iQ]
   rw[e]at hk ⊢;have et:qp c ⟨0,bT,true,0⟩=zV { c with ax:=c.ax++[c.lk] }:=by rw[zq hp rfl,iJ (.inr s1)];unfold vV;grind
   dsimp only at hk ⊢;rw[et]at hk ⊢;have CX:(zV { c with ax:=c.ax++[c.lk] }).state=0∨(zV { c with ax:=c.ax++[c.lk] }).state=2:=by
    unfold zV;grind
   have hdI:Gi S E.M.n (zV { c with ax:=c.ax++[c.lk] }) i:=⟨hk.nH hp,hp,CI.lU,CI.un,CI.ne,λh=>by omega⟩;obtain⟨r1,r2⟩:=I.take hC s1 hi hz he hdI (k:=E.M.bh+1);have q1:(zV { c with ax:=c.ax++[c.lk] }).p.fin=0:=hp;have q2:(zV { c with ax:=c.ax++[c.lk] }).seen=c.seen:=rfl;have q3:(zV { c with ax:=c.ax++[c.lk] }).cells=c.cells:=rfl;have q4:(zV { c with ax:=c.ax++[c.lk] }).aa=c.aa:=rfl;have q5:(zV { c with ax:=c.ax++[c.lk] }).writing=c.writing:=rfl;have q6:(zV { c with ax:=c.ax++[c.lk] }).at_=c.at_:=rfl;generalize zV { c with ax:=c.ax++[c.lk] }=d at*;have fD:¬bU c:=by grind[bU]
   have tN:¬bU d:=by grind[bU]
   have wf:=q5.trans (A.wf fD);rw[ZA h6 q1,iQ (by grind)];have ea:gQ { x with c:=some d }=some d:=iJ h6;refine⟨E.G,by grind,by grind,?_,λ_=>.inl rfl,A4 (Yi (e:=d) (by grind) rfl wf omQ)⟩;rw[ea];have V':=(A.lv fD).later r2 I.env t;exact yV.A5 (z:=x.aa) A.l0 h6 hk q1 t (λ_=>⟨V'.ok,V'.rt,V'.kr⟩) ⟨by rw[q2];exact J.seen,by rw[q3];exact J.cells,λ_=>by rw[q4];exact J.aa omQ,⟨λh=>(by grind),λh=>absurd h tN⟩,λ_=>by rw[q6];exact J.a0 omQ,λh=>omQ,λh=>absurd h tN,λh=>omQ,λh=>by omega⟩
  ·have e:qL E.M ⟨4,z,0,0,c.lk,(c.lk.1,true,c.me)⟩=(dS,{ E.M with bh:=E.M.bh+1 }):=by
    refine Gk (M:=E.M) (N:=E.M) (.inr (.inl rfl)) ?_ rfl;simp_all[GE,iQ]
   rw[e]at hk ⊢;have et:qp c dS={ c with state:=0 }:=by rw[zq hp rfl,iJ (.inr s1)];unfold vV;rw[iQ (λh=>s0 h.1),iQ s0,iQ (by nofun)]
   dsimp only at hk ⊢;rw[et]at hk ⊢;exact Mo I A h6 hC omQ hM hk rfl rfl rfl rfl rfl (A.wf (by grind[bU])) (by nofun) (λh _=>absurd h (by simp)) (λh=>(by grind)) (λ_=>J.a0 omQ) (.inl hp) (λh=>absurd h (by simp)) (λh=>by grind)
 rw[iQ s1]at hn;by_cases s2:c.state=2
 ·rw[iJ s2]at hn;cases hn;have e:qL E.M (bA 6 0 0)=(⟨E.M.n,bT,false,0⟩,{ E.M with bh:=E.M.bh+1 }):=Xf (.inl rfl) rfl rfl;rw[e]at hk ⊢;have et:qp c ⟨E.M.n,bT,false,0⟩=if 4611686018427387903≤E.M.n then zP c 4 7 (-1)else{ c with now:=E.M.n,state:=3 }:=by
   rw[zq hp rfl,iQ omQ,iJ (.inl s2)];simp_all[yB]
  dsimp only at hk ⊢;rw[et]at hk ⊢;by_cases hc:4611686018427387903≤E.M.n
  ·rw[iJ hc]at hk ⊢;exact I7 I A h6 hC omQ hM ⟨rfl,rfl,rfl,rfl,rfl,rfl,hp⟩ (.inl rfl) hk
  ·rw[iQ hc]at hk ⊢;exact Mo I A h6 hC omQ hM hk rfl rfl rfl rfl rfl (A.wf (by grind[bU])) (by nofun) (λ_ _=>⟨I.st,λw hw=>(C.ax w hw).2⟩) (λh=>(by grind)) (λ_=>J.a0 omQ) (.inl hp) (λ_ _=>t.2) (λh=>by grind)
 rw[iQ s2]at hn;by_cases s3:c.state=3
 ·rw[iJ s3]at hn;cases hn;have mw:=C.s3 s3;have l5:0≤c.now:=by have:=O.ar;grind[zf]
  have tO:=CI.now omQ omQ;have fD:¬bU c:=by grind[bU]
  by_cases hq:E.M.n=c.now
  ·have e:qL E.M ⟨7,0,c.now,c.now+1,bT,bT⟩=(⟨0,bT,true,0⟩,{ E.M with n:=c.now+1,bh:=E.M.bh+1 }):=by
    refine Xf (M:=E.M) (N:={ E.M with n:=c.now+1 }) (.inr rfl) ?_ rfl;unfold J9;grind
   rw[e]at hk ⊢;have et:qp c ⟨0,bT,true,0⟩=if c.now=c.aa then zp c else xu c:=by rw[zq hp rfl,iQ omQ,iJ (.inr s3)];simp_all[yB]
   dsimp only at hk ⊢;rw[et]at hk ⊢;have n4:({ c with state:=4 }:jw).state=4:=rfl;have W:Dv S (c.now+1) { c with state:=4 }:=⟨CI.lk.cY,CI.lk.s,CI.lk.cells,λh=>(by grind),λh=>(by grind),λ_ _=>Int.le_refl _,λ_ _=>CI.lk.full omQ omQ,λh=>absurd h (by simp)⟩;obtain⟨r1,r2⟩:=I.raise hC s3 hq (k:=E.M.bh+1) ⟨W,hp,CI.lU,CI.un,CI.ne,λ_ _=>tO⟩;have tN:¬bU ({ c with state:=4 }:jw):=by nofun
   refine dA.after I.env (λe he=>by grind) r2 ?_;have h0:=J.a0 omQ;have A1:UU S w0 ⟨{ E.M with n:=c.now+1,bh:=E.M.bh+1 },E.G,cR E.C i (some { c with state:=4 })⟩ i x { c with state:=4 } :=
    ⟨A.l0,⟨t.1,by grind⟩,λ_=>(A.lv fD).later r2 I.env t,⟨J.seen,J.cells,λ_=>J.aa omQ,⟨λh=>absurd (show c.writing=true from h) (by rw[A.wf fD];simp),λh=>absurd h tN⟩,λh=>absurd h (by simp),λ_ k y h=>absurd h (by grind),λh=>absurd h tN,λ_ _=>J.sn omQ omQ,λh=>by grind⟩⟩
   by_cases hs:c.now=c.aa
   ·rw[iJ hs]at hk ⊢;have Cr:=(A1.lv tN).rt;exact qvH (c:={ c with state:=4 }) r1 A1 h6 Jo rfl hk (Cr.at_ (hs.trans (J.aa omQ)))
   ·rw[iQ hs]at hk ⊢;have e0:({ c with state:=4,at_:=0 }:jw)={ c with state:=4 }:=congrArg (λz=>({ c with state:=4,at_:=z }:jw)) h0.symm;have ep:xu c=xu { ({ c with state:=4 }:jw)with at_:=0 }:=by
     unfold xu;grind
    rw[ep]at hk ⊢;exact jXa (c:={ c with state:=4 }) r1 A1 h6 Jo rfl (Int.le_refl _) (λk y h=>by omega) hk
  ·have e:qL E.M ⟨7,0,c.now,c.now+1,bT,bT⟩=(dS,{ E.M with bh:=E.M.bh+1 }):=by
    refine Xf (M:=E.M) (N:=E.M) (.inr rfl) ?_ rfl;unfold J9;grind
   rw[e]at hk ⊢;have et:qp c dS={ c with state:=2 }:=by rw[zq hp rfl,iQ omQ,iJ (.inr s3)];unfold yB;rw[iQ (λh=>s2 h.1),iQ s2,iJ (by rfl)]
   dsimp only at hk ⊢;rw[et]at hk ⊢;exact Mo I A h6 hC omQ hM hk rfl rfl rfl rfl rfl (A.wf fD) (by nofun) (λh _=>absurd h (by simp)) (λh=>(by grind)) (λ_=>J.a0 omQ) (.inl hp) (λh=>absurd h (by simp)) (λh=>by grind)
 rw[iQ s3]at hn;by_cases s4:c.state=4
 ·rw[iJ s4]at hn;cases hn;have dw:=O.B7 hp s4;have dB:=O.lo;have fD:¬bU c:=by grind[bU]
  obtain⟨k,mc⟩:∃k:Nat,c.at_=k:=⟨c.at_.toNat,by omega⟩;have lS:k<x.r.length:=by rw[J.seen]at dw;omega
  have Dx:jf c.seen c.at_=x.r[k]:=by unfold jf;rw[J.seen,mc,Int.toNat_natCast,iW lS];rfl
  have Hc:=List.getElem_mem lS;have hr:=A.l0.r _ Hc;rw[Dx]at hk ⊢;rw[N9 MO hr.1 hr.2]at hk ⊢;have et:qp c ⟨0,q8 E.M.l (x.r[k]).1,false,0⟩=yQ c (q8 E.M.l (x.r[k]).1):=by rw[zq hp rfl,iQ omQ,iQ omQ,iJ s4]
  dsimp only at hk ⊢;rw[et]at hk ⊢;unfold yQ at hk ⊢;by_cases hh:(q8 E.M.l (x.r[k]).1).2.1=true
  ·rw[iJ hh]at hk ⊢;exact jXd I A h6 hC omQ hM hk
  rw[iQ hh,Dx]at hk ⊢;by_cases hv:(q8 E.M.l (x.r[k]).1).1=(x.r[k]).2
  ·rw[iQ (λh=>h hv)]at hk ⊢;have tO:=CI.now omQ omQ;have nL:=CI.lk.s4 omQ omQ;refine dA.bh I hM ?_;have I':=I.same hM;have A':=A.later (wD hM) I.env λ_ _=>⟨tO.1,nL⟩;have o1:=(A.lv fD).ok _ Hc;have hsn:=J.sn omQ omQ;refine jXa I' A' h6 hC s4 omQ (λq y h1 h2=>?_) hk;by_cases hq:q=k
   ·subst hq;rw[iW lS]at h2;cases h2;have:=I'.free hr.1 hr.2 (by grind) (T:=c.now) (by show(q8 E.M.l (x.r[q]).1).1≤c.now;rw[hv];have:=o1.le;omega) (by grind)
    grind
   ·exact A'.J.pr s4 q y omQ h2
  ·rw[iJ hv]at hk ⊢;exact I7 I A h6 hC omQ hM ⟨rfl,rfl,rfl,rfl,rfl,rfl,hp⟩ (.inr rfl) hk
 rw[iQ s4]at hn;by_cases s5:c.state=5
 ·rw[iJ s5]at hn;cases hn;have dw:=O.IS hp s5;have dB:=O.lo;have hw:=MO.w;obtain⟨k,mc⟩:∃k:Nat,c.at_=k:=⟨c.at_.toNat,by omega⟩;have lS:k<c.cells.length:=by omega
  have LC:yf c.cells c.at_=c.cells[k]:=by simp_all[yf,Int.toNat_natCast]
  have hq:c.cells[k]? =some (c.cells[k]):=iW lS;have hz:=C.cells _ (List.getElem_mem lS);rw[LC]at hk ⊢;generalize c.cells[k]=q at*;have e:qL E.M (bA 2 q.1 q.2)=(dS,{ E.M with w:=E.M.w.set q.1.toNat q.2,bh:=E.M.bh+1 }):=by refine VU (M:=E.M) (N:={ E.M with w:=E.M.w.set q.1.toNat q.2 }) (.inr rfl) ?_ rfl;unfold Ku;rw[iQ (by show¬(q.1<1∨(E.M.w.length:Int)≤q.1);omega),iQ (by nofun)];rfl
  rw[e]at hk ⊢;have et:qp c dS=zG { c with at_:=c.at_+1 }:=by rw[zq hp rfl,iQ omQ,iQ omQ,iQ omQ,iJ s5]
  dsimp only at hk ⊢;rw[et]at hk ⊢;have hs0:0<c.s.length:=by have:=O.ar;grind[zf]
  have tO:=CI.now omQ omQ;unfold zG at hk ⊢;by_cases hl:c.at_+1=(c.cells.length:Int)
  ·rw[iJ hl]at hk ⊢;unfold xX at hk ⊢;rw[iQ (by grind)]at hk ⊢;exact SC I A h6 hC (.inl s5) (I.store hC s5 mc hq ⟨hk.nH hp,hp,CI.lU,CI.un,CI.ne,λ_ _=>tO⟩ rfl rfl rfl rfl (.inr ⟨rfl,rfl,by omega⟩)) hk hp (.inr rfl) rfl rfl rfl rfl
  ·rw[iQ hl]at hk ⊢;exact SC I A h6 hC (.inl s5) (I.store hC s5 mc hq ⟨hk.nH hp,hp,CI.lU,CI.un,CI.ne,λ_ _=>tO⟩ rfl rfl rfl rfl (.inl ⟨s5,by grind⟩)) hk hp (.inl s5) rfl rfl rfl rfl
 rw[iQ s5]at hn;by_cases s6:c.state=6
 ·rw[iJ s6]at hn;cases hn;have dw:=O.IT hp s6;have dB:=O.lo;obtain⟨k,mc⟩:∃k:Nat,c.at_=k:=⟨c.at_.toNat,by omega⟩;obtain⟨z,hz,Ct,z0,z1⟩:=mz k omQ;have tO:=CI.now omQ omQ;have nL:=CI.lk.s4 omQ omQ;have mw:0≤c.now:=by have:=O.ar;grind[zf]
  have pU:=CI.full omQ omQ;have hx:wB (c.now+1,false,0):=by grind[Ue]
  rw[mc,Ct]at hk ⊢;rw[I2 MO z0 z1 hx]at hk ⊢;have et:qp c dS=xX { c with at_:=c.at_+1 }:=by rw[zq hp rfl,iQ omQ,iQ omQ,iQ omQ,iQ omQ,iJ s6]
  dsimp only at hk ⊢;rw[et]at hk ⊢;have mK:k<c.ax.length:=by omega
  have He:=I.hold i c hC k z _ hz (iW mK) λ_=>by omega
  have eQ:(q8 E.M.l z).1<c.now+1:=by grind
  have LG:=λo:Option jw=>I.nG (o:=o) hC (.inl s6) mc hz (x:=(c.now+1,false,0)) rfl hx nL (Int.le_of_lt eQ) (λ_=>eQ) (I.uO hC s6 mc hz mK) (k:=E.M.bh+1);unfold xX at hk ⊢;by_cases hl:c.at_+1=(c.s.length:Int)
  ·rw[iJ hl]at hk ⊢;obtain⟨r1,r2⟩:=LG none (λd h=>by grind) (λ_=>by omega);have wr:bU c:=.inr s6;have lK:=J.wg.2 wr;rw[V8 (x:=x) (d:={ ({ c with at_:=c.at_+1 }:jw)with p:=zR c.p 2 0 (-1) }) h6 rfl lK];have ea:∀y:qr,y.state=7→gQ y=none:=λy h=>iQ omQ;refine⟨E.G,by trivial,by trivial,?_,λ_=>.inl rfl,λ_=>.inl ⟨c,hC,wr⟩⟩;rw[ea _ rfl];obtain⟨j1,j2⟩:=J.wr wr;have hce:jz x.v.lv=c.cells:=J.cells.symm;refine⟨⟨⟨A.l0.me,A.l0.set,A.l0.r,A.l0.inv⟩,λh=>(by cases h),λh=>by cases h⟩,λh=>absurd h (by nofun),λ_=>⟨by grind,nL⟩,λ_ h=>absurd h (by nofun),λh=>(by cases h),λh=>(by rcases h with h |h<;>cases h),λh=>(by cases h),λ_=>⟨λh=>absurd ⟨rfl,?_⟩ h,λ_=>⟨?_,by grind,?_⟩⟩⟩
   ·show RT S w0 _ (c.now+1-1) x.v.K;rw[show c.now+1-1=c.now by omega];exact j2.later r2 I.env tO.1 omQ
   ·show E.G (c.now+1-S.start).toNat=jz x.v.lv;rw[hce];exact I.ru i c hC wr
   ·show jz x.v.lv≠[];rw[hce];exact CI.ne
  ·rw[iQ hl]at hk ⊢;exact SC I A h6 hC (.inr s6) (LG (some { c with at_:=c.at_+1 }) (λd h=>by cases h;exact⟨⟨hk.nH hp,hp,CI.lU,CI.un,CI.ne,λ_ _=>tO⟩,rfl,rfl,rfl,rfl,rfl,by grind⟩) (λh=>by grind)) hk hp (.inr s6) rfl rfl rfl rfl
 rw[iQ s6]at hn;have s7:c.state=7:=by omega
 cases hn;have dw:=O.IU hp s7;have dB:=O.lo;have fD:¬bU c:=by grind[bU]
 obtain⟨k,mc⟩:∃k:Nat,c.at_=k:=⟨c.at_.toNat,by omega⟩;have mK:k<c.ax.length:=by omega
 obtain⟨z,hz,Ct,z0,z1⟩:=mz k (by have:=O.ax;omega);have hw:=C.ax _ (List.getElem_mem mK);have ew:q8 c.ax c.at_=c.ax[k]:=by simp_all[q8,Int.toNat_natCast]
 have hx:wB c.ax[k]:=by
  unfold wB;grind
 have He:=I.hold i c hC k z _ hz (iW mK) λ_=>by omega
 rw[ew,mc,Ct]at hk ⊢;rw[I2 MO z0 z1 hx]at hk ⊢;have et:qp c dS=xw { c with at_:=c.at_+1 }:=by rw[zq hp rfl,iQ omQ,iQ omQ,iQ omQ,iQ omQ,iQ omQ]
 dsimp only at hk ⊢;rw[et]at hk ⊢;have eQ:(q8 E.M.l z).1=(c.ax[k]).1:=by rw[He]
 have LG:=λo:Option jw=>I.nG (o:=o) hC (.inr s7) mc hz (x:=c.ax[k]) hw.1 hx hw.2 (Int.le_of_eq eQ) (λh=>absurd h fD) (I.sW hC s7 mc hz mK) (k:=E.M.bh+1);have V:=A.lv fD;have wf:=A.wf fD;unfold xw at hk ⊢;by_cases hl:c.at_+1=(c.ax.length:Int)
 ·rw[iJ hl]at hk ⊢;obtain⟨r1,r2⟩:=LG none (λd h=>by grind) (λ_=>by omega);have hf:=J.f7 s7;have Ik:(zR c.p c.bx c.iF c.rp).fin=4∨(zR c.p c.bx c.iF c.rp).fin=5:=hf;obtain⟨e,z',ey⟩:=Oa (x:=x) (d:={ ({ c with at_:=c.at_+1 }:jw)with p:=zR c.p c.bx c.iF c.rp }) h6 Ik wf;rw[ey];have ea:∀y:qr,y.state=7→gQ y=none:=λy h=>iQ omQ;refine⟨E.G,by trivial,by trivial,?_,λ_=>.inl rfl,A4 (Yi (e:={ ({ c with at_:=c.at_+1 }:jw)with p:=zR c.p c.bx c.iF c.rp }) (by nofun) rfl wf (λh2=>by grind))⟩;rw[ea _ rfl];have V':=V.later r2 I.env t;refine X9.out (x:={ x with c:=some { ({ c with at_:=c.at_+1 }:jw)with p:=zR c.p c.bx c.iF c.rp } }) ⟨⟨A.l0.me,A.l0.set,A.l0.r,A.l0.inv⟩,?_,⟨V'.ok,V'.rt,V'.kr⟩⟩ (.inl (λh2=>by grind));grind
 ·rw[iQ hl]at hk ⊢;obtain⟨r1,r2⟩:=LG (some { c with at_:=c.at_+1 }) (λd h=>by cases h;exact⟨⟨hk.nH hp,hp,CI.lU,CI.un,CI.ne,λ_ h=>by grind⟩,rfl,rfl,rfl,rfl,rfl,by grind⟩) (λh=>by grind);have q1:({ c with at_:=c.at_+1 }:jw).p.fin=0:=hp;rw[ZA h6 q1,iQ (by grind)];have ea:gQ { x with c:=some { c with at_:=c.at_+1 } }=some { c with at_:=c.at_+1 }:=iJ h6;refine⟨E.G,by grind,by grind,?_,λ_=>.inl rfl,A4 (Yi (e:={ c with at_:=c.at_+1 }) (by grind) rfl wf omQ)⟩;rw[ea];have V':=V.later r2 I.env t;have e7:({ c with at_:=c.at_+1 }:jw).state=7:=s7;have tN:¬bU ({ c with at_:=c.at_+1 }:jw):=fD;exact yV.A5 (z:=x.aa) A.l0 h6 hk q1 t (λ_=>⟨V'.ok,V'.rt,V'.kr⟩) ⟨J.seen,J.cells,λh=>omQ,⟨λh=>absurd (show c.writing=true from h) (by grind),λh=>absurd h tN⟩,λh=>omQ,λh=>omQ,λh=>absurd h tN,λ_ h=>omQ,λ_=>J.f7 s7⟩
end
section
variable {S:jD} {w0:List Int} {E F:Env} {i:Nat} {x y:qr} {c d:jw} {M:zZ}
theorem qgo {V:VM} (O:dP V):lR (jz V.lv):=by
 have key:∀(l:List bH) (a:List Cl),lR a→(∀x∈l,lR x.1)→lR (l.foldl (λout x=>vA x.1 out) a):=by
  intro l
  induction l with
  |nil=>simp
  |cons x l ih=>exact λa h hl=>ih _ (lR.ox (hl x (iK ..))) λy hy=>hl y (iX _ hy)
 exact key _ _ (show([]:List Int).Nodup from List.nodup_nil) O.iS.un
def Hf (y:qr):Prop:=y.state=6→jz y.v.lv≠[]∧∃me sp st r,y.c=some (Xu me sp st r (jz y.v.lv) y.set.ae y.set.wide)
theorem vk (h:y.state≠6):Hf y:=λh'=>absurd h' h
theorem qJ2 {k e:Int}:Hf (xd x k e):=by
 unfold xd
 split
 ·nofun
 ·split
  ·nofun
  ·split
   ·nofun
   ·split
    ·nofun
    ·rename_i cg;exact λ_=>⟨cg,_,_,_,_,rfl⟩
theorem Us (h:Hf y):Hf (q9 y):=by
 unfold q9
 split
 ·split
  all_goals trivial
 grind
theorem qkp {a:cx} (h6:x.state≠6):Hf (qS x a):=by
 unfold qS
 split
 ·grind[vk]
 split
 ·nofun
 split
 ·nofun
 split
 ·nofun
 split
 ·exact qJ2
 split
 ·nofun
 split
 ·rename_i h3;unfold jZ;refine Us ?_
  split
  ·grind[vk]
  ·split
   ·nofun
   ·unfold jF;rw[iJ (by grind)];unfold jh
    split
    ·nofun
    ·split
     ·exact qJ2
     ·split
      all_goals nofun
 ·rename_i h3;unfold jZ;refine Us ?_
  split
  ·grind[vk]
  ·split
   ·nofun
   ·unfold jF;rw[iQ (by grind)]
    split
    ·nofun
    ·split
     ·nofun
     ·split
      ·nofun
      grind[vk]
theorem qZU {y:qr} (h:(if(zA x).1=0 then x else if(zA x).1=5 then zh x 5 0 (zA x).2 else jF x)=y) (hy:qM y=false):qM (jZ x)=false:=by grind[jZ,wy]
theorem qZ6 {a:cx} (O:zH x) (h6:x.state≠6):qM (qS x a)=false:=by
 have bZ:=O.st;have at8:∀y:qr,y.state=8→qM y=false:=λy h=>by
  simp_all[qM,iV]
 unfold qS
 split
 ·grind
 split
 ·rfl
 split
 ·exact jm (x:={ x with state:=1 }) (O.c0 omQ)
 split
 ·exact jm (x:={ x with begun:=true,aP:=a.word,aa:=a.word,state:=2 }) (O.c0 omQ)
 split
 ·exact Km (O.c0 omQ)
 split
 ·rfl
 have hc:=O.c0 omQ
 split
 ·rename_i h3;refine qZU rfl ?_
  split
  ·grind[jm]
  split
  ·exact jm hc
  unfold jF;rw[iJ (by grind)];unfold jh
  split
  ·exact jm hc
  split
  ·grind[Km]
  split
  ·exact jm hc
  ·exact jm hc
 ·rename_i h3;refine qZU rfl ?_
  split
  ·grind[jm]
  split
  ·exact jm hc
  unfold jF;rw[iQ (by grind)]
  split
  ·exact jm hc
  split
  ·exact jm hc
  grind
theorem jJf {p k:Int} (h0:0≤p) (h1:p<M.s.length):qL M (bA 9 p k)=(dS,{ M with s:=M.s.set p.toNat k,bh:=M.bh+1 }):=by
 have e':yl M (bA 9 p k)=(dS,{ M with s:=M.s.set p.toNat k }):=by unfold yl;rw[iQ (by nofun),iQ (by nofun),iQ (by nofun),iJ (.inr rfl)];unfold uE;rw[iQ (by show¬(p<0∨(M.s.length:Int)≤p);omega),iQ (by nofun)];rfl
 rw[vM,e'];rfl
theorem qx7 {p:Int} (h0:1≤p) (h1:p<M.w.length):qL M (bA 1 p 0)=(⟨qC M.w p,bT,false,0⟩,{ M with bh:=M.bh+1 }):=by refine VU (M:=M) (N:=M) (.inl rfl) ?_ rfl;unfold Ku;rw[iQ (by show¬(p<1∨(M.w.length:Int)≤p);omega)];rfl
theorem qku:qL M (bA 6 0 0)=(⟨M.n,bT,false,0⟩,{ M with bh:=M.bh+1 }):=Xf (.inl rfl) rfl rfl
structure Hg (S:jD) (M:zZ) (x:qr) (r:cx×zZ):Prop where
  err:r.1.err=0
  same:r.2.w=M.w∧r.2.l=M.l∧r.2.n=M.n
  h1:x.state=1→r.1.word=M.n
  hw:x.state=3→x.f.state=1→r.1.word=qC M.w x.v.aB
  hk:x.state=3→x.f.state≠1→r.1.lk=q8 M.l x.f.aG
  dR:x.state=4∨x.state=5→x.e.bD=false→r.1.word=M.n
  sV:x.state=4∨x.state=5→x.e.bD=true→r.1.lk=q8 M.l (jf x.e.seen x.e.at_).1
theorem yV.Du (I:xG S w0 E) (A:yV S w0 E i x) (O:zH x) (hs:(i:Int)<E.M.s.length) (h6:x.state≠6) {o:dC} (hn:zT x=some o):Hg S E.M x (qL E.M o):=by
 have bZ:=O.st;have Ca:x.me=(i:Int):=A.lk.me;have slot:∀k:Int,x.state≠1→x.state≠3→x.state≠4→x.state≠5→Hg S E.M x (qL E.M (bA 9 x.me k)):=λk a1 a3 a4 a5=>by
  rw[jJf omQ omQ];exact⟨rfl,⟨rfl,rfl,rfl⟩,λh=>absurd h a1,λh=>absurd h a3,λh=>absurd h a3,λh=>absurd h omQ,λh=>absurd h omQ⟩
 unfold zT at hn;by_cases s0:x.state=0
 ·grind
 rw[iQ s0]at hn;by_cases s1:x.state=1
 ·rw[iJ s1]at hn;cases hn;rw[qku];exact⟨rfl,⟨rfl,rfl,rfl⟩,λ_=>rfl,λh=>omQ,λh=>omQ,λh=>omQ,λh=>by omega⟩
 rw[iQ s1]at hn;by_cases s2:x.state=2
 ·grind
 rw[iQ s2]at hn;by_cases s7:x.state=7
 ·grind
 rw[iQ s7]at hn;by_cases s8:x.state=8
 ·grind
 rw[iQ s8]at hn;by_cases s3:x.state=3
 ·rw[iJ s3]at hn;obtain⟨hr,hf⟩:=A.lk.f s3;have V:=A.f s3;have sY:=O.aB omQ omQ;have bF:(x.v.sz:Int)=S.words:=by rw[O.sz,A.lk.set]
  have pU:=I.ml.w;unfold Y7 at hn;rw[iQ (λh=>h hf)]at hn;by_cases f1:x.f.state=1
  ·rw[iJ f1,V.at_]at hn;cases hn;rw[qx7 sY.1 omQ];exact⟨rfl,⟨rfl,rfl,rfl⟩,λh=>omQ,λ_ _=>rfl,λ_ h=>absurd f1 h,λh=>omQ,λh=>by omega⟩
  ·rw[iQ f1]at hn;cases hn;rw[N9 I.ml hr.1 hr.2];exact⟨rfl,⟨rfl,rfl,rfl⟩,λh=>omQ,λ_ h=>absurd h f1,λ_ _=>rfl,λh=>omQ,λh=>by omega⟩
 rw[iQ s3,iQ h6]at hn;have oW:x.state=4∨x.state=5:=by omega
 have V:=A.e oW;have EO:=O.e omQ omQ;unfold GK at hn;rw[iQ (λh=>h V.fin)]at hn;cases hl:x.e.bD with
 |false=>rw[iJ hl]at hn;cases hn;rw[qku];exact⟨rfl,⟨rfl,rfl,rfl⟩,λh=>omQ,λh=>omQ,λh=>omQ,λ_ _=>rfl,λ_ h=>by grind⟩
 |true=>
  rw[iQ (by grind)]at hn;cases hn;have aw:=EO.lU V.fin hl;have RX:=V.a0;have lS:x.e.at_.toNat<x.r.length:=by rw[V.seen]at aw;omega
  have Dx:jf x.e.seen x.e.at_=x.r[x.e.at_.toNat]:=by unfold jf;rw[V.seen,iW lS];rfl
  have hr:=A.lk.r _ (List.getElem_mem lS);rw[← Dx]at hr;rw[N9 I.ml hr.1 hr.2];exact⟨rfl,⟨rfl,rfl,rfl⟩,λh=>omQ,λh=>omQ,λh=>omQ,λ_ h=>(by grind),λ_ _=>rfl⟩
theorem yV.step (SO:xM S) (I:xG S w0 E) (A:yV S w0 E i x) (O:zH x) (hi:i<4) (hs:(i:Int)<E.M.s.length) (hC:E.C i=gQ x) {o:dC} (hn:zT x=some o) (ha:vz (qL E.M o).1) :
  dA S w0 E i (qL E.M o).2 (qS x (qL E.M o).1):=by
 have bZ:=O.st;by_cases h6:x.state=6
 ·obtain⟨c,hc⟩:∃c,x.c=some c:=by
   cases h:x.c with
   |none=>exact absurd h (O.c6 h6)
   |some c=>simp
  obtain⟨CL,hf⟩:=A.lk.c h6 c hc;obtain⟨o',bW,K⟩:=Zm I.ml CL omQ hf;have:o'=o:=by unfold zT at hn;grind
  subst this;have et:qS x (qL E.M o').1=jZ { x with c:=some (qp c (qL E.M o').1) }:=by unfold qS;rw[iQ omQ,iQ (λh=>h K.err),iQ omQ,iQ omQ,iQ omQ,iQ omQ,iQ omQ,iJ h6,hc];rfl
  rw[et];have A6:E.C i=some c:=by simp_all[gQ]
  exact A.SD I h6 hi hc A6 bW
 ·have K:=A.Du I O hs h6 hn;have N:=qkp (a:=(qL E.M o).1) h6;have NW:=qZ6 (a:=(qL E.M o).1) O h6;have O':=Xy O ha;generalize qL E.M o=r at*;have hM:=K.same;have I':=I.same hM;have A':=A.later (wD hM) I.env λc h=>absurd h h6;have B:=A'.Cq SO I' O h6 K.err ha (λh=>by rw[K.h1 h];grind) (λh h'=>by rw[K.hw h h'];grind) (λh h'=>by rw[K.hk h h'];grind) (λh h'=>by rw[K.dR h h'];grind) (λh h'=>by rw[K.sV h h'];grind);generalize qS x r.1=y at*;have hCn:E.C i=none:=by
   rw[hC];exact iQ h6
  have fresh:∀d,y.state=6→y.c=some d→(d.state=0∨d.state=2)∧d.ax=[]∧d.cells=jz y.v.lv∧d.s=x9 (jz y.v.lv) S.ae S.wide∧jz y.v.lv≠[]:=λd h hd=>by
   obtain⟨cg,me,sp,st,q,e⟩:=N h;rw[hd]at e;cases e;refine⟨?_,rfl,rfl,by show x9 _ y.set.ae y.set.wide=_;rw[B.lk.set],cg⟩;unfold Xu zV;grind
  obtain⟨r1,r2⟩:=I'.swap (i:=i) (λe he=>by grind) (o:=gQ y) λd hd=>by
   have Dy:y.state=6:=by
    grind[gQ]
   have rq:y.c=some d:=by simp_all[gQ]
   obtain⟨f1,f2,f3,f4,f5⟩:=fresh d Dy rq;obtain⟨CL,hf⟩:=B.lk.c Dy d rq;refine⟨⟨CL.nH hf,hf,λq hq=>?_,by rw[f3];exact qgo O'.aH.ok,by grind,λh=>omQ⟩,λk z w _ h=>?_,by grind[bU],λh=>by omega⟩
   ·rw[f4,← f3];exact(Jn (λq hq=>by have:=CL.cells q hq;omega)).2 (List.mem_map_of_mem hq)
   grind
  refine⟨E.G,r1,(wD hM).trans r2 I.env,B.later r2 I'.env λd h hd h4=>?_,λ_=>.inl rfl,A4 NW⟩;grind
end
section
variable {S:jD} {w0:List Int} {E F:Env} {i:Nat} {x y:qr} {a:cx}
structure uQ (x y:qr):Prop where
  b:y.begun=x.begun
  t:y.aP=x.aP
  s:2≤y.state
def Bg (x:qr):Prop:=x.begun=true↔2≤x.state
theorem uQ.at_ {k:Int} (b:y.begun=x.begun) (t:y.aP=x.aP) (s:y.state=k) (h:2≤k):uQ x y:=⟨b,t,by omega⟩
theorem qYc (x:qr) (k e:Int):uQ x (xd x k e):=by
 unfold xd
 repeat' split
 ·exact .at_ rfl rfl rfl (show(2:Int)≤3 by simp)
 ·exact .at_ rfl rfl rfl (show(2:Int)≤5 by simp)
 ·exact .at_ rfl rfl rfl (show(2:Int)≤7 by simp)
 ·exact .at_ rfl rfl rfl (show(2:Int)≤7 by simp)
 ·exact .at_ rfl rfl rfl (show(2:Int)≤6 by simp)
theorem Ob (x:qr):uQ x (xp x):=by
 have h:(z8 x).2.begun=x.begun∧(z8 x).2.aP=x.aP:=by
  unfold z8
  grind
 have b:=qYc (z8 x).2 (z8 x).1.1 (z8 x).1.2;exact⟨b.b.trans h.1,b.t.trans h.2,b.s⟩
theorem qQm (x:qr):uQ x (jh x):=by
 unfold jh
 split
 ·exact .at_ rfl rfl rfl (show(2:Int)≤4 by simp)
 ·split
  ·have b:=Ob { x with r:=(vw x.r (xE x.f)).2,v:=(xc x.v x.v.aB (xm x.f)).2 };exact⟨b.b,b.t,b.s⟩
  ·split
   ·exact .at_ rfl rfl rfl (show(2:Int)≤7 by simp)
   ·exact .at_ rfl rfl rfl (show(2:Int)≤7 by simp)
theorem Ua (h2:2≤x.state):uQ x (jZ x):=by
 have hs:∀y:qr,uQ x y→uQ x (q9 y):=λy b=>by
  unfold q9
  repeat' split
  all_goals exact⟨b.b,b.t,b.s⟩
 unfold jZ;refine hs _ ?_
 split
 ·exact⟨rfl,rfl,h2⟩
 ·split
  ·exact .at_ rfl rfl rfl (show(2:Int)≤7 by simp)
  ·unfold jF
   split
   ·simp[qQm]
   ·split
    ·exact .at_ rfl rfl rfl (show(2:Int)≤3 by simp)
    ·split
     ·exact .at_ rfl rfl rfl (show(2:Int)≤7 by simp)
     ·split
      ·exact .at_ rfl rfl rfl (show(2:Int)≤7 by simp)
      ·exact⟨rfl,rfl,h2⟩
theorem XV (h2:2≤x.state):uQ x (qS x a):=by
 unfold qS
 split
 ·exact⟨rfl,rfl,h2⟩
 split
 ·exact .at_ rfl rfl rfl (show(2:Int)≤8 by simp)
 rw[iQ omQ,iQ omQ]
 split
 ·simp[Ob]
 split
 ·exact .at_ rfl rfl rfl (show(2:Int)≤8 by simp)
 split
 ·have b:=Ua (x:={ x with f:=jE x.f a }) h2;exact⟨b.b,b.t,b.s⟩
 split
 ·have b:=Ua (x:={ x with c:=x.c.map λc=>qp c a }) h2;exact⟨b.b,b.t,b.s⟩
 ·have b:=Ua (x:={ x with e:=je x.e a }) h2;exact⟨b.b,b.t,b.s⟩
theorem Zb (B:Bg x) (h0:0≤x.state) (ha:a.err=0):Bg (qS x a):=by
 unfold Bg at B ⊢;by_cases h2:2≤x.state
 ·have b:=XV (a:=a) h2;rw[b.b];exact⟨λ_=>b.s,λ_=>B.2 h2⟩
 ·unfold qS;grind
def uR (x:qr):Prop:=x.state=7→(qM x=true↔Sy x)
def N7 (x:qr):Prop:=x.state=7→x.c=none∧(x.fin≠2∨jz x.v.lv=[])
theorem N7.w (h:N7 x):uR x:=λh7=>by
 obtain⟨hc,hf⟩:=h h7;rw[jm hc];exact⟨λh=>(by grind),λh=>by rcases hf with hf |hf;exact absurd h.1 hf;exact absurd hf h.2⟩
theorem YE (h:x.state≠7):N7 x:=λh'=>absurd h' h
theorem Ud {f e z:Int} (hc:x.c=none) (h:f≠2):N7 (zh x f e z):=λ_=>⟨hc,.inl h⟩
theorem qyb {k e:Int} (hc:x.c=none):N7 (xd x k e):=by
 unfold xd
 split
 ·nofun
 split
 ·nofun
 split
 ·exact Ud hc od
 split
 ·rename_i h;exact λ_=>⟨hc,.inr h⟩
 nofun
theorem qYC (hc:x.c=none):N7 (xp x):=qyb ((jZU x).1.trans hc)
theorem NE (h:N7 y):N7 (q9 y):=by
 unfold q9
 split
 ·split
  all_goals trivial
 grind
theorem jJo (hc:x.c=none) (h5:x.state≤5) (h0:0≤x.state):N7 (qS x a):=by
 unfold qS;rw[iQ omQ]
 split
 ·nofun
 split
 ·nofun
 split
 ·nofun
 split
 ·grind[qYC]
 rw[iQ omQ]
 split
 ·rename_i h3;unfold jZ;refine NE ?_
  split
  ·grind[YE]
  split
  ·exact Ud hc od
  unfold jF;rw[iJ (by grind)];unfold jh
  split
  ·nofun
  split
  ·grind[qYC]
  split
  all_goals simp_all[Ud,od]
 ·rename_i h3;rw[iQ omQ];unfold jZ;refine NE ?_
  split
  ·grind[YE]
  split
  ·exact Ud hc od
  unfold jF;rw[iQ (by grind)]
  split
  ·nofun
  split
  ·exact Ud hc od
  grind
theorem qGp (O:zH x) (cg:x.state=6→jz x.v.lv≠[]) (ha:a.err=0):uR (qS x a):=by
 have bZ:=O.st;by_cases h5:x.state≤5
 ·exact(jJo (O.c0 h5) h5 bZ.1).w
 by_cases h6:x.state=6
 ·obtain⟨c,hc⟩:∃c,x.c=some c:=by
   cases h:x.c with
   |none=>exact absurd h (O.c6 h6)
   |some c=>simp
  have et:qS x a=jZ { x with c:=some (qp c a) }:=by simp_all[qS,omQ]
  rw[et];generalize qp c a=d;have cg:=cg h6;have sw:∀y:qr,uR y→uR (q9 y):=λy h=>by
   unfold q9
   split
   ·split
    all_goals trivial
   grind
  unfold jZ;refine sw _ ?_;rw[Hd h6]
  split
  ·exact λh=>absurd h (by grind)
  ·rename_i h0;have h0:¬d.p.fin=0:=h0;have key:∀f e z:Int,f=d.p.fin→uR (zh { x with c:=some d } f e z):=λf e z hf _=>by
    rw[yn (e:=d) (by grind) rfl,iV h0,Bool.and_false,Bool.false_or,decide_eq_true_iff];exact⟨λh=>⟨by show f=2;omega,cg⟩,λh=>by have:f=2:=h.1;omega⟩
   split
   ·grind
   ·unfold jF;grind
 ·refine λh=>?_;exfalso;revert h;unfold qS
  grind
theorem V9 (A:yV S w0 E i x) (O:zH x) (W:uR x) (hw:qM x=true) (ha:a.err=0) :
  (qS x a).v=x.v∧(qS x a).aa=x.aa∧(((qS x a).state=8∧(qS x a).fin=2)∨qM (qS x a)=true):=by
 have bZ:=O.st;have h5:¬x.state≤5:=λh=>by
  rw[jm (O.c0 h)]at hw;grind
 have h8:x.state≠8:=λh=>by
  simp_all[qM,iV]
 by_cases h6:x.state=6
 ·obtain⟨c,hc⟩:∃c,x.c=some c:=by
   cases h:x.c with
   |none=>exact absurd h (O.c6 h6)
   |some c=>simp
  obtain⟨CL,hp⟩:=A.lk.c h6 c hc;have J:=A.c h6 c hc;rw[yn h8 hc,iG hp,iV (by omega:¬c.p.fin=2),Bool.and_true,Bool.or_false]at hw;have wr:=J.wg.1 hw;have hx:=(J.wr wr).1;have h56:c.state=5∨c.state=6:=wr;have et:qS x a=jZ { x with c:=some (qp c a) }:=by simp_all[qS,omQ]
  have iD:∀e:jw,(xX e).now=e.now∧(xX e).writing=e.writing∧((xX e).p.fin=e.p.fin∨(xX e).p.fin=2):=λe=>by
   unfold xX
   split
   ·exact⟨rfl,rfl,.inr rfl⟩
   simp
  have D:(qp c a).now=c.now∧(qp c a).writing=c.writing∧((qp c a).p.fin=c.p.fin∨(qp c a).p.fin=2):=by
   rw[zq hp ha,iQ omQ,iQ omQ,iQ omQ]
   split
   ·unfold zG
    grind
   grind
  rw[et];generalize qp c a=d at*;obtain⟨d1,d2,d3⟩:=D;rw[hp]at d3;have mA:d.writing=true:=d2.trans hw;rcases d3 with d3 |d3
  ·rw[ZA h6 d3,iJ mA];refine⟨rfl,by grind,.inr ?_⟩;rw[yn (e:=d) (by grind) rfl,mA,iG d3];rfl
  ·rw[V8 h6 d3 mA];refine⟨rfl,by grind,.inr ?_⟩;rw[yn (e:=d) (by nofun) rfl,iG d3,Bool.or_true]
 ·have h7:x.state=7:=by omega
  have et:qS x a={ x with state:=8 }:=by simp_all[qS,omQ]
  rw[et];exact⟨rfl,rfl,.inl ⟨rfl,((W h7).1 hw).1⟩⟩
def jT (r:xB):Prop:=r.kind=2∧r.cells≠[]
structure uS (S:jD) (w0:List Int) (E:Env) (r:xB):Prop where
  t:S.start≤r.aa∧r.aa≤E.M.n
  no:¬jT r→RT S w0 E r.aa r.reads
  yes:jT r→RT S w0 E (r.aa-1) r.reads∧S.start<r.aa∧E.G (r.aa-S.start).toNat=r.cells
variable {r:xB} {t:qe} {pick:Int}
theorem uS.later (R:uS S w0 E r) (L:yd S E F) (O:Yb S E):uS S w0 F r:=by
 refine⟨⟨R.t.1,Int.le_trans R.t.2 L.n⟩,λh=>(R.no h).later L O R.t.1 R.t.2,λh=>?_⟩;obtain⟨v1,v2,v3⟩:=R.yes h;have:=R.t;refine⟨v1.later L O omQ omQ,v2,?_⟩;rcases L.g (r.aa-S.start).toNat with e |e |⟨e,_⟩
 ·grind
 ·omega
 ·rw[v3]at e;exact absurd e h.2
theorem vh:jT (jJ t x pick)↔(qM x=true∨(x.state=8∧x.fin=2))∧jz x.v.lv≠[]:=by
 unfold jT jJ gZ zd;dsimp only;cases hw:qM x with
 |true=>simp
 |false=>
  simp[Bool.or_false,jK];omega
theorem Gz (h:jT (jJ t x pick)):(jJ t x pick).cells=jz x.v.lv:=by
 have h1:=(vh.1 h).1;show gZ x=_;unfold gZ;refine iJ ?_;unfold zd;rcases h1 with h1 |⟨h1,h2⟩
 all_goals simp_all[Bool.or_true,jK,iG]
theorem yV.SE (A:yV S w0 E i x) (I:xG S w0 E) (hC:E.C i=gQ x) (O:zH x) (h6:x.state=6):jz x.v.lv≠[]:=by
 obtain⟨c,hc⟩:∃c,x.c=some c:=by
  cases h:x.c with
  |none=>exact absurd h (O.c6 h6)
  |some c=>simp
 have A6:E.C i=some c:=by simp_all[gQ]
 rw[← (A.c h6 c hc).cells];exact(I.dM i c A6).ne
theorem yV.Hi (A:yV S w0 E i x) (I:xG S w0 E) (hC:E.C i=gQ x) (O:zH x) (W:uR x) (h2:2≤x.state):uS S w0 E (jJ t x pick):=by
 have bZ:=O.st;have no5:x.state≤5→qM x=false:=λh=>jm (O.c0 h);have A5:x.state=6→∃c,x.c=some c∧E.C i=some c∧c.p.fin=0∧(qM x=true↔bU c):=λh6=>by
  obtain⟨c,hc⟩:∃c,x.c=some c:=by
   cases h:x.c with
   |none=>exact absurd h (O.c6 h6)
   |some c=>simp
  have hp:=(A.lk.c h6 c hc).2;refine⟨c,hc,by simp_all[gQ],hp,?_⟩;rw[yn omQ hc,iG hp,iV (by omega:¬c.p.fin=2),Bool.and_true,Bool.or_false];exact(A.c h6 c hc).wg
 refine⟨A.t h2,λh=>?_,λh=>?_⟩
 ·rw[vh]at h;show RT S w0 E x.aa x.v.K;by_cases h7:x.state=7
  ·exact(A.end_ omQ).no λhx=>h ⟨.inl ((W h7).2 hx),hx.2⟩
  by_cases h8:x.state=8
  ·exact(A.end_ omQ).no λhx=>h ⟨.inr ⟨h8,hx.1⟩,hx.2⟩
  refine(A.live h2 omQ λc h6 hc hw=>?_).rt;obtain⟨c',bE,_,_,Cu⟩:=A5 h6;rw[hc]at bE;cases bE;exact h ⟨.inl (Cu.2 hw),A.SE I hC O h6⟩
 ·have e:=Gz h;rw[vh]at h;rw[e];show RT S w0 E (x.aa-1) x.v.K∧S.start<x.aa∧E.G (x.aa-S.start).toNat=jz x.v.lv;by_cases h7:7≤x.state
  ·refine(A.end_ h7).yes ⟨?_,h.2⟩;rcases h.1 with h1 |⟨_,h1⟩
   ·by_cases h8:x.state=8
    ·simp_all[qM,iV]
    ·exact((W omQ).1 h1).1
   grind
  ·have hw:qM x=true:=by
    grind
   have h6:x.state=6:=by
    grind
   obtain⟨c,hc,A6,hp,Cu⟩:=A5 h6;have wr:=Cu.1 hw;have J:=A.c h6 c hc;have CI:=I.dM i c A6;have h56:c.state=5∨c.state=6:=wr;have hn:=(CI.now omQ omQ).1;obtain⟨j1,j2⟩:=J.wr wr;refine⟨by grind,by omega,?_⟩;rw[j1,← J.cells];exact I.ru i c A6 wr
end
section
variable {S S':jD} {w0:List Int} {E F:Env} {i:Nat} {x y:qr} {t:qe} {r:xB} {d p:Int} {M:zZ}
structure Dz (S:jD) (w0:List Int) (E:Env) (i:Nat) (x:qr):Prop where
  ai:yV S w0 E i x
  w7:uR x
  bg:Bg x
structure Vq (S:jD) (w0:List Int) (E:Env) (i:Nat) (t:qe):Prop where
  a:t.state=1→∀x,t.now=some x→Dz S w0 E i x
  p:∀r∈t.af,uS S w0 E r
theorem jX0 {me:Int} {j:wc} (L:vT S E.M.n (K4 me S' j) i):Dz S w0 E i (K4 me S' j) :=
 ⟨⟨L,λ_=>⟨rfl,rfl⟩,λh=>absurd h (by nofun),λh=>absurd h (by nofun),λh=>(by cases h),λh=>(by rcases h with h |h<;>cases h),λh=>(by cases h),λh=>absurd h (by nofun)⟩,
  λh=>(by cases h),⟨λh=>(by cases h),λh=>absurd h (by nofun)⟩⟩
def nJ (t:qe):Prop:=t.state=1→∀x,t.now=some x→∃me S j,x=K4 me S j
theorem ku (h:t.state≠1):nJ t:=λh'=>absurd h' h
theorem vH:nJ (zJ t):=by
 unfold zJ
 split
 ·nofun
 ·intro _ x hx;have hx:=Option.some.inj hx;subst hx
  split
  ·exact⟨_,_,_,rfl⟩
  ·exact⟨_,_,_,rfl⟩
theorem VL:nJ (zo t d):=by
 grind[zo,vH,ku]
theorem Z2 (h5:t.state≠1):nJ (yE t):=by
 have key:∀u:qe,u.state≠1→nJ (yy u):=λu c=>by
  unfold yy
  split
  ·exact ku c
  ·split
   ·exact vH
   simp[vH]
 grind[yE]
theorem Kf:nJ (zv t x d p):=by
 unfold zv;dsimp only
 split
 ·grind[ku,VL]
 ·split
  ·grind[vH,ku]
  ·split
   ·exact vH
   ·unfold wq
    split
    ·exact vH
    simp[Z2]
theorem Ki (h:t.state≠1):nJ (qs t):=by
 grind[qs,vH,ku]
theorem lF:JW t (qs t):=by
 unfold qs
 split
 ·split
  ·exact(JW.trans (u:={ t with bz:=0 }) ⟨rfl,rfl⟩ (xZ _))
  ·exact⟨rfl,rfl⟩
 ·exact .refl t
theorem QX:(zv t x d p).af=t.af++[jJ t x p]:=by
 unfold zv;dsimp only
 split
 ·split
  ·rfl
  ·exact(ww _ _).af
 ·split
  ·split
   ·exact(xZ _).af
   rfl
  ·split
   ·exact(NG _ _).af
   ·exact(ZX _).af
theorem Vq.fresh (L:ThrLk S E.M.n t i) (hf:nJ t) (hp:∀r∈t.af,uS S w0 E r):Vq S w0 E i t :=
 ⟨λh1 x hx=>by
  have L1:=L.a h1 x hx;obtain⟨a,b,c,e⟩:=hf h1 x hx;grind[jX0],hp⟩
theorem YS (h:t.state≠1):xr t=none:=iQ h
theorem YM (h1:t.state=1) (hx:t.now=some x):xr t=gQ x:=by simp_all[xr,gQ]
theorem XJ (hf:nJ t):xr t=none:=by
 by_cases h1:t.state=1
 ·cases hx:t.now with
  |none=>simp_all[xr]
  |some x=>obtain⟨a,b,c,e⟩:=hf h1 x hx;rw[YM h1 hx,e];rfl
 grind[YS]
theorem Dz.later (Z:Dz S w0 E i x) (I:xG S w0 E) (hC:E.C i=gQ x) (L:yd S E F):Dz S w0 F i x :=
 ⟨Z.ai.later L I.env λc h6 hc h4 Dy=>by
  have A6:E.C i=some c:=by simp_all[gQ]
  have:=I.dM i c A6
  exact⟨(this.now omQ Dy).1,this.lk.s4 h4 Dy⟩,Z.w7,Z.bg⟩
theorem Vq.later (T:Vq S w0 E i t) (I:xG S w0 E) (hC:E.C i=xr t) (L:yd S E F):Vq S w0 F i t :=
 ⟨λh1 x hx=>(T.a h1 x hx).later I (hC.trans (YM h1 hx)) L,λr hr=>(T.p r hr).later L I.env⟩
theorem Yz (h:r∈t.af):r∈qH t:=List.mem_append_left _ h
theorem jKp {s v:Int} (T:Vq S w0 E i t) (L:ThrLk S E.M.n (jN t s v) i):Vq S w0 E i (jN t s v)∧xr (jN t s v)=xr t∧∀r∈qH t,r∈qH (jN t s v):=by
 unfold jN at L ⊢
 split
 ·grind
 ·rename_i x hx;rw[hx]at L;dsimp only at L
  split
  ·rename_i hs;rw[iJ hs]at L
   split
   ·rename_i h4;rw[iJ h4]at L;refine⟨.fresh L vH λr hr=>T.p r ((xZ t).af▸hr),(XJ vH).trans (YS omQ).symm,λr hr=>Yz ?_⟩;rw[(xZ t).af];simp_all[qH,List.append_nil]
   ·split
    ·exact⟨⟨T.a,T.p⟩,rfl,λr h=>h⟩
    grind
  grind
theorem jXf (Z:Dz S w0 F i y) (P:∀r∈t.af,uS S w0 F r) (h1:t.state=1) (I:xG S w0 F) (hC:F.C i=gQ y) (O:zH y) (L:ThrLk S F.M.n (xz t x y d p) i) :
  Vq S w0 F i (xz t x y d p)∧xr (xz t x y d p)=gQ y:=by
 unfold xz at L ⊢;dsimp only at L ⊢;by_cases he:jK y=0
 ·rw[iJ he]at L ⊢;exact⟨⟨λ_ z hz=>by grind,P⟩,YM h1 rfl⟩
 ·rw[iQ he]at L ⊢;have h8:y.state=8:=by
   unfold jK at he
   grind
  refine⟨.fresh L Kf λr hr=>?_,(XJ Kf).trans (Eq.symm (iQ omQ))⟩;rw[QX]at hr;rcases List.mem_append.1 hr with hr |hr
  ·grind
  ·rw[List.mem_singleton.1 hr];exact Z.ai.Hi I hC O Z.w7 omQ
theorem qza (h:r∈t.af):r∈qH (xz t x y d p):=by
 grind[Yz,xz,QX,List.mem_append_left]
theorem qJa (h1:t.state=1) (hb:y.begun=true) (hw:(y.state=8∧y.fin=2)∨qM y=true) (cg:jz y.v.lv≠[]) :
  ∃r∈qH (xz t x y d p),jT r∧r.cells=jz y.v.lv∧r.aa=y.aa:=by
 unfold xz;dsimp only
 split
 ·rename_i he;generalize hu:({ t with now:=some y,born:=if y.begun=true∧x.begun=false then p else t.born }:qe)=u;have e:qH u=u.af++[jJ u y 0]:=by
   subst hu;simp_all[qH]
  have w:jT (jJ u y 0):=vh.2 ⟨by grind,cg⟩;exact⟨jJ u y 0,by grind,w,Gz w,rfl⟩
 ·generalize({ t with now:=some y,born:=if y.begun=true∧x.begun=false then p else t.born }:qe)=u;have w:jT (jJ u y p):=vh.2 ⟨by grind,cg⟩;exact⟨jJ u y p,Yz (by rw[QX];simp),w,Gz w,rfl⟩
structure X6 (w0:List Int) (m:yj) (G:gS):Prop where
  mem:xG m.s w0 (xO m G)
  t:∀(i:Nat) (t:qe),m.t[i]? =some t→Vq m.s w0 (xO m G) i t
  src:∀k:Nat,G k≠[]→∃(i:Nat) (t:qe) (r:xB),m.t[i]? =some t∧r∈qH t∧jT r∧r.cells=G k∧r.aa=m.s.start+k
  len:m.m.s.length=m.t.length
theorem SF {m:yj} {G:gS} {M:zZ} {C:Nat→Option jw} (h1:m.m=M) (h2:∀k,(m.t[k]?).bind xr=C k):xO m G=⟨M,G,C⟩:=by unfold xO;simp_all
theorem X6.lG {m:yj} {G:gS} (Z:X6 w0 m G) (K:kC m) {i:Nat} {t:qe} (ht:m.t[i]? =some t) {r:xB} (hr:r∈qH t):uS m.s w0 (xO m G) r:=by
 have T:=Z.t i t ht;rcases List.mem_append.1 hr with hr |hr
 ·exact T.p r hr
 ·cases hx:t.now with
  |none=>grind
  |some x=>
   rw[hx]at hr;dsimp only at hr;by_cases hb:t.state=1∧x.begun=true
   ·rw[iJ hb]at hr;rw[List.mem_singleton.1 hr];have A:=T.a hb.1 x hx;have OA:=(((K.t i t ht).1.c omQ).now x hx).1;refine A.ai.Hi Z.mem ?_ OA A.w7 (A.bg.1 hb.2);show(m.t[i]?).bind xr=_;grind[YM]
   grind
end
section
variable {S:jD} {w0:List Int} {E F:Env} {G:gS} {i:Nat} {x y:qr} {t:qe} {r:xB} {d p:Int} {m:yj} {o:dC}
theorem yV.err (I:xG S w0 E) (A:yV S w0 E i x) (O:zH x) (hi:i<4) (hs:(i:Int)<E.M.s.length) (hn:zT x=some o):(qL E.M o).1.err=0:=by
 have bZ:=O.st;by_cases h6:x.state=6
 ·obtain⟨c,hc⟩:∃c,x.c=some c:=by
   cases h:x.c with
   |none=>exact absurd h (O.c6 h6)
   |some c=>simp
  obtain⟨CL,hf⟩:=A.lk.c h6 c hc;obtain⟨o',bW,K⟩:=Zm I.ml CL omQ hf;have:o'=o:=by unfold zT at hn;grind
  rw[← this];exact K.err
 ·exact(A.Du I O hs h6 hn).err
theorem Jj (h:t.state≠1):qH t=t.af:=by
 unfold qH
 grind
structure SH (S:jD) (w0:List Int) (E:Env) (i:Nat) (t u:qe) (M':zZ) (G':gS):Prop where
  mem:xG S w0 ⟨M',G',cR E.C i (xr u)⟩
  lat:yd S E ⟨M',G',cR E.C i (xr u)⟩
  oC:Vq S w0 ⟨M',G',cR E.C i (xr u)⟩ i u
  carry:∀r∈qH t,jT r→∃r'∈qH u,jT r'∧r'.cells=r.cells∧r'.aa=r.aa
  new:∀k,G' k≠[]→G' k=E.G k∨∃r'∈qH u,jT r'∧r'.cells=G' k∧r'.aa=S.start+(k:Int)
theorem qyA {C:Nat→Option jw} {o:Option jw} (h:C i=o):cR C i o=C:=by
 grind[Jo,ge]
theorem jZf (K:kC m) (Z:X6 w0 m G) (ht:m.t[i]? =some t) (hn:zO t=some o) (Lu:ThrLk m.s (qL m.m o).2.n (ql t (qL m.m o).1 d p) i) :
  ∃G',SH m.s w0 (xO m G) i t (ql t (qL m.m o).1 d p) (qL m.m o).2 G':=by
 obtain⟨O,W,L⟩:=K.t i t ht;have hi:=(List.getElem?_eq_some_iff.1 ht).1;have sZ:i<4:=by have:=K.len;have:=K.th;omega
 have hs:(i:Int)<(xO m G).M.s.length:=by have:=Z.len;show(i:Int)<m.m.s.length;omega
 have T:=Z.t i t ht;have DA:(xO m G).C i=xr t:=by show(m.t[i]?).bind xr=_;grind
 by_cases h1:t.state=1
 ·obtain⟨x,hx⟩:∃x,t.now=some x:=by
   cases h:t.now with
   |none=>exact absurd h (O.c omQ).some
   |some x=>simp
  have OA:=((O.c omQ).now x hx).1;have bW:zT x=some o:=by simp_all[zO]
  have lE:=(Ql K.r (wI O W hn)).1;have A:=T.a h1 x hx;have hC:(xO m G).C i=gQ x:=DA.trans (YM h1 hx);have ha:(qL m.m o).1.err=0:=A.ai.err Z.mem OA sZ hs bW;obtain⟨G',s1,s2,s3,s4,s5⟩:=A.ai.step K.so Z.mem OA sZ hs hC bW lE;have s1:xG m.s w0 ⟨(qL m.m o).2,G',cR (xO m G).C i (gQ (qS x (qL m.m o).1))⟩:=s1;have s2:yd m.s (xO m G) ⟨(qL m.m o).2,G',cR (xO m G).C i (gQ (qS x (qL m.m o).1))⟩:=s2;have s3:yV m.s w0 ⟨(qL m.m o).2,G',cR (xO m G).C i (gQ (qS x (qL m.m o).1))⟩ i (qS x (qL m.m o).1):=s3;have s4:∀k,G' k=G k∨(G' k=jz (qS x (qL m.m o).1).v.lv∧qM (qS x (qL m.m o).1)=true∧((qS x (qL m.m o).1).aa-m.s.start).toNat=k):=s4;have O':=Xy OA lE;have w7:=qGp OA (A.ai.SE Z.mem hC OA) ha;have bg:=Zb A.bg OA.st.1 ha;have on:=λhw=>V9 A.ai OA A.w7 hw ha;have bb:=λh2=>XV (a:=(qL m.m o).1) (x:=x) h2;have et:ql t (qL m.m o).1 d p=xz t x (qS x (qL m.m o).1) d p:=by simp_all[ql]
  rw[et]at Lu ⊢;generalize qL m.m o=q at*;generalize qS x q.1=y at*;obtain⟨t1,t2⟩:=jXf (x:=x) (d:=d) (p:=p) ⟨s3,w7,bg⟩ (λr hr=>(T.p r hr).later s2 Z.mem.env) h1 s1 Jo O' Lu;refine⟨G',by grind,by grind,by grind,λr hr hw=>?_,λk hk=>?_⟩
  ·rcases List.mem_append.1 hr with hr |hr
   ·exact⟨r,qza hr,hw,rfl,rfl⟩
   ·rw[hx]at hr;dsimp only at hr;by_cases hb:t.state=1∧x.begun=true
    ·rw[iJ hb]at hr;have er:=List.mem_singleton.1 hr;subst er;have hc:=Gz hw;have h8:x.state≠8:=λh=>by
      simp_all[zT,omQ]
     obtain⟨w1,w2⟩:=vh.1 hw;have A7:qM x=true:=by
      grind
     obtain⟨v1,v2,v3⟩:=on A7;obtain⟨r',g1,g2,g3,g4⟩:=qJa (t:=t) (x:=x) (d:=d) (p:=p) h1 ((bb (A.bg.1 hb.2)).b.trans hb.2) v3 (by grind);exact⟨r',g1,g2,by grind,by rw[g4];exact v2⟩
    grind
  ·rcases s4 k with e |⟨e1,e2,e3⟩
   ·exact .inl e
   ·have h6:¬y.state≤5:=λh=>by
     rw[jm (O'.c0 h)]at e2;grind
    obtain⟨r',g1,g2,g3,g4⟩:=qJa (t:=t) (x:=x) (d:=d) (p:=p) h1 (bg.2 omQ) (.inr e2) (by grind);have:=(s3.t omQ).1;grind
 ·have hk:o.kind=8:=by
   unfold zO at hn;rw[iQ h1]at hn
   split at hn
   ·cases hn;rfl
   ·split at hn
    ·cases hn;rfl
    grind
  have e3:=Sv (M:=m.m) (o:=o) omQ;have N:nJ (ql t (qL m.m o).1 d p)∧(ql t (qL m.m o).1 d p).af=t.af:=by
   unfold ql;rw[iQ h1]
   split
   ·split
    ·exact⟨ku h1,rfl⟩
    ·exact⟨VL,(ww _ _).af⟩
   ·split
    ·exact⟨Z2 (by grind),(Q2 _).af⟩
    ·exact⟨ku h1,rfl⟩
  generalize qL m.m o=q at*;generalize ql t q.1 d p=u at*;obtain⟨n1,n2⟩:=N;have eC:cR (xO m G).C i (xr u)=(xO m G).C:=qyA (by grind[YS,XJ]);have s2:=wD (S:=m.s) (E:=xO m G) (M':=q.2) e3;refine⟨G,by rw[eC];exact Z.mem.same e3,by rw[eC];exact s2,?_,λr hr hw=>⟨r,Yz ?_,hw,rfl,rfl⟩,λk _=>.inl rfl⟩
  ·rw[eC];exact .fresh Lu n1 λr hr=>(T.p r (n2▸hr)).later s2 Z.mem.env
  grind[Jj]
theorem qx1 (K:kC m) (Z:X6 w0 m G) (hi:i<m.t.length) (hd:0≤d):∃G',X6 w0 (jn m i d) G'∧yd m.s (xO m G) (xO (jn m i d) G'):=by
 obtain⟨K',ks,-,-,-⟩:=QB K hi hd;obtain⟨t,ht⟩:∃t,m.t[i]? =some t:=⟨m.t[i],iW hi⟩;have eM:∀(u:qe),(m.t.set i u)[i]? =some u:=λu=>by grind
 have dO:∀(u:qe) {k:Nat},k≠i→(m.t.set i u)[k]? =m.t[k]?:=λu k hk=>by grind
 have DA:(xO m G).C i=xr t:=by show(m.t[i]?).bind xr=_;grind
 unfold jn at K' ks ⊢;rw[ht]at K' ks ⊢;dsimp only at K' ks ⊢;cases hn:zO t with
 |none=>
  rw[hn]at K';dsimp only at K' ⊢;have P:xr (qs t)=xr t∧Vq m.s w0 (xO m G) i (qs t)∧∀r∈qH t,r∈qH (qs t):=by
   by_cases h1:t.state=1
   ·have e:qs t=t:=by unfold qs;grind
    rw[e];exact⟨rfl,Z.t i t ht,λr h=>h⟩
   ·refine⟨(XJ (Ki h1)).trans (YS h1).symm,.fresh (K'.t i _ (eM _)).2.2 (Ki h1) λr hr=>(Z.t i t ht).p r (lF.af▸hr),λr hr=>Yz ?_⟩;rw[Jj h1]at hr;rw[lF.af];grind
  have ee:xO { m with aA:=m.aA+1,last:=bA 0 0 0,did:=false,t:=m.t.set i (qs t) } G=xO m G:=by
   refine SF (M:=m.m) (C:=(xO m G).C) rfl λk=>?_;show((m.t.set i (qs t))[k]?).bind xr=_;by_cases hk:k=i
   ·grind
   ·rw[dO _ hk];rfl
  refine⟨G,⟨by rw[ee];exact Z.mem,λk v hv=>?_,λk hk=>?_,by show m.m.s.length=(m.t.set i _).length;rw[List.length_set];exact Z.len⟩,by rw[ee];exact wD ⟨rfl,rfl,rfl⟩⟩
  ·rw[ee];have hv:(m.t.set i (qs t))[k]? =some v:=hv;by_cases hk:k=i
   ·grind
   ·rw[dO _ hk]at hv;exact Z.t k v hv
  ·obtain⟨j,v,r,g1,g2,g3,g4,g5⟩:=Z.src k hk;by_cases hj:j=i
   ·grind
   ·exact⟨j,v,r,(dO _ hj).trans g1,g2,g3,g4,g5⟩
 |some o=>
  rw[hn]at K';dsimp only at K' ⊢;have hg:∃g:Nat→qe→qe,(∀(ts:List qe) (k:Nat),(if o.kind=5 then xl ts i o.at_ o.lk.1 else ts)[k]? =(ts[k]?).map (g k))∧(∀v,g i v=v)∧∀k v,g k v=v∨∃a b,g k v=jN v a b:=by
   by_cases h5:o.kind=5
   ·refine⟨λk v=>if k=i then v else jN v o.at_ o.lk.1,λts k=>by simp_all[Xd],λv=>iJ rfl,λk v=>?_⟩;grind
   ·exact⟨λ_ v=>v,λts k=>by grind,λv=>rfl,λk v=>.inl rfl⟩
  obtain⟨g,ud,pZ,hg3⟩:=hg;have hlen:(if o.kind=5 then xl (m.t.set i (ql t (qL m.m o).1 d (m.aA+1))) i o.at_ o.lk.1 else m.t.set i (ql t (qL m.m o).1 d (m.aA+1))).length=m.t.length:=by
   grind[xl,List.length_mapIdx,List.length_set]
  have at':∀k,(if o.kind=5 then xl (m.t.set i (ql t (qL m.m o).1 d (m.aA+1))) i o.at_ o.lk.1 else m.t.set i (ql t (qL m.m o).1 d (m.aA+1)))[k]? =((m.t.set i (ql t (qL m.m o).1 d (m.aA+1)))[k]?).map (g k):=λk=>ud _ k;have D4:=(NY (M:=m.m) (o:=o)).2.2;have Lu:=(K'.t i (ql t (qL m.m o).1 d (m.aA+1)) (by grind)).2.2;obtain⟨G',TS⟩:=jZf K Z ht hn (d:=d) (p:=m.aA+1) Lu;have KL:∀(k:Nat) (v:qe),((m.t.set i (ql t (qL m.m o).1 d (m.aA+1)))[k]?).map (g k)=some v→ThrLk m.s (qL m.m o).2.n v k:=λk v hv=>(K'.t k v (by grind)).2.2;generalize EA:(if o.kind=5 then xl (m.t.set i (ql t (qL m.m o).1 d (m.aA+1))) i o.at_ o.lk.1 else m.t.set i (ql t (qL m.m o).1 d (m.aA+1)))=ts at*;clear K' EA Lu;generalize qL m.m o=q at*;generalize ql t q.1 d (m.aA+1)=u at*;have other:∀(k:Nat) (v:qe),k≠i→m.t[k]? =some v→Vq m.s w0 ⟨q.2,G',cR (xO m G).C i (xr u)⟩ k (g k v)∧xr (g k v)=xr v∧∀r∈qH v,r∈qH (g k v):=λk v hk hv=>by
   have T0:=(Z.t k v hv).later Z.mem (by show(m.t[k]?).bind xr=_;grind) TS.lat;have L0:=KL k (g k v) (by grind);rcases hg3 k v with e |⟨a,b,e⟩
   ·grind
   grind[jKp]
  have ee:xO { m with aA:=m.aA+1,last:=o,did:=true,m:=q.2,t:=ts } G'=⟨q.2,G',cR (xO m G).C i (xr u)⟩:=by
   refine SF rfl λk=>?_;show(ts[k]?).bind xr=_;rw[at'];by_cases hk:k=i
   ·simp_all[Option.map_some,Jo]
   ·rw[dO _ hk,ge hk];show((m.t[k]?).map (g k)).bind xr=(m.t[k]?).bind xr;cases hv:m.t[k]? with
    |none=>rfl
    |some v=>grind
  refine⟨G',⟨by rw[ee];exact TS.mem,λk v hv=>?_,λk hk=>?_,by show q.2.s.length=ts.length;rw[D4,hlen];exact Z.len⟩,by rw[ee];exact TS.lat⟩
  ·rw[ee];have hv:ts[k]? =some v:=hv;rw[at']at hv;by_cases hk:k=i
   ·subst hk;rw[eM,Option.map_some,pZ]at hv;cases hv;exact TS.oC
   grind
  ·have Hj:ts[i]? =some u:=by grind
   rcases TS.new k hk with e |⟨r,g1,g2,g3,g4⟩
   ·rw[e]at hk ⊢;obtain⟨j,v,r,g1,g2,g3,g4,g5⟩:=Z.src k hk;by_cases hj:j=i
    ·subst hj;rw[ht]at g1;cases g1;obtain⟨r',f1,f2,f3,f4⟩:=TS.carry r g2 g3;exact⟨j,u,r',Hj,f1,f2,f3.trans g4,f4.trans g5⟩
    ·exact⟨j,g j v,r,by grind,(other j v hj g1).2.2 r g2,g3,g4,g5⟩
   grind
end
section
variable {S:jD} {w0:List Int} {E F:Env} {G:gS} {i:Nat} {m:yj}
theorem qZR {M:zZ} {p k:Int}:(qL M (bA 2 p k)).2.n=M.n∧(qL M (bA 2 p k)).2.s=M.s∧(qL M (bA 2 p k)).2.l=M.l:=by
 have key:(yl M (bA 2 p k)).2.n=M.n∧(yl M (bA 2 p k)).2.s=M.s∧(yl M (bA 2 p k)).2.l=M.l:=by
  unfold yl;rw[iJ (.inr rfl)];unfold Ku
  grind
 grind[vM]
theorem jQb {s:jD} {jobs:List (List (List qa))} (hs:0≤s.start) (hj:∀js∈jobs,∀l∈js,(zi l).2=0∧Quiet l):X6 (xP s jobs).m.w (xP s jobs) λ_=>[]:=by
 have K:=VR hs hj;have oC:∀(i:Nat) (t:qe),(xP s jobs).t[i]? =some t→nJ t∧t.af=[]:=λi t ht=>by
  unfold xP at ht;dsimp only at ht;rw[List.getElem?_map]at ht;obtain⟨a,_,e⟩:=Option.map_eq_some_iff.1 ht;rw[← e];exact⟨vH,(xZ _).af⟩
 have st:(xP s jobs).m.n=(xP s jobs).s.start:=qZR.1;have sl:(xP s jobs).m.s.length=(xP s jobs).t.length:=by unfold xP;dsimp only;rw[qZR.2.1,List.length_map,List.length_range];exact List.length_replicate
 generalize xP s jobs=m at*;have ee:xO m (λ_=>[])=⟨m.m,λ_=>[],λ_=>none⟩:=by
  refine SF rfl λk=>?_;grind[XJ]
 refine⟨?_,λi t ht=>.fresh (K.t i t ht).2.2 (oC i t ht).1 λr hr=>(by grind),λk h=>absurd rfl h,sl⟩;rw[ee];refine⟨by grind,K.mem,λi c h=>(by grind),λi c h=>(by grind),λi c h=>(by grind),λi c h=>(by simp),λi j c d h=>(by simp),λ_ _=>rfl,rfl,λj z _ _ _ _ ht=>?_,λp _ _=>.inl ?_⟩
 ·obtain⟨q,hq,_⟩:=ht;grind
 ·show qC m.m.w p=hv (λ_=>[]) m.m.w (m.m.n-m.s.start).toNat p;exact(I4 (Nat.zero_le _) λ_ _ _=>rfl).symm
theorem X6.quiet (Z:X6 w0 m G) (hw:wx m=false) {p:Int} (h1:1≤p) (h2:p<m.s.words):qC m.m.w p=hv G w0 (m.m.n-m.s.start).toNat p:=by
 rcases Z.mem.mem p h1 h2 with h |⟨i,c,hc,h5,_⟩
 ·exact h
 ·exfalso;have hc:(m.t[i]?).bind xr=some c:=hc;obtain⟨t,ht,lJ⟩:=Option.bind_eq_some_iff.1 hc;by_cases s1:t.state=1
  ·cases hx:t.now with
   |none=>simp_all[xr]
   |some x=>
    rw[YM s1 hx]at lJ;unfold gQ at lJ;by_cases h6:x.state=6
    ·rw[iJ h6]at lJ;have A:=((Z.t i t ht).a s1 x hx).ai;have J:=A.c h6 c lJ;have hp:=(A.lk.c h6 c lJ).2;have A7:qM x=true:=by
      rw[yn omQ lJ,J.wg.2 (.inl h5),iG hp];rfl
     have mf:vC t=true:=by simp_all[vC,iG]
     have:=List.any_eq_false.1 hw t (List.mem_of_getElem? ht);grind
    grind
  grind[YS]
end
section
variable {S:jD} {w0:List Int} {E F:Env} {G:gS} {i:Nat} {x y:qr} {t:qe} {r:xB} {d p:Int} {m:yj} {o:dC} {a:cx}
theorem wN (hf:nJ t):qH t=t.af:=by
 by_cases h1:t.state=1
 ·unfold qH
  split
  ·rename_i x hx;obtain⟨_,_,_,e⟩:=hf h1 x hx;rw[iQ (λh=>by have h2:=h.2;rw[e]at h2;cases h2),List.append_nil]
  simp
 grind[Jj]
theorem qw6 {k e:Int}:(xd x k e).state≠8:=by
 unfold xd
 split
 ·nofun
 split
 ·nofun
 split
 ·nofun
 split
 all_goals nofun
theorem SJ (h6:x.state≤6):(jZ x).state≠8:=by
 unfold jZ;rw[Gc.1]
 split
 ·omega
 split
 ·nofun
 unfold jF
 split
 ·unfold jh
  split
  ·nofun
  split
  ·exact qw6
  split
  all_goals nofun
 split
 ·nofun
 split
 ·nofun
 split
 ·nofun
 grind
theorem SN (h6:x.state≤6) (ha:a.err=0):(qS x a).state≠8:=by
 unfold qS;rw[iQ omQ,iQ (λh=>h ha)]
 split
 ·simp
 split
 ·simp
 split
 ·exact qw6
 rw[iQ omQ]
 grind[SJ,jE,qp,je]
theorem qvf (K:kC m) (Z:X6 w0 m G) (ht:m.t[i]? =some t) (hn:zO t=some o) :
  ∀(b:Nat) (r':xB),(qH (ql t (qL m.m o).1 d p))[b]? =some r'→jT r'→(∃r,(qH t)[b]? =some r∧jT r∧r.aa=r'.aa)∨(G (r'.aa-m.s.start).toNat=[]∧b=t.af.length):=by
 obtain⟨O,W,L⟩:=K.t i t ht;have hi:=(List.getElem?_eq_some_iff.1 ht).1;have sZ:i<4:=by have:=K.len;have:=K.th;omega
 have hs:(i:Int)<(xO m G).M.s.length:=by have:=Z.len;show(i:Int)<m.m.s.length;omega
 have T:=Z.t i t ht;have DA:(xO m G).C i=xr t:=by show(m.t[i]?).bind xr=_;grind
 by_cases h1:t.state=1
 ·obtain⟨x,hx⟩:∃x,t.now=some x:=by
   cases h:t.now with
   |none=>exact absurd h (O.c omQ).some
   |some x=>simp
  have OA:=((O.c omQ).now x hx).1;have bW:zT x=some o:=by simp_all[zO]
  have lE:=(Ql K.r (wI O W hn)).1;have A:=T.a h1 x hx;have hC:(xO m G).C i=gQ x:=DA.trans (YM h1 hx);have ha:(qL m.m o).1.err=0:=A.ai.err Z.mem OA sZ hs bW;obtain⟨G',-,-,-,-,s5⟩:=A.ai.step K.so Z.mem OA sZ hs hC bW lE;have s5:qM (qS x (qL m.m o).1)=true→(∃c,(xO m G).C i=some c∧bU c)∨G ((qS x (qL m.m o).1).aa-m.s.start).toNat=[]:=s5;have on:=λhw=>V9 A.ai OA A.w7 hw ha;have bZ:=OA.st;have h8:x.state≠8:=λh=>by
   simp_all[zT,omQ]
  have n8:=λh6=>SN (x:=x) (a:=(qL m.m o).1) h6 ha;have e7:x.state=7→qS x (qL m.m o).1={ x with state:=8 }:=λh=>by
   unfold qS;grind
  have et:ql t (qL m.m o).1 d p=xz t x (qS x (qL m.m o).1) d p:=by simp_all[ql]
  rw[et];generalize qL m.m o=q at*;generalize qS x q.1=y at*;have ax:qM x=true→y.aa=x.aa→∀r':xB,r'.aa=y.aa→jz x.v.lv≠[]→∃r,(qH t)[t.af.length]? =some r∧jT r∧r.aa=r'.aa:=λhw hs r' hr cg=>by
   have h2:2≤x.state:=by
    by_cases h5:x.state≤5
    ·rw[jm (OA.c0 h5)]at hw;grind
    grind
   refine⟨jJ t x 0,?_,vh.2 ⟨.inl hw,cg⟩,by rw[hr,hs];rfl⟩;unfold qH;rw[hx];dsimp only;rw[iJ ⟨h1,A.bg.2 h2⟩,List.getElem?_append_right (Nat.le_refl _),Nat.sub_self];rfl
  have left:∀(b:Nat) (r':xB),b<t.af.length→t.af[b]? =some r'→jT r'→∃r,(qH t)[b]? =some r∧jT r∧r.aa=r'.aa:=λb r' hb hr hw=>⟨r',by grind[qH,List.getElem?_append_left],hw,rfl⟩
  unfold xz;dsimp only;by_cases he:jK y=0
  ·rw[iJ he];generalize hu:({ t with now:=some y,born:=if y.begun=true∧x.begun=false then p else t.born }:qe)=u;have e:qH u=t.af++if y.begun=true then[jJ u y 0]else[]:=by
    subst hu;simp_all[qH]
   intro b r' hb hw;rw[e]at hb;by_cases aw:b<t.af.length
   ·grind
   ·rw[List.getElem?_append_right omQ]at hb;by_cases o8:y.begun=true
    ·rw[iJ o8]at hb;obtain⟨q1,q2⟩:=List.getElem?_eq_some_iff.1 hb;have oL:b=t.af.length:=by
      grind
     subst oL;have er:jJ u y 0=r':=by grind
     subst er;obtain⟨w1,w2⟩:=vh.1 hw;have hwy:qM y=true:=by
      rcases w1 with w1 |⟨g1,g2⟩
      ·grind
      simp_all[jK]
     rcases s5 hwy with⟨c,c1,c2⟩ |g
     ·rw[hC]at c1;unfold gQ at c1;by_cases h6:x.state=6
      ·rw[iJ h6]at c1;have J:=A.ai.c h6 c c1;have hp:=(A.ai.lk.c h6 c c1).2;have A7:qM x=true:=by
        rw[yn h8 c1,J.wg.2 c2,iG hp];rfl
       obtain⟨v1,v2,_⟩:=on A7;exact .inl (ax A7 v2 _ rfl (by grind))
      grind
     ·exact .inr ⟨g,rfl⟩
    grind
  ·rw[iQ he];have y8:y.state=8:=by
    unfold jK at he
    grind
   have x7:x.state=7:=by
    grind
   have ey:=e7 x7;intro b r' hb hw;generalize hu:({ t with now:=some y,born:=if y.begun=true∧x.begun=false then p else t.born }:qe)=u at hb;have up:u.af=t.af:=by grind
   rw[wN Kf,QX,up]at hb;by_cases aw:b<t.af.length
   ·grind
   ·rw[List.getElem?_append_right omQ]at hb;obtain⟨q1,q2⟩:=List.getElem?_eq_some_iff.1 hb;have oL:b=t.af.length:=by
     grind
    subst oL;rw[Nat.sub_self]at hb;have er:jJ u y p=r':=Option.some.inj hb;subst er;obtain⟨w1,w2⟩:=vh.1 hw;have hf:y.fin=2:=by
     simp_all[qM,iV]
    rw[ey]at hf w2;have A7:qM x=true:=(A.w7 x7).2 ⟨hf,w2⟩;exact .inl (ax A7 (by rw[ey]) _ rfl w2)
 ·have N:nJ (ql t (qL m.m o).1 d p)∧(ql t (qL m.m o).1 d p).af=t.af:=by
   unfold ql;rw[iQ h1]
   split
   ·split
    ·exact⟨ku h1,rfl⟩
    ·exact⟨VL,(ww _ _).af⟩
   ·split
    ·exact⟨Z2 (by grind),(Q2 _).af⟩
    ·exact⟨ku h1,rfl⟩
  intro b r' hb hw;rw[wN N.1,N.2]at hb;rw[Jj h1];grind
end
section
variable {S:jD} {w0:List Int} {E F:Env} {G:gS} {i k:Nat} {t v':qe} {d p:Int} {m:yj} {o:dC}
theorem GQ (hv:(jn m i d).t[k]? =some v'):∃v,m.t[k]? =some v∧((k≠i∧(v'=v∨∃a b,v'=jN v a b))∨(k=i∧((zO v=none∧v'=qs v)∨∃o,zO v=some o∧v'=ql v (qL m.m o).1 d (m.aA+1)))):=by
 unfold jn at hv;cases ht:m.t[i]? with
 |none=>grind
 |some t=>
  rw[ht]at hv;have hi:=(List.getElem?_eq_some_iff.1 ht).1;have eM:∀(u:qe),(m.t.set i u)[i]? =some u:=λu=>by grind
  have dO:∀(u:qe) {k:Nat},k≠i→(m.t.set i u)[k]? =m.t[k]?:=λu k hk=>by grind
  dsimp only at hv;cases hn:zO t with
  |none=>
   grind
  |some o=>
   rw[hn]at hv;have hv:(if o.kind=5 then xl (m.t.set i (ql t (qL m.m o).1 d (m.aA+1))) i o.at_ o.lk.1 else m.t.set i (ql t (qL m.m o).1 d (m.aA+1)))[k]? =some v':=hv;by_cases h5:o.kind=5
   ·rw[iJ h5,Xd]at hv;grind
   grind
theorem qXr {s v:Int}:qH (jN t s v)=qH t:=by
 unfold jN
 split
 ·rfl
 ·split
  ·split
   ·rename_i h4;rw[wN vH,(xZ t).af,Jj omQ]
   ·split
    all_goals rfl
  rfl
theorem Md:qH (qs t)=qH t:=by
 by_cases h1:t.state=1
 ·simp_all[qs,omQ]
 ·rw[wN (Ki h1),lF.af,Jj h1]
def uV (m:yj):Prop:=∀(i j:Nat) (t u:qe) (a b:Nat) (r r':xB),m.t[i]? =some t→m.t[j]? =some u→(qH t)[a]? =some r→(qH u)[b]? =some r'→jT r→jT r'→r.aa=r'.aa→i=j∧a=b
theorem qja (K:kC m) (Z:X6 w0 m G) (U:uV m):uV (jn m i d):=by
 have bk:∀(k:Nat) (v':qe),(jn m i d).t[k]? =some v'→∃v,m.t[k]? =some v∧∀(b:Nat) (r':xB),(qH v')[b]? =some r'→jT r'→(∃r,(qH v)[b]? =some r∧jT r∧r.aa=r'.aa)∨(G (r'.aa-m.s.start).toNat=[]∧k=i∧b=v.af.length):=λk v' hv=>by
  obtain⟨v,nX,h⟩:=GQ hv;refine⟨v,nX,λb r' hb hw=>?_⟩;rcases h with⟨_,h⟩ |⟨hk,⟨_,h⟩ |⟨o,hn,h⟩⟩
  ·have e:qH v'=qH v:=by
    grind[qXr]
   grind
  ·rw[h,Md]at hb;grind
  grind[qvf]
 have cI:∀(k:Nat) (v:qe) (b:Nat) (r:xB),m.t[k]? =some v→(qH v)[b]? =some r→jT r→G (r.aa-m.s.start).toNat≠[]:=λk v b r hv hr hw=>by
  have R:=Z.lG K hv (List.mem_of_getElem? hr);have e:G (r.aa-m.s.start).toNat=r.cells:=(R.yes hw).2.2;rw[e];exact hw.2
 intro k1 k2 v1 v2 b1 b2 r1 r2 h1 h2 g1 g2 w1 w2 hs;obtain⟨t1,a1,f1⟩:=bk k1 v1 h1;obtain⟨t2,a2,f2⟩:=bk k2 v2 h2;rcases f1 b1 r1 g1 w1 with⟨q1,c1,d1,e1⟩ |⟨c1,d1,e1⟩<;>rcases f2 b2 r2 g2 w2 with⟨q2,c2,d2,e2⟩ |⟨c2,d2,e2⟩
 ·exact U k1 k2 t1 t2 b1 b2 q1 q2 a1 a2 c1 c2 d1 d2 (by grind)
 all_goals grind
theorem qz3 {s:jD} {jobs:List (List (List qa))}:uV (xP s jobs):=by
 intro i j t u a b r r' ht _ hr;unfold xP at ht;dsimp only at ht;rw[List.getElem?_map]at ht;obtain⟨z,_,e⟩:=Option.map_eq_some_iff.1 ht;have e2:qH t=[]:=by rw[← e];exact(wN vH).trans (xZ _).af
 grind
end
section
variable {S:jD} {w0:List Int} {E F:Env} {G:gS} {i k:Nat} {x y:qr} {c d:jw} {a:cx} {o:dC}
theorem jZE {e:kc} (hp:e.p.fin=0) (ha:a.err=0):((je e a).p.fin=0∨(je e a).p.fin=5)∨((je e a).p.fin=2∧(je e a).aa=if e.bD=false then a.word else e.aa):=by
 unfold je;rw[Yw hp ha,iQ (λh=>by grind)]
 split
 ·unfold Qa
  split
  ·exact .inr ⟨rfl,rfl⟩
  grind
 split
 ·split
  ·exact .inl (.inl (cr.trans hp))
  ·exact .inl (.inr rfl)
 split
 ·exact .inl (.inr rfl)
 ·unfold Qa
  split
  ·exact .inr ⟨rfl,rfl⟩
  grind
theorem uW {k e:Int}:(xd x k e).aa=x.aa:=by
 unfold xd
 repeat' split
 all_goals rfl
theorem qW1:(xp x).aa=x.aa:=by
 have h:(z8 x).2.aa=x.aa:=by
  grind[z8]
 exact uW.trans h
theorem qGM (A:yV S w0 E i x) (O:zH x) (h6:x.state≠6) (h2:2≤x.state) (ha:a.err=0) (hw:x.state=4∨x.state=5→x.e.bD=false→a.word=E.M.n):x.aa≤(qS x a).aa:=by
 have bZ:=O.st;have t:=A.t h2;unfold qS
 split
 ·simp
 rw[iQ (λh=>h ha),iQ omQ,iQ omQ]
 split
 ·simp[qW1]
 split
 ·simp
 have hc:=O.c0 omQ
 split
 ·rename_i h3;unfold jZ
  rw[wy (by
   split
   ·grind[jm]
   split
   ·exact jm hc
   unfold jF;rw[iJ (by grind)];unfold jh
   split
   ·exact jm hc
   split
   ·grind[Km]
   split
   ·exact jm hc
   ·exact jm hc)]
  split
  ·simp
  split
  ·exact Int.le_refl _
  unfold jF;rw[iJ (by grind)];unfold jh
  split
  ·exact Int.le_refl _
  split
  ·simp[qW1]
  split
  ·exact Int.le_refl _
  ·exact Int.le_refl _
 ·rename_i h3;have oW:x.state=4∨x.state=5:=by omega
  have V:=A.e oW;have ef:zA { x with e:=je x.e a }=((je x.e a).p.fin,(je x.e a).p.dj):=by simp_all[zA]
  have H:=jZE (a:=a) V.fin ha;generalize je x.e a=e at*;have key:x.aa≤(if(zA { x with e:=e }).1=0 then{ x with e:=e }else if(zA { x with e:=e }).1=5 then zh { x with e:=e } 5 0 (zA { x with e:=e }).2 else jF { x with e:=e }).aa∧qM (if(zA { x with e:=e }).1=0 then{ x with e:=e }else if(zA { x with e:=e }).1=5 then zh { x with e:=e } 5 0 (zA { x with e:=e }).2 else jF { x with e:=e })=false:=by
   rw[ef];rcases H with(H |H) |⟨H,hs⟩
   ·simp_all[jm]
   ·rw[iQ (by grind),iJ (by grind)];exact⟨Int.le_refl _,jm hc⟩
   ·have he:x.aa≤yC e:=by
     unfold yC;rw[iQ (λh=>h H),hs]
     split
     ·grind
     ·rename_i hl;exact(V.ld (by grind)).1
    rw[iQ (by grind),iQ (by grind)];unfold jF;rw[iQ (by grind)];by_cases h4:x.state=4
    ·rw[iJ (by grind)];exact⟨he,jm hc⟩
    ·rw[iQ (by grind),iJ (by grind)];exact⟨he,jm hc⟩
  grind[jZ,wy]
theorem VC {f e z:Int}:(zP c f e z).writing=c.writing∧(zP c f e z).now=c.now:=by
 unfold zP xw
 grind
theorem qG7 {l:di}:(xn c l).writing=c.writing∧(xn c l).now=c.now:=by
 unfold xn
 split
 ·simp
 simp[VC]
theorem UL:(zp c).now=c.now:=by
 grind[zp,zG,xX]
theorem Mv:∀(n:Nat) (c:jw),(zM c n).now=c.now:=by
 intro n
 induction n with
 |zero=>exact λc=>UL
 |succ n ih=>
  grind[zM,VC,UL]
theorem jKP (hp:c.p.fin=0) (ha:a.err=0) (h4:¬(c.state=5∨c.state=6)) (hw:c.writing=false) (hd:(qp c a).writing=true):(c.state=3∨c.state=4)∧(qp c a).now=c.now:=by
 have no:∀{d:jw},d.writing=c.writing→¬d.writing=true:=λe h=>by grind
 rw[zq hp ha]at hd ⊢
 split at hd
 ·exfalso;revert hd;unfold vV
  split
  ·grind[qG7]
  split
  ·grind
  split
  ·exact no rfl
  grind
 rename_i h01;rw[iQ h01]
 split at hd
 ·rename_i tE;rw[iJ tE];unfold yB at hd ⊢
  split at hd
  ·grind[absurd,VC]
  rename_i g1;rw[iQ g1]
  split at hd
  ·grind
  rename_i g2;rw[iQ g2]
  split at hd
  ·grind
  rename_i g3;rw[iQ g3];refine⟨.inl omQ,?_⟩
  split
  ·exact UL
  ·exact Mv _ _
 rename_i tE;rw[iQ tE]
 split at hd
 ·rename_i g4;rw[iJ g4];refine⟨.inr g4,?_⟩;unfold yQ
  split
  ·simp[qG7]
  split
  ·simp[VC]
  ·exact Mv _ _
 rename_i g4;exfalso;rw[iQ omQ,iQ omQ]at hd;revert hd;unfold xw
 grind
end
section
variable {S:jD} {w0:List Int} {E F:Env} {G:gS} {i k:Nat} {x y:qr} {c d:jw} {a:cx} {o:dC}
theorem Zt:(zp c).writing=true:=by
 grind[zp,zG,xX]
theorem UY {f e z:Int} (hp:c.p.fin=0) (hf:f≠2):(zP c f e z).p.fin≠2:=by grind[O0]
theorem qXN {l:di} (hp:c.p.fin=0):(xn c l).p.fin≠2:=by
 unfold xn
 split
 ·show(jA c.p l).2.fin≠2;grind[cr]
 ·exact UY (c:={ c with p:=(jA c.p l).2 }) (cr.trans hp) od
theorem NJ:∀(n:Nat) (c:jw),c.p.fin=0→(zM c n).writing=true∨(zM c n).p.fin≠2:=by
 intro n
 induction n with
 |zero=>exact λc _=>.inl Zt
 |succ n ih=>
  intro c hp;unfold zM
  split
  ·split
   ·omega
   ·split
    all_goals simp_all[UY,od]
  simp[Zt]
theorem jVO (hp:c.p.fin=0) (ha:a.err=0) (h4:¬(c.state=5∨c.state=6)) (h0:0≤c.state∧c.state≤7) (hf:c.state=7→c.bx≠2):(qp c a).writing=true∨(qp c a).p.fin≠2:=by
 have p2:c.p.fin≠2:=by omega
 rw[zq hp ha]
 split
 ·unfold vV
  split
  ·grind[qXN]
  split
  ·grind
  split
  ·exact .inr p2
  grind
 split
 ·unfold yB
  split
  ·simp_all[UY,od]
  split
  ·grind
  split
  ·grind
  split
  ·simp[Zt]
  ·exact NJ _ _ hp
 split
 ·unfold yQ
  split
  ·grind[qXN]
  split
  ·simp_all[UY,od]
  ·exact NJ _ _ hp
 rw[iQ omQ,iQ omQ];have hf:=hf omQ;unfold xw
 split
 ·exact .inr hf
 grind
structure Sg (x:qr):Prop where
  le:2≤x.state→x.aP≤x.aa
  lt:qM x=true∨(x.state=8∧x.fin=2∧jz x.v.lv≠[])→x.aP<x.aa
theorem Vb {z:qr} (h8:z.state≠8) (hc:z.c=some d) (h:(d.writing=true∧z.aa≤d.now)∨(d.writing=false∧d.p.fin≠2)):z.aa≤(q9 z).aa∧(qM (q9 z)=true→z.aa<(q9 z).aa)∧(q9 z).state≠8:=by
 rcases h with⟨h1,h2⟩ |⟨h1,h2⟩
 ·cases hw:qM z with
  |true=>
   rw[YP hc hw];have:kE d=d.now+1:=by simp_all[kE]
   grind
  |false=>simp_all[wy]
 simp_all[Yi,wy]
theorem jQi (A:yV S w0 E i x) (I:xG S w0 E) (O:zH x) (W:uR x) (SG:Sg x) (hi:i<4) (hs:(i:Int)<E.M.s.length) (hn:zT x=some o):Sg (qS x (qL E.M o).1):=by
 have bZ:=O.st;have ha:=A.err I O hi hs hn;have h8:x.state≠8:=λh=>by
  simp_all[zT,omQ]
 by_cases h6:x.state=6
 ·obtain⟨c,hc⟩:∃c,x.c=some c:=by
   cases h:x.c with
   |none=>exact absurd h (O.c6 h6)
   |some c=>simp
  obtain⟨CL,hp⟩:=A.lk.c h6 c hc;have J:=A.c h6 c hc;have B:=XV (a:=(qL E.M o).1) (x:=x) omQ;have le:=SG.le omQ;cases hw:qM x with
  |true=>obtain⟨_,v2,_⟩:=V9 A O W hw ha;have lt:=SG.lt (.inl hw);exact⟨λ_=>by rw[B.t,v2];grind,λ_=>by rw[B.t,v2];grind⟩
  |false=>
   rw[yn h8 hc,iG hp,Bool.and_true]at hw;have SQ:c.writing=false:=(Bool.or_eq_false_iff.1 hw).1;have nw:¬(c.state=5∨c.state=6):=λh=>by rw[J.wg.2 h]at SQ;grind
   have et:qS x (qL E.M o).1=jZ { x with c:=some (qp c (qL E.M o).1) }:=by simp_all[qS,omQ]
   have n1:=jVO hp ha nw CL.ok.st (λh=>by have:=J.f7 h;omega);have n2:=jKP hp ha nw SQ;rw[et]at B ⊢;generalize qp c (qL E.M o).1=d at*;have hd:(d.writing=true∧x.aa≤d.now)∨(d.writing=false∧d.p.fin≠2):=by
    cases hdw:d.writing with
    |true=>obtain⟨q1,q2⟩:=n2 hdw;exact .inl ⟨rfl,by rw[q2];exact J.sn omQ omQ⟩
    |false=>
     grind
   have key:x.aa≤(jZ { x with c:=some d }).aa∧(qM (jZ { x with c:=some d })=true→x.aa<(jZ { x with c:=some d }).aa)∧(jZ { x with c:=some d }).state≠8:=by
    unfold jZ;rw[Hd h6]
    split
    ·exact Vb (z:={ x with c:=some d }) h8 rfl hd
    split
    ·exact Vb (z:=zh { x with c:=some d } 5 0 d.p.dj) (by nofun) rfl hd
    ·unfold jF;rw[iQ (by grind),iQ (by grind),iQ (by grind)];exact Vb (z:=zh { x with c:=some d } d.p.fin d.p.err (-1)) (by nofun) rfl hd
   obtain⟨k1,k2,k3⟩:=key;have bt:(jZ { x with c:=some d }).aP=x.aP:=B.t;refine⟨λ_=>by grind,λh=>?_⟩;grind
 ·have K:=A.Du I O hs h6 hn;have tw:=qZ6 (a:=(qL E.M o).1) O h6;by_cases s7:x.state=7
  ·have e7:qS x (qL E.M o).1={ x with state:=8 }:=by
    simp_all[qS,omQ]
   rw[e7]at tw ⊢;refine⟨λ_=>SG.le omQ,λh=>?_⟩;rcases h with h |h
   ·grind
   ·exact SG.lt (.inl ((W s7).2 ⟨h.2.1,h.2.2⟩))
  have t8:=SN (x:=x) (a:=(qL E.M o).1) omQ ha;refine⟨λh2=>?_,λh=>?_⟩
  ·by_cases s1:2≤x.state
   ·have B:=XV (a:=(qL E.M o).1) (x:=x) s1;have:=qGM A O h6 s1 ha K.dR;have:=SG.le s1;rw[B.t];omega
   ·revert h2;unfold qS;grind
  grind
end
section
variable {w0:List Int} {G:gS} {i k:Nat} {x y:qr} {t v':qe} {d p:Int} {m:yj} {o:dC}
structure SR (m:yj) (r:xB):Prop where
  le:r.aP≤r.aa
  lt:jT r→r.aP<r.aa
  born:r.born≤m.aA
  ended:r.ended≤m.aA
  be:0<r.ended→r.born≤r.ended
  n:r.aP≤m.m.n
structure Me (m:yj):Prop where
  sg:∀(i:Nat) (t:qe),m.t[i]? =some t→t.state=1→∀x,t.now=some x→Sg x
  lV:∀(i:Nat) (t:qe) (b:Nat) (r:xB),m.t[i]? =some t→(qH t)[b]? =some r→SR m r
  pair:∀(i j:Nat) (t u:qe) (b c:Nat) (r r':xB),m.t[i]? =some t→m.t[j]? =some u→(qH t)[b]? =some r→(qH u)[c]? =some r'→0<r.ended→r.ended<r'.born→r.aa≤r'.aP
def Cv (m:yj) (t:qe) (p:Int) (b:Nat) (r':xB):Prop :=
 (qH t)[b]? =some r'∨
 ((r'.aP≤r'.aa∧(jT r'→r'.aP<r'.aa))∧
  ((∃r,(qH t)[b]? =some r∧r.born=r'.born∧r.aP=r'.aP∧(r'.ended=0∨r'.ended=p))∨(r'.born=p∧r'.aP=m.m.n∧r'.ended=0)))
theorem qz8 {y:qr} {u:qe} {q:Int} (S:Sg y) (h2:2≤y.state):(jJ u y q).aP≤(jJ u y q).aa∧(jT (jJ u y q)→(jJ u y q).aP<(jJ u y q).aa):=by
 refine⟨S.le h2,λhw=>S.lt ?_⟩;grind[vh]
theorem qvD (K:kC m) (Z:X6 w0 m G) (KR:Me m) (ht:m.t[i]? =some t) (hn:zO t=some o) :
  (∀(b:Nat) (r':xB),(qH (ql t (qL m.m o).1 d p))[b]? =some r'→Cv m t p b r')∧
   ((ql t (qL m.m o).1 d p).state=1→∀x,(ql t (qL m.m o).1 d p).now=some x→Sg x):=by
 obtain⟨O,W,L⟩:=K.t i t ht;have hi:=(List.getElem?_eq_some_iff.1 ht).1;have sZ:i<4:=by have:=K.len;have:=K.th;omega
 have hs:(i:Int)<(xO m G).M.s.length:=by have:=Z.len;show(i:Int)<m.m.s.length;omega
 have T:=Z.t i t ht
 have s0:∀{me:Int} {S:jD} {j:wc},Sg (K4 me S j):=λ{me S j}=>⟨λh=>absurd h (by nofun),λh=>by
  rcases h with h |h
  ·trivial
  ·exact absurd h.1 (by nofun)⟩
 have fresh:∀u:qe,nJ u→u.state=1→∀x,u.now=some x→Sg x:=λu hf h1 x hx=>by
  obtain⟨_,_,_,e⟩:=hf h1 x hx;grind
 by_cases h1:t.state=1
 ·obtain⟨x,hx⟩:∃x,t.now=some x:=by
   cases h:t.now with
   |none=>exact absurd h (O.c omQ).some
   |some x=>simp
  have OA:=((O.c omQ).now x hx).1;have bW:zT x=some o:=by simp_all[zO]
  have A:=T.a h1 x hx;have ha:(qL m.m o).1.err=0:=A.ai.err Z.mem OA sZ hs bW;have SG:=jQi (E:=xO m G) A.ai Z.mem OA A.w7 (KR.sg i t ht h1 x hx) sZ hs bW;rw[show(xO m G).M=m.m from rfl]at SG;have BG:=Zb A.bg OA.st.1 ha;have bZ:=OA.st;have h8:x.state≠8:=λh=>by
   simp_all[zT,omQ]
  have n8:=λh6=>SN (x:=x) (a:=(qL m.m o).1) h6 ha;have bb:=λh2=>XV (a:=(qL m.m o).1) (x:=x) h2;have e0:x.state=0→qS x (qL m.m o).1={ x with state:=1 }:=λh=>by
   simp_all[qS]
  have e1:x.state=1→(qS x (qL m.m o).1).aP=m.m.n:=λh=>by
   have K1:(qL m.m o).1.word=m.m.n:=(A.ai.Du Z.mem OA hs omQ bW).h1 h;simp_all[qS,omQ]
  have et:ql t (qL m.m o).1 d p=xz t x (qS x (qL m.m o).1) d p:=by simp_all[ql]
  rw[et];generalize qL m.m o=q at*;generalize qS x q.1=y at*;have ax:x.begun=true→(qH t)[t.af.length]? =some (jJ t x 0):=λhb=>by
   simp_all[qH,Nat.sub_self]
  have left:∀(b:Nat) (r':xB),b<t.af.length→t.af[b]? =some r'→Cv m t p b r':=λb r' hb hr=>.inl (by grind[qH,List.getElem?_append_left])
  unfold xz;dsimp only;by_cases he:jK y=0
  ·rw[iJ he];generalize hu:({ t with now:=some y,born:=if y.begun=true∧x.begun=false then p else t.born }:qe)=u;have ub:u.born=if y.begun=true∧x.begun=false then p else t.born:=by grind
   have un:u.now=some y:=by grind
   have e:qH u=t.af++if y.begun=true then[jJ u y 0]else[]:=by
    subst hu;simp_all[qH]
   refine⟨λb r' hb=>?_,λ_ z hz=>by grind⟩;rw[e]at hb;by_cases aw:b<t.af.length
   ·grind
   ·rw[List.getElem?_append_right omQ]at hb;by_cases o8:y.begun=true
    ·rw[iJ o8]at hb;obtain⟨q1,q2⟩:=List.getElem?_eq_some_iff.1 hb;have oL:b=t.af.length:=by
      grind
     subst oL;rw[Nat.sub_self]at hb;have er:jJ u y 0=r':=Option.some.inj hb;subst er;have y2:=BG.1 o8;refine .inr ⟨qz8 SG y2,?_⟩;cases s9:x.begun with
     |true=>refine .inl ⟨_,ax s9,?_,(bb (A.bg.1 s9)).t.symm,.inl rfl⟩;show t.born=u.born;grind
     |false=>
      have x1:¬2≤x.state:=λh=>by rw[A.bg.2 h]at s9;grind
      have xs:x.state=1:=by
       grind
      refine .inr ⟨?_,e1 xs,rfl⟩;show u.born=p;grind
    grind
  ·rw[iQ he];have y8:y.state=8:=by
    unfold jK at he
    grind
   have x7:x.state=7:=by
    grind
   have s9:=A.bg.2 omQ;refine⟨λb r' hb=>?_,fresh _ Kf⟩;generalize hu:({ t with now:=some y,born:=if y.begun=true∧x.begun=false then p else t.born }:qe)=u at hb;have up:u.af=t.af:=by grind
   have ub:u.born=t.born:=by grind
   rw[wN Kf,QX,up]at hb;by_cases aw:b<t.af.length
   ·grind
   ·rw[List.getElem?_append_right omQ]at hb;obtain⟨q1,q2⟩:=List.getElem?_eq_some_iff.1 hb;have oL:b=t.af.length:=by
     grind
    subst oL;rw[Nat.sub_self]at hb;have er:jJ u y p=r':=Option.some.inj hb;subst er;exact .inr ⟨qz8 SG omQ,.inl ⟨_,ax s9,ub.symm,(bb omQ).t.symm,.inr rfl⟩⟩
 ·have N:nJ (ql t (qL m.m o).1 d p)∧(ql t (qL m.m o).1 d p).af=t.af:=by
   unfold ql;rw[iQ h1]
   split
   ·split
    ·exact⟨ku h1,rfl⟩
    ·exact⟨VL,(ww _ _).af⟩
   ·split
    ·exact⟨Z2 (by grind),(Q2 _).af⟩
    ·exact⟨ku h1,rfl⟩
  refine⟨λb r' hb=>?_,fresh _ N.1⟩;rw[wN N.1,N.2]at hb;exact .inl (by grind[Jj])
end
section
variable {w0:List Int} {G:gS} {i k:Nat} {x y:qr} {t v':qe} {d p:Int} {m:yj} {o:dC}
theorem sg0 {me:Int} {S:jD} {j:wc}:Sg (K4 me S j):=⟨λh=>absurd h (by nofun),λh=>by
 rcases h with h |h
 ·trivial
 ·exact absurd h.1 (by nofun)⟩
theorem NS (hf:nJ t):t.state=1→∀x,t.now=some x→Sg x:=λh1 x hx=>by
 obtain⟨_,_,_,e⟩:=hf h1 x hx;grind[sg0]
theorem jQn {s v:Int} (h:t.state=1→∀x,t.now=some x→Sg x):(jN t s v).state=1→∀x,(jN t s v).now=some x→Sg x:=by
 grind[jN,NS,vH]
theorem qqo (h:t.state=1→∀x,t.now=some x→Sg x):(qs t).state=1→∀x,(qs t).now=some x→Sg x:=by
 by_cases h1:t.state=1
 ·simp_all[qs,omQ]
 grind[NS,Ki]
theorem qYf (K:kC m) (Z:X6 w0 m G) (KR:Me m) (hi:i<m.t.length) (hd:0≤d) (hp:0≤m.aA):Me (jn m i d):=by
 obtain⟨_,_,kp,kn,_⟩:=QB K hi hd;have bk:∀(k:Nat) (v':qe),(jn m i d).t[k]? =some v'→∃v,m.t[k]? =some v∧(∀(b:Nat) (r':xB),(qH v')[b]? =some r'→Cv m v (m.aA+1) b r')∧(v'.state=1→∀x,v'.now=some x→Sg x):=λk v' hv=>by
  obtain⟨v,nX,h⟩:=GQ hv;have S0:=KR.sg k v nX;refine⟨v,nX,?_⟩;rcases h with⟨_,h⟩ |⟨hk,⟨_,h⟩ |⟨o,hn,h⟩⟩
  ·rcases h with h |⟨s,z,h⟩
   ·rw[h];exact⟨λb r' hb=>.inl hb,S0⟩
   ·rw[h];exact⟨λb r' hb=>.inl (by grind[qXr]),jQn S0⟩
  ·rw[h];exact⟨λb r' hb=>.inl (by grind[Md]),qqo S0⟩
  grind[qvD]
 refine⟨λk v' hv=>?_,λk v' b r' hv hr=>?_,λk1 k2 v1 v2 b1 b2 r1 r2 h1 h2 g1 g2 he hb=>?_⟩
 ·grind
 ·obtain⟨v,nX,h,_⟩:=bk k v' hv;rcases h b r' hr with h |⟨⟨l1,l2⟩,⟨r,q1,q2,q3,q4⟩ |⟨q1,q2,q3⟩⟩
  ·have R:=KR.lV k v b r' nX h;exact⟨R.le,R.lt,by have:=R.born;omega,by have:=R.ended;omega,R.be,Int.le_trans R.n kn⟩
  ·have R:=KR.lV k v b r nX q1;have a1:=R.born;have a2:=R.n;exact⟨l1,l2,by omega,by omega,λh=>by omega,by omega⟩
  ·exact⟨l1,l2,by omega,by omega,λh=>by omega,by omega⟩
 ·obtain⟨t1,a1,f1,_⟩:=bk k1 v1 h1;obtain⟨t2,a2,f2,_⟩:=bk k2 v2 h2;have Cw:(qH t1)[b1]? =some r1:=by
   rcases f1 b1 r1 g1 with h |⟨_,⟨r,q1,q2,q3,q4⟩ |⟨q1,q2,q3⟩⟩
   ·grind
   ·exfalso;have RA:r2.born≤m.aA+1:=by
     rcases f2 b2 r2 g2 with h |⟨_,⟨r',z1,z2,_⟩ |⟨z1,_⟩⟩
     ·have:=(KR.lV k2 t2 b2 r2 a2 h).born;omega
     ·have:=(KR.lV k2 t2 b2 r' a2 z1).born;omega
     grind
    omega
   grind
  rcases f2 b2 r2 g2 with h |⟨_,⟨r',z1,z2,z3,_⟩ |⟨_,z2,_⟩⟩
  ·exact KR.pair k1 k2 t1 t2 b1 b2 r1 r2 a1 a2 Cw h he hb
  ·rw[← z3];exact KR.pair k1 k2 t1 t2 b1 b2 r1 r' a1 a2 Cw z1 he omQ
  ·rw[z2];exact(Z.lG K a1 (List.mem_of_getElem? Cw)).t.2
theorem qyH {s:jD} {jobs:List (List (List qa))}:Me (xP s jobs):=by
 have oC:∀(i:Nat) (t:qe),(xP s jobs).t[i]? =some t→nJ t∧qH t=[]:=λi t ht=>by
  unfold xP at ht;dsimp only at ht;rw[List.getElem?_map]at ht;obtain⟨a,_,e⟩:=Option.map_eq_some_iff.1 ht;rw[← e];exact⟨vH,(wN vH).trans (xZ _).af⟩
 exact⟨λi t ht=>NS (oC i t ht).1,λi t b r ht hr=>(by grind),λi j t u b c r r' ht _ hr=>by grind⟩
def Hk (a b:xB):Prop:=a.aa<b.aa∨(a.aa=b.aa∧((jT a∧¬jT b)∨((jT a↔jT b)∧a.born<b.born)))
theorem Me.less (KR:Me m) {i j:Nat} {t u:qe} {b c:Nat} {r r':xB} (ht:m.t[i]? =some t) (hu:m.t[j]? =some u) (hr:(qH t)[b]? =some r) (o9:(qH u)[c]? =some r') (he:0<r.ended) (hb:r.ended<r'.born):Hk r r':=by
 have P:=KR.pair i j t u b c r r' ht hu hr o9 he hb;have R:=KR.lV i t b r ht hr;have R':=KR.lV j u c r' hu o9;have l1:=R'.le;have l2:=R'.lt;have l3:=R.be he;by_cases hs:r.aa<r'.aa
 ·exact .inl hs
 ·refine .inr ⟨by omega,?_⟩;grind
end
section
variable {w0:List Int} {G:gS} {start:Int}
instance (r:xB):Decidable (jT r):=by unfold jT;infer_instance
def ga (h:Int→Int) (cs:List Cl):Int→Int:=λp=>(jO p cs).getD (h p)
theorem XT {h:Int→Int}:ga h []=h:=rfl
theorem qVF {h:Int→Int} {cs:List Cl}:ga (ga h cs) cs=ga h cs:=by
 funext p
 unfold ga;cases jO p cs<;>rfl
def K5 (h:Int→Int) (l:List xB):Int→Int:=l.foldl (λh r=>ga h r.cells) h
theorem qj4 {C:List Cl}:∀{l:List xB} {h:Int→Int},l≠[]→(∀r∈l,r.cells=C)→K5 h l=ga h C:=by
 intro l
 induction l with
 |nil=>simp
 |cons a l ih=>
  intro h _ hc;have ha:=hc a (iK ..);have e:K5 h (a::l)=K5 (ga h a.cells) l:=rfl;rw[e,ha];by_cases hl:l=[]
  ·rw[hl];rfl
  simp_all[qVF]
theorem qQ3 {f:xB→Int} {s:Int}:∀{l:List xB},l.Pairwise (λa b=>f a≤f b)→l.filter (λa=>decide (f a≤s+1))=l.filter (λa=>decide (f a≤s))++l.filter (λa=>decide (f a=s+1)):=by
 intro l
 induction l with
 |nil=>simp
 |cons a l ih=>
  intro h;obtain⟨h1,h2⟩:=List.pairwise_cons.1 h;have ih:=ih h2;by_cases c1:f a≤s
  ·rw[List.filter_cons_of_pos (by grind),List.filter_cons_of_pos (by grind),List.filter_cons_of_neg (by grind),ih];rfl
  ·have e:l.filter (λa=>decide (f a≤s))=[]:=List.filter_eq_nil_iff.2 λb hb=>by
    grind
   grind
theorem jJ8 {W:List xB} (hs:W.Pairwise λa b=>a.aa≤b.aa) (h1:∀r∈W,start<r.aa∧G (r.aa-start).toNat=r.cells) (h2:∀k:Nat,G k≠[]→∃r∈W,r.aa=start+k) :
  ∀k:Nat,K5 (qC w0) (W.filter λr=>decide (r.aa≤start+k))=hv G w0 k:=by
 intro k
 induction k with
 |zero=>
  have e:W.filter (λr=>decide (r.aa≤start+(0:Nat)))=[]:=List.filter_eq_nil_iff.2 λr hr=>by
   grind
  rw[e];rfl
 |succ k ih=>
  have e:(λr:xB=>decide (r.aa≤start+((k+1:Nat):Int)))=λr=>decide (r.aa≤(start+k)+1):=by
   grind
  rw[e,qQ3 (f:=λr=>r.aa) hs];have ea:∀(a b:List xB) (h:Int→Int),K5 h (a++b)=K5 (K5 h a) b:=λa b h=>List.foldl_append ..;rw[ea,ih];have hc:∀r∈W.filter (λr=>decide (r.aa=(start+k)+1)),r.cells=G (k+1):=λr hr=>by
   grind
  have en:hv G w0 (k+1)=ga (hv G w0 k) (G (k+1)):=rfl;by_cases hn:W.filter (λr=>decide (r.aa=(start+k)+1))=[]
  ·have g0:G (k+1)=[]:=Classical.byContradiction λh=>by
    obtain⟨r,q1,q2⟩:=h2 (k+1) h;grind
   grind[XT]
  grind[qj4]
theorem jQ0 {L P Q:List xB} {r:xB} (e:L=P++r::Q) (hs:L.Pairwise λa b=>¬Hk b a) (hu:L.Pairwise λa b=>jT a→jT b→a.aa≠b.aa) (h1:∀r∈L,jT r→start<r.aa∧G (r.aa-start).toNat=r.cells) (h2:∀k:Nat,G k≠[]→∃r∈L,jT r∧r.aa=start+k) (h3:start≤r.aa) :
  K5 (qC w0) (P.filter λr=>decide (jT r))=hv G w0 ((if jT r then r.aa-1 else r.aa)-start).toNat:=by
 have le:∀a b:xB,¬Hk b a→a.aa≤b.aa:=λa b h=>by
  by_cases aw:b.aa<a.aa
  ·exact absurd (.inl aw) h
  grind
 have W:=jJ8 (w0:=w0) (start:=start) (G:=G) (W:=L.filter λr=>decide (jT r)) ((hs.imp λh=>le _ _ h).filter _) (λr hr=>h1 r (List.mem_filter.1 hr).1 (by grind)) (λk hk=>by
  grind) ((if jT r then r.aa-1 else r.aa)-start).toNat
 rw[← W]
 congr 1
 have hw3:jT r→start<r.aa:=λh=>(h1 r (by grind) h).1;have hk:start+((((if jT r then r.aa-1 else r.aa)-start).toNat:Nat):Int)=if jT r then r.aa-1 else r.aa:=by
  grind
 rw[hk];rw[e]at hs hu;obtain⟨s1,s2,s3⟩:=List.pairwise_append.1 hs;obtain⟨u1,u2,u3⟩:=List.pairwise_append.1 hu;have s4:=(List.pairwise_cons.1 s2).1;rw[e,List.filter_append,List.filter_append];have p1:(P.filter λr=>decide (jT r)).filter (λa=>decide (a.aa≤if jT r then r.aa-1 else r.aa))=P.filter λr=>decide (jT r):=List.filter_eq_self.2 λa ha=>by
  grind
 have p2:((r::Q).filter λr=>decide (jT r)).filter (λa=>decide (a.aa≤if jT r then r.aa-1 else r.aa))=[]:=List.filter_eq_nil_iff.2 λa ha=>by
  obtain⟨m1,m2⟩:=List.mem_filter.1 ha;have m2:jT a:=by grind
  rcases List.mem_cons.1 m1 with rfl |m1
  ·grind
  ·have n1:=s4 a m1;have l1:=le r a n1;by_cases hw:jT r
   ·grind
   ·rw[iQ hw];have:¬a.aa=r.aa:=λh=>n1 (.inr ⟨h,.inl ⟨m2,hw⟩⟩);grind
 grind
end
section
variable {w0:List Int} {G:gS} {m:yj}
structure Xw (w0:List Int) (m:yj) (G:gS):Prop where
  k:kC m
  z:X6 w0 m G
  u:uV m
  kr:Me m
  p:0≤m.aA
theorem jZd {s:jD} {jobs:List (List (List qa))} (hs:0≤s.start) (hj:∀js∈jobs,∀l∈js,(zi l).2=0∧Quiet l):Xw (xP s jobs).m.w (xP s jobs) λ_=>[] :=
 ⟨VR hs hj,jQb hs hj,qz3,qyH,Int.le_refl _⟩
theorem qvA (A:Xw w0 m G) {i:Nat} {d:Int} (hi:i<m.t.length) (hd:0≤d):∃G',Xw w0 (jn m i d) G':=by obtain⟨K',_,kp,_,_⟩:=QB A.k hi hd;obtain⟨G',Z',_⟩:=qx1 A.k A.z hi hd;have hp:=A.p;exact⟨G',K',Z',qja A.k A.z A.u,qYf A.k A.z A.kr hi hd hp,by omega⟩
theorem qYa {R:xB→xB→Prop} (h:∀(i j:Nat) (t u:qe) (a b:Nat) (r r':xB),m.t[i]? =some t→m.t[j]? =some u→(qH t)[a]? =some r→(qH u)[b]? =some r'→¬(i=j∧a=b)→R r r'):(gj m).Pairwise R:=by
 unfold gj;rw[List.pairwise_flatMap];refine⟨λt ht=>?_,?_⟩
 ·obtain⟨i,hi,e⟩:=List.mem_iff_getElem.1 ht;rw[List.pairwise_iff_getElem];intro a b ha hb nu;exact h i i t t a b _ _ (by grind) (by grind) (iW ha) (iW hb) λhh=>by omega
 ·rw[List.pairwise_iff_getElem];intro i j hi hj p8 x hx y hy;obtain⟨a,ha,ea⟩:=List.mem_iff_getElem.1 hx;obtain⟨b,hb,eb⟩:=List.mem_iff_getElem.1 hy;exact h i j _ _ a b x y (iW hi) (iW hj) (by grind) (by grind) λhh=>by omega
theorem Xw.reads (A:Xw w0 m G) {L P Q:List xB} {r:xB} (hp:L.Perm (gj m)) (hs:L.Pairwise λa b=>¬Hk b a) (e:L=P++r::Q):∀c∈r.reads,c.2=K5 (qC w0) (P.filter λr=>decide (jT r)) c.1:=by
 have lV:∀r∈L,uS m.s w0 (xO m G) r:=λr hr=>by
  obtain⟨t,ht,Cr⟩:=List.mem_flatMap.1 (hp.mem_iff.1 hr);obtain⟨i,hi,et⟩:=List.mem_iff_getElem.1 ht;exact A.z.lG A.k (i:=i) (t:=t) (by grind) Cr
 have hr:r∈L:=by grind
 have R:=lV r hr;have hu:L.Pairwise λa b=>jT a→jT b→a.aa≠b.aa:=by refine(hp.pairwise_iff λ{a b} h w1 w2 hh=>h w2 w1 hh.symm).2 (qYa λi j t u a b r r' h1 h2 h3 h4 cg w1 w2 hh=>cg (A.u i j t u a b r r' h1 h2 h3 h4 w1 w2 hh))
 have F:=jQ0 (w0:=w0) (start:=m.s.start) (G:=G) e hs hu (λq hq hw=>⟨((lV q hq).yes hw).2.1,((lV q hq).yes hw).2.2⟩) (λk hk=>by
  obtain⟨i,t,q,q1,q2,q3,_,q5⟩:=A.z.src k hk
  exact⟨q,hp.mem_iff.2 (List.mem_flatMap.2 ⟨t,List.mem_of_getElem? q1,q2⟩),q3,q5⟩) R.t.1
 intro c hc;rw[F];by_cases hw:jT r
 ·rw[iJ hw];exact((R.yes hw).1 c hc).1
 ·rw[iQ hw];exact(R.no hw c hc).1
theorem Xw.keeps (A:Xw w0 m G) {r r':xB} (hr:r∈gj m) (o9:r'∈gj m) (he:0<r.ended) (hb:r.ended<r'.born):Hk r r':=by
 have at_:∀r∈gj m,∃(i:Nat) (t:qe) (b:Nat),m.t[i]? =some t∧(qH t)[b]? =some r:=λr hr=>by
  obtain⟨t,ht,Cr⟩:=List.mem_flatMap.1 hr;obtain⟨i,hi,et⟩:=List.mem_iff_getElem.1 ht;obtain⟨b,hb,eb⟩:=List.mem_iff_getElem.1 Cr;exact⟨i,t,b,by grind,by grind⟩
 obtain⟨i,t,b,h1,h2⟩:=at_ r hr;obtain⟨j,u,c,h3,h4⟩:=at_ r' o9;exact A.kr.less h1 h3 h2 h4 he hb
end
section
variable {l:List qa} {mt:List Int} {n:Nat} {s s':IM} {V V':VM} {nx:Int} {p x r k:Int}
theorem zX (h:s.pc≠l.length) (e:bK mt s V (qf l s.pc)=⟨0,nx,false,s',V'⟩):jr l mt (n+1) s V=jr l mt n { s' with pc:=nx } V':=by simp_all[JI]
theorem qYA (hp:6≤p∧p≤13):yt 0 p=(p,0):=by simp[yt];omega
theorem wo (hp:6≤p∧p≤13) (h7:qC s.aC 7=0) (hz:32≤V.sz) (hg:YW p V.lv=some x∨(YW p V.lv=none∧jO p V.K=some x)):bK mt s V (8,r,7,p,k)=⟨0,s.pc+1,false,dJ s r x,V⟩:=by
 have e:qn V p=((x,0),V):=by
  unfold qn;grind
 have t:zy s V (8,r,7,p,k)=(0,dJ s r x,V):=by unfold zy;dsimp only;rw[iJ rfl,h7,qYA hp,iJ rfl,e,iJ rfl]
 have d:bK mt s V (8,r,7,p,k)=⟨(zy s V (8,r,7,p,k)).1,s.pc+1,false,(zy s V (8,r,7,p,k)).2.1,(zy s V (8,r,7,p,k)).2.2⟩:=rfl;grind
theorem SU {cs:List Cl} {fs:List Int} (hp:6≤p∧p≤13) (h7:qC s.aC 7=0) (hz:32≤V.sz) (hl:V.lv=[(cs,fs)]) (hm:vO [(cs,fs)]<V.most):bK mt s V (9,7,r,p,k)=⟨0,s.pc+1,false,s,{ V with lv:=[(yo p (qC s.aC r) cs,fs)] }⟩:=by
 have e:zl V [(p,qC s.aC r)]=(0,{ V with lv:=[(yo p (qC s.aC r) cs,fs)] }):=by
  have g:gB V.most [(cs,fs)] [(cs,fs)] [(p,qC s.aC r)]=(0,[(yo p (qC s.aC r) cs,fs)]):=by
   have q:gd V.most [(cs,fs)] p (qC s.aC r)=(0,[(yo p (qC s.aC r) cs,fs)]):=by unfold gd;grind
   unfold gB;dsimp only;rw[q,iJ rfl];rfl
  unfold zl;grind
 have t:zy s V (9,7,r,p,k)=(0,s,{ V with lv:=[(yo p (qC s.aC r) cs,fs)] }):=by unfold zy;dsimp only;rw[iQ od,iJ rfl,h7,qYA hp,iJ rfl,e]
 have d:bK mt s V (9,7,r,p,k)=⟨(zy s V (9,7,r,p,k)).1,s.pc+1,false,(zy s V (9,7,r,p,k)).2.1,(zy s V (9,7,r,p,k)).2.2⟩:=rfl;grind
end
section
variable {mt:List Int} {f sz most:Nat} {a b n x y nd:Int}
def wm (a b n:Int):List qa:=[(8,0,7,a,0),(1,1,0,0,n),(6,2,0,1,0),(13,2,0,5,0),(12,0,0,10,0),(4,0,0,1,0),(9,7,0,a,0),(8,3,7,b,0),(3,3,3,1,0),(9,7,3,b,0)]
def yz (v:Int):List qa:=[(1,0,0,0,v),(9,7,0,9,0)]
theorem qWF {l:List Cl}:jO a ((a,x)::l)=some x:=by unfold jO;simp
theorem UJ {l:List Cl} (h:a≠b):jO b ((a,x)::l)=jO b l:=by simp_all[jO]
end
section
variable {mt:List Int} {f sz most:Nat} {r0 T x nd:Int} {K:List Cl}
def dU:List qa:=[(8,0,7,6,0),(3,1,1,0,0),(8,0,7,7,0),(3,1,1,0,0),(8,0,7,8,0),(3,1,1,0,0),(8,0,7,9,0),(3,1,1,0,0),(8,0,7,10,0),(3,1,1,0,0),(8,0,7,11,0),(3,1,1,0,0),(8,0,7,12,0),(3,1,1,0,0),(8,0,7,13,0),(3,1,1,0,0),(21,1,0,0,0)]
end
section
variable {h:Int→Int} {a b x y n z:Int}
def kH (h:Int→Int):Int:=h 6+h 7+h 8+h 9+h 10+h 11+h 12+h 13
theorem Mf (ha:6≤a∧a≤13):kH (λp=>if a=p then z else h p)=kH h+z-h a:=by
 have c:a=6∨a=7∨a=8∨a=9∨a=10∨a=11∨a=12∨a=13:=by omega
 rcases c with rfl |rfl |rfl |rfl |rfl |rfl |rfl |rfl<;>(simp[kH];omega)
theorem YB {cs:List Cl} (_:jO a cs=none):ga h ((a,z)::cs)=λp=>if a=p then z else ga h cs p:=by
 funext p
 unfold ga;by_cases e:a=p
 ·subst e;rw[qWF,iJ rfl];rfl
 ·rw[UJ e,iQ e]
theorem Z9 (z:Int):∃q,jR .u64 z=z+18446744073709551616*q:=by
 cases z with
 |ofNat k=>exact⟨-((k/18446744073709551616:Nat):Int),by show((k%18446744073709551616:Nat):Int)=(k:Int)+_;omega⟩
 |negSucc k=>exact⟨((k/18446744073709551616:Nat):Int)+1,by show((18446744073709551615-k%18446744073709551616:Nat):Int)=Int.negSucc k+_;omega⟩
theorem qGB {v:Int} (h0:h 9=0):kH (ga h [(9,v)])=kH h+v:=by rw[YB rfl,Mf od,XT,h0];omega
end
end Go.Proofs.YtolpbdncppeohaaGreatDoor
