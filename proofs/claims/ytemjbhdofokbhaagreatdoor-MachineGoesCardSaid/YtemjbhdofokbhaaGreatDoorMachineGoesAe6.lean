/- The abstract executor of the program's form in Lean, shown sound: regions that draw their order: every order; the table's answers are the program's; a row's last step; the caller's cells. -/
import Derived.Test.YtemjbhdofokbhaaGreatDoorMachineGoesAe5
import Derived.ChangeSame
import Derived.ChangeArms
import Derived.ChangeStays
namespace Go.Ae
open Go
structure Cx where
  P:Program
  c:CV
  n:Nat
  ops:Array Oper
  M:PT Nat
  LP:YX→Prop
  HP:Xw→Prop
  F:Nat→Nat→Option AV
  H:Nat→AH
  V:Nat→AV
  W:Nat→Bool
  m0:Mp
  D0:Nat→Prop
  w0:World
  a0:Act
  hc:vJ P c
  tr:Tr P c n ops LP HP F H V W
  st:Stat P ops M
  nI:Rel P m0 D0 (H 0) w0
  gh:∀i,i≤ops.size→Gh P D0 H F i
  mono:∀i,i<ops.size→(H i).nx≤(H (i+1)).nx
  vin:∀i,i<ops.size→bD (Dg D0 H (i+1)) (V i)
  BG:∀i j oi oj,ops[i]? =some oi→ops[j]? =some oj→gB P oi.op=true→zm P oj.op=true→W i=true→W j=true→kw M i j=true→
    ∃a,YZ (ff (F i)) oi.op=some a∧rY a (kJ P oi.op) (V i) (H j) (H (j+1)) (H 0).nx=true
namespace Cx
variable (X:Cx)
def N:Nat:=X.ops.size
def nx (i:Nat):Nat:=(X.H i).nx
def bu (i:Nat):Prop:=∃o,X.ops[i]? =some o∧zm X.P o.op=true
def fN (i:Nat):Option Tmp:=(X.ops[i]?).bind (·.dst)
def DS (s:Nat→Bool):Nat→Prop:=λb=>X.D0 b∨∃i,s i=true∧X.nx i≤b∧b<X.nx (i+1)
def FS (s:Nat→Bool):Nat→Nat→Option AV
 | 0,t=>X.F 0 t
 |i+1,t=>if s i=true∧X.fN i=some t then some (X.V i)else FS s i t
def ins (s:Nat→Bool) (i:Nat):Nat→Bool:=λj=>j==i||s j
variable {X}
theorem lG {i:Nat} (h:i<X.N):∃o,X.ops[i]? =some o:=⟨_,Array.getElem?_eq_getElem h⟩
theorem JN {i:Nat} {o:Oper} (h:X.ops[i]? =some o):i<X.N:=(Array.getElem?_eq_some_iff.1 h).1
theorem dP {i j:Nat} (sB:i≤j) (hj:j≤X.N):X.nx i≤X.nx j:=by
  induction j with
  | zero => grind
  |succ j ih=>
    by_cases h:i=j+1
    · grind
    · exact Nat.le_trans (ih omQ omQ) (X.mono j (by trivial))
theorem VA {o:Op} (h:zm X.P o=false):mi X.P o=.pure∨mi X.P o=.load∨mi X.P o=.fresh:=by
 unfold zm at h;cases hc:mi X.P o<;>simp only[hc]at h<;>simp
 grind
theorem qZb {P:Program} {o:Op} (h:mi P o=.load):MC o=true:=by
 cases o with
 |load t x=>rfl
 |convert s d x=>
  grind[mi]
 |call cl=>
  grind[mi,invoke,builtin]
 |_=>simp only[mi,reduceCtorEq]at h
theorem kind {i:Nat} {o:Oper} (ho:X.ops[i]? =some o) (hh:zm X.P o.op=false) (hw:X.W i=true) :
  X.H (i+1)=X.H i∨∃mk x,C0 mk∧X.V i=mk (X.nx i)∧X.H (i+1)=(X.H i).new x∧∀g,cO X.P X.c o.op (ff (X.F i)) g=some (mk g.nx,g.new x):=by
 have hs:=(X.tr.step i o ho).1.yes hw;rcases VA hh with h |h |h
 ·cases nJ:JP X.P o.op
  ·cases mI:kP X.P o.op
   ·exact .inl (qKD h nJ mI hs).1
   ·exact .inl (Nw mI hs).1
  ·exact .inl (Z0 nJ hs).1
 ·obtain⟨t,x,BH⟩:=GZ (qZb h);rw[BH]at hs;exact .inl (NU hs).1
 ·obtain⟨mk,x,h1,h2,h3,h4⟩:=Ol h hs;exact .inr ⟨mk,x,h1,h2,h3,h4⟩
theorem vT {i j:Nat} (sB:i≤j) (hj:j≤X.N) (hn:∀k,i≤k→k<j→¬(X.bu k∧X.W k=true)):∀b,b<X.nx i→(X.H j).get b=(X.H i).get b:=by
  induction j with
  | zero => grind
  |succ j ih=>
    intro b hb;by_cases h:i=j+1
    · grind
    · have:=ih omQ omQ (λk h1 h2=>hn k h1 omQ) b hb;rw[← this];obtain⟨o,ho⟩:=X.lG (show j<X.N by omega);cases hw:X.W j
      · rw[((X.tr.step j o ho).1.no hw).2]
      · have hh:zm X.P o.op=false:=by
          cases hh:zm X.P o.op
          · rfl
          · exact absurd ⟨⟨o,ho,hh⟩,hw⟩ (hn j omQ omQ)
        rcases kind ho hh hw with e |⟨mk,x,_,_,e,_⟩
        · rw[e]
        · rw[e];have:X.nx i≤X.nx j:=dP omQ omQ;exact AH.cg _ _ (by unfold nx at*;omega)
theorem Ys {s:Nat→Bool} (down:∀i o,s i=true→X.ops[i]? =some o→∀e∈o.after,Va e=true→s e.on=true) (sN:∀i,s i=true→i<X.N) :
  ∀i k,s i=true→(xj X.M i).testBit k=true→s k=true:=by
 intro i
 induction i using Nat.strongRecOn with
 |_ i ih=>
  intro k hs hk;obtain⟨o,ho⟩:=X.lG (sN i hs);obtain⟨e,he,hb,ax,hk⟩:=X.st.pZ i o k ho hk;grind
theorem qWo {i k:Nat} {o:Oper} (ho:X.ops[i]? =some o) (hk:(xj X.M i).testBit k=true):k<i:=by
 induction i using Nat.strongRecOn generalizing o with
 |_ i ih=>
  obtain⟨e,he,hb,ax,hk⟩:=X.st.pZ i o k ho hk;grind
structure ei (X:Cx) (s:Nat→Bool) (i:Nat) (o:Oper):Prop where
  ho:X.ops[i]? =some o
  un:s i=false
  pA:∀e∈o.after,Va e=true→s e.on=true
  down:∀i o,s i=true→X.ops[i]? =some o→∀e∈o.after,Va e=true→s e.on=true
  sN:∀i,s i=true→i<X.N
variable {s:Nat→Bool} {i:Nat} {o:Oper}
theorem ei.pZ (r:ei X s i o) {k:Nat} (hk:(xj X.M i).testBit k=true):s k=true:=by
 obtain⟨e,he,hb,ax,hk⟩:=X.st.pZ i o k r.ho hk;have EM:=r.pA e he hb;rcases hk with rfl |hk
 ·grind
 ·exact Ys r.down r.sN _ k EM hk
theorem ei.later (r:ei X s i o) {k:Nat} (hk:s k=true):(xj X.M k).testBit i=false:=by
 cases h:(xj X.M k).testBit i
 ·rfl
 ·have:=Ys r.down r.sN k i hk h;rw[r.un]at this;grind
theorem ei.reads (r:ei X s i o) {t:Nat} (ht:(looks X.ops.toList o).testBit t=true):∀k,k≤X.N→X.FS s k t=X.F (min k i) t:=by
 intro k
 induction k with
 |zero=>simp[FS]
 |succ k ih=>
  intro hk;have ihk:=ih omQ;obtain⟨ok,dX⟩:=X.lG (show k<X.N by omega);have sD:X.fN k=ok.dst:=by grind[fN]
  simp only[FS];rw[sD];by_cases rL:k<i
  ·rw[show min (k+1) i=k+1 by omega];rw[show min k i=k by omega]at ihk;rw[(X.tr.step k ok dX).2];unfold cP;by_cases hd:ok.dst=some t
   ·rw[iJ hd];have EN:=X.st.apart k i ok o rL dX r.ho;have oH:s k=true:=by
     rcases EN with h |⟨h,_⟩
     ·exact r.pZ h
     ·have:=Mx h t (by grind[Xn]);grind
    grind
   grind
  ·rw[show min (k+1) i=i by omega];rw[show min k i=i by omega]at ihk;rw[iQ,ihk];rintro⟨oH,hd⟩;have bJ:k≠i:=λe=>by subst e;rw[r.un]at oH;grind
   have EN:=X.st.apart i k o ok omQ r.ho dX;rcases EN with h |⟨_,h⟩
   ·rw[r.later oH]at h;grind
   grind[Mx,Xn]
theorem ei.read (r:ei X s i o) {t:Nat} (ht:(looks X.ops.toList o).testBit t=true):X.FS s X.N t=X.F i t:=by rw[r.reads ht _ (Nat.le_refl _),show min X.N i=i by have:=JN r.ho;omega]
theorem ei.write (r:ei X s i o) (t:Nat):X.FS (ins s i) X.N t=if o.dst=some t then some (X.V i)else X.FS s X.N t:=by
 have hdi:X.fN i=o.dst:=by unfold fN;rw[r.ho];rfl
 have key:∀k,k≤X.N→X.FS (ins s i) k t=if i<k∧o.dst=some t then some (X.V i)else X.FS s k t:=by
  intro k
  induction k with
  |zero=>simp[FS]
  |succ k ih=>
   intro hk;have ihk:=ih omQ;simp only[FS];by_cases rL:k=i
   ·simp_all[ins]
   ·have h1:ins s i k=s k:=by grind[ins]
    rw[h1,ihk];by_cases hc:s k=true∧X.fN k=some t
    ·rw[iJ hc];by_cases h2:i<k+1∧o.dst=some t
     ·exfalso;obtain⟨ok,dX⟩:=X.lG (show k<X.N by omega);have hdk:ok.dst=some t:=by grind[fN]
      have EN:=X.st.apart i k o ok omQ r.ho dX;rcases EN with h |⟨h,_⟩
      ·rw[r.later hc.1]at h;grind
      ·have:=Mx h t (by grind[Xn]);simp_all[Nat.testBit_or,Xn]
     grind
    grind
 rw[key _ (Nat.le_refl _)];have:=JN r.ho;grind
theorem jVr (hs:∀i,i<X.N→s i=true):∀k,k≤X.N→X.FS s k=X.F k:=by
 intro k
 induction k with
 |zero=>intro _;rfl
 |succ k ih=>
  intro hk;obtain⟨o,ho⟩:=X.lG (show k<X.N by omega)
  funext t
  simp only[FS];rw[ih omQ,(X.tr.step k o ho).2];have sD:X.fN k=o.dst:=by grind[fN]
  unfold cP;grind
theorem jJr (hs:∀i,s i=false):∀k,X.FS s k=X.F 0:=by
 intro k
 induction k with
 |zero=>rfl
 |succ k ih=>simp_all[FS]
end Cx
end Go.Ae
namespace Go.Ae
open Go
namespace Cx
variable {X:Cx} {s:Nat→Bool} {i q:Nat} {o:Oper} {a:Act} {w w':World} {m m':Mp} {C:AH}
structure Inv (X:Cx) (s:Nat→Bool) (q:Nat) (a:Act) (w:World) (m:Mp) (C:AH):Prop where
  qN:q≤X.N
  hq:q<X.N→X.bu q
  hs:∀i,X.bu i→(s i=true↔i<q)
  sN:∀i,s i=true→i<X.N
  down:∀i o,s i=true→X.ops[i]? =some o→∀e∈o.after,Va e=true→s e.on=true
  rl:Rel0 X.P m (X.DS s) C w
  sF:X.nx X.N≤C.nx
  i1:∀b,X.DS s b→b<X.nx q→C.get b=(X.H q).get b
  i2:∀i,q≤i→s i=true→∀b,X.nx i≤b→b<X.nx (i+1)→C.get b=(X.H (i+1)).get b
  i3:∀i,i<q→s i=false→∀b,X.nx i≤b→b<X.nx (i+1)→(X.H q).get b=(X.H (i+1)).get b
  map:∀b,X.D0 b→m b=X.m0 b
  size:X.w0.heap.size≤w.heap.size
  keep:∀c,c<X.w0.heap.size→¬own X.m0 X.D0 (X.H 0) c→w.heap[c]? =X.w0.heap[c]? ∧¬own m (X.DS s) C c
  os:w.os=X.w0.os
  tape:w.tape=X.w0.tape
  output:w.output=X.w0.output
  AM:X.n≤a.tmps.size
  slot:∀t v,X.FS s X.N t=some v→a.tmps[t]? =some (cv m v)∧bD (X.DS s) v
  df:a.defers=X.a0.defers
theorem qyc {P:Program} {m0 m:Mp} {D0 D:Nat→Prop} {h0 h:AH} {w0 w:World} (r:Aw P m0 D0 h0 w0)
  (keep:∀c,c<w0.heap.size→¬own m0 D0 h0 c→w.heap[c]? =w0.heap[c]? ∧¬own m D h c):Aw P m D h w:=λp hp=>by
 obtain⟨g,h1,h2,h3⟩:=r p hp;grind[KK]
theorem Inv.rel (I:Inv X s q a w m C):Rel X.P m (X.DS s) C w:=⟨I.rl,qyc X.nI.gl I.keep⟩
theorem Xq {b:Nat} (h:X.D0 b):b<X.nx 0:=X.nI.lt b h
theorem mJ {b:Nat}:X.DS (ins s i) b↔X.DS s b∨(X.nx i≤b∧b<X.nx (i+1)):=by
 unfold DS ins;grind
theorem Vt {b:Nat} (h:X.DS s b):X.DS (ins s i) b:=mJ.2 (.inl h)
theorem jX0 (sN:∀i,s i=true→i<X.N) {b:Nat} (h:X.DS s b):b<X.nx X.N:=by
 rcases h with h |⟨j,hj,_,h⟩
 ·exact Nat.lt_of_lt_of_le (Xq h) (dP (Nat.zero_le _) (Nat.le_refl _))
 ·exact Nat.lt_of_lt_of_le h (dP (sN j hj) (Nat.le_refl _))
theorem qwT (sN:∀i,s i=true→i<X.N) (hi:i<X.N) (un:s i=false) {b:Nat} (h1:X.nx i≤b) (h2:b<X.nx (i+1)):¬X.DS s b:=by
 rintro(h |⟨j,hj,h3,h4⟩)
 ·have:=Xq h;have:=dP (X:=X) (Nat.zero_le i) omQ;omega
 ·have:=sN j hj;rcases Nat.lt_trichotomy j i with ax |rfl |BI
  ·have:=dP (X:=X) (show j+1≤i by omega) omQ;omega
  ·grind
  ·have:=dP (X:=X) (show i+1≤j by omega) omQ;omega
theorem Re (sN:∀i,s i=true→i<X.N) {b:Nat} (h:X.DS s b) (hb:b<X.nx q):Dg X.D0 X.H q b:=by
 rcases h with h |⟨j,hj,h3,h4⟩
 ·exact .inl h
 ·refine .inr ⟨?_,hb⟩;have:=dP (X:=X) (Nat.zero_le j) (Nat.le_of_lt (sN j hj));exact Nat.le_trans this h3
def DQ (X:Cx) (s:Nat→Bool) (q:Nat):Nat→Prop:=λb=>X.DS s b∧b<X.nx q
mutual
theorem Vs {D D':Nat→Prop}:∀v:AV,bD D v→bD D' v→bD (λb=>D b∧D' b) v
 | .bool _,_,_=>trivial
 | .int _ _,_,_=>trivial
 | .str _,_,_=>trivial
 | .ptr b o,h,h'=>⟨h,h'⟩
 | .ba,_,_=>trivial
 | .slice b o l c p,h,h'=>⟨h,h'⟩
 | .ap,_,_=>trivial
 | .fn f a c,h,h'=>by simp only[bD]at*;exact⟨JR a h.1 h'.1,JR c h.2 h'.2⟩
 | .yield l,h,h'=>⟨h,h'⟩
 | .eG,_,_=>trivial
 | .iface t v,h,h'=>by simp only[bD]at*;exact Vs v h h'
 | .dt,_,_=>trivial
 | .agg l,h,h'=>by simp only[bD]at*;exact JR l h h'
 | .cn l,h,h'=>by simp only[bD]at*;exact JR l h h'
 | .cA _,_,_=>trivial
 | .tail _ _ _ _,h,h'=>⟨h,h'⟩
 | .eV _,h,h'=>⟨h,h'⟩
theorem JR {D D':Nat→Prop}:∀l:List AV,bm D l→bm D' l→bm (λb=>D b∧D' b) l
 |[],_,_=>trivial
 |a::r,h,h'=>by simp only[bm]at*;exact⟨Vs a h.1 h'.1,JR r h.2 h'.2⟩
end
theorem qXA {D D':Nat→Prop} {x:dh} (h:cV D x) (h':cV D' x):cV (λb=>D b∧D' b) x:=by
 cases x<;>simp only[cV]at* <;>first |exact JR _ h h' |exact⟨JR _ h.1 h'.1,h.2,h'.2⟩ |grind[Vs] |trivial
theorem Inv.uz (I:Inv X s q a w m C) {v:AV} (h1:bD (X.DS s) v) {j:Nat} (hj:j≤q) (h2:bD (Dg X.D0 X.H j) v):bD (DQ X s q) v:=by
 refine QG (λb hb=>?_) v (Vs v h1 h2);obtain⟨iE,fb⟩:=hb;refine⟨iE,?_⟩;rcases fb with h |h
 ·exact Nat.lt_of_lt_of_le (Xq h) (dP (Nat.zero_le _) I.qN)
 ·exact Nat.lt_of_lt_of_le h.2 (dP hj I.qN)
theorem Inv.oI (I:Inv X s q a w m C):Rel X.P m (DQ X s q) (X.H q) w:=by
 refine⟨⟨?_,?_,?_,?_⟩,λp hp=>by
  obtain⟨g,h1,h2,h3⟩:=I.rel.gl p hp;refine⟨g,h1,h2,?_⟩;rintro⟨b,⟨hb,ax⟩,hl,e⟩
  exact h3 ⟨b,hb,by unfold live at*;rw[I.i1 b hb ax];grind,e⟩⟩
 ·rintro b ⟨hb,ax⟩;obtain⟨x,hx,nA,rK⟩:=I.rel.bG b hb;rw[I.i1 b hb ax]at hx;refine⟨x,hx,nA,?_⟩;obtain⟨y,hy,hZ⟩:=(X.gh q I.qN).bG b (Re I.sN hb ax);rw[hx]at hy;cases hy;refine cV.mono (λb hb=>?_) (qXA rK hZ);refine⟨hb.1,?_⟩;rcases hb.2 with h |h
  ·exact Nat.lt_of_lt_of_le (Xq h) (dP (Nat.zero_le _) I.qN)
  ·exact h.2
 ·rintro b b' ⟨hb,ax⟩ ⟨bV,uA⟩ hl dW e;refine I.rel.inj b b' hb bV ?_ ?_ e
  ·unfold live at*;rw[I.i1 b hb ax];grind
  ·unfold live at*;rw[I.i1 b' bV uA];grind
 ·rintro b ⟨hb,ax⟩;exact ax
 ·rintro b t ⟨hb,ax⟩ hg ⟨b',⟨bV,uA⟩,dW,he⟩;refine I.rel.dv b t hb (by rw[I.i1 b hb ax];grind) ⟨b',bV,?_,he⟩;unfold live at*;rw[I.i1 b' bV uA];grind
theorem MU:ins s i i=true:=by simp[ins]
theorem NX {j:Nat} (h:j≠i):ins s i j=s j:=by simp[ins,h]
theorem IV {j:Nat} (h:s j=true):ins s i j=true:=by simp[ins,h]
theorem XC {j:Nat} (h:ins s i j=true):j=i∨s j=true:=by grind[ins]
theorem Inv.rdy (I:Inv X s q a w m C) (ho:X.ops[i]? =some o) (un:s i=false) (pA:∀e∈o.after,Va e=true→s e.on=true):ei X s i o:=⟨ho,un,pA,I.down,I.sN⟩
theorem ei.pB (r:ei X s i o):∀j o',ins s i j=true→X.ops[j]? =some o'→∀e∈o'.after,Va e=true→ins s i e.on=true:=by
 intro j o' hj hX e he hb;rcases XC hj with rfl |hj
 ·rw[r.ho]at hX;cases hX;exact IV (r.pA e he hb)
 ·exact IV (r.down j o' hj hX e he hb)
theorem ei.EP (r:ei X s i o):∀j,ins s i j=true→j<X.N:=by
 intro j hj;rcases XC hj with rfl |hj
 ·exact JN r.ho
 ·exact r.sN j hj
theorem Inv.sG (I:Inv X s q a w m C) (r:ei X s i o) {v:AV} (hv:X.V i=v) (hc:∀u,bD (X.DS s) u→cv m' u=cv m u) {z:Value} (hz:cv m' v=z) (hd:bD (X.DS (ins s i)) v) :
  X.n≤(a.put o.dst z).tmps.size∧(∀t u,X.FS (ins s i) X.N t=some u→(a.put o.dst z).tmps[t]? =some (cv m' u)∧bD (X.DS (ins s i)) u):=by
 subst hz;refine⟨?_,?_⟩
 ·cases o.dst with
  |none=>exact I.AM
  |some d=>simp[Act.put];exact I.AM
 ·intro t u hu;rw[r.write]at hu;by_cases EQ:o.dst=some t
  ·rw[iJ EQ]at hu;cases hu;rw[hv];refine⟨?_,hd⟩;have ax:=Nat.lt_of_lt_of_le ((X.tr.step i o r.ho).1.dst t EQ) I.AM;grind[Act.put,Array.getElem?_setIfInBounds_self]
  ·rw[iQ EQ]at hu;obtain⟨h1,h2⟩:=I.slot t u hu;refine⟨?_,QG (λb hb=>Vt hb) u h2⟩;rw[hc u h2];cases hod:o.dst with
   |none=>exact h1
   |some d=>grind[Act.put,Array.getElem?_setIfInBounds_ne]
theorem Inv.pure (I : Inv X s q a w m C) (r : ei X s i o) (hh : ¬ X.bu i) (hH : X.H (i + 1) = X.H i) (E : Ext m (X.DS s) C w m' (X.DS s) C w') (R' : Rel X.P m' (X.DS s) C w') (hv : bD (X.DS s) (X.V i)) :
    Inv X (ins s i) q (a.put o.dst (cv m' (X.V i))) w' m' C:=by
  have hD:X.DS (ins s i)=X.DS s:=by
    funext b
    refine propext (mJ.trans ⟨λh=>h.elim id λh=>?_,.inl⟩);grind[nx]
  have ng:=I.sG r rfl (m':=m') (λu hu=>E.cv hu) rfl (by grind);have C5:i≠q:=λe=>by subst e;exact hh (I.hq (JN r.ho))
  refine { qN := I.qN, hq := I.hq, hs := ?_, sN := r.EP, down := r.pB, rl := by rw [hD];exact R'.toRel0, sF := I.sF, i1 := by rw [hD];exact I.i1, i2 := ?_, i3 := ?_, map := ?_, size := Nat.le_trans I.size E.size, keep := ?_,
           os:=E.os.trans I.os,tape:=E.tape.trans I.tape,output:=E.output.trans I.output,AM:=ng.1,slot:=ng.2,df:=by rw[kD];exact I.df }
  · intro j hj;rw[NX (λe=>hh (by grind))];exact I.hs j hj
  · intro j Rf hj b h1 h2;rcases XC hj with rfl |hj
    · grind[nx]
    · exact I.i2 j Rf hj b h1 h2
  · intro j nK hj b h1 h2;refine I.i3 j nK ?_ b h1 h2;grind[IV]
  · intro b hb;rw[E.map b (.inl hb)];exact I.map b hb
  · intro c hc hn;obtain⟨k1,k2⟩:=I.keep c hc hn;obtain⟨k3,k4⟩:=E.keep c (Nat.lt_of_lt_of_le hc I.size) k2;grind
end Cx
end Go.Ae
namespace Go.Ae
open Go
namespace Cx
variable {X:Cx} {s:Nat→Bool} {i q:Nat} {o:Oper} {a:Act} {w w':World} {m m':Mp} {C:AH}
theorem ER {mk:Nat→AV} (h:C0 mk) {m m':Mp} {b b':Nat} (e:m b=m' b'):cv m (mk b)=cv m' (mk b'):=by
 rcases h with rfl |⟨l,k,o,rfl⟩
 all_goals simp_all[cv]
theorem jX7 {mk:Nat→AV} (h:C0 mk) {D:Nat→Prop} {b:Nat}:bD D (mk b)↔D b:=by
 rcases h with rfl |⟨l,k,o,rfl⟩<;>rfl
theorem Inv.fresh (I:Inv X s q a w m C) (r:ei X s i o) (hh:¬X.bu i) {x:dh} {mk:Nat→AV} (hmk:C0 mk) (hV:X.V i=mk (X.nx i)) (hH:X.H (i+1)=(X.H i).new x) {m1:Mp} {D1:Nat→Prop}
  (E:Ext m (X.DS s) C w m1 D1 (C.new x) w') (R1:Rel X.P m1 D1 (C.new x) w') :
  ∃m' C',Inv X (ins s i) q (a.put o.dst (cv m1 (mk C.nx))) w' m' C':=by
 have hi:=JN r.ho;have mw:X.nx (i+1)=X.nx i+1:=by simp_all[nx]
 have hCi:X.nx (i+1)≤C.nx:=Nat.le_trans (dP omQ (Nat.le_refl _)) I.sF;have hD:∀b,X.DS (ins s i) b↔X.DS s b∨b=X.nx i:=λb=>mJ.trans ⟨λh=>h.imp id λh=>by omega,λh=>h.imp id λh=>by omega⟩;have BJ:¬X.DS s (X.nx i):=qwT I.sN hi r.un (Nat.le_refl _) omQ;have ax:∀b,X.DS s b→b<C.nx:=λb hb=>I.rel.lt b hb;have rb:∀b,D1 b↔X.DS s b∨b=C.nx:=λb=>(E.dm b).trans ⟨λh=>h.imp id λh=>by simp at h;omega,λh=>h.imp id λh=>by simp_all⟩;have sA:∀b,X.DS s b→m1 b=m b:=E.map;obtain⟨m',uk⟩:∃m':Mp,m'=λb=>if b=X.nx i then m1 C.nx else m1 b:=⟨_,rfl⟩
 have C6:m' (X.nx i)=m1 C.nx:=by grind
 have ET:∀b,b≠X.nx i→m' b=m1 b:=λb hb=>by grind
 have iL:∀b,X.DS s b→m' b=m b:=λb hb=>by grind
 have fc:∀b,b≠X.nx i→(C.put (X.nx i) x).get b=C.get b:=λb hb=>AH.bE C x (λe=>hb e.symm);have rI:(C.put (X.nx i) x).get (X.nx i)=some x:=AH.bi C _ x;have pw:∀b,X.DS s b→(C.put (X.nx i) x).get b=C.get b:=λb hb=>fc b (λe=>BJ (e▸hb));have ux:∀b,X.DS s b→(C.new x).get b=C.get b:=λb hb=>AH.cg C x (by grind);have rf:(C.new x).get C.nx=some x:=AH.bF C x;have Rg:(X.H (i+1)).get (X.nx i)=some x:=by rw[hH];exact AH.bF _ _
 have rK:cV (X.DS s) x:=by
  obtain⟨y,hy,_,hZ⟩:=R1.bG C.nx ((rb _).2 (.inr rfl));rw[rf]at hy;cases hy;obtain⟨z,hz,tQ⟩:=(X.gh (i+1) hi).bG (X.nx i) (.inr ⟨dP (Nat.zero_le _) omQ,by show X.nx i<X.nx (i+1);omega⟩);rw[Rg]at hz;cases hz;refine cV.mono (λb hb=>?_) (qXA hZ tQ);rcases(rb b).1 hb.1 with h |h
  ·grind
  ·exfalso;rcases hb.2 with h' |h'
   ·have:=Xq h';have:=dP (X:=X) (Nat.zero_le (i+1)) omQ;omega
   ·have:b<X.nx (i+1):=h'.2;omega
 have dJ:Nat→Nat:=λb=>if b=X.nx i then C.nx else b
 have ia:Rel0 X.P m' (X.DS (ins s i)) (C.put (X.nx i) x) w':=by
  refine⟨?_,?_,?_,?_⟩
  ·intro b hb;rcases(hD b).1 hb with hb |rfl
   ·obtain⟨y,hy,fE,hZ⟩:=R1.bG b ((rb b).2 (.inl hb));obtain⟨z,hz,_,tQ⟩:=I.rel.bG b hb;rw[ux b hb,hz]at hy;cases hy;refine⟨_,(pw b hb).trans hz,?_,tQ.mono λb hb=>Vt hb⟩;rw[iL b hb,← sA b hb];exact fE.congr (D:=X.DS s) (λb hb=>by grind) tQ rfl
   ·obtain⟨y,hy,fE,hZ⟩:=R1.bG C.nx ((rb _).2 (.inr rfl));rw[rf]at hy;cases hy;refine⟨x,rI,?_,rK.mono λb hb=>Vt hb⟩;rw[C6];exact fE.congr (D:=X.DS s) (λb hb=>by grind) rK rfl
  ·intro b1 b2 h1 h2 l1 l2 he;rcases(hD b1).1 h1 with h1 |rfl<;>rcases(hD b2).1 h2 with h2 |rfl
   ·rw[iL b1 h1,iL b2 h2]at he;refine I.rel.inj b1 b2 h1 h2 ?_ ?_ he
    all_goals grind[live]
   ·exfalso;rw[iL b1 h1,C6,← sA b1 h1]at he;have:=R1.inj b1 C.nx ((rb _).2 (.inl h1)) ((rb _).2 (.inr rfl)) (by grind[live]) (by grind[live]) he;grind
   ·exfalso;rw[iL b2 h2,C6,← sA b2 h2]at he;have:=R1.inj C.nx b2 ((rb _).2 (.inr rfl)) ((rb _).2 (.inl h2)) (by grind[live]) (by grind[live]) he;grind
   rfl
  ·intro b hb;rw[AH.Bt];grind
  ·rintro b t hb hg ⟨b',bV,dW,he⟩;have hA:∀b,X.DS (ins s i) b→∃a,D1 a∧m1 a=m' b∧(C.new x).get a=(C.put (X.nx i) x).get b:=by
    grind
   obtain⟨a1,h1,h2,h3⟩:=hA b hb;obtain⟨a2,k1,k2,k3⟩:=hA b' bV;refine R1.dv a1 t h1 (h3.trans hg) ⟨a2,k1,?_,by grind⟩;grind[live]
 have hval:cv m' (X.V i)=cv m1 (mk C.nx):=by simp_all[ER]
 have ng:=I.sG r rfl (m':=m') (z:=cv m1 (mk C.nx)) (λu hu=>QA iL u hu) hval (by rw[hV];exact(jX7 hmk).2 ((hD _).2 (.inr rfl)));have C5:i≠q:=λe=>by subst e;exact hh (I.hq hi)
 refine⟨m',C.put (X.nx i) x,{ qN:=I.qN,hq:=I.hq,hs:=?_,sN:=r.EP,down:=r.pB,rl:=ia,sF:=I.sF,i1:=?_,i2:=?_,i3:=?_,map:=?_,size:=Nat.le_trans I.size E.size,keep:=?_,os:=E.os.trans I.os,tape:=E.tape.trans I.tape,output:=E.output.trans I.output,AM:=ng.1,slot:=ng.2,df:=by rw[kD];exact I.df }⟩
 ·intro j hj;rw[NX (λe=>hh (by grind))];exact I.hs j hj
 ·intro b hb AN;rcases(hD b).1 hb with hb |rfl
  ·rw[pw b hb];exact I.i1 b hb AN
  ·rw[rI];have hlq:i<q:=by
    rcases Nat.lt_or_ge i q with h |h
    ·grind
    ·have:=dP (X:=X) h omQ;omega
   rw[I.i3 i hlq r.un _ (Nat.le_refl _) omQ,Rg]
 ·intro j Rf hj b h1 h2;rcases XC hj with rfl |hj
  ·grind
  ·rw[fc b,I.i2 j Rf hj b h1 h2];rintro rfl;exact BJ (.inr ⟨j,hj,h1,h2⟩)
 ·intro j nK hj b h1 h2;refine I.i3 j nK ?_ b h1 h2;grind[IV]
 ·intro b hb;rw[iL b (.inl hb)];exact I.map b hb
 ·intro c hc hn;obtain⟨k1,k2⟩:=I.keep c hc hn;obtain⟨k3,k4⟩:=E.keep c (Nat.lt_of_lt_of_le hc I.size) k2;refine⟨k3.trans k1,?_⟩;rintro⟨b,hb,hl,he⟩;rcases(hD b).1 hb with hb |rfl
  ·refine k2 ⟨b,hb,?_,by grind⟩;grind[live]
  ·refine k4 ⟨C.nx,(rb _).2 (.inr rfl),?_,by grind⟩;grind[live]
theorem qgm (f:Nat→Option dh) (T:Nat):∀N,∃h:AH,h.nx=T∧(∀b,b<N→h.get b=f b)∧∀b,N≤b→h.get b=none:=by
 intro N
 induction N with
 |zero=>exact⟨⟨T,[],.e⟩,rfl,λb hb=>by omega,λb _=>aQ.fK b⟩
 |succ N ih=>
  obtain⟨h,h1,h2,h3⟩:=ih;cases hf:f N with
  |some x=>
   refine⟨h.put N x,h1,λb hb=>?_,λb hb=>?_⟩
   ·by_cases e:b=N
    ·simp_all
    ·rw[AH.bE h x (λee=>e ee.symm)];grind
   ·rw[AH.bE h x omQ];grind
  |none=>
   grind
theorem pC (f:Nat→Option dh) (T N:Nat):∃h:AH,h.nx=T∧∀b,b<N→h.get b=f b:=by obtain⟨h,h1,h2,_⟩:=qgm f T N;grind
theorem oJ (X:Cx) {q:Nat} (hq:q<X.N):∃q',q<q'∧q'≤X.N∧(q'<X.N→X.bu q')∧∀k,q<k→k<q'→¬X.bu k:=by
 have key:∀d q0,q<q0→q0+d=X.N→(∀k,q<k→k<q0→¬X.bu k)→∃q',q<q'∧q'≤X.N∧(q'<X.N→X.bu q')∧∀k,q<k→k<q'→¬X.bu k:=by
  intro d
  induction d with
  |zero=>grind
  |succ d ih=>
   intro q0 h1 h2 h3;by_cases hh:X.bu q0
   ·grind
   ·refine ih (q0+1) omQ omQ ?_;grind
 exact key (X.N-(q+1)) (q+1) omQ omQ (λk h1 h2=>by omega)
end Cx
end Go.Ae
namespace Go.Ae
open Go
namespace Cx
variable {X:Cx} {s:Nat→Bool} {i q:Nat} {o:Oper} {a:Act} {w w':World} {m m':Mp} {C:AH}
theorem Inv.eI (I:Inv X s q a w m C) (r:ei X s q o) {m1:Mp} {D1:Nat→Prop} (E:Ext m (DQ X s q) (X.H q) w m1 D1 (X.H (q+1)) w') (R1:Rel X.P m1 D1 (X.H (q+1)) w') (hv:bD D1 (X.V q)) :
  ∃q' m' C',Inv X (ins s q) q' (a.put o.dst (cv m1 (X.V q))) w' m' C':=by
 have hq:=JN r.ho;obtain⟨q',hqq,BK,hqh,hqn⟩:=X.oJ hq;have cd:∀k,q+1≤k→k<q'→¬(X.bu k∧X.W k=true):=λk h1 h2 h=>hqn k omQ h2 h.1;have hnq:X.nx q≤X.nx (q+1):=dP omQ omQ;have hCq:X.nx (q+1)≤C.nx:=Nat.le_trans (dP omQ (Nat.le_refl _)) I.sF;have rb:∀b,D1 b↔DQ X s q b∨(X.nx q≤b∧b<X.nx (q+1)):=E.dm;have Rh:∀b,X.DS s b→b<X.nx q∨(X.nx (q+1)≤b∧∃j,q<j∧s j=true∧X.nx j≤b∧b<X.nx (j+1)):=by
  rintro b (h |⟨j,hj,h1,h2⟩)
  ·exact .inl (Nat.lt_of_lt_of_le (Xq h) (dP (Nat.zero_le _) I.qN))
  ·have IW:=I.sN j hj;rcases Nat.lt_trichotomy j q with ax |rfl |BI
   ·have:=dP (X:=X) (show j+1≤q by omega) I.qN;omega
   ·rw[r.un]at hj;grind
   ·have:=dP (X:=X) (show q+1≤j by omega) omQ;grind
 have hDS:∀b,X.DS (ins s q) b↔X.DS s b∨(X.nx q≤b∧b<X.nx (q+1)):=λb=>mJ;have lH:∀b,b<X.nx (q+1)→(X.DS (ins s q) b↔D1 b):=by
  intro b hb;rw[hDS,rb];constructor
  ·rintro(h |h)
   ·rcases Rh b h with h' |⟨h',_⟩
    ·exact .inl ⟨h,h'⟩
    grind
   grind
  ·rintro(h |h)
   ·exact .inl h.1
   grind
 have fO:∀b,X.nx (q+1)≤b→X.DS (ins s q) b→X.DS s b:=λb hb h=>((hDS b).1 h).elim id λh=>by omega
 have pD:∀b,D1 b→b<X.nx (q+1):=R1.lt;obtain⟨m',uk⟩:∃m':Mp,m'=λb=>if b<X.nx (q+1)then m1 b else m b:=⟨_,rfl⟩
 have oe:∀b,b<X.nx (q+1)→m' b=m1 b:=λb hb=>by grind
 have Ri:∀b,X.nx (q+1)≤b→m' b=m b:=λb hb=>by grind
 have iL:∀b,X.DS s b→m' b=m b:=by
  intro b hb;rcases Rh b hb with h |⟨h,_⟩
  ·rw[oe b omQ];exact E.map b ⟨hb,h⟩
  grind
 obtain⟨C',hCx,hCg⟩:=pC (λb=>if b<X.nx (q+1)then(X.H (q+1)).get b else C.get b) C.nx C.nx;have uB:∀b,b<X.nx (q+1)→C'.get b=(X.H (q+1)).get b:=λb hb=>by grind
 have tS:∀b,X.nx (q+1)≤b→b<C.nx→C'.get b=C.get b:=λb hb ax=>by grind
 have mL:∀b,X.DS s b→b<C.nx:=I.rel.lt;have EU:∀c,own m (DQ X s q) (X.H q) c→own m (X.DS s) C c:=by rintro c ⟨b,hb,hl,he⟩;exact⟨b,hb.1,by unfold live at*;rw[I.i1 b hb.1 hb.2];grind,he⟩
 have my:∀b,X.DS s b→X.nx (q+1)≤b→live C b→(m b).1<w.heap.size∧¬own m (DQ X s q) (X.H q) (m b).1:=by intro b hb eY hl;refine⟨I.rel.inside hb hl,?_⟩;rintro⟨b2,fb,n9,he⟩;have:=I.rel.inj b2 b fb.1 hb (by unfold live at*;rw[I.i1 b2 fb.1 fb.2];grind) hl he;grind
 have sH:∀b t,X.DS s b→C.get b=some (.dv t)→(m b).1<w.heap.size∧¬own m (DQ X s q) (X.H q) (m b).1:=by intro b t hb hg;obtain⟨y,hy,fE,_⟩:=I.rel.bG b hb;rw[hg]at hy;cases hy;exact⟨fE.lg,λh=>I.rel.dv b t hb hg (EU _ h)⟩
 have ia:Rel0 X.P m' (X.DS (ins s q)) C' w':=by
  refine⟨?_,?_,?_,?_⟩
  ·intro b hb;by_cases ax:b<X.nx (q+1)
   ·obtain⟨y,hy,fE,hZ⟩:=R1.bG b ((lH b ax).1 hb);refine⟨y,(uB b ax).trans hy,?_,hZ.mono λb hb=>(lH b (pD b hb)).2 hb⟩;rw[oe b ax];exact fE.congr (D:=D1) (λb hb=>oe b (pD b hb)) hZ rfl
   ·have eY:X.nx (q+1)≤b:=by omega
    have rh:=fO b eY hb;obtain⟨z,hz,fG,tQ⟩:=I.rel.bG b rh;refine⟨z,(tS b eY (mL b rh)).trans hz,?_,tQ.mono λb hb=>Vt hb⟩;rw[Ri b eY];by_cases pW:z.live
    ·obtain⟨f1,f2⟩:=my b rh eY ⟨z,hz,pW⟩;exact fG.congr (D:=X.DS s) iL tQ (E.keep _ f1 f2).1
    ·cases z<;>first |trivial |exact absurd trivial pW |skip
     obtain⟨f1,f2⟩:=sH b _ rh hz;exact fG.congr (D:=X.DS s) iL tQ (E.keep _ f1 f2).1
  ·intro b1 b2 h1 h2 l1 l2 he;have mixed:∀b1 b2,X.DS (ins s q) b1→X.DS (ins s q) b2→live C' b1→live C' b2→(m' b1).1=(m' b2).1→b1<X.nx (q+1)→X.nx (q+1)≤b2→False:=by
    intro b1 b2 h1 h2 l1 l2 he ax eY;have IX:=fO b2 eY h2;have n9:live C b2:=by grind[live]
    obtain⟨f1,f2⟩:=my b2 IX eY n9;refine(E.keep _ f1 f2).2 ⟨b1,(lH b1 ax).1 h1,?_,?_⟩
    all_goals grind[live]
   by_cases g1:b1<X.nx (q+1)<;>by_cases g2:b2<X.nx (q+1)
   ·rw[oe b1 g1,oe b2 g2]at he;exact R1.inj b1 b2 ((lH b1 g1).1 h1) ((lH b2 g2).1 h2) (by grind[live]) (by grind[live]) he
   ·grind
   ·grind
   ·have s1:=fO b1 omQ h1;have s2:=fO b2 omQ h2;rw[iL b1 s1,iL b2 s2]at he;exact I.rel.inj b1 b2 s1 s2 (by unfold live at*;grind) (by unfold live at*;grind) he
  ·grind
  ·rintro b1 t h1 hg ⟨b2,h2,l2,he⟩;by_cases g1:b1<X.nx (q+1)
   ·rw[uB b1 g1]at hg;obtain⟨n1,n2⟩:=E.ni b1 t ((lH b1 g1).1 h1) hg;by_cases g2:b2<X.nx (q+1)
    ·rw[oe b1 g1,oe b2 g2]at he;exact R1.dv b1 t ((lH b1 g1).1 h1) hg ⟨b2,(lH b2 g2).1 h2,by grind[live],he⟩
    ·have s2:=fO b2 omQ h2;have PN:C.get b1=some (.dv t):=by rw[I.i1 b1 n1.1 n1.2];grind
     rw[iL b1 n1.1,iL b2 s2]at he;exact I.rel.dv b1 t n1.1 PN ⟨b2,s2,by unfold live at*;grind,he⟩
   ·have s1:=fO b1 omQ h1;rw[tS b1 omQ (mL b1 s1)]at hg;rw[iL b1 s1]at he;by_cases g2:b2<X.nx (q+1)
    ·obtain⟨f1,f2⟩:=sH b1 t s1 hg;refine(E.keep _ f1 f2).2 ⟨b2,(lH b2 g2).1 h2,by grind[live],?_⟩;grind
    ·have s2:=fO b2 omQ h2;rw[iL b2 s2]at he;exact I.rel.dv b1 t s1 hg ⟨b2,s2,by unfold live at*;grind,he⟩
 have hval:cv m' (X.V q)=cv m1 (X.V q):=QA (λb hb=>oe b (pD b hb)) _ hv;have ng:=I.sG r rfl (m':=m') (z:=cv m1 (X.V q)) (λu hu=>QA iL u hu) hval (QG (λb hb=>(lH b (pD b hb)).2 hb) _ hv);refine⟨q',m',C',{ qN:=BK,hq:=hqh,hs:=?_,sN:=r.EP,down:=r.pB,rl:=ia,sF:=by rw[hCx];exact I.sF,i1:=?_,i2:=?_,i3:=?_,map:=?_,size:=Nat.le_trans I.size E.size,keep:=?_,os:=E.os.trans I.os,tape:=E.tape.trans I.tape,output:=E.output.trans I.output,AM:=ng.1,slot:=ng.2,df:=by rw[kD];exact I.df }⟩
 ·intro j hj;by_cases nK:j=q
  ·grind[MU]
  ·rw[NX nK,I.hs j hj];grind
 ·intro b hb AN;by_cases ax:b<X.nx (q+1)
  ·rw[uB b ax,vT omQ BK cd b ax]
  ·have eY:X.nx (q+1)≤b:=by omega
   have rh:=fO b eY hb;rcases Rh b rh with h |⟨_,j,hj1,hj2,Rj,hj4⟩
   ·omega
   ·rw[tS b eY (mL b rh),I.i2 j omQ hj2 b Rj hj4];have IW:=I.sN j hj2;have nK:j<q':=by
     rcases Nat.lt_or_ge j q' with h |h
     ·grind
     ·have:=dP (X:=X) h omQ;omega
    rw[vT (X:=X) (show j+1≤q' by omega) BK (λk h1 h2=>cd k omQ h2) b hj4]
 ·intro j nK hj b h1 h2;rcases XC hj with rfl |hj
  ·omega
  ·have IW:=I.sN j hj;have h3:=dP (X:=X) (show q+1≤j by omega) omQ;have h4:=dP (X:=X) (show j+1≤X.N by omega) (Nat.le_refl _);have h5:=I.sF;rw[tS b omQ omQ,I.i2 j omQ hj b h1 h2]
 ·intro j nK hj b h1 h2;have EV:j≠q:=λe=>by grind[MU]
  rw[NX EV]at hj;rcases Nat.lt_or_gt_of_ne EV with ax |BI
  ·have h3:=dP (X:=X) (show j+1≤q by omega) I.qN;rw[vT (X:=X) (show q+1≤q' by omega) BK cd b omQ];rw[(E.un b (show b<X.nx q by omega) (λh=>qwT I.sN omQ hj h1 h2 h.1)).1];exact I.i3 j ax hj b h1 h2
  ·exact vT (X:=X) (show j+1≤q' by omega) BK (λk g1 g2=>cd k omQ g2) b h2
 ·intro b hb;rw[iL b (.inl hb)];exact I.map b hb
 ·intro c hc hn;obtain⟨k1,k2⟩:=I.keep c hc hn;obtain⟨k3,k4⟩:=E.keep c (Nat.lt_of_lt_of_le hc I.size) (λh=>k2 (EU c h));refine⟨k3.trans k1,?_⟩;rintro⟨b,hb,hl,he⟩;by_cases ax:b<X.nx (q+1)
  ·exact k4 ⟨b,(lH b ax).1 hb,by grind[live],by grind⟩
  ·have rh:=fO b omQ hb;exact k2 ⟨b,rh,by unfold live at*;grind,by grind⟩
end Cx
end Go.Ae
namespace Go.Ae
open Go
namespace Cx
variable {X:Cx} {s:Nat→Bool} {i q:Nat} {o:Oper} {a:Act} {w w':World} {m m':Mp} {C:AH}
theorem qYR (p:Nat→Prop):∀hi lo,(∀k,lo≤k→k<hi→¬p k)∨∃k,lo≤k∧k<hi∧p k∧∀j,k<j→j<hi→¬p j:=by
 intro hi
 induction hi with
 |zero=>simp
 |succ hi ih=>
  grind
theorem MI (p:Nat→Prop):∀d lo,(∀k,lo≤k→k<lo+d→¬p k)∨∃k,lo≤k∧k<lo+d∧p k∧∀j,lo≤j→j<k→¬p j:=by
 intro d
 induction d with
 |zero=>grind
 |succ d ih=>
  grind
theorem Inv.nL (I:Inv X s q a w m C) (r:ei X s i o) (hh:X.bu i):i=q:=by
 have eY:q≤i:=by
  rcases Nat.lt_or_ge i q with h |h
  ·have:=(I.hs i hh).2 h;rw[r.un]at this;grind
  grind
 rcases Nat.lt_or_ge q i with h |h
 ·exfalso;have hi:=JN r.ho;obtain⟨oq,hoq,hhq⟩:=I.hq omQ;obtain⟨oi,mu,mH⟩:=hh;have fF:∀x y,ins s i x=true→(xj X.M x).testBit y=true→ins s i y=true:=λx y=>Ys r.pB r.EP x y;have:=X.st.chain (λx=>ins s i x=true) fF q i oq oi h hoq mu hhq mH MU;rw[NX omQ]at this;have:=(I.hs q ⟨oq,hoq,hhq⟩).1 this;omega
 grind
def hv (X:Cx) (k:Nat):Prop:=X.bu k∧X.W k=true
theorem Inv.lI (I:Inv X s q a w m C) (C5:i≤q) (hn:∀k,i≤k→k<q→¬X.hv k):∀b,X.DS s b→b<X.nx i→C.get b=(X.H i).get b:=by intro b hb ax;have:=dP (X:=X) C5 I.qN;rw[I.i1 b hb omQ,vT C5 I.qN hn b ax]
theorem Inv.nM (I:Inv X s q a w m C) (C5:q≤i) (hi:i≤X.N) (hn:∀k,q≤k→k<i→¬X.hv k):∀b,X.DS s b→b<X.nx i→C.get b=(X.H i).get b:=by
 intro b hb ax;by_cases AN:b<X.nx q
 ·rw[I.i1 b hb AN,vT C5 hi hn b AN]
 ·rcases hb with hb |⟨j,hj,h1,h2⟩
  ·have:=Xq hb;have:=dP (X:=X) (Nat.zero_le q) I.qN;omega
  ·have IW:=I.sN j hj;have nK:q≤j:=by
    rcases Nat.lt_or_ge j q with h |h
    ·have:=dP (X:=X) (show j+1≤q by omega) I.qN;omega
    grind
   have Rc:j<i:=by
    rcases Nat.lt_or_ge j i with h |h
    ·grind
    ·have:=dP (X:=X) h omQ;omega
   rw[I.i2 j nK hj b h1 h2,vT (X:=X) (show j+1≤i by omega) hi (λk g1 g2=>hn k omQ g2) b h2]
theorem ei.lJ (I:Inv X s q a w m C) (r:ei X s i o) {k:Nat} (h1:i<k) (h2:k<q) (hk:X.bu k):kw X.M i k=true:=by
 have oH:=(I.hs k hk).2 h2;obtain⟨ok,dX,_⟩:=hk;have a1:(xj X.M i).testBit k=false:=by
  cases h:(xj X.M i).testBit k
  ·rfl
  ·have:=qWo r.ho h;omega
 have a2:=r.later oH;grind[kw]
theorem ei.fP (I:Inv X s q a w m C) (r:ei X s i o) {k:Nat} (h1:q≤k) (h2:k<i) (hk:X.bu k):kw X.M i k=true:=by
 have oH:s k=false:=by
  cases h:s k
  ·rfl
  ·have:=(I.hs k hk).1 h;omega
 obtain⟨ok,dX,_⟩:=hk;have a1:(xj X.M i).testBit k=false:=by
  cases h:(xj X.M i).testBit k
  ·rfl
  ·have:=r.pZ h;grind
 have a2:(xj X.M k).testBit i=false:=by
  cases h:(xj X.M k).testBit i
  ·rfl
  ·have:=qWo dX h;omega
 grind[kw]
theorem Gr {a:AV} {n:Option Nat} {v:AV} {h g:AH} (e:∀b off,a=.ptr b off→g.get b=h.get b) (e2:∀b off l i,a=.slice b off l i true→g.get b=h.get b) (hl:xv a n v h=true):xv a n v g=true:=by
 cases a<;>first |exact hl |skip
 ·rename_i b off;unfold xv at*;grind
 ·rename_i b off l i o;cases o
  ·rfl
  ·unfold xv at*;cases n with
   |none=>grind
   |some m=>simp only[vo]at*;grind
theorem Inv.load (I:Inv X s q a w m C) (r:ei X s i o) (hl:MC o.op=true) (hw:X.W i=true) (hD:∀x v,ff (X.F i) x=some v→x∈o.op.operands→bD (X.DS s) v∧bD (Dg X.D0 X.H i) v) :
  cO X.P X.c o.op (ff (X.F i)) C=some (X.V i,C)∧X.H (i+1)=X.H i:=by
 have hi:=JN r.ho;have hs:=(X.tr.step i o r.ho).1.yes hw;obtain⟨t,x,BH⟩:=GZ hl;rw[BH]at hs ⊢;obtain⟨e1,b,off,hx,g1,g2⟩:=NU hs;refine⟨?_,e1⟩;obtain⟨d1,d2⟩:=hD x _ hx (by grind[Op.operands]);have ri:X.DS s b:=d1;have BM:b<X.nx i:=by
  rcases(show Dg X.D0 X.H i b from d2)with h |h
  ·exact Nat.lt_of_lt_of_le (Xq h) (dP (Nat.zero_le _) omQ)
  ·exact h.2
 have Rk:¬X.bu i:=by rintro⟨o',hX,hh⟩;rw[r.ho]at hX;cases hX;rw[BH]at hh;cases hh
 have eK:∀k,X.hv k→kw X.M i k=true→xv (.ptr b off) (kJ X.P o.op) (X.V i) (X.H k)=true∧xv (.ptr b off) (kJ X.P o.op) (X.V i) (X.H (k+1))=true∧b<X.nx 0:=by
  rintro k ⟨⟨ok,dX,EW⟩,nh⟩ dI;obtain⟨z,hz,h1⟩:=X.BG i k o ok r.ho dX (by grind[gB]) EW hw nh dI;have:z=.ptr b off:=by rw[BH]at hz;have hz:ff (X.F i) x=some z:=hz;grind
  subst this;simp only[rY,Bool.and_eq_true]at h1;exact⟨h1.1,h1.2.1,zE h1.2.2⟩
 have fin:∀k,k≤X.N→xv (.ptr b off) (kJ X.P o.op) (X.V i) (X.H k)=true→C.get b=(X.H k).get b→cO X.P X.c (.load t x) (ff (X.F i)) C=some (X.V i,C):=by intro k _ h1 h2;refine g2 C ?_;rw[BH]at h1;exact Gr (λb' pO e=>by grind) (λ_ _ _ _ e=>by grind) h1
 rcases Nat.lt_or_ge i q with h |h
 ·rcases qYR X.hv q i with bQ |⟨k,k1,k2,k3,k4⟩
  ·exact g1 C (I.lI omQ bQ b ri BM)
  ·have rL:k≠i:=λe=>Rk (e▸k3.1);obtain⟨l1,l2,l3⟩:=eK k k3 (ei.lJ I r omQ k2 k3.1);have z1:=dP (X:=X) (Nat.zero_le q) I.qN;have z2:=dP (X:=X) (Nat.zero_le (k+1)) (by have:=I.qN;omega);refine fin (k+1) (by have:=I.qN;omega) l2 ?_;rw[I.i1 b ri omQ,vT (X:=X) (show k+1≤q by omega) I.qN (λj h1 h2=>k4 j omQ h2) b omQ]
 ·have hqi:q<i∨q=i:=by omega
  rcases MI X.hv (i-q) q with bQ |⟨k,k1,k2,k3,k4⟩
  ·exact g1 C (I.nM h omQ (λk h1 h2=>bQ k h1 omQ) b ri BM)
  ·obtain⟨l1,l2,l3⟩:=eK k k3 (ei.fP I r k1 omQ k3.1);have z1:=dP (X:=X) (Nat.zero_le q) I.qN;refine fin k omQ l1 ?_;rw[I.i1 b ri omQ,vT (X:=X) k1 omQ k4 b omQ]
theorem Inv.cut (I:Inv X s q a w m C) (r:ei X s i o) (hl:JP X.P o.op=true) (hh:¬X.bu i) (hw:X.W i=true) (hD:∀x v,ff (X.F i) x=some v→x∈o.op.operands→bD (X.DS s) v∧bD (Dg X.D0 X.H i) v) :
  cO X.P X.c o.op (ff (X.F i)) C=some (X.V i,C)∧X.H (i+1)=X.H i:=by
 have hi:=JN r.ho;have hs:=(X.tr.step i o r.ho).1.yes hw;obtain⟨e1,x,hx,u,hu,D5,g1,g2⟩:=Z0 hl hs;refine⟨?_,e1⟩;by_cases lD:∃b off l k,u=.slice b off l k true
 rotate_left
 ·simp_all
 obtain⟨b,off,l,k0,rfl⟩:=lD;obtain⟨d1,d2⟩:=hD x _ hu hx;have ri:X.DS s b:=d1;have BM:b<X.nx i:=by
  rcases(show Dg X.D0 X.H i b from d2)with h |h
  ·exact Nat.lt_of_lt_of_le (Xq h) (dP (Nat.zero_le _) omQ)
  ·exact h.2
 have eK:∀k,X.hv k→kw X.M i k=true→xv (.slice b off l k0 true) (kJ X.P o.op) (X.V i) (X.H k)=true∧xv (.slice b off l k0 true) (kJ X.P o.op) (X.V i) (X.H (k+1))=true∧b<X.nx 0:=by
  rintro k ⟨⟨ok,dX,EW⟩,nh⟩ dI;obtain⟨z,hz,h1⟩:=X.BG i k o ok r.ho dX (by simp_all[gB,Bool.true_or,Bool.or_true]) EW hw nh dI;rw[D5]at hz;cases hz;unfold rY at h1
  split at h1
  ·rename_i hv;rw[hv]at hs;exact(qY7 hl hs).elim
  ·simp only[Bool.and_eq_true]at h1;exact⟨h1.1,h1.2.1,zE h1.2.2⟩
 have fin:∀k,k≤X.N→xv (.slice b off l k0 true) (kJ X.P o.op) (X.V i) (X.H k)=true→C.get b=(X.H k).get b→cO X.P X.c o.op (ff (X.F i)) C=some (X.V i,C):=by intro k _ h1 h2;exact g2 C (Gr (λ_ _ e=>by cases e) (λb' pO l' k' e=>by simp_all) h1)
 rcases Nat.lt_or_ge i q with h |h
 ·rcases qYR X.hv q i with bQ |⟨k,k1,k2,k3,k4⟩
  ·exact g1 C λb' pO l' k' e=>by cases e;exact I.lI omQ bQ b ri BM
  ·have rL:k≠i:=λe=>hh (e▸k3.1);obtain⟨l1,l2,l3⟩:=eK k k3 (ei.lJ I r omQ k2 k3.1);have z1:=dP (X:=X) (Nat.zero_le q) I.qN;have z2:=dP (X:=X) (Nat.zero_le (k+1)) (by have:=I.qN;omega);refine fin (k+1) (by have:=I.qN;omega) l2 ?_;rw[I.i1 b ri omQ,vT (X:=X) (show k+1≤q by omega) I.qN (λj h1 h2=>k4 j omQ h2) b omQ]
 ·rcases MI X.hv (i-q) q with bQ |⟨k,k1,k2,k3,k4⟩
  ·exact g1 C λb' pO l' k' e=>by cases e;exact I.nM h omQ (λk h1 h2=>bQ k h1 omQ) b ri BM
  ·obtain⟨l1,l2,l3⟩:=eK k k3 (ei.fP I r k1 omQ k3.1);have z1:=dP (X:=X) (Nat.zero_le q) I.qN;refine fin k omQ l1 ?_;rw[I.i1 b ri omQ,vT (X:=X) k1 omQ k4 b omQ]
theorem Inv.conv (I:Inv X s q a w m C) (r:ei X s i o) (hl:kP X.P o.op=true) (hw:X.W i=true) (hD:∀x v,ff (X.F i) x=some v→x∈o.op.operands→bD (X.DS s) v∧bD (Dg X.D0 X.H i) v) :
  cO X.P X.c o.op (ff (X.F i)) C=some (X.V i,C)∧X.H (i+1)=X.H i:=by
 have hi:=JN r.ho;have hs:=(X.tr.step i o r.ho).1.yes hw;obtain⟨e1,hn,⟨st,cd⟩,x,hx,u,hu,D5,g1⟩:=Nw hl hs;refine⟨g1 C ?_,e1⟩;rintro b off l k0 p rfl;obtain⟨d1,d2⟩:=hD x _ hu hx;have ri:X.DS s b:=d1;have BM:b<X.nx i:=by
  rcases(show Dg X.D0 X.H i b from d2)with h |h
  ·exact Nat.lt_of_lt_of_le (Xq h) (dP (Nat.zero_le _) omQ)
  ·exact h.2
 have Rk:¬X.bu i:=by rintro⟨o',hX,hh⟩;rw[r.ho]at hX;simp_all[qG5]
 have eK:∀k,X.hv k→kw X.M i k=true→X.nx (k+1)≤b:=by rintro k ⟨⟨ok,dX,EW⟩,nh⟩ dI;obtain⟨z,hz,h1⟩:=X.BG i k o ok r.ho dX (by simp_all[gB,Bool.or_true]) EW hw nh dI;rw[D5]at hz;cases hz;rw[hn,cd]at h1;exact wA h1
 rcases Nat.lt_or_ge i q with h |h
 ·refine I.lI omQ (λk h1 h2 hk=>?_) b ri BM;by_cases e:k=i
  ·subst e;exact Rk hk.1
  ·have g:=eK k hk (ei.lJ I r omQ h2 hk.1);have:=dP (X:=X) (show i≤k+1 by omega) (by have:=I.qN;omega);omega
 ·by_cases AN:b<X.nx q
  ·rw[I.i1 b ri AN];refine(vT h omQ (λk h1 h2 hk=>?_) b AN).symm;have g:=eK k hk (ei.fP I r h1 h2 hk.1);have:=dP (X:=X) (show q≤k+1 by omega) omQ;omega
  ·rcases ri with hb |⟨j,hj,h1,h2⟩
   ·have:=Xq hb;have:=dP (X:=X) (Nat.zero_le q) I.qN;omega
   ·have IW:=I.sN j hj;have nK:q≤j:=by
     rcases Nat.lt_or_ge j q with h |h
     ·have:=dP (X:=X) (show j+1≤q by omega) I.qN;omega
     omega
    have Rc:j<i:=by
     rcases Nat.lt_or_ge j i with h |h
     ·omega
     ·have:=dP (X:=X) h omQ;omega
    rw[I.i2 j nK hj b h1 h2];refine(vT (X:=X) (show j+1≤i by omega) omQ (λk g1 g2 hk=>?_) b h2).symm;have g:=eK k hk (ei.fP I r omQ g2 hk.1);have:=dP (X:=X) (show j+1≤k+1 by omega) omQ;omega
end Cx
end Go.Ae
namespace Go.Ae
open Go
namespace Cx
variable {X:Cx} {s:Nat→Bool} {i q:Nat} {o:Oper} {a:Act} {w w':World} {m m':Mp} {C:AH}
noncomputable def FL (X:Cx) (o:Oper) (i:Nat):Nat→Option AV:=λt=>if(looks X.ops.toList o).testBit t=true then X.F i t else none
theorem MA {o:Oper} (i:Nat) (g:AH):cO X.P X.c o.op (ff (X.F i)) g=cO X.P X.c o.op (ff (X.FL o i)) g:=by
 refine qqA λx hx=>?_;cases x with
 |tmp t=>simp_all[ff,FL,Gd]
 |_=>rfl
theorem Rl (I:Inv X s q a w m C) (r:ei X s i o) {t:Nat} {v:AV} (h:X.FL o i t=some v):a.tmps[t]? =some (cv m v)∧bD (X.DS s) v∧bD (Dg X.D0 X.H i) v:=by
 unfold FL at h
 split at h
 ·rename_i hb;obtain⟨h1,h2⟩:=I.slot t v (by rw[r.read hb];grind);exact⟨h1,h2,(X.gh i (Nat.le_of_lt (JN r.ho))).slot t v h⟩
 grind
theorem Rm {D:Nat→Prop} (I:Inv X s q a w m C) (r:ei X s i o) (hD:∀v,bD (X.DS s) v→bD (Dg X.D0 X.H i) v→bD D v):eX m D a.eval (ff (X.FL o i)):=by
 intro x v e;cases x with
 |tmp t=>obtain⟨h1,h2,h3⟩:=Rl I r e;simp_all[Act.eval,Array.getD_eq_getD_getElem?,Option.getD_some]
 |const k=>simp only[ff]at e;obtain⟨h1,h2⟩:=XJ (m:=m) (D:=D) e;exact⟨h1.symm,h2⟩
 |global g=>trivial
 |func f=>simp only[ff,Option.some.injEq]at e;subst e;trivial
theorem qzI (I:Inv X s q a w m C) (r:ei X s i o):Region.wanted o (yielded X.ops a.tmps)=X.W i:=by
 obtain⟨st,_⟩:=X.tr.step i o r.ho;cases hg:o.guard with
 |none=>rw[st.g0 hg];grind[Region.wanted]
 |some g=>
  obtain⟨d,vg,h1,h2,h3⟩:=st.g1 g hg;have hF:X.FL o i d=some vg:=by simp_all[FL,qJn]
  obtain⟨h4,_⟩:=Rl I r hF;unfold QB at h1;rw[hg]at h1;simp only[Option.bind_some,ya,Array.getElem?_toList,Option.bind_eq_some_iff]at h1;obtain⟨p,hp,Ex⟩:=h1;have hy:yielded X.ops a.tmps g.1=(match cv m vg with | .bool b=>some b |_=>none):=by unfold yielded;grind
  rw[h3];cases IY:Qa vg g.2
  ·refine ZG hg ?_;rw[hy];cases vg<;>simp only[cv]<;>first |(intro hh;cases hh;done) |skip
   grind[Qa]
  ·refine jQp hg ?_;rw[hy];cases vg<;>simp only[Qa,Bool.false_eq_true]at IY
   grind[cv]
theorem Inv.step (I:Inv X s q a w m C) (r:ei X s i o) {rc:Option Nat} {nn:Nat} {Q:Exit→Act→World→Prop} {K:Act→World→Prop}
  (hK:∀q' a' w' m' C',Inv X (ins s i) q' a' w' m' C'→K a' w'):wpOpIn (FW rc) nn X.P X.ops Q i K a w:=by
 have hi:=JN r.ho;obtain⟨st,_⟩:=X.tr.step i o r.ho;unfold wpOpIn;rw[r.ho];simp only[qzI I r];cases hw:X.W i with
 |false=>
  simp only[Bool.false_eq_true,if_false];refine⟨λ_ _=>trivial,?_⟩;obtain⟨hV,hH⟩:=st.no hw;by_cases hh:X.bu i
  ·obtain rfl:=I.nL r hh;obtain⟨q',m',C',I'⟩:=I.eI r (m1:=m) (D1:=DQ X s i) (by rw[hH];exact Ext.refl ..) (by rw[hH];exact I.oI) (by rw[hV];trivial);rw[hV]at I';exact hK _ _ _ _ _ I'
  ·have I':=I.pure r hh hH (Ext.refl ..) I.rel (by rw[hV];trivial);rw[hV]at I';exact hK _ _ _ _ _ I'
 |true=>
  simp only[if_true];have hs:=st.yes hw;by_cases hh:X.bu i
  ·obtain rfl:=I.nL r hh;rw[MA]at hs;refine El X.hc (Rm I r (λv h1 h2=>I.uz h1 (Nat.le_refl _) h2)) I.oI hs ?_;intro m' D' w' E R' hv;obtain⟨q',m2,C2,I'⟩:=I.eI r E R' hv;exact hK _ _ _ _ _ I'
  ·have EJ:zm X.P o.op=false:=by
    cases h:zm X.P o.op
    ·rfl
    ·exact absurd ⟨o,r.ho,h⟩ hh
   have quiet:cO X.P X.c o.op (ff (X.F i)) C=some (X.V i,C)→X.H (i+1)=X.H i→o.wpIn (FW rc) nn X.P a w K Q:=by
    intro e hH;rw[MA]at e;refine El X.hc (Rm I r (λv h1 _=>h1)) I.rel e ?_;intro m' D' w' E R' hv;have hD:D'=X.DS s:=by
     rw[E.sE]
     funext b
     simp;omega
    subst hD;exact hK _ _ _ _ _ (I.pure r hh hH E R' hv)
   have Rn:∀x v,ff (X.F i) x=some v→x∈o.op.operands→bD (X.DS s) v∧bD (Dg X.D0 X.H i) v:=by
    intro x v hx hm;cases x with
    |tmp t=>
     have hF:X.FL o i t=some v:=by unfold FL;rw[iJ (Gd hm)];exact hx
     exact(Rl I r hF).2
    |const k=>exact⟨(XJ (m:=m) hx).2,(XJ (m:=m) hx).2⟩
    |global g=>cases hx
    |func f=>cases hx;trivial
   rcases VA EJ with hc |hc |hc
   ·cases nJ:JP X.P o.op
    ·cases mI:kP X.P o.op
     ·obtain⟨h1,h2⟩:=qKD hc nJ mI hs;simp_all
     ·obtain⟨h1,h2⟩:=I.conv r mI hw Rn
      simp_all
    ·obtain⟨h1,h2⟩:=I.cut r nJ hh hw Rn;simp_all
   ·obtain⟨h1,h2⟩:=I.load r (qZb hc) hw Rn;simp_all
   ·obtain⟨mk,x,h1,h2,h3,h4⟩:=Ol hc hs;have e:=h4 C;rw[MA]at e;refine El X.hc (Rm I r (λv h1 _=>h1)) I.rel e ?_;intro m' D' w' E R' hv;obtain⟨m2,C2,I'⟩:=I.fresh r hh h1 h2 h3 E R';exact hK _ _ _ _ _ I'
theorem nN (X:Cx):∀j,j≤X.N→∀b,X.nx 0≤b→b<X.nx j→∃i,i<j∧X.nx i≤b∧b<X.nx (i+1):=by
 intro j
 induction j with
 |zero=>simp
 |succ j ih=>
  grind
theorem Inv.done (I:Inv X s q a w m C) (cX:∀i,i<X.N→s i=true) {tm':PT AV} (ht:Ql tm' (X.F X.N)) :
  AD X.P X.m0 X.D0 (X.H 0) X.w0 X.n X.a0.defers a tm' m (DQ X s X.N) (X.H X.N) w:=by
 have BK:q=X.N:=by
  rcases Nat.lt_or_ge q X.N with h |h
  ·have:=(I.hs q (I.hq h)).1 (cX q h);omega
  ·have:=I.qN;omega
 subst BK;have IZ:∀b,X.DS s b→DQ X s X.N b:=λb hb=>⟨hb,jX0 I.sN hb⟩;have gN:=X.gh X.N (Nat.le_refl _);refine⟨⟨?_,I.map,I.size,?_,gN.nx,?_,I.os,I.tape,I.output,?_,λb t hb hg=>gN.ni b t (Re I.sN hb.1 hb.2) hg⟩,I.oI,⟨I.AM,?_⟩,I.df⟩
 ·intro b hb;exact IZ b (.inl hb)
 ·intro c hc hn;obtain⟨k1,k2⟩:=I.keep c hc hn;refine⟨k1,?_⟩;rintro⟨b,hb,hl,he⟩;exact k2 ⟨b,hb.1,by unfold live at*;rw[I.i1 b hb.1 hb.2];grind,he⟩
 ·intro b hb hn;refine⟨gN.un b hb hn,?_⟩;rintro⟨h |⟨j,hj,h1,_⟩,_⟩
  ·grind
  ·have:=dP (X:=X) (Nat.zero_le j) (Nat.le_of_lt (I.sN j hj));have hb:b<X.nx 0:=hb;omega
 ·intro b;constructor
  ·rintro⟨h,ax⟩;exact Re I.sN h ax
  ·rintro(h |⟨h1,h2⟩)
   ·exact IZ b (.inl h)
   ·obtain⟨i,hi,h3,h4⟩:=X.nN X.N (Nat.le_refl _) b h1 h2;exact IZ b (.inr ⟨i,cX i hi,h3,h4⟩)
 ·intro t v hv;have:=I.slot t v (by rw[jVr cX _ (Nat.le_refl _)];exact ht t v hv);grind[QG]
def aT (N:Nat) (s:Nat→Bool):Nat:=((List.range N).filter λi=>!s i).length
theorem jXN {N:Nat} (hi:i<N) (un:s i=false):aT N (ins s i)<aT N s:=by
 unfold aT;have:(List.range N).filter (λj=>!ins s i j)=((List.range N).filter λj=>!s j).filter λj=>!(j==i):=by
  simp[List.filter_filter,ins,Bool.not_or]
 rw[this];rw[List.length_filter_lt_length_iff_exists];grind
theorem qxA {N:Nat} (h:aT N s=0):∀i,i<N→s i=true:=by grind[aT,List.length_eq_zero_iff,List.filter_eq_nil_iff]
theorem qzM {listed:Array Bool} (bP:listed.size=X.ops.size) (h:Region.ready .any X.ops listed=[]):∀i,i<X.N→listed.getD i false=true:=by
 intro i
 induction i using Nat.strongRecOn with
 |_ i ih=>
  intro hi;cases hl:listed.getD i false
  ·exfalso;obtain⟨o,ho⟩:=X.lG hi;have:i∈Region.ready .any X.ops listed:=by
    rw[mem_ready];have ax:i<listed.size:=by grind
    refine⟨by grind,o,ho,λe he hb=>?_⟩;have:=X.st.back i o ho e he hb;grind
   grind
  rfl
theorem BN {rc:Option Nat} {nn:Nat} {Q:Exit→Act→World→Prop} (hQ:∀s q a w m C,Inv X s q a w m C→(∀i,i<X.N→s i=true)→Q .normal a w) :
  ∀(fuel:Nat) (listed:Array Bool) (q:Nat) (a:Act) (w:World) (m:Mp) (C:AH),listed.size=X.ops.size→Inv X (λi=>listed.getD i false) q a w m C→aT X.N (λi=>listed.getD i false)≤fuel→
   wpAnyIn (FW rc) nn X.P .any X.ops Q fuel listed a w:=by
 intro fuel
 induction fuel with
 |zero=>
  intro listed q a w m C bP I hc;have cX:=qxA (Nat.le_zero.1 hc);refine⟨?_,hQ _ q a w m C I cX⟩;rw[List.eq_nil_iff_forall_not_mem];intro i hi;obtain⟨h1,o,ho,_⟩:=mem_ready.1 hi;have ax:=JN ho;grind
 |succ fuel ih=>
  intro listed q a w m C bP I hc;refine⟨λh=>hQ _ q a w m C I (qzM bP h),?_⟩;intro i hi;obtain⟨h1,o,ho,h2⟩:=mem_ready.1 hi;have ax:=JN ho;have I2:i<listed.size:=by grind
  have un:listed.getD i false=false:=by grind
  have uC:(λj=>(listed.setIfInBounds i true).getD j false)=ins (λj=>listed.getD j false) i:=by
   funext j
   by_cases e:j=i
   ·simp_all[ins]
   ·rw[getD_set_ne false (λee=>e ee.symm)];simp[ins,e]
  refine I.step (I.rdy ho un h2) ?_;intro q' a' w' m' C' I';refine ih _ q' a' w' m' C' (by grind) (by grind) ?_;rw[uC];have:=jXN (N:=X.N) (s:=λj=>listed.getD j false) ax un;omega
theorem start (X:Cx) (sI:∀t v,X.F 0 t=some v→X.a0.tmps[t]? =some (cv X.m0 v)∧bD X.D0 v) (bP:X.n≤X.a0.tmps.size) {s:Nat→Bool} (hs:∀i,s i=false) :
  ∃q C,Inv X s q X.a0 { X.w0 with drawn:=X.w0.drawn+1 } X.m0 C:=by
 have hex:∃q,q≤X.N∧(q<X.N→X.bu q)∧∀k,k<q→¬X.bu k:=by
  rcases MI X.bu X.N 0 with h |⟨k,h1,h2,h3,h4⟩
  ·exact⟨X.N,Nat.le_refl _,λh=>by omega,λk hk=>h k (Nat.zero_le _) omQ⟩
  grind
 obtain⟨q,uD,uE,hq3⟩:=hex;have cd:∀i,∀k,i≤k→k<q→¬(X.bu k∧X.W k=true):=λi k _ h2 h=>hq3 k h2 h.1;have hD:X.DS s=X.D0:=by
  funext b
  refine propext ⟨λh=>h.elim id ?_,.inl⟩;grind
 have bQ:∀i,s i=true→False:=λi h=>by grind
 refine⟨q,⟨X.nx X.N,(X.H 0).rc,(X.H 0).t⟩,{ qN:=uD,hq:=uE,hs:=?_,sN:=λi h=>(bQ i h).elim,down:=λi _ h=>(bQ i h).elim,rl:=?_,sF:=Nat.le_refl _,i1:=?_,i2:=λi _ h=>(bQ i h).elim,i3:=?_,map:=λ_ _=>rfl,size:=Nat.le_refl _,keep:=?_,os:=rfl,tape:=rfl,output:=rfl,AM:=bP,slot:=?_,df:=rfl }⟩
 ·grind
 ·rw[hD];refine⟨?_,X.nI.inj,λb hb=>Nat.lt_of_lt_of_le (Xq hb) (dP (Nat.zero_le _) (Nat.le_refl _)),X.nI.dv⟩;intro b hb;obtain⟨x,hx,hr,hd⟩:=X.nI.bG b hb;exact⟨x,hx,hr.congr (D:=X.D0) (λ_ _=>rfl) hd rfl,hd⟩
 ·intro b hb ax;rw[hD]at hb;rw[vT (X:=X) (Nat.zero_le q) uD (cd 0) b (Xq hb)];rfl
 ·grind[vT]
 ·intro c hc hn;rw[hD];trivial
 ·intro t v hv;rw[jJr hs]at hv;grind
end Cx
end Go.Ae
namespace Go.Ae
open Go
variable {P:Program} {c:CV}
theorem qj4 {t:PT Nat} {i:Nat} {a v:AV} {n:Option Nat} {nx:Nat} {r:AV×AH}:∀(hs:List Xw) (k:R),DV t i a n v nx hs k=some r→
  k=some r∧∀q∈hs,kw t i q.j=true→rY a n v q.hb q.ha nx=true:=by
 intro hs
 induction hs with
 |nil=>simp
 |cons q hs ih=>
  intro k e;obtain⟨j,hb,ha⟩:=q;simp only[DV]at e;cases hl:kw t i j
  ·grind
  ·rw[hl]at e;simp only[da]at e;unfold Xz at e;grind
theorem qJh {t:PT Nat} {hs:List Xw} {nx:Nat} {r:AV×AH}:∀(ls:List YX) (k:R),Iv t hs nx ls k=some r→
  k=some r∧∀l∈ls,∀q∈hs,kw t l.i q.j=true→rY l.a l.n l.v q.hb q.ha nx=true:=by
 intro ls
 induction ls with
 |nil=>simp
 |cons l ls ih=>
  intro k e;obtain⟨i,a,n,v⟩:=l;simp only[Iv]at e;obtain⟨e1,e2⟩:=qj4 _ _ e;grind
theorem ZU (hm:P.follows .mixedOrders=true) (hc:vJ P c) {n nn:Nat} {ops:Array Oper} {rc:Option Nat} {Q:Exit→Act→World→Prop} {r:AV×AH} {id:Nat}
  {m:Mp} {D:Nat→Prop} {h:AH} {w:World} {a:Act} {tm:PT AV} {k:PT AV→AH→R} (RR:Rel P m D h w) (T:eU m D n a tm)
  (hk:∀m' D' h' w' a' tm',AD P m D h w n a.defers a' tm' m' D' h' w'→k tm' h'=some r→Q .normal a' w')
  (cd:Iu P ops=true) {LP:YX→Prop} {HP:Xw→Prop} {F1:Nat→Option AV} {h1:AH} {cW:PT AV} (S:nF P c n ops LP HP 0 (λt=>tm.get t) h ops.size F1 h1) (T1:Ql cW F1) (e1:k cW h1=some r)
  (eK:∀l hr,LP l→HP hr→(∃oi,ops[l.i]? =some oi∧gB P oi.op=true)→(∃oj,ops[hr.j]? =some oj∧zm P oj.op=true)→kw (kq ops.toList 0 .e) l.i hr.j=true→
   rY l.a l.n l.v hr.hb hr.ha h.nx=true):(Code.region id ops true).wpIn (FW rc) nn P Q a w:=by
 obtain⟨_,F,H,V,W,Ro,sJ,hFN,hHN,oK⟩:=S.fns;have ax:∀i o,ops[i]? =some o→i<ops.size:=λi o h=>(Array.getElem?_eq_some_iff.1 h).1;have tr:Tr P c n ops LP HP F H V W:=⟨λi o ho=>oK i o (Nat.zero_le _) (ax i o ho) ho⟩;have Rp:∀t v,F 0 t=some v→a.tmps[t]? =some (cv m v)∧bD D v:=λt v hv=>by rw[Ro]at hv;exact T.at_ t v hv
 have sK:Rel P m D (H 0) w:=by grind
 have gh:=λi hi=>qxO hc tr sK (λt v hv=>(Rp t v hv).2) (i:=i) hi;have gm:=(qXb hc tr sK (λt v hv=>(Rp t v hv).2) ops.size (Nat.le_refl _)).2;have BG:∀i j oi oj,ops[i]? =some oi→ops[j]? =some oj→gB P oi.op=true→zm P oj.op=true→W i=true→W j=true→kw (kq ops.toList 0 .e) i j=true→
   ∃a,YZ (ff (F i)) oi.op=some a∧rY a (kJ P oi.op) (V i) (H j) (H (j+1)) (H 0).nx=true:=by
  intro i j oi oj mu EX hl hh hwi hwj dI;obtain⟨sti,_⟩:=oK i oi (Nat.zero_le _) (ax i oi mu) mu;obtain⟨stj,_⟩:=oK j oj (Nat.zero_le _) (ax j oj EX) EX;obtain⟨z,hz,hLP⟩:=sti.ld hwi hl;have hHP:=stj.hv hwj hh;have g1:=eK _ _ hLP hHP ⟨oi,mu,hl⟩ ⟨oj,EX,hh⟩ dI;grind
 let X:Cx:=⟨P,c,n,ops,kq ops.toList 0 .e,LP,HP,F,H,V,W,m,D,w,a,hc,tr,qyl cd,sK,gh,λi hi=>(gm i hi).1,λi hi=>(gm i hi).2,BG⟩
 refine wpIn_region_any hm ?_;obtain⟨q,C,I⟩:=Cx.start X Rp T.size (s:=λi=>(Array.replicate ops.size false).getD i false) (λi=>by simp[Array.getD]);refine Cx.BN (X:=X) ?_ ops.size (Array.replicate ops.size false) q a _ m C (by grind) I ?_
 ·intro s q a' w' m' C' I' cX;have O:=I'.done cX (tm':=cW) (by show Ql cW (F ops.size);grind);have O':AD P m D h w n a.defers a' cW m' (Cx.DQ X s X.N) h1 w':=by
   have e0:X.H 0=h:=sJ;have eN:X.H X.N=h1:=hHN;grind
  grind
 ·unfold Cx.aT;refine Nat.le_trans (List.length_filter_le _ _) ?_;simp;exact Nat.le_refl _
theorem qW6 (hm:P.follows .mixedOrders=true) (hc:vJ P c):NH P c:=by
 intro n nn ops Ls rc Q r id m D h w a tm k RR T e hk;simp only[Ph,yq]at e;obtain⟨cd,e⟩:=e;have hl:∀i o,ops.toList[i]? =some o→ops[0+i]? =some o:=λi o hi=>by grind
 have h0:Ql tm (λt=>tm.get t):=λt v hv=>hv;cases tT:Y0 P (gB P) (kq ops.toList 0 .e) ops.toList ops.toList 0
 ·rw[tT]at e;simp only[da]at e;obtain⟨cW,h1,F1,e1,T1,S⟩:=qkt _ ops.toList 0 Ls tm _ h k hl h0 e;rw[Nat.zero_add,Array.length_toList]at S;refine ZU hm hc RR T hk cd S T1 e1 ?_;rintro l hr _ _ ⟨oi,mu,hli⟩ ⟨oj,EX,Ra⟩ dI;have:=Ox _ _ tT l.i oi (by grind) hli hr.j oj (by grind) Ra;grind
 ·rw[tT]at e;simp only[da]at e;cases Ls with
  |nil=>grind
  |cons L Ls=>simp only[yp]at e;obtain⟨cW,h1,F1,nH,eD,e1,T1,_,_,S⟩:=qxd ops.toList 0 [] tm _ h [] [] _ hl h0 (λ_ hx=>(by grind)) e;obtain⟨e2,eK⟩:=qJh _ _ e1;rw[yq]at e2;obtain⟨cX,e2⟩:=e2;have S:=S (λl=>l∈nH) (λq=>q∈eD) (λ_ h=>h) (λ_ h=>h);rw[Nat.zero_add,Array.length_toList]at S;refine ZU hm hc RR T hk cd S (qYS T1 L cX) e2 ?_;grind
theorem qJ5 {tab:BT} {rt:List RT} (hm:P.follows .mixedOrders=true) (ht:TabOk P tab rt) (k:Nat):vJ P (callT tab rt k) :=
 qxI ht (λ_ hc=>qW6 hm hc) k
theorem Rel.empty (P:Program) (m:Mp) (w:World) (hg:Gl P w):Rel P m (λ_=>False) AH.empty w:=⟨⟨λ_ hb=>hb.elim,λ_ _ hb=>hb.elim,λ_ hb=>hb.elim,λ_ _ hb=>hb.elim⟩,λp hp=>let ⟨g,h1,h2⟩:=hg p hp;⟨g,h1,h2,λ⟨_,hb,_⟩=>hb⟩⟩
theorem closed_true {tab:BT} {rt:List RT} (hm:P.follows .mixedOrders=true) (ht:TabOk P tab rt) {k:Nat} {f:FuncId} (e:isTrue (callT tab rt k (.fn f [] []) [] AH.empty)=true) (n:Nat) (w:World) (hg:Gl P w) :
  CallsIn Fence.wide n P f #[] w λe w'=>e=.returned (.bool true)∧RowKit.Below w.heap.size w w':=by
 unfold isTrue at e
 split at e
 rotate_left
 ·grind
 rename_i h' he;have:=(qJ5 hm ht k (.fn f [] []) [] AH.empty _ he (λ_=>(0,0)) _ w (Rel.empty P _ w hg) ⟨trivial,trivial⟩ trivial).2 n;refine CallsIn.mono this ?_;rintro ee w' ⟨m',D',rfl,X,R',_⟩;refine⟨rfl,X.os,X.tape,X.output,X.size,?_⟩;intro k hk;exact(X.keep k hk (λ⟨b,hb,_⟩=>hb)).1
end Go.Ae
namespace Go.Ae
open Go
variable {P:Program}
def callOk (P:Program) (f:Nat):Bool:=match P.funcs[f]? with
 | some fn => !(fn.name == "runtime.NumGoroutine") && !fn.body.isNone
 |none=>false
theorem qK1 {f:Nat} (h:callOk P f=true) (as:Array Value) (W:World):(callFunc f as).run P W=.ok (.enter f as) W:=by
 unfold callOk at h
 split at h
 ·rename_i fn hf;simp only[Bool.and_eq_true,Bool.not_eq_true']at h;obtain⟨h1,h2⟩:=h;unfold callFunc;have hp:(program:Sem Program).run P W=.ok P W:=rfl;rw[qq hp];simp only[hf,h1,h2,Bool.false_eq_true,if_false];rfl
 grind
theorem BT.sL (g:Nat) (w:WF) (f:Nat):(BT.leaf g w).get f=if g=f then some w else none:=by
 show Bool.rec (motive:=λ_=>Option WF) none (some w) (Nat.beq g f)=_;by_cases h:g=f
 ·simp_all
 ·rw[iQ h,vC h]
theorem BT.sM (m:Nat) (l r:BT) (f:Nat):(BT.node m l r).get f=l.get f∨(BT.node m l r).get f=r.get f:=by
 show Bool.rec (motive:=λ_=>Option WF) (r.get f) (l.get f) (Nat.ble f m)=_∨Bool.rec (motive:=λ_=>Option WF) (r.get f) (l.get f) (Nat.ble f m)=_;cases Nat.ble f m
 all_goals simp
theorem BT.sP {p:Nat→WF→Prop}:∀{t:BT} {f:Nat} {g:WF},t.all p→t.get f=some g→p f g∧f∈t.fs:=by
 intro t
 induction t with
 |no=>nofun
 |leaf k w=>
  intro f g ha h;rw[BT.sL]at h;by_cases e:k=f
  ·rw[iJ e]at h;cases h;subst e;exact⟨ha,by simp[BT.fs]⟩
  grind
 |node m l r il ir=>
  intro f g ha h;rcases BT.sM m l r f with hl |hr
  ·rw[hl]at h;obtain⟨h1,h2⟩:=il ha.1 h;grind[BT.fs]
  ·rw[hr]at h;obtain⟨h1,h2⟩:=ir ha.2 h;grind[BT.fs]
theorem TabOk.of {tab:BT} {rt:List RT} (h1:tab.all (WX P)) (h2:tab.fs.all (λf=>callOk P f)=true) (h3:∀p∈rt,DW P p.f p.pos p.L p.run):TabOk P tab rt:=by
 refine⟨?_,?_,h3⟩
 ·intro f g hg;exact(BT.sP h1 hg).1
 grind[qK1,List.all_eq_true,BT.sP]
open Go.RowKit
theorem post_below {H:Type} {enc:TypeId×Value→H} {f:Func} {s:ChangeSpec} {apart fresh handsOn again:Bool} {W W':World} {args:Array Value} {v:Value} {ds gs:List (DataW H)} {before pa pv:List MemPlace}
  (whole:DataW.Whole enc P f.params.toList s.vars apart W args.toList ds gs before) (parts:before=pa++pv) (below:Below W.heap.size W W')
  (out:∀(b:Nat) (sp:Nat→Bool) (hd:Bool),DataW.TrodAll enc P W' b sp hd f.resultTypes.toList (v.resultList f.resultTypes.size) (s.fn H (ds++gs)).results [])
  (ins:∀sp:Nat→Bool,(∀p∈before,sp p.block=true)→DataW.TrodAll enc P W' 0 sp true f.params.toList args.toList (s.fn H (ds++gs)).args pa)
  (glb:∀sp:Nat→Bool,(∀p∈before,sp p.block=true)→DataW.TrodVars enc P W' sp s.vars (s.fn H (ds++gs)).vars pv)
  (wide:∀(j:Nat) (t:TypeId) (r:Value),f.resultTypes[j]? =some t→(v.resultList f.resultTypes.size)[j]? =some r→Value.okWide P W' .any 0 t r) :
  s.post enc P f apart fresh handsOn again W args v W':=by
 have inside:∀p∈before,p.block<W.heap.size:=λp hp=>whole.lt p hp;have oL:∀p∈before,(λb=>decide (b<W.heap.size)) p.block=true:=λp hp=>iG (inside p hp);have all:∀p∈before,(λ_:Nat=>true) p.block=true:=λ_ _=>rfl;have BO:=whole;obtain⟨_,_,_,_,_,live,Rq⟩:=BO;have sQ:([]++pa)++pv=before:=by grind
 refine⟨ds,gs,before,[],pa,pv,whole,out _ _ _,ins _ oL,glb _ oL,?_,λ_=>⟨wide,_,_,([]++pa)++pv,⟨[]++pa,pv,ChangeShapes.trodAll_append (ins _ all) (out _ _ _),glb _ all,rfl,?_,?_⟩,?_⟩⟩
 ·refine World.keptBut_mono (λp hp=>?_) (below.frame (· ∈before));grind
 ·intro b off hp;have dY:MemPlace.cell b off∈before:=by grind
  rw[below.frozen (inside _ dY)];exact live b off dY
 all_goals grind
end Go.Ae
namespace Go.Ae
open Go
theorem jXB {α:Type} (f:Nat→Option α):∀N,∃t:aQ α,∀i,aQ.get t i=if i<N then f i else none:=by
 intro N
 induction N with
 |zero=>exact⟨.e,λi=>by rfl⟩
 |succ N ih=>
  obtain⟨t,ht⟩:=ih;cases hf:f N with
  |none=>
   refine⟨t,λi=>?_⟩;grind
  |some x=>
   refine⟨aQ.set t N x,λi=>?_⟩;rw[aQ.bZ];grind
def KX:Value→AV
 | .bool b=>.bool b
 | .int k n=>.int k n
 | .string s=>.str s.data.toList
 | .pointer none=>.ba
 | .pointer (some ⟨b,o,none⟩)=>.ptr b o
 | .slice none 0 0=>.ap
 | .slice (some a) 0 0=>.cA a
 | .slice (some ⟨b,o,none⟩) len cap=>.slice b o len cap false
 | .nilFunc=>.eG
 | .nilIface=>.dt
 |_=>.undef
def Kr:Value→AV
 | .agg cs=>.agg (cs.toList.map KX)
 |v=>KX v
def UH:Mp:=λb=>(b,0)
def gU (w:World) (b:Nat):Prop:=∃C e fr,w.heap[b]? =some (.cells C e fr)
def AO (w:World) (v:Value):Prop:=cv UH (KX v)=v∧bD (gU w) (KX v)
structure QN (w:World) (h:AH):Prop where
  nx:h.nx=w.heap.size
  bG:∀b C e fr,w.heap[b]? =some (.cells C e fr)→∃t,h.get b=some (.dv t)∧∀i u,aQ.get t i=some u↔∃v,C[i]? =some v∧AO w v∧u=KX v
theorem mirror (w:World):∃h,QN w h:=by
 have key:∀b:Nat,∃x:Option dh,∀(C:Array Value) (e:TypeId) (fr:Nat×Nat),w.heap[b]? =some (.cells C e fr)→∃t,x=some (.dv t)∧∀i u,aQ.get t i=some u↔∃v,C[i]? =some v∧AO w v∧u=KX v:=by
  intro b;by_cases hc:gU w b
  ·obtain⟨C,e,fr,hb⟩:=hc;have cl:∀v,Decidable (AO w v):=λv=>Classical.propDecidable _;obtain⟨t,ht⟩:=jXB (λi=>(C[i]?).bind λv=>if AO w v then some (KX v)else none) C.size;refine⟨some (.dv t),λC' e' fr' bV=>⟨t,rfl,λi u=>?_⟩⟩;grind
  ·exact⟨none,λC e fr hb=>absurd ⟨C,e,fr,hb⟩ hc⟩
 obtain⟨h,h1,h2⟩:=Cx.pC (λb=>Classical.choose (key b)) w.heap.size w.heap.size;refine⟨h,h1,λb C e fr hb=>?_⟩;grind
theorem QN.mM {w:World} {h:AH} (M:QN w h) {b:Nat} (hb:gU w b):¬live h b:=by obtain⟨C,e,fr,hc⟩:=hb;obtain⟨t,ht,_⟩:=M.bG b C e fr hc;rintro⟨x,hx,hl⟩;rw[ht]at hx;cases hx;exact hl
theorem QN.nI {P:Program} {w:World} {h:AH} (M:QN w h):Rel0 P UH (gU w) h w:=by
 refine⟨?_,λb _ hb _ hl=>(M.mM hb hl).elim,?_,?_⟩
 ·intro b hb;obtain⟨C,e,fr,hc⟩:=hb;obtain⟨t,ht,hi⟩:=M.bG b C e fr hc;refine⟨_,ht,⟨C.toList,e,fr,by trivial,?_⟩,?_⟩
  ·intro i v hv;obtain⟨u,h1,h2,rfl⟩:=(hi i v).1 hv;rw[h2.1];grind
  ·intro i v hv;obtain⟨u,h1,h2,rfl⟩:=(hi i v).1 hv;exact h2.2
 ·rintro b ⟨C,e,fr,hc⟩;rw[M.nx];grind
 ·rintro b t _ _ ⟨b',bV,hl,_⟩;exact M.mM bV hl
theorem QN.rel {P:Program} {w:World} {h:AH} (M:QN w h) (hg:Gl P w):Rel P UH (gU w) h w :=
 ⟨M.nI,λp hp=>let ⟨g,h1,h2⟩:=hg p hp;⟨g,h1,h2,λ⟨_,hb,hl,_⟩=>M.mM hb hl⟩⟩
noncomputable def AH.at (h:AH) (b i:Nat):Option AV:=match h.get b with
 |some (.cells c _ _)=>c.fk i
 |some (.dv t)=>aQ.get t i
 |_=>none
def WT (P:Program) (h:AH):Nat→TypeId→List AV→Prop
 | 0,_,_=>False
 |d+1,t,cs=>match P.underlying t with
  |some .bool=>∃b,cs=[.bool b]
  |some (.int k)=>∃n,cs=[.int k n]∧k.min≤n∧n≤k.max
  |some .string=>∃s,cs=[.str s]∧s.length≤maxLen
  |some (.slice e)=>cs=[.ap]∨(∃a,cs=[.cA a])∨P.cellsOf e=0∨∃b off len cap,cs=[.slice b off len cap false]∧len≤cap∧cap≤maxLen∧b<h.nx∧(∃t,h.get b=some (.dv t))∧
    ∀i,i<len→∃row,row.length=P.cellsOf e∧(∀j,j<P.cellsOf e→h.at b (off+i*P.cellsOf e+j)=row[j]?)∧WT P h d e row
  |some (.struct fs)=>cs.length=P.cellsOf t∧∀f∈fs.toList,WT P h d f.type ((cs.drop f.offset).take (P.cellsOf f.type))
  |some (.array n e)=>cs.length=P.cellsOf t∧∀i,i<n→WT P h d e ((cs.drop (i*P.cellsOf e)).take (P.cellsOf e))
  |_=>True
def KH (P:Program):Nat→List Field→Option Nat
 |c,[]=>some c
 |c,f::r=>if f.offset=c then KH P (c+P.cellsOf f.type) r else none
def plainT (P:Program):Nat→TypeId→Bool
 | 0,_=>false
 |d+1,t=>match P.underlying t with
  |some .bool |some (.int _) |some .string=>true
  |some (.slice e)=>Nat.ble 1 (P.cellsOf e)&&plainT P d e
  |some (.struct fs)=>(KH P 0 fs.toList==some (P.cellsOf t))&&fs.toList.all λf=>plainT P d f.type
  |_=>false
theorem jKL {k:IntKind} {n:Int} (h:(Lit.int k n).wf=true):k.min≤n∧n≤k.max:=by grind[Lit.wf]
theorem qq1 {P:Program}:∀{l:List Field} {c e:Nat},KH P c l=some e→c≤e∧∀i,c≤i→i<e→∃f∈l,f.offset≤i∧i<f.offset+P.cellsOf f.type:=by
 intro l
 induction l with
 |nil=>intro c e h;cases h;simp
 |cons f l ih=>
  intro c e h;unfold KH at h
  grind
theorem jJN {w:World} {h:AH} (M:QN w h) {b o:Nat} {v:Value} (hc:w.cell? ⟨b,o,none⟩=some v) (hg:AO w v):h.at b o=some (KX v)∧gU w b:=by
 unfold World.cell? at hc
 split at hc
 ·rename_i C e fr hb;simp at hc;obtain⟨t,ht,hi⟩:=M.bG b C e fr hb;refine⟨?_,C,e,fr,hb⟩;unfold AH.at
  grind
 grind
theorem qzu {w:World} {a:Addr} {v:Value} (hc:w.cell? a=some v):a.spot=none:=by
 unfold World.cell? at hc
 split at hc
 all_goals simp_all
theorem Q8 {P:Program} {d:Nat} {t:TypeId} (h:plainT P d t=true):∃n,plainT P (n+1) t=true:=by
 cases d with
 |zero=>cases h
 |succ d=>grind
theorem Yo {P:Program} {d:Nat} {t e:TypeId} (h:plainT P (d+1) t=true) (hu:P.underlying t=some (.slice e)):0<P.cellsOf e∧plainT P d e=true:=by unfold plainT at h;simp_all;omega
theorem Ki {P:Program} {d:Nat} {t:TypeId} {fs:Array Field} (h:plainT P (d+1) t=true) (hu:P.underlying t=some (.struct fs)) :
  KH P 0 fs.toList=some (P.cellsOf t)∧∀f∈fs.toList,plainT P d f.type=true:=by
 unfold plainT at h;grind
theorem qVE {P:Program}:∀{l:List Field} {c e:Nat},KH P c l=some e→e=c+(l.map λf=>P.cellsOf f.type).sum∧∀(j:Nat) f,l[j]? =some f→f.offset=c+((l.take j).map λf=>P.cellsOf f.type).sum:=by
 intro l
 induction l with
 |nil=>intro c e h;cases h;simp
 |cons g l ih=>
  intro c e h;unfold KH at h
  split at h
  ·rename_i hf;obtain⟨h1,h2⟩:=ih h;refine⟨by grind,λj f hj=>?_⟩;cases j with
   |zero=>grind
   |succ j=>grind
  grind
def qgt (P:Program) (t:TypeId):Prop:=∃d,plainT P d t=true
theorem qGa (P:Program):Kids P (qgt P):=by
 refine⟨?_,?_,?_,?_,?_⟩
 ·rintro t e ⟨d,h⟩ hu;grind[Q8,plainT,Bool.false_eq_true]
 ·rintro t e ⟨d,h⟩ hu;obtain⟨n,h⟩:=Q8 h;exact⟨n,(Yo h hu).2⟩
 ·rintro t e n ⟨d,h⟩ hu;grind[Q8,plainT,Bool.false_eq_true]
 ·rintro t fs ⟨d,h⟩ hu;obtain⟨n,h⟩:=Q8 h;obtain⟨h1,h2⟩:=Ki h hu;obtain⟨h3,h4⟩:=qVE h1;exact⟨λf hf=>⟨n,h2 f hf⟩,by grind,λj f hj=>by grind⟩
 ·rintro t k e ⟨d,h⟩ hu;grind[Q8,plainT,Bool.false_eq_true]
theorem jQh {H:Type} {enc:TypeId×Value→H} {P:Program} {w:World} {h:AH} (M:QN w h) {held:Bool}:∀(d:Nat) (t:TypeId) (fuel:Nat) (cs:List Value) (x:DataW H×List MemPlace),
  plainT P d t=true→DataW.trod enc P w 0 (λ_=>true) held fuel t cs=some x→(∀v∈cs,AO w v)∧WT P h d t (cs.map KX):=by
 intro d
 induction d with
 |zero=>nofun
 |succ d ih=>
  intro t fuel cs x hp e;have I3:=hp;unfold plainT at hp;unfold WT
  split at hp
  ·rename_i hu;simp only[hu];obtain⟨b,rfl,_⟩:=DataW.trod_bool hu e;exact⟨λv hv=>by rw[List.mem_singleton.1 hv];trivial,b,rfl⟩
  ·rename_i k hu;simp only[hu];obtain⟨n,rfl,_,hw⟩:=DataW.trod_int hu e;exact⟨λv hv=>by rw[List.mem_singleton.1 hv];trivial,n,rfl,jKL hw⟩
  ·rename_i hu;simp only[hu];obtain⟨s,rfl,_,hl⟩:=DataW.trod_string hu e;refine⟨λv hv=>by rw[List.mem_singleton.1 hv];trivial,s.data.toList,rfl,?_⟩;trivial
  ·rename_i el hu;simp only[hu];obtain⟨bP,PG⟩:=Yo I3 hu;rcases DataW.trod_slice hu e with⟨rfl,_⟩ |⟨a,len,cap,elems,rest,n,rfl,rfl,_,_,PS,Rr,hel,h1,h2,_⟩
   ·exact⟨λv hv=>by rw[List.mem_singleton.1 hv];trivial,.inl rfl⟩
   ·obtain⟨IF,h2⟩:=h2 rfl;by_cases iM:cap=0
    ·subst iM;obtain rfl:len=0:=by omega
     exact⟨λv hv=>by rw[List.mem_singleton.1 hv];trivial,.inr (.inl ⟨a,rfl⟩)⟩
    ·--the first place shows that the address has no spot
     have row:∀i,i<cap→∃r y,(w.cells? 0 (a.add (i*P.cellsOf el)) (P.cellsOf el))=some r∧DataW.trod enc P w 0 (λ_=>true) held n el r=some y:=by
      intro i hi;by_cases mN:i<len
      ·have hx:=h1 i mN;rw[iW omQ]at hx;grind[Option.bind_eq_some_iff]
      ·have hx:=h2 (i-len) omQ;rw[show len+(i-len)=i by omega,iW omQ]at hx;grind[Option.bind_eq_some_iff]
     have cells:∀(b:Addr) r,w.cells? 0 b (P.cellsOf el)=some r→r.length=P.cellsOf el∧∀j,j<P.cellsOf el→w.cell? (b.add j)=r[j]?:=by intro b r hr;unfold World.cells? at hr;rw[iJ (Nat.zero_le _)]at hr;refine⟨by simpa using mapM_some_length hr,λj hj=>?_⟩;exact mapM_some_get hr j j (by grind)
     have AP:a.spot=none:=by obtain⟨r,y,hr,_⟩:=row 0 omQ;obtain⟨c1,c2⟩:=cells _ r hr;have:=c2 0 bP;rw[iW omQ]at this;grind[qzu,Addr.add]
     obtain⟨b,off,sp⟩:=a;simp only at AP;subst AP;have aJ:∀i,i<cap→∃Rs:List AV,Rs.length=P.cellsOf el∧(∀j,j<P.cellsOf el→h.at b (off+i*P.cellsOf el+j)=Rs[j]?)∧WT P h d el Rs∧gU w b:=by
      intro i hi;obtain⟨r,y,hr,hy⟩:=row i hi;obtain⟨c1,c2⟩:=cells _ r hr;obtain⟨g1,g2⟩:=ih el n r y PG hy;have dJ:∀j,j<P.cellsOf el→h.at b (off+i*P.cellsOf el+j)=(r.map KX)[j]? ∧gU w b:=by
       intro j hj;have Rt:=c2 j hj;have fQ:j<r.length:=by omega
       rw[iW fQ]at Rt;have e1:((⟨b,off,none⟩:Addr).add (i*P.cellsOf el)).add j=⟨b,off+i*P.cellsOf el+j,none⟩:=by rw[kO,kO]
       rw[e1]at Rt;obtain⟨k1,k2⟩:=jJN M Rt (g1 _ (List.getElem_mem fQ));grind
      grind
     have sR:KX (.slice (some ⟨b,off,none⟩) len cap)=.slice b off len cap false:=by
      cases cap with
      |zero=>grind
      |succ cap=>cases len<;>rfl
     obtain⟨_,_,_,_,sy⟩:=aJ 0 omQ;refine⟨?_,.inr (.inr (.inr ⟨b,off,len,cap,?_,PS,Rr,M.nI (P:=P) |>.lt b sy,?_,?_⟩))⟩
     ·intro v hv;rw[List.mem_singleton.1 hv];exact⟨by rw[sR];rfl,by rw[sR];exact sy⟩
     ·grind
     ·obtain⟨C,e,fr,hc⟩:=sy;obtain⟨t,ht,_⟩:=M.bG b C e fr hc;grind
     ·intro i hi;obtain⟨r,r1,r2,r3,_⟩:=aJ i omQ;grind
  ·rename_i fs hu;simp only[hu];obtain⟨Ru,hpf⟩:=Ki I3 hu;obtain⟨xs,n,rfl,_,hlen,uu,hf⟩:=DataW.trod_struct hu e;have part:∀f∈fs.toList,(∀v∈(cs.drop f.offset).take (P.cellsOf f.type),AO w v)∧WT P h d f.type (((cs.drop f.offset).take (P.cellsOf f.type)).map KX):=by
    intro f C7;obtain⟨i,hi,rfl⟩:=List.mem_iff_getElem.1 C7;have mq:i<fs.size:=by grind
    have hx:=hf i fs[i] (Array.getElem?_eq_getElem mq);grind
   refine⟨?_,by grind,λf C7=>?_⟩
   ·intro v hv;obtain⟨i,hi,rfl⟩:=List.mem_iff_getElem.1 hv;obtain⟨_,hc⟩:=qq1 Ru;obtain⟨f,C7,h1,h2⟩:=hc i (Nat.zero_le _) omQ;refine(part f C7).1 _ ?_;have:((cs.drop f.offset).take (P.cellsOf f.type))[i-f.offset]? =some cs[i]:=by
     rw[List.getElem?_take_of_lt omQ,List.getElem?_drop,show f.offset+(i-f.offset)=i by omega,iW hi]
    grind
   simp_all
  grind
end Go.Ae
namespace Go.Ae
open Go
def AQ (P:Program) (h:AH) (d:Nat) (t:TypeId) (a:AV):Prop :=
 match P.underlying t with
 |some (.struct _) |some (.array _ _)=>∃l,a=.agg l∧WT P h d t l
 |_=>WT P h d t [a]
def I4 (P:Program) (h:AH) (d:Nat):List TypeId→List AV→Prop
 |[],[]=>True
 |t::ts,a::as=>AQ P h d t a∧I4 P h d ts as
 |_,_=>False
theorem qvT {H:Type} {enc:TypeId×Value→H} {P:Program} {w:World} {h:AH} (M:QN w h) {r:Reach} {base d:Nat} {t:TypeId} {v:Value} {x:DataW H} {ps:List MemPlace} (hp:plainT P d t=true)
  (hv:Value.okWide P w r base t v) (e:DataW.Trod enc P w 0 (λ_=>true) true t v x ps):cv UH (Kr v)=v∧bD (gU w) (Kr v)∧AQ P h d t (Kr v):=by
 obtain⟨fuel,e⟩:=e;obtain⟨g,wt⟩:=jQh M d t fuel _ _ hp e;unfold AQ;have agg:∀cs:Array Value,v=.agg cs→cv UH (Kr v)=v∧bD (gU w) (Kr v)∧∃l,Kr v=.agg l∧WT P h d t l:=by
  rintro cs rfl;refine⟨?_,?_,_,rfl,wt⟩
  ·simp only[Kr,cv,xg,List.map_map]
   congr 1
   apply Array.ext';simp only[]
   conv=>rhs;rw[← List.map_id cs.toList]
   refine List.map_congr_left λv hv=>?_;exact(g v hv).1
  ·show bm _ _;rw[yY];intro u hu;obtain⟨z,hz,rfl⟩:=List.mem_map.1 hu;exact(g z hz).2
 have one:(∀cs:Array Value,v≠.agg cs)→cv UH (Kr v)=v∧bD (gU w) (Kr v)∧WT P h d t [Kr v]:=by
  intro hn;have hc:v.cells.toList=[v]:=by cases v<;>first |rfl |grind
  have hi:Kr v=KX v:=by cases v<;>first |rfl |grind
  rw[hc]at g wt;rw[hi];exact⟨(g v aW).1,(g v aW).2,wt⟩
 unfold Value.okWide at hv
 split
 ·grind
 ·grind
 ·rename_i h1 h2;refine one ?_;rintro cs rfl
  simp_all[Cell.okWide,Cell.ok]
theorem args_ok {H:Type} {enc:TypeId×Value→H} {P:Program} {w:World} {h:AH} (M:QN w h) {r:Reach} {base d:Nat}:∀{ts:List TypeId} {vs:List Value} {ds:List (DataW H)} {ps:List MemPlace},
  ts.all (plainT P d)=true→(∀(j:Nat) t v,ts[j]? =some t→vs[j]? =some v→Value.okWide P w r base t v)→DataW.TrodAll enc P w 0 (λ_=>true) true ts vs ds ps→
  bj UH (vs.map Kr)=vs∧bm (gU w) (vs.map Kr)∧I4 P h d ts (vs.map Kr)∧ds.length=ts.length:=by
 intro ts
 induction ts with
 |nil=>
  intro vs ds ps _ _ e;cases vs<;>cases ds<;>simp only[DataW.TrodAll]at e
  trivial
 |cons t ts ih=>
  intro vs ds ps hp hv e;cases vs<;>cases ds<;>simp only[DataW.TrodAll]at e
  rename_i v vs x ds;obtain⟨p,q,h1,h2,_⟩:=e;simp only[List.all_cons,Bool.and_eq_true]at hp;obtain⟨a1,a2,a3⟩:=qvT M hp.1 (hv 0 t v rfl rfl) h1;obtain⟨b1,b2,b3,b4⟩:=ih hp.2 (λj t v h1 h2=>hv (j+1) t v (by grind) (by grind)) h2;exact⟨by simp_all[List.map_cons,bj],⟨a2,b2⟩,⟨a3,b3⟩,by grind⟩
theorem args_stay {H:Type} {enc:TypeId×Value→H} {P:Program} {w w':World} {sp:Nat→Bool}:∀{ts:List TypeId} {vs:List Value} {ds:List (DataW H)} {ps:List MemPlace},
  (∀t∈ts,qgt P t)→DataW.TrodAll enc P w 0 (λ_=>true) true ts vs ds ps→(∀k,k<w.heap.size→w'.heap[k]? =w.heap[k]?)→(∀p∈ps,p.block<w.heap.size)→(∀p∈ps,sp p.block=true)→
  DataW.TrodAll enc P w' 0 sp true ts vs ds ps:=by
 intro ts
 induction ts with
 |nil=>
  grind[DataW.TrodAll]
 |cons t ts ih=>
  intro vs ds ps hp e hb ax hs;cases vs<;>cases ds<;>simp only[DataW.TrodAll]at e ⊢
  rename_i v vs x ds;obtain⟨p,q,⟨fuel,h1⟩,h2,rfl⟩:=e;have hq:∀y,y∈p→y∈p++q:=λy hy=>List.mem_append.2 (.inl hy);refine⟨p,q,⟨fuel,?_⟩,ih (λt ht=>hp t (iX _ ht)) h2 hb (λy hy=>ax y (List.mem_append.2 (.inr hy))) (λy hy=>hs y (List.mem_append.2 (.inr hy))),rfl⟩;refine DataW.trod_stays (qGa P) ?_ (λh=>by grind) (hp t (iK ..)) h1 ?_ (λy hy=>hs y (hq y hy))
  ·rintro t e ⟨d,h⟩ hu;obtain⟨n,h⟩:=Q8 h;exact(Yo h hu).1
  ·intro y hy;have hk:=hb y.block (ax y (hq y hy));cases y with
   |cell b off=>show World.cell? _ _=World.cell? _ _;unfold World.cell?;simp only[];rw[show w'.heap[b]? =w.heap[b]? from hk]
   |map b=>exact hk
end Go.Ae
