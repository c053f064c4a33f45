/- The abstract executor of the program's form in Lean, shown sound: regions that draw their order: every order; the table's answers are the program's; a row's last step; the caller's cells. -/
import Derived.Test.YtaljafbgbfmcbaaGreatHistoryMadeAe5
import Derived.ChangeSame
import Derived.ChangeArms
import Derived.ChangeStays
namespace Go.Ae
open Go
structure Cx where
  P:Program
  c:CV
  n:Nat
  ops:Array Oper
  M:PT Nat
  LP:Yz→Prop
  HP:Xx→Prop
  F:Nat→Nat→Option AV
  H:Nat→AH
  V:Nat→AV
  W:Nat→Bool
  m0:Mp
  D0:Nat→Prop
  w0:World
  a0:Act
  hc:vK P c
  tr:Tr P c n ops LP HP F H V W
  st:Stat P ops M
  nW:Rel P m0 D0 (H 0) w0
  gh:∀i,i≤ops.size→Gh P D0 H F i
  mono:∀i,i<ops.size→(H i).nx≤(H (i+1)).nx
  vin:∀i,i<ops.size→br (Dg D0 H (i+1)) (V i)
  Ez:∀i j oi oj,ops[i]? =some oi→ops[j]? =some oj→gR P oi.op=true→xj P oj.op=true→W i=true→W j=true→QY M i j=true→
    ∃a,Yu (iM (F i)) oi.op=some a∧zR a (wF P oi.op) (V i) (H j)=true∧zR a (wF P oi.op) (V i) (H (j+1))=true∧Uj a (H 0).nx=true
namespace Cx
variable (X:Cx)
def N:Nat:=X.ops.size
def nx (i:Nat):Nat:=(X.H i).nx
def bh (i:Nat):Prop:=∃o,X.ops[i]? =some o∧xj X.P o.op=true
def ik (i:Nat):Option Tmp:=(X.ops[i]?).bind (·.dst)
def DS (s:Nat→Bool):Nat→Prop:=λb=>X.D0 b∨∃i,s i=true∧X.nx i≤b∧b<X.nx (i+1)
def FS (s:Nat→Bool):Nat→Nat→Option AV
 | 0,t=>X.F 0 t
 |i+1,t=>if s i=true∧X.ik i=some t then some (X.V i)else FS s i t
def ins (s:Nat→Bool) (i:Nat):Nat→Bool:=λj=>j==i||s j
variable {X}
theorem mc {i:Nat} (h:i<X.N):∃o,X.ops[i]? =some o:=⟨_,Array.getElem?_eq_getElem h⟩
theorem Jt {i:Nat} {o:Oper} (h:X.ops[i]? =some o):i<X.N:=(Array.getElem?_eq_some_iff.1 h).1
theorem eH {i j:Nat} (BD:i≤j) (hj:j≤X.N):X.nx i≤X.nx j:=by
  induction j with
  | zero => grind
  |succ j ih=>
    by_cases h:i=j+1
    · grind
    · exact Nat.le_trans (ih omQ omQ) (X.mono j (by trivial))
theorem U5 {o:Op} (h:xj X.P o=false):mX X.P o=.pure∨mX X.P o=.load∨mX X.P o=.fresh:=by
 unfold xj at h;cases hc:mX X.P o<;>simp only[hc]at h<;>simp
 grind
theorem qJl {P:Program} {o:Op} (h:mX P o=.load):V2 o=true:=by
 cases o with
 |load t x=>rfl
 |convert s d x=>
  grind[mX]
 |call cl=>
  grind[mX,invoke,builtin]
 |_=>simp only[mX,reduceCtorEq]at h
theorem kind {i:Nat} {o:Oper} (ho:X.ops[i]? =some o) (hh:xj X.P o.op=false) (hw:X.W i=true) :
  X.H (i+1)=X.H i∨∃mk x,Ex mk∧X.V i=mk (X.nx i)∧X.H (i+1)=(X.H i).new x∧∀g,dt X.P X.c o.op (iM (X.F i)) g=some (mk g.nx,g.new x):=by
 have hs:=(X.tr.step i o ho).1.yes hw;rcases U5 hh with h |h |h
 ·cases m5:Yj X.P o.op
  ·exact .inl (qXS h m5 hs).1
  ·exact .inl (ZL m5 hs).1
 ·obtain⟨t,x,CY⟩:=GX (qJl h);rw[CY]at hs;exact .inl (Ny hs).1
 ·obtain⟨mk,x,h1,h2,h3,h4⟩:=Ow h hs;exact .inr ⟨mk,x,h1,h2,h3,h4⟩
theorem gF {i j:Nat} (BD:i≤j) (hj:j≤X.N) (hn:∀k,i≤k→k<j→¬(X.bh k∧X.W k=true)):∀b,b<X.nx i→(X.H j).get b=(X.H i).get b:=by
  induction j with
  | zero => grind
  |succ j ih=>
    intro b hb;by_cases h:i=j+1
    · grind
    · have:=ih omQ omQ (λk h1 h2=>hn k h1 omQ) b hb;rw[← this];obtain⟨o,ho⟩:=X.mc (show j<X.N by omega);cases hw:X.W j
      · rw[((X.tr.step j o ho).1.no hw).2]
      · have hh:xj X.P o.op=false:=by
          cases hh:xj X.P o.op
          · rfl
          · exact absurd ⟨⟨o,ho,hh⟩,hw⟩ (hn j omQ omQ)
        rcases kind ho hh hw with e |⟨mk,x,_,_,e,_⟩
        · rw[e]
        · rw[e];have:X.nx i≤X.nx j:=eH omQ omQ;exact AH.cq _ _ (by unfold nx at*;omega)
theorem Y3 {s:Nat→Bool} (down:∀i o,s i=true→X.ops[i]? =some o→∀e∈o.after,VG e=true→s e.on=true) (sN:∀i,s i=true→i<X.N) :
  ∀i k,s i=true→(xg X.M i).testBit k=true→s k=true:=by
 intro i
 induction i using Nat.strongRecOn with
 |_ i ih=>
  intro k hs hk;obtain⟨o,ho⟩:=X.mc (sN i hs);obtain⟨e,he,hb,ap,hk⟩:=X.st.rR i o k ho hk;grind
theorem qGt {i k:Nat} {o:Oper} (ho:X.ops[i]? =some o) (hk:(xg X.M i).testBit k=true):k<i:=by
 induction i using Nat.strongRecOn generalizing o with
 |_ i ih=>
  obtain⟨e,he,hb,ap,hk⟩:=X.st.rR i o k ho hk;grind
structure fB (X:Cx) (s:Nat→Bool) (i:Nat) (o:Oper):Prop where
  ho:X.ops[i]? =some o
  un:s i=false
  p9:∀e∈o.after,VG e=true→s e.on=true
  down:∀i o,s i=true→X.ops[i]? =some o→∀e∈o.after,VG e=true→s e.on=true
  sN:∀i,s i=true→i<X.N
variable {s:Nat→Bool} {i:Nat} {o:Oper}
theorem fB.rR (r:fB X s i o) {k:Nat} (hk:(xg X.M i).testBit k=true):s k=true:=by
 obtain⟨e,he,hb,ap,hk⟩:=X.st.rR i o k r.ho hk;have HG:=r.p9 e he hb;rcases hk with rfl |hk
 ·grind
 ·exact Y3 r.down r.sN _ k HG hk
theorem fB.later (r:fB X s i o) {k:Nat} (hk:s k=true):(xg X.M k).testBit i=false:=by
 cases h:(xg X.M k).testBit i
 ·rfl
 ·have:=Y3 r.down r.sN k i hk h;rw[r.un]at this;grind
theorem fB.reads (r:fB X s i o) {t:Nat} (ht:(JA X.ops.toList o).testBit t=true):∀k,k≤X.N→X.FS s k t=X.F (min k i) t:=by
 intro k
 induction k with
 |zero=>simp[FS]
 |succ k ih=>
  intro hk;have ihk:=ih omQ;obtain⟨ok,cH⟩:=X.mc (show k<X.N by omega);have te:X.ik k=ok.dst:=by grind[ik]
  simp only[FS];rw[te];by_cases p8:k<i
  ·rw[show min (k+1) i=k+1 by omega];rw[show min k i=k by omega]at ihk;rw[(X.tr.step k ok cH).2];unfold cU;by_cases hd:ok.dst=some t
   ·rw[iJ hd];have HH:=X.st.apart k i ok o p8 cH r.ho;have pp:s k=true:=by
     rcases HH with h |⟨h,_⟩
     ·exact r.rR h
     grind[Vl,Xs]
    grind
   grind
  ·rw[show min (k+1) i=i by omega];rw[show min k i=i by omega]at ihk;rw[iQ,ihk];rintro⟨pp,hd⟩;have bW:k≠i:=λe=>by subst e;rw[r.un]at pp;grind
   have HH:=X.st.apart i k o ok omQ r.ho cH;rcases HH with h |⟨_,h⟩
   ·rw[r.later pp]at h;grind
   grind[Vl,Xs]
theorem fB.read (r:fB X s i o) {t:Nat} (ht:(JA X.ops.toList o).testBit t=true):X.FS s X.N t=X.F i t:=by rw[r.reads ht _ (Nat.le_refl _),show min X.N i=i by have:=Jt r.ho;omega]
theorem fB.write (r:fB X s i o) (t:Nat):X.FS (ins s i) X.N t=if o.dst=some t then some (X.V i)else X.FS s X.N t:=by
 have hdi:X.ik i=o.dst:=by unfold ik;rw[r.ho];rfl
 have key:∀k,k≤X.N→X.FS (ins s i) k t=if i<k∧o.dst=some t then some (X.V i)else X.FS s k t:=by
  intro k
  induction k with
  |zero=>simp[FS]
  |succ k ih=>
   intro hk;have ihk:=ih omQ;simp only[FS];by_cases p8:k=i
   ·simp_all[ins]
   ·have h1:ins s i k=s k:=by grind[ins]
    rw[h1,ihk];by_cases hc:s k=true∧X.ik k=some t
    ·rw[iJ hc];by_cases h2:i<k+1∧o.dst=some t
     ·exfalso;obtain⟨ok,cH⟩:=X.mc (show k<X.N by omega);have hdk:ok.dst=some t:=by grind[ik]
      have HH:=X.st.apart i k o ok omQ r.ho cH;rcases HH with h |⟨h,_⟩
      ·rw[r.later hc.1]at h;grind
      ·have:=Vl h t (by grind[Xs]);grind[Xs]
     grind
    grind
 rw[key _ (Nat.le_refl _)];have:=Jt r.ho;grind
theorem jZm (hs:∀i,i<X.N→s i=true):∀k,k≤X.N→X.FS s k=X.F k:=by
 intro k
 induction k with
 |zero=>intro _;rfl
 |succ k ih=>
  intro hk;obtain⟨o,ho⟩:=X.mc (show k<X.N by omega)
  funext t
  simp only[FS];rw[ih omQ,(X.tr.step k o ho).2];have te:X.ik k=o.dst:=by grind[ik]
  unfold cU;grind
theorem qyL (hs:∀i,s i=false):∀k,X.FS s k=X.F 0:=by
 intro k
 induction k with
 |zero=>rfl
 |succ k ih=>simp_all[FS]
end Cx
end Go.Ae
namespace Go.Ae
open Go
namespace Cx
variable {X:Cx} {s:Nat→Bool} {i q:Nat} {o:Oper} {a:Act} {w w':World} {m m':Mp} {C:AH}
structure Inv (X:Cx) (s:Nat→Bool) (q:Nat) (a:Act) (w:World) (m:Mp) (C:AH):Prop where
  qN:q≤X.N
  hq:q<X.N→X.bh q
  hs:∀i,X.bh i→(s i=true↔i<q)
  sN:∀i,s i=true→i<X.N
  down:∀i o,s i=true→X.ops[i]? =some o→∀e∈o.after,VG e=true→s e.on=true
  rl:Rel0 X.P m (X.DS s) C w
  tg:X.nx X.N≤C.nx
  i1:∀b,X.DS s b→b<X.nx q→C.get b=(X.H q).get b
  i2:∀i,q≤i→s i=true→∀b,X.nx i≤b→b<X.nx (i+1)→C.get b=(X.H (i+1)).get b
  i3:∀i,i<q→s i=false→∀b,X.nx i≤b→b<X.nx (i+1)→(X.H q).get b=(X.H (i+1)).get b
  map:∀b,X.D0 b→m b=X.m0 b
  size:X.w0.heap.size≤w.heap.size
  keep:∀c,c<X.w0.heap.size→¬own X.m0 X.D0 (X.H 0) c→w.heap[c]? =X.w0.heap[c]? ∧¬own m (X.DS s) C c
  os:w.os=X.w0.os
  tape:w.tape=X.w0.tape
  output:w.output=X.w0.output
  BF:X.n≤a.tmps.size
  slot:∀t v,X.FS s X.N t=some v→a.tmps[t]? =some (cv m v)∧br (X.DS s) v
  df:a.defers=X.a0.defers
theorem qgR {P:Program} {m0 m:Mp} {D0 D:Nat→Prop} {h0 h:AH} {w0 w:World} (r:Br P m0 D0 h0 w0)
  (keep:∀c,c<w0.heap.size→¬own m0 D0 h0 c→w.heap[c]? =w0.heap[c]? ∧¬own m D h c):Br P m D h w:=λp hp=>by
 obtain⟨g,h1,h2,h3⟩:=r p hp;grind[G1]
theorem Inv.rel (I:Inv X s q a w m C):Rel X.P m (X.DS s) C w:=⟨I.rl,qgR X.nW.gl I.keep⟩
theorem YH {b:Nat} (h:X.D0 b):b<X.nx 0:=X.nW.lt b h
theorem m6 {b:Nat}:X.DS (ins s i) b↔X.DS s b∨(X.nx i≤b∧b<X.nx (i+1)):=by
 unfold DS ins;grind
theorem Vy {b:Nat} (h:X.DS s b):X.DS (ins s i) b:=m6.2 (.inl h)
theorem jQ5 (sN:∀i,s i=true→i<X.N) {b:Nat} (h:X.DS s b):b<X.nx X.N:=by
 rcases h with h |⟨j,hj,_,h⟩
 ·exact Nat.lt_of_lt_of_le (YH h) (eH (Nat.zero_le _) (Nat.le_refl _))
 ·exact Nat.lt_of_lt_of_le h (eH (sN j hj) (Nat.le_refl _))
theorem qvb (sN:∀i,s i=true→i<X.N) (hi:i<X.N) (un:s i=false) {b:Nat} (h1:X.nx i≤b) (h2:b<X.nx (i+1)):¬X.DS s b:=by
 rintro(h |⟨j,hj,h3,h4⟩)
 ·have:=YH h;have:=eH (X:=X) (Nat.zero_le i) omQ;omega
 ·have:=sN j hj;rcases Nat.lt_trichotomy j i with ap |rfl |BH
  ·have:=eH (X:=X) (show j+1≤i by omega) omQ;omega
  ·grind
  ·have:=eH (X:=X) (show i+1≤j by omega) omQ;omega
theorem Ts (sN:∀i,s i=true→i<X.N) {b:Nat} (h:X.DS s b) (hb:b<X.nx q):Dg X.D0 X.H q b:=by
 rcases h with h |⟨j,hj,h3,h4⟩
 ·exact .inl h
 ·refine .inr ⟨?_,hb⟩;have:=eH (X:=X) (Nat.zero_le j) (Nat.le_of_lt (sN j hj));exact Nat.le_trans this h3
def DQ (X:Cx) (s:Nat→Bool) (q:Nat):Nat→Prop:=λb=>X.DS s b∧b<X.nx q
mutual
theorem Vw {D D':Nat→Prop}:∀v:AV,br D v→br D' v→br (λb=>D b∧D' b) v
 | .bool _,_,_=>trivial
 | .int _ _,_,_=>trivial
 | .str _,_,_=>trivial
 | .ptr b o,h,h'=>⟨h,h'⟩
 | .aW,_,_=>trivial
 | .slice b o l c p,h,h'=>⟨h,h'⟩
 | .aj,_,_=>trivial
 | .fn f a c,h,h'=>by simp only[br]at*;exact⟨JM a h.1 h'.1,JM c h.2 h'.2⟩
 | .yield l,h,h'=>⟨h,h'⟩
 | .eR,_,_=>trivial
 | .iface t v,h,h'=>by simp only[br]at*;exact Vw v h h'
 | .dQ,_,_=>trivial
 | .agg l,h,h'=>by simp only[br]at*;exact JM l h h'
 | .cA l,h,h'=>by simp only[br]at*;exact JM l h h'
 | .bM _,_,_=>trivial
 | .tail _ _ _ _,h,h'=>⟨h,h'⟩
 | .da _,h,h'=>⟨h,h'⟩
theorem JM {D D':Nat→Prop}:∀l:List AV,aY D l→aY D' l→aY (λb=>D b∧D' b) l
 |[],_,_=>trivial
 |a::r,h,h'=>by simp only[aY]at*;exact⟨Vw a h.1 h'.1,JM r h.2 h'.2⟩
end
theorem qZE {D D':Nat→Prop} {x:cW} (h:cM D x) (h':cM D' x):cM (λb=>D b∧D' b) x:=by
 cases x<;>simp only[cM]at* <;>first |exact JM _ h h' |exact⟨JM _ h.1 h'.1,h.2,h'.2⟩ |grind[Vw] |trivial
theorem Inv.Aa (I:Inv X s q a w m C) {v:AV} (h1:br (X.DS s) v) {j:Nat} (hj:j≤q) (h2:br (Dg X.D0 X.H j) v):br (DQ X s q) v:=by
 refine Qq (λb hb=>?_) v (Vw v h1 h2);obtain⟨FV,oN⟩:=hb;refine⟨FV,?_⟩;rcases oN with h |h
 ·exact Nat.lt_of_lt_of_le (YH h) (eH (Nat.zero_le _) I.qN)
 ·exact Nat.lt_of_lt_of_le h.2 (eH hj I.qN)
theorem Inv.pt (I:Inv X s q a w m C):Rel X.P m (DQ X s q) (X.H q) w:=by
 refine⟨⟨?_,?_,?_,?_⟩,λp hp=>by
  obtain⟨g,h1,h2,h3⟩:=I.rel.gl p hp;refine⟨g,h1,h2,?_⟩;rintro⟨b,⟨hb,ap⟩,hl,e⟩
  exact h3 ⟨b,hb,by unfold live at*;rw[I.i1 b hb ap];grind,e⟩⟩
 ·rintro b ⟨hb,ap⟩;obtain⟨x,hx,nO,sq⟩:=I.rel.bR b hb;rw[I.i1 b hb ap]at hx;refine⟨x,hx,nO,?_⟩;obtain⟨y,hy,iF⟩:=(X.gh q I.qN).bR b (Ts I.sN hb ap);rw[hx]at hy;cases hy;refine cM.mono (λb hb=>?_) (qZE sq iF);refine⟨hb.1,?_⟩;rcases hb.2 with h |h
  ·exact Nat.lt_of_lt_of_le (YH h) (eH (Nat.zero_le _) I.qN)
  ·exact h.2
 ·rintro b b' ⟨hb,ap⟩ ⟨bL,Ab⟩ hl fO e;refine I.rel.inj b b' hb bL ?_ ?_ e
  ·unfold live at*;rw[I.i1 b hb ap];grind
  ·unfold live at*;rw[I.i1 b' bL Ab];grind
 ·rintro b ⟨hb,ap⟩;exact ap
 ·rintro b t ⟨hb,ap⟩ hg ⟨b',⟨bL,Ab⟩,fO,he⟩;refine I.rel.dh b t hb (by rw[I.i1 b hb ap];grind) ⟨b',bL,?_,he⟩;unfold live at*;rw[I.i1 b' bL Ab];grind
theorem MG:ins s i i=true:=by simp[ins]
theorem Me {j:Nat} (h:j≠i):ins s i j=s j:=by simp[ins,h]
theorem PQ {j:Nat} (h:s j=true):ins s i j=true:=by simp[ins,h]
theorem Xg {j:Nat} (h:ins s i j=true):j=i∨s j=true:=by grind[ins]
theorem Inv.rdy (I:Inv X s q a w m C) (ho:X.ops[i]? =some o) (un:s i=false) (p9:∀e∈o.after,VG e=true→s e.on=true):fB X s i o:=⟨ho,un,p9,I.down,I.sN⟩
theorem fB.rf (r:fB X s i o):∀j o',ins s i j=true→X.ops[j]? =some o'→∀e∈o'.after,VG e=true→ins s i e.on=true:=by
 intro j o' hj ma e he hb;rcases Xg hj with rfl |hj
 ·rw[r.ho]at ma;cases ma;exact PQ (r.p9 e he hb)
 ·exact PQ (r.down j o' hj ma e he hb)
theorem fB.HI (r:fB X s i o):∀j,ins s i j=true→j<X.N:=by
 intro j hj;rcases Xg hj with rfl |hj
 ·exact Jt r.ho
 ·exact r.sN j hj
theorem Inv.tj (I:Inv X s q a w m C) (r:fB X s i o) {v:AV} (hv:X.V i=v) (hc:∀u,br (X.DS s) u→cv m' u=cv m u) {z:Value} (hz:cv m' v=z) (hd:br (X.DS (ins s i)) v) :
  X.n≤(a.put o.dst z).tmps.size∧(∀t u,X.FS (ins s i) X.N t=some u→(a.put o.dst z).tmps[t]? =some (cv m' u)∧br (X.DS (ins s i)) u):=by
 subst hz;refine⟨?_,?_⟩
 ·cases o.dst with
  |none=>exact I.BF
  |some d=>simp[Act.put];exact I.BF
 ·intro t u hu;rw[r.write]at hu;by_cases HJ:o.dst=some t
  ·rw[iJ HJ]at hu;cases hu;rw[hv];refine⟨?_,hd⟩;have ap:=Nat.lt_of_lt_of_le ((X.tr.step i o r.ho).1.dst t HJ) I.BF;grind[Act.put,Array.getElem?_setIfInBounds_self]
  ·rw[iQ HJ]at hu;obtain⟨h1,h2⟩:=I.slot t u hu;refine⟨?_,Qq (λb hb=>Vy hb) u h2⟩;rw[hc u h2];cases hod:o.dst with
   |none=>exact h1
   |some d=>grind[Act.put,Array.getElem?_setIfInBounds_ne]
theorem Inv.pure (I : Inv X s q a w m C) (r : fB X s i o) (hh : ¬ X.bh i) (hH : X.H (i + 1) = X.H i) (E : Ext m (X.DS s) C w m' (X.DS s) C w') (R' : Rel X.P m' (X.DS s) C w') (hv : br (X.DS s) (X.V i)) :
    Inv X (ins s i) q (a.put o.dst (cv m' (X.V i))) w' m' C:=by
  have hD:X.DS (ins s i)=X.DS s:=by
    funext b
    refine propext (m6.trans ⟨λh=>h.elim id λh=>?_,.inl⟩);grind[nx]
  have rS:=I.tj r rfl (m':=m') (λu hu=>E.cv hu) rfl (by grind);have EA:i≠q:=λe=>by subst e;exact hh (I.hq (Jt r.ho))
  refine { qN := I.qN, hq := I.hq, hs := ?_, sN := r.HI, down := r.rf, rl := by rw [hD];exact R'.toRel0, tg := I.tg, i1 := by rw [hD];exact I.i1, i2 := ?_, i3 := ?_, map := ?_, size := Nat.le_trans I.size E.size, keep := ?_,
           os:=E.os.trans I.os,tape:=E.tape.trans I.tape,output:=E.output.trans I.output,BF:=rS.1,slot:=rS.2,df:=by rw[kM];exact I.df }
  · intro j hj;rw[Me (λe=>hh (by grind))];exact I.hs j hj
  · intro j Tt hj b h1 h2;rcases Xg hj with rfl |hj
    · grind[nx]
    · exact I.i2 j Tt hj b h1 h2
  · intro j pu hj b h1 h2;refine I.i3 j pu ?_ b h1 h2;grind[PQ]
  · intro b hb;rw[E.map b (.inl hb)];exact I.map b hb
  · intro c hc hn;obtain⟨k1,k2⟩:=I.keep c hc hn;obtain⟨k3,k4⟩:=E.keep c (Nat.lt_of_lt_of_le hc I.size) k2;grind
end Cx
end Go.Ae
namespace Go.Ae
open Go
namespace Cx
variable {X:Cx} {s:Nat→Bool} {i q:Nat} {o:Oper} {a:Act} {w w':World} {m m':Mp} {C:AH}
theorem HK {mk:Nat→AV} (h:Ex mk) {m m':Mp} {b b':Nat} (e:m b=m' b'):cv m (mk b)=cv m' (mk b'):=by
 rcases h with rfl |⟨l,k,rfl⟩
 all_goals grind[cv]
theorem jJD {mk:Nat→AV} (h:Ex mk) {D:Nat→Prop} {b:Nat}:br D (mk b)↔D b:=by
 rcases h with rfl |⟨l,k,rfl⟩<;>rfl
theorem Inv.fresh (I:Inv X s q a w m C) (r:fB X s i o) (hh:¬X.bh i) {x:cW} {mk:Nat→AV} (hmk:Ex mk) (hV:X.V i=mk (X.nx i)) (hH:X.H (i+1)=(X.H i).new x) {m1:Mp} {D1:Nat→Prop}
  (E:Ext m (X.DS s) C w m1 D1 (C.new x) w') (R1:Rel X.P m1 D1 (C.new x) w') :
  ∃m' C',Inv X (ins s i) q (a.put o.dst (cv m1 (mk C.nx))) w' m' C':=by
 have hi:=Jt r.ho;have nC:X.nx (i+1)=X.nx i+1:=by simp_all[nx]
 have hCi:X.nx (i+1)≤C.nx:=Nat.le_trans (eH omQ (Nat.le_refl _)) I.tg;have hD:∀b,X.DS (ins s i) b↔X.DS s b∨b=X.nx i:=λb=>m6.trans ⟨λh=>h.imp id λh=>by omega,λh=>h.imp id λh=>by omega⟩;have CZ:¬X.DS s (X.nx i):=qvb I.sN hi r.un (Nat.le_refl _) omQ;have ap:∀b,X.DS s b→b<C.nx:=λb hb=>I.rel.lt b hb;have rT:∀b,D1 b↔X.DS s b∨b=C.nx:=λb=>(E.dm b).trans ⟨λh=>h.imp id λh=>by simp at h;omega,λh=>h.imp id λh=>by simp_all⟩;have sr:∀b,X.DS s b→m1 b=m b:=E.map;obtain⟨m',uT⟩:∃m':Mp,m'=λb=>if b=X.nx i then m1 C.nx else m1 b:=⟨_,rfl⟩
 have C0:m' (X.nx i)=m1 C.nx:=by grind
 have EB:∀b,b≠X.nx i→m' b=m1 b:=λb hb=>by grind
 have mf:∀b,X.DS s b→m' b=m b:=λb hb=>by grind
 have rP:∀b,b≠X.nx i→(C.put (X.nx i) x).get b=C.get b:=λb hb=>AH.cn C x (λe=>hb e.symm);have sk:(C.put (X.nx i) x).get (X.nx i)=some x:=AH.bu C _ x;have nB:∀b,X.DS s b→(C.put (X.nx i) x).get b=C.get b:=λb hb=>rP b (λe=>CZ (e▸hb));have u7:∀b,X.DS s b→(C.new x).get b=C.get b:=λb hb=>AH.cq C x (by grind);have rU:(C.new x).get C.nx=some x:=AH.bD C x;have Tu:(X.H (i+1)).get (X.nx i)=some x:=by rw[hH];exact AH.bD _ _
 have sq:cM (X.DS s) x:=by
  obtain⟨y,hy,_,iF⟩:=R1.bR C.nx ((rT _).2 (.inr rfl));rw[rU]at hy;cases hy;obtain⟨z,hz,uC⟩:=(X.gh (i+1) hi).bR (X.nx i) (.inr ⟨eH (Nat.zero_le _) omQ,by show X.nx i<X.nx (i+1);omega⟩);rw[Tu]at hz;cases hz;refine cM.mono (λb hb=>?_) (qZE iF uC);rcases(rT b).1 hb.1 with h |h
  ·grind
  ·exfalso;rcases hb.2 with h' |h'
   ·have:=YH h';have:=eH (X:=X) (Nat.zero_le (i+1)) omQ;omega
   ·have:b<X.nx (i+1):=h'.2;omega
 have cx:Nat→Nat:=λb=>if b=X.nx i then C.nx else b
 have fQ:Rel0 X.P m' (X.DS (ins s i)) (C.put (X.nx i) x) w':=by
  refine⟨?_,?_,?_,?_⟩
  ·intro b hb;rcases(hD b).1 hb with hb |rfl
   ·obtain⟨y,hy,dG,iF⟩:=R1.bR b ((rT b).2 (.inl hb));obtain⟨z,hz,_,uC⟩:=I.rel.bR b hb;rw[u7 b hb,hz]at hy;cases hy;refine⟨_,(nB b hb).trans hz,?_,uC.mono λb hb=>Vy hb⟩;rw[mf b hb,← sr b hb];exact dG.congr (D:=X.DS s) (λb hb=>by grind) uC rfl
   ·obtain⟨y,hy,dG,iF⟩:=R1.bR C.nx ((rT _).2 (.inr rfl));rw[rU]at hy;cases hy;refine⟨x,sk,?_,sq.mono λb hb=>Vy hb⟩;rw[C0];exact dG.congr (D:=X.DS s) (λb hb=>by grind) sq rfl
  ·intro b1 b2 h1 h2 l1 l2 he;rcases(hD b1).1 h1 with h1 |rfl<;>rcases(hD b2).1 h2 with h2 |rfl
   ·rw[mf b1 h1,mf b2 h2]at he;refine I.rel.inj b1 b2 h1 h2 ?_ ?_ he
    all_goals grind[live]
   ·exfalso;rw[mf b1 h1,C0,← sr b1 h1]at he;have:=R1.inj b1 C.nx ((rT _).2 (.inl h1)) ((rT _).2 (.inr rfl)) (by grind[live]) (by grind[live]) he;grind
   ·exfalso;rw[mf b2 h2,C0,← sr b2 h2]at he;have:=R1.inj C.nx b2 ((rT _).2 (.inr rfl)) ((rT _).2 (.inl h2)) (by grind[live]) (by grind[live]) he;grind
   rfl
  ·intro b hb;rw[AH.CG];grind
  ·rintro b t hb hg ⟨b',bL,fO,he⟩;have hA:∀b,X.DS (ins s i) b→∃a,D1 a∧m1 a=m' b∧(C.new x).get a=(C.put (X.nx i) x).get b:=by
    grind
   obtain⟨a1,h1,h2,h3⟩:=hA b hb;obtain⟨a2,k1,k2,k3⟩:=hA b' bL;refine R1.dh a1 t h1 (h3.trans hg) ⟨a2,k1,?_,by grind⟩;grind[live]
 have hval:cv m' (X.V i)=cv m1 (mk C.nx):=by simp_all[HK]
 have rS:=I.tj r rfl (m':=m') (z:=cv m1 (mk C.nx)) (λu hu=>QA mf u hu) hval (by rw[hV];exact(jJD hmk).2 ((hD _).2 (.inr rfl)));have EA:i≠q:=λe=>by subst e;exact hh (I.hq hi)
 refine⟨m',C.put (X.nx i) x,{ qN:=I.qN,hq:=I.hq,hs:=?_,sN:=r.HI,down:=r.rf,rl:=fQ,tg:=I.tg,i1:=?_,i2:=?_,i3:=?_,map:=?_,size:=Nat.le_trans I.size E.size,keep:=?_,os:=E.os.trans I.os,tape:=E.tape.trans I.tape,output:=E.output.trans I.output,BF:=rS.1,slot:=rS.2,df:=by rw[kM];exact I.df }⟩
 ·intro j hj;rw[Me (λe=>hh (by grind))];exact I.hs j hj
 ·intro b hb HL;rcases(hD b).1 hb with hb |rfl
  ·rw[nB b hb];exact I.i1 b hb HL
  ·rw[sk];have hlq:i<q:=by
    rcases Nat.lt_or_ge i q with h |h
    ·grind
    ·have:=eH (X:=X) h omQ;omega
   rw[I.i3 i hlq r.un _ (Nat.le_refl _) omQ,Tu]
 ·intro j Tt hj b h1 h2;rcases Xg hj with rfl |hj
  ·grind
  ·rw[rP b,I.i2 j Tt hj b h1 h2];rintro rfl;exact CZ (.inr ⟨j,hj,h1,h2⟩)
 ·intro j pu hj b h1 h2;refine I.i3 j pu ?_ b h1 h2;grind[PQ]
 ·intro b hb;rw[mf b (.inl hb)];exact I.map b hb
 ·intro c hc hn;obtain⟨k1,k2⟩:=I.keep c hc hn;obtain⟨k3,k4⟩:=E.keep c (Nat.lt_of_lt_of_le hc I.size) k2;refine⟨k3.trans k1,?_⟩;rintro⟨b,hb,hl,he⟩;rcases(hD b).1 hb with hb |rfl
  ·refine k2 ⟨b,hb,?_,by grind⟩;grind[live]
  ·refine k4 ⟨C.nx,(rT _).2 (.inr rfl),?_,by grind⟩;grind[live]
theorem qk5 (f:Nat→Option cW) (T:Nat):∀N,∃h:AH,h.nx=T∧(∀b,b<N→h.get b=f b)∧∀b,N≤b→h.get b=none:=by
 intro N
 induction N with
 |zero=>exact⟨⟨T,[],.e⟩,rfl,λb hb=>by omega,λb _=>aH.ic b⟩
 |succ N ih=>
  obtain⟨h,h1,h2,h3⟩:=ih;cases hf:f N with
  |some x=>
   refine⟨h.put N x,h1,λb hb=>?_,λb hb=>?_⟩
   ·by_cases e:b=N
    ·simp_all
    ·rw[AH.cn h x (λee=>e ee.symm)];grind
   ·rw[AH.cn h x omQ];grind
  |none=>
   grind
theorem rh (f:Nat→Option cW) (T N:Nat):∃h:AH,h.nx=T∧∀b,b<N→h.get b=f b:=by obtain⟨h,h1,h2,_⟩:=qk5 f T N;grind
theorem pw (X:Cx) {q:Nat} (hq:q<X.N):∃q',q<q'∧q'≤X.N∧(q'<X.N→X.bh q')∧∀k,q<k→k<q'→¬X.bh k:=by
 have key:∀d q0,q<q0→q0+d=X.N→(∀k,q<k→k<q0→¬X.bh k)→∃q',q<q'∧q'≤X.N∧(q'<X.N→X.bh q')∧∀k,q<k→k<q'→¬X.bh k:=by
  intro d
  induction d with
  |zero=>grind
  |succ d ih=>
   intro q0 h1 h2 h3;by_cases hh:X.bh q0
   ·grind
   ·refine ih (q0+1) omQ omQ ?_;grind
 exact key (X.N-(q+1)) (q+1) omQ omQ (λk h1 h2=>by omega)
end Cx
end Go.Ae
namespace Go.Ae
open Go
namespace Cx
variable {X:Cx} {s:Nat→Bool} {i q:Nat} {o:Oper} {a:Act} {w w':World} {m m':Mp} {C:AH}
theorem Inv.fH (I:Inv X s q a w m C) (r:fB X s q o) {m1:Mp} {D1:Nat→Prop} (E:Ext m (DQ X s q) (X.H q) w m1 D1 (X.H (q+1)) w') (R1:Rel X.P m1 D1 (X.H (q+1)) w') (hv:br D1 (X.V q)) :
  ∃q' m' C',Inv X (ins s q) q' (a.put o.dst (cv m1 (X.V q))) w' m' C':=by
 have hq:=Jt r.ho;obtain⟨q',hqq,C4,hqh,hqn⟩:=X.pw hq;have bK:∀k,q+1≤k→k<q'→¬(X.bh k∧X.W k=true):=λk h1 h2 h=>hqn k omQ h2 h.1;have hnq:X.nx q≤X.nx (q+1):=eH omQ omQ;have hCq:X.nx (q+1)≤C.nx:=Nat.le_trans (eH omQ (Nat.le_refl _)) I.tg;have rT:∀b,D1 b↔DQ X s q b∨(X.nx q≤b∧b<X.nx (q+1)):=E.dm;have Tv:∀b,X.DS s b→b<X.nx q∨(X.nx (q+1)≤b∧∃j,q<j∧s j=true∧X.nx j≤b∧b<X.nx (j+1)):=by
  rintro b (h |⟨j,hj,h1,h2⟩)
  ·exact .inl (Nat.lt_of_lt_of_le (YH h) (eH (Nat.zero_le _) I.qN))
  ·have Tw:=I.sN j hj;rcases Nat.lt_trichotomy j q with ap |rfl |BH
   ·have:=eH (X:=X) (show j+1≤q by omega) I.qN;omega
   ·rw[r.un]at hj;grind
   ·have:=eH (X:=X) (show q+1≤j by omega) omQ;grind
 have hDS:∀b,X.DS (ins s q) b↔X.DS s b∨(X.nx q≤b∧b<X.nx (q+1)):=λb=>m6;have mh:∀b,b<X.nx (q+1)→(X.DS (ins s q) b↔D1 b):=by
  intro b hb;rw[hDS,rT];constructor
  ·rintro(h |h)
   ·rcases Tv b h with h' |⟨h',_⟩
    ·exact .inl ⟨h,h'⟩
    grind
   grind
  ·rintro(h |h)
   ·exact .inl h.1
   grind
 have im:∀b,X.nx (q+1)≤b→X.DS (ins s q) b→X.DS s b:=λb hb h=>((hDS b).1 h).elim id λh=>by omega
 have ri:∀b,D1 b→b<X.nx (q+1):=R1.lt;obtain⟨m',uT⟩:∃m':Mp,m'=λb=>if b<X.nx (q+1)then m1 b else m b:=⟨_,rfl⟩
 have pz:∀b,b<X.nx (q+1)→m' b=m1 b:=λb hb=>by grind
 have Tx:∀b,X.nx (q+1)≤b→m' b=m b:=λb hb=>by grind
 have mf:∀b,X.DS s b→m' b=m b:=by
  intro b hb;rcases Tv b hb with h |⟨h,_⟩
  ·rw[pz b omQ];exact E.map b ⟨hb,h⟩
  grind
 obtain⟨C',hCx,hCg⟩:=rh (λb=>if b<X.nx (q+1)then(X.H (q+1)).get b else C.get b) C.nx C.nx;have tk:∀b,b<X.nx (q+1)→C'.get b=(X.H (q+1)).get b:=λb hb=>by grind
 have uF:∀b,X.nx (q+1)≤b→b<C.nx→C'.get b=C.get b:=λb hb ap=>by grind
 have m7:∀b,X.DS s b→b<C.nx:=I.rel.lt;have HM:∀c,own m (DQ X s q) (X.H q) c→own m (X.DS s) C c:=by rintro c ⟨b,hb,hl,he⟩;exact⟨b,hb.1,by unfold live at*;rw[I.i1 b hb.1 hb.2];grind,he⟩
 have mQ:∀b,X.DS s b→X.nx (q+1)≤b→live C b→(m b).1<w.heap.size∧¬own m (DQ X s q) (X.H q) (m b).1:=by intro b hb eO hl;refine⟨I.rel.inside hb hl,?_⟩;rintro⟨b2,oN,iC,he⟩;have:=I.rel.inj b2 b oN.1 hb (by unfold live at*;rw[I.i1 b2 oN.1 oN.2];grind) hl he;grind
 have tn:∀b t,X.DS s b→C.get b=some (.dh t)→(m b).1<w.heap.size∧¬own m (DQ X s q) (X.H q) (m b).1:=by intro b t hb hg;obtain⟨y,hy,dG,_⟩:=I.rel.bR b hb;rw[hg]at hy;cases hy;exact⟨dG.lI,λh=>I.rel.dh b t hb hg (HM _ h)⟩
 have fQ:Rel0 X.P m' (X.DS (ins s q)) C' w':=by
  refine⟨?_,?_,?_,?_⟩
  ·intro b hb;by_cases ap:b<X.nx (q+1)
   ·obtain⟨y,hy,dG,iF⟩:=R1.bR b ((mh b ap).1 hb);refine⟨y,(tk b ap).trans hy,?_,iF.mono λb hb=>(mh b (ri b hb)).2 hb⟩;rw[pz b ap];exact dG.congr (D:=D1) (λb hb=>pz b (ri b hb)) iF rfl
   ·have eO:X.nx (q+1)≤b:=by omega
    have to:=im b eO hb;obtain⟨z,hz,hI,uC⟩:=I.rel.bR b to;refine⟨z,(uF b eO (m7 b to)).trans hz,?_,uC.mono λb hb=>Vy hb⟩;rw[Tx b eO];by_cases lM:z.live
    ·obtain⟨f1,f2⟩:=mQ b to eO ⟨z,hz,lM⟩;exact hI.congr (D:=X.DS s) mf uC (E.keep _ f1 f2).1
    ·cases z<;>first |trivial |exact absurd trivial lM |skip
     obtain⟨f1,f2⟩:=tn b _ to hz;exact hI.congr (D:=X.DS s) mf uC (E.keep _ f1 f2).1
  ·intro b1 b2 h1 h2 l1 l2 he;have mixed:∀b1 b2,X.DS (ins s q) b1→X.DS (ins s q) b2→live C' b1→live C' b2→(m' b1).1=(m' b2).1→b1<X.nx (q+1)→X.nx (q+1)≤b2→False:=by
    intro b1 b2 h1 h2 l1 l2 he ap eO;have EC:=im b2 eO h2;have iC:live C b2:=by grind[live]
    obtain⟨f1,f2⟩:=mQ b2 EC eO iC;refine(E.keep _ f1 f2).2 ⟨b1,(mh b1 ap).1 h1,?_,?_⟩
    all_goals grind[live]
   by_cases g1:b1<X.nx (q+1)<;>by_cases g2:b2<X.nx (q+1)
   ·rw[pz b1 g1,pz b2 g2]at he;exact R1.inj b1 b2 ((mh b1 g1).1 h1) ((mh b2 g2).1 h2) (by grind[live]) (by grind[live]) he
   ·grind
   ·grind
   ·have s1:=im b1 omQ h1;have s2:=im b2 omQ h2;rw[mf b1 s1,mf b2 s2]at he;exact I.rel.inj b1 b2 s1 s2 (by unfold live at*;grind) (by unfold live at*;grind) he
  ·grind
  ·rintro b1 t h1 hg ⟨b2,h2,l2,he⟩;by_cases g1:b1<X.nx (q+1)
   ·rw[tk b1 g1]at hg;obtain⟨n1,n2⟩:=E.ni b1 t ((mh b1 g1).1 h1) hg;by_cases g2:b2<X.nx (q+1)
    ·rw[pz b1 g1,pz b2 g2]at he;exact R1.dh b1 t ((mh b1 g1).1 h1) hg ⟨b2,(mh b2 g2).1 h2,by grind[live],he⟩
    ·have s2:=im b2 omQ h2;have SY:C.get b1=some (.dh t):=by rw[I.i1 b1 n1.1 n1.2];grind
     rw[mf b1 n1.1,mf b2 s2]at he;exact I.rel.dh b1 t n1.1 SY ⟨b2,s2,by unfold live at*;grind,he⟩
   ·have s1:=im b1 omQ h1;rw[uF b1 omQ (m7 b1 s1)]at hg;rw[mf b1 s1]at he;by_cases g2:b2<X.nx (q+1)
    ·obtain⟨f1,f2⟩:=tn b1 t s1 hg;refine(E.keep _ f1 f2).2 ⟨b2,(mh b2 g2).1 h2,by grind[live],?_⟩;grind
    ·have s2:=im b2 omQ h2;rw[mf b2 s2]at he;exact I.rel.dh b1 t s1 hg ⟨b2,s2,by unfold live at*;grind,he⟩
 have hval:cv m' (X.V q)=cv m1 (X.V q):=QA (λb hb=>pz b (ri b hb)) _ hv;have rS:=I.tj r rfl (m':=m') (z:=cv m1 (X.V q)) (λu hu=>QA mf u hu) hval (Qq (λb hb=>(mh b (ri b hb)).2 hb) _ hv);refine⟨q',m',C',{ qN:=C4,hq:=hqh,hs:=?_,sN:=r.HI,down:=r.rf,rl:=fQ,tg:=by rw[hCx];exact I.tg,i1:=?_,i2:=?_,i3:=?_,map:=?_,size:=Nat.le_trans I.size E.size,keep:=?_,os:=E.os.trans I.os,tape:=E.tape.trans I.tape,output:=E.output.trans I.output,BF:=rS.1,slot:=rS.2,df:=by rw[kM];exact I.df }⟩
 ·intro j hj;by_cases pu:j=q
  ·grind[MG]
  ·rw[Me pu,I.hs j hj];grind
 ·intro b hb HL;by_cases ap:b<X.nx (q+1)
  ·rw[tk b ap,gF omQ C4 bK b ap]
  ·have eO:X.nx (q+1)≤b:=by omega
   have to:=im b eO hb;rcases Tv b to with h |⟨_,j,hj1,oO,mR,hj4⟩
   ·omega
   ·rw[uF b eO (m7 b to),I.i2 j omQ oO b mR hj4];have Tw:=I.sN j oO;have pu:j<q':=by
     rcases Nat.lt_or_ge j q' with h |h
     ·grind
     ·have:=eH (X:=X) h omQ;omega
    rw[gF (X:=X) (show j+1≤q' by omega) C4 (λk h1 h2=>bK k omQ h2) b hj4]
 ·intro j pu hj b h1 h2;rcases Xg hj with rfl |hj
  ·omega
  ·have Tw:=I.sN j hj;have h3:=eH (X:=X) (show q+1≤j by omega) omQ;have h4:=eH (X:=X) (show j+1≤X.N by omega) (Nat.le_refl _);have h5:=I.tg;rw[uF b omQ omQ,I.i2 j omQ hj b h1 h2]
 ·intro j pu hj b h1 h2;have HO:j≠q:=λe=>by grind[MG]
  rw[Me HO]at hj;rcases Nat.lt_or_gt_of_ne HO with ap |BH
  ·have h3:=eH (X:=X) (show j+1≤q by omega) I.qN;rw[gF (X:=X) (show q+1≤q' by omega) C4 bK b omQ];rw[(E.un b (show b<X.nx q by omega) (λh=>qvb I.sN omQ hj h1 h2 h.1)).1];exact I.i3 j ap hj b h1 h2
  ·exact gF (X:=X) (show j+1≤q' by omega) C4 (λk g1 g2=>bK k omQ g2) b h2
 ·intro b hb;rw[mf b (.inl hb)];exact I.map b hb
 ·intro c hc hn;obtain⟨k1,k2⟩:=I.keep c hc hn;obtain⟨k3,k4⟩:=E.keep c (Nat.lt_of_lt_of_le hc I.size) (λh=>k2 (HM c h));refine⟨k3.trans k1,?_⟩;rintro⟨b,hb,hl,he⟩;by_cases ap:b<X.nx (q+1)
  ·exact k4 ⟨b,(mh b ap).1 hb,by grind[live],by grind⟩
  ·have to:=im b omQ hb;exact k2 ⟨b,to,by unfold live at*;grind,by grind⟩
end Cx
end Go.Ae
namespace Go.Ae
open Go
namespace Cx
variable {X:Cx} {s:Nat→Bool} {i q:Nat} {o:Oper} {a:Act} {w w':World} {m m':Mp} {C:AH}
theorem qWR (p:Nat→Prop):∀hi lo,(∀k,lo≤k→k<hi→¬p k)∨∃k,lo≤k∧k<hi∧p k∧∀j,k<j→j<hi→¬p j:=by
 intro hi
 induction hi with
 |zero=>simp
 |succ hi ih=>
  grind
theorem MJ (p:Nat→Prop):∀d lo,(∀k,lo≤k→k<lo+d→¬p k)∨∃k,lo≤k∧k<lo+d∧p k∧∀j,lo≤j→j<k→¬p j:=by
 intro d
 induction d with
 |zero=>grind
 |succ d ih=>
  grind
theorem Inv.nX (I:Inv X s q a w m C) (r:fB X s i o) (hh:X.bh i):i=q:=by
 have eO:q≤i:=by
  rcases Nat.lt_or_ge i q with h |h
  ·have:=(I.hs i hh).2 h;rw[r.un]at this;grind
  grind
 rcases Nat.lt_or_ge q i with h |h
 ·exfalso;have hi:=Jt r.ho;obtain⟨oq,hoq,hhq⟩:=I.hq omQ;obtain⟨oi,mP,l8⟩:=hh;have dE:∀x y,ins s i x=true→(xg X.M x).testBit y=true→ins s i y=true:=λx y=>Y3 r.rf r.HI x y;have:=X.st.chain (λx=>ins s i x=true) dE q i oq oi h hoq mP hhq l8 MG;rw[Me omQ]at this;have:=(I.hs q ⟨oq,hoq,hhq⟩).1 this;omega
 grind
def hv (X:Cx) (k:Nat):Prop:=X.bh k∧X.W k=true
theorem Inv.nY (I:Inv X s q a w m C) (EA:i≤q) (hn:∀k,i≤k→k<q→¬X.hv k):∀b,X.DS s b→b<X.nx i→C.get b=(X.H i).get b:=by intro b hb ap;have:=eH (X:=X) EA I.qN;rw[I.i1 b hb omQ,gF EA I.qN hn b ap]
theorem Inv.nZ (I:Inv X s q a w m C) (EA:q≤i) (hi:i≤X.N) (hn:∀k,q≤k→k<i→¬X.hv k):∀b,X.DS s b→b<X.nx i→C.get b=(X.H i).get b:=by
 intro b hb ap;by_cases HL:b<X.nx q
 ·rw[I.i1 b hb HL,gF EA hi hn b HL]
 ·rcases hb with hb |⟨j,hj,h1,h2⟩
  ·have:=YH hb;have:=eH (X:=X) (Nat.zero_le q) I.qN;omega
  ·have Tw:=I.sN j hj;have pu:q≤j:=by
    rcases Nat.lt_or_ge j q with h |h
    ·have:=eH (X:=X) (show j+1≤q by omega) I.qN;omega
    grind
   have Tq:j<i:=by
    rcases Nat.lt_or_ge j i with h |h
    ·grind
    ·have:=eH (X:=X) h omQ;omega
   rw[I.i2 j pu hj b h1 h2,gF (X:=X) (show j+1≤i by omega) hi (λk g1 g2=>hn k omQ g2) b h2]
theorem fB.n0 (I:Inv X s q a w m C) (r:fB X s i o) {k:Nat} (h1:i<k) (h2:k<q) (hk:X.bh k):QY X.M i k=true:=by
 have pp:=(I.hs k hk).2 h2;obtain⟨ok,cH,_⟩:=hk;have a1:(xg X.M i).testBit k=false:=by
  cases h:(xg X.M i).testBit k
  ·rfl
  ·have:=qGt r.ho h;omega
 have a2:=r.later pp;grind[QY]
theorem fB.n6 (I:Inv X s q a w m C) (r:fB X s i o) {k:Nat} (h1:q≤k) (h2:k<i) (hk:X.bh k):QY X.M i k=true:=by
 have pp:s k=false:=by
  cases h:s k
  ·rfl
  ·have:=(I.hs k hk).1 h;omega
 obtain⟨ok,cH,_⟩:=hk;have a1:(xg X.M i).testBit k=false:=by
  cases h:(xg X.M i).testBit k
  ·rfl
  ·have:=r.rR h;grind
 have a2:(xg X.M k).testBit i=false:=by
  cases h:(xg X.M k).testBit i
  ·rfl
  ·have:=qGt cH h;omega
 grind[QY]
theorem Ga {a:AV} {n:Option Nat} {v:AV} {h g:AH} (e:∀b off,a=.ptr b off→g.get b=h.get b) (e2:∀b off l i,a=.slice b off l i true→g.get b=h.get b) (hl:zR a n v h=true):zR a n v g=true:=by
 cases a<;>first |exact hl |skip
 ·rename_i b off;unfold zR at*;grind
 ·rename_i b off l i o;cases o
  ·rfl
  ·unfold zR at*;cases n with
   |none=>grind
   |some m=>simp only[vJ]at*;grind
theorem Inv.load (I:Inv X s q a w m C) (r:fB X s i o) (hl:V2 o.op=true) (hw:X.W i=true) (hD:∀x v,iM (X.F i) x=some v→x∈o.op.operands→br (X.DS s) v∧br (Dg X.D0 X.H i) v) :
  dt X.P X.c o.op (iM (X.F i)) C=some (X.V i,C)∧X.H (i+1)=X.H i:=by
 have hi:=Jt r.ho;have hs:=(X.tr.step i o r.ho).1.yes hw;obtain⟨t,x,CY⟩:=GX hl;rw[CY]at hs ⊢;obtain⟨e1,b,off,hx,g1,g2⟩:=Ny hs;refine⟨?_,e1⟩;obtain⟨d1,d2⟩:=hD x _ hx (by grind[Op.operands]);have Ac:X.DS s b:=d1;have ED:b<X.nx i:=by
  rcases(show Dg X.D0 X.H i b from d2)with h |h
  ·exact Nat.lt_of_lt_of_le (YH h) (eH (Nat.zero_le _) omQ)
  ·exact h.2
 have hnh:¬X.bh i:=by rintro⟨o',ma,hh⟩;rw[r.ho]at ma;cases ma;rw[CY]at hh;cases hh
 have lC:∀k,X.hv k→QY X.M i k=true→zR (.ptr b off) (wF X.P o.op) (X.V i) (X.H k)=true∧zR (.ptr b off) (wF X.P o.op) (X.V i) (X.H (k+1))=true∧b<X.nx 0:=by
  rintro k ⟨⟨ok,cH,Ty⟩,oP⟩ fh;obtain⟨z,hz,h1,h2,h3⟩:=X.Ez i k o ok r.ho cH (by grind[gR]) Ty hw oP fh;have:z=.ptr b off:=by rw[CY]at hz;have hz:iM (X.F i) x=some z:=hz;grind
  subst this;exact⟨h1,h2,zN h3⟩
 have fin:∀k,k≤X.N→zR (.ptr b off) (wF X.P o.op) (X.V i) (X.H k)=true→C.get b=(X.H k).get b→dt X.P X.c (.load t x) (iM (X.F i)) C=some (X.V i,C):=by intro k _ h1 h2;refine g2 C ?_;grind[Ga]
 rcases Nat.lt_or_ge i q with h |h
 ·rcases qWR X.hv q i with bY |⟨k,k1,k2,k3,k4⟩
  ·exact g1 C (I.nY omQ bY b Ac ED)
  ·have p8:k≠i:=λe=>hnh (e▸k3.1);obtain⟨l1,l2,l3⟩:=lC k k3 (fB.n0 I r omQ k2 k3.1);have z1:=eH (X:=X) (Nat.zero_le q) I.qN;have z2:=eH (X:=X) (Nat.zero_le (k+1)) (by have:=I.qN;omega);refine fin (k+1) (by have:=I.qN;omega) l2 ?_;rw[I.i1 b Ac omQ,gF (X:=X) (show k+1≤q by omega) I.qN (λj h1 h2=>k4 j omQ h2) b omQ]
 ·have hqi:q<i∨q=i:=by omega
  rcases MJ X.hv (i-q) q with bY |⟨k,k1,k2,k3,k4⟩
  ·exact g1 C (I.nZ h omQ (λk h1 h2=>bY k h1 omQ) b Ac ED)
  ·obtain⟨l1,l2,l3⟩:=lC k k3 (fB.n6 I r k1 omQ k3.1);have z1:=eH (X:=X) (Nat.zero_le q) I.qN;refine fin k omQ l1 ?_;rw[I.i1 b Ac omQ,gF (X:=X) k1 omQ k4 b omQ]
theorem Inv.cut (I:Inv X s q a w m C) (r:fB X s i o) (hl:Yj X.P o.op=true) (hh:¬X.bh i) (hw:X.W i=true) (hD:∀x v,iM (X.F i) x=some v→x∈o.op.operands→br (X.DS s) v∧br (Dg X.D0 X.H i) v) :
  dt X.P X.c o.op (iM (X.F i)) C=some (X.V i,C)∧X.H (i+1)=X.H i:=by
 have hi:=Jt r.ho;have hs:=(X.tr.step i o r.ho).1.yes hw;obtain⟨e1,x,hx,u,hu,CK,g1,g2⟩:=ZL hl hs;refine⟨?_,e1⟩;by_cases mz:∃b off l k,u=.slice b off l k true
 rotate_left
 ·simp_all
 obtain⟨b,off,l,k0,rfl⟩:=mz;obtain⟨d1,d2⟩:=hD x _ hu hx;have Ac:X.DS s b:=d1;have ED:b<X.nx i:=by
  rcases(show Dg X.D0 X.H i b from d2)with h |h
  ·exact Nat.lt_of_lt_of_le (YH h) (eH (Nat.zero_le _) omQ)
  ·exact h.2
 have lC:∀k,X.hv k→QY X.M i k=true→zR (.slice b off l k0 true) (wF X.P o.op) (X.V i) (X.H k)=true∧zR (.slice b off l k0 true) (wF X.P o.op) (X.V i) (X.H (k+1))=true∧b<X.nx 0:=by rintro k ⟨⟨ok,cH,Ty⟩,oP⟩ fh;obtain⟨z,hz,h1,h2,h3⟩:=X.Ez i k o ok r.ho cH (by simp_all[gR,Bool.or_true]) Ty hw oP fh;rw[CK]at hz;cases hz;exact⟨h1,h2,zN h3⟩
 have fin:∀k,k≤X.N→zR (.slice b off l k0 true) (wF X.P o.op) (X.V i) (X.H k)=true→C.get b=(X.H k).get b→dt X.P X.c o.op (iM (X.F i)) C=some (X.V i,C):=by intro k _ h1 h2;exact g2 C (Ga (λ_ _ e=>by cases e) (λb' rI l' k' e=>by simp_all) h1)
 rcases Nat.lt_or_ge i q with h |h
 ·rcases qWR X.hv q i with bY |⟨k,k1,k2,k3,k4⟩
  ·exact g1 C λb' rI l' k' e=>by cases e;exact I.nY omQ bY b Ac ED
  ·have p8:k≠i:=λe=>hh (e▸k3.1);obtain⟨l1,l2,l3⟩:=lC k k3 (fB.n0 I r omQ k2 k3.1);have z1:=eH (X:=X) (Nat.zero_le q) I.qN;have z2:=eH (X:=X) (Nat.zero_le (k+1)) (by have:=I.qN;omega);refine fin (k+1) (by have:=I.qN;omega) l2 ?_;rw[I.i1 b Ac omQ,gF (X:=X) (show k+1≤q by omega) I.qN (λj h1 h2=>k4 j omQ h2) b omQ]
 ·rcases MJ X.hv (i-q) q with bY |⟨k,k1,k2,k3,k4⟩
  ·exact g1 C λb' rI l' k' e=>by cases e;exact I.nZ h omQ (λk h1 h2=>bY k h1 omQ) b Ac ED
  ·obtain⟨l1,l2,l3⟩:=lC k k3 (fB.n6 I r k1 omQ k3.1);have z1:=eH (X:=X) (Nat.zero_le q) I.qN;refine fin k omQ l1 ?_;rw[I.i1 b Ac omQ,gF (X:=X) k1 omQ k4 b omQ]
end Cx
end Go.Ae
namespace Go.Ae
open Go
namespace Cx
variable {X:Cx} {s:Nat→Bool} {i q:Nat} {o:Oper} {a:Act} {w w':World} {m m':Mp} {C:AH}
noncomputable def FL (X:Cx) (o:Oper) (i:Nat):Nat→Option AV:=λt=>if(JA X.ops.toList o).testBit t=true then X.F i t else none
theorem Vr {o:Oper} (i:Nat) (g:AH):dt X.P X.c o.op (iM (X.F i)) g=dt X.P X.c o.op (iM (X.FL o i)) g:=by
 refine qW9 λx hx=>?_;cases x with
 |tmp t=>simp_all[iM,FL,GS]
 |_=>rfl
theorem Zp (I:Inv X s q a w m C) (r:fB X s i o) {t:Nat} {v:AV} (h:X.FL o i t=some v):a.tmps[t]? =some (cv m v)∧br (X.DS s) v∧br (Dg X.D0 X.H i) v:=by
 unfold FL at h
 split at h
 ·rename_i hb;obtain⟨h1,h2⟩:=I.slot t v (by rw[r.read hb];grind);exact⟨h1,h2,(X.gh i (Nat.le_of_lt (Jt r.ho))).slot t v h⟩
 grind
theorem Tz {D:Nat→Prop} (I:Inv X s q a w m C) (r:fB X s i o) (hD:∀v,br (X.DS s) v→br (Dg X.D0 X.H i) v→br D v):dR m D a.eval (iM (X.FL o i)):=by
 intro x v e;cases x with
 |tmp t=>obtain⟨h1,h2,h3⟩:=Zp I r e;simp_all[Act.eval,Array.getD_eq_getD_getElem?,Option.getD_some]
 |const k=>simp only[iM]at e;obtain⟨h1,h2⟩:=XQ (m:=m) (D:=D) e;exact⟨h1.symm,h2⟩
 |global g=>trivial
 |func f=>simp only[iM,Option.some.injEq]at e;subst e;trivial
theorem qq5 (I:Inv X s q a w m C) (r:fB X s i o):Region.wanted o (yielded X.ops a.tmps)=X.W i:=by
 obtain⟨st,_⟩:=X.tr.step i o r.ho;cases hg:o.guard with
 |none=>rw[st.g0 hg];grind[Region.wanted]
 |some g=>
  obtain⟨d,vg,h1,h2,h3⟩:=st.g1 g hg;have hF:X.FL o i d=some vg:=by simp_all[FL,qJB]
  obtain⟨h4,_⟩:=Zp I r hF;unfold QC at h1;rw[hg]at h1;simp only[Option.bind_some,yv,Array.getElem?_toList,Option.bind_eq_some_iff]at h1;obtain⟨p,hp,Hq⟩:=h1;have hy:yielded X.ops a.tmps g.1=(match cv m vg with | .bool b=>some b |_=>none):=by grind[yielded,cv]
  rw[h3];cases PR:QU vg g.2
  ·refine Ob hg ?_;rw[hy];cases vg<;>simp only[cv]<;>first |(intro hh;cases hh;done) |skip
   grind[QU]
  ·refine qwF hg ?_;rw[hy];cases vg<;>simp only[QU,Bool.false_eq_true]at PR
   grind[cv]
theorem Inv.step (I:Inv X s q a w m C) (r:fB X s i o) {rc:Option Nat} {nn:Nat} {Q:Exit→Act→World→Prop} {K:Act→World→Prop}
  (hK:∀q' a' w' m' C',Inv X (ins s i) q' a' w' m' C'→K a' w'):wpOpIn (FW rc) nn X.P X.ops Q i K a w:=by
 have hi:=Jt r.ho;obtain⟨st,_⟩:=X.tr.step i o r.ho;unfold wpOpIn;rw[r.ho];simp only[qq5 I r];cases hw:X.W i with
 |false=>
  simp only[Bool.false_eq_true,if_false];refine⟨λ_ _=>trivial,?_⟩;obtain⟨hV,hH⟩:=st.no hw;by_cases hh:X.bh i
  ·obtain rfl:=I.nX r hh;obtain⟨q',m',C',I'⟩:=I.fH r (m1:=m) (D1:=DQ X s i) (by rw[hH];exact Ext.refl ..) (by rw[hH];exact I.pt) (by rw[hV];trivial);rw[hV]at I';exact hK _ _ _ _ _ I'
  ·have I':=I.pure r hh hH (Ext.refl ..) I.rel (by rw[hV];trivial);rw[hV]at I';exact hK _ _ _ _ _ I'
 |true=>
  simp only[if_true];have hs:=st.yes hw;by_cases hh:X.bh i
  ·obtain rfl:=I.nX r hh;rw[Vr]at hs;refine Hf X.hc (Tz I r (λv h1 h2=>I.Aa h1 (Nat.le_refl _) h2)) I.pt hs ?_;intro m' D' w' E R' hv;obtain⟨q',m2,C2,I'⟩:=I.fH r E R' hv;grind
  ·have HF:xj X.P o.op=false:=by
    cases h:xj X.P o.op
    ·rfl
    ·exact absurd ⟨o,r.ho,h⟩ hh
   have quiet:dt X.P X.c o.op (iM (X.F i)) C=some (X.V i,C)→X.H (i+1)=X.H i→o.wpIn (FW rc) nn X.P a w K Q:=by
    intro e hH;rw[Vr]at e;refine Hf X.hc (Tz I r (λv h1 _=>h1)) I.rel e ?_;intro m' D' w' E R' hv;have hD:D'=X.DS s:=by
     rw[E.tf]
     funext b
     simp;omega
    subst hD;exact hK _ _ _ _ _ (I.pure r hh hH E R' hv)
   have hDs:∀x v,iM (X.F i) x=some v→x∈o.op.operands→br (X.DS s) v∧br (Dg X.D0 X.H i) v:=by
    intro x v hx hm;cases x with
    |tmp t=>
     have hF:X.FL o i t=some v:=by unfold FL;rw[iJ (GS hm)];exact hx
     exact(Zp I r hF).2
    |const k=>exact⟨(XQ (m:=m) hx).2,(XQ (m:=m) hx).2⟩
    |global g=>cases hx
    |func f=>cases hx;trivial
   rcases U5 HF with hc |hc |hc
   ·cases m5:Yj X.P o.op
    ·obtain⟨h1,h2⟩:=qXS hc m5 hs;simp_all
    ·obtain⟨h1,h2⟩:=I.cut r m5 hh hw hDs;simp_all
   ·obtain⟨h1,h2⟩:=I.load r (qJl hc) hw hDs;simp_all
   ·obtain⟨mk,x,h1,h2,h3,h4⟩:=Ow hc hs;have e:=h4 C;rw[Vr]at e;refine Hf X.hc (Tz I r (λv h1 _=>h1)) I.rel e ?_;intro m' D' w' E R' hv;obtain⟨m2,C2,I'⟩:=I.fresh r hh h1 h2 h3 E R';exact hK _ _ _ _ _ I'
theorem n7 (X:Cx):∀j,j≤X.N→∀b,X.nx 0≤b→b<X.nx j→∃i,i<j∧X.nx i≤b∧b<X.nx (i+1):=by
 intro j
 induction j with
 |zero=>simp
 |succ j ih=>
  grind
theorem Inv.done (I:Inv X s q a w m C) (cT:∀i,i<X.N→s i=true) {tm':PT AV} (ht:Qh tm' (X.F X.N)) :
  Bw X.P X.m0 X.D0 (X.H 0) X.w0 X.n X.a0.defers a tm' m (DQ X s X.N) (X.H X.N) w:=by
 have C4:q=X.N:=by
  rcases Nat.lt_or_ge q X.N with h |h
  ·have:=(I.hs q (I.hq h)).1 (cT q h);omega
  ·have:=I.qN;omega
 subst C4;have PS:∀b,X.DS s b→DQ X s X.N b:=λb hb=>⟨hb,jQ5 I.sN hb⟩;have gN:=X.gh X.N (Nat.le_refl _);refine⟨⟨?_,I.map,I.size,?_,gN.nx,?_,I.os,I.tape,I.output,?_,λb t hb hg=>gN.ni b t (Ts I.sN hb.1 hb.2) hg⟩,I.pt,⟨I.BF,?_⟩,I.df⟩
 ·intro b hb;exact PS b (.inl hb)
 ·intro c hc hn;obtain⟨k1,k2⟩:=I.keep c hc hn;refine⟨k1,?_⟩;rintro⟨b,hb,hl,he⟩;exact k2 ⟨b,hb.1,by unfold live at*;rw[I.i1 b hb.1 hb.2];grind,he⟩
 ·intro b hb hn;refine⟨gN.un b hb hn,?_⟩;rintro⟨h |⟨j,hj,h1,_⟩,_⟩
  ·grind
  ·have:=eH (X:=X) (Nat.zero_le j) (Nat.le_of_lt (I.sN j hj));have hb:b<X.nx 0:=hb;omega
 ·intro b;constructor
  ·rintro⟨h,ap⟩;exact Ts I.sN h ap
  ·rintro(h |⟨h1,h2⟩)
   ·exact PS b (.inl h)
   ·obtain⟨i,hi,h3,h4⟩:=X.n7 X.N (Nat.le_refl _) b h1 h2;exact PS b (.inr ⟨i,cT i hi,h3,h4⟩)
 ·intro t v hv;have:=I.slot t v (by rw[jZm cT _ (Nat.le_refl _)];exact ht t v hv);grind[Qq]
def aN (N:Nat) (s:Nat→Bool):Nat:=((List.range N).filter λi=>!s i).length
theorem jQe {N:Nat} (hi:i<N) (un:s i=false):aN N (ins s i)<aN N s:=by
 unfold aN;have:(List.range N).filter (λj=>!ins s i j)=((List.range N).filter λj=>!s j).filter λj=>!(j==i):=by
  simp[List.filter_filter,ins,Bool.not_or]
 rw[this];rw[List.length_filter_lt_length_iff_exists];grind
theorem qj1 {N:Nat} (h:aN N s=0):∀i,i<N→s i=true:=by grind[aN,List.length_eq_zero_iff,List.filter_eq_nil_iff]
theorem qq6 {cr:Array Bool} (bz:cr.size=X.ops.size) (h:Region.ready .any X.ops cr=[]):∀i,i<X.N→cr.getD i false=true:=by
 intro i
 induction i using Nat.strongRecOn with
 |_ i ih=>
  intro hi;cases hl:cr.getD i false
  ·exfalso;obtain⟨o,ho⟩:=X.mc hi;have:i∈Region.ready .any X.ops cr:=by
    rw[mem_ready];have ap:i<cr.size:=by grind
    refine⟨by grind,o,ho,λe he hb=>?_⟩;have:=X.st.back i o ho e he hb;grind
   grind
  rfl
theorem C5 {rc:Option Nat} {nn:Nat} {Q:Exit→Act→World→Prop} (hQ:∀s q a w m C,Inv X s q a w m C→(∀i,i<X.N→s i=true)→Q .normal a w) :
  ∀(fuel:Nat) (cr:Array Bool) (q:Nat) (a:Act) (w:World) (m:Mp) (C:AH),cr.size=X.ops.size→Inv X (λi=>cr.getD i false) q a w m C→aN X.N (λi=>cr.getD i false)≤fuel→
   wpAnyIn (FW rc) nn X.P .any X.ops Q fuel cr a w:=by
 intro fuel
 induction fuel with
 |zero=>
  intro cr q a w m C bz I hc;have cT:=qj1 (Nat.le_zero.1 hc);refine⟨?_,hQ _ q a w m C I cT⟩;rw[List.eq_nil_iff_forall_not_mem];intro i hi;obtain⟨h1,o,ho,_⟩:=mem_ready.1 hi;have ap:=Jt ho;grind
 |succ fuel ih=>
  intro cr q a w m C bz I hc;refine⟨λh=>hQ _ q a w m C I (qq6 bz h),?_⟩;intro i hi;obtain⟨h1,o,ho,h2⟩:=mem_ready.1 hi;have ap:=Jt ho;have PU:i<cr.size:=by grind
  have un:cr.getD i false=false:=by grind
  have Ad:(λj=>(cr.setIfInBounds i true).getD j false)=ins (λj=>cr.getD j false) i:=by
   funext j
   by_cases e:j=i
   ·simp_all[ins]
   ·rw[getD_set_ne false (λee=>e ee.symm)];simp[ins,e]
  refine I.step (I.rdy ho un h2) ?_;intro q' a' w' m' C' I';refine ih _ q' a' w' m' C' (by grind) (by grind) ?_;rw[Ad];have:=jQe (N:=X.N) (s:=λj=>cr.getD j false) ap un;omega
theorem start (X:Cx) (HV:∀t v,X.F 0 t=some v→X.a0.tmps[t]? =some (cv X.m0 v)∧br X.D0 v) (bz:X.n≤X.a0.tmps.size) {s:Nat→Bool} (hs:∀i,s i=false) :
  ∃q C,Inv X s q X.a0 { X.w0 with drawn:=X.w0.drawn+1 } X.m0 C:=by
 have hex:∃q,q≤X.N∧(q<X.N→X.bh q)∧∀k,k<q→¬X.bh k:=by
  rcases MJ X.bh X.N 0 with h |⟨k,h1,h2,h3,h4⟩
  ·exact⟨X.N,Nat.le_refl _,λh=>by omega,λk hk=>h k (Nat.zero_le _) omQ⟩
  grind
 obtain⟨q,Af,Ag,hq3⟩:=hex;have bK:∀i,∀k,i≤k→k<q→¬(X.bh k∧X.W k=true):=λi k _ h2 h=>hq3 k h2 h.1;have hD:X.DS s=X.D0:=by
  funext b
  refine propext ⟨λh=>h.elim id ?_,.inl⟩;grind
 have bY:∀i,s i=true→False:=λi h=>by grind
 refine⟨q,⟨X.nx X.N,(X.H 0).rc,(X.H 0).t⟩,{ qN:=Af,hq:=Ag,hs:=?_,sN:=λi h=>(bY i h).elim,down:=λi _ h=>(bY i h).elim,rl:=?_,tg:=Nat.le_refl _,i1:=?_,i2:=λi _ h=>(bY i h).elim,i3:=?_,map:=λ_ _=>rfl,size:=Nat.le_refl _,keep:=?_,os:=rfl,tape:=rfl,output:=rfl,BF:=bz,slot:=?_,df:=rfl }⟩
 ·grind
 ·rw[hD];refine⟨?_,X.nW.inj,λb hb=>Nat.lt_of_lt_of_le (YH hb) (eH (Nat.zero_le _) (Nat.le_refl _)),X.nW.dh⟩;intro b hb;obtain⟨x,hx,hr,hd⟩:=X.nW.bR b hb;exact⟨x,hx,hr.congr (D:=X.D0) (λ_ _=>rfl) hd rfl,hd⟩
 ·intro b hb ap;rw[hD]at hb;rw[gF (X:=X) (Nat.zero_le q) Af (bK 0) b (YH hb)];rfl
 ·grind[gF]
 ·intro c hc hn;rw[hD];trivial
 ·intro t v hv;rw[qyL hs]at hv;grind
end Cx
end Go.Ae
namespace Go.Ae
open Go
variable {P:Program} {c:CV}
theorem qqi {t:PT Nat} {i:Nat} {a v:AV} {n:Option Nat} {nx:Nat} {r:AV×AH}:∀(hs:List Xx) (k:R),FE t i a n v nx hs k=some r→
  k=some r∧∀q∈hs,QY t i q.j=true→zR a n v q.hb=true∧zR a n v q.ha=true∧Uj a nx=true:=by
 intro hs
 induction hs with
 |nil=>simp
 |cons q hs ih=>
  intro k e;obtain⟨j,hb,ha⟩:=q;simp only[FE]at e;cases hl:QY t i j
  ·grind
  ·rw[hl]at e;simp only[cK]at e;unfold kA at e;grind
theorem qQ8 {t:PT Nat} {hs:List Xx} {nx:Nat} {r:AV×AH}:∀(ls:List Yz) (k:R),Zb t hs nx ls k=some r→
  k=some r∧∀l∈ls,∀q∈hs,QY t l.i q.j=true→zR l.a l.n l.v q.hb=true∧zR l.a l.n l.v q.ha=true∧Uj l.a nx=true:=by
 intro ls
 induction ls with
 |nil=>simp
 |cons l ls ih=>
  intro k e;obtain⟨i,a,n,v⟩:=l;simp only[Zb]at e;obtain⟨e1,e2⟩:=qqi _ _ e;grind
theorem Zk (hm:P.follows .mixedOrders=true) (hc:vK P c) {n nn:Nat} {ops:Array Oper} {rc:Option Nat} {Q:Exit→Act→World→Prop} {r:AV×AH} {id:Nat}
  {m:Mp} {D:Nat→Prop} {h:AH} {w:World} {a:Act} {tm:PT AV} {k:PT AV→AH→R} (RR:Rel P m D h w) (T:fA m D n a tm)
  (hk:∀m' D' h' w' a' tm',Bw P m D h w n a.defers a' tm' m' D' h' w'→k tm' h'=some r→Q .normal a' w')
  (bK:Pm P ops=true) {LP:Yz→Prop} {HP:Xx→Prop} {F1:Nat→Option AV} {h1:AH} {cP:PT AV} (S:nU P c n ops LP HP 0 (λt=>tm.get t) h ops.size F1 h1) (T1:Qh cP F1) (e1:k cP h1=some r)
  (lC:∀l hr,LP l→HP hr→(∃oi,ops[l.i]? =some oi∧gR P oi.op=true)→(∃oj,ops[hr.j]? =some oj∧xj P oj.op=true)→QY (kq ops.toList 0 .e) l.i hr.j=true→
   zR l.a l.n l.v hr.hb=true∧zR l.a l.n l.v hr.ha=true∧Uj l.a h.nx=true):(Code.region id ops true).wpIn (FW rc) nn P Q a w:=by
 obtain⟨_,F,H,V,W,TA,tp,hFN,hHN,pA⟩:=S.fns;have ap:∀i o,ops[i]? =some o→i<ops.size:=λi o h=>(Array.getElem?_eq_some_iff.1 h).1;have tr:Tr P c n ops LP HP F H V W:=⟨λi o ho=>pA i o (Nat.zero_le _) (ap i o ho) ho⟩;have TB:∀t v,F 0 t=some v→a.tmps[t]? =some (cv m v)∧br D v:=λt v hv=>by rw[TA]at hv;exact T.at_ t v hv
 have tu:Rel P m D (H 0) w:=by grind
 have gh:=λi hi=>qzN hc tr tu (λt v hv=>(TB t v hv).2) (i:=i) hi;have gm:=(qZe hc tr tu (λt v hv=>(TB t v hv).2) ops.size (Nat.le_refl _)).2;have Ez:∀i j oi oj,ops[i]? =some oi→ops[j]? =some oj→gR P oi.op=true→xj P oj.op=true→W i=true→W j=true→QY (kq ops.toList 0 .e) i j=true→
   ∃a,Yu (iM (F i)) oi.op=some a∧zR a (wF P oi.op) (V i) (H j)=true∧zR a (wF P oi.op) (V i) (H (j+1))=true∧Uj a (H 0).nx=true:=by
  intro i j oi oj mP Ia hl hh hwi Ib fh;obtain⟨sti,_⟩:=pA i oi (Nat.zero_le _) (ap i oi mP) mP;obtain⟨stj,_⟩:=pA j oj (Nat.zero_le _) (ap j oj Ia) Ia;obtain⟨z,hz,hLP⟩:=sti.ld hwi hl;have hHP:=stj.hv Ib hh;obtain⟨g1,g2,g3⟩:=lC _ _ hLP hHP ⟨oi,mP,hl⟩ ⟨oj,Ia,hh⟩ fh;grind
 let X:Cx:=⟨P,c,n,ops,kq ops.toList 0 .e,LP,HP,F,H,V,W,m,D,w,a,hc,tr,qgb bK,tu,gh,λi hi=>(gm i hi).1,λi hi=>(gm i hi).2,Ez⟩
 refine wpIn_region_any hm ?_;obtain⟨q,C,I⟩:=Cx.start X TB T.size (s:=λi=>(Array.replicate ops.size false).getD i false) (λi=>by simp[Array.getD]);refine Cx.C5 (X:=X) ?_ ops.size (Array.replicate ops.size false) q a _ m C (by grind) I ?_
 ·intro s q a' w' m' C' I' cT;have O:=I'.done cT (tm':=cP) (by show Qh cP (F ops.size);grind);have O':Bw P m D h w n a.defers a' cP m' (Cx.DQ X s X.N) h1 w':=by
   have e0:X.H 0=h:=tp;have eN:X.H X.N=h1:=hHN;grind
  grind
 ·unfold Cx.aN;refine Nat.le_trans (List.length_filter_le _ _) ?_;simp;exact Nat.le_refl _
theorem qG8 (hm:P.follows .mixedOrders=true) (hc:vK P c):M9 P c:=by
 intro n nn ops Ls rc Q r id m D h w a tm k RR T e hk;simp only[Sj,zM]at e;obtain⟨bK,e⟩:=e;have hl:∀i o,ops.toList[i]? =some o→ops[0+i]? =some o:=λi o hi=>by grind
 have h0:Qh tm (λt=>tm.get t):=λt v hv=>hv;cases TC:Y4 P (gR P) (kq ops.toList 0 .e) ops.toList ops.toList 0
 ·rw[TC]at e;simp only[cK]at e;obtain⟨cP,h1,F1,e1,T1,S⟩:=qxS _ ops.toList 0 Ls tm _ h k hl h0 e;rw[Nat.zero_add,Array.length_toList]at S;refine Zk hm hc RR T hk bK S T1 e1 ?_;rintro l hr _ _ ⟨oi,mP,hli⟩ ⟨oj,Ia,To⟩ fh;have:=Nm _ _ TC l.i oi (by grind) hli hr.j oj (by grind) To;grind
 ·rw[TC]at e;simp only[cK]at e;cases Ls with
  |nil=>grind
  |cons L Ls=>simp only[vL]at e;obtain⟨cP,h1,F1,nV,fi,e1,T1,_,_,S⟩:=qzU ops.toList 0 [] tm _ h [] [] _ hl h0 (λ_ hx=>(by grind)) e;obtain⟨e2,lC⟩:=qQ8 _ _ e1;rw[zM]at e2;obtain⟨cT,e2⟩:=e2;have S:=S (λl=>l∈nV) (λq=>q∈fi) (λ_ h=>h) (λ_ h=>h);rw[Nat.zero_add,Array.length_toList]at S;refine Zk hm hc RR T hk bK S (qWS T1 L cT) e2 ?_;grind
theorem qJI {tab:BT} {rt:List RT} (hm:P.follows .mixedOrders=true) (ht:TabOk P tab rt) (k:Nat):vK P (callT tab rt k) :=
 qzC ht (λ_ hc=>qG8 hm hc) k
theorem Rel.empty (P:Program) (m:Mp) (w:World) (hg:Gl P w):Rel P m (λ_=>False) AH.empty w:=⟨⟨λ_ hb=>hb.elim,λ_ _ hb=>hb.elim,λ_ hb=>hb.elim,λ_ _ hb=>hb.elim⟩,λp hp=>let ⟨g,h1,h2⟩:=hg p hp;⟨g,h1,h2,λ⟨_,hb,_⟩=>hb⟩⟩
theorem closed_true {tab:BT} {rt:List RT} (hm:P.follows .mixedOrders=true) (ht:TabOk P tab rt) {k:Nat} {f:FuncId} (e:isTrue (callT tab rt k (.fn f [] []) [] AH.empty)=true) (n:Nat) (w:World) (hg:Gl P w) :
  CallsIn Fence.wide n P f #[] w λe w'=>e=.returned (.bool true)∧RowKit.Below w.heap.size w w':=by
 unfold isTrue at e
 split at e
 rotate_left
 ·grind
 rename_i h' he;have:=(qJI hm ht k (.fn f [] []) [] AH.empty _ he (λ_=>(0,0)) _ w (Rel.empty P _ w hg) ⟨trivial,trivial⟩ trivial).2 n;refine CallsIn.mono this ?_;rintro ee w' ⟨m',D',rfl,X,R',_⟩;refine⟨rfl,X.os,X.tape,X.output,X.size,?_⟩;intro k hk;exact(X.keep k hk (λ⟨b,hb,_⟩=>hb)).1
end Go.Ae
namespace Go.Ae
open Go
variable {P:Program}
def callOk (P:Program) (f:Nat):Bool:=match P.funcs[f]? with
 | some fn => !(fn.name == "runtime.NumGoroutine") && !fn.body.isNone
 |none=>false
theorem qKC {f:Nat} (h:callOk P f=true) (as:Array Value) (W:World):(callFunc f as).run P W=.ok (.enter f as) W:=by
 unfold callOk at h
 split at h
 ·rename_i fn hf;simp only[Bool.and_eq_true,Bool.not_eq_true']at h;obtain⟨h1,h2⟩:=h;unfold callFunc;have hp:(program:Sem Program).run P W=.ok P W:=rfl;rw[qV hp];simp only[hf,h1,h2,Bool.false_eq_true,if_false];rfl
 grind
theorem BT.tx (g:Nat) (w:WF) (f:Nat):(BT.leaf g w).get f=if g=f then some w else none:=by
 show Bool.rec (motive:=λ_=>Option WF) none (some w) (Nat.beq g f)=_;by_cases h:g=f
 ·simp_all
 ·rw[iQ h,yY h]
theorem BT.tz (m:Nat) (l r:BT) (f:Nat):(BT.node m l r).get f=l.get f∨(BT.node m l r).get f=r.get f:=by
 show Bool.rec (motive:=λ_=>Option WF) (r.get f) (l.get f) (Nat.ble f m)=_∨Bool.rec (motive:=λ_=>Option WF) (r.get f) (l.get f) (Nat.ble f m)=_;cases Nat.ble f m
 all_goals simp
theorem BT.tA {p:Nat→WF→Prop}:∀{t:BT} {f:Nat} {g:WF},t.all p→t.get f=some g→p f g∧f∈t.fs:=by
 intro t
 induction t with
 |no=>nofun
 |leaf k w=>
  intro f g ha h;rw[BT.tx]at h;by_cases e:k=f
  ·rw[iJ e]at h;cases h;subst e;exact⟨ha,by simp[BT.fs]⟩
  grind
 |node m l r il ir=>
  intro f g ha h;rcases BT.tz m l r f with hl |hr
  ·rw[hl]at h;obtain⟨h1,h2⟩:=il ha.1 h;grind[BT.fs]
  ·rw[hr]at h;obtain⟨h1,h2⟩:=ir ha.2 h;grind[BT.fs]
theorem TabOk.of {tab:BT} {rt:List RT} (h1:tab.all (WX P)) (h2:tab.fs.all (λf=>callOk P f)=true) (h3:∀p∈rt,Sn P p.f p.pos p.L p.run):TabOk P tab rt:=by
 refine⟨?_,?_,h3⟩
 ·intro f g hg;exact(BT.tA h1 hg).1
 grind[qKC,List.all_eq_true,BT.tA]
open Go.RowKit
theorem post_below {H:Type} {enc:TypeId×Value→H} {f:Func} {s:ChangeSpec} {apart fresh handsOn again:Bool} {W W':World} {args:Array Value} {v:Value} {ds gs:List (DataW H)} {before pa pv:List MemPlace}
  (whole:DataW.Whole enc P f.params.toList s.vars apart W args.toList ds gs before) (parts:before=pa++pv) (below:Below W.heap.size W W')
  (out:∀(b:Nat) (sp:Nat→Bool) (hd:Bool),DataW.TrodAll enc P W' b sp hd f.resultTypes.toList (v.resultList f.resultTypes.size) (s.fn H (ds++gs)).results [])
  (ins:∀sp:Nat→Bool,(∀p∈before,sp p.block=true)→DataW.TrodAll enc P W' 0 sp true f.params.toList args.toList (s.fn H (ds++gs)).args pa)
  (glb:∀sp:Nat→Bool,(∀p∈before,sp p.block=true)→DataW.TrodVars enc P W' sp s.vars (s.fn H (ds++gs)).vars pv)
  (wide:∀(j:Nat) (t:TypeId) (r:Value),f.resultTypes[j]? =some t→(v.resultList f.resultTypes.size)[j]? =some r→Value.okWide P W' .any 0 t r) :
  s.post enc P f apart fresh handsOn again W args v W':=by
 have inside:∀p∈before,p.block<W.heap.size:=λp hp=>whole.lt p hp;have pB:∀p∈before,(λb=>decide (b<W.heap.size)) p.block=true:=λp hp=>iG (inside p hp);have all:∀p∈before,(λ_:Nat=>true) p.block=true:=λ_ _=>rfl;have C6:=whole;obtain⟨_,_,_,_,_,live,TD⟩:=C6;have tB:([]++pa)++pv=before:=by grind
 refine⟨ds,gs,before,[],pa,pv,whole,out _ _ _,ins _ pB,glb _ pB,?_,λ_=>⟨wide,_,_,([]++pa)++pv,⟨[]++pa,pv,ChangeShapes.trodAll_append (ins _ all) (out _ _ _),glb _ all,rfl,?_,?_⟩,?_⟩⟩
 ·refine World.keptBut_mono (λp hp=>?_) (below.frame (· ∈before));grind
 ·intro b off hp;have dY:MemPlace.cell b off∈before:=by grind
  rw[below.frozen (inside _ dY)];exact live b off dY
 all_goals grind
end Go.Ae
namespace Go.Ae
open Go
theorem jQU {α:Type} (f:Nat→Option α):∀N,∃t:aH α,∀i,aH.get t i=if i<N then f i else none:=by
 intro N
 induction N with
 |zero=>exact⟨.e,λi=>by rfl⟩
 |succ N ih=>
  obtain⟨t,ht⟩:=ih;cases hf:f N with
  |none=>
   refine⟨t,λi=>?_⟩;grind
  |some x=>
   refine⟨aH.set t N x,λi=>?_⟩;rw[aH.bN];grind
def Gu:Value→AV
 | .bool b=>.bool b
 | .int k n=>.int k n
 | .string s=>.str s.data.toList
 | .pointer none=>.aW
 | .pointer (some ⟨b,o,none⟩)=>.ptr b o
 | .slice none 0 0=>.aj
 | .slice (some a) 0 0=>.bM a
 | .slice (some ⟨b,o,none⟩) len cap=>.slice b o len cap false
 | .nilFunc=>.eR
 | .nilIface=>.dQ
 |_=>.undef
def Ka:Value→AV
 | .agg cs=>.agg (cs.toList.map Gu)
 |v=>Gu v
def Ux:Mp:=λb=>(b,0)
def gH (w:World) (b:Nat):Prop:=∃C e fr,w.heap[b]? =some (.cells C e fr)
def BI (w:World) (v:Value):Prop:=cv Ux (Gu v)=v∧br (gH w) (Gu v)
structure QN (w:World) (h:AH):Prop where
  nx:h.nx=w.heap.size
  bR:∀b C e fr,w.heap[b]? =some (.cells C e fr)→∃t,h.get b=some (.dh t)∧∀i u,aH.get t i=some u↔∃v,C[i]? =some v∧BI w v∧u=Gu v
theorem mirror (w:World):∃h,QN w h:=by
 have key:∀b:Nat,∃x:Option cW,∀(C:Array Value) (e:TypeId) (fr:Nat×Nat),w.heap[b]? =some (.cells C e fr)→∃t,x=some (.dh t)∧∀i u,aH.get t i=some u↔∃v,C[i]? =some v∧BI w v∧u=Gu v:=by
  intro b;by_cases hc:gH w b
  ·obtain⟨C,e,fr,hb⟩:=hc;have cl:∀v,Decidable (BI w v):=λv=>Classical.propDecidable _;obtain⟨t,ht⟩:=jQU (λi=>(C[i]?).bind λv=>if BI w v then some (Gu v)else none) C.size;refine⟨some (.dh t),λC' e' fr' bL=>⟨t,rfl,λi u=>?_⟩⟩;grind
  ·exact⟨none,λC e fr hb=>absurd ⟨C,e,fr,hb⟩ hc⟩
 obtain⟨h,h1,h2⟩:=Cx.rh (λb=>Classical.choose (key b)) w.heap.size w.heap.size;refine⟨h,h1,λb C e fr hb=>?_⟩;grind
theorem QN.m8 {w:World} {h:AH} (M:QN w h) {b:Nat} (hb:gH w b):¬live h b:=by obtain⟨C,e,fr,hc⟩:=hb;obtain⟨t,ht,_⟩:=M.bR b C e fr hc;rintro⟨x,hx,hl⟩;rw[ht]at hx;cases hx;exact hl
theorem QN.nW {P:Program} {w:World} {h:AH} (M:QN w h):Rel0 P Ux (gH w) h w:=by
 refine⟨?_,λb _ hb _ hl=>(M.m8 hb hl).elim,?_,?_⟩
 ·intro b hb;obtain⟨C,e,fr,hc⟩:=hb;obtain⟨t,ht,hi⟩:=M.bR b C e fr hc;refine⟨_,ht,⟨C.toList,e,fr,by trivial,?_⟩,?_⟩
  ·intro i v hv;obtain⟨u,h1,h2,rfl⟩:=(hi i v).1 hv;rw[h2.1];grind
  ·intro i v hv;obtain⟨u,h1,h2,rfl⟩:=(hi i v).1 hv;exact h2.2
 ·rintro b ⟨C,e,fr,hc⟩;rw[M.nx];grind
 ·rintro b t _ _ ⟨b',bL,hl,_⟩;exact M.m8 bL hl
theorem QN.rel {P:Program} {w:World} {h:AH} (M:QN w h) (hg:Gl P w):Rel P Ux (gH w) h w :=
 ⟨M.nW,λp hp=>let ⟨g,h1,h2⟩:=hg p hp;⟨g,h1,h2,λ⟨_,hb,hl,_⟩=>M.m8 hb hl⟩⟩
noncomputable def AH.at (h:AH) (b i:Nat):Option AV:=match h.get b with
 |some (.cells c _ _)=>c.fN i
 |some (.dh t)=>aH.get t i
 |_=>none
def WT (P:Program) (h:AH):Nat→TypeId→List AV→Prop
 | 0,_,_=>False
 |d+1,t,cs=>match P.underlying t with
  |some .bool=>∃b,cs=[.bool b]
  |some (.int k)=>∃n,cs=[.int k n]∧k.min≤n∧n≤k.max
  |some .string=>∃s,cs=[.str s]∧s.length≤maxLen
  |some (.slice e)=>cs=[.aj]∨(∃a,cs=[.bM a])∨P.cellsOf e=0∨∃b off len cap,cs=[.slice b off len cap false]∧len≤cap∧cap≤maxLen∧b<h.nx∧(∃t,h.get b=some (.dh t))∧
    ∀i,i<len→∃row,row.length=P.cellsOf e∧(∀j,j<P.cellsOf e→h.at b (off+i*P.cellsOf e+j)=row[j]?)∧WT P h d e row
  |some (.struct fs)=>cs.length=P.cellsOf t∧∀f∈fs.toList,WT P h d f.type ((cs.drop f.offset).take (P.cellsOf f.type))
  |some (.array n e)=>cs.length=P.cellsOf t∧∀i,i<n→WT P h d e ((cs.drop (i*P.cellsOf e)).take (P.cellsOf e))
  |_=>True
def Kv (P:Program):Nat→List Field→Option Nat
 |c,[]=>some c
 |c,f::r=>if f.offset=c then Kv P (c+P.cellsOf f.type) r else none
def plainT (P:Program):Nat→TypeId→Bool
 | 0,_=>false
 |d+1,t=>match P.underlying t with
  |some .bool |some (.int _) |some .string=>true
  |some (.slice e)=>Nat.ble 1 (P.cellsOf e)&&plainT P d e
  |some (.struct fs)=>(Kv P 0 fs.toList==some (P.cellsOf t))&&fs.toList.all λf=>plainT P d f.type
  |_=>false
theorem jJO {k:IntKind} {n:Int} (h:(Lit.int k n).wf=true):k.min≤n∧n≤k.max:=by grind[Lit.wf]
theorem qYh {P:Program}:∀{l:List Field} {c e:Nat},Kv P c l=some e→c≤e∧∀i,c≤i→i<e→∃f∈l,f.offset≤i∧i<f.offset+P.cellsOf f.type:=by
 intro l
 induction l with
 |nil=>intro c e h;cases h;simp
 |cons f l ih=>
  intro c e h;unfold Kv at h
  grind
theorem qwu {w:World} {h:AH} (M:QN w h) {b o:Nat} {v:Value} (hc:w.cell? ⟨b,o,none⟩=some v) (hg:BI w v):h.at b o=some (Gu v)∧gH w b:=by
 unfold World.cell? at hc
 split at hc
 ·rename_i C e fr hb;simp at hc;obtain⟨t,ht,hi⟩:=M.bR b C e fr hb;refine⟨?_,C,e,fr,hb⟩;unfold AH.at
  grind
 grind
theorem qjl {w:World} {a:Addr} {v:Value} (hc:w.cell? a=some v):a.spot=none:=by
 unfold World.cell? at hc
 split at hc
 all_goals simp_all
theorem Qu {P:Program} {d:Nat} {t:TypeId} (h:plainT P d t=true):∃n,plainT P (n+1) t=true:=by
 cases d with
 |zero=>cases h
 |succ d=>grind
theorem Yp {P:Program} {d:Nat} {t e:TypeId} (h:plainT P (d+1) t=true) (hu:P.underlying t=some (.slice e)):0<P.cellsOf e∧plainT P d e=true:=by unfold plainT at h;simp_all;omega
theorem KS {P:Program} {d:Nat} {t:TypeId} {fs:Array Field} (h:plainT P (d+1) t=true) (hu:P.underlying t=some (.struct fs)) :
  Kv P 0 fs.toList=some (P.cellsOf t)∧∀f∈fs.toList,plainT P d f.type=true:=by
 unfold plainT at h;grind
theorem qKU {P:Program}:∀{l:List Field} {c e:Nat},Kv P c l=some e→e=c+(l.map λf=>P.cellsOf f.type).sum∧∀(j:Nat) f,l[j]? =some f→f.offset=c+((l.take j).map λf=>P.cellsOf f.type).sum:=by
 intro l
 induction l with
 |nil=>intro c e h;cases h;simp
 |cons g l ih=>
  intro c e h;unfold Kv at h
  split at h
  ·rename_i hf;obtain⟨h1,h2⟩:=ih h;refine⟨by grind,λj f hj=>?_⟩;cases j with
   |zero=>grind
   |succ j=>grind
  grind
def qvA (P:Program) (t:TypeId):Prop:=∃d,plainT P d t=true
theorem qVi (P:Program):Kids P (qvA P):=by
 refine⟨?_,?_,?_,?_,?_⟩
 ·rintro t e ⟨d,h⟩ hu;grind[Qu,plainT,Bool.false_eq_true]
 ·rintro t e ⟨d,h⟩ hu;obtain⟨n,h⟩:=Qu h;exact⟨n,(Yp h hu).2⟩
 ·rintro t e n ⟨d,h⟩ hu;grind[Qu,plainT,Bool.false_eq_true]
 ·rintro t fs ⟨d,h⟩ hu;obtain⟨n,h⟩:=Qu h;obtain⟨h1,h2⟩:=KS h hu;obtain⟨h3,h4⟩:=qKU h1;exact⟨λf hf=>⟨n,h2 f hf⟩,by grind,λj f hj=>by grind⟩
 ·rintro t k e ⟨d,h⟩ hu;grind[Qu,plainT,Bool.false_eq_true]
theorem qg9 {H:Type} {enc:TypeId×Value→H} {P:Program} {w:World} {h:AH} (M:QN w h) {held:Bool}:∀(d:Nat) (t:TypeId) (fuel:Nat) (cs:List Value) (x:DataW H×List MemPlace),
  plainT P d t=true→DataW.trod enc P w 0 (λ_=>true) held fuel t cs=some x→(∀v∈cs,BI w v)∧WT P h d t (cs.map Gu):=by
 intro d
 induction d with
 |zero=>nofun
 |succ d ih=>
  intro t fuel cs x hp e;have PE:=hp;unfold plainT at hp;unfold WT
  split at hp
  ·rename_i hu;simp only[hu];obtain⟨b,rfl,_⟩:=DataW.trod_bool hu e;exact⟨λv hv=>by rw[List.mem_singleton.1 hv];trivial,b,rfl⟩
  ·rename_i k hu;simp only[hu];obtain⟨n,rfl,_,hw⟩:=DataW.trod_int hu e;exact⟨λv hv=>by rw[List.mem_singleton.1 hv];trivial,n,rfl,jJO hw⟩
  ·rename_i hu;simp only[hu];obtain⟨s,rfl,_,hl⟩:=DataW.trod_string hu e;refine⟨λv hv=>by rw[List.mem_singleton.1 hv];trivial,s.data.toList,rfl,?_⟩;trivial
  ·rename_i el hu;simp only[hu];obtain⟨bz,SN⟩:=Yp PE hu;rcases DataW.trod_slice hu e with⟨rfl,_⟩ |⟨a,len,cap,elems,rest,n,rfl,rfl,_,_,Tg,TE,Tb,h1,h2,_⟩
   ·exact⟨λv hv=>by rw[List.mem_singleton.1 hv];trivial,.inl rfl⟩
   ·obtain⟨FZ,h2⟩:=h2 rfl;by_cases mG:cap=0
    ·subst mG;obtain rfl:len=0:=by omega
     exact⟨λv hv=>by rw[List.mem_singleton.1 hv];trivial,.inr (.inl ⟨a,rfl⟩)⟩
    ·--the first place shows that the address has no spot
     have row:∀i,i<cap→∃r y,(w.cells? 0 (a.add (i*P.cellsOf el)) (P.cellsOf el))=some r∧DataW.trod enc P w 0 (λ_=>true) held n el r=some y:=by
      intro i hi;by_cases oQ:i<len
      ·have hx:=h1 i oQ;rw[iW omQ]at hx;grind[Option.bind_eq_some_iff]
      ·have hx:=h2 (i-len) omQ;rw[show len+(i-len)=i by omega,iW omQ]at hx;grind[Option.bind_eq_some_iff]
     have cells:∀(b:Addr) r,w.cells? 0 b (P.cellsOf el)=some r→r.length=P.cellsOf el∧∀j,j<P.cellsOf el→w.cell? (b.add j)=r[j]?:=by intro b r hr;unfold World.cells? at hr;rw[iJ (Nat.zero_le _)]at hr;refine⟨by simpa using mapM_some_length hr,λj hj=>?_⟩;exact mapM_some_get hr j j (by grind)
     have BJ:a.spot=none:=by obtain⟨r,y,hr,_⟩:=row 0 omQ;obtain⟨c1,c2⟩:=cells _ r hr;have:=c2 0 bz;rw[iW omQ]at this;grind[qjl,Addr.add]
     obtain⟨b,off,sp⟩:=a;simp only at BJ;subst BJ;have aE:∀i,i<cap→∃TF:List AV,TF.length=P.cellsOf el∧(∀j,j<P.cellsOf el→h.at b (off+i*P.cellsOf el+j)=TF[j]?)∧WT P h d el TF∧gH w b:=by
      intro i hi;obtain⟨r,y,hr,hy⟩:=row i hi;obtain⟨c1,c2⟩:=cells _ r hr;obtain⟨g1,g2⟩:=ih el n r y SN hy;have cx:∀j,j<P.cellsOf el→h.at b (off+i*P.cellsOf el+j)=(r.map Gu)[j]? ∧gH w b:=by
       intro j hj;have TG:=c2 j hj;have mi:j<r.length:=by omega
       rw[iW mi]at TG;have e1:((⟨b,off,none⟩:Addr).add (i*P.cellsOf el)).add j=⟨b,off+i*P.cellsOf el+j,none⟩:=by rw[kc,kc]
       rw[e1]at TG;obtain⟨k1,k2⟩:=qwu M TG (g1 _ (List.getElem_mem mi));grind
      grind
     have u4:Gu (.slice (some ⟨b,off,none⟩) len cap)=.slice b off len cap false:=by
      cases cap with
      |zero=>grind
      |succ cap=>cases len<;>rfl
     obtain⟨_,_,_,_,tc⟩:=aE 0 omQ;refine⟨?_,.inr (.inr (.inr ⟨b,off,len,cap,?_,Tg,TE,M.nW (P:=P) |>.lt b tc,?_,?_⟩))⟩
     ·intro v hv;rw[List.mem_singleton.1 hv];exact⟨by rw[u4];rfl,by rw[u4];exact tc⟩
     ·grind
     ·obtain⟨C,e,fr,hc⟩:=tc;obtain⟨t,ht,_⟩:=M.bR b C e fr hc;grind
     ·intro i hi;obtain⟨r,r1,r2,r3,_⟩:=aE i omQ;grind
  ·rename_i fs hu;simp only[hu];obtain⟨TH,hpf⟩:=KS PE hu;obtain⟨xs,n,rfl,_,hlen,uD,hf⟩:=DataW.trod_struct hu e;have part:∀f∈fs.toList,(∀v∈(cs.drop f.offset).take (P.cellsOf f.type),BI w v)∧WT P h d f.type (((cs.drop f.offset).take (P.cellsOf f.type)).map Gu):=by
    intro f EE;obtain⟨i,hi,rfl⟩:=List.mem_iff_getElem.1 EE;have sQ:i<fs.size:=by grind
    have hx:=hf i fs[i] (Array.getElem?_eq_getElem sQ);grind
   refine⟨?_,by grind,λf EE=>?_⟩
   ·intro v hv;obtain⟨i,hi,rfl⟩:=List.mem_iff_getElem.1 hv;obtain⟨_,hc⟩:=qYh TH;obtain⟨f,EE,h1,h2⟩:=hc i (Nat.zero_le _) omQ;refine(part f EE).1 _ ?_;have:((cs.drop f.offset).take (P.cellsOf f.type))[i-f.offset]? =some cs[i]:=by
     grind
    grind
   simp_all
  grind
end Go.Ae
namespace Go.Ae
open Go
def BK (P:Program) (h:AH) (d:Nat) (t:TypeId) (a:AV):Prop :=
 match P.underlying t with
 |some (.struct _) |some (.array _ _)=>∃l,a=.agg l∧WT P h d t l
 |_=>WT P h d t [a]
def PV (P:Program) (h:AH) (d:Nat):List TypeId→List AV→Prop
 |[],[]=>True
 |t::ts,a::as=>BK P h d t a∧PV P h d ts as
 |_,_=>False
theorem qx9 {H:Type} {enc:TypeId×Value→H} {P:Program} {w:World} {h:AH} (M:QN w h) {r:Reach} {base d:Nat} {t:TypeId} {v:Value} {x:DataW H} {ps:List MemPlace} (hp:plainT P d t=true)
  (hv:Value.okWide P w r base t v) (e:DataW.Trod enc P w 0 (λ_=>true) true t v x ps):cv Ux (Ka v)=v∧br (gH w) (Ka v)∧BK P h d t (Ka v):=by
 obtain⟨fuel,e⟩:=e;obtain⟨g,wt⟩:=qg9 M d t fuel _ _ hp e;unfold BK;have agg:∀cs:Array Value,v=.agg cs→cv Ux (Ka v)=v∧br (gH w) (Ka v)∧∃l,Ka v=.agg l∧WT P h d t l:=by
  rintro cs rfl;refine⟨?_,?_,_,rfl,wt⟩
  ·simp only[Ka,cv,ye,List.map_map]
   congr 1
   apply Array.ext';simp only[]
   conv=>rhs;rw[← List.map_id cs.toList]
   refine List.map_congr_left λv hv=>?_;exact(g v hv).1
  ·show aY _ _;rw[vo];intro u hu;obtain⟨z,hz,rfl⟩:=List.mem_map.1 hu;exact(g z hz).2
 have one:(∀cs:Array Value,v≠.agg cs)→cv Ux (Ka v)=v∧br (gH w) (Ka v)∧WT P h d t [Ka v]:=by
  intro hn;have hc:v.cells.toList=[v]:=by cases v<;>first |rfl |grind
  have hi:Ka v=Gu v:=by cases v<;>first |rfl |grind
  rw[hc]at g wt;rw[hi];exact⟨(g v aM).1,(g v aM).2,wt⟩
 unfold Value.okWide at hv
 split
 ·grind
 ·grind
 ·rename_i h1 h2;refine one ?_;rintro cs rfl
  simp_all[Cell.okWide,Cell.ok]
theorem args_ok {H:Type} {enc:TypeId×Value→H} {P:Program} {w:World} {h:AH} (M:QN w h) {r:Reach} {base d:Nat}:∀{ts:List TypeId} {vs:List Value} {ds:List (DataW H)} {ps:List MemPlace},
  ts.all (plainT P d)=true→(∀(j:Nat) t v,ts[j]? =some t→vs[j]? =some v→Value.okWide P w r base t v)→DataW.TrodAll enc P w 0 (λ_=>true) true ts vs ds ps→
  aQ Ux (vs.map Ka)=vs∧aY (gH w) (vs.map Ka)∧PV P h d ts (vs.map Ka)∧ds.length=ts.length:=by
 intro ts
 induction ts with
 |nil=>
  intro vs ds ps _ _ e;cases vs<;>cases ds<;>simp only[DataW.TrodAll]at e
  trivial
 |cons t ts ih=>
  intro vs ds ps hp hv e;cases vs<;>cases ds<;>simp only[DataW.TrodAll]at e
  rename_i v vs x ds;obtain⟨p,q,h1,h2,_⟩:=e;simp only[List.all_cons,Bool.and_eq_true]at hp;obtain⟨a1,a2,a3⟩:=qx9 M hp.1 (hv 0 t v rfl rfl) h1;obtain⟨b1,b2,b3,b4⟩:=ih hp.2 (λj t v h1 h2=>hv (j+1) t v (by grind) (by grind)) h2;exact⟨by grind[aQ],⟨a2,b2⟩,⟨a3,b3⟩,by grind⟩
theorem args_stay {H:Type} {enc:TypeId×Value→H} {P:Program} {w w':World} {sp:Nat→Bool}:∀{ts:List TypeId} {vs:List Value} {ds:List (DataW H)} {ps:List MemPlace},
  (∀t∈ts,qvA P t)→DataW.TrodAll enc P w 0 (λ_=>true) true ts vs ds ps→(∀k,k<w.heap.size→w'.heap[k]? =w.heap[k]?)→(∀p∈ps,p.block<w.heap.size)→(∀p∈ps,sp p.block=true)→
  DataW.TrodAll enc P w' 0 sp true ts vs ds ps:=by
 intro ts
 induction ts with
 |nil=>
  grind[DataW.TrodAll]
 |cons t ts ih=>
  intro vs ds ps hp e hb ap hs;cases vs<;>cases ds<;>simp only[DataW.TrodAll]at e ⊢
  rename_i v vs x ds;obtain⟨p,q,⟨fuel,h1⟩,h2,rfl⟩:=e;have hq:∀y,y∈p→y∈p++q:=λy hy=>List.mem_append.2 (.inl hy);refine⟨p,q,⟨fuel,?_⟩,ih (λt ht=>hp t (iX _ ht)) h2 hb (λy hy=>ap y (List.mem_append.2 (.inr hy))) (λy hy=>hs y (List.mem_append.2 (.inr hy))),rfl⟩;refine DataW.trod_stays (qVi P) ?_ (λh=>by grind) (hp t (iK ..)) h1 ?_ (λy hy=>hs y (hq y hy))
  ·rintro t e ⟨d,h⟩ hu;obtain⟨n,h⟩:=Qu h;exact(Yp h hu).1
  ·intro y hy;have hk:=hb y.block (ap y (hq y hy));cases y with
   |cell b off=>show World.cell? _ _=World.cell? _ _;unfold World.cell?;simp only[];rw[show w'.heap[b]? =w.heap[b]? from hk]
   |map b=>exact hk
end Go.Ae
