/- The abstract executor of the program's form in Lean, shown sound: regions that draw their order: every order; the table's answers are the program's; a row's last step; the caller's cells. -/
import Derived.Test.YtolpbdncppeohaaGreatDoorTopBankAe5
import Derived.ChangeSame
import Derived.ChangeArms
import Derived.ChangeStays
namespace Go.Ae
open Go
structure Cx where
  P:Program
  c:CV
  n:Nat
  ops:Array Oper
  M:PT Nat
  LP:X0→Prop
  HP:Xq→Prop
  F:Nat→Nat→Option AV
  H:Nat→AH
  V:Nat→AV
  W:Nat→Bool
  m0:Mp
  D0:Nat→Prop
  w0:World
  a0:Act
  hc:y9 P c
  tr:Tr P c n ops LP HP F H V W
  st:Stat P ops M
  na:Rel P m0 D0 (H 0) w0
  gh:∀i,i≤ops.size→Gh P D0 H F i
  mono:∀i,i<ops.size→(H i).nx≤(H (i+1)).nx
  vin:∀i,i<ops.size→bu (Dg D0 H (i+1)) (V i)
  EH:∀i j oi oj,ops[i]? =some oi→ops[j]? =some oj→gg P oi.op=true→z6 P oj.op=true→W i=true→W j=true→kL M i j=true→
    ∃a,Xt (fJ (F i)) oi.op=some a∧tp a (kZ P oi.op) (V i) (H j) (H (j+1)) (H 0).nx=true
namespace Cx
variable (X:Cx)
def N:Nat:=X.ops.size
def nx (i:Nat):Nat:=(X.H i).nx
def bm (i:Nat):Prop:=∃o,X.ops[i]? =some o∧z6 X.P o.op=true
def fL (i:Nat):Option Tmp:=(X.ops[i]?).bind (·.dst)
def DS (s:Nat→Bool):Nat→Prop:=λb=>X.D0 b∨∃i,s i=true∧X.nx i≤b∧b<X.nx (i+1)
def FS (s:Nat→Bool):Nat→Nat→Option AV
 | 0,t=>X.F 0 t
 |i+1,t=>if s i=true∧X.fL i=some t then some (X.V i)else FS s i t
def ins (s:Nat→Bool) (i:Nat):Nat→Bool:=λj=>j==i||s j
variable {X}
theorem lq {i:Nat} (h:i<X.N):∃o,X.ops[i]? =some o:=⟨_,Array.getElem?_eq_getElem h⟩
theorem JA {i:Nat} {o:Oper} (h:X.ops[i]? =some o):i<X.N:=(Array.getElem?_eq_some_iff.1 h).1
theorem dL {i j:Nat} (p8:i≤j) (hj:j≤X.N):X.nx i≤X.nx j:=by
  induction j with
  | zero => grind
  |succ j ih=>
    by_cases h:i=j+1
    · grind
    · exact Nat.le_trans (ih omQ omQ) (X.mono j (by trivial))
theorem U7 {o:Op} (h:z6 X.P o=false):la X.P o=.pure∨la X.P o=.load∨la X.P o=.fresh:=by
 unfold z6 at h;cases hc:la X.P o<;>simp only[hc]at h<;>simp
 grind
theorem Wr {P:Program} {o:Op} (h:la P o=.load):V6 o=true:=by
 cases o with
 |load t x=>rfl
 |convert s d x=>
  grind[la]
 |call cl=>
  grind[la,invoke,builtin]
 |_=>simp only[la,reduceCtorEq]at h
theorem kind {i:Nat} {o:Oper} (ho:X.ops[i]? =some o) (hh:z6 X.P o.op=false) (hw:X.W i=true) :
  X.H (i+1)=X.H i∨∃mk x,CZ mk∧X.V i=mk (X.nx i)∧X.H (i+1)=(X.H i).new x∧∀g,cM X.P X.c o.op (fJ (X.F i)) g=some (mk g.nx,g.new x):=by
 have hs:=(X.tr.step i o ho).1.yes hw;rcases U7 hh with h |h |h
 ·cases ng:JE X.P o.op
  ·cases mj:QQ X.P o.op
   ·exact .inl (Wk h ng mj hs).1
   ·exact .inl (M6 mj hs).1
  ·exact .inl (Za ng hs).1
 ·obtain⟨t,x,Bx⟩:=Y0 (Wr h);rw[Bx]at hs;exact .inl (Ng hs).1
 ·obtain⟨mk,x,h1,h2,h3,h4⟩:=OB h hs;exact .inr ⟨mk,x,h1,h2,h3,h4⟩
theorem vL {i j:Nat} (p8:i≤j) (hj:j≤X.N) (hn:∀k,i≤k→k<j→¬(X.bm k∧X.W k=true)):∀b,b<X.nx i→(X.H j).get b=(X.H i).get b:=by
  induction j with
  | zero => grind
  |succ j ih=>
    intro b hb;by_cases h:i=j+1
    · grind
    · have:=ih omQ omQ (λk h1 h2=>hn k h1 omQ) b hb;rw[← this];obtain⟨o,ho⟩:=X.lq (show j<X.N by omega);cases hw:X.W j
      · rw[((X.tr.step j o ho).1.no hw).2]
      · have hh:z6 X.P o.op=false:=by
          cases hh:z6 X.P o.op
          · rfl
          · exact absurd ⟨⟨o,ho,hh⟩,hw⟩ (hn j omQ omQ)
        rcases kind ho hh hw with e |⟨mk,x,_,_,e,_⟩
        · rw[e]
        · rw[e];have:X.nx i≤X.nx j:=dL omQ omQ;exact AH.bS _ _ (by unfold nx at*;omega)
theorem Yd {s:Nat→Bool} (down:∀i o,s i=true→X.ops[i]? =some o→∀e∈o.after,Vj e=true→s e.on=true) (sN:∀i,s i=true→i<X.N) :
  ∀i k,s i=true→(xq X.M i).testBit k=true→s k=true:=by
 intro i
 induction i using Nat.strongRecOn with
 |_ i ih=>
  intro k hs hk;obtain⟨o,ho⟩:=X.lq (sN i hs);obtain⟨e,he,hb,aw,hk⟩:=X.st.pC i o k ho hk;grind
theorem Ws {i k:Nat} {o:Oper} (ho:X.ops[i]? =some o) (hk:(xq X.M i).testBit k=true):k<i:=by
 induction i using Nat.strongRecOn generalizing o with
 |_ i ih=>
  obtain⟨e,he,hb,aw,hk⟩:=X.st.pC i o k ho hk;grind
structure dV (X:Cx) (s:Nat→Bool) (i:Nat) (o:Oper):Prop where
  ho:X.ops[i]? =some o
  un:s i=false
  oO:∀e∈o.after,Vj e=true→s e.on=true
  down:∀i o,s i=true→X.ops[i]? =some o→∀e∈o.after,Vj e=true→s e.on=true
  sN:∀i,s i=true→i<X.N
variable {s:Nat→Bool} {i:Nat} {o:Oper}
theorem dV.pC (r:dV X s i o) {k:Nat} (hk:(xq X.M i).testBit k=true):s k=true:=by
 obtain⟨e,he,hb,aw,hk⟩:=X.st.pC i o k r.ho hk;have EI:=r.oO e he hb;rcases hk with rfl |hk
 ·grind
 ·exact Yd r.down r.sN _ k EI hk
theorem dV.later (r:dV X s i o) {k:Nat} (hk:s k=true):(xq X.M k).testBit i=false:=by
 cases h:(xq X.M k).testBit i
 ·rfl
 ·have:=Yd r.down r.sN k i hk h;rw[r.un]at this;grind
theorem dV.reads (r:dV X s i o) {t:Nat} (ht:(looks X.ops.toList o).testBit t=true):∀k,k≤X.N→X.FS s k t=X.F (min k i) t:=by
 intro k
 induction k with
 |zero=>simp[FS]
 |succ k ih=>
  intro hk;have ihk:=ih omQ;obtain⟨ok,dI⟩:=X.lq (show k<X.N by omega);have rV:X.fL k=ok.dst:=by grind[fL]
  simp only[FS];rw[rV];by_cases ra:k<i
  ·rw[show min (k+1) i=k+1 by omega];rw[show min k i=k by omega]at ihk;rw[(X.tr.step k ok dI).2];unfold cR;by_cases hd:ok.dst=some t
   ·rw[iJ hd];have EJ:=X.st.apart k i ok o ra dI r.ho;have oh:s k=true:=by
     rcases EJ with h |⟨h,_⟩
     ·exact r.pC h
     ·have:=Vp h t (by grind[Xb]);grind
    grind
   grind
  ·rw[show min (k+1) i=i by omega];rw[show min k i=i by omega]at ihk;rw[iQ,ihk];rintro⟨oh,hd⟩;have cg:k≠i:=λe=>by subst e;rw[r.un]at oh;grind
   have EJ:=X.st.apart i k o ok omQ r.ho dI;rcases EJ with h |⟨_,h⟩
   ·rw[r.later oh]at h;grind
   grind[Vp,Xb]
theorem dV.read (r:dV X s i o) {t:Nat} (ht:(looks X.ops.toList o).testBit t=true):X.FS s X.N t=X.F i t:=by rw[r.reads ht _ (Nat.le_refl _),show min X.N i=i by have:=JA r.ho;omega]
theorem dV.write (r:dV X s i o) (t:Nat):X.FS (ins s i) X.N t=if o.dst=some t then some (X.V i)else X.FS s X.N t:=by
 have hdi:X.fL i=o.dst:=by unfold fL;rw[r.ho];rfl
 have key:∀k,k≤X.N→X.FS (ins s i) k t=if i<k∧o.dst=some t then some (X.V i)else X.FS s k t:=by
  intro k
  induction k with
  |zero=>simp[FS]
  |succ k ih=>
   intro hk;have ihk:=ih omQ;simp only[FS];by_cases ra:k=i
   ·simp_all[ins]
   ·have h1:ins s i k=s k:=by grind[ins]
    rw[h1,ihk];by_cases hc:s k=true∧X.fL k=some t
    ·rw[iJ hc];by_cases h2:i<k+1∧o.dst=some t
     ·exfalso;obtain⟨ok,dI⟩:=X.lq (show k<X.N by omega);have hdk:ok.dst=some t:=by grind[fL]
      have EJ:=X.st.apart i k o ok omQ r.ho dI;rcases EJ with h |⟨h,_⟩
      ·rw[r.later hc.1]at h;grind
      ·have:=Vp h t (by grind[Xb]);simp_all[Nat.testBit_or,Xb]
     grind
    grind
 rw[key _ (Nat.le_refl _)];have:=JA r.ho;grind
theorem jVF (hs:∀i,i<X.N→s i=true):∀k,k≤X.N→X.FS s k=X.F k:=by
 intro k
 induction k with
 |zero=>intro _;rfl
 |succ k ih=>
  intro hk;obtain⟨o,ho⟩:=X.lq (show k<X.N by omega)
  funext t
  simp only[FS];rw[ih omQ,(X.tr.step k o ho).2];have rV:X.fL k=o.dst:=by grind[fL]
  unfold cR;grind
theorem jJS (hs:∀i,s i=false):∀k,X.FS s k=X.F 0:=by
 intro k
 induction k with
 |zero=>rfl
 |succ k ih=>simp_all[FS]
end Cx
end Go.Ae
namespace Go.Ae
open Go
namespace Cx
variable {X:Cx} {s:Nat→Bool} {i q:Nat} {o:Oper} {a:Act} {w w':World} {m m':Mp} {C:AH}
structure Inv (X:Cx) (s:Nat→Bool) (q:Nat) (a:Act) (w:World) (m:Mp) (C:AH):Prop where
  qN:q≤X.N
  hq:q<X.N→X.bm q
  hs:∀i,X.bm i→(s i=true↔i<q)
  sN:∀i,s i=true→i<X.N
  down:∀i o,s i=true→X.ops[i]? =some o→∀e∈o.after,Vj e=true→s e.on=true
  rl:Rel0 X.P m (X.DS s) C w
  rX:X.nx X.N≤C.nx
  i1:∀b,X.DS s b→b<X.nx q→C.get b=(X.H q).get b
  i2:∀i,q≤i→s i=true→∀b,X.nx i≤b→b<X.nx (i+1)→C.get b=(X.H (i+1)).get b
  i3:∀i,i<q→s i=false→∀b,X.nx i≤b→b<X.nx (i+1)→(X.H q).get b=(X.H (i+1)).get b
  map:∀b,X.D0 b→m b=X.m0 b
  size:X.w0.heap.size≤w.heap.size
  keep:∀c,c<X.w0.heap.size→¬own X.m0 X.D0 (X.H 0) c→w.heap[c]? =X.w0.heap[c]? ∧¬own m (X.DS s) C c
  os:w.os=X.w0.os
  tape:w.tape=X.w0.tape
  output:w.output=X.w0.output
  Ax:X.n≤a.tmps.size
  slot:∀t v,X.FS s X.N t=some v→a.tmps[t]? =some (cv m v)∧bu (X.DS s) v
  df:a.defers=X.a0.defers
theorem qyI {P:Program} {m0 m:Mp} {D0 D:Nat→Prop} {h0 h:AH} {w0 w:World} (r:Ah P m0 D0 h0 w0)
  (keep:∀c,c<w0.heap.size→¬own m0 D0 h0 c→w.heap[c]? =w0.heap[c]? ∧¬own m D h c):Ah P m D h w:=λp hp=>by
 obtain⟨g,h1,h2,h3⟩:=r p hp;grind[Gp]
theorem Inv.rel (I:Inv X s q a w m C):Rel X.P m (X.DS s) C w:=⟨I.rl,qyI X.na.gl I.keep⟩
theorem XK {b:Nat} (h:X.D0 b):b<X.nx 0:=X.na.lt b h
theorem mn {b:Nat}:X.DS (ins s i) b↔X.DS s b∨(X.nx i≤b∧b<X.nx (i+1)):=by
 unfold DS ins;grind
theorem VI {b:Nat} (h:X.DS s b):X.DS (ins s i) b:=mn.2 (.inl h)
theorem Wt (sN:∀i,s i=true→i<X.N) {b:Nat} (h:X.DS s b):b<X.nx X.N:=by
 rcases h with h |⟨j,hj,_,h⟩
 ·exact Nat.lt_of_lt_of_le (XK h) (dL (Nat.zero_le _) (Nat.le_refl _))
 ·exact Nat.lt_of_lt_of_le h (dL (sN j hj) (Nat.le_refl _))
theorem Wu (sN:∀i,s i=true→i<X.N) (hi:i<X.N) (un:s i=false) {b:Nat} (h1:X.nx i≤b) (h2:b<X.nx (i+1)):¬X.DS s b:=by
 rintro(h |⟨j,hj,h3,h4⟩)
 ·have:=XK h;have:=dL (X:=X) (Nat.zero_le i) omQ;omega
 ·have:=sN j hj;rcases Nat.lt_trichotomy j i with aw |rfl |EL
  ·have:=dL (X:=X) (show j+1≤i by omega) omQ;omega
  ·grind
  ·have:=dL (X:=X) (show i+1≤j by omega) omQ;omega
theorem Pj (sN:∀i,s i=true→i<X.N) {b:Nat} (h:X.DS s b) (hb:b<X.nx q):Dg X.D0 X.H q b:=by
 rcases h with h |⟨j,hj,h3,h4⟩
 ·exact .inl h
 ·refine .inr ⟨?_,hb⟩;have:=dL (X:=X) (Nat.zero_le j) (Nat.le_of_lt (sN j hj));exact Nat.le_trans this h3
def DQ (X:Cx) (s:Nat→Bool) (q:Nat):Nat→Prop:=λb=>X.DS s b∧b<X.nx q
mutual
theorem VH {D D':Nat→Prop}:∀v:AV,bu D v→bu D' v→bu (λb=>D b∧D' b) v
 | .bool _,_,_=>trivial
 | .int _ _,_,_=>trivial
 | .str _,_,_=>trivial
 | .ptr b o,h,h'=>⟨h,h'⟩
 | .aU,_,_=>trivial
 | .slice b o l c p,h,h'=>⟨h,h'⟩
 | .ak,_,_=>trivial
 | .fn f a c,h,h'=>by simp only[bu]at*;exact⟨JF a h.1 h'.1,JF c h.2 h'.2⟩
 | .yield l,h,h'=>⟨h,h'⟩
 | .dY,_,_=>trivial
 | .iface t v,h,h'=>by simp only[bu]at*;exact VH v h h'
 | .dl,_,_=>trivial
 | .agg l,h,h'=>by simp only[bu]at*;exact JF l h h'
 | .bV l,h,h'=>by simp only[bu]at*;exact JF l h h'
 | .ch _,_,_=>trivial
 | .tail _ _ _ _,h,h'=>⟨h,h'⟩
 | .dp _,h,h'=>⟨h,h'⟩
theorem JF {D D':Nat→Prop}:∀l:List AV,ba D l→ba D' l→ba (λb=>D b∧D' b) l
 |[],_,_=>trivial
 |a::r,h,h'=>by simp only[ba]at*;exact⟨VH a h.1 h'.1,JF r h.2 h'.2⟩
end
theorem Wv {D D':Nat→Prop} {x:cV} (h:cJ D x) (h':cJ D' x):cJ (λb=>D b∧D' b) x:=by
 cases x<;>simp only[cJ]at* <;>first |exact JF _ h h' |exact⟨JF _ h.1 h'.1,h.2,h'.2⟩ |grind[VH] |trivial
theorem Inv.ug (I:Inv X s q a w m C) {v:AV} (h1:bu (X.DS s) v) {j:Nat} (hj:j≤q) (h2:bu (Dg X.D0 X.H j) v):bu (DQ X s q) v:=by
 refine QA (λb hb=>?_) v (VH v h1 h2);obtain⟨iy,eP⟩:=hb;refine⟨iy,?_⟩;rcases eP with h |h
 ·exact Nat.lt_of_lt_of_le (XK h) (dL (Nat.zero_le _) I.qN)
 ·exact Nat.lt_of_lt_of_le h.2 (dL hj I.qN)
theorem Inv.ol (I:Inv X s q a w m C):Rel X.P m (DQ X s q) (X.H q) w:=by
 refine⟨⟨?_,?_,?_,?_⟩,λp hp=>by
  obtain⟨g,h1,h2,h3⟩:=I.rel.gl p hp;refine⟨g,h1,h2,?_⟩;rintro⟨b,⟨hb,aw⟩,hl,e⟩
  exact h3 ⟨b,hb,by unfold live at*;rw[I.i1 b hb aw];grind,e⟩⟩
 ·rintro b ⟨hb,aw⟩;obtain⟨x,hx,mS,pY⟩:=I.rel.bp b hb;rw[I.i1 b hb aw]at hx;refine⟨x,hx,mS,?_⟩;obtain⟨y,hy,fX⟩:=(X.gh q I.qN).bp b (Pj I.sN hb aw);rw[hx]at hy;cases hy;refine cJ.mono (λb hb=>?_) (Wv pY fX);refine⟨hb.1,?_⟩;rcases hb.2 with h |h
  ·exact Nat.lt_of_lt_of_le (XK h) (dL (Nat.zero_le _) I.qN)
  ·exact h.2
 ·rintro b b' ⟨hb,aw⟩ ⟨bJ,By⟩ hl eH e;refine I.rel.inj b b' hb bJ ?_ ?_ e
  ·unfold live at*;rw[I.i1 b hb aw];grind
  ·unfold live at*;rw[I.i1 b' bJ By];grind
 ·rintro b ⟨hb,aw⟩;exact aw
 ·rintro b t ⟨hb,aw⟩ hg ⟨b',⟨bJ,By⟩,eH,he⟩;refine I.rel.dq b t hb (by rw[I.i1 b hb aw];grind) ⟨b',bJ,?_,he⟩;unfold live at*;rw[I.i1 b' bJ By];grind
theorem MV:ins s i i=true:=by simp[ins]
theorem Mi {j:Nat} (h:j≠i):ins s i j=s j:=by simp[ins,h]
theorem Iq {j:Nat} (h:s j=true):ins s i j=true:=by simp[ins,h]
theorem Xz {j:Nat} (h:ins s i j=true):j=i∨s j=true:=by grind[ins]
theorem Inv.rdy (I:Inv X s q a w m C) (ho:X.ops[i]? =some o) (un:s i=false) (oO:∀e∈o.after,Vj e=true→s e.on=true):dV X s i o:=⟨ho,un,oO,I.down,I.sN⟩
theorem dV.oP (r:dV X s i o):∀j o',ins s i j=true→X.ops[j]? =some o'→∀e∈o'.after,Vj e=true→ins s i e.on=true:=by
 intro j o' hj ia e he hb;rcases Xz hj with rfl |hj
 ·rw[r.ho]at ia;cases ia;exact Iq (r.oO e he hb)
 ·exact Iq (r.down j o' hj ia e he hb)
theorem dV.EM (r:dV X s i o):∀j,ins s i j=true→j<X.N:=by
 intro j hj;rcases Xz hj with rfl |hj
 ·exact JA r.ho
 ·exact r.sN j hj
theorem Inv.rY (I:Inv X s q a w m C) (r:dV X s i o) {v:AV} (hv:X.V i=v) (hc:∀u,bu (X.DS s) u→cv m' u=cv m u) {z:Value} (hz:cv m' v=z) (hd:bu (X.DS (ins s i)) v) :
  X.n≤(a.put o.dst z).tmps.size∧(∀t u,X.FS (ins s i) X.N t=some u→(a.put o.dst z).tmps[t]? =some (cv m' u)∧bu (X.DS (ins s i)) u):=by
 subst hz;refine⟨?_,?_⟩
 ·cases o.dst with
  |none=>exact I.Ax
  |some d=>simp[Act.put];exact I.Ax
 ·intro t u hu;rw[r.write]at hu;by_cases EN:o.dst=some t
  ·rw[iJ EN]at hu;cases hu;rw[hv];refine⟨?_,hd⟩;have aw:=Nat.lt_of_lt_of_le ((X.tr.step i o r.ho).1.dst t EN) I.Ax;grind[Act.put,Array.getElem?_setIfInBounds_self]
  ·rw[iQ EN]at hu;obtain⟨h1,h2⟩:=I.slot t u hu;refine⟨?_,QA (λb hb=>VI hb) u h2⟩;rw[hc u h2];cases hod:o.dst with
   |none=>exact h1
   |some d=>grind[Act.put,Array.getElem?_setIfInBounds_ne]
theorem Inv.pure (I : Inv X s q a w m C) (r : dV X s i o) (hh : ¬ X.bm i) (hH : X.H (i + 1) = X.H i) (E : Ext m (X.DS s) C w m' (X.DS s) C w') (R' : Rel X.P m' (X.DS s) C w') (hv : bu (X.DS s) (X.V i)) :
    Inv X (ins s i) q (a.put o.dst (cv m' (X.V i))) w' m' C:=by
  have hD:X.DS (ins s i)=X.DS s:=by
    funext b
    refine propext (mn.trans ⟨λh=>h.elim id λh=>?_,.inl⟩);grind[nx]
  have nO:=I.rY r rfl (m':=m') (λu hu=>E.cv hu) rfl (by grind);have C1:i≠q:=λe=>by subst e;exact hh (I.hq (JA r.ho))
  refine { qN := I.qN, hq := I.hq, hs := ?_, sN := r.EM, down := r.oP, rl := by rw [hD];exact R'.toRel0, rX := I.rX, i1 := by rw [hD];exact I.i1, i2 := ?_, i3 := ?_, map := ?_, size := Nat.le_trans I.size E.size, keep := ?_,
           os:=E.os.trans I.os,tape:=E.tape.trans I.tape,output:=E.output.trans I.output,Ax:=nO.1,slot:=nO.2,df:=by rw[kS];exact I.df }
  · intro j hj;rw[Mi (λe=>hh (by grind))];exact I.hs j hj
  · intro j Pk hj b h1 h2;rcases Xz hj with rfl |hj
    · grind[nx]
    · exact I.i2 j Pk hj b h1 h2
  · intro j pD hj b h1 h2;refine I.i3 j pD ?_ b h1 h2;grind[Iq]
  · intro b hb;rw[E.map b (.inl hb)];exact I.map b hb
  · intro c hc hn;obtain⟨k1,k2⟩:=I.keep c hc hn;obtain⟨k3,k4⟩:=E.keep c (Nat.lt_of_lt_of_le hc I.size) k2;grind
end Cx
end Go.Ae
namespace Go.Ae
open Go
namespace Cx
variable {X:Cx} {s:Nat→Bool} {i q:Nat} {o:Oper} {a:Act} {w w':World} {m m':Mp} {C:AH}
theorem EP {mk:Nat→AV} (h:CZ mk) {m m':Mp} {b b':Nat} (e:m b=m' b'):cv m (mk b)=cv m' (mk b'):=by
 rcases h with rfl |⟨l,k,o,rfl⟩
 all_goals simp_all[cv]
theorem jXh {mk:Nat→AV} (h:CZ mk) {D:Nat→Prop} {b:Nat}:bu D (mk b)↔D b:=by
 rcases h with rfl |⟨l,k,o,rfl⟩<;>rfl
theorem Inv.fresh (I:Inv X s q a w m C) (r:dV X s i o) (hh:¬X.bm i) {x:cV} {mk:Nat→AV} (Ww:CZ mk) (hV:X.V i=mk (X.nx i)) (hH:X.H (i+1)=(X.H i).new x) {m1:Mp} {D1:Nat→Prop}
  (E:Ext m (X.DS s) C w m1 D1 (C.new x) w') (R1:Rel X.P m1 D1 (C.new x) w') :
  ∃m' C',Inv X (ins s i) q (a.put o.dst (cv m1 (mk C.nx))) w' m' C':=by
 have hi:=JA r.ho;have Ir:X.nx (i+1)=X.nx i+1:=by simp_all[nx]
 have hCi:X.nx (i+1)≤C.nx:=Nat.le_trans (dL omQ (Nat.le_refl _)) I.rX;have hD:∀b,X.DS (ins s i) b↔X.DS s b∨b=X.nx i:=λb=>mn.trans ⟨λh=>h.imp id λh=>by omega,λh=>h.imp id λh=>by omega⟩;have Bz:¬X.DS s (X.nx i):=Wu I.sN hi r.un (Nat.le_refl _) omQ;have aw:∀b,X.DS s b→b<C.nx:=λb hb=>I.rel.lt b hb;have pE:∀b,D1 b↔X.DS s b∨b=C.nx:=λb=>(E.dm b).trans ⟨λh=>h.imp id λh=>by simp at h;omega,λh=>h.imp id λh=>by simp_all⟩;have rU:∀b,X.DS s b→m1 b=m b:=E.map;obtain⟨m',tU⟩:∃m':Mp,m'=λb=>if b=X.nx i then m1 C.nx else m1 b:=⟨_,rfl⟩
 have C5:m' (X.nx i)=m1 C.nx:=by grind
 have EQ:∀b,b≠X.nx i→m' b=m1 b:=λb hb=>by grind
 have lr:∀b,X.DS s b→m' b=m b:=λb hb=>by grind
 have fI:∀b,b≠X.nx i→(C.put (X.nx i) x).get b=C.get b:=λb hb=>AH.bw C x (λe=>hb e.symm);have pX:(C.put (X.nx i) x).get (X.nx i)=some x:=AH.aV C _ x;have oN:∀b,X.DS s b→(C.put (X.nx i) x).get b=C.get b:=λb hb=>fI b (λe=>Bz (e▸hb));have ud:∀b,X.DS s b→(C.new x).get b=C.get b:=λb hb=>AH.bS C x (by grind);have pF:(C.new x).get C.nx=some x:=AH.bB C x;have Pm:(X.H (i+1)).get (X.nx i)=some x:=by rw[hH];exact AH.bB _ _
 have pY:cJ (X.DS s) x:=by
  obtain⟨y,hy,_,fX⟩:=R1.bp C.nx ((pE _).2 (.inr rfl));rw[pF]at hy;cases hy;obtain⟨z,hz,tz⟩:=(X.gh (i+1) hi).bp (X.nx i) (.inr ⟨dL (Nat.zero_le _) omQ,by show X.nx i<X.nx (i+1);omega⟩);rw[Pm]at hz;cases hz;refine cJ.mono (λb hb=>?_) (Wv fX tz);rcases(pE b).1 hb.1 with h |h
  ·grind
  ·exfalso;rcases hb.2 with h' |h'
   ·have:=XK h';have:=dL (X:=X) (Nat.zero_le (i+1)) omQ;omega
   ·have:b<X.nx (i+1):=h'.2;omega
 have dw:Nat→Nat:=λb=>if b=X.nx i then C.nx else b
 have fg:Rel0 X.P m' (X.DS (ins s i)) (C.put (X.nx i) x) w':=by
  refine⟨?_,?_,?_,?_⟩
  ·intro b hb;rcases(hD b).1 hb with hb |rfl
   ·obtain⟨y,hy,fw,fX⟩:=R1.bp b ((pE b).2 (.inl hb));obtain⟨z,hz,_,tz⟩:=I.rel.bp b hb;rw[ud b hb,hz]at hy;cases hy;refine⟨_,(oN b hb).trans hz,?_,tz.mono λb hb=>VI hb⟩;rw[lr b hb,← rU b hb];exact fw.congr (D:=X.DS s) (λb hb=>by grind) tz rfl
   ·obtain⟨y,hy,fw,fX⟩:=R1.bp C.nx ((pE _).2 (.inr rfl));rw[pF]at hy;cases hy;refine⟨x,pX,?_,pY.mono λb hb=>VI hb⟩;rw[C5];exact fw.congr (D:=X.DS s) (λb hb=>by grind) pY rfl
  ·intro b1 b2 h1 h2 l1 l2 he;rcases(hD b1).1 h1 with h1 |rfl<;>rcases(hD b2).1 h2 with h2 |rfl
   ·rw[lr b1 h1,lr b2 h2]at he;refine I.rel.inj b1 b2 h1 h2 ?_ ?_ he
    all_goals grind[live]
   ·exfalso;rw[lr b1 h1,C5,← rU b1 h1]at he;have:=R1.inj b1 C.nx ((pE _).2 (.inl h1)) ((pE _).2 (.inr rfl)) (by grind[live]) (by grind[live]) he;grind
   ·exfalso;rw[lr b2 h2,C5,← rU b2 h2]at he;have:=R1.inj C.nx b2 ((pE _).2 (.inr rfl)) ((pE _).2 (.inl h2)) (by grind[live]) (by grind[live]) he;grind
   rfl
  ·intro b hb;rw[AH.Bl];grind
  ·rintro b t hb hg ⟨b',bJ,eH,he⟩;have hA:∀b,X.DS (ins s i) b→∃a,D1 a∧m1 a=m' b∧(C.new x).get a=(C.put (X.nx i) x).get b:=by
    grind
   obtain⟨a1,h1,h2,h3⟩:=hA b hb;obtain⟨a2,k1,k2,k3⟩:=hA b' bJ;refine R1.dq a1 t h1 (h3.trans hg) ⟨a2,k1,?_,by grind⟩;grind[live]
 have hval:cv m' (X.V i)=cv m1 (mk C.nx):=by simp_all[EP]
 have nO:=I.rY r rfl (m':=m') (z:=cv m1 (mk C.nx)) (λu hu=>QL lr u hu) hval (by rw[hV];exact(jXh Ww).2 ((hD _).2 (.inr rfl)));have C1:i≠q:=λe=>by subst e;exact hh (I.hq hi)
 refine⟨m',C.put (X.nx i) x,{ qN:=I.qN,hq:=I.hq,hs:=?_,sN:=r.EM,down:=r.oP,rl:=fg,rX:=I.rX,i1:=?_,i2:=?_,i3:=?_,map:=?_,size:=Nat.le_trans I.size E.size,keep:=?_,os:=E.os.trans I.os,tape:=E.tape.trans I.tape,output:=E.output.trans I.output,Ax:=nO.1,slot:=nO.2,df:=by rw[kS];exact I.df }⟩
 ·intro j hj;rw[Mi (λe=>hh (by grind))];exact I.hs j hj
 ·intro b hb Ay;rcases(hD b).1 hb with hb |rfl
  ·rw[oN b hb];exact I.i1 b hb Ay
  ·rw[pX];have hlq:i<q:=by
    rcases Nat.lt_or_ge i q with h |h
    ·grind
    ·have:=dL (X:=X) h omQ;omega
   rw[I.i3 i hlq r.un _ (Nat.le_refl _) omQ,Pm]
 ·intro j Pk hj b h1 h2;rcases Xz hj with rfl |hj
  ·grind
  ·rw[fI b,I.i2 j Pk hj b h1 h2];rintro rfl;exact Bz (.inr ⟨j,hj,h1,h2⟩)
 ·intro j pD hj b h1 h2;refine I.i3 j pD ?_ b h1 h2;grind[Iq]
 ·intro b hb;rw[lr b (.inl hb)];exact I.map b hb
 ·intro c hc hn;obtain⟨k1,k2⟩:=I.keep c hc hn;obtain⟨k3,k4⟩:=E.keep c (Nat.lt_of_lt_of_le hc I.size) k2;refine⟨k3.trans k1,?_⟩;rintro⟨b,hb,hl,he⟩;rcases(hD b).1 hb with hb |rfl
  ·refine k2 ⟨b,hb,?_,by grind⟩;grind[live]
  ·refine k4 ⟨C.nx,(pE _).2 (.inr rfl),?_,by grind⟩;grind[live]
theorem qgO (f:Nat→Option cV) (T:Nat):∀N,∃h:AH,h.nx=T∧(∀b,b<N→h.get b=f b)∧∀b,N≤b→h.get b=none:=by
 intro N
 induction N with
 |zero=>exact⟨⟨T,[],.e⟩,rfl,λb hb=>by omega,λb _=>aO.fE b⟩
 |succ N ih=>
  obtain⟨h,h1,h2,h3⟩:=ih;cases hf:f N with
  |some x=>
   refine⟨h.put N x,h1,λb hb=>?_,λb hb=>?_⟩
   ·by_cases e:b=N
    ·simp_all
    ·rw[AH.bw h x (λee=>e ee.symm)];grind
   ·rw[AH.bw h x omQ];grind
  |none=>
   grind
theorem oQ (f:Nat→Option cV) (T N:Nat):∃h:AH,h.nx=T∧∀b,b<N→h.get b=f b:=by obtain⟨h,h1,h2,_⟩:=qgO f T N;grind
theorem oo (X:Cx) {q:Nat} (hq:q<X.N):∃q',q<q'∧q'≤X.N∧(q'<X.N→X.bm q')∧∀k,q<k→k<q'→¬X.bm k:=by
 have key:∀d q0,q<q0→q0+d=X.N→(∀k,q<k→k<q0→¬X.bm k)→∃q',q<q'∧q'≤X.N∧(q'<X.N→X.bm q')∧∀k,q<k→k<q'→¬X.bm k:=by
  intro d
  induction d with
  |zero=>grind
  |succ d ih=>
   intro q0 h1 h2 h3;by_cases hh:X.bm q0
   ·grind
   ·refine ih (q0+1) omQ omQ ?_;grind
 exact key (X.N-(q+1)) (q+1) omQ omQ (λk h1 h2=>by omega)
end Cx
end Go.Ae
namespace Go.Ae
open Go
namespace Cx
variable {X:Cx} {s:Nat→Bool} {i q:Nat} {o:Oper} {a:Act} {w w':World} {m m':Mp} {C:AH}
theorem Inv.ed (I:Inv X s q a w m C) (r:dV X s q o) {m1:Mp} {D1:Nat→Prop} (E:Ext m (DQ X s q) (X.H q) w m1 D1 (X.H (q+1)) w') (R1:Rel X.P m1 D1 (X.H (q+1)) w') (hv:bu D1 (X.V q)) :
  ∃q' m' C',Inv X (ins s q) q' (a.put o.dst (cv m1 (X.V q))) w' m' C':=by
 have hq:=JA r.ho;obtain⟨q',hqq,BA,hqh,Wx⟩:=X.oo hq;have bZ:∀k,q+1≤k→k<q'→¬(X.bm k∧X.W k=true):=λk h1 h2 h=>Wx k omQ h2 h.1;have hnq:X.nx q≤X.nx (q+1):=dL omQ omQ;have hCq:X.nx (q+1)≤C.nx:=Nat.le_trans (dL omQ (Nat.le_refl _)) I.rX;have pE:∀b,D1 b↔DQ X s q b∨(X.nx q≤b∧b<X.nx (q+1)):=E.dm;have Pn:∀b,X.DS s b→b<X.nx q∨(X.nx (q+1)≤b∧∃j,q<j∧s j=true∧X.nx j≤b∧b<X.nx (j+1)):=by
  rintro b (h |⟨j,hj,h1,h2⟩)
  ·exact .inl (Nat.lt_of_lt_of_le (XK h) (dL (Nat.zero_le _) I.qN))
  ·have Is:=I.sN j hj;rcases Nat.lt_trichotomy j q with aw |rfl |EL
   ·have:=dL (X:=X) (show j+1≤q by omega) I.qN;omega
   ·rw[r.un]at hj;grind
   ·have:=dL (X:=X) (show q+1≤j by omega) omQ;grind
 have Wy:∀b,X.DS (ins s q) b↔X.DS s b∨(X.nx q≤b∧b<X.nx (q+1)):=λb=>mn;have lu:∀b,b<X.nx (q+1)→(X.DS (ins s q) b↔D1 b):=by
  intro b hb;rw[Wy,pE];constructor
  ·rintro(h |h)
   ·rcases Pn b h with h' |⟨h',_⟩
    ·exact .inl ⟨h,h'⟩
    grind
   grind
  ·rintro(h |h)
   ·exact .inl h.1
   grind
 have fM:∀b,X.nx (q+1)≤b→X.DS (ins s q) b→X.DS s b:=λb hb h=>((Wy b).1 h).elim id λh=>by omega
 have oR:∀b,D1 b→b<X.nx (q+1):=R1.lt;obtain⟨m',tU⟩:∃m':Mp,m'=λb=>if b<X.nx (q+1)then m1 b else m b:=⟨_,rfl⟩
 have oS:∀b,b<X.nx (q+1)→m' b=m1 b:=λb hb=>by grind
 have Po:∀b,X.nx (q+1)≤b→m' b=m b:=λb hb=>by grind
 have lr:∀b,X.DS s b→m' b=m b:=by
  intro b hb;rcases Pn b hb with h |⟨h,_⟩
  ·rw[oS b omQ];exact E.map b ⟨hb,h⟩
  grind
 obtain⟨C',Wz,WA⟩:=oQ (λb=>if b<X.nx (q+1)then(X.H (q+1)).get b else C.get b) C.nx C.nx;have uh:∀b,b<X.nx (q+1)→C'.get b=(X.H (q+1)).get b:=λb hb=>by grind
 have tC:∀b,X.nx (q+1)≤b→b<C.nx→C'.get b=C.get b:=λb hb aw=>by grind
 have mo:∀b,X.DS s b→b<C.nx:=I.rel.lt;have ET:∀c,own m (DQ X s q) (X.H q) c→own m (X.DS s) C c:=by rintro c ⟨b,hb,hl,he⟩;exact⟨b,hb.1,by unfold live at*;rw[I.i1 b hb.1 hb.2];grind,he⟩
 have l7:∀b,X.DS s b→X.nx (q+1)≤b→live C b→(m b).1<w.heap.size∧¬own m (DQ X s q) (X.H q) (m b).1:=by intro b hb eQ hl;refine⟨I.rel.inside hb hl,?_⟩;rintro⟨b2,eP,nK,he⟩;have:=I.rel.inj b2 b eP.1 hb (by unfold live at*;rw[I.i1 b2 eP.1 eP.2];grind) hl he;grind
 have rZ:∀b t,X.DS s b→C.get b=some (.dq t)→(m b).1<w.heap.size∧¬own m (DQ X s q) (X.H q) (m b).1:=by intro b t hb hg;obtain⟨y,hy,fw,_⟩:=I.rel.bp b hb;rw[hg]at hy;cases hy;exact⟨fw.iN,λh=>I.rel.dq b t hb hg (ET _ h)⟩
 have fg:Rel0 X.P m' (X.DS (ins s q)) C' w':=by
  refine⟨?_,?_,?_,?_⟩
  ·intro b hb;by_cases aw:b<X.nx (q+1)
   ·obtain⟨y,hy,fw,fX⟩:=R1.bp b ((lu b aw).1 hb);refine⟨y,(uh b aw).trans hy,?_,fX.mono λb hb=>(lu b (oR b hb)).2 hb⟩;rw[oS b aw];exact fw.congr (D:=D1) (λb hb=>oS b (oR b hb)) fX rfl
   ·have eQ:X.nx (q+1)≤b:=by omega
    have pH:=fM b eQ hb;obtain⟨z,hz,fA,tz⟩:=I.rel.bp b pH;refine⟨z,(tC b eQ (mo b pH)).trans hz,?_,tz.mono λb hb=>VI hb⟩;rw[Po b eQ];by_cases Aj:z.live
    ·obtain⟨f1,f2⟩:=l7 b pH eQ ⟨z,hz,Aj⟩;exact fA.congr (D:=X.DS s) lr tz (E.keep _ f1 f2).1
    ·cases z<;>first |trivial |exact absurd trivial Aj |skip
     obtain⟨f1,f2⟩:=rZ b _ pH hz;exact fA.congr (D:=X.DS s) lr tz (E.keep _ f1 f2).1
  ·intro b1 b2 h1 h2 l1 l2 he;have mixed:∀b1 b2,X.DS (ins s q) b1→X.DS (ins s q) b2→live C' b1→live C' b2→(m' b1).1=(m' b2).1→b1<X.nx (q+1)→X.nx (q+1)≤b2→False:=by
    intro b1 b2 h1 h2 l1 l2 he aw eQ;have C6:=fM b2 eQ h2;have nK:live C b2:=by grind[live]
    obtain⟨f1,f2⟩:=l7 b2 C6 eQ nK;refine(E.keep _ f1 f2).2 ⟨b1,(lu b1 aw).1 h1,?_,?_⟩
    all_goals grind[live]
   by_cases g1:b1<X.nx (q+1)<;>by_cases g2:b2<X.nx (q+1)
   ·rw[oS b1 g1,oS b2 g2]at he;exact R1.inj b1 b2 ((lu b1 g1).1 h1) ((lu b2 g2).1 h2) (by grind[live]) (by grind[live]) he
   ·grind
   ·grind
   ·have s1:=fM b1 omQ h1;have s2:=fM b2 omQ h2;rw[lr b1 s1,lr b2 s2]at he;exact I.rel.inj b1 b2 s1 s2 (by unfold live at*;grind) (by unfold live at*;grind) he
  ·grind
  ·rintro b1 t h1 hg ⟨b2,h2,l2,he⟩;by_cases g1:b1<X.nx (q+1)
   ·rw[uh b1 g1]at hg;obtain⟨n1,n2⟩:=E.ni b1 t ((lu b1 g1).1 h1) hg;by_cases g2:b2<X.nx (q+1)
    ·rw[oS b1 g1,oS b2 g2]at he;exact R1.dq b1 t ((lu b1 g1).1 h1) hg ⟨b2,(lu b2 g2).1 h2,by grind[live],he⟩
    ·have s2:=fM b2 omQ h2;have LX:C.get b1=some (.dq t):=by rw[I.i1 b1 n1.1 n1.2];grind
     rw[lr b1 n1.1,lr b2 s2]at he;exact I.rel.dq b1 t n1.1 LX ⟨b2,s2,by unfold live at*;grind,he⟩
   ·have s1:=fM b1 omQ h1;rw[tC b1 omQ (mo b1 s1)]at hg;rw[lr b1 s1]at he;by_cases g2:b2<X.nx (q+1)
    ·obtain⟨f1,f2⟩:=rZ b1 t s1 hg;refine(E.keep _ f1 f2).2 ⟨b2,(lu b2 g2).1 h2,by grind[live],?_⟩;grind
    ·have s2:=fM b2 omQ h2;rw[lr b2 s2]at he;exact I.rel.dq b1 t s1 hg ⟨b2,s2,by unfold live at*;grind,he⟩
 have hval:cv m' (X.V q)=cv m1 (X.V q):=QL (λb hb=>oS b (oR b hb)) _ hv;have nO:=I.rY r rfl (m':=m') (z:=cv m1 (X.V q)) (λu hu=>QL lr u hu) hval (QA (λb hb=>(lu b (oR b hb)).2 hb) _ hv);refine⟨q',m',C',{ qN:=BA,hq:=hqh,hs:=?_,sN:=r.EM,down:=r.oP,rl:=fg,rX:=by rw[Wz];exact I.rX,i1:=?_,i2:=?_,i3:=?_,map:=?_,size:=Nat.le_trans I.size E.size,keep:=?_,os:=E.os.trans I.os,tape:=E.tape.trans I.tape,output:=E.output.trans I.output,Ax:=nO.1,slot:=nO.2,df:=by rw[kS];exact I.df }⟩
 ·intro j hj;by_cases pD:j=q
  ·grind[MV]
  ·rw[Mi pD,I.hs j hj];grind
 ·intro b hb Ay;by_cases aw:b<X.nx (q+1)
  ·rw[uh b aw,vL omQ BA bZ b aw]
  ·have eQ:X.nx (q+1)≤b:=by omega
   have pH:=fM b eQ hb;rcases Pn b pH with h |⟨_,j,hj1,WB,hj3,WC⟩
   ·omega
   ·rw[tC b eQ (mo b pH),I.i2 j omQ WB b hj3 WC];have Is:=I.sN j WB;have pD:j<q':=by
     rcases Nat.lt_or_ge j q' with h |h
     ·grind
     ·have:=dL (X:=X) h omQ;omega
    rw[vL (X:=X) (show j+1≤q' by omega) BA (λk h1 h2=>bZ k omQ h2) b WC]
 ·intro j pD hj b h1 h2;rcases Xz hj with rfl |hj
  ·omega
  ·have Is:=I.sN j hj;have h3:=dL (X:=X) (show q+1≤j by omega) omQ;have h4:=dL (X:=X) (show j+1≤X.N by omega) (Nat.le_refl _);have h5:=I.rX;rw[tC b omQ omQ,I.i2 j omQ hj b h1 h2]
 ·intro j pD hj b h1 h2;have EU:j≠q:=λe=>by grind[MV]
  rw[Mi EU]at hj;rcases Nat.lt_or_gt_of_ne EU with aw |EL
  ·have h3:=dL (X:=X) (show j+1≤q by omega) I.qN;rw[vL (X:=X) (show q+1≤q' by omega) BA bZ b omQ];rw[(E.un b (show b<X.nx q by omega) (λh=>Wu I.sN omQ hj h1 h2 h.1)).1];exact I.i3 j aw hj b h1 h2
  ·exact vL (X:=X) (show j+1≤q' by omega) BA (λk g1 g2=>bZ k omQ g2) b h2
 ·intro b hb;rw[lr b (.inl hb)];exact I.map b hb
 ·intro c hc hn;obtain⟨k1,k2⟩:=I.keep c hc hn;obtain⟨k3,k4⟩:=E.keep c (Nat.lt_of_lt_of_le hc I.size) (λh=>k2 (ET c h));refine⟨k3.trans k1,?_⟩;rintro⟨b,hb,hl,he⟩;by_cases aw:b<X.nx (q+1)
  ·exact k4 ⟨b,(lu b aw).1 hb,by grind[live],by grind⟩
  ·have pH:=fM b omQ hb;exact k2 ⟨b,pH,by unfold live at*;grind,by grind⟩
end Cx
end Go.Ae
namespace Go.Ae
open Go
namespace Cx
variable {X:Cx} {s:Nat→Bool} {i q:Nat} {o:Oper} {a:Act} {w w':World} {m m':Mp} {C:AH}
theorem WD (p:Nat→Prop):∀hi lo,(∀k,lo≤k→k<hi→¬p k)∨∃k,lo≤k∧k<hi∧p k∧∀j,k<j→j<hi→¬p j:=by
 intro hi
 induction hi with
 |zero=>simp
 |succ hi ih=>
  grind
theorem MZ (p:Nat→Prop):∀d lo,(∀k,lo≤k→k<lo+d→¬p k)∨∃k,lo≤k∧k<lo+d∧p k∧∀j,lo≤j→j<k→¬p j:=by
 intro d
 induction d with
 |zero=>grind
 |succ d ih=>
  grind
theorem Inv.nk (I:Inv X s q a w m C) (r:dV X s i o) (hh:X.bm i):i=q:=by
 have eQ:q≤i:=by
  rcases Nat.lt_or_ge i q with h |h
  ·have:=(I.hs i hh).2 h;rw[r.un]at this;grind
  grind
 rcases Nat.lt_or_ge q i with h |h
 ·exfalso;have hi:=JA r.ho;obtain⟨oq,WE,WG⟩:=I.hq omQ;obtain⟨oi,l6,mi⟩:=hh;have fz:∀x y,ins s i x=true→(xq X.M x).testBit y=true→ins s i y=true:=λx y=>Yd r.oP r.EM x y;have:=X.st.chain (λx=>ins s i x=true) fz q i oq oi h WE l6 WG mi MV;rw[Mi omQ]at this;have:=(I.hs q ⟨oq,WE,WG⟩).1 this;omega
 grind
def hv (X:Cx) (k:Nat):Prop:=X.bm k∧X.W k=true
theorem Inv.lx (I:Inv X s q a w m C) (C1:i≤q) (hn:∀k,i≤k→k<q→¬X.hv k):∀b,X.DS s b→b<X.nx i→C.get b=(X.H i).get b:=by intro b hb aw;have:=dL (X:=X) C1 I.qN;rw[I.i1 b hb omQ,vL C1 I.qN hn b aw]
theorem Inv.nm (I:Inv X s q a w m C) (C1:q≤i) (hi:i≤X.N) (hn:∀k,q≤k→k<i→¬X.hv k):∀b,X.DS s b→b<X.nx i→C.get b=(X.H i).get b:=by
 intro b hb aw;by_cases Ay:b<X.nx q
 ·rw[I.i1 b hb Ay,vL C1 hi hn b Ay]
 ·rcases hb with hb |⟨j,hj,h1,h2⟩
  ·have:=XK hb;have:=dL (X:=X) (Nat.zero_le q) I.qN;omega
  ·have Is:=I.sN j hj;have pD:q≤j:=by
    rcases Nat.lt_or_ge j q with h |h
    ·have:=dL (X:=X) (show j+1≤q by omega) I.qN;omega
    grind
   have Ph:j<i:=by
    rcases Nat.lt_or_ge j i with h |h
    ·grind
    ·have:=dL (X:=X) h omQ;omega
   rw[I.i2 j pD hj b h1 h2,vL (X:=X) (show j+1≤i by omega) hi (λk g1 g2=>hn k omQ g2) b h2]
theorem dV.ly (I:Inv X s q a w m C) (r:dV X s i o) {k:Nat} (h1:i<k) (h2:k<q) (hk:X.bm k):kL X.M i k=true:=by
 have oh:=(I.hs k hk).2 h2;obtain⟨ok,dI,_⟩:=hk;have a1:(xq X.M i).testBit k=false:=by
  cases h:(xq X.M i).testBit k
  ·rfl
  ·have:=Ws r.ho h;omega
 have a2:=r.later oh;grind[kL]
theorem dV.fN (I:Inv X s q a w m C) (r:dV X s i o) {k:Nat} (h1:q≤k) (h2:k<i) (hk:X.bm k):kL X.M i k=true:=by
 have oh:s k=false:=by
  cases h:s k
  ·rfl
  ·have:=(I.hs k hk).1 h;omega
 obtain⟨ok,dI,_⟩:=hk;have a1:(xq X.M i).testBit k=false:=by
  cases h:(xq X.M i).testBit k
  ·rfl
  ·have:=r.pC h;grind
 have a2:(xq X.M k).testBit i=false:=by
  cases h:(xq X.M k).testBit i
  ·rfl
  ·have:=Ws dI h;omega
 grind[kL]
theorem Ga {a:AV} {n:Option Nat} {v:AV} {h g:AH} (e:∀b off,a=.ptr b off→g.get b=h.get b) (e2:∀b off l i,a=.slice b off l i true→g.get b=h.get b) (hl:xU a n v h=true):xU a n v g=true:=by
 cases a<;>first |exact hl |skip
 ·rename_i b off;unfold xU at*;grind
 ·rename_i b off l i o;cases o
  ·rfl
  ·unfold xU at*;cases n with
   |none=>grind
   |some m=>simp only[ve]at*;grind
theorem Inv.load (I:Inv X s q a w m C) (r:dV X s i o) (hl:V6 o.op=true) (hw:X.W i=true) (hD:∀x v,fJ (X.F i) x=some v→x∈o.op.operands→bu (X.DS s) v∧bu (Dg X.D0 X.H i) v) :
  cM X.P X.c o.op (fJ (X.F i)) C=some (X.V i,C)∧X.H (i+1)=X.H i:=by
 have hi:=JA r.ho;have hs:=(X.tr.step i o r.ho).1.yes hw;obtain⟨t,x,Bx⟩:=Y0 hl;rw[Bx]at hs ⊢;obtain⟨e1,b,off,hx,g1,g2⟩:=Ng hs;refine⟨?_,e1⟩;obtain⟨d1,d2⟩:=hD x _ hx (by grind[Op.operands]);have pI:X.DS s b:=d1;have BB:b<X.nx i:=by
  rcases(show Dg X.D0 X.H i b from d2)with h |h
  ·exact Nat.lt_of_lt_of_le (XK h) (dL (Nat.zero_le _) omQ)
  ·exact h.2
 have Pp:¬X.bm i:=by rintro⟨o',ia,hh⟩;rw[r.ho]at ia;cases ia;rw[Bx]at hh;cases hh
 have ei:∀k,X.hv k→kL X.M i k=true→xU (.ptr b off) (kZ X.P o.op) (X.V i) (X.H k)=true∧xU (.ptr b off) (kZ X.P o.op) (X.V i) (X.H (k+1))=true∧b<X.nx 0:=by
  rintro k ⟨⟨ok,dI,EV⟩,mK⟩ dB;obtain⟨z,hz,h1⟩:=X.EH i k o ok r.ho dI (by grind[gg]) EV hw mK dB;have:z=.ptr b off:=by rw[Bx]at hz;have hz:fJ (X.F i) x=some z:=hz;grind
  subst this;simp only[tp,Bool.and_eq_true]at h1;exact⟨h1.1,h1.2.1,zL h1.2.2⟩
 have fin:∀k,k≤X.N→xU (.ptr b off) (kZ X.P o.op) (X.V i) (X.H k)=true→C.get b=(X.H k).get b→cM X.P X.c (.load t x) (fJ (X.F i)) C=some (X.V i,C):=by intro k _ h1 h2;refine g2 C ?_;rw[Bx]at h1;exact Ga (λb' pb e=>by grind) (λ_ _ _ _ e=>by grind) h1
 rcases Nat.lt_or_ge i q with h |h
 ·rcases WD X.hv q i with bW |⟨k,k1,k2,k3,k4⟩
  ·exact g1 C (I.lx omQ bW b pI BB)
  ·have ra:k≠i:=λe=>Pp (e▸k3.1);obtain⟨l1,l2,l3⟩:=ei k k3 (dV.ly I r omQ k2 k3.1);have z1:=dL (X:=X) (Nat.zero_le q) I.qN;have z2:=dL (X:=X) (Nat.zero_le (k+1)) (by have:=I.qN;omega);refine fin (k+1) (by have:=I.qN;omega) l2 ?_;rw[I.i1 b pI omQ,vL (X:=X) (show k+1≤q by omega) I.qN (λj h1 h2=>k4 j omQ h2) b omQ]
 ·have hqi:q<i∨q=i:=by omega
  rcases MZ X.hv (i-q) q with bW |⟨k,k1,k2,k3,k4⟩
  ·exact g1 C (I.nm h omQ (λk h1 h2=>bW k h1 omQ) b pI BB)
  ·obtain⟨l1,l2,l3⟩:=ei k k3 (dV.fN I r k1 omQ k3.1);have z1:=dL (X:=X) (Nat.zero_le q) I.qN;refine fin k omQ l1 ?_;rw[I.i1 b pI omQ,vL (X:=X) k1 omQ k4 b omQ]
theorem Inv.cut (I:Inv X s q a w m C) (r:dV X s i o) (hl:JE X.P o.op=true) (hh:¬X.bm i) (hw:X.W i=true) (hD:∀x v,fJ (X.F i) x=some v→x∈o.op.operands→bu (X.DS s) v∧bu (Dg X.D0 X.H i) v) :
  cM X.P X.c o.op (fJ (X.F i)) C=some (X.V i,C)∧X.H (i+1)=X.H i:=by
 have hi:=JA r.ho;have hs:=(X.tr.step i o r.ho).1.yes hw;obtain⟨e1,x,hx,u,hu,DV,g1,g2⟩:=Za hl hs;refine⟨?_,e1⟩;by_cases mT:∃b off l k,u=.slice b off l k true
 rotate_left
 ·simp_all
 obtain⟨b,off,l,k0,rfl⟩:=mT;obtain⟨d1,d2⟩:=hD x _ hu hx;have pI:X.DS s b:=d1;have BB:b<X.nx i:=by
  rcases(show Dg X.D0 X.H i b from d2)with h |h
  ·exact Nat.lt_of_lt_of_le (XK h) (dL (Nat.zero_le _) omQ)
  ·exact h.2
 have ei:∀k,X.hv k→kL X.M i k=true→xU (.slice b off l k0 true) (kZ X.P o.op) (X.V i) (X.H k)=true∧xU (.slice b off l k0 true) (kZ X.P o.op) (X.V i) (X.H (k+1))=true∧b<X.nx 0:=by
  rintro k ⟨⟨ok,dI,EV⟩,mK⟩ dB;obtain⟨z,hz,h1⟩:=X.EH i k o ok r.ho dI (by simp_all[gg,Bool.true_or,Bool.or_true]) EV hw mK dB;rw[DV]at hz;cases hz;unfold tp at h1
  split at h1
  ·rename_i hv;rw[hv]at hs;exact(qYd hl hs).elim
  ·simp only[Bool.and_eq_true]at h1;exact⟨h1.1,h1.2.1,zL h1.2.2⟩
 have fin:∀k,k≤X.N→xU (.slice b off l k0 true) (kZ X.P o.op) (X.V i) (X.H k)=true→C.get b=(X.H k).get b→cM X.P X.c o.op (fJ (X.F i)) C=some (X.V i,C):=by intro k _ h1 h2;exact g2 C (Ga (λ_ _ e=>by cases e) (λb' pb l' k' e=>by cases e;omega) h1)
 rcases Nat.lt_or_ge i q with h |h
 ·rcases WD X.hv q i with bW |⟨k,k1,k2,k3,k4⟩
  ·exact g1 C λb' pb l' k' e=>by cases e;exact I.lx omQ bW b pI BB
  ·have ra:k≠i:=λe=>hh (e▸k3.1);obtain⟨l1,l2,l3⟩:=ei k k3 (dV.ly I r omQ k2 k3.1);have z1:=dL (X:=X) (Nat.zero_le q) I.qN;have z2:=dL (X:=X) (Nat.zero_le (k+1)) (by have:=I.qN;omega);refine fin (k+1) (by have:=I.qN;omega) l2 ?_;rw[I.i1 b pI omQ,vL (X:=X) (show k+1≤q by omega) I.qN (λj h1 h2=>k4 j omQ h2) b omQ]
 ·rcases MZ X.hv (i-q) q with bW |⟨k,k1,k2,k3,k4⟩
  ·exact g1 C λb' pb l' k' e=>by cases e;exact I.nm h omQ (λk h1 h2=>bW k h1 omQ) b pI BB
  ·obtain⟨l1,l2,l3⟩:=ei k k3 (dV.fN I r k1 omQ k3.1);have z1:=dL (X:=X) (Nat.zero_le q) I.qN;refine fin k omQ l1 ?_;rw[I.i1 b pI omQ,vL (X:=X) k1 omQ k4 b omQ]
theorem Inv.conv (I:Inv X s q a w m C) (r:dV X s i o) (hl:QQ X.P o.op=true) (hw:X.W i=true) (hD:∀x v,fJ (X.F i) x=some v→x∈o.op.operands→bu (X.DS s) v∧bu (Dg X.D0 X.H i) v) :
  cM X.P X.c o.op (fJ (X.F i)) C=some (X.V i,C)∧X.H (i+1)=X.H i:=by
 have hi:=JA r.ho;have hs:=(X.tr.step i o r.ho).1.yes hw;obtain⟨e1,hn,⟨st,bZ⟩,x,hx,u,hu,DV,g1⟩:=M6 hl hs;refine⟨g1 C ?_,e1⟩;rintro b off l k0 p rfl;obtain⟨d1,d2⟩:=hD x _ hu hx;have pI:X.DS s b:=d1;have BB:b<X.nx i:=by
  rcases(show Dg X.D0 X.H i b from d2)with h |h
  ·exact Nat.lt_of_lt_of_le (XK h) (dL (Nat.zero_le _) omQ)
  ·exact h.2
 have Pp:¬X.bm i:=by rintro⟨o',ia,hh⟩;rw[r.ho]at ia;simp_all[Wl]
 have ei:∀k,X.hv k→kL X.M i k=true→X.nx (k+1)≤b:=by rintro k ⟨⟨ok,dI,EV⟩,mK⟩ dB;obtain⟨z,hz,h1⟩:=X.EH i k o ok r.ho dI (by simp_all[gg,Bool.or_true]) EV hw mK dB;rw[DV]at hz;cases hz;rw[hn,bZ]at h1;exact wX h1
 rcases Nat.lt_or_ge i q with h |h
 ·refine I.lx omQ (λk h1 h2 hk=>?_) b pI BB;by_cases e:k=i
  ·subst e;exact Pp hk.1
  ·have g:=ei k hk (dV.ly I r omQ h2 hk.1);have:=dL (X:=X) (show i≤k+1 by omega) (by have:=I.qN;omega);omega
 ·by_cases Ay:b<X.nx q
  ·rw[I.i1 b pI Ay];refine(vL h omQ (λk h1 h2 hk=>?_) b Ay).symm;have g:=ei k hk (dV.fN I r h1 h2 hk.1);have:=dL (X:=X) (show q≤k+1 by omega) omQ;omega
  ·rcases pI with hb |⟨j,hj,h1,h2⟩
   ·have:=XK hb;have:=dL (X:=X) (Nat.zero_le q) I.qN;omega
   ·have Is:=I.sN j hj;have pD:q≤j:=by
     rcases Nat.lt_or_ge j q with h |h
     ·have:=dL (X:=X) (show j+1≤q by omega) I.qN;omega
     omega
    have Ph:j<i:=by
     rcases Nat.lt_or_ge j i with h |h
     ·omega
     ·have:=dL (X:=X) h omQ;omega
    rw[I.i2 j pD hj b h1 h2];refine(vL (X:=X) (show j+1≤i by omega) omQ (λk g1 g2 hk=>?_) b h2).symm;have g:=ei k hk (dV.fN I r omQ g2 hk.1);have:=dL (X:=X) (show j+1≤k+1 by omega) omQ;omega
end Cx
end Go.Ae
namespace Go.Ae
open Go
namespace Cx
variable {X:Cx} {s:Nat→Bool} {i q:Nat} {o:Oper} {a:Act} {w w':World} {m m':Mp} {C:AH}
noncomputable def FL (X:Cx) (o:Oper) (i:Nat):Nat→Option AV:=λt=>if(looks X.ops.toList o).testBit t=true then X.F i t else none
theorem V3 {o:Oper} (i:Nat) (g:AH):cM X.P X.c o.op (fJ (X.F i)) g=cM X.P X.c o.op (fJ (X.FL o i)) g:=by
 refine qYi λx hx=>?_;cases x with
 |tmp t=>simp_all[fJ,FL,GO]
 |_=>rfl
theorem Z3 (I:Inv X s q a w m C) (r:dV X s i o) {t:Nat} {v:AV} (h:X.FL o i t=some v):a.tmps[t]? =some (cv m v)∧bu (X.DS s) v∧bu (Dg X.D0 X.H i) v:=by
 unfold FL at h
 split at h
 ·rename_i hb;obtain⟨h1,h2⟩:=I.slot t v (by rw[r.read hb];grind);exact⟨h1,h2,(X.gh i (Nat.le_of_lt (JA r.ho))).slot t v h⟩
 grind
theorem Pq {D:Nat→Prop} (I:Inv X s q a w m C) (r:dV X s i o) (hD:∀v,bu (X.DS s) v→bu (Dg X.D0 X.H i) v→bu D v):dQ m D a.eval (fJ (X.FL o i)):=by
 intro x v e;cases x with
 |tmp t=>obtain⟨h1,h2,h3⟩:=Z3 I r e;simp_all[Act.eval,Array.getD_eq_getD_getElem?,Option.getD_some]
 |const k=>simp only[fJ]at e;obtain⟨h1,h2⟩:=J7 (m:=m) (D:=D) e;exact⟨h1.symm,h2⟩
 |global g=>trivial
 |func f=>simp only[fJ,Option.some.injEq]at e;subst e;trivial
theorem qjr (I:Inv X s q a w m C) (r:dV X s i o):Region.wanted o (yielded X.ops a.tmps)=X.W i:=by
 obtain⟨st,_⟩:=X.tr.step i o r.ho;cases hg:o.guard with
 |none=>rw[st.g0 hg];grind[Region.wanted]
 |some g=>
  obtain⟨d,vg,h1,h2,h3⟩:=st.g1 g hg;have hF:X.FL o i d=some vg:=by simp_all[FL,qJU]
  obtain⟨h4,_⟩:=Z3 I r hF;unfold QM at h1;rw[hg]at h1;simp only[Option.bind_some,yR,Array.getElem?_toList,Option.bind_eq_some_iff]at h1;obtain⟨p,hp,Eu⟩:=h1;have hy:yielded X.ops a.tmps g.1=(match cv m vg with | .bool b=>some b |_=>none):=by unfold yielded;grind
  rw[h3];cases It:QU vg g.2
  ·refine Om hg ?_;rw[hy];cases vg<;>simp only[cv]<;>first |(intro hh;cases hh;done) |skip
   grind[QU]
  ·refine jQL hg ?_;rw[hy];cases vg<;>simp only[QU,Bool.false_eq_true]at It
   grind[cv]
theorem Inv.step (I:Inv X s q a w m C) (r:dV X s i o) {rc:Option Nat} {nn:Nat} {Q:Exit→Act→World→Prop} {K:Act→World→Prop}
  (hK:∀q' a' w' m' C',Inv X (ins s i) q' a' w' m' C'→K a' w'):wpOpIn (FW rc) nn X.P X.ops Q i K a w:=by
 have hi:=JA r.ho;obtain⟨st,_⟩:=X.tr.step i o r.ho;unfold wpOpIn;rw[r.ho];simp only[qjr I r];cases hw:X.W i with
 |false=>
  simp only[Bool.false_eq_true,if_false];refine⟨λ_ _=>trivial,?_⟩;obtain⟨hV,hH⟩:=st.no hw;by_cases hh:X.bm i
  ·obtain rfl:=I.nk r hh;obtain⟨q',m',C',I'⟩:=I.ed r (m1:=m) (D1:=DQ X s i) (by rw[hH];exact Ext.refl ..) (by rw[hH];exact I.ol) (by rw[hV];trivial);rw[hV]at I';exact hK _ _ _ _ _ I'
  ·have I':=I.pure r hh hH (Ext.refl ..) I.rel (by rw[hV];trivial);rw[hV]at I';exact hK _ _ _ _ _ I'
 |true=>
  simp only[if_true];have hs:=st.yes hw;by_cases hh:X.bm i
  ·obtain rfl:=I.nk r hh;rw[V3]at hs;refine Ei X.hc (Pq I r (λv h1 h2=>I.ug h1 (Nat.le_refl _) h2)) I.ol hs ?_;intro m' D' w' E R' hv;obtain⟨q',m2,C2,I'⟩:=I.ed r E R' hv;exact hK _ _ _ _ _ I'
  ·have EG:z6 X.P o.op=false:=by
    cases h:z6 X.P o.op
    ·rfl
    ·exact absurd ⟨o,r.ho,h⟩ hh
   have quiet:cM X.P X.c o.op (fJ (X.F i)) C=some (X.V i,C)→X.H (i+1)=X.H i→o.wpIn (FW rc) nn X.P a w K Q:=by
    intro e hH;rw[V3]at e;refine Ei X.hc (Pq I r (λv h1 _=>h1)) I.rel e ?_;intro m' D' w' E R' hv;have hD:D'=X.DS s:=by
     rw[E.rW]
     funext b
     simp;omega
    subst hD;exact hK _ _ _ _ _ (I.pure r hh hH E R' hv)
   have Ps:∀x v,fJ (X.F i) x=some v→x∈o.op.operands→bu (X.DS s) v∧bu (Dg X.D0 X.H i) v:=by
    intro x v hx hm;cases x with
    |tmp t=>
     have hF:X.FL o i t=some v:=by unfold FL;rw[iJ (GO hm)];exact hx
     exact(Z3 I r hF).2
    |const k=>exact⟨(J7 (m:=m) hx).2,(J7 (m:=m) hx).2⟩
    |global g=>cases hx
    |func f=>cases hx;trivial
   rcases U7 EG with hc |hc |hc
   ·cases ng:JE X.P o.op
    ·cases mj:QQ X.P o.op
     ·obtain⟨h1,h2⟩:=Wk hc ng mj hs;simp_all
     ·obtain⟨h1,h2⟩:=I.conv r mj hw Ps
      simp_all
    ·obtain⟨h1,h2⟩:=I.cut r ng hh hw Ps;simp_all
   ·obtain⟨h1,h2⟩:=I.load r (Wr hc) hw Ps;simp_all
   ·obtain⟨mk,x,h1,h2,h3,h4⟩:=OB hc hs;have e:=h4 C;rw[V3]at e;refine Ei X.hc (Pq I r (λv h1 _=>h1)) I.rel e ?_;intro m' D' w' E R' hv;obtain⟨m2,C2,I'⟩:=I.fresh r hh h1 h2 h3 E R';exact hK _ _ _ _ _ I'
theorem nq (X:Cx):∀j,j≤X.N→∀b,X.nx 0≤b→b<X.nx j→∃i,i<j∧X.nx i≤b∧b<X.nx (i+1):=by
 intro j
 induction j with
 |zero=>simp
 |succ j ih=>
  grind
theorem Inv.done (I:Inv X s q a w m C) (cQ:∀i,i<X.N→s i=true) {tm':PT AV} (ht:Qh tm' (X.F X.N)) :
  Ao X.P X.m0 X.D0 (X.H 0) X.w0 X.n X.a0.defers a tm' m (DQ X s X.N) (X.H X.N) w:=by
 have BA:q=X.N:=by
  rcases Nat.lt_or_ge q X.N with h |h
  ·have:=(I.hs q (I.hq h)).1 (cQ q h);omega
  ·have:=I.qN;omega
 subst BA;have Iu:∀b,X.DS s b→DQ X s X.N b:=λb hb=>⟨hb,Wt I.sN hb⟩;have gN:=X.gh X.N (Nat.le_refl _);refine⟨⟨?_,I.map,I.size,?_,gN.nx,?_,I.os,I.tape,I.output,?_,λb t hb hg=>gN.ni b t (Pj I.sN hb.1 hb.2) hg⟩,I.ol,⟨I.Ax,?_⟩,I.df⟩
 ·intro b hb;exact Iu b (.inl hb)
 ·intro c hc hn;obtain⟨k1,k2⟩:=I.keep c hc hn;refine⟨k1,?_⟩;rintro⟨b,hb,hl,he⟩;exact k2 ⟨b,hb.1,by unfold live at*;rw[I.i1 b hb.1 hb.2];grind,he⟩
 ·intro b hb hn;refine⟨gN.un b hb hn,?_⟩;rintro⟨h |⟨j,hj,h1,_⟩,_⟩
  ·grind
  ·have:=dL (X:=X) (Nat.zero_le j) (Nat.le_of_lt (I.sN j hj));have hb:b<X.nx 0:=hb;omega
 ·intro b;constructor
  ·rintro⟨h,aw⟩;exact Pj I.sN h aw
  ·rintro(h |⟨h1,h2⟩)
   ·exact Iu b (.inl h)
   ·obtain⟨i,hi,h3,h4⟩:=X.nq X.N (Nat.le_refl _) b h1 h2;exact Iu b (.inr ⟨i,cQ i hi,h3,h4⟩)
 ·intro t v hv;have:=I.slot t v (by rw[jVF cQ _ (Nat.le_refl _)];exact ht t v hv);grind[QA]
def bh (N:Nat) (s:Nat→Bool):Nat:=((List.range N).filter λi=>!s i).length
theorem jZ6 {N:Nat} (hi:i<N) (un:s i=false):bh N (ins s i)<bh N s:=by
 unfold bh;have:(List.range N).filter (λj=>!ins s i j)=((List.range N).filter λj=>!s j).filter λj=>!(j==i):=by
  simp[List.filter_filter,ins,Bool.not_or]
 rw[this];rw[List.length_filter_lt_length_iff_exists];grind
theorem qzi {N:Nat} (h:bh N s=0):∀i,i<N→s i=true:=by grind[bh,List.length_eq_zero_iff,List.filter_eq_nil_iff]
theorem qjs {listed:Array Bool} (bF:listed.size=X.ops.size) (h:Region.ready .any X.ops listed=[]):∀i,i<X.N→listed.getD i false=true:=by
 intro i
 induction i using Nat.strongRecOn with
 |_ i ih=>
  intro hi;cases hl:listed.getD i false
  ·exfalso;obtain⟨o,ho⟩:=X.lq hi;have:i∈Region.ready .any X.ops listed:=by
    rw[mem_ready];have aw:i<listed.size:=by grind
    refine⟨by grind,o,ho,λe he hb=>?_⟩;have:=X.st.back i o ho e he hb;grind
   grind
  rfl
theorem BC {rc:Option Nat} {nn:Nat} {Q:Exit→Act→World→Prop} (hQ:∀s q a w m C,Inv X s q a w m C→(∀i,i<X.N→s i=true)→Q .normal a w) :
  ∀(fuel:Nat) (listed:Array Bool) (q:Nat) (a:Act) (w:World) (m:Mp) (C:AH),listed.size=X.ops.size→Inv X (λi=>listed.getD i false) q a w m C→bh X.N (λi=>listed.getD i false)≤fuel→
   wpAnyIn (FW rc) nn X.P .any X.ops Q fuel listed a w:=by
 intro fuel
 induction fuel with
 |zero=>
  intro listed q a w m C bF I hc;have cQ:=qzi (Nat.le_zero.1 hc);refine⟨?_,hQ _ q a w m C I cQ⟩;rw[List.eq_nil_iff_forall_not_mem];intro i hi;obtain⟨h1,o,ho,_⟩:=mem_ready.1 hi;have aw:=JA ho;grind
 |succ fuel ih=>
  intro listed q a w m C bF I hc;refine⟨λh=>hQ _ q a w m C I (qjs bF h),?_⟩;intro i hi;obtain⟨h1,o,ho,h2⟩:=mem_ready.1 hi;have aw:=JA ho;have Iv:i<listed.size:=by grind
  have un:listed.getD i false=false:=by grind
  have EW:(λj=>(listed.setIfInBounds i true).getD j false)=ins (λj=>listed.getD j false) i:=by
   funext j
   by_cases e:j=i
   ·simp_all[ins]
   ·rw[getD_set_ne false (λee=>e ee.symm)];simp[ins,e]
  refine I.step (I.rdy ho un h2) ?_;intro q' a' w' m' C' I';refine ih _ q' a' w' m' C' (by grind) (by grind) ?_;rw[EW];have:=jZ6 (N:=X.N) (s:=λj=>listed.getD j false) aw un;omega
theorem start (X:Cx) (EX:∀t v,X.F 0 t=some v→X.a0.tmps[t]? =some (cv X.m0 v)∧bu X.D0 v) (bF:X.n≤X.a0.tmps.size) {s:Nat→Bool} (hs:∀i,s i=false) :
  ∃q C,Inv X s q X.a0 { X.w0 with drawn:=X.w0.drawn+1 } X.m0 C:=by
 have hex:∃q,q≤X.N∧(q<X.N→X.bm q)∧∀k,k<q→¬X.bm k:=by
  rcases MZ X.bm X.N 0 with h |⟨k,h1,h2,h3,h4⟩
  ·exact⟨X.N,Nat.le_refl _,λh=>by omega,λk hk=>h k (Nat.zero_le _) omQ⟩
  grind
 obtain⟨q,ui,uj,WH⟩:=hex;have bZ:∀i,∀k,i≤k→k<q→¬(X.bm k∧X.W k=true):=λi k _ h2 h=>WH k h2 h.1;have hD:X.DS s=X.D0:=by
  funext b
  refine propext ⟨λh=>h.elim id ?_,.inl⟩;grind
 have bW:∀i,s i=true→False:=λi h=>by grind
 refine⟨q,⟨X.nx X.N,(X.H 0).rc,(X.H 0).t⟩,{ qN:=ui,hq:=uj,hs:=?_,sN:=λi h=>(bW i h).elim,down:=λi _ h=>(bW i h).elim,rl:=?_,rX:=Nat.le_refl _,i1:=?_,i2:=λi _ h=>(bW i h).elim,i3:=?_,map:=λ_ _=>rfl,size:=Nat.le_refl _,keep:=?_,os:=rfl,tape:=rfl,output:=rfl,Ax:=bF,slot:=?_,df:=rfl }⟩
 ·grind
 ·rw[hD];refine⟨?_,X.na.inj,λb hb=>Nat.lt_of_lt_of_le (XK hb) (dL (Nat.zero_le _) (Nat.le_refl _)),X.na.dq⟩;intro b hb;obtain⟨x,hx,hr,hd⟩:=X.na.bp b hb;exact⟨x,hx,hr.congr (D:=X.D0) (λ_ _=>rfl) hd rfl,hd⟩
 ·intro b hb aw;rw[hD]at hb;rw[vL (X:=X) (Nat.zero_le q) ui (bZ 0) b (XK hb)];rfl
 ·grind[vL]
 ·intro c hc hn;rw[hD];trivial
 ·intro t v hv;rw[jJS hs]at hv;grind
end Cx
end Go.Ae
namespace Go.Ae
open Go
variable {P:Program} {c:CV}
theorem qjS {t:PT Nat} {i:Nat} {a v:AV} {n:Option Nat} {nx:Nat} {r:AV×AH}:∀(hs:List Xq) (k:R),DN t i a n v nx hs k=some r→
  k=some r∧∀q∈hs,kL t i q.j=true→tp a n v q.hb q.ha nx=true:=by
 intro hs
 induction hs with
 |nil=>simp
 |cons q hs ih=>
  intro k e;obtain⟨j,hb,ha⟩:=q;simp only[DN]at e;cases hl:kL t i j
  ·grind
  ·rw[hl]at e;simp only[cE]at e;unfold Kh at e;grind
theorem qJO {t:PT Nat} {hs:List Xq} {nx:Nat} {r:AV×AH}:∀(ls:List X0) (k:R),Zp t hs nx ls k=some r→
  k=some r∧∀l∈ls,∀q∈hs,kL t l.i q.j=true→tp l.a l.n l.v q.hb q.ha nx=true:=by
 intro ls
 induction ls with
 |nil=>simp
 |cons l ls ih=>
  intro k e;obtain⟨i,a,n,v⟩:=l;simp only[Zp]at e;obtain⟨e1,e2⟩:=qjS _ _ e;grind
theorem ZC (hm:P.follows .mixedOrders=true) (hc:y9 P c) {n nn:Nat} {ops:Array Oper} {rc:Option Nat} {Q:Exit→Act→World→Prop} {r:AV×AH} {id:Nat}
  {m:Mp} {D:Nat→Prop} {h:AH} {w:World} {a:Act} {tm:PT AV} {k:PT AV→AH→R} (RR:Rel P m D h w) (T:eJ m D n a tm)
  (hk:∀m' D' h' w' a' tm',Ao P m D h w n a.defers a' tm' m' D' h' w'→k tm' h'=some r→Q .normal a' w')
  (bZ:HK P ops=true) {LP:X0→Prop} {HP:Xq→Prop} {F1:Nat→Option AV} {h1:AH} {cN:PT AV} (S:mY P c n ops LP HP 0 (λt=>tm.get t) h ops.size F1 h1) (T1:Qh cN F1) (e1:k cN h1=some r)
  (ei:∀l hr,LP l→HP hr→(∃oi,ops[l.i]? =some oi∧gg P oi.op=true)→(∃oj,ops[hr.j]? =some oj∧z6 P oj.op=true)→kL (ky ops.toList 0 .e) l.i hr.j=true→
   tp l.a l.n l.v hr.hb hr.ha h.nx=true):(Code.region id ops true).wpIn (FW rc) nn P Q a w:=by
 obtain⟨_,F,H,V,W,Pt,r4,hFN,hHN,ot⟩:=S.fns;have aw:∀i o,ops[i]? =some o→i<ops.size:=λi o h=>(Array.getElem?_eq_some_iff.1 h).1;have tr:Tr P c n ops LP HP F H V W:=⟨λi o ho=>ot i o (Nat.zero_le _) (aw i o ho) ho⟩;have Pu:∀t v,F 0 t=some v→a.tmps[t]? =some (cv m v)∧bu D v:=λt v hv=>by rw[Pt]at hv;exact T.at_ t v hv
 have r5:Rel P m D (H 0) w:=by grind
 have gh:=λi hi=>qz6 hc tr r5 (λt v hv=>(Pu t v hv).2) (i:=i) hi;have gm:=(Wq hc tr r5 (λt v hv=>(Pu t v hv).2) ops.size (Nat.le_refl _)).2;have EH:∀i j oi oj,ops[i]? =some oi→ops[j]? =some oj→gg P oi.op=true→z6 P oj.op=true→W i=true→W j=true→kL (ky ops.toList 0 .e) i j=true→
   ∃a,Xt (fJ (F i)) oi.op=some a∧tp a (kZ P oi.op) (V i) (H j) (H (j+1)) (H 0).nx=true:=by
  intro i j oi oj l6 EY hl hh hwi hwj dB;obtain⟨sti,_⟩:=ot i oi (Nat.zero_le _) (aw i oi l6) l6;obtain⟨stj,_⟩:=ot j oj (Nat.zero_le _) (aw j oj EY) EY;obtain⟨z,hz,hLP⟩:=sti.ld hwi hl;have hHP:=stj.hv hwj hh;have g1:=ei _ _ hLP hHP ⟨oi,l6,hl⟩ ⟨oj,EY,hh⟩ dB;grind
 let X:Cx:=⟨P,c,n,ops,ky ops.toList 0 .e,LP,HP,F,H,V,W,m,D,w,a,hc,tr,qyR bZ,r5,gh,λi hi=>(gm i hi).1,λi hi=>(gm i hi).2,EH⟩
 refine wpIn_region_any hm ?_;obtain⟨q,C,I⟩:=Cx.start X Pu T.size (s:=λi=>(Array.replicate ops.size false).getD i false) (λi=>by simp[Array.getD]);refine Cx.BC (X:=X) ?_ ops.size (Array.replicate ops.size false) q a _ m C (by grind) I ?_
 ·intro s q a' w' m' C' I' cQ;have O:=I'.done cQ (tm':=cN) (by show Qh cN (F ops.size);grind);have O':Ao P m D h w n a.defers a' cN m' (Cx.DQ X s X.N) h1 w':=by
   have e0:X.H 0=h:=r4;have eN:X.H X.N=h1:=hHN;grind
  grind
 ·unfold Cx.bh;refine Nat.le_trans (List.length_filter_le _ _) ?_;simp;exact Nat.le_refl _
theorem WI (hm:P.follows .mixedOrders=true) (hc:y9 P c):NX P c:=by
 intro n nn ops Ls rc Q r id m D h w a tm k RR T e hk;simp only[Ln,zW]at e;obtain⟨bZ,e⟩:=e;have hl:∀i o,ops.toList[i]? =some o→ops[0+i]? =some o:=λi o hi=>by grind
 have h0:Qh tm (λt=>tm.get t):=λt v hv=>hv;cases Pv:Yf P (gg P) (ky ops.toList 0 .e) ops.toList ops.toList 0
 ·rw[Pv]at e;simp only[cE]at e;obtain⟨cN,h1,F1,e1,T1,S⟩:=qkR _ ops.toList 0 Ls tm _ h k hl h0 e;rw[Nat.zero_add,Array.length_toList]at S;refine ZC hm hc RR T hk bZ S T1 e1 ?_;rintro l hr _ _ ⟨oi,l6,hli⟩ ⟨oj,EY,Pf⟩ dB;have:=Nn _ _ Pv l.i oi (by grind) hli hr.j oj (by grind) Pf;grind
 ·rw[Pv]at e;simp only[cE]at e;cases Ls with
  |nil=>grind
  |cons L Ls=>simp only[yc]at e;obtain⟨cN,h1,F1,mZ,eh,e1,T1,_,_,S⟩:=qxF ops.toList 0 [] tm _ h [] [] _ hl h0 (λ_ hx=>(by grind)) e;obtain⟨e2,ei⟩:=qJO _ _ e1;rw[zW]at e2;obtain⟨cQ,e2⟩:=e2;have S:=S (λl=>l∈mZ) (λq=>q∈eh) (λ_ h=>h) (λ_ h=>h);rw[Nat.zero_add,Array.length_toList]at S;refine ZC hm hc RR T hk bZ S (Wp T1 L cQ) e2 ?_;grind
theorem WJ {tab:BT} {rt:List RT} (hm:P.follows .mixedOrders=true) (ht:TabOk P tab rt) (k:Nat):y9 P (callT tab rt k) :=
 qzu ht (λ_ hc=>WI hm hc) k
theorem Rel.empty (P:Program) (m:Mp) (w:World) (hg:Gl P w):Rel P m (λ_=>False) AH.empty w:=⟨⟨λ_ hb=>hb.elim,λ_ _ hb=>hb.elim,λ_ hb=>hb.elim,λ_ _ hb=>hb.elim⟩,λp hp=>let ⟨g,h1,h2⟩:=hg p hp;⟨g,h1,h2,λ⟨_,hb,_⟩=>hb⟩⟩
theorem closed_true {tab:BT} {rt:List RT} (hm:P.follows .mixedOrders=true) (ht:TabOk P tab rt) {k:Nat} {f:FuncId} (e:isTrue (callT tab rt k (.fn f [] []) [] AH.empty)=true) (n:Nat) (w:World) (hg:Gl P w) :
  CallsIn Fence.wide n P f #[] w λe w'=>e=.returned (.bool true)∧RowKit.Below w.heap.size w w':=by
 unfold isTrue at e
 split at e
 rotate_left
 ·grind
 rename_i h' he;have:=(WJ hm ht k (.fn f [] []) [] AH.empty _ he (λ_=>(0,0)) _ w (Rel.empty P _ w hg) ⟨trivial,trivial⟩ trivial).2 n;refine CallsIn.mono this ?_;rintro ee w' ⟨m',D',rfl,X,R',_⟩;refine⟨rfl,X.os,X.tape,X.output,X.size,?_⟩;intro k hk;exact(X.keep k hk (λ⟨b,hb,_⟩=>hb)).1
end Go.Ae
namespace Go.Ae
open Go
variable {P:Program}
def callOk (P:Program) (f:Nat):Bool:=match P.funcs[f]? with
 | some fn => !(fn.name == "runtime.NumGoroutine") && !fn.body.isNone
 |none=>false
theorem qKd {f:Nat} (h:callOk P f=true) (as:Array Value) (W:World):(callFunc f as).run P W=.ok (.enter f as) W:=by
 unfold callOk at h
 split at h
 ·rename_i fn hf;simp only[Bool.and_eq_true,Bool.not_eq_true']at h;obtain⟨h1,h2⟩:=h;unfold callFunc;have hp:(program:Sem Program).run P W=.ok P W:=rfl;rw[qV hp];simp only[hf,h1,h2,Bool.false_eq_true,if_false];rfl
 grind
theorem BT.r6 (g:Nat) (w:WF) (f:Nat):(BT.leaf g w).get f=if g=f then some w else none:=by
 show Bool.rec (motive:=λ_=>Option WF) none (some w) (Nat.beq g f)=_;by_cases h:g=f
 ·simp_all
 ·rw[iQ h,yi h]
theorem BT.r7 (m:Nat) (l r:BT) (f:Nat):(BT.node m l r).get f=l.get f∨(BT.node m l r).get f=r.get f:=by
 show Bool.rec (motive:=λ_=>Option WF) (r.get f) (l.get f) (Nat.ble f m)=_∨Bool.rec (motive:=λ_=>Option WF) (r.get f) (l.get f) (Nat.ble f m)=_;cases Nat.ble f m
 all_goals simp
theorem BT.r8 {p:Nat→WF→Prop}:∀{t:BT} {f:Nat} {g:WF},t.all p→t.get f=some g→p f g∧f∈t.fs:=by
 intro t
 induction t with
 |no=>nofun
 |leaf k w=>
  intro f g ha h;rw[BT.r6]at h;by_cases e:k=f
  ·rw[iJ e]at h;cases h;subst e;exact⟨ha,by simp[BT.fs]⟩
  grind
 |node m l r il ir=>
  intro f g ha h;rcases BT.r7 m l r f with hl |hr
  ·rw[hl]at h;obtain⟨h1,h2⟩:=il ha.1 h;grind[BT.fs]
  ·rw[hr]at h;obtain⟨h1,h2⟩:=ir ha.2 h;grind[BT.fs]
theorem TabOk.of {tab:BT} {rt:List RT} (h1:tab.all (WX P)) (h2:tab.fs.all (λf=>callOk P f)=true) (h3:∀p∈rt,DO P p.f p.pos p.L p.run):TabOk P tab rt:=by
 refine⟨?_,?_,h3⟩
 ·intro f g hg;exact(BT.r8 h1 hg).1
 grind[qKd,List.all_eq_true,BT.r8]
open Go.RowKit
theorem post_below {H:Type} {enc:TypeId×Value→H} {f:Func} {s:ChangeSpec} {apart fresh handsOn again:Bool} {W W':World} {args:Array Value} {v:Value} {ds gs:List (DataW H)} {before pa pv:List MemPlace}
  (whole:DataW.Whole enc P f.params.toList s.vars apart W args.toList ds gs before) (parts:before=pa++pv) (below:Below W.heap.size W W')
  (out:∀(b:Nat) (sp:Nat→Bool) (hd:Bool),DataW.TrodAll enc P W' b sp hd f.resultTypes.toList (v.resultList f.resultTypes.size) (s.fn H (ds++gs)).results [])
  (ins:∀sp:Nat→Bool,(∀p∈before,sp p.block=true)→DataW.TrodAll enc P W' 0 sp true f.params.toList args.toList (s.fn H (ds++gs)).args pa)
  (WL:∀sp:Nat→Bool,(∀p∈before,sp p.block=true)→DataW.TrodVars enc P W' sp s.vars (s.fn H (ds++gs)).vars pv)
  (wide:∀(j:Nat) (t:TypeId) (r:Value),f.resultTypes[j]? =some t→(v.resultList f.resultTypes.size)[j]? =some r→Value.okWide P W' .any 0 t r) :
  s.post enc P f apart fresh handsOn again W args v W':=by
 have inside:∀p∈before,p.block<W.heap.size:=λp hp=>whole.lt p hp;have nr:∀p∈before,(λb=>decide (b<W.heap.size)) p.block=true:=λp hp=>iG (inside p hp);have all:∀p∈before,(λ_:Nat=>true) p.block=true:=λ_ _=>rfl;have BD:=whole;obtain⟨_,_,_,_,_,live,Pw⟩:=BD;have r9:([]++pa)++pv=before:=by grind
 refine⟨ds,gs,before,[],pa,pv,whole,out _ _ _,ins _ nr,WL _ nr,?_,λ_=>⟨wide,_,_,([]++pa)++pv,⟨[]++pa,pv,ChangeShapes.trodAll_append (ins _ all) (out _ _ _),WL _ all,rfl,?_,?_⟩,?_⟩⟩
 ·refine World.keptBut_mono (λp hp=>?_) (below.frame (· ∈before));grind
 ·intro b off hp;have eI:MemPlace.cell b off∈before:=by grind
  rw[below.frozen (inside _ eI)];exact live b off eI
 all_goals grind
end Go.Ae
namespace Go.Ae
open Go
theorem jZs {α:Type} (f:Nat→Option α):∀N,∃t:aO α,∀i,aO.get t i=if i<N then f i else none:=by
 intro N
 induction N with
 |zero=>exact⟨.e,λi=>by rfl⟩
 |succ N ih=>
  obtain⟨t,ht⟩:=ih;cases hf:f N with
  |none=>
   refine⟨t,λi=>?_⟩;grind
  |some x=>
   refine⟨aO.set t N x,λi=>?_⟩;rw[aO.bP];grind
def Gn:Value→AV
 | .bool b=>.bool b
 | .int k n=>.int k n
 | .string s=>.str s.data.toList
 | .pointer none=>.aU
 | .pointer (some ⟨b,o,none⟩)=>.ptr b o
 | .slice none 0 0=>.ak
 | .slice (some a) 0 0=>.ch a
 | .slice (some ⟨b,o,none⟩) len cap=>.slice b o len cap false
 | .nilFunc=>.dY
 | .nilIface=>.dl
 |_=>.undef
def KS:Value→AV
 | .agg cs=>.agg (cs.toList.map Gn)
 |v=>Gn v
def UV:Mp:=λb=>(b,0)
def gP (w:World) (b:Nat):Prop:=∃C e fr,w.heap[b]? =some (.cells C e fr)
def Az (w:World) (v:Value):Prop:=cv UV (Gn v)=v∧bu (gP w) (Gn v)
structure QP (w:World) (h:AH):Prop where
  nx:h.nx=w.heap.size
  bp:∀b C e fr,w.heap[b]? =some (.cells C e fr)→∃t,h.get b=some (.dq t)∧∀i u,aO.get t i=some u↔∃v,C[i]? =some v∧Az w v∧u=Gn v
theorem mirror (w:World):∃h,QP w h:=by
 have key:∀b:Nat,∃x:Option cV,∀(C:Array Value) (e:TypeId) (fr:Nat×Nat),w.heap[b]? =some (.cells C e fr)→∃t,x=some (.dq t)∧∀i u,aO.get t i=some u↔∃v,C[i]? =some v∧Az w v∧u=Gn v:=by
  intro b;by_cases hc:gP w b
  ·obtain⟨C,e,fr,hb⟩:=hc;have cl:∀v,Decidable (Az w v):=λv=>Classical.propDecidable _;obtain⟨t,ht⟩:=jZs (λi=>(C[i]?).bind λv=>if Az w v then some (Gn v)else none) C.size;refine⟨some (.dq t),λC' e' fr' bJ=>⟨t,rfl,λi u=>?_⟩⟩;grind
  ·exact⟨none,λC e fr hb=>absurd ⟨C,e,fr,hb⟩ hc⟩
 obtain⟨h,h1,h2⟩:=Cx.oQ (λb=>Classical.choose (key b)) w.heap.size w.heap.size;refine⟨h,h1,λb C e fr hb=>?_⟩;grind
theorem QP.mq {w:World} {h:AH} (M:QP w h) {b:Nat} (hb:gP w b):¬live h b:=by obtain⟨C,e,fr,hc⟩:=hb;obtain⟨t,ht,_⟩:=M.bp b C e fr hc;rintro⟨x,hx,hl⟩;rw[ht]at hx;cases hx;exact hl
theorem QP.na {P:Program} {w:World} {h:AH} (M:QP w h):Rel0 P UV (gP w) h w:=by
 refine⟨?_,λb _ hb _ hl=>(M.mq hb hl).elim,?_,?_⟩
 ·intro b hb;obtain⟨C,e,fr,hc⟩:=hb;obtain⟨t,ht,hi⟩:=M.bp b C e fr hc;refine⟨_,ht,⟨C.toList,e,fr,by trivial,?_⟩,?_⟩
  ·intro i v hv;obtain⟨u,h1,h2,rfl⟩:=(hi i v).1 hv;rw[h2.1];grind
  ·intro i v hv;obtain⟨u,h1,h2,rfl⟩:=(hi i v).1 hv;exact h2.2
 ·rintro b ⟨C,e,fr,hc⟩;rw[M.nx];grind
 ·rintro b t _ _ ⟨b',bJ,hl,_⟩;exact M.mq bJ hl
theorem QP.rel {P:Program} {w:World} {h:AH} (M:QP w h) (hg:Gl P w):Rel P UV (gP w) h w :=
 ⟨M.na,λp hp=>let ⟨g,h1,h2⟩:=hg p hp;⟨g,h1,h2,λ⟨_,hb,hl,_⟩=>M.mq hb hl⟩⟩
noncomputable def AH.at (h:AH) (b i:Nat):Option AV:=match h.get b with
 |some (.cells c _ _)=>c.fa i
 |some (.dq t)=>aO.get t i
 |_=>none
def WT (P:Program) (h:AH):Nat→TypeId→List AV→Prop
 | 0,_,_=>False
 |d+1,t,cs=>match P.underlying t with
  |some .bool=>∃b,cs=[.bool b]
  |some (.int k)=>∃n,cs=[.int k n]∧k.min≤n∧n≤k.max
  |some .string=>∃s,cs=[.str s]∧s.length≤maxLen
  |some (.slice e)=>cs=[.ak]∨(∃a,cs=[.ch a])∨P.cellsOf e=0∨∃b off len cap,cs=[.slice b off len cap false]∧len≤cap∧cap≤maxLen∧b<h.nx∧(∃t,h.get b=some (.dq t))∧
    ∀i,i<len→∃row,row.length=P.cellsOf e∧(∀j,j<P.cellsOf e→h.at b (off+i*P.cellsOf e+j)=row[j]?)∧WT P h d e row
  |some (.struct fs)=>cs.length=P.cellsOf t∧∀f∈fs.toList,WT P h d f.type ((cs.drop f.offset).take (P.cellsOf f.type))
  |some (.array n e)=>cs.length=P.cellsOf t∧∀i,i<n→WT P h d e ((cs.drop (i*P.cellsOf e)).take (P.cellsOf e))
  |_=>True
def KG (P:Program):Nat→List Field→Option Nat
 |c,[]=>some c
 |c,f::r=>if f.offset=c then KG P (c+P.cellsOf f.type) r else none
def plainT (P:Program):Nat→TypeId→Bool
 | 0,_=>false
 |d+1,t=>match P.underlying t with
  |some .bool |some (.int _) |some .string=>true
  |some (.slice e)=>Nat.ble 1 (P.cellsOf e)&&plainT P d e
  |some (.struct fs)=>(KG P 0 fs.toList==some (P.cellsOf t))&&fs.toList.all λf=>plainT P d f.type
  |_=>false
theorem jXu {k:IntKind} {n:Int} (h:(Lit.int k n).wf=true):k.min≤n∧n≤k.max:=by grind[Lit.wf]
theorem qqc {P:Program}:∀{l:List Field} {c e:Nat},KG P c l=some e→c≤e∧∀i,c≤i→i<e→∃f∈l,f.offset≤i∧i<f.offset+P.cellsOf f.type:=by
 intro l
 induction l with
 |nil=>intro c e h;cases h;simp
 |cons f l ih=>
  intro c e h;unfold KG at h
  grind
theorem jQ3 {w:World} {h:AH} (M:QP w h) {b o:Nat} {v:Value} (hc:w.cell? ⟨b,o,none⟩=some v) (hg:Az w v):h.at b o=some (Gn v)∧gP w b:=by
 unfold World.cell? at hc
 split at hc
 ·rename_i C e fr hb;simp at hc;obtain⟨t,ht,hi⟩:=M.bp b C e fr hb;refine⟨?_,C,e,fr,hb⟩;unfold AH.at
  grind
 grind
theorem qzS {w:World} {a:Addr} {v:Value} (hc:w.cell? a=some v):a.spot=none:=by
 unfold World.cell? at hc
 split at hc
 all_goals simp_all
theorem Qt {P:Program} {d:Nat} {t:TypeId} (h:plainT P d t=true):∃n,plainT P (n+1) t=true:=by
 cases d with
 |zero=>cases h
 |succ d=>grind
theorem YU {P:Program} {d:Nat} {t e:TypeId} (h:plainT P (d+1) t=true) (hu:P.underlying t=some (.slice e)):0<P.cellsOf e∧plainT P d e=true:=by unfold plainT at h;simp_all;omega
theorem KF {P:Program} {d:Nat} {t:TypeId} {fs:Array Field} (h:plainT P (d+1) t=true) (hu:P.underlying t=some (.struct fs)) :
  KG P 0 fs.toList=some (P.cellsOf t)∧∀f∈fs.toList,plainT P d f.type=true:=by
 unfold plainT at h;grind
theorem qKu {P:Program}:∀{l:List Field} {c e:Nat},KG P c l=some e→e=c+(l.map λf=>P.cellsOf f.type).sum∧∀(j:Nat) f,l[j]? =some f→f.offset=c+((l.take j).map λf=>P.cellsOf f.type).sum:=by
 intro l
 induction l with
 |nil=>intro c e h;cases h;simp
 |cons g l ih=>
  intro c e h;unfold KG at h
  split at h
  ·rename_i hf;obtain⟨h1,h2⟩:=ih h;refine⟨by grind,λj f hj=>?_⟩;cases j with
   |zero=>grind
   |succ j=>grind
  grind
def WM (P:Program) (t:TypeId):Prop:=∃d,plainT P d t=true
theorem qV3 (P:Program):Kids P (WM P):=by
 refine⟨?_,?_,?_,?_,?_⟩
 ·rintro t e ⟨d,h⟩ hu;grind[Qt,plainT,Bool.false_eq_true]
 ·rintro t e ⟨d,h⟩ hu;obtain⟨n,h⟩:=Qt h;exact⟨n,(YU h hu).2⟩
 ·rintro t e n ⟨d,h⟩ hu;grind[Qt,plainT,Bool.false_eq_true]
 ·rintro t fs ⟨d,h⟩ hu;obtain⟨n,h⟩:=Qt h;obtain⟨h1,h2⟩:=KF h hu;obtain⟨h3,h4⟩:=qKu h1;exact⟨λf hf=>⟨n,h2 f hf⟩,by grind,λj f hj=>by grind⟩
 ·rintro t k e ⟨d,h⟩ hu;grind[Qt,plainT,Bool.false_eq_true]
theorem jQB {H:Type} {enc:TypeId×Value→H} {P:Program} {w:World} {h:AH} (M:QP w h) {held:Bool}:∀(d:Nat) (t:TypeId) (fuel:Nat) (cs:List Value) (x:DataW H×List MemPlace),
  plainT P d t=true→DataW.trod enc P w 0 (λ_=>true) held fuel t cs=some x→(∀v∈cs,Az w v)∧WT P h d t (cs.map Gn):=by
 intro d
 induction d with
 |zero=>nofun
 |succ d ih=>
  intro t fuel cs x hp e;have nN:=hp;unfold plainT at hp;unfold WT
  split at hp
  ·rename_i hu;simp only[hu];obtain⟨b,rfl,_⟩:=DataW.trod_bool hu e;exact⟨λv hv=>by rw[List.mem_singleton.1 hv];trivial,b,rfl⟩
  ·rename_i k hu;simp only[hu];obtain⟨n,rfl,_,hw⟩:=DataW.trod_int hu e;exact⟨λv hv=>by rw[List.mem_singleton.1 hv];trivial,n,rfl,jXu hw⟩
  ·rename_i hu;simp only[hu];obtain⟨s,rfl,_,hl⟩:=DataW.trod_string hu e;refine⟨λv hv=>by rw[List.mem_singleton.1 hv];trivial,s.data.toList,rfl,?_⟩;trivial
  ·rename_i el hu;simp only[hu];obtain⟨bF,LQ⟩:=YU nN hu;rcases DataW.trod_slice hu e with⟨rfl,_⟩ |⟨a,len,cap,WN,rest,n,rfl,rfl,_,_,L7,Px,Wb,h1,h2,_⟩
   ·exact⟨λv hv=>by rw[List.mem_singleton.1 hv];trivial,.inl rfl⟩
   ·obtain⟨Br,h2⟩:=h2 rfl;by_cases lQ:cap=0
    ·subst lQ;obtain rfl:len=0:=by omega
     exact⟨λv hv=>by rw[List.mem_singleton.1 hv];trivial,.inr (.inl ⟨a,rfl⟩)⟩
    ·--the first place shows that the address has no spot
     have row:∀i,i<cap→∃r y,(w.cells? 0 (a.add (i*P.cellsOf el)) (P.cellsOf el))=some r∧DataW.trod enc P w 0 (λ_=>true) held n el r=some y:=by
      intro i hi;by_cases oT:i<len
      ·have hx:=h1 i oT;rw[iW omQ]at hx;grind[Option.bind_eq_some_iff]
      ·have hx:=h2 (i-len) omQ;rw[show len+(i-len)=i by omega,iW omQ]at hx;grind[Option.bind_eq_some_iff]
     have cells:∀(b:Addr) r,w.cells? 0 b (P.cellsOf el)=some r→r.length=P.cellsOf el∧∀j,j<P.cellsOf el→w.cell? (b.add j)=r[j]?:=by intro b r hr;unfold World.cells? at hr;rw[iJ (Nat.zero_le _)]at hr;refine⟨by simpa using mapM_some_length hr,λj hj=>?_⟩;exact mapM_some_get hr j j (by grind)
     have AA:a.spot=none:=by obtain⟨r,y,hr,_⟩:=row 0 omQ;obtain⟨c1,c2⟩:=cells _ r hr;have:=c2 0 bF;rw[iW omQ]at this;grind[qzS,Addr.add]
     obtain⟨b,off,sp⟩:=a;simp only at AA;subst AA;have aH:∀i,i<cap→∃Py:List AV,Py.length=P.cellsOf el∧(∀j,j<P.cellsOf el→h.at b (off+i*P.cellsOf el+j)=Py[j]?)∧WT P h d el Py∧gP w b:=by
      intro i hi;obtain⟨r,y,hr,hy⟩:=row i hi;obtain⟨c1,c2⟩:=cells _ r hr;obtain⟨g1,g2⟩:=ih el n r y LQ hy;have dw:∀j,j<P.cellsOf el→h.at b (off+i*P.cellsOf el+j)=(r.map Gn)[j]? ∧gP w b:=by
       intro j hj;have Pz:=c2 j hj;have lz:j<r.length:=by omega
       rw[iW lz]at Pz;have e1:((⟨b,off,none⟩:Addr).add (i*P.cellsOf el)).add j=⟨b,off+i*P.cellsOf el+j,none⟩:=by rw[ko,ko]
       rw[e1]at Pz;obtain⟨k1,k2⟩:=jQ3 M Pz (g1 _ (List.getElem_mem lz));grind
      grind
     have pz:Gn (.slice (some ⟨b,off,none⟩) len cap)=.slice b off len cap false:=by
      cases cap with
      |zero=>grind
      |succ cap=>cases len<;>rfl
     obtain⟨_,_,_,_,rT⟩:=aH 0 omQ;refine⟨?_,.inr (.inr (.inr ⟨b,off,len,cap,?_,L7,Px,M.na (P:=P) |>.lt b rT,?_,?_⟩))⟩
     ·intro v hv;rw[List.mem_singleton.1 hv];exact⟨by rw[pz];rfl,by rw[pz];exact rT⟩
     ·grind
     ·obtain⟨C,e,fr,hc⟩:=rT;obtain⟨t,ht,_⟩:=M.bp b C e fr hc;grind
     ·intro i hi;obtain⟨r,r1,r2,r3,_⟩:=aH i omQ;grind
  ·rename_i fs hu;simp only[hu];obtain⟨PA,hpf⟩:=KF nN hu;obtain⟨xs,n,rfl,_,hlen,tZ,hf⟩:=DataW.trod_struct hu e;have part:∀f∈fs.toList,(∀v∈(cs.drop f.offset).take (P.cellsOf f.type),Az w v)∧WT P h d f.type (((cs.drop f.offset).take (P.cellsOf f.type)).map Gn):=by
    intro f C7;obtain⟨i,hi,rfl⟩:=List.mem_iff_getElem.1 C7;have nM:i<fs.size:=by grind
    have hx:=hf i fs[i] (Array.getElem?_eq_getElem nM);grind
   refine⟨?_,by grind,λf C7=>?_⟩
   ·intro v hv;obtain⟨i,hi,rfl⟩:=List.mem_iff_getElem.1 hv;obtain⟨_,hc⟩:=qqc PA;obtain⟨f,C7,h1,h2⟩:=hc i (Nat.zero_le _) omQ;refine(part f C7).1 _ ?_;have:((cs.drop f.offset).take (P.cellsOf f.type))[i-f.offset]? =some cs[i]:=by
     rw[List.getElem?_take_of_lt omQ,List.getElem?_drop,show f.offset+(i-f.offset)=i by omega,iW hi]
    grind
   simp_all
  grind
end Go.Ae
namespace Go.Ae
open Go
def AD (P:Program) (h:AH) (d:Nat) (t:TypeId) (a:AV):Prop :=
 match P.underlying t with
 |some (.struct _) |some (.array _ _)=>∃l,a=.agg l∧WT P h d t l
 |_=>WT P h d t [a]
def Iw (P:Program) (h:AH) (d:Nat):List TypeId→List AV→Prop
 |[],[]=>True
 |t::ts,a::as=>AD P h d t a∧Iw P h d ts as
 |_,_=>False
theorem qvB {H:Type} {enc:TypeId×Value→H} {P:Program} {w:World} {h:AH} (M:QP w h) {r:Reach} {base d:Nat} {t:TypeId} {v:Value} {x:DataW H} {ps:List MemPlace} (hp:plainT P d t=true)
  (hv:Value.okWide P w r base t v) (e:DataW.Trod enc P w 0 (λ_=>true) true t v x ps):cv UV (KS v)=v∧bu (gP w) (KS v)∧AD P h d t (KS v):=by
 obtain⟨fuel,e⟩:=e;obtain⟨g,wt⟩:=jQB M d t fuel _ _ hp e;unfold AD;have agg:∀cs:Array Value,v=.agg cs→cv UV (KS v)=v∧bu (gP w) (KS v)∧∃l,KS v=.agg l∧WT P h d t l:=by
  rintro cs rfl;refine⟨?_,?_,_,rfl,wt⟩
  ·simp only[KS,cv,xK,List.map_map]
   congr 1
   apply Array.ext';simp only[]
   conv=>rhs;rw[← List.map_id cs.toList]
   refine List.map_congr_left λv hv=>?_;exact(g v hv).1
  ·show ba _ _;rw[x8];intro u hu;obtain⟨z,hz,rfl⟩:=List.mem_map.1 hu;exact(g z hz).2
 have one:(∀cs:Array Value,v≠.agg cs)→cv UV (KS v)=v∧bu (gP w) (KS v)∧WT P h d t [KS v]:=by
  intro hn;have hc:v.cells.toList=[v]:=by cases v<;>first |rfl |grind
  have hi:KS v=Gn v:=by cases v<;>first |rfl |grind
  rw[hc]at g wt;rw[hi];exact⟨(g v aS).1,(g v aS).2,wt⟩
 unfold Value.okWide at hv
 split
 ·grind
 ·grind
 ·rename_i h1 h2;refine one ?_;rintro cs rfl
  simp_all[Cell.okWide,Cell.ok]
theorem args_ok {H:Type} {enc:TypeId×Value→H} {P:Program} {w:World} {h:AH} (M:QP w h) {r:Reach} {base d:Nat}:∀{ts:List TypeId} {vs:List Value} {ds:List (DataW H)} {ps:List MemPlace},
  ts.all (plainT P d)=true→(∀(j:Nat) t v,ts[j]? =some t→vs[j]? =some v→Value.okWide P w r base t v)→DataW.TrodAll enc P w 0 (λ_=>true) true ts vs ds ps→
  aW UV (vs.map KS)=vs∧ba (gP w) (vs.map KS)∧Iw P h d ts (vs.map KS)∧ds.length=ts.length:=by
 intro ts
 induction ts with
 |nil=>
  intro vs ds ps _ _ e;cases vs<;>cases ds<;>simp only[DataW.TrodAll]at e
  trivial
 |cons t ts ih=>
  intro vs ds ps hp hv e;cases vs<;>cases ds<;>simp only[DataW.TrodAll]at e
  rename_i v vs x ds;obtain⟨p,q,h1,h2,_⟩:=e;simp only[List.all_cons,Bool.and_eq_true]at hp;obtain⟨a1,a2,a3⟩:=qvB M hp.1 (hv 0 t v rfl rfl) h1;obtain⟨b1,b2,b3,b4⟩:=ih hp.2 (λj t v h1 h2=>hv (j+1) t v (by grind) (by grind)) h2;exact⟨by simp_all[List.map_cons,aW],⟨a2,b2⟩,⟨a3,b3⟩,by grind⟩
theorem args_stay {H:Type} {enc:TypeId×Value→H} {P:Program} {w w':World} {sp:Nat→Bool}:∀{ts:List TypeId} {vs:List Value} {ds:List (DataW H)} {ps:List MemPlace},
  (∀t∈ts,WM P t)→DataW.TrodAll enc P w 0 (λ_=>true) true ts vs ds ps→(∀k,k<w.heap.size→w'.heap[k]? =w.heap[k]?)→(∀p∈ps,p.block<w.heap.size)→(∀p∈ps,sp p.block=true)→
  DataW.TrodAll enc P w' 0 sp true ts vs ds ps:=by
 intro ts
 induction ts with
 |nil=>
  grind[DataW.TrodAll]
 |cons t ts ih=>
  intro vs ds ps hp e hb aw hs;cases vs<;>cases ds<;>simp only[DataW.TrodAll]at e ⊢
  rename_i v vs x ds;obtain⟨p,q,⟨fuel,h1⟩,h2,rfl⟩:=e;have hq:∀y,y∈p→y∈p++q:=λy hy=>List.mem_append.2 (.inl hy);refine⟨p,q,⟨fuel,?_⟩,ih (λt ht=>hp t (iX _ ht)) h2 hb (λy hy=>aw y (List.mem_append.2 (.inr hy))) (λy hy=>hs y (List.mem_append.2 (.inr hy))),rfl⟩;refine DataW.trod_stays (qV3 P) ?_ (λh=>by grind) (hp t (iK ..)) h1 ?_ (λy hy=>hs y (hq y hy))
  ·rintro t e ⟨d,h⟩ hu;obtain⟨n,h⟩:=Qt h;exact(YU h hu).1
  ·intro y hy;have hk:=hb y.block (aw y (hq y hy));cases y with
   |cell b off=>show World.cell? _ _=World.cell? _ _;unfold World.cell?;simp only[];rw[show w'.heap[b]? =w.heap[b]? from hk]
   |map b=>exact hk
end Go.Ae
