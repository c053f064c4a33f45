/- The abstract executor of the program's form in Lean, shown sound: regions that draw their order: every order; the table's answers are the program's; a row's last step; the caller's cells. -/
import Derived.Test.YtefichdddddacaaGreatDoorTopAgainAe5
import Derived.ChangeSame
import Derived.ChangeArms
import Derived.ChangeStays
namespace Go.Ae
open Go
structure Cx where
  P:Program
  c:CV
  n:Nat
  ops:Array Oper
  M:PT Nat
  LP:JH→Prop
  HP:Qi→Prop
  F:Nat→Nat→Option AV
  H:Nat→AH
  V:Nat→AV
  W:Nat→Bool
  m0:Mp
  D0:Nat→Prop
  w0:World
  a0:Act
  hc:xu P c
  tr:Tr P c n ops LP HP F H V W
  st:Stat P ops M
  lP:Rel P m0 D0 (H 0) w0
  gh:∀i,i≤ops.size→Gh P D0 H F i
  mono:∀i,i<ops.size→(H i).nx≤(H (i+1)).nx
  vin:∀i,i<ops.size→bm (Dg D0 H (i+1)) (V i)
  Bx:∀i j oi oj,ops[i]? =some oi→ops[j]? =some oj→yo P oi.op=true→zz P oj.op=true→W i=true→W j=true→gi M i j=true→
    ∃a,JF (dT (F i)) oi.op=some a∧pS a (gk P oi.op) (V i) (H j) (H (j+1)) (H 0).nx=true
namespace Cx
variable (X:Cx)
def N:Nat:=X.ops.size
def nx (i:Nat):Nat:=(X.H i).nx
def bc (i:Nat):Prop:=∃o,X.ops[i]? =some o∧zz X.P o.op=true
def eD (i:Nat):Option Tmp:=(X.ops[i]?).bind (·.dst)
def DS (s:Nat→Bool):Nat→Prop:=λb=>X.D0 b∨∃i,s i=true∧X.nx i≤b∧b<X.nx (i+1)
def FS (s:Nat→Bool):Nat→Nat→Option AV
 | 0,t=>X.F 0 t
 |i+1,t=>if s i=true∧X.eD i=some t then some (X.V i)else FS s i t
def ins (s:Nat→Bool) (i:Nat):Nat→Bool:=λj=>j==i||s j
variable {X}
theorem fT {i:Nat} (h:i<X.N):∃o,X.ops[i]? =some o:=⟨_,Array.getElem?_eq_getElem h⟩
theorem kt {i:Nat} {o:Oper} (h:X.ops[i]? =some o):i<X.N:=(Array.getElem?_eq_some_iff.1 h).1
theorem dj {i j:Nat} (oL:i≤j) (hj:j≤X.N):X.nx i≤X.nx j:=by
  induction j with
  | zero => obtain rfl : i = 0 := by omega
            exact Nat.le_refl _
  |succ j ih=>
    by_cases h:i=j+1
    · subst h;exact Nat.le_refl _
    · exact Nat.le_trans (ih omQ omQ) (X.mono j (by unfold N at hj;omega))
theorem KQ {o:Op} (h:zz X.P o=false):iz X.P o=.pure∨iz X.P o=.load∨iz X.P o=.fresh:=by
 unfold zz at h;cases hc:iz X.P o<;>simp only[hc]at h<;>simp
 all_goals exact absurd h aN
theorem Ot {P:Program} {o:Op} (h:iz P o=.load):Ku o=true:=by
 cases o with
 |load t x=>rfl
 |convert s d x=>
  simp only[iz]at h
  split at h
  ·cases h
  ·split at h<;>cases h
  ·split at h<;>cases h
  ·cases h
 |call cl=>
  simp only[iz]at h;cases dQ:cl.callee with
  |value f=>rw[dQ]at h;cases h
  |invoke a b=>rw[dQ]at h;cases h
  |builtin b=>
   rw[dQ]at h;cases b<;>first |(cases h;done) |skip
   simp only[]at h
   split at h
   ·split at h<;>cases h
   ·cases h
 |_=>simp only[iz,reduceCtorEq]at h
theorem kind {i:Nat} {o:Oper} (ho:X.ops[i]? =some o) (hh:zz X.P o.op=false) (hw:X.W i=true) :
  X.H (i+1)=X.H i∨∃mk x,uZ mk∧X.V i=mk (X.nx i)∧X.H (i+1)=(X.H i).new x∧∀g,ch X.P X.c o.op (dT (X.F i)) g=some (mk g.nx,g.new x):=by
 have hs:=(X.tr.step i o ho).1.yes hw;rcases KQ hh with h |h |h
 ·cases lQ:QJ X.P o.op
  ·cases iN:wW X.P o.op
   ·exact .inl (Zs h lQ iN hs).1
   ·exact .inl (Ud iN hs).1
  ·exact .inl (M6 lQ hs).1
 ·obtain⟨t,x,tN⟩:=XA (Ot h);rw[tN]at hs;exact .inl (U4 hs).1
 ·obtain⟨mk,x,h1,h2,h3,h4⟩:=Vl h hs;exact .inr ⟨mk,x,h1,h2,h3,h4⟩
theorem yw {i j:Nat} (oL:i≤j) (hj:j≤X.N) (hn:∀k,i≤k→k<j→¬(X.bc k∧X.W k=true)):∀b,b<X.nx i→(X.H j).get b=(X.H i).get b:=by
  induction j with
  | zero => obtain rfl : i = 0 := by omega
            intro b _;rfl
  |succ j ih=>
    intro b hb;by_cases h:i=j+1
    · subst h;rfl
    · have:=ih omQ omQ (λk h1 h2=>hn k h1 omQ) b hb;rw[← this];obtain⟨o,ho⟩:=X.fT (show j<X.N by omega);cases hw:X.W j
      · rw[((X.tr.step j o ho).1.no hw).2]
      · have hh:zz X.P o.op=false:=by
          cases hh:zz X.P o.op
          · rfl
          · exact absurd ⟨⟨o,ho,hh⟩,hw⟩ (hn j omQ omQ)
        rcases kind ho hh hw with e |⟨mk,x,_,_,e,_⟩
        · rw[e]
        · rw[e];have:X.nx i≤X.nx j:=dj omQ omQ;exact AH.bJ _ _ (by unfold nx at*;omega)
theorem XZ {s:Nat→Bool} (down:∀i o,s i=true→X.ops[i]? =some o→∀e∈o.after,Kq e=true→s e.on=true) (sN:∀i,s i=true→i<X.N) :
  ∀i k,s i=true→(zL X.M i).testBit k=true→s k=true:=by
 intro i
 induction i using Nat.strongRecOn with
 |_ i ih=>
  intro k hs hk;obtain⟨o,ho⟩:=X.fT (sN i hs);obtain⟨e,he,hb,au,hk⟩:=X.st.nD i o k ho hk;have By:=down i o hs ho e he hb;rcases hk with rfl |hk
  ·exact By
  ·exact ih e.on au k By hk
theorem Lo {i k:Nat} {o:Oper} (ho:X.ops[i]? =some o) (hk:(zL X.M i).testBit k=true):k<i:=by
 induction i using Nat.strongRecOn generalizing o with
 |_ i ih=>
  obtain⟨e,he,hb,au,hk⟩:=X.st.nD i o k ho hk;rcases hk with rfl |hk
  ·exact au
  ·obtain⟨o',nE⟩:=X.fT (show e.on<X.N by have:=kt ho;omega);have:=ih e.on au nE hk;omega
structure dw (X:Cx) (s:Nat→Bool) (i:Nat) (o:Oper):Prop where
  ho:X.ops[i]? =some o
  un:s i=false
  mX:∀e∈o.after,Kq e=true→s e.on=true
  down:∀i o,s i=true→X.ops[i]? =some o→∀e∈o.after,Kq e=true→s e.on=true
  sN:∀i,s i=true→i<X.N
variable {s:Nat→Bool} {i:Nat} {o:Oper}
theorem dw.nD (r:dw X s i o) {k:Nat} (hk:(zL X.M i).testBit k=true):s k=true:=by
 obtain⟨e,he,hb,au,hk⟩:=X.st.nD i o k r.ho hk;have By:=r.mX e he hb;rcases hk with rfl |hk
 ·exact By
 ·exact XZ r.down r.sN _ k By hk
theorem dw.later (r:dw X s i o) {k:Nat} (hk:s k=true):(zL X.M k).testBit i=false:=by
 cases h:(zL X.M k).testBit i
 ·rfl
 ·have:=XZ r.down r.sN k i hk h;rw[r.un]at this;cases this
theorem dw.reads (r:dw X s i o) {t:Nat} (ht:(looks X.ops.toList o).testBit t=true):∀k,k≤X.N→X.FS s k t=X.F (min k i) t:=by
 intro k
 induction k with
 |zero=>intro _;simp[FS]
 |succ k ih=>
  intro hk;have ihk:=ih omQ;obtain⟨ok,dv⟩:=X.fT (show k<X.N by omega);have oN:X.eD k=ok.dst:=by unfold eD;rw[dv];rfl
  simp only[FS];rw[oN];by_cases n9:k<i
  ·rw[show min (k+1) i=k+1 by omega];rw[show min k i=k by omega]at ihk;rw[(X.tr.step k ok dv).2];unfold ma;by_cases hd:ok.dst=some t
   ·rw[iJ hd];have Bz:=X.st.apart k i ok o n9 dv r.ho;have mC:s k=true:=by
     rcases Bz with h |⟨h,_⟩
     ·exact r.nD h
     ·have:=Ki h t (by rw[JG];simp[hd]);rw[Nat.testBit_or,ht]at this;simp at this
    rw[iJ ⟨mC,hd⟩]
   ·rw[iQ hd,iQ (λh=>hd h.2)];exact ihk
  ·rw[show min (k+1) i=i by omega];rw[show min k i=i by omega]at ihk;rw[iQ,ihk];rintro⟨mC,hd⟩;have cS:k≠i:=λe=>by subst e;rw[r.un]at mC;cases mC
   have Bz:=X.st.apart i k o ok omQ r.ho dv;rcases Bz with h |⟨_,h⟩
   ·rw[r.later mC]at h;cases h
   ·have:=Ki h t (by rw[JG];simp[hd]);simp only[]at this;rw[ht]at this;cases this
theorem dw.read (r:dw X s i o) {t:Nat} (ht:(looks X.ops.toList o).testBit t=true):X.FS s X.N t=X.F i t:=by rw[r.reads ht _ (Nat.le_refl _),show min X.N i=i by have:=kt r.ho;omega]
theorem dw.write (r:dw X s i o) (t:Nat):X.FS (ins s i) X.N t=if o.dst=some t then some (X.V i)else X.FS s X.N t:=by
 have hdi:X.eD i=o.dst:=by unfold eD;rw[r.ho];rfl
 have key:∀k,k≤X.N→X.FS (ins s i) k t=if i<k∧o.dst=some t then some (X.V i)else X.FS s k t:=by
  intro k
  induction k with
  |zero=>intro _;simp[FS]
  |succ k ih=>
   intro hk;have ihk:=ih omQ;simp only[FS];by_cases n9:k=i
   ·subst n9;have h1:ins s k k=true:=by simp[ins]
    rw[hdi,ihk,iQ (show¬(k<k∧_) by omega)];by_cases hd:o.dst=some t
    ·rw[iJ ⟨h1,hd⟩,iJ ⟨by omega,hd⟩]
    ·rw[iQ (λh=>hd h.2),iQ (λh=>hd h.2),iQ (λh=>hd h.2)]
   ·have h1:ins s i k=s k:=by simp[ins,n9]
    rw[h1,ihk];by_cases hc:s k=true∧X.eD k=some t
    ·rw[iJ hc];by_cases h2:i<k+1∧o.dst=some t
     ·exfalso;obtain⟨ok,dv⟩:=X.fT (show k<X.N by omega);have hdk:ok.dst=some t:=by have:=hc.2;unfold eD at this;rw[dv]at this;exact this
      have Bz:=X.st.apart i k o ok omQ r.ho dv;rcases Bz with h |⟨h,_⟩
      ·rw[r.later hc.1]at h;cases h
      ·have:=Ki h t (by rw[JG];simp[h2.2]);rw[Nat.testBit_or,JG]at this;simp[hdk]at this
     ·rw[iQ h2,iJ hc]
    ·rw[iQ hc,iQ hc];by_cases h2:i<k∧o.dst=some t
     ·rw[iJ h2,iJ ⟨by omega,h2.2⟩]
     ·rw[iQ h2,iQ];rintro⟨h3,h4⟩;exact h2 ⟨by omega,h4⟩
 rw[key _ (Nat.le_refl _)];have:=kt r.ho;by_cases hd:o.dst=some t
 ·rw[iJ ⟨this,hd⟩,iJ hd]
 ·rw[iQ (λh=>hd h.2),iQ hd]
theorem qwi (hs:∀i,i<X.N→s i=true):∀k,k≤X.N→X.FS s k=X.F k:=by
 intro k
 induction k with
 |zero=>intro _;rfl
 |succ k ih=>
  intro hk;obtain⟨o,ho⟩:=X.fT (show k<X.N by omega)
  funext t
  simp only[FS];rw[ih omQ,(X.tr.step k o ho).2];have oN:X.eD k=o.dst:=by unfold eD;rw[ho];rfl
  unfold ma;rw[oN];by_cases hd:o.dst=some t
  ·rw[iJ ⟨hs k omQ,hd⟩,iJ hd]
  ·rw[iQ (λh=>hd h.2),iQ hd]
theorem qkS (hs:∀i,s i=false):∀k,X.FS s k=X.F 0:=by
 intro k
 induction k with
 |zero=>rfl
 |succ k ih=>funext t;simp only[FS];rw[hs k,ih];simp
end Cx
end Go.Ae
namespace Go.Ae
open Go
namespace Cx
variable {X:Cx} {s:Nat→Bool} {i q:Nat} {o:Oper} {a:Act} {w w':World} {m m':Mp} {C:AH}
structure Inv (X:Cx) (s:Nat→Bool) (q:Nat) (a:Act) (w:World) (m:Mp) (C:AH):Prop where
  qN:q≤X.N
  hq:q<X.N→X.bc q
  hs:∀i,X.bc i→(s i=true↔i<q)
  sN:∀i,s i=true→i<X.N
  down:∀i o,s i=true→X.ops[i]? =some o→∀e∈o.after,Kq e=true→s e.on=true
  rl:Rel0 X.P m (X.DS s) C w
  oP:X.nx X.N≤C.nx
  i1:∀b,X.DS s b→b<X.nx q→C.get b=(X.H q).get b
  i2:∀i,q≤i→s i=true→∀b,X.nx i≤b→b<X.nx (i+1)→C.get b=(X.H (i+1)).get b
  i3:∀i,i<q→s i=false→∀b,X.nx i≤b→b<X.nx (i+1)→(X.H q).get b=(X.H (i+1)).get b
  map:∀b,X.D0 b→m b=X.m0 b
  size:X.w0.heap.size≤w.heap.size
  keep:∀c,c<X.w0.heap.size→¬own X.m0 X.D0 (X.H 0) c→w.heap[c]? =X.w0.heap[c]? ∧¬own m (X.DS s) C c
  os:w.os=X.w0.os
  tape:w.tape=X.w0.tape
  output:w.output=X.w0.output
  sJ:X.n≤a.tmps.size
  slot:∀t v,X.FS s X.N t=some v→a.tmps[t]? =some (cv m v)∧bm (X.DS s) v
  df:a.defers=X.a0.defers
theorem qzb {P:Program} {m0 m:Mp} {D0 D:Nat→Prop} {h0 h:AH} {w0 w:World} (r:sk P m0 D0 h0 w0)
  (keep:∀c,c<w0.heap.size→¬own m0 D0 h0 c→w.heap[c]? =w0.heap[c]? ∧¬own m D h c):sk P m D h w:=λp hp=>by
 obtain⟨g,h1,h2,h3⟩:=r p hp;obtain⟨k1,k2⟩:=X8 (w':=w) h1 h2;obtain⟨e1,e2⟩:=keep g k1 h3;exact⟨g,h1,k2 e1,e2⟩
theorem Inv.rel (I:Inv X s q a w m C):Rel X.P m (X.DS s) C w:=⟨I.rl,qzb X.lP.gl I.keep⟩
theorem Qd {b:Nat} (h:X.D0 b):b<X.nx 0:=X.lP.lt b h
theorem iO {b:Nat}:X.DS (ins s i) b↔X.DS s b∨(X.nx i≤b∧b<X.nx (i+1)):=by
 unfold DS ins;constructor
 ·rintro(h |⟨j,hj,h⟩)
  ·exact .inl (.inl h)
  ·simp only[Bool.or_eq_true,beq_iff_eq]at hj;rcases hj with rfl |hj
   ·exact .inr h
   ·exact .inl (.inr ⟨j,hj,h⟩)
 ·rintro((h |⟨j,hj,h⟩) |h)
  ·exact .inl h
  ·exact .inr ⟨j,by simp[hj],h⟩
  ·exact .inr ⟨i,by simp,h⟩
theorem KH {b:Nat} (h:X.DS s b):X.DS (ins s i) b:=iO.2 (.inl h)
theorem Lp (sN:∀i,s i=true→i<X.N) {b:Nat} (h:X.DS s b):b<X.nx X.N:=by
 rcases h with h |⟨j,hj,_,h⟩
 ·exact Nat.lt_of_lt_of_le (Qd h) (dj (Nat.zero_le _) (Nat.le_refl _))
 ·exact Nat.lt_of_lt_of_le h (dj (sN j hj) (Nat.le_refl _))
theorem Lq (sN:∀i,s i=true→i<X.N) (hi:i<X.N) (un:s i=false) {b:Nat} (h1:X.nx i≤b) (h2:b<X.nx (i+1)):¬X.DS s b:=by
 rintro(h |⟨j,hj,h3,h4⟩)
 ·have:=Qd h;have:=dj (X:=X) (Nat.zero_le i) omQ;omega
 ·have:=sN j hj;rcases Nat.lt_trichotomy j i with au |rfl |E3
  ·have:=dj (X:=X) (show j+1≤i by omega) omQ;omega
  ·rw[un]at hj;cases hj
  ·have:=dj (X:=X) (show i+1≤j by omega) omQ;omega
theorem E4 (sN:∀i,s i=true→i<X.N) {b:Nat} (h:X.DS s b) (hb:b<X.nx q):Dg X.D0 X.H q b:=by
 rcases h with h |⟨j,hj,h3,h4⟩
 ·exact .inl h
 ·refine .inr ⟨?_,hb⟩;have:=dj (X:=X) (Nat.zero_le j) (Nat.le_of_lt (sN j hj));exact Nat.le_trans this h3
def DQ (X:Cx) (s:Nat→Bool) (q:Nat):Nat→Prop:=λb=>X.DS s b∧b<X.nx q
mutual
theorem KF {D D':Nat→Prop}:∀v:AV,bm D v→bm D' v→bm (λb=>D b∧D' b) v
 | .bool _,_,_=>trivial
 | .int _ _,_,_=>trivial
 | .str _,_,_=>trivial
 | .ptr b o,h,h'=>⟨h,h'⟩
 | .aO,_,_=>trivial
 | .slice b o l c p,h,h'=>⟨h,h'⟩
 | .ak,_,_=>trivial
 | .fn f a c,h,h'=>by simp only[bm]at*;exact⟨QZ a h.1 h'.1,QZ c h.2 h'.2⟩
 | .yield l,h,h'=>⟨h,h'⟩
 | .dC,_,_=>trivial
 | .iface t v,h,h'=>by simp only[bm]at*;exact KF v h h'
 | .cH,_,_=>trivial
 | .agg l,h,h'=>by simp only[bm]at*;exact QZ l h h'
 | .bM l,h,h'=>by simp only[bm]at*;exact QZ l h h'
 | .bT _,_,_=>trivial
 | .tail _ _ _ _,h,h'=>⟨h,h'⟩
 | .dN _,h,h'=>⟨h,h'⟩
theorem QZ {D D':Nat→Prop}:∀l:List AV,aW D l→aW D' l→aW (λb=>D b∧D' b) l
 |[],_,_=>trivial
 |a::r,h,h'=>by simp only[aW]at*;exact⟨KF a h.1 h'.1,QZ r h.2 h'.2⟩
end
theorem Zj {D D':Nat→Prop} {x:cy} (h:cq D x) (h':cq D' x):cq (λb=>D b∧D' b) x:=by
 cases x<;>simp only[cq]at* <;>first |exact QZ _ h h' |exact⟨QZ _ h.1 h'.1,h.2,h'.2⟩ |exact λi v hv=>KF v (h i v hv) (h' i v hv) |trivial
theorem Inv.rF (I:Inv X s q a w m C) {v:AV} (h1:bm (X.DS s) v) {j:Nat} (hj:j≤q) (h2:bm (Dg X.D0 X.H j) v):bm (DQ X s q) v:=by
 refine wN (λb hb=>?_) v (KF v h1 h2);obtain⟨fA,dS⟩:=hb;refine⟨fA,?_⟩;rcases dS with h |h
 ·exact Nat.lt_of_lt_of_le (Qd h) (dj (Nat.zero_le _) I.qN)
 ·exact Nat.lt_of_lt_of_le h.2 (dj hj I.qN)
theorem Inv.mD (I:Inv X s q a w m C):Rel X.P m (DQ X s q) (X.H q) w:=by
 refine⟨⟨?_,?_,?_,?_⟩,λp hp=>by
  obtain⟨g,h1,h2,h3⟩:=I.rel.gl p hp;refine⟨g,h1,h2,?_⟩;rintro⟨b,⟨hb,au⟩,hl,e⟩
  exact h3 ⟨b,hb,by unfold live at*;rw[I.i1 b hb au];exact hl,e⟩⟩
 ·rintro b ⟨hb,au⟩;obtain⟨x,hx,lH,n8⟩:=I.rel.bp b hb;rw[I.i1 b hb au]at hx;refine⟨x,hx,lH,?_⟩;obtain⟨y,hy,eU⟩:=(X.gh q I.qN).bp b (E4 I.sN hb au);rw[hx]at hy;cases hy;refine cq.mono (λb hb=>?_) (Zj n8 eU);refine⟨hb.1,?_⟩;rcases hb.2 with h |h
  ·exact Nat.lt_of_lt_of_le (Qd h) (dj (Nat.zero_le _) I.qN)
  ·exact h.2
 ·rintro b b' ⟨hb,au⟩ ⟨bB,tO⟩ hl dO e;refine I.rel.inj b b' hb bB ?_ ?_ e
  ·unfold live at*;rw[I.i1 b hb au];exact hl
  ·unfold live at*;rw[I.i1 b' bB tO];exact dO
 ·rintro b ⟨hb,au⟩;exact au
 ·rintro b t ⟨hb,au⟩ hg ⟨b',⟨bB,tO⟩,dO,he⟩;refine I.rel.cI b t hb (by rw[I.i1 b hb au];exact hg) ⟨b',bB,?_,he⟩;unfold live at*;rw[I.i1 b' bB tO];exact dO
theorem UJ:ins s i i=true:=by simp[ins]
theorem UM {j:Nat} (h:j≠i):ins s i j=s j:=by simp[ins,h]
theorem NM {j:Nat} (h:s j=true):ins s i j=true:=by simp[ins,h]
theorem Qn {j:Nat} (h:ins s i j=true):j=i∨s j=true:=by simpa[ins]using h
theorem Inv.rdy (I:Inv X s q a w m C) (ho:X.ops[i]? =some o) (un:s i=false) (mX:∀e∈o.after,Kq e=true→s e.on=true):dw X s i o:=⟨ho,un,mX,I.down,I.sN⟩
theorem dw.mY (r:dw X s i o):∀j o',ins s i j=true→X.ops[j]? =some o'→∀e∈o'.after,Kq e=true→ins s i e.on=true:=by
 intro j o' hj nE e he hb;rcases Qn hj with rfl |hj
 ·rw[r.ho]at nE;cases nE;exact NM (r.mX e he hb)
 ·exact NM (r.down j o' hj nE e he hb)
theorem dw.BA (r:dw X s i o):∀j,ins s i j=true→j<X.N:=by
 intro j hj;rcases Qn hj with rfl |hj
 ·exact kt r.ho
 ·exact r.sN j hj
theorem Inv.oQ (I:Inv X s q a w m C) (r:dw X s i o) {v:AV} (hv:X.V i=v) (hc:∀u,bm (X.DS s) u→cv m' u=cv m u) {z:Value} (hz:cv m' v=z) (hd:bm (X.DS (ins s i)) v) :
  X.n≤(a.put o.dst z).tmps.size∧(∀t u,X.FS (ins s i) X.N t=some u→(a.put o.dst z).tmps[t]? =some (cv m' u)∧bm (X.DS (ins s i)) u):=by
 subst hz;refine⟨?_,?_⟩
 ·cases o.dst with
  |none=>exact I.sJ
  |some d=>simp[Act.put];exact I.sJ
 ·intro t u hu;rw[r.write]at hu;by_cases BB:o.dst=some t
  ·rw[iJ BB]at hu;cases hu;rw[hv];refine⟨?_,hd⟩;have au:=Nat.lt_of_lt_of_le ((X.tr.step i o r.ho).1.dst t BB) I.sJ;rw[BB];simp[Act.put,Array.getElem?_setIfInBounds_self];exact au
  ·rw[iQ BB]at hu;obtain⟨h1,h2⟩:=I.slot t u hu;refine⟨?_,wN (λb hb=>KH hb) u h2⟩;rw[hc u h2];cases hod:o.dst with
   |none=>exact h1
   |some d=>have cS:d≠t:=λe=>BB (by rw[hod,e]);simp[Act.put,Array.getElem?_setIfInBounds_ne cS];exact h1
theorem Inv.pure (I : Inv X s q a w m C) (r : dw X s i o) (hh : ¬ X.bc i) (hH : X.H (i + 1) = X.H i) (E : Ext m (X.DS s) C w m' (X.DS s) C w') (R' : Rel X.P m' (X.DS s) C w') (hv : bm (X.DS s) (X.V i)) :
    Inv X (ins s i) q (a.put o.dst (cv m' (X.V i))) w' m' C:=by
  have hD:X.DS (ins s i)=X.DS s:=by
    funext b
    refine propext (iO.trans ⟨λh=>h.elim id λh=>?_,.inl⟩);unfold nx at h;rw[hH]at h;omega
  have iP:=I.oQ r rfl (m':=m') (λu hu=>E.cv hu) rfl (by rw[hD];exact hv);have u4:i≠q:=λe=>by subst e;exact hh (I.hq (kt r.ho))
  refine { qN := I.qN, hq := I.hq, hs := ?_, sN := r.BA, down := r.mY, rl := by rw [hD];exact R'.toRel0, oP := I.oP, i1 := by rw [hD];exact I.i1, i2 := ?_, i3 := ?_, map := ?_, size := Nat.le_trans I.size E.size, keep := ?_,
           os:=E.os.trans I.os,tape:=E.tape.trans I.tape,output:=E.output.trans I.output,sJ:=iP.1,slot:=iP.2,df:=by rw[g9];exact I.df }
  · intro j hj;rw[UM (λe=>hh (by rw[← e];exact hj))];exact I.hs j hj
  · intro j E5 hj b h1 h2;rcases Qn hj with rfl |hj
    · unfold nx at h1 h2;rw[hH]at h2;omega
    · exact I.i2 j E5 hj b h1 h2
  · intro j mc hj b h1 h2;refine I.i3 j mc ?_ b h1 h2;cases Bu:s j
    · rfl
    · rw[NM Bu]at hj;cases hj
  · intro b hb;rw[E.map b (.inl hb)];exact I.map b hb
  · intro c hc hn;obtain⟨k1,k2⟩:=I.keep c hc hn;obtain⟨k3,k4⟩:=E.keep c (Nat.lt_of_lt_of_le hc I.size) k2;rw[hD];exact⟨k3.trans k1,k4⟩
end Cx
end Go.Ae
namespace Go.Ae
open Go
namespace Cx
variable {X:Cx} {s:Nat→Bool} {i q:Nat} {o:Oper} {a:Act} {w w':World} {m m':Mp} {C:AH}
theorem BC {mk:Nat→AV} (h:uZ mk) {m m':Mp} {b b':Nat} (e:m b=m' b'):cv m (mk b)=cv m' (mk b'):=by
 rcases h with rfl |⟨l,k,o,rfl⟩
 ·simp only[cv,e]
 ·cases o<;>simp only[cv,e]
theorem qgN {mk:Nat→AV} (h:uZ mk) {D:Nat→Prop} {b:Nat}:bm D (mk b)↔D b:=by
 rcases h with rfl |⟨l,k,o,rfl⟩<;>rfl
theorem Inv.fresh (I:Inv X s q a w m C) (r:dw X s i o) (hh:¬X.bc i) {x:cy} {mk:Nat→AV} (Lr:uZ mk) (hV:X.V i=mk (X.nx i)) (hH:X.H (i+1)=(X.H i).new x) {m1:Mp} {D1:Nat→Prop}
  (E:Ext m (X.DS s) C w m1 D1 (C.new x) w') (R1:Rel X.P m1 D1 (C.new x) w') :
  ∃m' C',Inv X (ins s i) q (a.put o.dst (cv m1 (mk C.nx))) w' m' C':=by
 have hi:=kt r.ho;have u5:X.nx (i+1)=X.nx i+1:=by unfold nx;rw[hH];rfl
 have hCi:X.nx (i+1)≤C.nx:=Nat.le_trans (dj omQ (Nat.le_refl _)) I.oP;have hD:∀b,X.DS (ins s i) b↔X.DS s b∨b=X.nx i:=λb=>iO.trans ⟨λh=>h.imp id λh=>by omega,λh=>h.imp id λh=>by omega⟩;have oR:¬X.DS s (X.nx i):=Lq I.sN hi r.un (Nat.le_refl _) omQ;have au:∀b,X.DS s b→b<C.nx:=λb hb=>I.rel.lt b hb;have nF:∀b,D1 b↔X.DS s b∨b=C.nx:=λb=>(E.dm b).trans ⟨λh=>h.imp id λh=>by simp at h;omega,λh=>h.imp id λh=>by simp;omega⟩;have ly:∀b,X.DS s b→m1 b=m b:=E.map;obtain⟨m',rp⟩:∃m':Mp,m'=λb=>if b=X.nx i then m1 C.nx else m1 b:=⟨_,rfl⟩
 have u6:m' (X.nx i)=m1 C.nx:=by rw[rp];simp
 have tP:∀b,b≠X.nx i→m' b=m1 b:=λb hb=>by rw[rp];simp only[];rw[iQ hb]
 have fU:∀b,X.DS s b→m' b=m b:=λb hb=>by rw[tP b (λe=>oR (e▸hb)),ly b hb]
 have ey:∀b,b≠X.nx i→(C.put (X.nx i) x).get b=C.get b:=λb hb=>AH.bn C x (λe=>hb e.symm);have n7:(C.put (X.nx i) x).get (X.nx i)=some x:=AH.aQ C _ x;have mV:∀b,X.DS s b→(C.put (X.nx i) x).get b=C.get b:=λb hb=>ey b (λe=>oR (e▸hb));have tJ:∀b,X.DS s b→(C.new x).get b=C.get b:=λb hb=>AH.bJ C x (by have:=au b hb;omega);have nG:(C.new x).get C.nx=some x:=AH.br C x;have E6:(X.H (i+1)).get (X.nx i)=some x:=by rw[hH];exact AH.br _ _
 have n8:cq (X.DS s) x:=by
  obtain⟨y,hy,_,eU⟩:=R1.bp C.nx ((nF _).2 (.inr rfl));rw[nG]at hy;cases hy;obtain⟨z,hz,pW⟩:=(X.gh (i+1) hi).bp (X.nx i) (.inr ⟨dj (Nat.zero_le _) omQ,by show X.nx i<X.nx (i+1);omega⟩);rw[E6]at hz;cases hz;refine cq.mono (λb hb=>?_) (Zj eU pW);rcases(nF b).1 hb.1 with h |h
  ·exact h
  ·exfalso;rcases hb.2 with h' |h'
   ·have:=Qd h';have:=dj (X:=X) (Nat.zero_le (i+1)) omQ;omega
   ·have:b<X.nx (i+1):=h'.2;omega
 have dF:Nat→Nat:=λb=>if b=X.nx i then C.nx else b
 have eX:Rel0 X.P m' (X.DS (ins s i)) (C.put (X.nx i) x) w':=by
  refine⟨?_,?_,?_,?_⟩
  ·intro b hb;rcases(hD b).1 hb with hb |rfl
   ·obtain⟨y,hy,fI,eU⟩:=R1.bp b ((nF b).2 (.inl hb));obtain⟨z,hz,_,pW⟩:=I.rel.bp b hb;rw[tJ b hb,hz]at hy;cases hy;refine⟨_,(mV b hb).trans hz,?_,pW.mono λb hb=>KH hb⟩;rw[fU b hb,← ly b hb];exact fI.congr (D:=X.DS s) (λb hb=>by rw[fU b hb,ly b hb]) pW rfl
   ·obtain⟨y,hy,fI,eU⟩:=R1.bp C.nx ((nF _).2 (.inr rfl));rw[nG]at hy;cases hy;refine⟨x,n7,?_,n8.mono λb hb=>KH hb⟩;rw[u6];exact fI.congr (D:=X.DS s) (λb hb=>by rw[fU b hb,ly b hb]) n8 rfl
  ·intro b1 b2 h1 h2 l1 l2 he;rcases(hD b1).1 h1 with h1 |rfl<;>rcases(hD b2).1 h2 with h2 |rfl
   ·rw[fU b1 h1,fU b2 h2]at he;refine I.rel.inj b1 b2 h1 h2 ?_ ?_ he
    ·unfold live at*;rw[mV b1 h1]at l1;exact l1
    ·unfold live at*;rw[mV b2 h2]at l2;exact l2
   ·exfalso;rw[fU b1 h1,u6,← ly b1 h1]at he;have:=R1.inj b1 C.nx ((nF _).2 (.inl h1)) ((nF _).2 (.inr rfl)) (by unfold live at*;rw[tJ b1 h1,← mV b1 h1];exact l1) (by unfold live at*;rw[nG,← n7];exact l2) he;have:=au b1 h1;omega
   ·exfalso;rw[fU b2 h2,u6,← ly b2 h2]at he;have:=R1.inj C.nx b2 ((nF _).2 (.inr rfl)) ((nF _).2 (.inl h2)) (by unfold live at*;rw[nG,← n7];exact l1) (by unfold live at*;rw[tJ b2 h2,← mV b2 h2];exact l2) he;have:=au b2 h2;omega
   ·rfl
  ·intro b hb;rw[AH.tn];rcases(hD b).1 hb with hb |rfl
   ·exact au b hb
   ·omega
  ·rintro b t hb hg ⟨b',bB,dO,he⟩;have hA:∀b,X.DS (ins s i) b→∃a,D1 a∧m1 a=m' b∧(C.new x).get a=(C.put (X.nx i) x).get b:=by
    intro b hb;rcases(hD b).1 hb with hb |rfl
    ·exact⟨b,(nF b).2 (.inl hb),by rw[fU b hb,ly b hb],by rw[tJ b hb,mV b hb]⟩
    ·exact⟨C.nx,(nF _).2 (.inr rfl),u6.symm,by rw[nG,n7]⟩
   obtain⟨a1,h1,h2,h3⟩:=hA b hb;obtain⟨a2,k1,k2,k3⟩:=hA b' bB;refine R1.cI a1 t h1 (h3.trans hg) ⟨a2,k1,?_,by rw[k2,h2];exact he⟩;unfold live at*;rw[k3];exact dO
 have hval:cv m' (X.V i)=cv m1 (mk C.nx):=by rw[hV];exact BC Lr u6
 have iP:=I.oQ r rfl (m':=m') (z:=cv m1 (mk C.nx)) (λu hu=>wh fU u hu) hval (by rw[hV];exact(qgN Lr).2 ((hD _).2 (.inr rfl)));have u4:i≠q:=λe=>by subst e;exact hh (I.hq hi)
 refine⟨m',C.put (X.nx i) x,{ qN:=I.qN,hq:=I.hq,hs:=?_,sN:=r.BA,down:=r.mY,rl:=eX,oP:=I.oP,i1:=?_,i2:=?_,i3:=?_,map:=?_,size:=Nat.le_trans I.size E.size,keep:=?_,os:=E.os.trans I.os,tape:=E.tape.trans I.tape,output:=E.output.trans I.output,sJ:=iP.1,slot:=iP.2,df:=by rw[g9];exact I.df }⟩
 ·intro j hj;rw[UM (λe=>hh (by rw[← e];exact hj))];exact I.hs j hj
 ·intro b hb sK;rcases(hD b).1 hb with hb |rfl
  ·rw[mV b hb];exact I.i1 b hb sK
  ·rw[n7];have hlq:i<q:=by
    rcases Nat.lt_or_ge i q with h |h
    ·exact h
    ·have:=dj (X:=X) h omQ;omega
   rw[I.i3 i hlq r.un _ (Nat.le_refl _) omQ,E6]
 ·intro j E5 hj b h1 h2;rcases Qn hj with rfl |hj
  ·obtain rfl:b=X.nx j:=by omega
   rw[n7,E6]
  ·rw[ey b,I.i2 j E5 hj b h1 h2];rintro rfl;exact oR (.inr ⟨j,hj,h1,h2⟩)
 ·intro j mc hj b h1 h2;refine I.i3 j mc ?_ b h1 h2;cases Bu:s j
  ·rfl
  ·rw[NM Bu]at hj;cases hj
 ·intro b hb;rw[fU b (.inl hb)];exact I.map b hb
 ·intro c hc hn;obtain⟨k1,k2⟩:=I.keep c hc hn;obtain⟨k3,k4⟩:=E.keep c (Nat.lt_of_lt_of_le hc I.size) k2;refine⟨k3.trans k1,?_⟩;rintro⟨b,hb,hl,he⟩;rcases(hD b).1 hb with hb |rfl
  ·refine k2 ⟨b,hb,?_,by rw[← fU b hb];exact he⟩;unfold live at*;rw[mV b hb]at hl;exact hl
  ·refine k4 ⟨C.nx,(nF _).2 (.inr rfl),?_,by rw[← u6];exact he⟩;unfold live at*;rw[nG,← n7];exact hl
theorem qq0 (f:Nat→Option cy) (T:Nat):∀N,∃h:AH,h.nx=T∧(∀b,b<N→h.get b=f b)∧∀b,N≤b→h.get b=none:=by
 intro N
 induction N with
 |zero=>exact⟨⟨T,[],.e⟩,rfl,λb hb=>by omega,λb _=>aJ.eo b⟩
 |succ N ih=>
  obtain⟨h,h1,h2,h3⟩:=ih;cases hf:f N with
  |some x=>
   refine⟨h.put N x,h1,λb hb=>?_,λb hb=>?_⟩
   ·by_cases e:b=N
    ·subst e;rw[AH.aQ,hf]
    ·rw[AH.bn h x (λee=>e ee.symm)];exact h2 b omQ
   ·rw[AH.bn h x omQ];exact h3 b omQ
  |none=>
   refine⟨h,h1,λb hb=>?_,λb hb=>h3 b omQ⟩;by_cases e:b=N
   ·subst e;rw[hf];exact h3 b (Nat.le_refl _)
   ·exact h2 b omQ
theorem mZ (f:Nat→Option cy) (T N:Nat):∃h:AH,h.nx=T∧∀b,b<N→h.get b=f b:=by obtain⟨h,h1,h2,_⟩:=qq0 f T N;exact⟨h,h1,h2⟩
theorem mE (X:Cx) {q:Nat} (hq:q<X.N):∃q',q<q'∧q'≤X.N∧(q'<X.N→X.bc q')∧∀k,q<k→k<q'→¬X.bc k:=by
 have key:∀d q0,q<q0→q0+d=X.N→(∀k,q<k→k<q0→¬X.bc k)→∃q',q<q'∧q'≤X.N∧(q'<X.N→X.bc q')∧∀k,q<k→k<q'→¬X.bc k:=by
  intro d
  induction d with
  |zero=>intro q0 h1 h2 h3;exact⟨q0,h1,by omega,λh=>by omega,h3⟩
  |succ d ih=>
   intro q0 h1 h2 h3;by_cases hh:X.bc q0
   ·exact⟨q0,h1,by omega,λ_=>hh,h3⟩
   ·refine ih (q0+1) omQ omQ ?_;intro k iR iq;by_cases e:k=q0
    ·subst e;exact hh
    ·exact h3 k iR omQ
 exact key (X.N-(q+1)) (q+1) omQ omQ (λk h1 h2=>by omega)
end Cx
end Go.Ae
namespace Go.Ae
open Go
namespace Cx
variable {X:Cx} {s:Nat→Bool} {i q:Nat} {o:Oper} {a:Act} {w w':World} {m m':Mp} {C:AH}
theorem Inv.dD (I:Inv X s q a w m C) (r:dw X s q o) {m1:Mp} {D1:Nat→Prop} (E:Ext m (DQ X s q) (X.H q) w m1 D1 (X.H (q+1)) w') (R1:Rel X.P m1 D1 (X.H (q+1)) w') (hv:bm D1 (X.V q)) :
  ∃q' m' C',Inv X (ins s q) q' (a.put o.dst (cv m1 (X.V q))) w' m' C':=by
 have hq:=kt r.ho;obtain⟨q',hqq,tQ,hqh,Lt⟩:=X.mE hq;have cC:∀k,q+1≤k→k<q'→¬(X.bc k∧X.W k=true):=λk h1 h2 h=>Lt k omQ h2 h.1;have hnq:X.nx q≤X.nx (q+1):=dj omQ omQ;have hCq:X.nx (q+1)≤C.nx:=Nat.le_trans (dj omQ (Nat.le_refl _)) I.oP;have nF:∀b,D1 b↔DQ X s q b∨(X.nx q≤b∧b<X.nx (q+1)):=E.dm;have E7:∀b,X.DS s b→b<X.nx q∨(X.nx (q+1)≤b∧∃j,q<j∧s j=true∧X.nx j≤b∧b<X.nx (j+1)):=by
  rintro b (h |⟨j,hj,h1,h2⟩)
  ·exact .inl (Nat.lt_of_lt_of_le (Qd h) (dj (Nat.zero_le _) I.qN))
  ·have Dt:=I.sN j hj;rcases Nat.lt_trichotomy j q with au |rfl |E3
   ·have:=dj (X:=X) (show j+1≤q by omega) I.qN;exact .inl omQ
   ·rw[r.un]at hj;cases hj
   ·have:=dj (X:=X) (show q+1≤j by omega) omQ;exact .inr ⟨by omega,j,E3,hj,h1,h2⟩
 have Lu:∀b,X.DS (ins s q) b↔X.DS s b∨(X.nx q≤b∧b<X.nx (q+1)):=λb=>iO;have fV:∀b,b<X.nx (q+1)→(X.DS (ins s q) b↔D1 b):=by
  intro b hb;rw[Lu,nF];constructor
  ·rintro(h |h)
   ·rcases E7 b h with h' |⟨h',_⟩
    ·exact .inl ⟨h,h'⟩
    ·omega
   ·exact .inr h
  ·rintro(h |h)
   ·exact .inl h.1
   ·exact .inr h
 have eE:∀b,X.nx (q+1)≤b→X.DS (ins s q) b→X.DS s b:=λb hb h=>((Lu b).1 h).elim id λh=>by omega
 have na:∀b,D1 b→b<X.nx (q+1):=R1.lt;obtain⟨m',rp⟩:∃m':Mp,m'=λb=>if b<X.nx (q+1)then m1 b else m b:=⟨_,rfl⟩
 have mf:∀b,b<X.nx (q+1)→m' b=m1 b:=λb hb=>by rw[rp];simp only[];rw[iJ hb]
 have E8:∀b,X.nx (q+1)≤b→m' b=m b:=λb hb=>by rw[rp];simp only[];rw[iQ omQ]
 have fU:∀b,X.DS s b→m' b=m b:=by
  intro b hb;rcases E7 b hb with h |⟨h,_⟩
  ·rw[mf b omQ];exact E.map b ⟨hb,h⟩
  ·exact E8 b h
 obtain⟨C',Lv,Lw⟩:=mZ (λb=>if b<X.nx (q+1)then(X.H (q+1)).get b else C.get b) C.nx C.nx;have rG:∀b,b<X.nx (q+1)→C'.get b=(X.H (q+1)).get b:=λb hb=>by rw[Lw b omQ,iJ hb]
 have pX:∀b,X.nx (q+1)≤b→b<C.nx→C'.get b=C.get b:=λb hb au=>by rw[Lw b au,iQ omQ]
 have iS:∀b,X.DS s b→b<C.nx:=I.rel.lt;have BD:∀c,own m (DQ X s q) (X.H q) c→own m (X.DS s) C c:=by rintro c ⟨b,hb,hl,he⟩;exact⟨b,hb.1,by unfold live at*;rw[I.i1 b hb.1 hb.2];exact hl,he⟩
 have sL:∀b,X.DS s b→X.nx (q+1)≤b→live C b→(m b).1<w.heap.size∧¬own m (DQ X s q) (X.H q) (m b).1:=by intro b hb iu hl;refine⟨I.rel.inside hb hl,?_⟩;rintro⟨b2,dS,lq,he⟩;have:=I.rel.inj b2 b dS.1 hb (by unfold live at*;rw[I.i1 b2 dS.1 dS.2];exact lq) hl he;have:=dS.2;omega
 have oS:∀b t,X.DS s b→C.get b=some (.cI t)→(m b).1<w.heap.size∧¬own m (DQ X s q) (X.H q) (m b).1:=by intro b t hb hg;obtain⟨y,hy,fI,_⟩:=I.rel.bp b hb;rw[hg]at hy;cases hy;exact⟨fI.fG,λh=>I.rel.cI b t hb hg (BD _ h)⟩
 have eX:Rel0 X.P m' (X.DS (ins s q)) C' w':=by
  refine⟨?_,?_,?_,?_⟩
  ·intro b hb;by_cases au:b<X.nx (q+1)
   ·obtain⟨y,hy,fI,eU⟩:=R1.bp b ((fV b au).1 hb);refine⟨y,(rG b au).trans hy,?_,eU.mono λb hb=>(fV b (na b hb)).2 hb⟩;rw[mf b au];exact fI.congr (D:=D1) (λb hb=>mf b (na b hb)) eU rfl
   ·have iu:X.nx (q+1)≤b:=by omega
    have nH:=eE b iu hb;obtain⟨z,hz,Lx,pW⟩:=I.rel.bp b nH;refine⟨z,(pX b iu (iS b nH)).trans hz,?_,pW.mono λb hb=>KH hb⟩;rw[E8 b iu];by_cases sr:z.live
    ·obtain⟨f1,f2⟩:=sL b nH iu ⟨z,hz,sr⟩;exact Lx.congr (D:=X.DS s) fU pW (E.keep _ f1 f2).1
    ·cases z<;>first |trivial |exact absurd trivial sr |skip
     obtain⟨f1,f2⟩:=oS b _ nH hz;exact Lx.congr (D:=X.DS s) fU pW (E.keep _ f1 f2).1
  ·intro b1 b2 h1 h2 l1 l2 he;have mixed:∀b1 b2,X.DS (ins s q) b1→X.DS (ins s q) b2→live C' b1→live C' b2→(m' b1).1=(m' b2).1→b1<X.nx (q+1)→X.nx (q+1)≤b2→False:=by
    intro b1 b2 h1 h2 l1 l2 he au iu;have Du:=eE b2 iu h2;have lq:live C b2:=by unfold live at*;rw[← pX b2 iu (iS b2 Du)];exact l2
    obtain⟨f1,f2⟩:=sL b2 Du iu lq;refine(E.keep _ f1 f2).2 ⟨b1,(fV b1 au).1 h1,?_,?_⟩
    ·unfold live at*;rw[← rG b1 au];exact l1
    ·rw[← mf b1 au,← E8 b2 iu];exact he
   by_cases g1:b1<X.nx (q+1)<;>by_cases g2:b2<X.nx (q+1)
   ·rw[mf b1 g1,mf b2 g2]at he;exact R1.inj b1 b2 ((fV b1 g1).1 h1) ((fV b2 g2).1 h2) (by unfold live at*;rw[← rG b1 g1];exact l1) (by unfold live at*;rw[← rG b2 g2];exact l2) he
   ·exact(mixed b1 b2 h1 h2 l1 l2 he g1 omQ).elim
   ·exact(mixed b2 b1 h2 h1 l2 l1 he.symm g2 omQ).elim
   ·have s1:=eE b1 omQ h1;have s2:=eE b2 omQ h2;rw[fU b1 s1,fU b2 s2]at he;exact I.rel.inj b1 b2 s1 s2 (by unfold live at*;rw[← pX b1 omQ (iS b1 s1)];exact l1) (by unfold live at*;rw[← pX b2 omQ (iS b2 s2)];exact l2) he
  ·intro b hb;rw[Lv];exact Nat.lt_of_lt_of_le (Lp r.BA hb) I.oP
  ·rintro b1 t h1 hg ⟨b2,h2,l2,he⟩;by_cases g1:b1<X.nx (q+1)
   ·rw[rG b1 g1]at hg;obtain⟨n1,n2⟩:=E.ni b1 t ((fV b1 g1).1 h1) hg;by_cases g2:b2<X.nx (q+1)
    ·rw[mf b1 g1,mf b2 g2]at he;exact R1.cI b1 t ((fV b1 g1).1 h1) hg ⟨b2,(fV b2 g2).1 h2,by unfold live at*;rw[← rG b2 g2];exact l2,he⟩
    ·have s2:=eE b2 omQ h2;have EJ:C.get b1=some (.cI t):=by rw[I.i1 b1 n1.1 n1.2];exact n2
     rw[fU b1 n1.1,fU b2 s2]at he;exact I.rel.cI b1 t n1.1 EJ ⟨b2,s2,by unfold live at*;rw[← pX b2 omQ (iS b2 s2)];exact l2,he⟩
   ·have s1:=eE b1 omQ h1;rw[pX b1 omQ (iS b1 s1)]at hg;rw[fU b1 s1]at he;by_cases g2:b2<X.nx (q+1)
    ·obtain⟨f1,f2⟩:=oS b1 t s1 hg;refine(E.keep _ f1 f2).2 ⟨b2,(fV b2 g2).1 h2,by unfold live at*;rw[← rG b2 g2];exact l2,?_⟩;rw[← mf b2 g2];exact he
    ·have s2:=eE b2 omQ h2;rw[fU b2 s2]at he;exact I.rel.cI b1 t s1 hg ⟨b2,s2,by unfold live at*;rw[← pX b2 omQ (iS b2 s2)];exact l2,he⟩
 have hval:cv m' (X.V q)=cv m1 (X.V q):=wh (λb hb=>mf b (na b hb)) _ hv;have iP:=I.oQ r rfl (m':=m') (z:=cv m1 (X.V q)) (λu hu=>wh fU u hu) hval (wN (λb hb=>(fV b (na b hb)).2 hb) _ hv);refine⟨q',m',C',{ qN:=tQ,hq:=hqh,hs:=?_,sN:=r.BA,down:=r.mY,rl:=eX,oP:=by rw[Lv];exact I.oP,i1:=?_,i2:=?_,i3:=?_,map:=?_,size:=Nat.le_trans I.size E.size,keep:=?_,os:=E.os.trans I.os,tape:=E.tape.trans I.tape,output:=E.output.trans I.output,sJ:=iP.1,slot:=iP.2,df:=by rw[g9];exact I.df }⟩
 ·intro j hj;by_cases mc:j=q
  ·subst mc;exact⟨λ_=>hqq,λ_=>UJ⟩
  ·rw[UM mc,I.hs j hj];constructor
   ·intro h;omega
   ·intro h;rcases Nat.lt_or_ge j q with h' |h'
    ·exact h'
    ·exact absurd hj (Lt j omQ h)
 ·intro b hb sK;by_cases au:b<X.nx (q+1)
  ·rw[rG b au,yw omQ tQ cC b au]
  ·have iu:X.nx (q+1)≤b:=by omega
   have nH:=eE b iu hb;rcases E7 b nH with h |⟨_,j,hj1,Ly,hj3,Lz⟩
   ·omega
   ·rw[pX b iu (iS b nH),I.i2 j omQ Ly b hj3 Lz];have Dt:=I.sN j Ly;have mc:j<q':=by
     rcases Nat.lt_or_ge j q' with h |h
     ·exact h
     ·have:=dj (X:=X) h omQ;omega
    rw[yw (X:=X) (show j+1≤q' by omega) tQ (λk h1 h2=>cC k omQ h2) b Lz]
 ·intro j mc hj b h1 h2;rcases Qn hj with rfl |hj
  ·omega
  ·have Dt:=I.sN j hj;have h3:=dj (X:=X) (show q+1≤j by omega) omQ;have h4:=dj (X:=X) (show j+1≤X.N by omega) (Nat.le_refl _);have h5:=I.oP;rw[pX b omQ omQ,I.i2 j omQ hj b h1 h2]
 ·intro j mc hj b h1 h2;have BE:j≠q:=λe=>by subst e;rw[UJ]at hj;cases hj
  rw[UM BE]at hj;rcases Nat.lt_or_gt_of_ne BE with au |E3
  ·have h3:=dj (X:=X) (show j+1≤q by omega) I.qN;rw[yw (X:=X) (show q+1≤q' by omega) tQ cC b omQ];rw[(E.un b (show b<X.nx q by omega) (λh=>Lq I.sN omQ hj h1 h2 h.1)).1];exact I.i3 j au hj b h1 h2
  ·exact yw (X:=X) (show j+1≤q' by omega) tQ (λk g1 g2=>cC k omQ g2) b h2
 ·intro b hb;rw[fU b (.inl hb)];exact I.map b hb
 ·intro c hc hn;obtain⟨k1,k2⟩:=I.keep c hc hn;obtain⟨k3,k4⟩:=E.keep c (Nat.lt_of_lt_of_le hc I.size) (λh=>k2 (BD c h));refine⟨k3.trans k1,?_⟩;rintro⟨b,hb,hl,he⟩;by_cases au:b<X.nx (q+1)
  ·exact k4 ⟨b,(fV b au).1 hb,by unfold live at*;rw[← rG b au];exact hl,by rw[← mf b au];exact he⟩
  ·have nH:=eE b omQ hb;exact k2 ⟨b,nH,by unfold live at*;rw[← pX b omQ (iS b nH)];exact hl,by rw[← fU b nH];exact he⟩
end Cx
end Go.Ae
namespace Go.Ae
open Go
namespace Cx
variable {X:Cx} {s:Nat→Bool} {i q:Nat} {o:Oper} {a:Act} {w w':World} {m m':Mp} {C:AH}
theorem LA (p:Nat→Prop):∀hi lo,(∀k,lo≤k→k<hi→¬p k)∨∃k,lo≤k∧k<hi∧p k∧∀j,k<j→j<hi→¬p j:=by
 intro hi
 induction hi with
 |zero=>intro lo;exact .inl λk h1 h2=>by omega
 |succ hi ih=>
  intro lo;by_cases h:p hi∧lo≤hi
  ·exact .inr ⟨hi,h.2,by omega,h.1,λj h1 h2=>by omega⟩
  ·rcases ih lo with h1 |⟨k,k1,k2,k3,k4⟩
   ·refine .inl λk h2 h3 hp=>?_;by_cases e:k=hi
    ·subst e;exact h ⟨hp,h2⟩
    ·exact h1 k h2 omQ hp
   ·refine .inr ⟨k,k1,by omega,k3,λj h2 h3 hp=>?_⟩;by_cases e:j=hi
    ·subst e;exact h ⟨hp,by omega⟩
    ·exact k4 j h2 omQ hp
theorem K8 (p:Nat→Prop):∀d lo,(∀k,lo≤k→k<lo+d→¬p k)∨∃k,lo≤k∧k<lo+d∧p k∧∀j,lo≤j→j<k→¬p j:=by
 intro d
 induction d with
 |zero=>intro lo;exact .inl λk h1 h2=>by omega
 |succ d ih=>
  intro lo;rcases ih lo with h1 |⟨k,k1,k2,k3,k4⟩
  ·by_cases h:p (lo+d)
   ·exact .inr ⟨lo+d,by omega,by omega,h,λj h2 h3=>h1 j h2 h3⟩
   ·refine .inl λk h2 h3 hp=>?_;by_cases e:k=lo+d
    ·subst e;exact h hp
    ·exact h1 k h2 omQ hp
  ·exact .inr ⟨k,k1,by omega,k3,k4⟩
theorem Inv.lR (I:Inv X s q a w m C) (r:dw X s i o) (hh:X.bc i):i=q:=by
 have iu:q≤i:=by
  rcases Nat.lt_or_ge i q with h |h
  ·have:=(I.hs i hh).2 h;rw[r.un]at this;cases this
  ·exact h
 rcases Nat.lt_or_ge q i with h |h
 ·exfalso;have hi:=kt r.ho;obtain⟨oq,LB,LC⟩:=I.hq omQ;obtain⟨oi,iC,iM⟩:=hh;have dQ:∀x y,ins s i x=true→(zL X.M x).testBit y=true→ins s i y=true:=λx y=>XZ r.mY r.BA x y;have:=X.st.chain (λx=>ins s i x=true) dQ q i oq oi h LB iC LC iM UJ;rw[UM omQ]at this;have:=(I.hs q ⟨oq,LB,LC⟩).1 this;omega
 ·omega
def hv (X:Cx) (k:Nat):Prop:=X.bc k∧X.W k=true
theorem Inv.fW (I:Inv X s q a w m C) (u4:i≤q) (hn:∀k,i≤k→k<q→¬X.hv k):∀b,X.DS s b→b<X.nx i→C.get b=(X.H i).get b:=by intro b hb au;have:=dj (X:=X) u4 I.qN;rw[I.i1 b hb omQ,yw u4 I.qN hn b au]
theorem Inv.lS (I:Inv X s q a w m C) (u4:q≤i) (hi:i≤X.N) (hn:∀k,q≤k→k<i→¬X.hv k):∀b,X.DS s b→b<X.nx i→C.get b=(X.H i).get b:=by
 intro b hb au;by_cases sK:b<X.nx q
 ·rw[I.i1 b hb sK,yw u4 hi hn b sK]
 ·rcases hb with hb |⟨j,hj,h1,h2⟩
  ·have:=Qd hb;have:=dj (X:=X) (Nat.zero_le q) I.qN;omega
  ·have Dt:=I.sN j hj;have mc:q≤j:=by
    rcases Nat.lt_or_ge j q with h |h
    ·have:=dj (X:=X) (show j+1≤q by omega) I.qN;omega
    ·exact h
   have E0:j<i:=by
    rcases Nat.lt_or_ge j i with h |h
    ·exact h
    ·have:=dj (X:=X) h omQ;omega
   rw[I.i2 j mc hj b h1 h2,yw (X:=X) (show j+1≤i by omega) hi (λk g1 g2=>hn k omQ g2) b h2]
theorem dw.fX (I:Inv X s q a w m C) (r:dw X s i o) {k:Nat} (h1:i<k) (h2:k<q) (hk:X.bc k):gi X.M i k=true:=by
 have mC:=(I.hs k hk).2 h2;obtain⟨ok,dv,_⟩:=hk;have a1:(zL X.M i).testBit k=false:=by
  cases h:(zL X.M i).testBit k
  ·rfl
  ·have:=Lo r.ho h;omega
 have a2:=r.later mC;simp[gi,a1,a2]
theorem dw.eG (I:Inv X s q a w m C) (r:dw X s i o) {k:Nat} (h1:q≤k) (h2:k<i) (hk:X.bc k):gi X.M i k=true:=by
 have mC:s k=false:=by
  cases h:s k
  ·rfl
  ·have:=(I.hs k hk).1 h;omega
 obtain⟨ok,dv,_⟩:=hk;have a1:(zL X.M i).testBit k=false:=by
  cases h:(zL X.M i).testBit k
  ·rfl
  ·have:=r.nD h;rw[mC]at this;cases this
 have a2:(zL X.M k).testBit i=false:=by
  cases h:(zL X.M k).testBit i
  ·rfl
  ·have:=Lo dv h;omega
 simp[gi,a1,a2]
theorem Xr {a:AV} {n:Option Nat} {v:AV} {h g:AH} (e:∀b off,a=.ptr b off→g.get b=h.get b) (e2:∀b off l i,a=.slice b off l i true→g.get b=h.get b) (hl:zp a n v h=true):zp a n v g=true:=by
 cases a<;>first |exact hl |skip
 ·rename_i b off;unfold zp at*;simp only[e b off rfl];exact hl
 ·rename_i b off l i o;cases o
  ·exact hl
  ·unfold zp at*;cases n with
   |none=>exact hl
   |some m=>simp only[yE]at*;rw[e2 b off l i rfl];exact hl
theorem Inv.load (I:Inv X s q a w m C) (r:dw X s i o) (hl:Ku o.op=true) (hw:X.W i=true) (hD:∀x v,dT (X.F i) x=some v→x∈o.op.operands→bm (X.DS s) v∧bm (Dg X.D0 X.H i) v) :
  ch X.P X.c o.op (dT (X.F i)) C=some (X.V i,C)∧X.H (i+1)=X.H i:=by
 have hi:=kt r.ho;have hs:=(X.tr.step i o r.ho).1.yes hw;obtain⟨t,x,tN⟩:=XA hl;rw[tN]at hs ⊢;obtain⟨e1,b,off,hx,g1,g2⟩:=U4 hs;refine⟨?_,e1⟩;obtain⟨d1,d2⟩:=hD x _ hx (by rw[tN];simp[Op.operands]);have nI:X.DS s b:=d1;have tS:b<X.nx i:=by
  rcases(show Dg X.D0 X.H i b from d2)with h |h
  ·exact Nat.lt_of_lt_of_le (Qd h) (dj (Nat.zero_le _) omQ)
  ·exact h.2
 have E9:¬X.bc i:=by rintro⟨o',nE,hh⟩;rw[r.ho]at nE;cases nE;rw[tN]at hh;cases hh
 have dG:∀k,X.hv k→gi X.M i k=true→zp (.ptr b off) (gk X.P o.op) (X.V i) (X.H k)=true∧zp (.ptr b off) (gk X.P o.op) (X.V i) (X.H (k+1))=true∧b<X.nx 0:=by
  rintro k ⟨⟨ok,dv,BF⟩,BG⟩ dn;obtain⟨z,hz,h1⟩:=X.Bx i k o ok r.ho dv (by unfold yo;rw[hl];rfl) BF hw BG dn;have:z=.ptr b off:=by rw[tN]at hz;have hz:dT (X.F i) x=some z:=hz;rw[hx]at hz;cases hz;rfl
  subst this;simp only[pS,Bool.and_eq_true]at h1;exact⟨h1.1,h1.2.1,jh h1.2.2⟩
 have fin:∀k,k≤X.N→zp (.ptr b off) (gk X.P o.op) (X.V i) (X.H k)=true→C.get b=(X.H k).get b→ch X.P X.c (.load t x) (dT (X.F i)) C=some (X.V i,C):=by intro k _ h1 h2;refine g2 C ?_;rw[tN]at h1;exact Xr (λb' nm e=>by cases e;exact h2) (λ_ _ _ _ e=>by cases e) h1
 rcases Nat.lt_or_ge i q with h |h
 ·rcases LA X.hv q i with dy |⟨k,k1,k2,k3,k4⟩
  ·exact g1 C (I.fW omQ dy b nI tS)
  ·have n9:k≠i:=λe=>E9 (e▸k3.1);obtain⟨l1,l2,l3⟩:=dG k k3 (dw.fX I r omQ k2 k3.1);have z1:=dj (X:=X) (Nat.zero_le q) I.qN;have z2:=dj (X:=X) (Nat.zero_le (k+1)) (by have:=I.qN;omega);refine fin (k+1) (by have:=I.qN;omega) l2 ?_;rw[I.i1 b nI omQ,yw (X:=X) (show k+1≤q by omega) I.qN (λj h1 h2=>k4 j omQ h2) b omQ]
 ·have hqi:q<i∨q=i:=by omega
  rcases K8 X.hv (i-q) q with dy |⟨k,k1,k2,k3,k4⟩
  ·exact g1 C (I.lS h omQ (λk h1 h2=>dy k h1 omQ) b nI tS)
  ·obtain⟨l1,l2,l3⟩:=dG k k3 (dw.eG I r k1 omQ k3.1);have z1:=dj (X:=X) (Nat.zero_le q) I.qN;refine fin k omQ l1 ?_;rw[I.i1 b nI omQ,yw (X:=X) k1 omQ k4 b omQ]
theorem Inv.cut (I:Inv X s q a w m C) (r:dw X s i o) (hl:QJ X.P o.op=true) (hh:¬X.bc i) (hw:X.W i=true) (hD:∀x v,dT (X.F i) x=some v→x∈o.op.operands→bm (X.DS s) v∧bm (Dg X.D0 X.H i) v) :
  ch X.P X.c o.op (dT (X.F i)) C=some (X.V i,C)∧X.H (i+1)=X.H i:=by
 have hi:=kt r.ho;have hs:=(X.tr.step i o r.ho).1.yes hw;obtain⟨e1,x,hx,u,hu,AT,g1,g2⟩:=M6 hl hs;refine⟨?_,e1⟩;by_cases lI:∃b off l k,u=.slice b off l k true
 rotate_left
 ·exact g1 C λb off l k e=>absurd ⟨b,off,l,k,e⟩ lI
 obtain⟨b,off,l,k0,rfl⟩:=lI;obtain⟨d1,d2⟩:=hD x _ hu hx;have nI:X.DS s b:=d1;have tS:b<X.nx i:=by
  rcases(show Dg X.D0 X.H i b from d2)with h |h
  ·exact Nat.lt_of_lt_of_le (Qd h) (dj (Nat.zero_le _) omQ)
  ·exact h.2
 have dG:∀k,X.hv k→gi X.M i k=true→zp (.slice b off l k0 true) (gk X.P o.op) (X.V i) (X.H k)=true∧zp (.slice b off l k0 true) (gk X.P o.op) (X.V i) (X.H (k+1))=true∧b<X.nx 0:=by
  rintro k ⟨⟨ok,dv,BF⟩,BG⟩ dn;obtain⟨z,hz,h1⟩:=X.Bx i k o ok r.ho dv (by unfold yo;rw[hl,Bool.true_or,Bool.or_true]) BF hw BG dn;rw[AT]at hz;cases hz;unfold pS at h1
  split at h1
  ·rename_i hv;rw[hv]at hs;exact(qX4 hl hs).elim
  ·simp only[Bool.and_eq_true]at h1;exact⟨h1.1,h1.2.1,jh h1.2.2⟩
 have fin:∀k,k≤X.N→zp (.slice b off l k0 true) (gk X.P o.op) (X.V i) (X.H k)=true→C.get b=(X.H k).get b→ch X.P X.c o.op (dT (X.F i)) C=some (X.V i,C):=by intro k _ h1 h2;exact g2 C (Xr (λ_ _ e=>by cases e) (λb' nm l' k' e=>by cases e;exact h2) h1)
 rcases Nat.lt_or_ge i q with h |h
 ·rcases LA X.hv q i with dy |⟨k,k1,k2,k3,k4⟩
  ·exact g1 C λb' nm l' k' e=>by cases e;exact I.fW omQ dy b nI tS
  ·have n9:k≠i:=λe=>hh (e▸k3.1);obtain⟨l1,l2,l3⟩:=dG k k3 (dw.fX I r omQ k2 k3.1);have z1:=dj (X:=X) (Nat.zero_le q) I.qN;have z2:=dj (X:=X) (Nat.zero_le (k+1)) (by have:=I.qN;omega);refine fin (k+1) (by have:=I.qN;omega) l2 ?_;rw[I.i1 b nI omQ,yw (X:=X) (show k+1≤q by omega) I.qN (λj h1 h2=>k4 j omQ h2) b omQ]
 ·rcases K8 X.hv (i-q) q with dy |⟨k,k1,k2,k3,k4⟩
  ·exact g1 C λb' nm l' k' e=>by cases e;exact I.lS h omQ (λk h1 h2=>dy k h1 omQ) b nI tS
  ·obtain⟨l1,l2,l3⟩:=dG k k3 (dw.eG I r k1 omQ k3.1);have z1:=dj (X:=X) (Nat.zero_le q) I.qN;refine fin k omQ l1 ?_;rw[I.i1 b nI omQ,yw (X:=X) k1 omQ k4 b omQ]
theorem Inv.conv (I:Inv X s q a w m C) (r:dw X s i o) (hl:wW X.P o.op=true) (hw:X.W i=true) (hD:∀x v,dT (X.F i) x=some v→x∈o.op.operands→bm (X.DS s) v∧bm (Dg X.D0 X.H i) v) :
  ch X.P X.c o.op (dT (X.F i)) C=some (X.V i,C)∧X.H (i+1)=X.H i:=by
 have hi:=kt r.ho;have hs:=(X.tr.step i o r.ho).1.yes hw;obtain⟨e1,hn,⟨st,cC⟩,x,hx,u,hu,AT,g1⟩:=Ud hl hs;refine⟨g1 C ?_,e1⟩;rintro b off l k0 p rfl;obtain⟨d1,d2⟩:=hD x _ hu hx;have nI:X.DS s b:=d1;have tS:b<X.nx i:=by
  rcases(show Dg X.D0 X.H i b from d2)with h |h
  ·exact Nat.lt_of_lt_of_le (Qd h) (dj (Nat.zero_le _) omQ)
  ·exact h.2
 have E9:¬X.bc i:=by rintro⟨o',nE,hh⟩;rw[r.ho]at nE;cases nE;rw[Lk hl]at hh;cases hh
 have dG:∀k,X.hv k→gi X.M i k=true→X.nx (k+1)≤b:=by rintro k ⟨⟨ok,dv,BF⟩,BG⟩ dn;obtain⟨z,hz,h1⟩:=X.Bx i k o ok r.ho dv (by unfold yo;rw[hl,Bool.or_true,Bool.or_true]) BF hw BG dn;rw[AT]at hz;cases hz;rw[hn,cC]at h1;exact vv h1
 rcases Nat.lt_or_ge i q with h |h
 ·refine I.fW omQ (λk h1 h2 hk=>?_) b nI tS;by_cases e:k=i
  ·subst e;exact E9 hk.1
  ·have g:=dG k hk (dw.fX I r omQ h2 hk.1);have:=dj (X:=X) (show i≤k+1 by omega) (by have:=I.qN;omega);omega
 ·by_cases sK:b<X.nx q
  ·rw[I.i1 b nI sK];refine(yw h omQ (λk h1 h2 hk=>?_) b sK).symm;have g:=dG k hk (dw.eG I r h1 h2 hk.1);have:=dj (X:=X) (show q≤k+1 by omega) omQ;omega
  ·rcases nI with hb |⟨j,hj,h1,h2⟩
   ·have:=Qd hb;have:=dj (X:=X) (Nat.zero_le q) I.qN;omega
   ·have Dt:=I.sN j hj;have mc:q≤j:=by
     rcases Nat.lt_or_ge j q with h |h
     ·have:=dj (X:=X) (show j+1≤q by omega) I.qN;omega
     ·exact h
    have E0:j<i:=by
     rcases Nat.lt_or_ge j i with h |h
     ·exact h
     ·have:=dj (X:=X) h omQ;omega
    rw[I.i2 j mc hj b h1 h2];refine(yw (X:=X) (show j+1≤i by omega) omQ (λk g1 g2 hk=>?_) b h2).symm;have g:=dG k hk (dw.eG I r omQ g2 hk.1);have:=dj (X:=X) (show j+1≤k+1 by omega) omQ;omega
end Cx
end Go.Ae
namespace Go.Ae
open Go
namespace Cx
variable {X:Cx} {s:Nat→Bool} {i q:Nat} {o:Oper} {a:Act} {w w':World} {m m':Mp} {C:AH}
noncomputable def FL (X:Cx) (o:Oper) (i:Nat):Nat→Option AV:=λt=>if(looks X.ops.toList o).testBit t=true then X.F i t else none
theorem Ks {o:Oper} (i:Nat) (g:AH):ch X.P X.c o.op (dT (X.F i)) g=ch X.P X.c o.op (dT (X.FL o i)) g:=by
 refine qX8 λx hx=>?_;cases x with
 |tmp t=>simp only[dT,FL];rw[iJ (Xm hx)]
 |_=>rfl
theorem Nx (I:Inv X s q a w m C) (r:dw X s i o) {t:Nat} {v:AV} (h:X.FL o i t=some v):a.tmps[t]? =some (cv m v)∧bm (X.DS s) v∧bm (Dg X.D0 X.H i) v:=by
 unfold FL at h
 split at h
 ·rename_i hb;obtain⟨h1,h2⟩:=I.slot t v (by rw[r.read hb];exact h);exact⟨h1,h2,(X.gh i (Nat.le_of_lt (kt r.ho))).slot t v h⟩
 ·cases h
theorem Fa {D:Nat→Prop} (I:Inv X s q a w m C) (r:dw X s i o) (hD:∀v,bm (X.DS s) v→bm (Dg X.D0 X.H i) v→bm D v):dP m D a.eval (dT (X.FL o i)):=by
 intro x v e;cases x with
 |tmp t=>obtain⟨h1,h2,h3⟩:=Nx I r e;refine⟨?_,hD v h2 h3⟩;simp only[Act.eval,Array.getD_eq_getD_getElem?,h1,Option.getD_some]
 |const k=>simp only[dT]at e;obtain⟨h1,h2⟩:=QR (m:=m) (D:=D) e;exact⟨h1.symm,h2⟩
 |global g=>simp only[dT,reduceCtorEq]at e
 |func f=>simp only[dT,Option.some.injEq]at e;subst e;exact⟨by simp[Act.eval,cv,aS],trivial,trivial⟩
theorem qV7 (I:Inv X s q a w m C) (r:dw X s i o):Region.wanted o (yielded X.ops a.tmps)=X.W i:=by
 obtain⟨st,_⟩:=X.tr.step i o r.ho;cases hg:o.guard with
 |none=>rw[st.g0 hg];unfold Region.wanted;rw[hg]
 |some g=>
  obtain⟨d,vg,h1,h2,h3⟩:=st.g1 g hg;have hF:X.FL o i d=some vg:=by unfold FL;rw[iJ (Ox hg h1)];exact h2
  obtain⟨h4,_⟩:=Nx I r hF;unfold wn at h1;rw[hg]at h1;simp only[Option.bind_some,xR,Array.getElem?_toList,Option.bind_eq_some_iff]at h1;obtain⟨p,hp,Bl⟩:=h1;have hy:yielded X.ops a.tmps g.1=(match cv m vg with | .bool b=>some b |_=>none):=by unfold yielded;simp only[hp,Option.bind_some,Bl,h4];generalize cv m vg=z;cases z<;>rfl
  rw[h3];cases Dv:kJ vg g.2
  ·refine MX hg ?_;rw[hy];cases vg<;>simp only[cv]<;>first |(intro hh;cases hh;done) |skip
   simp only[kJ]at Dv;simpa using Dv
  ·refine qxR hg ?_;rw[hy];cases vg<;>simp only[kJ,Bool.false_eq_true]at Dv
   simp only[cv];simpa using Dv
theorem Inv.step (I:Inv X s q a w m C) (r:dw X s i o) {rc:Option Nat} {nn:Nat} {Q:Exit→Act→World→Prop} {K:Act→World→Prop}
  (hK:∀q' a' w' m' C',Inv X (ins s i) q' a' w' m' C'→K a' w'):wpOpIn (FW rc) nn X.P X.ops Q i K a w:=by
 have hi:=kt r.ho;obtain⟨st,_⟩:=X.tr.step i o r.ho;unfold wpOpIn;rw[r.ho];simp only[qV7 I r];cases hw:X.W i with
 |false=>
  simp only[Bool.false_eq_true,if_false];refine⟨λ_ _=>trivial,?_⟩;obtain⟨hV,hH⟩:=st.no hw;by_cases hh:X.bc i
  ·obtain rfl:=I.lR r hh;obtain⟨q',m',C',I'⟩:=I.dD r (m1:=m) (D1:=DQ X s i) (by rw[hH];exact Ext.refl ..) (by rw[hH];exact I.mD) (by rw[hV];trivial);rw[hV]at I';exact hK _ _ _ _ _ I'
  ·have I':=I.pure r hh hH (Ext.refl ..) I.rel (by rw[hV];trivial);rw[hV]at I';exact hK _ _ _ _ _ I'
 |true=>
  simp only[if_true];have hs:=st.yes hw;by_cases hh:X.bc i
  ·obtain rfl:=I.lR r hh;rw[Ks]at hs;refine OT X.hc (Fa I r (λv h1 h2=>I.rF h1 (Nat.le_refl _) h2)) I.mD hs ?_;intro m' D' w' E R' hv;obtain⟨q',m2,C2,I'⟩:=I.dD r E R' hv;exact hK _ _ _ _ _ I'
  ·have Bw:zz X.P o.op=false:=by
    cases h:zz X.P o.op
    ·rfl
    ·exact absurd ⟨o,r.ho,h⟩ hh
   have quiet:ch X.P X.c o.op (dT (X.F i)) C=some (X.V i,C)→X.H (i+1)=X.H i→o.wpIn (FW rc) nn X.P a w K Q:=by
    intro e hH;rw[Ks]at e;refine OT X.hc (Fa I r (λv h1 _=>h1)) I.rel e ?_;intro m' D' w' E R' hv;have hD:D'=X.DS s:=by
     rw[E.oO]
     funext b
     exact propext ⟨λh=>h.elim id λh=>by omega,.inl⟩
    subst hD;exact hK _ _ _ _ _ (I.pure r hh hH E R' hv)
   have Fb:∀x v,dT (X.F i) x=some v→x∈o.op.operands→bm (X.DS s) v∧bm (Dg X.D0 X.H i) v:=by
    intro x v hx hm;cases x with
    |tmp t=>
     have hF:X.FL o i t=some v:=by unfold FL;rw[iJ (Xm hm)];exact hx
     exact(Nx I r hF).2
    |const k=>exact⟨(QR (m:=m) hx).2,(QR (m:=m) hx).2⟩
    |global g=>cases hx
    |func f=>cases hx;exact⟨⟨trivial,trivial⟩,⟨trivial,trivial⟩⟩
   rcases KQ Bw with hc |hc |hc
   ·cases lQ:QJ X.P o.op
    ·cases iN:wW X.P o.op
     ·obtain⟨h1,h2⟩:=Zs hc lQ iN hs;exact quiet (h2 C) h1
     ·obtain⟨h1,h2⟩:=I.conv r iN hw Fb
      exact quiet h1 h2
    ·obtain⟨h1,h2⟩:=I.cut r lQ hh hw Fb;exact quiet h1 h2
   ·obtain⟨h1,h2⟩:=I.load r (Ot hc) hw Fb;exact quiet h1 h2
   ·obtain⟨mk,x,h1,h2,h3,h4⟩:=Vl hc hs;have e:=h4 C;rw[Ks]at e;refine OT X.hc (Fa I r (λv h1 _=>h1)) I.rel e ?_;intro m' D' w' E R' hv;obtain⟨m2,C2,I'⟩:=I.fresh r hh h1 h2 h3 E R';exact hK _ _ _ _ _ I'
theorem lT (X:Cx):∀j,j≤X.N→∀b,X.nx 0≤b→b<X.nx j→∃i,i<j∧X.nx i≤b∧b<X.nx (i+1):=by
 intro j
 induction j with
 |zero=>intro _ b h1 h2;omega
 |succ j ih=>
  intro hj b h1 h2;by_cases h:b<X.nx j
  ·obtain⟨i,hi,h3⟩:=ih omQ b h1 h;exact⟨i,by omega,h3⟩
  ·exact⟨j,by omega,by omega,h2⟩
theorem Inv.done (I:Inv X s q a w m C) (cw:∀i,i<X.N→s i=true) {tm':PT AV} (ht:kq tm' (X.F X.N)) :
  ZE X.P X.m0 X.D0 (X.H 0) X.w0 X.n X.a0.defers a tm' m (DQ X s X.N) (X.H X.N) w:=by
 have tQ:q=X.N:=by
  rcases Nat.lt_or_ge q X.N with h |h
  ·have:=(I.hs q (I.hq h)).1 (cw q h);omega
  ·have:=I.qN;omega
 subst tQ;have Dw:∀b,X.DS s b→DQ X s X.N b:=λb hb=>⟨hb,Lp I.sN hb⟩;have gN:=X.gh X.N (Nat.le_refl _);refine⟨⟨?_,I.map,I.size,?_,gN.nx,?_,I.os,I.tape,I.output,?_,λb t hb hg=>gN.ni b t (E4 I.sN hb.1 hb.2) hg⟩,I.mD,⟨I.sJ,?_⟩,I.df⟩
 ·intro b hb;exact Dw b (.inl hb)
 ·intro c hc hn;obtain⟨k1,k2⟩:=I.keep c hc hn;refine⟨k1,?_⟩;rintro⟨b,hb,hl,he⟩;exact k2 ⟨b,hb.1,by unfold live at*;rw[I.i1 b hb.1 hb.2];exact hl,he⟩
 ·intro b hb hn;refine⟨gN.un b hb hn,?_⟩;rintro⟨h |⟨j,hj,h1,_⟩,_⟩
  ·exact hn h
  ·have:=dj (X:=X) (Nat.zero_le j) (Nat.le_of_lt (I.sN j hj));have hb:b<X.nx 0:=hb;omega
 ·intro b;constructor
  ·rintro⟨h,au⟩;exact E4 I.sN h au
  ·rintro(h |⟨h1,h2⟩)
   ·exact Dw b (.inl h)
   ·obtain⟨i,hi,h3,h4⟩:=X.lT X.N (Nat.le_refl _) b h1 h2;exact Dw b (.inr ⟨i,cw i hi,h3,h4⟩)
 ·intro t v hv;have:=I.slot t v (by rw[qwi cw _ (Nat.le_refl _)];exact ht t v hv);exact⟨this.1,wN Dw v this.2⟩
def aX (N:Nat) (s:Nat→Bool):Nat:=((List.range N).filter λi=>!s i).length
theorem qvp {N:Nat} (hi:i<N) (un:s i=false):aX N (ins s i)<aX N s:=by
 unfold aX;have:(List.range N).filter (λj=>!ins s i j)=((List.range N).filter λj=>!s j).filter λj=>!(j==i):=by
  rw[List.filter_filter]
  congr 1
  funext j
  simp only[ins,Bool.not_or]
 rw[this];rw[List.length_filter_lt_length_iff_exists];exact⟨i,by simp[hi,un],by simp⟩
theorem qGu {N:Nat} (h:aX N s=0):∀i,i<N→s i=true:=by intro i hi;unfold aX at h;rw[List.length_eq_zero_iff,List.filter_eq_nil_iff]at h;have:=h i (by simp[hi]);simpa using this
theorem qV9 {listed:Array Bool} (bx:listed.size=X.ops.size) (h:Region.ready .any X.ops listed=[]):∀i,i<X.N→listed.getD i false=true:=by
 intro i
 induction i using Nat.strongRecOn with
 |_ i ih=>
  intro hi;cases hl:listed.getD i false
  ·exfalso;obtain⟨o,ho⟩:=X.fT hi;have:i∈Region.ready .any X.ops listed:=by
    rw[mem_ready];have au:i<listed.size:=by rw[bx];exact hi
    refine⟨by simp[Array.getD,au]at hl ⊢;exact hl,o,ho,λe he hb=>?_⟩;have:=X.st.back i o ho e he hb;exact ih e.on this omQ
   rw[h]at this;cases this
  ·rfl
theorem tT {rc:Option Nat} {nn:Nat} {Q:Exit→Act→World→Prop} (hQ:∀s q a w m C,Inv X s q a w m C→(∀i,i<X.N→s i=true)→Q .normal a w) :
  ∀(fuel:Nat) (listed:Array Bool) (q:Nat) (a:Act) (w:World) (m:Mp) (C:AH),listed.size=X.ops.size→Inv X (λi=>listed.getD i false) q a w m C→aX X.N (λi=>listed.getD i false)≤fuel→
   wpAnyIn (FW rc) nn X.P .any X.ops Q fuel listed a w:=by
 intro fuel
 induction fuel with
 |zero=>
  intro listed q a w m C bx I hc;have cw:=qGu (Nat.le_zero.1 hc);refine⟨?_,hQ _ q a w m C I cw⟩;rw[List.eq_nil_iff_forall_not_mem];intro i hi;obtain⟨h1,o,ho,_⟩:=mem_ready.1 hi;have au:=kt ho;have h2:=cw i au;have sM:i<listed.size:=by rw[bx];exact au
  simp[Array.getD,sM]at h1 h2;rw[h1]at h2;cases h2
 |succ fuel ih=>
  intro listed q a w m C bx I hc;refine⟨λh=>hQ _ q a w m C I (qV9 bx h),?_⟩;intro i hi;obtain⟨h1,o,ho,h2⟩:=mem_ready.1 hi;have au:=kt ho;have sM:i<listed.size:=by rw[bx];exact au
  have un:listed.getD i false=false:=by simp[Array.getD,sM]at h1 ⊢;exact h1
  have oT:(λj=>(listed.setIfInBounds i true).getD j false)=ins (λj=>listed.getD j false) i:=by
   funext j
   by_cases e:j=i
   ·subst e;simp[ins,sM]
   ·rw[getD_set_ne false (λee=>e ee.symm)];simp[ins,e]
  refine I.step (I.rdy ho un h2) ?_;intro q' a' w' m' C' I';refine ih _ q' a' w' m' C' (by simpa using bx) (by rw[oT];exact I') ?_;rw[oT];have:=qvp (N:=X.N) (s:=λj=>listed.getD j false) au un;omega
theorem start (X:Cx) (BH:∀t v,X.F 0 t=some v→X.a0.tmps[t]? =some (cv X.m0 v)∧bm X.D0 v) (bx:X.n≤X.a0.tmps.size) {s:Nat→Bool} (hs:∀i,s i=false) :
  ∃q C,Inv X s q X.a0 { X.w0 with drawn:=X.w0.drawn+1 } X.m0 C:=by
 have hex:∃q,q≤X.N∧(q<X.N→X.bc q)∧∀k,k<q→¬X.bc k:=by
  rcases K8 X.bc X.N 0 with h |⟨k,h1,h2,h3,h4⟩
  ·exact⟨X.N,Nat.le_refl _,λh=>by omega,λk hk=>h k (Nat.zero_le _) omQ⟩
  ·exact⟨k,by omega,λ_=>h3,λj hj=>h4 j (Nat.zero_le _) hj⟩
 obtain⟨q,Fc,hq2,LD⟩:=hex;have cC:∀i,∀k,i≤k→k<q→¬(X.bc k∧X.W k=true):=λi k _ h2 h=>LD k h2 h.1;have hD:X.DS s=X.D0:=by
  funext b
  refine propext ⟨λh=>h.elim id ?_,.inl⟩;rintro⟨i,hi,_⟩;rw[hs i]at hi;cases hi
 have dy:∀i,s i=true→False:=λi h=>by rw[hs i]at h;cases h
 refine⟨q,⟨X.nx X.N,(X.H 0).rc,(X.H 0).t⟩,{ qN:=Fc,hq:=hq2,hs:=?_,sN:=λi h=>(dy i h).elim,down:=λi _ h=>(dy i h).elim,rl:=?_,oP:=Nat.le_refl _,i1:=?_,i2:=λi _ h=>(dy i h).elim,i3:=?_,map:=λ_ _=>rfl,size:=Nat.le_refl _,keep:=?_,os:=rfl,tape:=rfl,output:=rfl,sJ:=bx,slot:=?_,df:=rfl }⟩
 ·intro i hi;constructor
  ·intro h;exact(dy i h).elim
  ·intro h;exact absurd hi (LD i h)
 ·rw[hD];refine⟨?_,X.lP.inj,λb hb=>Nat.lt_of_lt_of_le (Qd hb) (dj (Nat.zero_le _) (Nat.le_refl _)),X.lP.cI⟩;intro b hb;obtain⟨x,hx,hr,hd⟩:=X.lP.bp b hb;exact⟨x,hx,hr.congr (D:=X.D0) (λ_ _=>rfl) hd rfl,hd⟩
 ·intro b hb au;rw[hD]at hb;rw[yw (X:=X) (Nat.zero_le q) Fc (cC 0) b (Qd hb)];rfl
 ·intro i hi _ b h1 h2;exact yw (X:=X) (show i+1≤q by omega) Fc (cC _) b h2
 ·intro c hc hn;rw[hD];exact⟨rfl,hn⟩
 ·intro t v hv;rw[qkS hs]at hv;rw[hD];exact BH t v hv
end Cx
end Go.Ae
namespace Go.Ae
open Go
variable {P:Program} {c:CV}
theorem qVo {t:PT Nat} {i:Nat} {a v:AV} {n:Option Nat} {nx:Nat} {r:AV×AH}:∀(hs:List Qi) (k:R),AN t i a n v nx hs k=some r→
  k=some r∧∀q∈hs,gi t i q.j=true→pS a n v q.hb q.ha nx=true:=by
 intro hs
 induction hs with
 |nil=>intro k e;exact⟨e,λq hq=>by cases hq⟩
 |cons q hs ih=>
  intro k e;obtain⟨j,hb,ha⟩:=q;simp only[AN]at e;cases hl:gi t i j
  ·rw[hl]at e;obtain⟨e1,e2⟩:=ih k e;refine⟨e1,λq' hq dO=>?_⟩;rcases List.mem_cons.1 hq with rfl |hq
   ·have dO:gi t i j=true:=dO;rw[hl]at dO;cases dO
   ·exact e2 q' hq dO
  ·rw[hl]at e;simp only[cx]at e;unfold Ys at e;rw[jZ]at e;obtain⟨g1,e⟩:=e;obtain⟨e1,e2⟩:=ih k e;refine⟨e1,λq' hq dO=>?_⟩;rcases List.mem_cons.1 hq with rfl |hq
   ·exact g1
   ·exact e2 q' hq dO
theorem Oq {t:PT Nat} {hs:List Qi} {nx:Nat} {r:AV×AH}:∀(ls:List JH) (k:R),NV t hs nx ls k=some r→
  k=some r∧∀l∈ls,∀q∈hs,gi t l.i q.j=true→pS l.a l.n l.v q.hb q.ha nx=true:=by
 intro ls
 induction ls with
 |nil=>intro k e;exact⟨e,λl hl=>by cases hl⟩
 |cons l ls ih=>
  intro k e;obtain⟨i,a,n,v⟩:=l;simp only[NV]at e;obtain⟨e1,e2⟩:=qVo _ _ e;obtain⟨e3,e4⟩:=ih k e1;refine⟨e3,λl' hl=>?_⟩;rcases List.mem_cons.1 hl with rfl |hl
  ·exact e2
  ·exact e4 l' hl
theorem Mb (hm:P.follows .mixedOrders=true) (hc:xu P c) {n nn:Nat} {ops:Array Oper} {rc:Option Nat} {Q:Exit→Act→World→Prop} {r:AV×AH} {id:Nat}
  {m:Mp} {D:Nat→Prop} {h:AH} {w:World} {a:Act} {tm:PT AV} {k:PT AV→AH→R} (RR:Rel P m D h w) (T:dL m D n a tm)
  (hk:∀m' D' h' w' a' tm',ZE P m D h w n a.defers a' tm' m' D' h' w'→k tm' h'=some r→Q .normal a' w')
  (cC:Da P ops=true) {LP:JH→Prop} {HP:Qi→Prop} {F1:Nat→Option AV} {h1:AH} {cu:PT AV} (S:lM P c n ops LP HP 0 (λt=>tm.get t) h ops.size F1 h1) (T1:kq cu F1) (e1:k cu h1=some r)
  (dG:∀l hr,LP l→HP hr→(∃oi,ops[l.i]? =some oi∧yo P oi.op=true)→(∃oj,ops[hr.j]? =some oj∧zz P oj.op=true)→gi (gR ops.toList 0 .e) l.i hr.j=true→
   pS l.a l.n l.v hr.hb hr.ha h.nx=true):(Code.region id ops true).wpIn (FW rc) nn P Q a w:=by
 obtain⟨_,F,H,V,W,Fe,oU,hFN,hHN,mF⟩:=S.fns;have au:∀i o,ops[i]? =some o→i<ops.size:=λi o h=>(Array.getElem?_eq_some_iff.1 h).1;have tr:Tr P c n ops LP HP F H V W:=⟨λi o ho=>mF i o (Nat.zero_le _) (au i o ho) ho⟩;have Ff:∀t v,F 0 t=some v→a.tmps[t]? =some (cv m v)∧bm D v:=λt v hv=>by rw[Fe]at hv;exact T.at_ t v hv
 have oV:Rel P m D (H 0) w:=by rw[oU];exact RR
 have gh:=λi hi=>qWB hc tr oV (λt v hv=>(Ff t v hv).2) (i:=i) hi;have gm:=(ZL hc tr oV (λt v hv=>(Ff t v hv).2) ops.size (Nat.le_refl _)).2;have Bx:∀i j oi oj,ops[i]? =some oi→ops[j]? =some oj→yo P oi.op=true→zz P oj.op=true→W i=true→W j=true→gi (gR ops.toList 0 .e) i j=true→
   ∃a,JF (dT (F i)) oi.op=some a∧pS a (gk P oi.op) (V i) (H j) (H (j+1)) (H 0).nx=true:=by
  intro i j oi oj iC BI hl hh hwi hwj dn;obtain⟨sti,_⟩:=mF i oi (Nat.zero_le _) (au i oi iC) iC;obtain⟨stj,_⟩:=mF j oj (Nat.zero_le _) (au j oj BI) BI;obtain⟨z,hz,hLP⟩:=sti.ld hwi hl;have hHP:=stj.hv hwj hh;have g1:=dG _ _ hLP hHP ⟨oi,iC,hl⟩ ⟨oj,BI,hh⟩ dn;rw[oU];exact⟨z,hz,g1⟩
 let X:Cx:=⟨P,c,n,ops,gR ops.toList 0 .e,LP,HP,F,H,V,W,m,D,w,a,hc,tr,qzh cC,oV,gh,λi hi=>(gm i hi).1,λi hi=>(gm i hi).2,Bx⟩
 refine wpIn_region_any hm ?_;obtain⟨q,C,I⟩:=Cx.start X Ff T.size (s:=λi=>(Array.replicate ops.size false).getD i false) (λi=>by simp[Array.getD]);refine Cx.tT (X:=X) ?_ ops.size (Array.replicate ops.size false) q a _ m C (by simp;rfl) I ?_
 ·intro s q a' w' m' C' I' cw;have O:=I'.done cw (tm':=cu) (by show kq cu (F ops.size);rw[hFN];exact T1);have O':ZE P m D h w n a.defers a' cu m' (Cx.DQ X s X.N) h1 w':=by
   have e0:X.H 0=h:=oU;have eN:X.H X.N=h1:=hHN;rw[e0,eN]at O;exact O
  exact hk m' _ h1 w' a' cu O' e1
 ·unfold Cx.aX;refine Nat.le_trans (List.length_filter_le _ _) ?_;simp;exact Nat.le_refl _
theorem LF (hm:P.follows .mixedOrders=true) (hc:xu P c):Ur P c:=by
 intro n nn ops Ls rc Q r id m D h w a tm k RR T e hk;simp only[Eg,xv]at e;obtain⟨cC,e⟩:=e;have hl:∀i o,ops.toList[i]? =some o→ops[0+i]? =some o:=λi o hi=>by simpa using hi
 have h0:kq tm (λt=>tm.get t):=λt v hv=>hv;cases Fg:XV P (yo P) (gR ops.toList 0 .e) ops.toList ops.toList 0
 ·rw[Fg]at e;simp only[cx]at e;obtain⟨cu,h1,F1,e1,T1,S⟩:=qYL _ ops.toList 0 Ls tm _ h k hl h0 e;rw[Nat.zero_add,Array.length_toList]at S;refine Mb hm hc RR T hk cC S T1 e1 ?_;rintro l hr _ _ ⟨oi,iC,hli⟩ ⟨oj,BI,EY⟩ dn;have:=Vw _ _ Fg l.i oi (by simpa using iC) hli hr.j oj (by simpa using BI) EY;rw[Nat.zero_add,dn]at this;cases this
 ·rw[Fg]at e;simp only[cx]at e;cases Ls with
  |nil=>cases e
  |cons L Ls=>simp only[xd]at e;obtain⟨cu,h1,F1,lN,lO,e1,T1,_,_,S⟩:=qWM ops.toList 0 [] tm _ h [] [] _ hl h0 (λ_ hx=>(by cases hx)) e;obtain⟨e2,dG⟩:=Oq _ _ e1;rw[xv]at e2;obtain⟨cw,e2⟩:=e2;have S:=S (λl=>l∈lN) (λq=>q∈lO) (λ_ h=>h) (λ_ h=>h);rw[Nat.zero_add,Array.length_toList]at S;refine Mb hm hc RR T hk cC S (Ln T1 L cw) e2 ?_;intro l hr hl hh _ _ dn;exact dG l hl hr hh dn
theorem OE {tab:BT} {rt:List RT} (hm:P.follows .mixedOrders=true) (ht:TabOk P tab rt) (k:Nat):xu P (callT tab rt k) :=
 qG6 ht (λ_ hc=>LF hm hc) k
theorem Rel.empty (P:Program) (m:Mp) (w:World) (hg:Gl P w):Rel P m (λ_=>False) AH.empty w:=⟨⟨λ_ hb=>hb.elim,λ_ _ hb=>hb.elim,λ_ hb=>hb.elim,λ_ _ hb=>hb.elim⟩,λp hp=>let ⟨g,h1,h2⟩:=hg p hp;⟨g,h1,h2,λ⟨_,hb,_⟩=>hb⟩⟩
theorem closed_true {tab:BT} {rt:List RT} (hm:P.follows .mixedOrders=true) (ht:TabOk P tab rt) {k:Nat} {f:FuncId} (e:isTrue (callT tab rt k (.fn f [] []) [] AH.empty)=true) (n:Nat) (w:World) (hg:Gl P w) :
  CallsIn Fence.wide n P f #[] w λe w'=>e=.returned (.bool true)∧RowKit.Below w.heap.size w w':=by
 unfold isTrue at e
 split at e
 rotate_left
 ·cases e
 rename_i h' he;have:=(OE hm ht k (.fn f [] []) [] AH.empty _ he (λ_=>(0,0)) _ w (Rel.empty P _ w hg) ⟨trivial,trivial⟩ trivial).2 n;refine CallsIn.mono this ?_;rintro ee w' ⟨m',D',rfl,X,R',_⟩;refine⟨rfl,X.os,X.tape,X.output,X.size,?_⟩;intro k hk;exact(X.keep k hk (λ⟨b,hb,_⟩=>hb)).1
end Go.Ae
namespace Go.Ae
open Go
variable {P:Program}
def callOk (P:Program) (f:Nat):Bool:=match P.funcs[f]? with
 | some fn => !(fn.name == "runtime.NumGoroutine") && !fn.body.isNone
 |none=>false
theorem qQb {f:Nat} (h:callOk P f=true) (as:Array Value) (W:World):(callFunc f as).run P W=.ok (.enter f as) W:=by
 unfold callOk at h
 split at h
 ·rename_i fn hf;simp only[Bool.and_eq_true,Bool.not_eq_true']at h;obtain⟨h1,h2⟩:=h;unfold callFunc;have hp:(program:Sem Program).run P W=.ok P W:=rfl;rw[qY hp];simp only[hf,h1,h2,Bool.false_eq_true,if_false];rfl
 ·cases h
theorem BT.oW (g:Nat) (w:WF) (f:Nat):(BT.leaf g w).get f=if g=f then some w else none:=by
 show Bool.rec (motive:=λ_=>Option WF) none (some w) (Nat.beq g f)=_;by_cases h:g=f
 ·rw[iJ h,h,Nat.beq_refl]
 ·rw[iQ h,yG h]
theorem BT.oX (m:Nat) (l r:BT) (f:Nat):(BT.node m l r).get f=l.get f∨(BT.node m l r).get f=r.get f:=by
 show Bool.rec (motive:=λ_=>Option WF) (r.get f) (l.get f) (Nat.ble f m)=_∨Bool.rec (motive:=λ_=>Option WF) (r.get f) (l.get f) (Nat.ble f m)=_;cases Nat.ble f m
 ·exact .inr rfl
 ·exact .inl rfl
theorem BT.oY {p:Nat→WF→Prop}:∀{t:BT} {f:Nat} {g:WF},t.all p→t.get f=some g→p f g∧f∈t.fs:=by
 intro t
 induction t with
 |no=>intro f g _ h;cases h
 |leaf k w=>
  intro f g ha h;rw[BT.oW]at h;by_cases e:k=f
  ·rw[iJ e]at h;cases h;subst e;exact⟨ha,by simp[BT.fs]⟩
  ·rw[iQ e]at h;cases h
 |node m l r il ir=>
  intro f g ha h;rcases BT.oX m l r f with hl |hr
  ·rw[hl]at h;obtain⟨h1,h2⟩:=il ha.1 h;exact⟨h1,by simp[BT.fs,h2]⟩
  ·rw[hr]at h;obtain⟨h1,h2⟩:=ir ha.2 h;exact⟨h1,by simp[BT.fs,h2]⟩
theorem TabOk.of {tab:BT} {rt:List RT} (h1:tab.all (WX P)) (h2:tab.fs.all (λf=>callOk P f)=true) (h3:∀p∈rt,AO P p.f p.pos p.L p.run):TabOk P tab rt:=by
 refine⟨?_,?_,h3⟩
 ·intro f g hg;exact(BT.oY h1 hg).1
 ·intro f g hg as W;exact qQb (List.all_eq_true.1 h2 f (BT.oY h1 hg).2) as W
open Go.RowKit
theorem post_below {H:Type} {enc:TypeId×Value→H} {f:Func} {s:ChangeSpec} {apart fresh handsOn again:Bool} {W W':World} {args:Array Value} {v:Value} {ds gs:List (DataW H)} {before pa pv:List MemPlace}
  (whole:DataW.Whole enc P f.params.toList s.vars apart W args.toList ds gs before) (parts:before=pa++pv) (below:Below W.heap.size W W')
  (out:∀(b:Nat) (sp:Nat→Bool) (hd:Bool),DataW.TrodAll enc P W' b sp hd f.resultTypes.toList (v.resultList f.resultTypes.size) (s.fn H (ds++gs)).results [])
  (ins:∀sp:Nat→Bool,(∀p∈before,sp p.block=true)→DataW.TrodAll enc P W' 0 sp true f.params.toList args.toList (s.fn H (ds++gs)).args pa)
  (LG:∀sp:Nat→Bool,(∀p∈before,sp p.block=true)→DataW.TrodVars enc P W' sp s.vars (s.fn H (ds++gs)).vars pv)
  (wide:∀(j:Nat) (t:TypeId) (r:Value),f.resultTypes[j]? =some t→(v.resultList f.resultTypes.size)[j]? =some r→Value.okWide P W' .any 0 t r) :
  s.post enc P f apart fresh handsOn again W args v W':=by
 have inside:∀p∈before,p.block<W.heap.size:=λp hp=>whole.lt p hp;have nJ:∀p∈before,(λb=>decide (b<W.heap.size)) p.block=true:=λp hp=>iG (inside p hp);have all:∀p∈before,(λ_:Nat=>true) p.block=true:=λ_ _=>rfl;have tU:=whole;obtain⟨_,_,_,_,_,live,Fh⟩:=tU;have oZ:([]++pa)++pv=before:=by rw[parts];rfl
 refine⟨ds,gs,before,[],pa,pv,whole,out _ _ _,ins _ nJ,LG _ nJ,?_,λ_=>⟨wide,_,_,([]++pa)++pv,⟨[]++pa,pv,ChangeShapes.trodAll_append (ins _ all) (out _ _ _),LG _ all,rfl,?_,?_⟩,?_⟩⟩
 ·refine World.keptBut_mono (λp hp=>?_) (below.frame (· ∈before));exact⟨hp,.inr (by rw[parts,List.mem_append]at hp;exact hp)⟩
 ·intro b off hp;have dA:MemPlace.cell b off∈before:=by rw[← oZ];simpa using hp
  rw[below.frozen (inside _ dA)];exact live b off dA
 ·intro ha;have:=Fh ha;rw[← oZ]at this;simpa using this
 ·intro p hp _;rw[← oZ];simpa using hp
end Go.Ae
namespace Go.Ae
open Go
theorem qvc {α:Type} (f:Nat→Option α):∀N,∃t:aJ α,∀i,aJ.get t i=if i<N then f i else none:=by
 intro N
 induction N with
 |zero=>exact⟨.e,λi=>by rw[iQ omQ];exact aJ.eo i⟩
 |succ N ih=>
  obtain⟨t,ht⟩:=ih;cases hf:f N with
  |none=>
   refine⟨t,λi=>?_⟩;rw[ht];by_cases h1:i<N
   ·rw[iJ h1,iJ omQ]
   ·rw[iQ h1];by_cases h2:i=N
    ·subst h2;rw[iJ omQ,hf]
    ·rw[iQ omQ]
  |some x=>
   refine⟨aJ.set t N x,λi=>?_⟩;rw[aJ.bF];by_cases h:N=i
   ·subst h;rw[iJ rfl,iJ omQ,hf]
   ·rw[iQ h,ht];by_cases h1:i<N
    ·rw[iJ h1,iJ omQ]
    ·rw[iQ h1,iQ omQ]
def X7:Value→AV
 | .bool b=>.bool b
 | .int k n=>.int k n
 | .string s=>.str s.data.toList
 | .pointer none=>.aO
 | .pointer (some ⟨b,o,none⟩)=>.ptr b o
 | .slice none 0 0=>.ak
 | .slice (some a) 0 0=>.bT a
 | .slice (some ⟨b,o,none⟩) len cap=>.slice b o len cap false
 | .nilFunc=>.dC
 | .nilIface=>.cH
 |_=>.undef
def Yh:Value→AV
 | .agg cs=>.agg (cs.toList.map X7)
 |v=>X7 v
def GQ:Mp:=λb=>(b,0)
def y8 (w:World) (b:Nat):Prop:=∃C e fr,w.heap[b]? =some (.cells C e fr)
def ZT (w:World) (v:Value):Prop:=cv GQ (X7 v)=v∧bm (y8 w) (X7 v)
structure w7 (w:World) (h:AH):Prop where
  nx:h.nx=w.heap.size
  bp:∀b C e fr,w.heap[b]? =some (.cells C e fr)→∃t,h.get b=some (.cI t)∧∀i u,aJ.get t i=some u↔∃v,C[i]? =some v∧ZT w v∧u=X7 v
theorem mirror (w:World):∃h,w7 w h:=by
 have key:∀b:Nat,∃x:Option cy,∀(C:Array Value) (e:TypeId) (fr:Nat×Nat),w.heap[b]? =some (.cells C e fr)→∃t,x=some (.cI t)∧∀i u,aJ.get t i=some u↔∃v,C[i]? =some v∧ZT w v∧u=X7 v:=by
  intro b;by_cases hc:y8 w b
  ·obtain⟨C,e,fr,hb⟩:=hc;have cl:∀v,Decidable (ZT w v):=λv=>Classical.propDecidable _;obtain⟨t,ht⟩:=qvc (λi=>(C[i]?).bind λv=>if ZT w v then some (X7 v)else none) C.size;refine⟨some (.cI t),λC' e' fr' bB=>⟨t,rfl,λi u=>?_⟩⟩;rw[hb]at bB;cases bB;rw[ht];by_cases hi:i<C.size
   ·rw[iJ hi];simp only[Array.getElem?_eq_getElem hi,Option.bind_some];by_cases hg:ZT w C[i]
    ·rw[iJ hg];exact⟨λh=>⟨_,rfl,hg,(Option.some.inj h).symm⟩,λ⟨v,h1,_,h3⟩=>by cases h1;rw[h3]⟩
    ·rw[iQ hg];exact⟨λh=>(by cases h),λ⟨v,h1,h2,_⟩=>by cases h1;exact absurd h2 hg⟩
   ·rw[iQ hi];exact⟨λh=>(by cases h),λ⟨v,h1,_,_⟩=>by rw[Array.getElem?_eq_none omQ]at h1;cases h1⟩
  ·exact⟨none,λC e fr hb=>absurd ⟨C,e,fr,hb⟩ hc⟩
 obtain⟨h,h1,h2⟩:=Cx.mZ (λb=>Classical.choose (key b)) w.heap.size w.heap.size;refine⟨h,h1,λb C e fr hb=>?_⟩;rw[h2 b (Array.getElem?_eq_some_iff.1 hb).1];exact Classical.choose_spec (key b) C e fr hb
theorem w7.iT {w:World} {h:AH} (M:w7 w h) {b:Nat} (hb:y8 w b):¬live h b:=by obtain⟨C,e,fr,hc⟩:=hb;obtain⟨t,ht,_⟩:=M.bp b C e fr hc;rintro⟨x,hx,hl⟩;rw[ht]at hx;cases hx;exact hl
theorem w7.lP {P:Program} {w:World} {h:AH} (M:w7 w h):Rel0 P GQ (y8 w) h w:=by
 refine⟨?_,λb _ hb _ hl=>(M.iT hb hl).elim,?_,?_⟩
 ·intro b hb;obtain⟨C,e,fr,hc⟩:=hb;obtain⟨t,ht,hi⟩:=M.bp b C e fr hc;refine⟨_,ht,⟨C.toList,e,fr,by simpa[GQ]using hc,?_⟩,?_⟩
  ·intro i v hv;obtain⟨u,h1,h2,rfl⟩:=(hi i v).1 hv;rw[h2.1];simpa using h1
  ·intro i v hv;obtain⟨u,h1,h2,rfl⟩:=(hi i v).1 hv;exact h2.2
 ·rintro b ⟨C,e,fr,hc⟩;rw[M.nx];exact(Array.getElem?_eq_some_iff.1 hc).1
 ·rintro b t _ _ ⟨b',bB,hl,_⟩;exact M.iT bB hl
theorem w7.rel {P:Program} {w:World} {h:AH} (M:w7 w h) (hg:Gl P w):Rel P GQ (y8 w) h w :=
 ⟨M.lP,λp hp=>let ⟨g,h1,h2⟩:=hg p hp;⟨g,h1,h2,λ⟨_,hb,hl,_⟩=>M.iT hb hl⟩⟩
noncomputable def AH.at (h:AH) (b i:Nat):Option AV:=match h.get b with
 |some (.cells c _ _)=>c.dX i
 |some (.cI t)=>aJ.get t i
 |_=>none
def WT (P:Program) (h:AH):Nat→TypeId→List AV→Prop
 | 0,_,_=>False
 |d+1,t,cs=>match P.underlying t with
  |some .bool=>∃b,cs=[.bool b]
  |some (.int k)=>∃n,cs=[.int k n]∧k.min≤n∧n≤k.max
  |some .string=>∃s,cs=[.str s]∧s.length≤maxLen
  |some (.slice e)=>cs=[.ak]∨(∃a,cs=[.bT a])∨P.cellsOf e=0∨∃b off len cap,cs=[.slice b off len cap false]∧len≤cap∧cap≤maxLen∧b<h.nx∧(∃t,h.get b=some (.cI t))∧
    ∀i,i<len→∃row,row.length=P.cellsOf e∧(∀j,j<P.cellsOf e→h.at b (off+i*P.cellsOf e+j)=row[j]?)∧WT P h d e row
  |some (.struct fs)=>cs.length=P.cellsOf t∧∀f∈fs.toList,WT P h d f.type ((cs.drop f.offset).take (P.cellsOf f.type))
  |some (.array n e)=>cs.length=P.cellsOf t∧∀i,i<n→WT P h d e ((cs.drop (i*P.cellsOf e)).take (P.cellsOf e))
  |_=>True
def Yy (P:Program):Nat→List Field→Option Nat
 |c,[]=>some c
 |c,f::r=>if f.offset=c then Yy P (c+P.cellsOf f.type) r else none
def plainT (P:Program):Nat→TypeId→Bool
 | 0,_=>false
 |d+1,t=>match P.underlying t with
  |some .bool |some (.int _) |some .string=>true
  |some (.slice e)=>Nat.ble 1 (P.cellsOf e)&&plainT P d e
  |some (.struct fs)=>(Yy P 0 fs.toList==some (P.cellsOf t))&&fs.toList.all λf=>plainT P d f.type
  |_=>false
theorem qgc {k:IntKind} {n:Int} (h:(Lit.int k n).wf=true):k.min≤n∧n≤k.max:=by simpa[Lit.wf]using h
theorem qKt {P:Program}:∀{l:List Field} {c e:Nat},Yy P c l=some e→c≤e∧∀i,c≤i→i<e→∃f∈l,f.offset≤i∧i<f.offset+P.cellsOf f.type:=by
 intro l
 induction l with
 |nil=>intro c e h;cases h;exact⟨Nat.le_refl _,λi h1 h2=>by omega⟩
 |cons f l ih=>
  intro c e h;unfold Yy at h
  split at h
  ·rename_i hf;obtain⟨h1,h2⟩:=ih h;refine⟨by omega,λi h3 h4=>?_⟩;by_cases h5:i<c+P.cellsOf f.type
   ·exact⟨f,iK ..,by omega,by omega⟩
   ·obtain⟨g,hg,h6⟩:=h2 i omQ h4;exact⟨g,iX _ hg,h6⟩
  ·cases h
theorem qx4 {w:World} {h:AH} (M:w7 w h) {b o:Nat} {v:Value} (hc:w.cell? ⟨b,o,none⟩=some v) (hg:ZT w v):h.at b o=some (X7 v)∧y8 w b:=by
 unfold World.cell? at hc
 split at hc
 ·rename_i C e fr hb;simp at hc;obtain⟨t,ht,hi⟩:=M.bp b C e fr hb;refine⟨?_,C,e,fr,hb⟩;unfold AH.at
  rw[ht];exact(hi o _).2 ⟨v,by simpa using hc,hg,rfl⟩
 ·cases hc
theorem qGf {w:World} {a:Addr} {v:Value} (hc:w.cell? a=some v):a.spot=none:=by
 unfold World.cell? at hc
 split at hc
 ·cases hs:a.spot with
  |none=>rfl
  |some _=>rw[hs]at hc;simp at hc
 ·cases hc
theorem kC {P:Program} {d:Nat} {t:TypeId} (h:plainT P d t=true):∃n,plainT P (n+1) t=true:=by
 cases d with
 |zero=>cases h
 |succ d=>exact⟨d,h⟩
theorem XQ {P:Program} {d:Nat} {t e:TypeId} (h:plainT P (d+1) t=true) (hu:P.underlying t=some (.slice e)):0<P.cellsOf e∧plainT P d e=true:=by unfold plainT at h;simp only[hu,Bool.and_eq_true]at h;exact⟨vv h.1,h.2⟩
theorem Yb {P:Program} {d:Nat} {t:TypeId} {fs:Array Field} (h:plainT P (d+1) t=true) (hu:P.underlying t=some (.struct fs)) :
  Yy P 0 fs.toList=some (P.cellsOf t)∧∀f∈fs.toList,plainT P d f.type=true:=by
 unfold plainT at h;simp only[hu,Bool.and_eq_true,beq_iff_eq,List.all_eq_true]at h;exact h
theorem qQo {P:Program}:∀{l:List Field} {c e:Nat},Yy P c l=some e→e=c+(l.map λf=>P.cellsOf f.type).sum∧∀(j:Nat) f,l[j]? =some f→f.offset=c+((l.take j).map λf=>P.cellsOf f.type).sum:=by
 intro l
 induction l with
 |nil=>intro c e h;cases h;exact⟨by simp,λj f h=>by simp at h⟩
 |cons g l ih=>
  intro c e h;unfold Yy at h
  split at h
  ·rename_i hf;obtain⟨h1,h2⟩:=ih h;refine⟨by simp[h1];omega,λj f hj=>?_⟩;cases j with
   |zero=>simp at hj;subst hj;simpa using hf
   |succ j=>simp at hj;rw[h2 j f hj];simp;omega
  ·cases h
def LH (P:Program) (t:TypeId):Prop:=∃d,plainT P d t=true
theorem qJs (P:Program):Kids P (LH P):=by
 refine⟨?_,?_,?_,?_,?_⟩
 ·rintro t e ⟨d,h⟩ hu;obtain⟨n,h⟩:=kC h;unfold plainT at h;simp only[hu,Bool.false_eq_true]at h
 ·rintro t e ⟨d,h⟩ hu;obtain⟨n,h⟩:=kC h;exact⟨n,(XQ h hu).2⟩
 ·rintro t e n ⟨d,h⟩ hu;obtain⟨n,h⟩:=kC h;unfold plainT at h;simp only[hu,Bool.false_eq_true]at h
 ·rintro t fs ⟨d,h⟩ hu;obtain⟨n,h⟩:=kC h;obtain⟨h1,h2⟩:=Yb h hu;obtain⟨h3,h4⟩:=qQo h1;exact⟨λf hf=>⟨n,h2 f hf⟩,by simpa using h3,λj f hj=>by simpa using h4 j f hj⟩
 ·rintro t k e ⟨d,h⟩ hu;obtain⟨n,h⟩:=kC h;unfold plainT at h;simp only[hu,Bool.false_eq_true]at h
theorem qxI {H:Type} {enc:TypeId×Value→H} {P:Program} {w:World} {h:AH} (M:w7 w h) {held:Bool}:∀(d:Nat) (t:TypeId) (fuel:Nat) (cs:List Value) (x:DataW H×List MemPlace),
  plainT P d t=true→DataW.trod enc P w 0 (λ_=>true) held fuel t cs=some x→(∀v∈cs,ZT w v)∧WT P h d t (cs.map X7):=by
 intro d
 induction d with
 |zero=>intro t fuel cs x hp;cases hp
 |succ d ih=>
  intro t fuel cs x hp e;have LI:=hp;unfold plainT at hp;unfold WT
  split at hp
  ·rename_i hu;simp only[hu];obtain⟨b,rfl,_⟩:=DataW.trod_bool hu e;exact⟨λv hv=>by rw[List.mem_singleton.1 hv];exact⟨rfl,trivial⟩,b,rfl⟩
  ·rename_i k hu;simp only[hu];obtain⟨n,rfl,_,hw⟩:=DataW.trod_int hu e;exact⟨λv hv=>by rw[List.mem_singleton.1 hv];exact⟨rfl,trivial⟩,n,rfl,qgc hw⟩
  ·rename_i hu;simp only[hu];obtain⟨s,rfl,_,hl⟩:=DataW.trod_string hu e;refine⟨λv hv=>by rw[List.mem_singleton.1 hv];exact⟨by simp[X7,cv],trivial⟩,s.data.toList,rfl,?_⟩;rw[Array.length_toList];exact hl
  ·rename_i el hu;simp only[hu];obtain⟨bx,EC⟩:=XQ LI hu;rcases DataW.trod_slice hu e with⟨rfl,_⟩ |⟨a,len,cap,LJ,rest,n,rfl,rfl,_,_,EP,BJ,Lb,h1,h2,_⟩
   ·exact⟨λv hv=>by rw[List.mem_singleton.1 hv];exact⟨rfl,trivial⟩,.inl rfl⟩
   ·obtain⟨tC,h2⟩:=h2 rfl;by_cases LK:cap=0
    ·subst LK;obtain rfl:len=0:=by omega
     exact⟨λv hv=>by rw[List.mem_singleton.1 hv];exact⟨rfl,trivial⟩,.inr (.inl ⟨a,rfl⟩)⟩
    ·--the first place shows that the address has no spot
     have row:∀i,i<cap→∃r y,(w.cells? 0 (a.add (i*P.cellsOf el)) (P.cellsOf el))=some r∧DataW.trod enc P w 0 (λ_=>true) held n el r=some y:=by
      intro i hi;by_cases pY:i<len
      ·have hx:=h1 i pY;rw[iW omQ]at hx;obtain⟨r,hr,hy⟩:=Option.bind_eq_some_iff.1 hx;exact⟨r,_,hr,hy⟩
      ·have hx:=h2 (i-len) omQ;rw[show len+(i-len)=i by omega,iW omQ]at hx;obtain⟨r,hr,hy⟩:=Option.bind_eq_some_iff.1 hx;exact⟨r,_,hr,hy⟩
     have cells:∀(b:Addr) r,w.cells? 0 b (P.cellsOf el)=some r→r.length=P.cellsOf el∧∀j,j<P.cellsOf el→w.cell? (b.add j)=r[j]?:=by intro b r hr;unfold World.cells? at hr;rw[iJ (Nat.zero_le _)]at hr;refine⟨by simpa using mapM_some_length hr,λj hj=>?_⟩;exact mapM_some_get hr j j (by simp[hj])
     have sO:a.spot=none:=by obtain⟨r,y,hr,_⟩:=row 0 omQ;obtain⟨c1,c2⟩:=cells _ r hr;have:=c2 0 bx;rw[iW omQ]at this;have:=qGf this;simpa[Addr.add]using this
     obtain⟨b,off,sp⟩:=a;simp only at sO;subst sO;have aC:∀i,i<cap→∃Fi:List AV,Fi.length=P.cellsOf el∧(∀j,j<P.cellsOf el→h.at b (off+i*P.cellsOf el+j)=Fi[j]?)∧WT P h d el Fi∧y8 w b:=by
      intro i hi;obtain⟨r,y,hr,hy⟩:=row i hi;obtain⟨c1,c2⟩:=cells _ r hr;obtain⟨g1,g2⟩:=ih el n r y EC hy;have dF:∀j,j<P.cellsOf el→h.at b (off+i*P.cellsOf el+j)=(r.map X7)[j]? ∧y8 w b:=by
       intro j hj;have Fj:=c2 j hj;have fE:j<r.length:=by omega
       rw[iW fE]at Fj;have e1:((⟨b,off,none⟩:Addr).add (i*P.cellsOf el)).add j=⟨b,off+i*P.cellsOf el+j,none⟩:=by rw[wG,wG]
       rw[e1]at Fj;obtain⟨k1,k2⟩:=qx4 M Fj (g1 _ (List.getElem_mem fE));refine⟨?_,k2⟩;rw[k1,List.getElem?_map,iW fE];rfl
      exact⟨r.map X7,by simp[c1],λj hj=>(dF j hj).1,g2,(dF 0 bx).2⟩
     have o7:X7 (.slice (some ⟨b,off,none⟩) len cap)=.slice b off len cap false:=by
      cases cap with
      |zero=>exact absurd rfl LK
      |succ cap=>cases len<;>rfl
     obtain⟨_,_,_,_,oK⟩:=aC 0 omQ;refine⟨?_,.inr (.inr (.inr ⟨b,off,len,cap,?_,EP,BJ,M.lP (P:=P) |>.lt b oK,?_,?_⟩))⟩
     ·intro v hv;rw[List.mem_singleton.1 hv];exact⟨by rw[o7];rfl,by rw[o7];exact oK⟩
     ·rw[List.map_cons,o7];rfl
     ·obtain⟨C,e,fr,hc⟩:=oK;obtain⟨t,ht,_⟩:=M.bp b C e fr hc;exact⟨t,ht⟩
     ·intro i hi;obtain⟨r,r1,r2,r3,_⟩:=aC i omQ;exact⟨r,r1,r2,r3⟩
  ·rename_i fs hu;simp only[hu];obtain⟨Fk,Dx⟩:=Yb LI hu;obtain⟨xs,n,rfl,_,hlen,rA,hf⟩:=DataW.trod_struct hu e;have part:∀f∈fs.toList,(∀v∈(cs.drop f.offset).take (P.cellsOf f.type),ZT w v)∧WT P h d f.type (((cs.drop f.offset).take (P.cellsOf f.type)).map X7):=by
    intro f u7;obtain⟨i,hi,rfl⟩:=List.mem_iff_getElem.1 u7;have l9:i<fs.size:=by simpa using hi
    have hx:=hf i fs[i] (Array.getElem?_eq_getElem l9);rw[iW omQ]at hx;have Fl:=Dx _ u7;simp only[Array.getElem_toList]at Fl ⊢;exact ih _ n _ _ Fl hx
   refine⟨?_,by simpa using hlen,λf u7=>?_⟩
   ·intro v hv;obtain⟨i,hi,rfl⟩:=List.mem_iff_getElem.1 hv;obtain⟨_,hc⟩:=qKt Fk;obtain⟨f,u7,h1,h2⟩:=hc i (Nat.zero_le _) omQ;refine(part f u7).1 _ ?_;have:((cs.drop f.offset).take (P.cellsOf f.type))[i-f.offset]? =some cs[i]:=by
     rw[List.getElem?_take_of_lt omQ,List.getElem?_drop,show f.offset+(i-f.offset)=i by omega,iW hi]
    exact List.mem_of_getElem? this
   ·have:=(part f u7).2;rw[List.map_take,List.map_drop]at this;exact this
  ·cases hp
end Go.Ae
namespace Go.Ae
open Go
def tV (P:Program) (h:AH) (d:Nat) (t:TypeId) (a:AV):Prop :=
 match P.underlying t with
 |some (.struct _) |some (.array _ _)=>∃l,a=.agg l∧WT P h d t l
 |_=>WT P h d t [a]
def Dy (P:Program) (h:AH) (d:Nat):List TypeId→List AV→Prop
 |[],[]=>True
 |t::ts,a::as=>tV P h d t a∧Dy P h d ts as
 |_,_=>False
theorem qYr {H:Type} {enc:TypeId×Value→H} {P:Program} {w:World} {h:AH} (M:w7 w h) {r:Reach} {base d:Nat} {t:TypeId} {v:Value} {x:DataW H} {ps:List MemPlace} (hp:plainT P d t=true)
  (hv:Value.okWide P w r base t v) (e:DataW.Trod enc P w 0 (λ_=>true) true t v x ps):cv GQ (Yh v)=v∧bm (y8 w) (Yh v)∧tV P h d t (Yh v):=by
 obtain⟨fuel,e⟩:=e;obtain⟨g,wt⟩:=qxI M d t fuel _ _ hp e;unfold tV;have agg:∀cs:Array Value,v=.agg cs→cv GQ (Yh v)=v∧bm (y8 w) (Yh v)∧∃l,Yh v=.agg l∧WT P h d t l:=by
  rintro cs rfl;refine⟨?_,?_,_,rfl,wt⟩
  ·simp only[Yh,cv,zN,List.map_map]
   congr 1
   apply Array.ext';simp only[]
   conv=>rhs;rw[← List.map_id cs.toList]
   refine List.map_congr_left λv hv=>?_;exact(g v hv).1
  ·show aW _ _;rw[xx];intro u hu;obtain⟨z,hz,rfl⟩:=List.mem_map.1 hu;exact(g z hz).2
 have one:(∀cs:Array Value,v≠.agg cs)→cv GQ (Yh v)=v∧bm (y8 w) (Yh v)∧WT P h d t [Yh v]:=by
  intro hn;have hc:v.cells.toList=[v]:=by cases v<;>first |rfl |exact absurd rfl (hn _)
  have hi:Yh v=X7 v:=by cases v<;>first |rfl |exact absurd rfl (hn _)
  rw[hc]at g wt;rw[hi];exact⟨(g v aN).1,(g v aN).2,wt⟩
 unfold Value.okWide at hv
 split
 ·rename_i hu;simp only[hu]at hv;obtain⟨cs,rfl,_⟩:=hv;exact agg cs rfl
 ·rename_i hu;simp only[hu]at hv;obtain⟨cs,rfl,_⟩:=hv;exact agg cs rfl
 ·rename_i h1 h2;refine one ?_;rintro cs rfl
  split at hv
  ·rename_i hu;exact h1 _ hu
  ·rename_i hu;exact h2 _ _ hu
  ·unfold Cell.okWide at hv
   split at hv<;>first |(rename_i h3;cases h3;done) |(rename_i h3 _;cases h3;done) |skip
   all_goals unfold Cell.ok at hv
   all_goals split at hv<;>first |(rename_i h4;cases h4;done) |exact hv
theorem args_ok {H:Type} {enc:TypeId×Value→H} {P:Program} {w:World} {h:AH} (M:w7 w h) {r:Reach} {base d:Nat}:∀{ts:List TypeId} {vs:List Value} {ds:List (DataW H)} {ps:List MemPlace},
  ts.all (plainT P d)=true→(∀(j:Nat) t v,ts[j]? =some t→vs[j]? =some v→Value.okWide P w r base t v)→DataW.TrodAll enc P w 0 (λ_=>true) true ts vs ds ps→
  aS GQ (vs.map Yh)=vs∧aW (y8 w) (vs.map Yh)∧Dy P h d ts (vs.map Yh)∧ds.length=ts.length:=by
 intro ts
 induction ts with
 |nil=>
  intro vs ds ps _ _ e;cases vs<;>cases ds<;>simp only[DataW.TrodAll]at e
  exact⟨rfl,trivial,trivial,rfl⟩
 |cons t ts ih=>
  intro vs ds ps hp hv e;cases vs<;>cases ds<;>simp only[DataW.TrodAll]at e
  rename_i v vs x ds;obtain⟨p,q,h1,h2,_⟩:=e;simp only[List.all_cons,Bool.and_eq_true]at hp;obtain⟨a1,a2,a3⟩:=qYr M hp.1 (hv 0 t v rfl rfl) h1;obtain⟨b1,b2,b3,b4⟩:=ih hp.2 (λj t v h1 h2=>hv (j+1) t v (by simpa using h1) (by simpa using h2)) h2;exact⟨by simp only[List.map_cons,aS,a1,b1],⟨a2,b2⟩,⟨a3,b3⟩,by simp[b4]⟩
theorem args_stay {H:Type} {enc:TypeId×Value→H} {P:Program} {w w':World} {sp:Nat→Bool}:∀{ts:List TypeId} {vs:List Value} {ds:List (DataW H)} {ps:List MemPlace},
  (∀t∈ts,LH P t)→DataW.TrodAll enc P w 0 (λ_=>true) true ts vs ds ps→(∀k,k<w.heap.size→w'.heap[k]? =w.heap[k]?)→(∀p∈ps,p.block<w.heap.size)→(∀p∈ps,sp p.block=true)→
  DataW.TrodAll enc P w' 0 sp true ts vs ds ps:=by
 intro ts
 induction ts with
 |nil=>
  intro vs ds ps _ e _ _ _;cases vs<;>cases ds<;>simp only[DataW.TrodAll]at e ⊢
  exact e
 |cons t ts ih=>
  intro vs ds ps hp e hb au hs;cases vs<;>cases ds<;>simp only[DataW.TrodAll]at e ⊢
  rename_i v vs x ds;obtain⟨p,q,⟨fuel,h1⟩,h2,rfl⟩:=e;have hq:∀y,y∈p→y∈p++q:=λy hy=>List.mem_append.2 (.inl hy);refine⟨p,q,⟨fuel,?_⟩,ih (λt ht=>hp t (iX _ ht)) h2 hb (λy hy=>au y (List.mem_append.2 (.inr hy))) (λy hy=>hs y (List.mem_append.2 (.inr hy))),rfl⟩;refine DataW.trod_stays (qJs P) ?_ (λh=>by cases h) (hp t (iK ..)) h1 ?_ (λy hy=>hs y (hq y hy))
  ·rintro t e ⟨d,h⟩ hu;obtain⟨n,h⟩:=kC h;exact(XQ h hu).1
  ·intro y hy;have hk:=hb y.block (au y (hq y hy));cases y with
   |cell b off=>show World.cell? _ _=World.cell? _ _;unfold World.cell?;simp only[];rw[show w'.heap[b]? =w.heap[b]? from hk]
   |map b=>exact hk
end Go.Ae
