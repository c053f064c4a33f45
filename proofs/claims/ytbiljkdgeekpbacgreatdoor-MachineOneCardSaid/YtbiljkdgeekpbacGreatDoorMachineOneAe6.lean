/- The abstract executor of the program's form in Lean, shown sound: regions that draw their order: every order; the table's answers are the program's; a row's last step; the caller's cells. -/
import Derived.Test.YtbiljkdgeekpbacGreatDoorMachineOneAe5
import Derived.ChangeSame
import Derived.ChangeArms
import Derived.ChangeStays
namespace Go.Ae
open Go
structure Cx where
  P:Program
  c:CV
  n:Nat
  ops:Array Oper
  M:PT Nat
  LP:J8→Prop
  HP:JA→Prop
  F:Nat→Nat→Option AV
  H:Nat→AH
  V:Nat→AV
  W:Nat→Bool
  m0:Mp
  D0:Nat→Prop
  w0:World
  a0:Act
  hc:yI P c
  tr:Tr P c n ops LP HP F H V W
  st:Stat P ops M
  rel0:Rel P m0 D0 (H 0) w0
  gh:∀i,i≤ops.size→Gh P D0 H F i
  mono:∀i,i<ops.size→(H i).nx≤(H (i+1)).nx
  vin:∀i,i<ops.size→inD (Dg D0 H (i+1)) (V i)
  chk:∀i j oi oj,ops[i]? =some oi→ops[j]? =some oj→vh P oi.op=true→zi P oj.op=true→W i=true→W j=true→kg M i j=true→
    ∃a,Xo (evF (F i)) oi.op=some a∧zW a (gH P oi.op) (V i) (H j)=true∧zW a (gH P oi.op) (V i) (H (j+1))=true∧Kz a (H 0).nx=true
namespace Cx
variable (X:Cx)
def N:Nat:=X.ops.size
def nx (i:Nat):Nat:=(X.H i).nx
def heavyAt (i:Nat):Prop:=∃o,X.ops[i]? =some o∧zi X.P o.op=true
def dstOf (i:Nat):Option Tmp:=(X.ops[i]?).bind (·.dst)
def DS (s:Nat→Bool):Nat→Prop:=λb=>X.D0 b∨∃i,s i=true∧X.nx i≤b∧b<X.nx (i+1)
def FS (s:Nat→Bool):Nat→Nat→Option AV
 | 0,t=>X.F 0 t
 |i+1,t=>if s i=true∧X.dstOf i=some t then some (X.V i)else FS s i t
def ins (s:Nat→Bool) (i:Nat):Nat→Bool:=λj=>j==i||s j
variable {X}
theorem op_at {i:Nat} (h:i<X.N):∃o,X.ops[i]? =some o:=⟨_,Array.getElem?_eq_getElem h⟩
theorem Qr {i:Nat} {o:Oper} (h:X.ops[i]? =some o):i<X.N:=(Array.getElem?_eq_some_iff.1 h).1
theorem nxm {i j:Nat} (hij:i≤j) (hj:j≤X.N):X.nx i≤X.nx j:=by
  induction j with
  | zero => obtain rfl : i = 0 := by omega
            exact Nat.le_refl _
  |succ j ih=>
    by_cases h:i=j+1
    · subst h;exact Nat.le_refl _
    · exact Nat.le_trans (ih omQ omQ) (X.mono j (by unfold N at hj;omega))
theorem UK {o:Op} (h:zi X.P o=false):cls X.P o=.pure∨cls X.P o=.load∨cls X.P o=.fresh:=by
 unfold zi at h;cases hc:cls X.P o<;>simp only[hc]at h<;>simp
 all_goals exact absurd h osQ
theorem qQa {P:Program} {o:Op} (h:cls P o=.load):VQ o=true:=by
 cases o with
 |load t x=>rfl
 |convert s d x=>
  simp only[cls]at h
  split at h
  ·cases h
  ·split at h<;>cases h
  ·cases h
 |call cl=>
  simp only[cls]at h;cases hcl:cl.callee with
  |value f=>rw[hcl]at h;cases h
  |invoke a b=>rw[hcl]at h;cases h
  |builtin b=>
   rw[hcl]at h;cases b<;>first |(cases h;done) |skip
   simp only[]at h
   split at h
   ·split at h<;>cases h
   ·cases h
 |_=>simp only[cls,reduceCtorEq]at h
theorem kind {i:Nat} {o:Oper} (ho:X.ops[i]? =some o) (hh:zi X.P o.op=false) (hw:X.W i=true) :
  X.H (i+1)=X.H i∨∃mk x,qWL mk∧X.V i=mk (X.nx i)∧X.H (i+1)=(X.H i).new x∧∀g,opS X.P X.c o.op (evF (X.F i)) g=some (mk g.nx,g.new x):=by
 have hs:=(X.tr.step i o ho).1.yes hw;rcases UK hh with h |h |h
 ·cases hcut:J6 X.P o.op
  ·exact .inl (qJ2 h hcut hs).1
  ·exact .inl (OR hcut hs).1
 ·obtain⟨t,x,hox⟩:=YW (qQa h);rw[hox]at hs;exact .inl (Mq hs).1
 ·obtain⟨mk,x,h1,h2,h3,h4⟩:=NY h hs;exact .inr ⟨mk,x,h1,h2,h3,h4⟩
theorem vO {i j:Nat} (hij:i≤j) (hj:j≤X.N) (hn:∀k,i≤k→k<j→¬(X.heavyAt k∧X.W k=true)):∀b,b<X.nx i→(X.H j).get b=(X.H i).get b:=by
  induction j with
  | zero => obtain rfl : i = 0 := by omega
            intro b _;rfl
  |succ j ih=>
    intro b hb;by_cases h:i=j+1
    · subst h;rfl
    · have:=ih omQ omQ (λk h1 h2=>hn k h1 omQ) b hb;rw[← this];obtain⟨o,ho⟩:=X.op_at (show j<X.N by omega);cases hw:X.W j
      · rw[((X.tr.step j o ho).1.no hw).2]
      · have hh:zi X.P o.op=false:=by
          cases hh:zi X.P o.op
          · rfl
          · exact absurd ⟨⟨o,ho,hh⟩,hw⟩ (hn j omQ omQ)
        rcases kind ho hh hw with e |⟨mk,x,_,_,e,_⟩
        · rw[e]
        · rw[e];have:X.nx i≤X.nx j:=nxm omQ omQ;exact AH.get_new_ne _ _ (by unfold nx at*;omega)
theorem Xp {s:Nat→Bool} (down:∀i o,s i=true→X.ops[i]? =some o→∀e∈o.after,UB e=true→s e.on=true) (sN:∀i,s i=true→i<X.N) :
  ∀i k,s i=true→(zp X.M i).testBit k=true→s k=true:=by
 intro i
 induction i using Nat.strongRecOn with
 |_ i ih=>
  intro k hs hk;obtain⟨o,ho⟩:=X.op_at (sN i hs);obtain⟨e,he,hb,hlt,hk⟩:=X.st.mask i o k ho hk;have hse:=down i o hs ho e he hb;rcases hk with rfl |hk
  ·exact hse
  ·exact ih e.on hlt k hse hk
theorem qVE {i k:Nat} {o:Oper} (ho:X.ops[i]? =some o) (hk:(zp X.M i).testBit k=true):k<i:=by
 induction i using Nat.strongRecOn generalizing o with
 |_ i ih=>
  obtain⟨e,he,hb,hlt,hk⟩:=X.st.mask i o k ho hk;rcases hk with rfl |hk
  ·exact hlt
  ·obtain⟨o',ho'⟩:=X.op_at (show e.on<X.N by have:=Qr ho;omega);have:=ih e.on hlt ho' hk;omega
structure Rdy (X:Cx) (s:Nat→Bool) (i:Nat) (o:Oper):Prop where
  ho:X.ops[i]? =some o
  un:s i=false
  edges:∀e∈o.after,UB e=true→s e.on=true
  down:∀i o,s i=true→X.ops[i]? =some o→∀e∈o.after,UB e=true→s e.on=true
  sN:∀i,s i=true→i<X.N
variable {s:Nat→Bool} {i:Nat} {o:Oper}
theorem Rdy.mask (r:Rdy X s i o) {k:Nat} (hk:(zp X.M i).testBit k=true):s k=true:=by
 obtain⟨e,he,hb,hlt,hk⟩:=X.st.mask i o k r.ho hk;have hse:=r.edges e he hb;rcases hk with rfl |hk
 ·exact hse
 ·exact Xp r.down r.sN _ k hse hk
theorem Rdy.later (r:Rdy X s i o) {k:Nat} (hk:s k=true):(zp X.M k).testBit i=false:=by
 cases h:(zp X.M k).testBit i
 ·rfl
 ·have:=Xp r.down r.sN k i hk h;rw[r.un]at this;cases this
theorem Rdy.reads (r:Rdy X s i o) {t:Nat} (ht:(looks X.ops.toList o).testBit t=true):∀k,k≤X.N→X.FS s k t=X.F (min k i) t:=by
 intro k
 induction k with
 |zero=>intro _;simp[FS]
 |succ k ih=>
  intro hk;have ihk:=ih omQ;obtain⟨ok,hok⟩:=X.op_at (show k<X.N by omega);have hdst:X.dstOf k=ok.dst:=by unfold dstOf;rw[hok];rfl
  simp only[FS];rw[hdst];by_cases hki:k<i
  ·rw[show min (k+1) i=k+1 by omega];rw[show min k i=k by omega]at ihk;rw[(X.tr.step k ok hok).2];unfold upd;by_cases hd:ok.dst=some t
   ·rw[iJ hd];have hap:=X.st.apart k i ok o hki hok r.ho;have hsk:s k=true:=by
     rcases hap with h |⟨h,_⟩
     ·exact r.mask h
     ·have:=U0 h t (by rw[Jl];simp[hd]);rw[Nat.testBit_or,ht]at this;simp at this
    rw[iJ ⟨hsk,hd⟩]
   ·rw[iQ hd,iQ (λh=>hd h.2)];exact ihk
  ·rw[show min (k+1) i=i by omega];rw[show min k i=i by omega]at ihk;rw[iQ,ihk];rintro⟨hsk,hd⟩;have hne:k≠i:=λe=>by subst e;rw[r.un]at hsk;cases hsk
   have hap:=X.st.apart i k o ok omQ r.ho hok;rcases hap with h |⟨_,h⟩
   ·rw[r.later hsk]at h;cases h
   ·have:=U0 h t (by rw[Jl];simp[hd]);simp only[]at this;rw[ht]at this;cases this
theorem Rdy.read (r:Rdy X s i o) {t:Nat} (ht:(looks X.ops.toList o).testBit t=true):X.FS s X.N t=X.F i t:=by rw[r.reads ht _ (Nat.le_refl _),show min X.N i=i by have:=Qr r.ho;omega]
theorem Rdy.write (r:Rdy X s i o) (t:Nat):X.FS (ins s i) X.N t=if o.dst=some t then some (X.V i)else X.FS s X.N t:=by
 have hdi:X.dstOf i=o.dst:=by unfold dstOf;rw[r.ho];rfl
 have key:∀k,k≤X.N→X.FS (ins s i) k t=if i<k∧o.dst=some t then some (X.V i)else X.FS s k t:=by
  intro k
  induction k with
  |zero=>intro _;simp[FS]
  |succ k ih=>
   intro hk;have ihk:=ih omQ;simp only[FS];by_cases hki:k=i
   ·subst hki;have h1:ins s k k=true:=by simp[ins]
    rw[hdi,ihk,iQ (show¬(k<k∧_) by omega)];by_cases hd:o.dst=some t
    ·rw[iJ ⟨h1,hd⟩,iJ ⟨by omega,hd⟩]
    ·rw[iQ (λh=>hd h.2),iQ (λh=>hd h.2),iQ (λh=>hd h.2)]
   ·have h1:ins s i k=s k:=by simp[ins,hki]
    rw[h1,ihk];by_cases hc:s k=true∧X.dstOf k=some t
    ·rw[iJ hc];by_cases h2:i<k+1∧o.dst=some t
     ·exfalso;obtain⟨ok,hok⟩:=X.op_at (show k<X.N by omega);have hdk:ok.dst=some t:=by have:=hc.2;unfold dstOf at this;rw[hok]at this;exact this
      have hap:=X.st.apart i k o ok omQ r.ho hok;rcases hap with h |⟨h,_⟩
      ·rw[r.later hc.1]at h;cases h
      ·have:=U0 h t (by rw[Jl];simp[h2.2]);rw[Nat.testBit_or,Jl]at this;simp[hdk]at this
     ·rw[iQ h2,iJ hc]
    ·rw[iQ hc,iQ hc];by_cases h2:i<k∧o.dst=some t
     ·rw[iJ h2,iJ ⟨by omega,h2.2⟩]
     ·rw[iQ h2,iQ];rintro⟨h3,h4⟩;exact h2 ⟨by omega,h4⟩
 rw[key _ (Nat.le_refl _)];have:=Qr r.ho;by_cases hd:o.dst=some t
 ·rw[iJ ⟨this,hd⟩,iJ hd]
 ·rw[iQ (λh=>hd h.2),iQ hd]
theorem jQ6 (hs:∀i,i<X.N→s i=true):∀k,k≤X.N→X.FS s k=X.F k:=by
 intro k
 induction k with
 |zero=>intro _;rfl
 |succ k ih=>
  intro hk;obtain⟨o,ho⟩:=X.op_at (show k<X.N by omega)
  funext t
  simp only[FS];rw[ih omQ,(X.tr.step k o ho).2];have hdst:X.dstOf k=o.dst:=by unfold dstOf;rw[ho];rfl
  unfold upd;rw[hdst];by_cases hd:o.dst=some t
  ·rw[iJ ⟨hs k omQ,hd⟩,iJ hd]
  ·rw[iQ (λh=>hd h.2),iQ hd]
theorem qgb (hs:∀i,s i=false):∀k,X.FS s k=X.F 0:=by
 intro k
 induction k with
 |zero=>rfl
 |succ k ih=>funext t;simp only[FS];rw[hs k,ih];simp
end Cx
end Go.Ae
namespace Go.Ae
open Go
namespace Cx
variable {X:Cx} {s:Nat→Bool} {i q:Nat} {o:Oper} {a:Act} {w w':World} {m m':Mp} {C:AH}
structure Inv (X:Cx) (s:Nat→Bool) (q:Nat) (a:Act) (w:World) (m:Mp) (C:AH):Prop where
  qN:q≤X.N
  hq:q<X.N→X.heavyAt q
  hs:∀i,X.heavyAt i→(s i=true↔i<q)
  sN:∀i,s i=true→i<X.N
  down:∀i o,s i=true→X.ops[i]? =some o→∀e∈o.after,UB e=true→s e.on=true
  rl:Rel0 X.P m (X.DS s) C w
  cnx:X.nx X.N≤C.nx
  i1:∀b,X.DS s b→b<X.nx q→C.get b=(X.H q).get b
  i2:∀i,q≤i→s i=true→∀b,X.nx i≤b→b<X.nx (i+1)→C.get b=(X.H (i+1)).get b
  i3:∀i,i<q→s i=false→∀b,X.nx i≤b→b<X.nx (i+1)→(X.H q).get b=(X.H (i+1)).get b
  map:∀b,X.D0 b→m b=X.m0 b
  size:X.w0.heap.size≤w.heap.size
  keep:∀c,c<X.w0.heap.size→¬own X.m0 X.D0 (X.H 0) c→w.heap[c]? =X.w0.heap[c]? ∧¬own m (X.DS s) C c
  os:w.os=X.w0.os
  tape:w.tape=X.w0.tape
  output:w.output=X.w0.output
  tsz:X.n≤a.tmps.size
  slot:∀t v,X.FS s X.N t=some v→a.tmps[t]? =some (cv m v)∧inD (X.DS s) v
  df:a.defers=X.a0.defers
theorem qke {P:Program} {m0 m:Mp} {D0 D:Nat→Prop} {h0 h:AH} {w0 w:World} (r:GlR P m0 D0 h0 w0)
  (keep:∀c,c<w0.heap.size→¬own m0 D0 h0 c→w.heap[c]? =w0.heap[c]? ∧¬own m D h c):GlR P m D h w:=λp hp=>by
 obtain⟨g,h1,h2,h3⟩:=r p hp;obtain⟨k1,k2⟩:=Y1 (w':=w) h1 h2;obtain⟨e1,e2⟩:=keep g k1 h3;exact⟨g,h1,k2 e1,e2⟩
theorem Inv.rel (I:Inv X s q a w m C):Rel X.P m (X.DS s) C w:=⟨I.rl,qke X.rel0.gl I.keep⟩
theorem Xv {b:Nat} (h:X.D0 b):b<X.nx 0:=X.rel0.lt b h
theorem DS_ins {b:Nat}:X.DS (ins s i) b↔X.DS s b∨(X.nx i≤b∧b<X.nx (i+1)):=by
 unfold DS ins;constructor
 ·rintro(h |⟨j,hj,h⟩)
  ·exact .inl (.inl h)
  ·simp only[Bool.or_eq_true,beq_iff_eq]at hj;rcases hj with rfl |hj
   ·exact .inr h
   ·exact .inl (.inr ⟨j,hj,h⟩)
 ·rintro((h |⟨j,hj,h⟩) |h)
  ·exact .inl h
  ·exact .inr ⟨j,by simp[hj],h⟩
  ·exact .inr ⟨i,by simp,h⟩
theorem UU {b:Nat} (h:X.DS s b):X.DS (ins s i) b:=DS_ins.2 (.inl h)
theorem qyT (sN:∀i,s i=true→i<X.N) {b:Nat} (h:X.DS s b):b<X.nx X.N:=by
 rcases h with h |⟨j,hj,_,h⟩
 ·exact Nat.lt_of_lt_of_le (Xv h) (nxm (Nat.zero_le _) (Nat.le_refl _))
 ·exact Nat.lt_of_lt_of_le h (nxm (sN j hj) (Nat.le_refl _))
theorem qxo (sN:∀i,s i=true→i<X.N) (hi:i<X.N) (un:s i=false) {b:Nat} (h1:X.nx i≤b) (h2:b<X.nx (i+1)):¬X.DS s b:=by
 rintro(h |⟨j,hj,h3,h4⟩)
 ·have:=Xv h;have:=nxm (X:=X) (Nat.zero_le i) omQ;omega
 ·have:=sN j hj;rcases Nat.lt_trichotomy j i with hlt |rfl |hgt
  ·have:=nxm (X:=X) (show j+1≤i by omega) omQ;omega
  ·rw[un]at hj;cases hj
  ·have:=nxm (X:=X) (show i+1≤j by omega) omQ;omega
theorem qjs (sN:∀i,s i=true→i<X.N) {b:Nat} (h:X.DS s b) (hb:b<X.nx q):Dg X.D0 X.H q b:=by
 rcases h with h |⟨j,hj,h3,h4⟩
 ·exact .inl h
 ·refine .inr ⟨?_,hb⟩;have:=nxm (X:=X) (Nat.zero_le j) (Nat.le_of_lt (sN j hj));exact Nat.le_trans this h3
def DQ (X:Cx) (s:Nat→Bool) (q:Nat):Nat→Prop:=λb=>X.DS s b∧b<X.nx q
mutual
theorem UT {D D':Nat→Prop}:∀v:AV,inD D v→inD D' v→inD (λb=>D b∧D' b) v
 | .bool _,_,_=>trivial
 | .int _ _,_,_=>trivial
 | .str _,_,_=>trivial
 | .ptr b o,h,h'=>⟨h,h'⟩
 | .nilp,_,_=>trivial
 | .slice b o l c p,h,h'=>⟨h,h'⟩
 | .nils,_,_=>trivial
 | .fn f a c,h,h'=>by simp only[inD]at*;exact⟨QT a h.1 h'.1,QT c h.2 h'.2⟩
 | .yield l,h,h'=>⟨h,h'⟩
 | .nilf,_,_=>trivial
 | .iface t v,h,h'=>by simp only[inD]at*;exact UT v h h'
 | .nili,_,_=>trivial
 | .agg l,h,h'=>by simp only[inD]at*;exact QT l h h'
 | .tup l,h,h'=>by simp only[inD]at*;exact QT l h h'
 | .empt _,_,_=>trivial
 | .tail _ _ _ _,h,h'=>⟨h,h'⟩
 | .mapv _,h,h'=>⟨h,h'⟩
theorem QT {D D':Nat→Prop}:∀l:List AV,inDs D l→inDs D' l→inDs (λb=>D b∧D' b) l
 |[],_,_=>trivial
 |a::r,h,h'=>by simp only[inDs]at*;exact⟨UT a h.1 h'.1,QT r h.2 h'.2⟩
end
theorem qQ4 {D D':Nat→Prop} {x:Blk} (h:inDB D x) (h':inDB D' x):inDB (λb=>D b∧D' b) x:=by
 cases x<;>simp only[inDB]at* <;>first |exact QT _ h h' |exact⟨QT _ h.1 h'.1,h.2,h'.2⟩ |exact λi v hv=>UT v (h i v hv) (h' i v hv) |trivial
theorem Inv.dq_mono (I:Inv X s q a w m C) {v:AV} (h1:inD (X.DS s) v) {j:Nat} (hj:j≤q) (h2:inD (Dg X.D0 X.H j) v):inD (DQ X s q) v:=by
 refine kw (λb hb=>?_) v (UT v h1 h2);obtain⟨hb1,hb2⟩:=hb;refine⟨hb1,?_⟩;rcases hb2 with h |h
 ·exact Nat.lt_of_lt_of_le (Xv h) (nxm (Nat.zero_le _) I.qN)
 ·exact Nat.lt_of_lt_of_le h.2 (nxm hj I.qN)
theorem Inv.rel_at (I:Inv X s q a w m C):Rel X.P m (DQ X s q) (X.H q) w:=by
 refine⟨⟨?_,?_,?_,?_⟩,λp hp=>by
  obtain⟨g,h1,h2,h3⟩:=I.rel.gl p hp;refine⟨g,h1,h2,?_⟩;rintro⟨b,⟨hb,hlt⟩,hl,e⟩
  exact h3 ⟨b,hb,by unfold live at*;rw[I.i1 b hb hlt];exact hl,e⟩⟩
 ·rintro b ⟨hb,hlt⟩;obtain⟨x,hx,hxr,hxd⟩:=I.rel.blk b hb;rw[I.i1 b hb hlt]at hx;refine⟨x,hx,hxr,?_⟩;obtain⟨y,hy,hyd⟩:=(X.gh q I.qN).blk b (qjs I.sN hb hlt);rw[hx]at hy;cases hy;refine inDB.mono (λb hb=>?_) (qQ4 hxd hyd);refine⟨hb.1,?_⟩;rcases hb.2 with h |h
  ·exact Nat.lt_of_lt_of_le (Xv h) (nxm (Nat.zero_le _) I.qN)
  ·exact h.2
 ·rintro b b' ⟨hb,hlt⟩ ⟨hb',hlt'⟩ hl hl' e;refine I.rel.inj b b' hb hb' ?_ ?_ e
  ·unfold live at*;rw[I.i1 b hb hlt];exact hl
  ·unfold live at*;rw[I.i1 b' hb' hlt'];exact hl'
 ·rintro b ⟨hb,hlt⟩;exact hlt
 ·rintro b t ⟨hb,hlt⟩ hg ⟨b',⟨hb',hlt'⟩,hl',he⟩;refine I.rel.inp b t hb (by rw[I.i1 b hb hlt];exact hg) ⟨b',hb',?_,he⟩;unfold live at*;rw[I.i1 b' hb' hlt'];exact hl'
theorem Vx:ins s i i=true:=by simp[ins]
theorem Vd {j:Nat} (h:j≠i):ins s i j=s j:=by simp[ins,h]
theorem ZW {j:Nat} (h:s j=true):ins s i j=true:=by simp[ins,h]
theorem JC {j:Nat} (h:ins s i j=true):j=i∨s j=true:=by simpa[ins]using h
theorem Inv.rdy (I:Inv X s q a w m C) (ho:X.ops[i]? =some o) (un:s i=false) (edges:∀e∈o.after,UB e=true→s e.on=true):Rdy X s i o:=⟨ho,un,edges,I.down,I.sN⟩
theorem Rdy.down' (r:Rdy X s i o):∀j o',ins s i j=true→X.ops[j]? =some o'→∀e∈o'.after,UB e=true→ins s i e.on=true:=by
 intro j o' hj ho' e he hb;rcases JC hj with rfl |hj
 ·rw[r.ho]at ho';cases ho';exact ZW (r.edges e he hb)
 ·exact ZW (r.down j o' hj ho' e he hb)
theorem Rdy.sN' (r:Rdy X s i o):∀j,ins s i j=true→j<X.N:=by
 intro j hj;rcases JC hj with rfl |hj
 ·exact Qr r.ho
 ·exact r.sN j hj
theorem Inv.slot' (I:Inv X s q a w m C) (r:Rdy X s i o) {v:AV} (hv:X.V i=v) (hc:∀u,inD (X.DS s) u→cv m' u=cv m u) {z:Value} (hz:cv m' v=z) (hd:inD (X.DS (ins s i)) v) :
  X.n≤(a.put o.dst z).tmps.size∧(∀t u,X.FS (ins s i) X.N t=some u→(a.put o.dst z).tmps[t]? =some (cv m' u)∧inD (X.DS (ins s i)) u):=by
 subst hz;refine⟨?_,?_⟩
 ·cases o.dst with
  |none=>exact I.tsz
  |some d=>simp[Act.put];exact I.tsz
 ·intro t u hu;rw[r.write]at hu;by_cases hdt:o.dst=some t
  ·rw[iJ hdt]at hu;cases hu;rw[hv];refine⟨?_,hd⟩;have hlt:=Nat.lt_of_lt_of_le ((X.tr.step i o r.ho).1.dst t hdt) I.tsz;rw[hdt];simp[Act.put,Array.getElem?_setIfInBounds_self];exact hlt
  ·rw[iQ hdt]at hu;obtain⟨h1,h2⟩:=I.slot t u hu;refine⟨?_,kw (λb hb=>UU hb) u h2⟩;rw[hc u h2];cases hod:o.dst with
   |none=>exact h1
   |some d=>have hne:d≠t:=λe=>hdt (by rw[hod,e]);simp[Act.put,Array.getElem?_setIfInBounds_ne hne];exact h1
theorem Inv.pure (I : Inv X s q a w m C) (r : Rdy X s i o) (hh : ¬ X.heavyAt i) (hH : X.H (i + 1) = X.H i) (E : Ext m (X.DS s) C w m' (X.DS s) C w') (R' : Rel X.P m' (X.DS s) C w') (hv : inD (X.DS s) (X.V i)) :
    Inv X (ins s i) q (a.put o.dst (cv m' (X.V i))) w' m' C:=by
  have hD:X.DS (ins s i)=X.DS s:=by
    funext b
    refine propext (DS_ins.trans ⟨λh=>h.elim id λh=>?_,.inl⟩);unfold nx at h;rw[hH]at h;omega
  have hsl:=I.slot' r rfl (m':=m') (λu hu=>E.cv hu) rfl (by rw[hD];exact hv);have hiq:i≠q:=λe=>by subst e;exact hh (I.hq (Qr r.ho))
  refine { qN := I.qN, hq := I.hq, hs := ?_, sN := r.sN', down := r.down', rl := by rw [hD];exact R'.toRel0, cnx := I.cnx, i1 := by rw [hD];exact I.i1, i2 := ?_, i3 := ?_, map := ?_, size := Nat.le_trans I.size E.size, keep := ?_,
           os:=E.os.trans I.os,tape:=E.tape.trans I.tape,output:=E.output.trans I.output,tsz:=hsl.1,slot:=hsl.2,df:=by rw[wO];exact I.df }
  · intro j hj;rw[Vd (λe=>hh (by rw[← e];exact hj))];exact I.hs j hj
  · intro j hqj hj b h1 h2;rcases JC hj with rfl |hj
    · unfold nx at h1 h2;rw[hH]at h2;omega
    · exact I.i2 j hqj hj b h1 h2
  · intro j hjq hj b h1 h2;refine I.i3 j hjq ?_ b h1 h2;cases hsj:s j
    · rfl
    · rw[ZW hsj]at hj;cases hj
  · intro b hb;rw[E.map b (.inl hb)];exact I.map b hb
  · intro c hc hn;obtain⟨k1,k2⟩:=I.keep c hc hn;obtain⟨k3,k4⟩:=E.keep c (Nat.lt_of_lt_of_le hc I.size) k2;rw[hD];exact⟨k3.trans k1,k4⟩
end Cx
end Go.Ae
namespace Go.Ae
open Go
namespace Cx
variable {X:Cx} {s:Nat→Bool} {i q:Nat} {o:Oper} {a:Act} {w w':World} {m m':Mp} {C:AH}
theorem cv_mk {mk:Nat→AV} (h:qWL mk) {m m':Mp} {b b':Nat} (e:m b=m' b'):cv m (mk b)=cv m' (mk b'):=by
 rcases h with rfl |⟨l,k,rfl⟩
 ·simp only[cv,e]
 ·simp only[cv,e]
theorem qye {mk:Nat→AV} (h:qWL mk) {D:Nat→Prop} {b:Nat}:inD D (mk b)↔D b:=by
 rcases h with rfl |⟨l,k,rfl⟩<;>rfl
theorem Inv.fresh (I:Inv X s q a w m C) (r:Rdy X s i o) (hh:¬X.heavyAt i) {x:Blk} {mk:Nat→AV} (hmk:qWL mk) (hV:X.V i=mk (X.nx i)) (hH:X.H (i+1)=(X.H i).new x) {m1:Mp} {D1:Nat→Prop}
  (E:Ext m (X.DS s) C w m1 D1 (C.new x) w') (R1:Rel X.P m1 D1 (C.new x) w') :
  ∃m' C',Inv X (ins s i) q (a.put o.dst (cv m1 (mk C.nx))) w' m' C':=by
 have hi:=Qr r.ho;have hnx:X.nx (i+1)=X.nx i+1:=by unfold nx;rw[hH];rfl
 have hCi:X.nx (i+1)≤C.nx:=Nat.le_trans (nxm omQ (Nat.le_refl _)) I.cnx;have hD:∀b,X.DS (ins s i) b↔X.DS s b∨b=X.nx i:=λb=>DS_ins.trans ⟨λh=>h.imp id λh=>by omega,λh=>h.imp id λh=>by omega⟩;have hnot:¬X.DS s (X.nx i):=qxo I.sN hi r.un (Nat.le_refl _) omQ;have hlt:∀b,X.DS s b→b<C.nx:=λb hb=>I.rel.lt b hb;have hD1:∀b,D1 b↔X.DS s b∨b=C.nx:=λb=>(E.dm b).trans ⟨λh=>h.imp id λh=>by simp at h;omega,λh=>h.imp id λh=>by simp;omega⟩;have hm1:∀b,X.DS s b→m1 b=m b:=E.map;obtain⟨m',hm'⟩:∃m':Mp,m'=λb=>if b=X.nx i then m1 C.nx else m1 b:=⟨_,rfl⟩
 have hmn:m' (X.nx i)=m1 C.nx:=by rw[hm'];simp
 have hmo:∀b,b≠X.nx i→m' b=m1 b:=λb hb=>by rw[hm'];simp only[];rw[iQ hb]
 have hmd:∀b,X.DS s b→m' b=m b:=λb hb=>by rw[hmo b (λe=>hnot (e▸hb)),hm1 b hb]
 have hgo:∀b,b≠X.nx i→(C.put (X.nx i) x).get b=C.get b:=λb hb=>AH.get_put_ne C x (λe=>hb e.symm);have hgn:(C.put (X.nx i) x).get (X.nx i)=some x:=AH.get_put_same C _ x;have hgd:∀b,X.DS s b→(C.put (X.nx i) x).get b=C.get b:=λb hb=>hgo b (λe=>hnot (e▸hb));have hg1:∀b,X.DS s b→(C.new x).get b=C.get b:=λb hb=>AH.get_new_ne C x (by have:=hlt b hb;omega);have hg1n:(C.new x).get C.nx=some x:=AH.get_new_same C x;have hHn:(X.H (i+1)).get (X.nx i)=some x:=by rw[hH];exact AH.get_new_same _ _
 have hxd:inDB (X.DS s) x:=by
  obtain⟨y,hy,_,hyd⟩:=R1.blk C.nx ((hD1 _).2 (.inr rfl));rw[hg1n]at hy;cases hy;obtain⟨z,hz,hzd⟩:=(X.gh (i+1) hi).blk (X.nx i) (.inr ⟨nxm (Nat.zero_le _) omQ,by show X.nx i<X.nx (i+1);omega⟩);rw[hHn]at hz;cases hz;refine inDB.mono (λb hb=>?_) (qQ4 hyd hzd);rcases(hD1 b).1 hb.1 with h |h
  ·exact h
  ·exfalso;rcases hb.2 with h' |h'
   ·have:=Xv h';have:=nxm (X:=X) (Nat.zero_le (i+1)) omQ;omega
   ·have:b<X.nx (i+1):=h'.2;omega
 have hat:Nat→Nat:=λb=>if b=X.nx i then C.nx else b
 have hrel:Rel0 X.P m' (X.DS (ins s i)) (C.put (X.nx i) x) w':=by
  refine⟨?_,?_,?_,?_⟩
  ·intro b hb;rcases(hD b).1 hb with hb |rfl
   ·obtain⟨y,hy,hyr,hyd⟩:=R1.blk b ((hD1 b).2 (.inl hb));obtain⟨z,hz,_,hzd⟩:=I.rel.blk b hb;rw[hg1 b hb,hz]at hy;cases hy;refine⟨_,(hgd b hb).trans hz,?_,hzd.mono λb hb=>UU hb⟩;rw[hmd b hb,← hm1 b hb];exact hyr.congr (D:=X.DS s) (λb hb=>by rw[hmd b hb,hm1 b hb]) hzd rfl
   ·obtain⟨y,hy,hyr,hyd⟩:=R1.blk C.nx ((hD1 _).2 (.inr rfl));rw[hg1n]at hy;cases hy;refine⟨x,hgn,?_,hxd.mono λb hb=>UU hb⟩;rw[hmn];exact hyr.congr (D:=X.DS s) (λb hb=>by rw[hmd b hb,hm1 b hb]) hxd rfl
  ·intro b1 b2 h1 h2 l1 l2 he;rcases(hD b1).1 h1 with h1 |rfl<;>rcases(hD b2).1 h2 with h2 |rfl
   ·rw[hmd b1 h1,hmd b2 h2]at he;refine I.rel.inj b1 b2 h1 h2 ?_ ?_ he
    ·unfold live at*;rw[hgd b1 h1]at l1;exact l1
    ·unfold live at*;rw[hgd b2 h2]at l2;exact l2
   ·exfalso;rw[hmd b1 h1,hmn,← hm1 b1 h1]at he;have:=R1.inj b1 C.nx ((hD1 _).2 (.inl h1)) ((hD1 _).2 (.inr rfl)) (by unfold live at*;rw[hg1 b1 h1,← hgd b1 h1];exact l1) (by unfold live at*;rw[hg1n,← hgn];exact l2) he;have:=hlt b1 h1;omega
   ·exfalso;rw[hmd b2 h2,hmn,← hm1 b2 h2]at he;have:=R1.inj C.nx b2 ((hD1 _).2 (.inr rfl)) ((hD1 _).2 (.inl h2)) (by unfold live at*;rw[hg1n,← hgn];exact l1) (by unfold live at*;rw[hg1 b2 h2,← hgd b2 h2];exact l2) he;have:=hlt b2 h2;omega
   ·rfl
  ·intro b hb;rw[AH.nx_put];rcases(hD b).1 hb with hb |rfl
   ·exact hlt b hb
   ·omega
  ·rintro b t hb hg ⟨b',hb',hl',he⟩;have hA:∀b,X.DS (ins s i) b→∃a,D1 a∧m1 a=m' b∧(C.new x).get a=(C.put (X.nx i) x).get b:=by
    intro b hb;rcases(hD b).1 hb with hb |rfl
    ·exact⟨b,(hD1 b).2 (.inl hb),by rw[hmd b hb,hm1 b hb],by rw[hg1 b hb,hgd b hb]⟩
    ·exact⟨C.nx,(hD1 _).2 (.inr rfl),hmn.symm,by rw[hg1n,hgn]⟩
   obtain⟨a1,h1,h2,h3⟩:=hA b hb;obtain⟨a2,k1,k2,k3⟩:=hA b' hb';refine R1.inp a1 t h1 (h3.trans hg) ⟨a2,k1,?_,by rw[k2,h2];exact he⟩;unfold live at*;rw[k3];exact hl'
 have hval:cv m' (X.V i)=cv m1 (mk C.nx):=by rw[hV];exact cv_mk hmk hmn
 have hsl:=I.slot' r rfl (m':=m') (z:=cv m1 (mk C.nx)) (λu hu=>kL hmd u hu) hval (by rw[hV];exact(qye hmk).2 ((hD _).2 (.inr rfl)));have hiq:i≠q:=λe=>by subst e;exact hh (I.hq hi)
 refine⟨m',C.put (X.nx i) x,{ qN:=I.qN,hq:=I.hq,hs:=?_,sN:=r.sN',down:=r.down',rl:=hrel,cnx:=I.cnx,i1:=?_,i2:=?_,i3:=?_,map:=?_,size:=Nat.le_trans I.size E.size,keep:=?_,os:=E.os.trans I.os,tape:=E.tape.trans I.tape,output:=E.output.trans I.output,tsz:=hsl.1,slot:=hsl.2,df:=by rw[wO];exact I.df }⟩
 ·intro j hj;rw[Vd (λe=>hh (by rw[← e];exact hj))];exact I.hs j hj
 ·intro b hb hbq;rcases(hD b).1 hb with hb |rfl
  ·rw[hgd b hb];exact I.i1 b hb hbq
  ·rw[hgn];have hlq:i<q:=by
    rcases Nat.lt_or_ge i q with h |h
    ·exact h
    ·have:=nxm (X:=X) h omQ;omega
   rw[I.i3 i hlq r.un _ (Nat.le_refl _) omQ,hHn]
 ·intro j hqj hj b h1 h2;rcases JC hj with rfl |hj
  ·obtain rfl:b=X.nx j:=by omega
   rw[hgn,hHn]
  ·rw[hgo b,I.i2 j hqj hj b h1 h2];rintro rfl;exact hnot (.inr ⟨j,hj,h1,h2⟩)
 ·intro j hjq hj b h1 h2;refine I.i3 j hjq ?_ b h1 h2;cases hsj:s j
  ·rfl
  ·rw[ZW hsj]at hj;cases hj
 ·intro b hb;rw[hmd b (.inl hb)];exact I.map b hb
 ·intro c hc hn;obtain⟨k1,k2⟩:=I.keep c hc hn;obtain⟨k3,k4⟩:=E.keep c (Nat.lt_of_lt_of_le hc I.size) k2;refine⟨k3.trans k1,?_⟩;rintro⟨b,hb,hl,he⟩;rcases(hD b).1 hb with hb |rfl
  ·refine k2 ⟨b,hb,?_,by rw[← hmd b hb];exact he⟩;unfold live at*;rw[hgd b hb]at hl;exact hl
  ·refine k4 ⟨C.nx,(hD1 _).2 (.inr rfl),?_,by rw[← hmn];exact he⟩;unfold live at*;rw[hg1n,← hgn];exact hl
theorem qz9 (f:Nat→Option Blk) (T:Nat):∀N,∃h:AH,h.nx=T∧(∀b,b<N→h.get b=f b)∧∀b,N≤b→h.get b=none:=by
 intro N
 induction N with
 |zero=>exact⟨⟨T,[],.e⟩,rfl,λb hb=>by omega,λb _=>Trie.get_e b⟩
 |succ N ih=>
  obtain⟨h,h1,h2,h3⟩:=ih;cases hf:f N with
  |some x=>
   refine⟨h.put N x,h1,λb hb=>?_,λb hb=>?_⟩
   ·by_cases e:b=N
    ·subst e;rw[AH.get_put_same,hf]
    ·rw[AH.get_put_ne h x (λee=>e ee.symm)];exact h2 b omQ
   ·rw[AH.get_put_ne h x omQ];exact h3 b omQ
  |none=>
   refine⟨h,h1,λb hb=>?_,λb hb=>h3 b omQ⟩;by_cases e:b=N
   ·subst e;rw[hf];exact h3 b (Nat.le_refl _)
   ·exact h2 b omQ
theorem mk_heap (f:Nat→Option Blk) (T N:Nat):∃h:AH,h.nx=T∧∀b,b<N→h.get b=f b:=by obtain⟨h,h1,h2,_⟩:=qz9 f T N;exact⟨h,h1,h2⟩
theorem next_heavy (X:Cx) {q:Nat} (hq:q<X.N):∃q',q<q'∧q'≤X.N∧(q'<X.N→X.heavyAt q')∧∀k,q<k→k<q'→¬X.heavyAt k:=by
 have key:∀d q0,q<q0→q0+d=X.N→(∀k,q<k→k<q0→¬X.heavyAt k)→∃q',q<q'∧q'≤X.N∧(q'<X.N→X.heavyAt q')∧∀k,q<k→k<q'→¬X.heavyAt k:=by
  intro d
  induction d with
  |zero=>intro q0 h1 h2 h3;exact⟨q0,h1,by omega,λh=>by omega,h3⟩
  |succ d ih=>
   intro q0 h1 h2 h3;by_cases hh:X.heavyAt q0
   ·exact⟨q0,h1,by omega,λ_=>hh,h3⟩
   ·refine ih (q0+1) omQ omQ ?_;intro k hk1 hk2;by_cases e:k=q0
    ·subst e;exact hh
    ·exact h3 k hk1 omQ
 exact key (X.N-(q+1)) (q+1) omQ omQ (λk h1 h2=>by omega)
end Cx
end Go.Ae
namespace Go.Ae
open Go
namespace Cx
variable {X:Cx} {s:Nat→Bool} {i q:Nat} {o:Oper} {a:Act} {w w':World} {m m':Mp} {C:AH}
theorem Inv.heavy (I:Inv X s q a w m C) (r:Rdy X s q o) {m1:Mp} {D1:Nat→Prop} (E:Ext m (DQ X s q) (X.H q) w m1 D1 (X.H (q+1)) w') (R1:Rel X.P m1 D1 (X.H (q+1)) w') (hv:inD D1 (X.V q)) :
  ∃q' m' C',Inv X (ins s q) q' (a.put o.dst (cv m1 (X.V q))) w' m' C':=by
 have hq:=Qr r.ho;obtain⟨q',hqq,hqN,hqh,hqn⟩:=X.next_heavy hq;have hst:∀k,q+1≤k→k<q'→¬(X.heavyAt k∧X.W k=true):=λk h1 h2 h=>hqn k omQ h2 h.1;have hnq:X.nx q≤X.nx (q+1):=nxm omQ omQ;have hCq:X.nx (q+1)≤C.nx:=Nat.le_trans (nxm omQ (Nat.le_refl _)) I.cnx;have hD1:∀b,D1 b↔DQ X s q b∨(X.nx q≤b∧b<X.nx (q+1)):=E.dm;have hup:∀b,X.DS s b→b<X.nx q∨(X.nx (q+1)≤b∧∃j,q<j∧s j=true∧X.nx j≤b∧b<X.nx (j+1)):=by
  rintro b (h |⟨j,hj,h1,h2⟩)
  ·exact .inl (Nat.lt_of_lt_of_le (Xv h) (nxm (Nat.zero_le _) I.qN))
  ·have hjN:=I.sN j hj;rcases Nat.lt_trichotomy j q with hlt |rfl |hgt
   ·have:=nxm (X:=X) (show j+1≤q by omega) I.qN;exact .inl omQ
   ·rw[r.un]at hj;cases hj
   ·have:=nxm (X:=X) (show q+1≤j by omega) omQ;exact .inr ⟨by omega,j,hgt,hj,h1,h2⟩
 have hDS:∀b,X.DS (ins s q) b↔X.DS s b∨(X.nx q≤b∧b<X.nx (q+1)):=λb=>DS_ins;have hlow:∀b,b<X.nx (q+1)→(X.DS (ins s q) b↔D1 b):=by
  intro b hb;rw[hDS,hD1];constructor
  ·rintro(h |h)
   ·rcases hup b h with h' |⟨h',_⟩
    ·exact .inl ⟨h,h'⟩
    ·omega
   ·exact .inr h
  ·rintro(h |h)
   ·exact .inl h.1
   ·exact .inr h
 have hhigh:∀b,X.nx (q+1)≤b→X.DS (ins s q) b→X.DS s b:=λb hb h=>((hDS b).1 h).elim id λh=>by omega
 have hD1lt:∀b,D1 b→b<X.nx (q+1):=R1.lt;obtain⟨m',hm'⟩:∃m':Mp,m'=λb=>if b<X.nx (q+1)then m1 b else m b:=⟨_,rfl⟩
 have hml:∀b,b<X.nx (q+1)→m' b=m1 b:=λb hb=>by rw[hm'];simp only[];rw[iJ hb]
 have hmh:∀b,X.nx (q+1)≤b→m' b=m b:=λb hb=>by rw[hm'];simp only[];rw[iQ omQ]
 have hmd:∀b,X.DS s b→m' b=m b:=by
  intro b hb;rcases hup b hb with h |⟨h,_⟩
  ·rw[hml b omQ];exact E.map b ⟨hb,h⟩
  ·exact hmh b h
 obtain⟨C',hCx,hCg⟩:=mk_heap (λb=>if b<X.nx (q+1)then(X.H (q+1)).get b else C.get b) C.nx C.nx;have hCl:∀b,b<X.nx (q+1)→C'.get b=(X.H (q+1)).get b:=λb hb=>by rw[hCg b omQ,iJ hb]
 have hCh:∀b,X.nx (q+1)≤b→b<C.nx→C'.get b=C.get b:=λb hb hlt=>by rw[hCg b hlt,iQ omQ]
 have hDlt:∀b,X.DS s b→b<C.nx:=I.rel.lt;have hown:∀c,own m (DQ X s q) (X.H q) c→own m (X.DS s) C c:=by rintro c ⟨b,hb,hl,he⟩;exact⟨b,hb.1,by unfold live at*;rw[I.i1 b hb.1 hb.2];exact hl,he⟩
 have hfree:∀b,X.DS s b→X.nx (q+1)≤b→live C b→(m b).1<w.heap.size∧¬own m (DQ X s q) (X.H q) (m b).1:=by intro b hb hge hl;refine⟨I.rel.inside hb hl,?_⟩;rintro⟨b2,hb2,hl2,he⟩;have:=I.rel.inj b2 b hb2.1 hb (by unfold live at*;rw[I.i1 b2 hb2.1 hb2.2];exact hl2) hl he;have:=hb2.2;omega
 have hfreeI:∀b t,X.DS s b→C.get b=some (.inp t)→(m b).1<w.heap.size∧¬own m (DQ X s q) (X.H q) (m b).1:=by intro b t hb hg;obtain⟨y,hy,hyr,_⟩:=I.rel.blk b hb;rw[hg]at hy;cases hy;exact⟨hyr.insideI,λh=>I.rel.inp b t hb hg (hown _ h)⟩
 have hrel:Rel0 X.P m' (X.DS (ins s q)) C' w':=by
  refine⟨?_,?_,?_,?_⟩
  ·intro b hb;by_cases hlt:b<X.nx (q+1)
   ·obtain⟨y,hy,hyr,hyd⟩:=R1.blk b ((hlow b hlt).1 hb);refine⟨y,(hCl b hlt).trans hy,?_,hyd.mono λb hb=>(hlow b (hD1lt b hb)).2 hb⟩;rw[hml b hlt];exact hyr.congr (D:=D1) (λb hb=>hml b (hD1lt b hb)) hyd rfl
   ·have hge:X.nx (q+1)≤b:=by omega
    have hbs:=hhigh b hge hb;obtain⟨z,hz,hzr,hzd⟩:=I.rel.blk b hbs;refine⟨z,(hCh b hge (hDlt b hbs)).trans hz,?_,hzd.mono λb hb=>UU hb⟩;rw[hmh b hge];by_cases hzl:z.live
    ·obtain⟨f1,f2⟩:=hfree b hbs hge ⟨z,hz,hzl⟩;exact hzr.congr (D:=X.DS s) hmd hzd (E.keep _ f1 f2).1
    ·cases z<;>first |trivial |exact absurd trivial hzl |skip
     obtain⟨f1,f2⟩:=hfreeI b _ hbs hz;exact hzr.congr (D:=X.DS s) hmd hzd (E.keep _ f1 f2).1
  ·intro b1 b2 h1 h2 l1 l2 he;have mixed:∀b1 b2,X.DS (ins s q) b1→X.DS (ins s q) b2→live C' b1→live C' b2→(m' b1).1=(m' b2).1→b1<X.nx (q+1)→X.nx (q+1)≤b2→False:=by
    intro b1 b2 h1 h2 l1 l2 he hlt hge;have hs2:=hhigh b2 hge h2;have hl2:live C b2:=by unfold live at*;rw[← hCh b2 hge (hDlt b2 hs2)];exact l2
    obtain⟨f1,f2⟩:=hfree b2 hs2 hge hl2;refine(E.keep _ f1 f2).2 ⟨b1,(hlow b1 hlt).1 h1,?_,?_⟩
    ·unfold live at*;rw[← hCl b1 hlt];exact l1
    ·rw[← hml b1 hlt,← hmh b2 hge];exact he
   by_cases g1:b1<X.nx (q+1)<;>by_cases g2:b2<X.nx (q+1)
   ·rw[hml b1 g1,hml b2 g2]at he;exact R1.inj b1 b2 ((hlow b1 g1).1 h1) ((hlow b2 g2).1 h2) (by unfold live at*;rw[← hCl b1 g1];exact l1) (by unfold live at*;rw[← hCl b2 g2];exact l2) he
   ·exact(mixed b1 b2 h1 h2 l1 l2 he g1 omQ).elim
   ·exact(mixed b2 b1 h2 h1 l2 l1 he.symm g2 omQ).elim
   ·have s1:=hhigh b1 omQ h1;have s2:=hhigh b2 omQ h2;rw[hmd b1 s1,hmd b2 s2]at he;exact I.rel.inj b1 b2 s1 s2 (by unfold live at*;rw[← hCh b1 omQ (hDlt b1 s1)];exact l1) (by unfold live at*;rw[← hCh b2 omQ (hDlt b2 s2)];exact l2) he
  ·intro b hb;rw[hCx];exact Nat.lt_of_lt_of_le (qyT r.sN' hb) I.cnx
  ·rintro b1 t h1 hg ⟨b2,h2,l2,he⟩;by_cases g1:b1<X.nx (q+1)
   ·rw[hCl b1 g1]at hg;obtain⟨n1,n2⟩:=E.ni b1 t ((hlow b1 g1).1 h1) hg;by_cases g2:b2<X.nx (q+1)
    ·rw[hml b1 g1,hml b2 g2]at he;exact R1.inp b1 t ((hlow b1 g1).1 h1) hg ⟨b2,(hlow b2 g2).1 h2,by unfold live at*;rw[← hCl b2 g2];exact l2,he⟩
    ·have s2:=hhigh b2 omQ h2;have hg':C.get b1=some (.inp t):=by rw[I.i1 b1 n1.1 n1.2];exact n2
     rw[hmd b1 n1.1,hmd b2 s2]at he;exact I.rel.inp b1 t n1.1 hg' ⟨b2,s2,by unfold live at*;rw[← hCh b2 omQ (hDlt b2 s2)];exact l2,he⟩
   ·have s1:=hhigh b1 omQ h1;rw[hCh b1 omQ (hDlt b1 s1)]at hg;rw[hmd b1 s1]at he;by_cases g2:b2<X.nx (q+1)
    ·obtain⟨f1,f2⟩:=hfreeI b1 t s1 hg;refine(E.keep _ f1 f2).2 ⟨b2,(hlow b2 g2).1 h2,by unfold live at*;rw[← hCl b2 g2];exact l2,?_⟩;rw[← hml b2 g2];exact he
    ·have s2:=hhigh b2 omQ h2;rw[hmd b2 s2]at he;exact I.rel.inp b1 t s1 hg ⟨b2,s2,by unfold live at*;rw[← hCh b2 omQ (hDlt b2 s2)];exact l2,he⟩
 have hval:cv m' (X.V q)=cv m1 (X.V q):=kL (λb hb=>hml b (hD1lt b hb)) _ hv;have hsl:=I.slot' r rfl (m':=m') (z:=cv m1 (X.V q)) (λu hu=>kL hmd u hu) hval (kw (λb hb=>(hlow b (hD1lt b hb)).2 hb) _ hv);refine⟨q',m',C',{ qN:=hqN,hq:=hqh,hs:=?_,sN:=r.sN',down:=r.down',rl:=hrel,cnx:=by rw[hCx];exact I.cnx,i1:=?_,i2:=?_,i3:=?_,map:=?_,size:=Nat.le_trans I.size E.size,keep:=?_,os:=E.os.trans I.os,tape:=E.tape.trans I.tape,output:=E.output.trans I.output,tsz:=hsl.1,slot:=hsl.2,df:=by rw[wO];exact I.df }⟩
 ·intro j hj;by_cases hjq:j=q
  ·subst hjq;exact⟨λ_=>hqq,λ_=>Vx⟩
  ·rw[Vd hjq,I.hs j hj];constructor
   ·intro h;omega
   ·intro h;rcases Nat.lt_or_ge j q with h' |h'
    ·exact h'
    ·exact absurd hj (hqn j omQ h)
 ·intro b hb hbq;by_cases hlt:b<X.nx (q+1)
  ·rw[hCl b hlt,vO omQ hqN hst b hlt]
  ·have hge:X.nx (q+1)≤b:=by omega
   have hbs:=hhigh b hge hb;rcases hup b hbs with h |⟨_,j,hj1,hj2,hj3,hj4⟩
   ·omega
   ·rw[hCh b hge (hDlt b hbs),I.i2 j omQ hj2 b hj3 hj4];have hjN:=I.sN j hj2;have hjq:j<q':=by
     rcases Nat.lt_or_ge j q' with h |h
     ·exact h
     ·have:=nxm (X:=X) h omQ;omega
    rw[vO (X:=X) (show j+1≤q' by omega) hqN (λk h1 h2=>hst k omQ h2) b hj4]
 ·intro j hjq hj b h1 h2;rcases JC hj with rfl |hj
  ·omega
  ·have hjN:=I.sN j hj;have h3:=nxm (X:=X) (show q+1≤j by omega) omQ;have h4:=nxm (X:=X) (show j+1≤X.N by omega) (Nat.le_refl _);have h5:=I.cnx;rw[hCh b omQ omQ,I.i2 j omQ hj b h1 h2]
 ·intro j hjq hj b h1 h2;have hjne:j≠q:=λe=>by subst e;rw[Vx]at hj;cases hj
  rw[Vd hjne]at hj;rcases Nat.lt_or_gt_of_ne hjne with hlt |hgt
  ·have h3:=nxm (X:=X) (show j+1≤q by omega) I.qN;rw[vO (X:=X) (show q+1≤q' by omega) hqN hst b omQ];rw[(E.un b (show b<X.nx q by omega) (λh=>qxo I.sN omQ hj h1 h2 h.1)).1];exact I.i3 j hlt hj b h1 h2
  ·exact vO (X:=X) (show j+1≤q' by omega) hqN (λk g1 g2=>hst k omQ g2) b h2
 ·intro b hb;rw[hmd b (.inl hb)];exact I.map b hb
 ·intro c hc hn;obtain⟨k1,k2⟩:=I.keep c hc hn;obtain⟨k3,k4⟩:=E.keep c (Nat.lt_of_lt_of_le hc I.size) (λh=>k2 (hown c h));refine⟨k3.trans k1,?_⟩;rintro⟨b,hb,hl,he⟩;by_cases hlt:b<X.nx (q+1)
  ·exact k4 ⟨b,(hlow b hlt).1 hb,by unfold live at*;rw[← hCl b hlt];exact hl,by rw[← hml b hlt];exact he⟩
  ·have hbs:=hhigh b omQ hb;exact k2 ⟨b,hbs,by unfold live at*;rw[← hCh b omQ (hDlt b hbs)];exact hl,by rw[← hmd b hbs];exact he⟩
end Cx
end Go.Ae
namespace Go.Ae
open Go
namespace Cx
variable {X:Cx} {s:Nat→Bool} {i q:Nat} {o:Oper} {a:Act} {w w':World} {m m':Mp} {C:AH}
theorem qVh (p:Nat→Prop):∀hi lo,(∀k,lo≤k→k<hi→¬p k)∨∃k,lo≤k∧k<hi∧p k∧∀j,k<j→j<hi→¬p j:=by
 intro hi
 induction hi with
 |zero=>intro lo;exact .inl λk h1 h2=>by omega
 |succ hi ih=>
  intro lo;by_cases h:p hi∧lo≤hi
  ·exact .inr ⟨hi,h.2,by omega,h.1,λj h1 h2=>by omega⟩
  ·rcases ih lo with h1 |⟨k,k1,k2,k3,k4⟩
   ·refine .inl λk h2 h3 hp=>?_;by_cases e:k=hi
    ·subst e;exact h ⟨hp,h2⟩
    ·exact h1 k h2 omQ hp
   ·refine .inr ⟨k,k1,by omega,k3,λj h2 h3 hp=>?_⟩;by_cases e:j=hi
    ·subst e;exact h ⟨hp,by omega⟩
    ·exact k4 j h2 omQ hp
theorem VY (p:Nat→Prop):∀d lo,(∀k,lo≤k→k<lo+d→¬p k)∨∃k,lo≤k∧k<lo+d∧p k∧∀j,lo≤j→j<k→¬p j:=by
 intro d
 induction d with
 |zero=>intro lo;exact .inl λk h1 h2=>by omega
 |succ d ih=>
  intro lo;rcases ih lo with h1 |⟨k,k1,k2,k3,k4⟩
  ·by_cases h:p (lo+d)
   ·exact .inr ⟨lo+d,by omega,by omega,h,λj h2 h3=>h1 j h2 h3⟩
   ·refine .inl λk h2 h3 hp=>?_;by_cases e:k=lo+d
    ·subst e;exact h hp
    ·exact h1 k h2 omQ hp
  ·exact .inr ⟨k,k1,by omega,k3,k4⟩
theorem Inv.heavy_eq (I:Inv X s q a w m C) (r:Rdy X s i o) (hh:X.heavyAt i):i=q:=by
 have hge:q≤i:=by
  rcases Nat.lt_or_ge i q with h |h
  ·have:=(I.hs i hh).2 h;rw[r.un]at this;cases this
  ·exact h
 rcases Nat.lt_or_ge q i with h |h
 ·exfalso;have hi:=Qr r.ho;obtain⟨oq,hoq,hhq⟩:=I.hq omQ;obtain⟨oi,hoi,hhi⟩:=hh;have hcl:∀x y,ins s i x=true→(zp X.M x).testBit y=true→ins s i y=true:=λx y=>Xp r.down' r.sN' x y;have:=X.st.chain (λx=>ins s i x=true) hcl q i oq oi h hoq hoi hhq hhi Vx;rw[Vd omQ]at this;have:=(I.hs q ⟨oq,hoq,hhq⟩).1 this;omega
 ·omega
def hv (X:Cx) (k:Nat):Prop:=X.heavyAt k∧X.W k=true
theorem Inv.agree_lo (I:Inv X s q a w m C) (hiq:i≤q) (hn:∀k,i≤k→k<q→¬X.hv k):∀b,X.DS s b→b<X.nx i→C.get b=(X.H i).get b:=by intro b hb hlt;have:=nxm (X:=X) hiq I.qN;rw[I.i1 b hb omQ,vO hiq I.qN hn b hlt]
theorem Inv.agree_hi (I:Inv X s q a w m C) (hiq:q≤i) (hi:i≤X.N) (hn:∀k,q≤k→k<i→¬X.hv k):∀b,X.DS s b→b<X.nx i→C.get b=(X.H i).get b:=by
 intro b hb hlt;by_cases hbq:b<X.nx q
 ·rw[I.i1 b hb hbq,vO hiq hi hn b hbq]
 ·rcases hb with hb |⟨j,hj,h1,h2⟩
  ·have:=Xv hb;have:=nxm (X:=X) (Nat.zero_le q) I.qN;omega
  ·have hjN:=I.sN j hj;have hjq:q≤j:=by
    rcases Nat.lt_or_ge j q with h |h
    ·have:=nxm (X:=X) (show j+1≤q by omega) I.qN;omega
    ·exact h
   have hji:j<i:=by
    rcases Nat.lt_or_ge j i with h |h
    ·exact h
    ·have:=nxm (X:=X) h omQ;omega
   rw[I.i2 j hjq hj b h1 h2,vO (X:=X) (show j+1≤i by omega) hi (λk g1 g2=>hn k omQ g2) b h2]
theorem Rdy.loose_lo (I:Inv X s q a w m C) (r:Rdy X s i o) {k:Nat} (h1:i<k) (h2:k<q) (hk:X.heavyAt k):kg X.M i k=true:=by
 have hsk:=(I.hs k hk).2 h2;obtain⟨ok,hok,_⟩:=hk;have a1:(zp X.M i).testBit k=false:=by
  cases h:(zp X.M i).testBit k
  ·rfl
  ·have:=qVE r.ho h;omega
 have a2:=r.later hsk;simp[kg,a1,a2]
theorem Rdy.loose_hi (I:Inv X s q a w m C) (r:Rdy X s i o) {k:Nat} (h1:q≤k) (h2:k<i) (hk:X.heavyAt k):kg X.M i k=true:=by
 have hsk:s k=false:=by
  cases h:s k
  ·rfl
  ·have:=(I.hs k hk).1 h;omega
 obtain⟨ok,hok,_⟩:=hk;have a1:(zp X.M i).testBit k=false:=by
  cases h:(zp X.M i).testBit k
  ·rfl
  ·have:=r.mask h;rw[hsk]at this;cases this
 have a2:(zp X.M k).testBit i=false:=by
  cases h:(zp X.M k).testBit i
  ·rfl
  ·have:=qVE hok h;omega
 simp[kg,a1,a2]
theorem Yl {a:AV} {n:Option Nat} {v:AV} {h g:AH} (e:∀b off,a=.ptr b off→g.get b=h.get b) (e2:∀b off l i,a=.slice b off l i true→g.get b=h.get b) (hl:zW a n v h=true):zW a n v g=true:=by
 cases a<;>first |exact hl |skip
 ·rename_i b off;unfold zW at*;simp only[e b off rfl];exact hl
 ·rename_i b off l i o;cases o
  ·exact hl
  ·unfold zW at*;cases n with
   |none=>exact hl
   |some m=>simp only[yE]at*;rw[e2 b off l i rfl];exact hl
theorem Inv.load (I:Inv X s q a w m C) (r:Rdy X s i o) (hl:VQ o.op=true) (hw:X.W i=true) (hD:∀x v,evF (X.F i) x=some v→x∈o.op.operands→inD (X.DS s) v∧inD (Dg X.D0 X.H i) v) :
  opS X.P X.c o.op (evF (X.F i)) C=some (X.V i,C)∧X.H (i+1)=X.H i:=by
 have hi:=Qr r.ho;have hs:=(X.tr.step i o r.ho).1.yes hw;obtain⟨t,x,hox⟩:=YW hl;rw[hox]at hs ⊢;obtain⟨e1,b,off,hx,g1,g2⟩:=Mq hs;refine⟨?_,e1⟩;obtain⟨d1,d2⟩:=hD x _ hx (by rw[hox];simp[Op.operands]);have hbD:X.DS s b:=d1;have hbi:b<X.nx i:=by
  rcases(show Dg X.D0 X.H i b from d2)with h |h
  ·exact Nat.lt_of_lt_of_le (Xv h) (nxm (Nat.zero_le _) omQ)
  ·exact h.2
 have hnh:¬X.heavyAt i:=by rintro⟨o',ho',hh⟩;rw[r.ho]at ho';cases ho';rw[hox]at hh;cases hh
 have hchk:∀k,X.hv k→kg X.M i k=true→zW (.ptr b off) (gH X.P o.op) (X.V i) (X.H k)=true∧zW (.ptr b off) (gH X.P o.op) (X.V i) (X.H (k+1))=true∧b<X.nx 0:=by
  rintro k ⟨⟨ok,hok,hhk⟩,hwk⟩ hlo;obtain⟨z,hz,h1,h2,h3⟩:=X.chk i k o ok r.ho hok (by unfold vh;rw[hl];rfl) hhk hw hwk hlo;have:z=.ptr b off:=by rw[hox]at hz;have hz:evF (X.F i) x=some z:=hz;rw[hx]at hz;cases hz;rfl
  subst this;exact⟨h1,h2,zQ h3⟩
 have fin:∀k,k≤X.N→zW (.ptr b off) (gH X.P o.op) (X.V i) (X.H k)=true→C.get b=(X.H k).get b→opS X.P X.c (.load t x) (evF (X.F i)) C=some (X.V i,C):=by intro k _ h1 h2;refine g2 C ?_;rw[hox]at h1;exact Yl (λb' off' e=>by cases e;exact h2) (λ_ _ _ _ e=>by cases e) h1
 rcases Nat.lt_or_ge i q with h |h
 ·rcases qVh X.hv q i with hno |⟨k,k1,k2,k3,k4⟩
  ·exact g1 C (I.agree_lo omQ hno b hbD hbi)
  ·have hki:k≠i:=λe=>hnh (e▸k3.1);obtain⟨l1,l2,l3⟩:=hchk k k3 (Rdy.loose_lo I r omQ k2 k3.1);have z1:=nxm (X:=X) (Nat.zero_le q) I.qN;have z2:=nxm (X:=X) (Nat.zero_le (k+1)) (by have:=I.qN;omega);refine fin (k+1) (by have:=I.qN;omega) l2 ?_;rw[I.i1 b hbD omQ,vO (X:=X) (show k+1≤q by omega) I.qN (λj h1 h2=>k4 j omQ h2) b omQ]
 ·have hqi:q<i∨q=i:=by omega
  rcases VY X.hv (i-q) q with hno |⟨k,k1,k2,k3,k4⟩
  ·exact g1 C (I.agree_hi h omQ (λk h1 h2=>hno k h1 omQ) b hbD hbi)
  ·obtain⟨l1,l2,l3⟩:=hchk k k3 (Rdy.loose_hi I r k1 omQ k3.1);have z1:=nxm (X:=X) (Nat.zero_le q) I.qN;refine fin k omQ l1 ?_;rw[I.i1 b hbD omQ,vO (X:=X) k1 omQ k4 b omQ]
theorem Inv.cut (I:Inv X s q a w m C) (r:Rdy X s i o) (hl:J6 X.P o.op=true) (hh:¬X.heavyAt i) (hw:X.W i=true) (hD:∀x v,evF (X.F i) x=some v→x∈o.op.operands→inD (X.DS s) v∧inD (Dg X.D0 X.H i) v) :
  opS X.P X.c o.op (evF (X.F i)) C=some (X.V i,C)∧X.H (i+1)=X.H i:=by
 have hi:=Qr r.ho;have hs:=(X.tr.step i o r.ho).1.yes hw;obtain⟨e1,x,hx,u,hu,hu2,g1,g2⟩:=OR hl hs;refine⟨?_,e1⟩;by_cases hop:∃b off l k,u=.slice b off l k true
 rotate_left
 ·exact g1 C λb off l k e=>absurd ⟨b,off,l,k,e⟩ hop
 obtain⟨b,off,l,k0,rfl⟩:=hop;obtain⟨d1,d2⟩:=hD x _ hu hx;have hbD:X.DS s b:=d1;have hbi:b<X.nx i:=by
  rcases(show Dg X.D0 X.H i b from d2)with h |h
  ·exact Nat.lt_of_lt_of_le (Xv h) (nxm (Nat.zero_le _) omQ)
  ·exact h.2
 have hchk:∀k,X.hv k→kg X.M i k=true→zW (.slice b off l k0 true) (gH X.P o.op) (X.V i) (X.H k)=true∧zW (.slice b off l k0 true) (gH X.P o.op) (X.V i) (X.H (k+1))=true∧b<X.nx 0:=by rintro k ⟨⟨ok,hok,hhk⟩,hwk⟩ hlo;obtain⟨z,hz,h1,h2,h3⟩:=X.chk i k o ok r.ho hok (by unfold vh;rw[hl,Bool.or_true]) hhk hw hwk hlo;rw[hu2]at hz;cases hz;exact⟨h1,h2,zQ h3⟩
 have fin:∀k,k≤X.N→zW (.slice b off l k0 true) (gH X.P o.op) (X.V i) (X.H k)=true→C.get b=(X.H k).get b→opS X.P X.c o.op (evF (X.F i)) C=some (X.V i,C):=by intro k _ h1 h2;exact g2 C (Yl (λ_ _ e=>by cases e) (λb' off' l' k' e=>by cases e;exact h2) h1)
 rcases Nat.lt_or_ge i q with h |h
 ·rcases qVh X.hv q i with hno |⟨k,k1,k2,k3,k4⟩
  ·exact g1 C λb' off' l' k' e=>by cases e;exact I.agree_lo omQ hno b hbD hbi
  ·have hki:k≠i:=λe=>hh (e▸k3.1);obtain⟨l1,l2,l3⟩:=hchk k k3 (Rdy.loose_lo I r omQ k2 k3.1);have z1:=nxm (X:=X) (Nat.zero_le q) I.qN;have z2:=nxm (X:=X) (Nat.zero_le (k+1)) (by have:=I.qN;omega);refine fin (k+1) (by have:=I.qN;omega) l2 ?_;rw[I.i1 b hbD omQ,vO (X:=X) (show k+1≤q by omega) I.qN (λj h1 h2=>k4 j omQ h2) b omQ]
 ·rcases VY X.hv (i-q) q with hno |⟨k,k1,k2,k3,k4⟩
  ·exact g1 C λb' off' l' k' e=>by cases e;exact I.agree_hi h omQ (λk h1 h2=>hno k h1 omQ) b hbD hbi
  ·obtain⟨l1,l2,l3⟩:=hchk k k3 (Rdy.loose_hi I r k1 omQ k3.1);have z1:=nxm (X:=X) (Nat.zero_le q) I.qN;refine fin k omQ l1 ?_;rw[I.i1 b hbD omQ,vO (X:=X) k1 omQ k4 b omQ]
end Cx
end Go.Ae
namespace Go.Ae
open Go
namespace Cx
variable {X:Cx} {s:Nat→Bool} {i q:Nat} {o:Oper} {a:Act} {w w':World} {m m':Mp} {C:AH}
noncomputable def FL (X:Cx) (o:Oper) (i:Nat):Nat→Option AV:=λt=>if(looks X.ops.toList o).testBit t=true then X.F i t else none
theorem U7 {o:Oper} (i:Nat) (g:AH):opS X.P X.c o.op (evF (X.F i)) g=opS X.P X.c o.op (evF (X.FL o i)) g:=by
 refine qGC λx hx=>?_;cases x with
 |tmp t=>simp only[evF,FL];rw[iJ (Ya hx)]
 |_=>rfl
theorem O0 (I:Inv X s q a w m C) (r:Rdy X s i o) {t:Nat} {v:AV} (h:X.FL o i t=some v):a.tmps[t]? =some (cv m v)∧inD (X.DS s) v∧inD (Dg X.D0 X.H i) v:=by
 unfold FL at h
 split at h
 ·rename_i hb;obtain⟨h1,h2⟩:=I.slot t v (by rw[r.read hb];exact h);exact⟨h1,h2,(X.gh i (Nat.le_of_lt (Qr r.ho))).slot t v h⟩
 ·cases h
theorem qXi {D:Nat→Prop} (I:Inv X s q a w m C) (r:Rdy X s i o) (hD:∀v,inD (X.DS s) v→inD (Dg X.D0 X.H i) v→inD D v):OpV m D a.eval (evF (X.FL o i)):=by
 intro x v e;cases x with
 |tmp t=>obtain⟨h1,h2,h3⟩:=O0 I r e;refine⟨?_,hD v h2 h3⟩;simp only[Act.eval,Array.getD_eq_getD_getElem?,h1,Option.getD_some]
 |const k=>simp only[evF]at e;obtain⟨h1,h2⟩:=JX (m:=m) (D:=D) e;exact⟨h1.symm,h2⟩
 |global g=>simp only[evF,reduceCtorEq]at e
 |func f=>simp only[evF,Option.some.injEq]at e;subst e;exact⟨by simp[Act.eval,cv,cvs],trivial,trivial⟩
theorem qYC (I:Inv X s q a w m C) (r:Rdy X s i o):Region.wanted o (yielded X.ops a.tmps)=X.W i:=by
 obtain⟨st,_⟩:=X.tr.step i o r.ho;cases hg:o.guard with
 |none=>rw[st.g0 hg];unfold Region.wanted;rw[hg]
 |some g=>
  obtain⟨d,vg,h1,h2,h3⟩:=st.g1 g hg;have hF:X.FL o i d=some vg:=by unfold FL;rw[iJ (Zo hg h1)];exact h2
  obtain⟨h4,_⟩:=O0 I r hF;unfold kM at h1;rw[hg]at h1;simp only[Option.bind_some,yV,Array.getElem?_toList,Option.bind_eq_some_iff]at h1;obtain⟨p,hp,hpd⟩:=h1;have hy:yielded X.ops a.tmps g.1=(match cv m vg with | .bool b=>some b |_=>none):=by unfold yielded;simp only[hp,Option.bind_some,hpd,h4];generalize cv m vg=z;cases z<;>rfl
  rw[h3];cases hwv:kc vg g.2
  ·refine NP hg ?_;rw[hy];cases vg<;>simp only[cv]<;>first |(intro hh;cases hh;done) |skip
   simp only[kc]at hwv;simpa using hwv
  ·refine qvc hg ?_;rw[hy];cases vg<;>simp only[kc,Bool.false_eq_true]at hwv
   simp only[cv];simpa using hwv
theorem Inv.step (I:Inv X s q a w m C) (r:Rdy X s i o) {rc:Option Nat} {nn:Nat} {Q:Exit→Act→World→Prop} {K:Act→World→Prop}
  (hK:∀q' a' w' m' C',Inv X (ins s i) q' a' w' m' C'→K a' w'):wpOpIn (FW rc) nn X.P X.ops Q i K a w:=by
 have hi:=Qr r.ho;obtain⟨st,_⟩:=X.tr.step i o r.ho;unfold wpOpIn;rw[r.ho];simp only[qYC I r];cases hw:X.W i with
 |false=>
  simp only[Bool.false_eq_true,if_false];refine⟨λ_ _=>trivial,?_⟩;obtain⟨hV,hH⟩:=st.no hw;by_cases hh:X.heavyAt i
  ·obtain rfl:=I.heavy_eq r hh;obtain⟨q',m',C',I'⟩:=I.heavy r (m1:=m) (D1:=DQ X s i) (by rw[hH];exact Ext.refl ..) (by rw[hH];exact I.rel_at) (by rw[hV];trivial);rw[hV]at I';exact hK _ _ _ _ _ I'
  ·have I':=I.pure r hh hH (Ext.refl ..) I.rel (by rw[hV];trivial);rw[hV]at I';exact hK _ _ _ _ _ I'
 |true=>
  simp only[if_true];have hs:=st.yes hw;by_cases hh:X.heavyAt i
  ·obtain rfl:=I.heavy_eq r hh;rw[U7]at hs;refine qQE X.hc (qXi I r (λv h1 h2=>I.dq_mono h1 (Nat.le_refl _) h2)) I.rel_at hs ?_;intro m' D' w' E R' hv;obtain⟨q',m2,C2,I'⟩:=I.heavy r E R' hv;exact hK _ _ _ _ _ I'
  ·have hhv:zi X.P o.op=false:=by
    cases h:zi X.P o.op
    ·rfl
    ·exact absurd ⟨o,r.ho,h⟩ hh
   have quiet:opS X.P X.c o.op (evF (X.F i)) C=some (X.V i,C)→X.H (i+1)=X.H i→o.wpIn (FW rc) nn X.P a w K Q:=by
    intro e hH;rw[U7]at e;refine qQE X.hc (qXi I r (λv h1 _=>h1)) I.rel e ?_;intro m' D' w' E R' hv;have hD:D'=X.DS s:=by
     rw[E.dom_eq]
     funext b
     exact propext ⟨λh=>h.elim id λh=>by omega,.inl⟩
    subst hD;exact hK _ _ _ _ _ (I.pure r hh hH E R' hv)
   have hDs:∀x v,evF (X.F i) x=some v→x∈o.op.operands→inD (X.DS s) v∧inD (Dg X.D0 X.H i) v:=by
    intro x v hx hm;cases x with
    |tmp t=>
     have hF:X.FL o i t=some v:=by unfold FL;rw[iJ (Ya hm)];exact hx
     exact(O0 I r hF).2
    |const k=>exact⟨(JX (m:=m) hx).2,(JX (m:=m) hx).2⟩
    |global g=>cases hx
    |func f=>cases hx;exact⟨⟨trivial,trivial⟩,⟨trivial,trivial⟩⟩
   rcases UK hhv with hc |hc |hc
   ·cases hcut:J6 X.P o.op
    ·obtain⟨h1,h2⟩:=qJ2 hc hcut hs;exact quiet (h2 C) h1
    ·obtain⟨h1,h2⟩:=I.cut r hcut hh hw hDs;exact quiet h1 h2
   ·obtain⟨h1,h2⟩:=I.load r (qQa hc) hw hDs;exact quiet h1 h2
   ·obtain⟨mk,x,h1,h2,h3,h4⟩:=NY hc hs;have e:=h4 C;rw[U7]at e;refine qQE X.hc (qXi I r (λv h1 _=>h1)) I.rel e ?_;intro m' D' w' E R' hv;obtain⟨m2,C2,I'⟩:=I.fresh r hh h1 h2 h3 E R';exact hK _ _ _ _ _ I'
theorem names_cover (X:Cx):∀j,j≤X.N→∀b,X.nx 0≤b→b<X.nx j→∃i,i<j∧X.nx i≤b∧b<X.nx (i+1):=by
 intro j
 induction j with
 |zero=>intro _ b h1 h2;omega
 |succ j ih=>
  intro hj b h1 h2;by_cases h:b<X.nx j
  ·obtain⟨i,hi,h3⟩:=ih omQ b h1 h;exact⟨i,by omega,h3⟩
  ·exact⟨j,by omega,by omega,h2⟩
theorem Inv.done (I:Inv X s q a w m C) (hall:∀i,i<X.N→s i=true) {tm':PT AV} (ht:kp tm' (X.F X.N)) :
  qJE X.P X.m0 X.D0 (X.H 0) X.w0 X.n X.a0.defers a tm' m (DQ X s X.N) (X.H X.N) w:=by
 have hqN:q=X.N:=by
  rcases Nat.lt_or_ge q X.N with h |h
  ·have:=(I.hs q (I.hq h)).1 (hall q h);omega
  ·have:=I.qN;omega
 subst hqN;have hDQ:∀b,X.DS s b→DQ X s X.N b:=λb hb=>⟨hb,qyT I.sN hb⟩;have gN:=X.gh X.N (Nat.le_refl _);refine⟨⟨?_,I.map,I.size,?_,gN.nx,?_,I.os,I.tape,I.output,?_,λb t hb hg=>gN.ni b t (qjs I.sN hb.1 hb.2) hg⟩,I.rel_at,⟨I.tsz,?_⟩,I.df⟩
 ·intro b hb;exact hDQ b (.inl hb)
 ·intro c hc hn;obtain⟨k1,k2⟩:=I.keep c hc hn;refine⟨k1,?_⟩;rintro⟨b,hb,hl,he⟩;exact k2 ⟨b,hb.1,by unfold live at*;rw[I.i1 b hb.1 hb.2];exact hl,he⟩
 ·intro b hb hn;refine⟨gN.un b hb hn,?_⟩;rintro⟨h |⟨j,hj,h1,_⟩,_⟩
  ·exact hn h
  ·have:=nxm (X:=X) (Nat.zero_le j) (Nat.le_of_lt (I.sN j hj));have hb:b<X.nx 0:=hb;omega
 ·intro b;constructor
  ·rintro⟨h,hlt⟩;exact qjs I.sN h hlt
  ·rintro(h |⟨h1,h2⟩)
   ·exact hDQ b (.inl h)
   ·obtain⟨i,hi,h3,h4⟩:=X.names_cover X.N (Nat.le_refl _) b h1 h2;exact hDQ b (.inr ⟨i,hall i hi,h3,h4⟩)
 ·intro t v hv;have:=I.slot t v (by rw[jQ6 hall _ (Nat.le_refl _)];exact ht t v hv);exact⟨this.1,kw hDQ v this.2⟩
def cnt (N:Nat) (s:Nat→Bool):Nat:=((List.range N).filter λi=>!s i).length
theorem qw5 {N:Nat} (hi:i<N) (un:s i=false):cnt N (ins s i)<cnt N s:=by
 unfold cnt;have:(List.range N).filter (λj=>!ins s i j)=((List.range N).filter λj=>!s j).filter λj=>!(j==i):=by
  rw[List.filter_filter]
  congr 1
  funext j
  simp only[ins,Bool.not_or]
 rw[this];rw[List.length_filter_lt_length_iff_exists];exact⟨i,by simp[hi,un],by simp⟩
theorem qY1 {N:Nat} (h:cnt N s=0):∀i,i<N→s i=true:=by intro i hi;unfold cnt at h;rw[List.length_eq_zero_iff,List.filter_eq_nil_iff]at h;have:=h i (by simp[hi]);simpa using this
theorem qYE {listed:Array Bool} (hsz:listed.size=X.ops.size) (h:Region.ready .any X.ops listed=[]):∀i,i<X.N→listed.getD i false=true:=by
 intro i
 induction i using Nat.strongRecOn with
 |_ i ih=>
  intro hi;cases hl:listed.getD i false
  ·exfalso;obtain⟨o,ho⟩:=X.op_at hi;have:i∈Region.ready .any X.ops listed:=by
    rw[mem_ready];have hlt:i<listed.size:=by rw[hsz];exact hi
    refine⟨by simp[Array.getD,hlt]at hl ⊢;exact hl,o,ho,λe he hb=>?_⟩;have:=X.st.back i o ho e he hb;exact ih e.on this omQ
   rw[h]at this;cases this
  ·rfl
theorem any_ok {rc:Option Nat} {nn:Nat} {Q:Exit→Act→World→Prop} (hQ:∀s q a w m C,Inv X s q a w m C→(∀i,i<X.N→s i=true)→Q .normal a w) :
  ∀(fuel:Nat) (listed:Array Bool) (q:Nat) (a:Act) (w:World) (m:Mp) (C:AH),listed.size=X.ops.size→Inv X (λi=>listed.getD i false) q a w m C→cnt X.N (λi=>listed.getD i false)≤fuel→
   wpAnyIn (FW rc) nn X.P .any X.ops Q fuel listed a w:=by
 intro fuel
 induction fuel with
 |zero=>
  intro listed q a w m C hsz I hc;have hall:=qY1 (Nat.le_zero.1 hc);refine⟨?_,hQ _ q a w m C I hall⟩;rw[List.eq_nil_iff_forall_not_mem];intro i hi;obtain⟨h1,o,ho,_⟩:=mem_ready.1 hi;have hlt:=Qr ho;have h2:=hall i hlt;have hls:i<listed.size:=by rw[hsz];exact hlt
  simp[Array.getD,hls]at h1 h2;rw[h1]at h2;cases h2
 |succ fuel ih=>
  intro listed q a w m C hsz I hc;refine⟨λh=>hQ _ q a w m C I (qYE hsz h),?_⟩;intro i hi;obtain⟨h1,o,ho,h2⟩:=mem_ready.1 hi;have hlt:=Qr ho;have hls:i<listed.size:=by rw[hsz];exact hlt
  have un:listed.getD i false=false:=by simp[Array.getD,hls]at h1 ⊢;exact h1
  have hins:(λj=>(listed.setIfInBounds i true).getD j false)=ins (λj=>listed.getD j false) i:=by
   funext j
   by_cases e:j=i
   ·subst e;simp[ins,hls]
   ·rw[getD_set_ne false (λee=>e ee.symm)];simp[ins,e]
  refine I.step (I.rdy ho un h2) ?_;intro q' a' w' m' C' I';refine ih _ q' a' w' m' C' (by simpa using hsz) (by rw[hins];exact I') ?_;rw[hins];have:=qw5 (N:=X.N) (s:=λj=>listed.getD j false) hlt un;omega
theorem start (X:Cx) (hslot:∀t v,X.F 0 t=some v→X.a0.tmps[t]? =some (cv X.m0 v)∧inD X.D0 v) (hsz:X.n≤X.a0.tmps.size) {s:Nat→Bool} (hs:∀i,s i=false) :
  ∃q C,Inv X s q X.a0 { X.w0 with drawn:=X.w0.drawn+1 } X.m0 C:=by
 have hex:∃q,q≤X.N∧(q<X.N→X.heavyAt q)∧∀k,k<q→¬X.heavyAt k:=by
  rcases VY X.heavyAt X.N 0 with h |⟨k,h1,h2,h3,h4⟩
  ·exact⟨X.N,Nat.le_refl _,λh=>by omega,λk hk=>h k (Nat.zero_le _) omQ⟩
  ·exact⟨k,by omega,λ_=>h3,λj hj=>h4 j (Nat.zero_le _) hj⟩
 obtain⟨q,hq1,hq2,hq3⟩:=hex;have hst:∀i,∀k,i≤k→k<q→¬(X.heavyAt k∧X.W k=true):=λi k _ h2 h=>hq3 k h2 h.1;have hD:X.DS s=X.D0:=by
  funext b
  refine propext ⟨λh=>h.elim id ?_,.inl⟩;rintro⟨i,hi,_⟩;rw[hs i]at hi;cases hi
 have hno:∀i,s i=true→False:=λi h=>by rw[hs i]at h;cases h
 refine⟨q,⟨X.nx X.N,(X.H 0).rc,(X.H 0).t⟩,{ qN:=hq1,hq:=hq2,hs:=?_,sN:=λi h=>(hno i h).elim,down:=λi _ h=>(hno i h).elim,rl:=?_,cnx:=Nat.le_refl _,i1:=?_,i2:=λi _ h=>(hno i h).elim,i3:=?_,map:=λ_ _=>rfl,size:=Nat.le_refl _,keep:=?_,os:=rfl,tape:=rfl,output:=rfl,tsz:=hsz,slot:=?_,df:=rfl }⟩
 ·intro i hi;constructor
  ·intro h;exact(hno i h).elim
  ·intro h;exact absurd hi (hq3 i h)
 ·rw[hD];refine⟨?_,X.rel0.inj,λb hb=>Nat.lt_of_lt_of_le (Xv hb) (nxm (Nat.zero_le _) (Nat.le_refl _)),X.rel0.inp⟩;intro b hb;obtain⟨x,hx,hr,hd⟩:=X.rel0.blk b hb;exact⟨x,hx,hr.congr (D:=X.D0) (λ_ _=>rfl) hd rfl,hd⟩
 ·intro b hb hlt;rw[hD]at hb;rw[vO (X:=X) (Nat.zero_le q) hq1 (hst 0) b (Xv hb)];rfl
 ·intro i hi _ b h1 h2;exact vO (X:=X) (show i+1≤q by omega) hq1 (hst _) b h2
 ·intro c hc hn;rw[hD];exact⟨rfl,hn⟩
 ·intro t v hv;rw[qgb hs]at hv;rw[hD];exact hslot t v hv
end Cx
end Go.Ae
namespace Go.Ae
open Go
variable {P:Program} {c:CV}
theorem qWs {t:PT Nat} {i:Nat} {a v:AV} {n:Option Nat} {nx:Nat} {r:AV×AH}:∀(hs:List JA) (k:R),qz2 t i a n v nx hs k=some r→
  k=some r∧∀q∈hs,kg t i q.j=true→zW a n v q.hb=true∧zW a n v q.ha=true∧Kz a nx=true:=by
 intro hs
 induction hs with
 |nil=>intro k e;exact⟨e,λq hq=>by cases hq⟩
 |cons q hs ih=>
  intro k e;obtain⟨j,hb,ha⟩:=q;simp only[qz2]at e;cases hl:kg t i j
  ·rw[hl]at e;obtain⟨e1,e2⟩:=ih k e;refine⟨e1,λq' hq hl'=>?_⟩;rcases List.mem_cons.1 hq with rfl |hq
   ·have hl':kg t i j=true:=hl';rw[hl]at hl';cases hl'
   ·exact e2 q' hq hl'
  ·rw[hl]at e;simp only[cnd]at e;unfold Jz at e;rw[jY]at e;simp only[Bool.and_eq_true]at e;obtain⟨⟨g1,g2,g3⟩,e⟩:=e;obtain⟨e1,e2⟩:=ih k e;refine⟨e1,λq' hq hl'=>?_⟩;rcases List.mem_cons.1 hq with rfl |hq
   ·exact⟨g1,g2,g3⟩
   ·exact e2 q' hq hl'
theorem Zl {t:PT Nat} {hs:List JA} {nx:Nat} {r:AV×AH}:∀(ls:List J8) (k:R),Oi t hs nx ls k=some r→
  k=some r∧∀l∈ls,∀q∈hs,kg t l.i q.j=true→zW l.a l.n l.v q.hb=true∧zW l.a l.n l.v q.ha=true∧Kz l.a nx=true:=by
 intro ls
 induction ls with
 |nil=>intro k e;exact⟨e,λl hl=>by cases hl⟩
 |cons l ls ih=>
  intro k e;obtain⟨i,a,n,v⟩:=l;simp only[Oi]at e;obtain⟨e1,e2⟩:=qWs _ _ e;obtain⟨e3,e4⟩:=ih k e1;refine⟨e3,λl' hl=>?_⟩;rcases List.mem_cons.1 hl with rfl |hl
  ·exact e2
  ·exact e4 l' hl
theorem Oz (hm:P.follows .mixedOrders=true) (hc:yI P c) {n nn:Nat} {ops:Array Oper} {rc:Option Nat} {Q:Exit→Act→World→Prop} {r:AV×AH} {id:Nat}
  {m:Mp} {D:Nat→Prop} {h:AH} {w:World} {a:Act} {tm:PT AV} {k:PT AV→AH→R} (RR:Rel P m D h w) (T:TmR m D n a tm)
  (hk:∀m' D' h' w' a' tm',qJE P m D h w n a.defers a' tm' m' D' h' w'→k tm' h'=some r→Q .normal a' w')
  (hst:qK1 P ops=true) {LP:J8→Prop} {HP:JA→Prop} {F1:Nat→Option AV} {h1:AH} {tm1:PT AV} (S:Seg P c n ops LP HP 0 (λt=>tm.get t) h ops.size F1 h1) (T1:kp tm1 F1) (e1:k tm1 h1=some r)
  (hchk:∀l hr,LP l→HP hr→(∃oi,ops[l.i]? =some oi∧vh P oi.op=true)→(∃oj,ops[hr.j]? =some oj∧zi P oj.op=true)→kg (wz ops.toList 0 .e) l.i hr.j=true→
   zW l.a l.n l.v hr.hb=true∧zW l.a l.n l.v hr.ha=true∧Kz l.a h.nx=true):(Code.region id ops true).wpIn (FW rc) nn P Q a w:=by
 obtain⟨_,F,H,V,W,rfl',rfl'',hFN,hHN,hsteps⟩:=S.fns;have hlt:∀i o,ops[i]? =some o→i<ops.size:=λi o h=>(Array.getElem?_eq_some_iff.1 h).1;have tr:Tr P c n ops LP HP F H V W:=⟨λi o ho=>hsteps i o (Nat.zero_le _) (hlt i o ho) ho⟩;have hF0:∀t v,F 0 t=some v→a.tmps[t]? =some (cv m v)∧inD D v:=λt v hv=>by rw[rfl']at hv;exact T.at_ t v hv
 have hrel0:Rel P m D (H 0) w:=by rw[rfl''];exact RR
 have gh:=λi hi=>qqD hc tr hrel0 (λt v hv=>(hF0 t v hv).2) (i:=i) hi;have gm:=(qJN hc tr hrel0 (λt v hv=>(hF0 t v hv).2) ops.size (Nat.le_refl _)).2;have chk:∀i j oi oj,ops[i]? =some oi→ops[j]? =some oj→vh P oi.op=true→zi P oj.op=true→W i=true→W j=true→kg (wz ops.toList 0 .e) i j=true→
   ∃a,Xo (evF (F i)) oi.op=some a∧zW a (gH P oi.op) (V i) (H j)=true∧zW a (gH P oi.op) (V i) (H (j+1))=true∧Kz a (H 0).nx=true:=by
  intro i j oi oj hoi hoj hl hh hwi hwj hlo;obtain⟨sti,_⟩:=hsteps i oi (Nat.zero_le _) (hlt i oi hoi) hoi;obtain⟨stj,_⟩:=hsteps j oj (Nat.zero_le _) (hlt j oj hoj) hoj;obtain⟨z,hz,hLP⟩:=sti.ld hwi hl;have hHP:=stj.hv hwj hh;obtain⟨g1,g2,g3⟩:=hchk _ _ hLP hHP ⟨oi,hoi,hl⟩ ⟨oj,hoj,hh⟩ hlo;rw[rfl''];exact⟨z,hz,g1,g2,g3⟩
 let X:Cx:=⟨P,c,n,ops,wz ops.toList 0 .e,LP,HP,F,H,V,W,m,D,w,a,hc,tr,qkl hst,hrel0,gh,λi hi=>(gm i hi).1,λi hi=>(gm i hi).2,chk⟩
 refine wpIn_region_any hm ?_;obtain⟨q,C,I⟩:=Cx.start X hF0 T.size (s:=λi=>(Array.replicate ops.size false).getD i false) (λi=>by simp[Array.getD]);refine Cx.any_ok (X:=X) ?_ ops.size (Array.replicate ops.size false) q a _ m C (by simp;rfl) I ?_
 ·intro s q a' w' m' C' I' hall;have O:=I'.done hall (tm':=tm1) (by show kp tm1 (F ops.size);rw[hFN];exact T1);have O':qJE P m D h w n a.defers a' tm1 m' (Cx.DQ X s X.N) h1 w':=by
   have e0:X.H 0=h:=rfl'';have eN:X.H X.N=h1:=hHN;rw[e0,eN]at O;exact O
  exact hk m' _ h1 w' a' tm1 O' e1
 ·unfold Cx.cnt;refine Nat.le_trans (List.length_filter_le _ _) ?_;simp;exact Nat.le_refl _
theorem qVT (hm:P.follows .mixedOrders=true) (hc:yI P c):V5 P c:=by
 intro n nn ops Ls rc Q r id m D h w a tm k RR T e hk;simp only[qY7,jt]at e;obtain⟨hst,e⟩:=e;have hl:∀i o,ops.toList[i]? =some o→ops[0+i]? =some o:=λi o hi=>by simpa using hi
 have h0:kp tm (λt=>tm.get t):=λt v hv=>hv;cases hal:Xu P (vh P) (wz ops.toList 0 .e) ops.toList ops.toList 0
 ·rw[hal]at e;simp only[cnd]at e;obtain⟨tm1,h1,F1,e1,T1,S⟩:=qjR _ ops.toList 0 Ls tm _ h k hl h0 e;rw[Nat.zero_add,Array.length_toList]at S;refine Oz hm hc RR T hk hst S T1 e1 ?_;rintro l hr _ _ ⟨oi,hoi,hli⟩ ⟨oj,hoj,hhj⟩ hlo;have:=Mc _ _ hal l.i oi (by simpa using hoi) hli hr.j oj (by simpa using hoj) hhj;rw[Nat.zero_add,hlo]at this;cases this
 ·rw[hal]at e;simp only[cnd]at e;cases Ls with
  |nil=>cases e
  |cons L Ls=>simp only[yB]at e;obtain⟨tm1,h1,F1,ls',hs',e1,T1,_,_,S⟩:=qqN ops.toList 0 [] tm _ h [] [] _ hl h0 (λ_ hx=>(by cases hx)) e;obtain⟨e2,hchk⟩:=Zl _ _ e1;rw[jt]at e2;obtain⟨hall,e2⟩:=e2;have S:=S (λl=>l∈ls') (λq=>q∈hs') (λ_ h=>h) (λ_ h=>h);rw[Nat.zero_add,Array.length_toList]at S;refine Oz hm hc RR T hk hst S (qVi T1 L hall) e2 ?_;intro l hr hl hh _ _ hlo;exact hchk l hl hr hh hlo
theorem Z4 {tab:BT} {rt:List RT} (hm:P.follows .mixedOrders=true) (ht:TabOk P tab rt) (k:Nat):yI P (callT tab rt k) :=
 qY9 ht (λ_ hc=>qVT hm hc) k
theorem Rel.empty (P:Program) (m:Mp) (w:World) (hg:Gl P w):Rel P m (λ_=>False) AH.empty w:=⟨⟨λ_ hb=>hb.elim,λ_ _ hb=>hb.elim,λ_ hb=>hb.elim,λ_ _ hb=>hb.elim⟩,λp hp=>let ⟨g,h1,h2⟩:=hg p hp;⟨g,h1,h2,λ⟨_,hb,_⟩=>hb⟩⟩
theorem closed_true {tab:BT} {rt:List RT} (hm:P.follows .mixedOrders=true) (ht:TabOk P tab rt) {k:Nat} {f:FuncId} (e:isTrue (callT tab rt k (.fn f [] []) [] AH.empty)=true) (n:Nat) (w:World) (hg:Gl P w) :
  CallsIn Fence.wide n P f #[] w λe w'=>e=.returned (.bool true)∧RowKit.Below w.heap.size w w':=by
 unfold isTrue at e
 split at e
 rotate_left
 ·cases e
 rename_i h' he;have:=(Z4 hm ht k (.fn f [] []) [] AH.empty _ he (λ_=>(0,0)) _ w (Rel.empty P _ w hg) ⟨trivial,trivial⟩ trivial).2 n;refine CallsIn.mono this ?_;rintro ee w' ⟨m',D',rfl,X,R',_⟩;refine⟨rfl,X.os,X.tape,X.output,X.size,?_⟩;intro k hk;exact(X.keep k hk (λ⟨b,hb,_⟩=>hb)).1
end Go.Ae
namespace Go.Ae
open Go
variable {P:Program}
def callOk (P:Program) (f:Nat):Bool:=match P.funcs[f]? with
 | some fn => !(fn.name == "runtime.NumGoroutine") && !fn.body.isNone
 |none=>false
theorem qZf {f:Nat} (h:callOk P f=true) (as:Array Value) (W:World):(callFunc f as).run P W=.ok (.enter f as) W:=by
 unfold callOk at h
 split at h
 ·rename_i fn hf;simp only[Bool.and_eq_true,Bool.not_eq_true']at h;obtain⟨h1,h2⟩:=h;unfold callFunc;have hp:(program:Sem Program).run P W=.ok P W:=rfl;rw[qY hp];simp only[hf,h1,h2,Bool.false_eq_true,if_false];rfl
 ·cases h
theorem BT.get_leaf (g:Nat) (w:WF) (f:Nat):(BT.leaf g w).get f=if g=f then some w else none:=by
 show Bool.rec (motive:=λ_=>Option WF) none (some w) (Nat.beq g f)=_;by_cases h:g=f
 ·rw[iJ h,h,Nat.beq_refl]
 ·rw[iQ h,xR h]
theorem BT.get_node (m:Nat) (l r:BT) (f:Nat):(BT.node m l r).get f=l.get f∨(BT.node m l r).get f=r.get f:=by
 show Bool.rec (motive:=λ_=>Option WF) (r.get f) (l.get f) (Nat.ble f m)=_∨Bool.rec (motive:=λ_=>Option WF) (r.get f) (l.get f) (Nat.ble f m)=_;cases Nat.ble f m
 ·exact .inr rfl
 ·exact .inl rfl
theorem BT.get_ok {p:Nat→WF→Prop}:∀{t:BT} {f:Nat} {g:WF},t.all p→t.get f=some g→p f g∧f∈t.fs:=by
 intro t
 induction t with
 |no=>intro f g _ h;cases h
 |leaf k w=>
  intro f g ha h;rw[BT.get_leaf]at h;by_cases e:k=f
  ·rw[iJ e]at h;cases h;subst e;exact⟨ha,by simp[BT.fs]⟩
  ·rw[iQ e]at h;cases h
 |node m l r il ir=>
  intro f g ha h;rcases BT.get_node m l r f with hl |hr
  ·rw[hl]at h;obtain⟨h1,h2⟩:=il ha.1 h;exact⟨h1,by simp[BT.fs,h2]⟩
  ·rw[hr]at h;obtain⟨h1,h2⟩:=ir ha.2 h;exact⟨h1,by simp[BT.fs,h2]⟩
theorem TabOk.of {tab:BT} {rt:List RT} (h1:tab.all (WX P)) (h2:tab.fs.all (λf=>callOk P f)=true) (h3:∀p∈rt,VOk P p.f p.pos p.L p.run):TabOk P tab rt:=by
 refine⟨?_,?_,h3⟩
 ·intro f g hg;exact(BT.get_ok h1 hg).1
 ·intro f g hg as W;exact qZf (List.all_eq_true.1 h2 f (BT.get_ok h1 hg).2) as W
open Go.RowKit
theorem post_below {H:Type} {enc:TypeId×Value→H} {f:Func} {s:ChangeSpec} {apart fresh handsOn again:Bool} {W W':World} {args:Array Value} {v:Value} {ds gs:List (DataW H)} {before pa pv:List MemPlace}
  (whole:DataW.Whole enc P f.params.toList s.vars apart W args.toList ds gs before) (parts:before=pa++pv) (below:Below W.heap.size W W')
  (out:∀(b:Nat) (sp:Nat→Bool) (hd:Bool),DataW.TrodAll enc P W' b sp hd f.resultTypes.toList (v.resultList f.resultTypes.size) (s.fn H (ds++gs)).results [])
  (ins:∀sp:Nat→Bool,(∀p∈before,sp p.block=true)→DataW.TrodAll enc P W' 0 sp true f.params.toList args.toList (s.fn H (ds++gs)).args pa)
  (glb:∀sp:Nat→Bool,(∀p∈before,sp p.block=true)→DataW.TrodVars enc P W' sp s.vars (s.fn H (ds++gs)).vars pv)
  (wide:∀(j:Nat) (t:TypeId) (r:Value),f.resultTypes[j]? =some t→(v.resultList f.resultTypes.size)[j]? =some r→Value.okWide P W' .any 0 t r) :
  s.post enc P f apart fresh handsOn again W args v W':=by
 have inside:∀p∈before,p.block<W.heap.size:=λp hp=>whole.lt p hp;have mine:∀p∈before,(λb=>decide (b<W.heap.size)) p.block=true:=λp hp=>iG (inside p hp);have all:∀p∈before,(λ_:Nat=>true) p.block=true:=λ_ _=>rfl;have whole':=whole;obtain⟨_,_,_,_,_,live,once⟩:=whole';have hlist:([]++pa)++pv=before:=by rw[parts];rfl
 refine⟨ds,gs,before,[],pa,pv,whole,out _ _ _,ins _ mine,glb _ mine,?_,λ_=>⟨wide,_,_,([]++pa)++pv,⟨[]++pa,pv,ChangeShapes.trodAll_append (ins _ all) (out _ _ _),glb _ all,rfl,?_,?_⟩,?_⟩⟩
 ·refine World.keptBut_mono (λp hp=>?_) (below.frame (· ∈before));exact⟨hp,.inr (by rw[parts,List.mem_append]at hp;exact hp)⟩
 ·intro b off hp;have hin:MemPlace.cell b off∈before:=by rw[← hlist];simpa using hp
  rw[below.frozen (inside _ hin)];exact live b off hin
 ·intro ha;have:=once ha;rw[← hlist]at this;simpa using this
 ·intro p hp _;rw[← hlist];simpa using hp
end Go.Ae
namespace Go.Ae
open Go
theorem qwr {α:Type} (f:Nat→Option α):∀N,∃t:Trie α,∀i,Trie.get t i=if i<N then f i else none:=by
 intro N
 induction N with
 |zero=>exact⟨.e,λi=>by rw[iQ omQ];exact Trie.get_e i⟩
 |succ N ih=>
  obtain⟨t,ht⟩:=ih;cases hf:f N with
  |none=>
   refine⟨t,λi=>?_⟩;rw[ht];by_cases h1:i<N
   ·rw[iJ h1,iJ omQ]
   ·rw[iQ h1];by_cases h2:i=N
    ·subst h2;rw[iJ omQ,hf]
    ·rw[iQ omQ]
  |some x=>
   refine⟨Trie.set t N x,λi=>?_⟩;rw[Trie.get_set];by_cases h:N=i
   ·subst h;rw[iJ rfl,iJ omQ,hf]
   ·rw[iQ h,ht];by_cases h1:i<N
    ·rw[iJ h1,iJ omQ]
    ·rw[iQ h1,iQ omQ]
def Y0:Value→AV
 | .bool b=>.bool b
 | .int k n=>.int k n
 | .string s=>.str s.data.toList
 | .pointer none=>.nilp
 | .pointer (some ⟨b,o,none⟩)=>.ptr b o
 | .slice none 0 0=>.nils
 | .slice (some a) 0 0=>.empt a
 | .slice (some ⟨b,o,none⟩) len cap=>.slice b o len cap false
 | .nilFunc=>.nilf
 | .nilIface=>.nili
 |_=>.undef
def Gd:Value→AV
 | .agg cs=>.agg (cs.toList.map Y0)
 |v=>Y0 v
def Kx:Mp:=λb=>(b,0)
def vP (w:World) (b:Nat):Prop:=∃C e fr,w.heap[b]? =some (.cells C e fr)
def qJd (w:World) (v:Value):Prop:=cv Kx (Y0 v)=v∧inD (vP w) (Y0 v)
structure kT (w:World) (h:AH):Prop where
  nx:h.nx=w.heap.size
  blk:∀b C e fr,w.heap[b]? =some (.cells C e fr)→∃t,h.get b=some (.inp t)∧∀i u,Trie.get t i=some u↔∃v,C[i]? =some v∧qJd w v∧u=Y0 v
theorem mirror (w:World):∃h,kT w h:=by
 have key:∀b:Nat,∃x:Option Blk,∀(C:Array Value) (e:TypeId) (fr:Nat×Nat),w.heap[b]? =some (.cells C e fr)→∃t,x=some (.inp t)∧∀i u,Trie.get t i=some u↔∃v,C[i]? =some v∧qJd w v∧u=Y0 v:=by
  intro b;by_cases hc:vP w b
  ·obtain⟨C,e,fr,hb⟩:=hc;have cl:∀v,Decidable (qJd w v):=λv=>Classical.propDecidable _;obtain⟨t,ht⟩:=qwr (λi=>(C[i]?).bind λv=>if qJd w v then some (Y0 v)else none) C.size;refine⟨some (.inp t),λC' e' fr' hb'=>⟨t,rfl,λi u=>?_⟩⟩;rw[hb]at hb';cases hb';rw[ht];by_cases hi:i<C.size
   ·rw[iJ hi];simp only[Array.getElem?_eq_getElem hi,Option.bind_some];by_cases hg:qJd w C[i]
    ·rw[iJ hg];exact⟨λh=>⟨_,rfl,hg,(Option.some.inj h).symm⟩,λ⟨v,h1,_,h3⟩=>by cases h1;rw[h3]⟩
    ·rw[iQ hg];exact⟨λh=>(by cases h),λ⟨v,h1,h2,_⟩=>by cases h1;exact absurd h2 hg⟩
   ·rw[iQ hi];exact⟨λh=>(by cases h),λ⟨v,h1,_,_⟩=>by rw[Array.getElem?_eq_none omQ]at h1;cases h1⟩
  ·exact⟨none,λC e fr hb=>absurd ⟨C,e,fr,hb⟩ hc⟩
 obtain⟨h,h1,h2⟩:=Cx.mk_heap (λb=>Classical.choose (key b)) w.heap.size w.heap.size;refine⟨h,h1,λb C e fr hb=>?_⟩;rw[h2 b (Array.getElem?_eq_some_iff.1 hb).1];exact Classical.choose_spec (key b) C e fr hb
theorem kT.noLive {w:World} {h:AH} (M:kT w h) {b:Nat} (hb:vP w b):¬live h b:=by obtain⟨C,e,fr,hc⟩:=hb;obtain⟨t,ht,_⟩:=M.blk b C e fr hc;rintro⟨x,hx,hl⟩;rw[ht]at hx;cases hx;exact hl
theorem kT.rel0 {P:Program} {w:World} {h:AH} (M:kT w h):Rel0 P Kx (vP w) h w:=by
 refine⟨?_,λb _ hb _ hl=>(M.noLive hb hl).elim,?_,?_⟩
 ·intro b hb;obtain⟨C,e,fr,hc⟩:=hb;obtain⟨t,ht,hi⟩:=M.blk b C e fr hc;refine⟨_,ht,⟨C.toList,e,fr,by simpa[Kx]using hc,?_⟩,?_⟩
  ·intro i v hv;obtain⟨u,h1,h2,rfl⟩:=(hi i v).1 hv;rw[h2.1];simpa using h1
  ·intro i v hv;obtain⟨u,h1,h2,rfl⟩:=(hi i v).1 hv;exact h2.2
 ·rintro b ⟨C,e,fr,hc⟩;rw[M.nx];exact(Array.getElem?_eq_some_iff.1 hc).1
 ·rintro b t _ _ ⟨b',hb',hl,_⟩;exact M.noLive hb' hl
theorem kT.rel {P:Program} {w:World} {h:AH} (M:kT w h) (hg:Gl P w):Rel P Kx (vP w) h w :=
 ⟨M.rel0,λp hp=>let ⟨g,h1,h2⟩:=hg p hp;⟨g,h1,h2,λ⟨_,hb,hl,_⟩=>M.noLive hb hl⟩⟩
noncomputable def AH.at (h:AH) (b i:Nat):Option AV:=match h.get b with
 |some (.cells c _ _)=>c.get1 i
 |some (.inp t)=>Trie.get t i
 |_=>none
def WT (P:Program) (h:AH):Nat→TypeId→List AV→Prop
 | 0,_,_=>False
 |d+1,t,cs=>match P.underlying t with
  |some .bool=>∃b,cs=[.bool b]
  |some (.int k)=>∃n,cs=[.int k n]∧k.min≤n∧n≤k.max
  |some .string=>∃s,cs=[.str s]∧s.length≤maxLen
  |some (.slice e)=>cs=[.nils]∨(∃a,cs=[.empt a])∨P.cellsOf e=0∨∃b off len cap,cs=[.slice b off len cap false]∧len≤cap∧cap≤maxLen∧b<h.nx∧(∃t,h.get b=some (.inp t))∧
    ∀i,i<len→∃row,row.length=P.cellsOf e∧(∀j,j<P.cellsOf e→h.at b (off+i*P.cellsOf e+j)=row[j]?)∧WT P h d e row
  |some (.struct fs)=>cs.length=P.cellsOf t∧∀f∈fs.toList,WT P h d f.type ((cs.drop f.offset).take (P.cellsOf f.type))
  |some (.array n e)=>cs.length=P.cellsOf t∧∀i,i<n→WT P h d e ((cs.drop (i*P.cellsOf e)).take (P.cellsOf e))
  |_=>True
def Gg (P:Program):Nat→List Field→Option Nat
 |c,[]=>some c
 |c,f::r=>if f.offset=c then Gg P (c+P.cellsOf f.type) r else none
def plainT (P:Program):Nat→TypeId→Bool
 | 0,_=>false
 |d+1,t=>match P.underlying t with
  |some .bool |some (.int _) |some .string=>true
  |some (.slice e)=>Nat.ble 1 (P.cellsOf e)&&plainT P d e
  |some (.struct fs)=>(Gg P 0 fs.toList==some (P.cellsOf t))&&fs.toList.all λf=>plainT P d f.type
  |_=>false
theorem qys {k:IntKind} {n:Int} (h:(Lit.int k n).wf=true):k.min≤n∧n≤k.max:=by simpa[Lit.wf]using h
theorem qGu {P:Program}:∀{l:List Field} {c e:Nat},Gg P c l=some e→c≤e∧∀i,c≤i→i<e→∃f∈l,f.offset≤i∧i<f.offset+P.cellsOf f.type:=by
 intro l
 induction l with
 |nil=>intro c e h;cases h;exact⟨Nat.le_refl _,λi h1 h2=>by omega⟩
 |cons f l ih=>
  intro c e h;unfold Gg at h
  split at h
  ·rename_i hf;obtain⟨h1,h2⟩:=ih h;refine⟨by omega,λi h3 h4=>?_⟩;by_cases h5:i<c+P.cellsOf f.type
   ·exact⟨f,iK ..,by omega,by omega⟩
   ·obtain⟨g,hg,h6⟩:=h2 i omQ h4;exact⟨g,iX _ hg,h6⟩
  ·cases h
theorem qv9 {w:World} {h:AH} (M:kT w h) {b o:Nat} {v:Value} (hc:w.cell? ⟨b,o,none⟩=some v) (hg:qJd w v):h.at b o=some (Y0 v)∧vP w b:=by
 unfold World.cell? at hc
 split at hc
 ·rename_i C e fr hb;simp at hc;obtain⟨t,ht,hi⟩:=M.blk b C e fr hb;refine⟨?_,C,e,fr,hb⟩;unfold AH.at
  rw[ht];exact(hi o _).2 ⟨v,by simpa using hc,hg,rfl⟩
 ·cases hc
theorem qYl {w:World} {a:Addr} {v:Value} (hc:w.cell? a=some v):a.spot=none:=by
 unfold World.cell? at hc
 split at hc
 ·cases hs:a.spot with
  |none=>rfl
  |some _=>rw[hs]at hc;simp at hc
 ·cases hc
theorem QG {P:Program} {d:Nat} {t:TypeId} (h:plainT P d t=true):∃n,plainT P (n+1) t=true:=by
 cases d with
 |zero=>cases h
 |succ d=>exact⟨d,h⟩
theorem Xl {P:Program} {d:Nat} {t e:TypeId} (h:plainT P (d+1) t=true) (hu:P.underlying t=some (.slice e)):0<P.cellsOf e∧plainT P d e=true:=by unfold plainT at h;simp only[hu,Bool.and_eq_true]at h;exact⟨ga h.1,h.2⟩
theorem GU {P:Program} {d:Nat} {t:TypeId} {fs:Array Field} (h:plainT P (d+1) t=true) (hu:P.underlying t=some (.struct fs)) :
  Gg P 0 fs.toList=some (P.cellsOf t)∧∀f∈fs.toList,plainT P d f.type=true:=by
 unfold plainT at h;simp only[hu,Bool.and_eq_true,beq_iff_eq,List.all_eq_true]at h;exact h
theorem qZ0 {P:Program}:∀{l:List Field} {c e:Nat},Gg P c l=some e→e=c+(l.map λf=>P.cellsOf f.type).sum∧∀(j:Nat) f,l[j]? =some f→f.offset=c+((l.take j).map λf=>P.cellsOf f.type).sum:=by
 intro l
 induction l with
 |nil=>intro c e h;cases h;exact⟨by simp,λj f h=>by simp at h⟩
 |cons g l ih=>
  intro c e h;unfold Gg at h
  split at h
  ·rename_i hf;obtain⟨h1,h2⟩:=ih h;refine⟨by simp[h1];omega,λj f hj=>?_⟩;cases j with
   |zero=>simp at hj;subst hj;simpa using hf
   |succ j=>simp at hj;rw[h2 j f hj];simp;omega
  ·cases h
def qxE (P:Program) (t:TypeId):Prop:=∃d,plainT P d t=true
theorem qX7 (P:Program):Kids P (qxE P):=by
 refine⟨?_,?_,?_,?_,?_⟩
 ·rintro t e ⟨d,h⟩ hu;obtain⟨n,h⟩:=QG h;unfold plainT at h;simp only[hu,Bool.false_eq_true]at h
 ·rintro t e ⟨d,h⟩ hu;obtain⟨n,h⟩:=QG h;exact⟨n,(Xl h hu).2⟩
 ·rintro t e n ⟨d,h⟩ hu;obtain⟨n,h⟩:=QG h;unfold plainT at h;simp only[hu,Bool.false_eq_true]at h
 ·rintro t fs ⟨d,h⟩ hu;obtain⟨n,h⟩:=QG h;obtain⟨h1,h2⟩:=GU h hu;obtain⟨h3,h4⟩:=qZ0 h1;exact⟨λf hf=>⟨n,h2 f hf⟩,by simpa using h3,λj f hj=>by simpa using h4 j f hj⟩
 ·rintro t k e ⟨d,h⟩ hu;obtain⟨n,h⟩:=QG h;unfold plainT at h;simp only[hu,Bool.false_eq_true]at h
theorem qvR {H:Type} {enc:TypeId×Value→H} {P:Program} {w:World} {h:AH} (M:kT w h) {held:Bool}:∀(d:Nat) (t:TypeId) (fuel:Nat) (cs:List Value) (x:DataW H×List MemPlace),
  plainT P d t=true→DataW.trod enc P w 0 (λ_=>true) held fuel t cs=some x→(∀v∈cs,qJd w v)∧WT P h d t (cs.map Y0):=by
 intro d
 induction d with
 |zero=>intro t fuel cs x hp;cases hp
 |succ d ih=>
  intro t fuel cs x hp e;have hp':=hp;unfold plainT at hp;unfold WT
  split at hp
  ·rename_i hu;simp only[hu];obtain⟨b,rfl,_⟩:=DataW.trod_bool hu e;exact⟨λv hv=>by rw[List.mem_singleton.1 hv];exact⟨rfl,trivial⟩,b,rfl⟩
  ·rename_i k hu;simp only[hu];obtain⟨n,rfl,_,hw⟩:=DataW.trod_int hu e;exact⟨λv hv=>by rw[List.mem_singleton.1 hv];exact⟨rfl,trivial⟩,n,rfl,qys hw⟩
  ·rename_i hu;simp only[hu];obtain⟨s,rfl,_,hl⟩:=DataW.trod_string hu e;refine⟨λv hv=>by rw[List.mem_singleton.1 hv];exact⟨by simp[Y0,cv],trivial⟩,s.data.toList,rfl,?_⟩;rw[Array.length_toList];exact hl
  ·rename_i el hu;simp only[hu];obtain⟨hsz,hpe⟩:=Xl hp' hu;rcases DataW.trod_slice hu e with⟨rfl,_⟩ |⟨a,len,cap,elems,rest,n,rfl,rfl,_,_,hlc,hcm,hel,h1,h2,_⟩
   ·exact⟨λv hv=>by rw[List.mem_singleton.1 hv];exact⟨rfl,trivial⟩,.inl rfl⟩
   ·obtain⟨hrl,h2⟩:=h2 rfl;by_cases hc0:cap=0
    ·subst hc0;obtain rfl:len=0:=by omega
     exact⟨λv hv=>by rw[List.mem_singleton.1 hv];exact⟨rfl,trivial⟩,.inr (.inl ⟨a,rfl⟩)⟩
    ·--the first place shows that the address has no spot
     have row:∀i,i<cap→∃r y,(w.cells? 0 (a.add (i*P.cellsOf el)) (P.cellsOf el))=some r∧DataW.trod enc P w 0 (λ_=>true) held n el r=some y:=by
      intro i hi;by_cases hil:i<len
      ·have hx:=h1 i hil;rw[iW omQ]at hx;obtain⟨r,hr,hy⟩:=Option.bind_eq_some_iff.1 hx;exact⟨r,_,hr,hy⟩
      ·have hx:=h2 (i-len) omQ;rw[show len+(i-len)=i by omega,iW omQ]at hx;obtain⟨r,hr,hy⟩:=Option.bind_eq_some_iff.1 hx;exact⟨r,_,hr,hy⟩
     have cells:∀(b:Addr) r,w.cells? 0 b (P.cellsOf el)=some r→r.length=P.cellsOf el∧∀j,j<P.cellsOf el→w.cell? (b.add j)=r[j]?:=by intro b r hr;unfold World.cells? at hr;rw[iJ (Nat.zero_le _)]at hr;refine⟨by simpa using mapM_some_length hr,λj hj=>?_⟩;exact mapM_some_get hr j j (by simp[hj])
     have hspot:a.spot=none:=by obtain⟨r,y,hr,_⟩:=row 0 omQ;obtain⟨c1,c2⟩:=cells _ r hr;have:=c2 0 hsz;rw[iW omQ]at this;have:=qYl this;simpa[Addr.add]using this
     obtain⟨b,off,sp⟩:=a;simp only at hspot;subst hspot;have good:∀i,i<cap→∃rw_:List AV,rw_.length=P.cellsOf el∧(∀j,j<P.cellsOf el→h.at b (off+i*P.cellsOf el+j)=rw_[j]?)∧WT P h d el rw_∧vP w b:=by
      intro i hi;obtain⟨r,y,hr,hy⟩:=row i hi;obtain⟨c1,c2⟩:=cells _ r hr;obtain⟨g1,g2⟩:=ih el n r y hpe hy;have hat:∀j,j<P.cellsOf el→h.at b (off+i*P.cellsOf el+j)=(r.map Y0)[j]? ∧vP w b:=by
       intro j hj;have hcj:=c2 j hj;have hjl:j<r.length:=by omega
       rw[iW hjl]at hcj;have e1:((⟨b,off,none⟩:Addr).add (i*P.cellsOf el)).add j=⟨b,off+i*P.cellsOf el+j,none⟩:=by rw[wh,wh]
       rw[e1]at hcj;obtain⟨k1,k2⟩:=qv9 M hcj (g1 _ (List.getElem_mem hjl));refine⟨?_,k2⟩;rw[k1,List.getElem?_map,iW hjl];rfl
      exact⟨r.map Y0,by simp[c1],λj hj=>(hat j hj).1,g2,(hat 0 hsz).2⟩
     have hcap:Y0 (.slice (some ⟨b,off,none⟩) len cap)=.slice b off len cap false:=by
      cases cap with
      |zero=>exact absurd rfl hc0
      |succ cap=>cases len<;>rfl
     obtain⟨_,_,_,_,hblk⟩:=good 0 omQ;refine⟨?_,.inr (.inr (.inr ⟨b,off,len,cap,?_,hlc,hcm,M.rel0 (P:=P) |>.lt b hblk,?_,?_⟩))⟩
     ·intro v hv;rw[List.mem_singleton.1 hv];exact⟨by rw[hcap];rfl,by rw[hcap];exact hblk⟩
     ·rw[List.map_cons,hcap];rfl
     ·obtain⟨C,e,fr,hc⟩:=hblk;obtain⟨t,ht,_⟩:=M.blk b C e fr hc;exact⟨t,ht⟩
     ·intro i hi;obtain⟨r,r1,r2,r3,_⟩:=good i omQ;exact⟨r,r1,r2,r3⟩
  ·rename_i fs hu;simp only[hu];obtain⟨hcov,hpf⟩:=GU hp' hu;obtain⟨xs,n,rfl,_,hlen,hxl,hf⟩:=DataW.trod_struct hu e;have part:∀f∈fs.toList,(∀v∈(cs.drop f.offset).take (P.cellsOf f.type),qJd w v)∧WT P h d f.type (((cs.drop f.offset).take (P.cellsOf f.type)).map Y0):=by
    intro f hfm;obtain⟨i,hi,rfl⟩:=List.mem_iff_getElem.1 hfm;have hi':i<fs.size:=by simpa using hi
    have hx:=hf i fs[i] (Array.getElem?_eq_getElem hi');rw[iW omQ]at hx;have hpi:=hpf _ hfm;simp only[Array.getElem_toList]at hpi ⊢;exact ih _ n _ _ hpi hx
   refine⟨?_,by simpa using hlen,λf hfm=>?_⟩
   ·intro v hv;obtain⟨i,hi,rfl⟩:=List.mem_iff_getElem.1 hv;obtain⟨_,hc⟩:=qGu hcov;obtain⟨f,hfm,h1,h2⟩:=hc i (Nat.zero_le _) omQ;refine(part f hfm).1 _ ?_;have:((cs.drop f.offset).take (P.cellsOf f.type))[i-f.offset]? =some cs[i]:=by
     rw[List.getElem?_take_of_lt omQ,List.getElem?_drop,show f.offset+(i-f.offset)=i by omega,iW hi]
    exact List.mem_of_getElem? this
   ·have:=(part f hfm).2;rw[List.map_take,List.map_drop]at this;exact this
  ·cases hp
end Go.Ae
namespace Go.Ae
open Go
def WTV (P:Program) (h:AH) (d:Nat) (t:TypeId) (a:AV):Prop :=
 match P.underlying t with
 |some (.struct _) |some (.array _ _)=>∃l,a=.agg l∧WT P h d t l
 |_=>WT P h d t [a]
def WTs (P:Program) (h:AH) (d:Nat):List TypeId→List AV→Prop
 |[],[]=>True
 |t::ts,a::as=>WTV P h d t a∧WTs P h d ts as
 |_,_=>False
theorem qj8 {H:Type} {enc:TypeId×Value→H} {P:Program} {w:World} {h:AH} (M:kT w h) {r:Reach} {base d:Nat} {t:TypeId} {v:Value} {x:DataW H} {ps:List MemPlace} (hp:plainT P d t=true)
  (hv:Value.okWide P w r base t v) (e:DataW.Trod enc P w 0 (λ_=>true) true t v x ps):cv Kx (Gd v)=v∧inD (vP w) (Gd v)∧WTV P h d t (Gd v):=by
 obtain⟨fuel,e⟩:=e;obtain⟨g,wt⟩:=qvR M d t fuel _ _ hp e;unfold WTV;have agg:∀cs:Array Value,v=.agg cs→cv Kx (Gd v)=v∧inD (vP w) (Gd v)∧∃l,Gd v=.agg l∧WT P h d t l:=by
  rintro cs rfl;refine⟨?_,?_,_,rfl,wt⟩
  ·simp only[Gd,cv,zl,List.map_map]
   congr 1
   apply Array.ext';simp only[]
   conv=>rhs;rw[← List.map_id cs.toList]
   refine List.map_congr_left λv hv=>?_;exact(g v hv).1
  ·show inDs _ _;rw[xC];intro u hu;obtain⟨z,hz,rfl⟩:=List.mem_map.1 hu;exact(g z hz).2
 have one:(∀cs:Array Value,v≠.agg cs)→cv Kx (Gd v)=v∧inD (vP w) (Gd v)∧WT P h d t [Gd v]:=by
  intro hn;have hc:v.cells.toList=[v]:=by cases v<;>first |rfl |exact absurd rfl (hn _)
  have hi:Gd v=Y0 v:=by cases v<;>first |rfl |exact absurd rfl (hn _)
  rw[hc]at g wt;rw[hi];exact⟨(g v osQ).1,(g v osQ).2,wt⟩
 unfold Value.okWide at hv
 split
 ·rename_i hu;simp only[hu]at hv;obtain⟨cs,rfl,_⟩:=hv;exact agg cs rfl
 ·rename_i hu;simp only[hu]at hv;obtain⟨cs,rfl,_⟩:=hv;exact agg cs rfl
 ·rename_i h1 h2;refine one ?_;rintro cs rfl
  split at hv
  ·rename_i hu;exact h1 _ hu
  ·rename_i hu;exact h2 _ _ hu
  ·unfold Cell.okWide at hv
   split at hv<;>first |(rename_i h3;cases h3;done) |(rename_i h3 _;cases h3;done) |skip
   all_goals unfold Cell.ok at hv
   all_goals split at hv<;>first |(rename_i h4;cases h4;done) |exact hv
theorem args_ok {H:Type} {enc:TypeId×Value→H} {P:Program} {w:World} {h:AH} (M:kT w h) {r:Reach} {base d:Nat}:∀{ts:List TypeId} {vs:List Value} {ds:List (DataW H)} {ps:List MemPlace},
  ts.all (plainT P d)=true→(∀(j:Nat) t v,ts[j]? =some t→vs[j]? =some v→Value.okWide P w r base t v)→DataW.TrodAll enc P w 0 (λ_=>true) true ts vs ds ps→
  cvs Kx (vs.map Gd)=vs∧inDs (vP w) (vs.map Gd)∧WTs P h d ts (vs.map Gd)∧ds.length=ts.length:=by
 intro ts
 induction ts with
 |nil=>
  intro vs ds ps _ _ e;cases vs<;>cases ds<;>simp only[DataW.TrodAll]at e
  exact⟨rfl,trivial,trivial,rfl⟩
 |cons t ts ih=>
  intro vs ds ps hp hv e;cases vs<;>cases ds<;>simp only[DataW.TrodAll]at e
  rename_i v vs x ds;obtain⟨p,q,h1,h2,_⟩:=e;simp only[List.all_cons,Bool.and_eq_true]at hp;obtain⟨a1,a2,a3⟩:=qj8 M hp.1 (hv 0 t v rfl rfl) h1;obtain⟨b1,b2,b3,b4⟩:=ih hp.2 (λj t v h1 h2=>hv (j+1) t v (by simpa using h1) (by simpa using h2)) h2;exact⟨by simp only[List.map_cons,cvs,a1,b1],⟨a2,b2⟩,⟨a3,b3⟩,by simp[b4]⟩
theorem args_stay {H:Type} {enc:TypeId×Value→H} {P:Program} {w w':World} {sp:Nat→Bool}:∀{ts:List TypeId} {vs:List Value} {ds:List (DataW H)} {ps:List MemPlace},
  (∀t∈ts,qxE P t)→DataW.TrodAll enc P w 0 (λ_=>true) true ts vs ds ps→(∀k,k<w.heap.size→w'.heap[k]? =w.heap[k]?)→(∀p∈ps,p.block<w.heap.size)→(∀p∈ps,sp p.block=true)→
  DataW.TrodAll enc P w' 0 sp true ts vs ds ps:=by
 intro ts
 induction ts with
 |nil=>
  intro vs ds ps _ e _ _ _;cases vs<;>cases ds<;>simp only[DataW.TrodAll]at e ⊢
  exact e
 |cons t ts ih=>
  intro vs ds ps hp e hb hlt hs;cases vs<;>cases ds<;>simp only[DataW.TrodAll]at e ⊢
  rename_i v vs x ds;obtain⟨p,q,⟨fuel,h1⟩,h2,rfl⟩:=e;have hq:∀y,y∈p→y∈p++q:=λy hy=>List.mem_append.2 (.inl hy);refine⟨p,q,⟨fuel,?_⟩,ih (λt ht=>hp t (iX _ ht)) h2 hb (λy hy=>hlt y (List.mem_append.2 (.inr hy))) (λy hy=>hs y (List.mem_append.2 (.inr hy))),rfl⟩;refine DataW.trod_stays (qX7 P) ?_ (λh=>by cases h) (hp t (iK ..)) h1 ?_ (λy hy=>hs y (hq y hy))
  ·rintro t e ⟨d,h⟩ hu;obtain⟨n,h⟩:=QG h;exact(Xl h hu).1
  ·intro y hy;have hk:=hb y.block (hlt y (hq y hy));cases y with
   |cell b off=>show World.cell? _ _=World.cell? _ _;unfold World.cell?;simp only[];rw[show w'.heap[b]? =w.heap[b]? from hk]
   |map b=>exact hk
end Go.Ae
