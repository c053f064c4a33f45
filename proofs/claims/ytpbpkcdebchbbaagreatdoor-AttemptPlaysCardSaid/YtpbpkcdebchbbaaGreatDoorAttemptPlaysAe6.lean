/- The abstract executor of the program's form in Lean, shown sound: regions that draw their order: every order; the table's answers are the program's; a row's last step; the caller's cells. -/
import Derived.Test.YtpbpkcdebchbbaaGreatDoorAttemptPlaysAe5
import Derived.ChangeSame
import Derived.ChangeArms
import Derived.ChangeStays
namespace Go.Ae
open Go
structure Cx where
  P:Program
  c:CV
  n:Nat
  ops:Array Oper
  M:PT Nat
  LP:J7→Prop
  HP:Jv→Prop
  F:Nat→Nat→Option AV
  H:Nat→AH
  V:Nat→AV
  W:Nat→Bool
  m0:Mp
  D0:Nat→Prop
  w0:World
  a0:Act
  hc:yh P c
  tr:Tr P c n ops LP HP F H V W
  st:Stat P ops M
  nk:Rel P m0 D0 (H 0) w0
  gh:∀i,i≤ops.size→Gh P D0 H F i
  mono:∀i,i<ops.size→(H i).nx≤(H (i+1)).nx
  vin:∀i,i<ops.size→bp (Dg D0 H (i+1)) (V i)
  EX:∀i j oi oj,ops[i]? =some oi→ops[j]? =some oj→vm P oi.op=true→zd P oj.op=true→W i=true→W j=true→wO M i j=true→
    ∃a,J6 (eW (F i)) oi.op=some a∧rY a (wY P oi.op) (V i) (H j) (H (j+1)) (H 0).nx=true
namespace Cx
variable (X:Cx)
def N:Nat:=X.ops.size
def nx (i:Nat):Nat:=(X.H i).nx
def aX (i:Nat):Prop:=∃o,X.ops[i]? =some o∧zd X.P o.op=true
def fC (i:Nat):Option Tmp:=(X.ops[i]?).bind (·.dst)
def DS (s:Nat→Bool):Nat→Prop:=λb=>X.D0 b∨∃i,s i=true∧X.nx i≤b∧b<X.nx (i+1)
def FS (s:Nat→Bool):Nat→Nat→Option AV
 | 0,t=>X.F 0 t
 |i+1,t=>if s i=true∧X.fC i=some t then some (X.V i)else FS s i t
def ins (s:Nat→Bool) (i:Nat):Nat→Bool:=λj=>j==i||s j
variable {X}
theorem lg {i:Nat} (h:i<X.N):∃o,X.ops[i]? =some o:=⟨_,Array.getElem?_eq_getElem h⟩
theorem Qa {i:Nat} {o:Oper} (h:X.ops[i]? =some o):i<X.N:=(Array.getElem?_eq_some_iff.1 h).1
theorem dB {i j:Nat} (AD:i≤j) (hj:j≤X.N):X.nx i≤X.nx j:=by
  induction j with
  | zero => grind
  |succ j ih=>
    by_cases h:i=j+1
    · grind
    · exact Nat.le_trans (ih omQ omQ) (X.mono j (by trivial))
theorem Ki {o:Op} (h:zd X.P o=false):lY X.P o=.pure∨lY X.P o=.load∨lY X.P o=.fresh:=by
 unfold zd at h;cases hc:lY X.P o<;>simp only[hc]at h<;>simp
 grind
theorem Zg {P:Program} {o:Op} (h:lY P o=.load):Uc o=true:=by
 cases o with
 |load t x=>rfl
 |convert s d x=>
  grind[lY]
 |call cl=>
  grind[lY,invoke,builtin]
 |_=>simp only[lY,reduceCtorEq]at h
theorem kind {i:Nat} {o:Oper} (ho:X.ops[i]? =some o) (hh:zd X.P o.op=false) (hw:X.W i=true) :
  X.H (i+1)=X.H i∨∃mk x,De mk∧X.V i=mk (X.nx i)∧X.H (i+1)=(X.H i).new x∧∀g,cn X.P X.c o.op (eW (X.F i)) g=some (mk g.nx,g.new x):=by
 have hs:=(X.tr.step i o ho).1.yes hw;rcases Ki hh with h |h |h
 ·cases nl:Qc X.P o.op
  ·cases dV:kJ X.P o.op
   ·exact .inl (TX h nl dV hs).1
   ·exact .inl (Vy dV hs).1
  ·exact .inl (Nb nl hs).1
 ·obtain⟨t,x,BG⟩:=Xt (Zg h);rw[BG]at hs;exact .inl (Va hs).1
 ·obtain⟨mk,x,h1,h2,h3,h4⟩:=MI h hs;exact .inr ⟨mk,x,h1,h2,h3,h4⟩
theorem vB {i j:Nat} (AD:i≤j) (hj:j≤X.N) (hn:∀k,i≤k→k<j→¬(X.aX k∧X.W k=true)):∀b,b<X.nx i→(X.H j).get b=(X.H i).get b:=by
  induction j with
  | zero => grind
  |succ j ih=>
    intro b hb;by_cases h:i=j+1
    · grind
    · have:=ih omQ omQ (λk h1 h2=>hn k h1 omQ) b hb;rw[← this];obtain⟨o,ho⟩:=X.lg (show j<X.N by omega);cases hw:X.W j
      · rw[((X.tr.step j o ho).1.no hw).2]
      · have hh:zd X.P o.op=false:=by
          cases hh:zd X.P o.op
          · rfl
          · exact absurd ⟨⟨o,ho,hh⟩,hw⟩ (hn j omQ omQ)
        rcases kind ho hh hw with e |⟨mk,x,_,_,e,_⟩
        · rw[e]
        · rw[e];have:X.nx i≤X.nx j:=dB omQ omQ;exact AH.bL _ _ (by unfold nx at*;omega)
theorem XU {s:Nat→Bool} (down:∀i o,s i=true→X.ops[i]? =some o→∀e∈o.after,K4 e=true→s e.on=true) (sN:∀i,s i=true→i<X.N) :
  ∀i k,s i=true→(xZ X.M i).testBit k=true→s k=true:=by
 intro i
 induction i using Nat.strongRecOn with
 |_ i ih=>
  intro k hs hk;obtain⟨o,ho⟩:=X.lg (sN i hs);obtain⟨e,he,hb,ae,hk⟩:=X.st.pT i o k ho hk;grind
theorem T6 {i k:Nat} {o:Oper} (ho:X.ops[i]? =some o) (hk:(xZ X.M i).testBit k=true):k<i:=by
 induction i using Nat.strongRecOn generalizing o with
 |_ i ih=>
  obtain⟨e,he,hb,ae,hk⟩:=X.st.pT i o k ho hk;grind
structure dS (X:Cx) (s:Nat→Bool) (i:Nat) (o:Oper):Prop where
  ho:X.ops[i]? =some o
  un:s i=false
  pd:∀e∈o.after,K4 e=true→s e.on=true
  down:∀i o,s i=true→X.ops[i]? =some o→∀e∈o.after,K4 e=true→s e.on=true
  sN:∀i,s i=true→i<X.N
variable {s:Nat→Bool} {i:Nat} {o:Oper}
theorem dS.pT (r:dS X s i o) {k:Nat} (hk:(xZ X.M i).testBit k=true):s k=true:=by
 obtain⟨e,he,hb,ae,hk⟩:=X.st.pT i o k r.ho hk;have EY:=r.pd e he hb;rcases hk with rfl |hk
 ·grind
 ·exact XU r.down r.sN _ k EY hk
theorem dS.later (r:dS X s i o) {k:Nat} (hk:s k=true):(xZ X.M k).testBit i=false:=by
 cases h:(xZ X.M k).testBit i
 ·rfl
 ·have:=XU r.down r.sN k i hk h;rw[r.un]at this;grind
theorem dS.reads (r:dS X s i o) {t:Nat} (ht:(looks X.ops.toList o).testBit t=true):∀k,k≤X.N→X.FS s k t=X.F (min k i) t:=by
 intro k
 induction k with
 |zero=>simp[FS]
 |succ k ih=>
  intro hk;have ihk:=ih omQ;obtain⟨ok,eJ⟩:=X.lg (show k<X.N by omega);have sq:X.fC k=ok.dst:=by grind[fC]
  simp only[FS];rw[sq];by_cases rS:k<i
  ·rw[show min (k+1) i=k+1 by omega];rw[show min k i=k by omega]at ihk;rw[(X.tr.step k ok eJ).2];unfold nP;by_cases hd:ok.dst=some t
   ·rw[iJ hd];have EZ:=X.st.apart k i ok o rS eJ r.ho;have n6:s k=true:=by
     rcases EZ with h |⟨h,_⟩
     ·exact r.pT h
     ·have:=UM h t (by grind[Jf]);grind
    grind
   grind
  ·rw[show min (k+1) i=i by omega];rw[show min k i=i by omega]at ihk;rw[iQ,ihk];rintro⟨n6,hd⟩;have bG:k≠i:=λe=>by subst e;rw[r.un]at n6;grind
   have EZ:=X.st.apart i k o ok omQ r.ho eJ;rcases EZ with h |⟨_,h⟩
   ·rw[r.later n6]at h;grind
   grind[UM,Jf]
theorem dS.read (r:dS X s i o) {t:Nat} (ht:(looks X.ops.toList o).testBit t=true):X.FS s X.N t=X.F i t:=by rw[r.reads ht _ (Nat.le_refl _),show min X.N i=i by have:=Qa r.ho;omega]
theorem dS.write (r:dS X s i o) (t:Nat):X.FS (ins s i) X.N t=if o.dst=some t then some (X.V i)else X.FS s X.N t:=by
 have hdi:X.fC i=o.dst:=by unfold fC;rw[r.ho];rfl
 have key:∀k,k≤X.N→X.FS (ins s i) k t=if i<k∧o.dst=some t then some (X.V i)else X.FS s k t:=by
  intro k
  induction k with
  |zero=>simp[FS]
  |succ k ih=>
   intro hk;have ihk:=ih omQ;simp only[FS];by_cases rS:k=i
   ·simp_all[ins]
   ·have h1:ins s i k=s k:=by grind[ins]
    rw[h1,ihk];by_cases hc:s k=true∧X.fC k=some t
    ·rw[iJ hc];by_cases h2:i<k+1∧o.dst=some t
     ·exfalso;obtain⟨ok,eJ⟩:=X.lg (show k<X.N by omega);have hdk:ok.dst=some t:=by grind[fC]
      have EZ:=X.st.apart i k o ok omQ r.ho eJ;rcases EZ with h |⟨h,_⟩
      ·rw[r.later hc.1]at h;grind
      ·have:=UM h t (by grind[Jf]);simp_all[Nat.testBit_or,Jf]
     grind
    grind
 rw[key _ (Nat.le_refl _)];have:=Qa r.ho;grind
theorem jQB (hs:∀i,i<X.N→s i=true):∀k,k≤X.N→X.FS s k=X.F k:=by
 intro k
 induction k with
 |zero=>intro _;rfl
 |succ k ih=>
  intro hk;obtain⟨o,ho⟩:=X.lg (show k<X.N by omega)
  funext t
  simp only[FS];rw[ih omQ,(X.tr.step k o ho).2];have sq:X.fC k=o.dst:=by grind[fC]
  unfold nP;grind
theorem qvi (hs:∀i,s i=false):∀k,X.FS s k=X.F 0:=by
 intro k
 induction k with
 |zero=>rfl
 |succ k ih=>simp_all[FS]
end Cx
end Go.Ae
namespace Go.Ae
open Go
namespace Cx
variable {X:Cx} {s:Nat→Bool} {i q:Nat} {o:Oper} {a:Act} {w w':World} {m m':Mp} {C:AH}
structure Inv (X:Cx) (s:Nat→Bool) (q:Nat) (a:Act) (w:World) (m:Mp) (C:AH):Prop where
  qN:q≤X.N
  hq:q<X.N→X.aX q
  hs:∀i,X.aX i→(s i=true↔i<q)
  sN:∀i,s i=true→i<X.N
  down:∀i o,s i=true→X.ops[i]? =some o→∀e∈o.after,K4 e=true→s e.on=true
  rl:Rel0 X.P m (X.DS s) C w
  ss:X.nx X.N≤C.nx
  i1:∀b,X.DS s b→b<X.nx q→C.get b=(X.H q).get b
  i2:∀i,q≤i→s i=true→∀b,X.nx i≤b→b<X.nx (i+1)→C.get b=(X.H (i+1)).get b
  i3:∀i,i<q→s i=false→∀b,X.nx i≤b→b<X.nx (i+1)→(X.H q).get b=(X.H (i+1)).get b
  map:∀b,X.D0 b→m b=X.m0 b
  size:X.w0.heap.size≤w.heap.size
  keep:∀c,c<X.w0.heap.size→¬own X.m0 X.D0 (X.H 0) c→w.heap[c]? =X.w0.heap[c]? ∧¬own m (X.DS s) C c
  os:w.os=X.w0.os
  tape:w.tape=X.w0.tape
  output:w.output=X.w0.output
  AF:X.n≤a.tmps.size
  slot:∀t v,X.FS s X.N t=some v→a.tmps[t]? =some (cv m v)∧bp (X.DS s) v
  df:a.defers=X.a0.defers
theorem qxh {P:Program} {m0 m:Mp} {D0 D:Nat→Prop} {h0 h:AH} {w0 w:World} (r:An P m0 D0 h0 w0)
  (keep:∀c,c<w0.heap.size→¬own m0 D0 h0 c→w.heap[c]? =w0.heap[c]? ∧¬own m D h c):An P m D h w:=λp hp=>by
 obtain⟨g,h1,h2,h3⟩:=r p hp;grind[YT]
theorem Inv.rel (I:Inv X s q a w m C):Rel X.P m (X.DS s) C w:=⟨I.rl,qxh X.nk.gl I.keep⟩
theorem Jj {b:Nat} (h:X.D0 b):b<X.nx 0:=X.nk.lt b h
theorem ml {b:Nat}:X.DS (ins s i) b↔X.DS s b∨(X.nx i≤b∧b<X.nx (i+1)):=by
 unfold DS ins;grind
theorem UY {b:Nat} (h:X.DS s b):X.DS (ins s i) b:=ml.2 (.inl h)
theorem T7 (sN:∀i,s i=true→i<X.N) {b:Nat} (h:X.DS s b):b<X.nx X.N:=by
 rcases h with h |⟨j,hj,_,h⟩
 ·exact Nat.lt_of_lt_of_le (Jj h) (dB (Nat.zero_le _) (Nat.le_refl _))
 ·exact Nat.lt_of_lt_of_le h (dB (sN j hj) (Nat.le_refl _))
theorem T8 (sN:∀i,s i=true→i<X.N) (hi:i<X.N) (un:s i=false) {b:Nat} (h1:X.nx i≤b) (h2:b<X.nx (i+1)):¬X.DS s b:=by
 rintro(h |⟨j,hj,h3,h4⟩)
 ·have:=Jj h;have:=dB (X:=X) (Nat.zero_le i) omQ;omega
 ·have:=sN j hj;rcases Nat.lt_trichotomy j i with ae |rfl |Dh
  ·have:=dB (X:=X) (show j+1≤i by omega) omQ;omega
  ·grind
  ·have:=dB (X:=X) (show i+1≤j by omega) omQ;omega
theorem L3 (sN:∀i,s i=true→i<X.N) {b:Nat} (h:X.DS s b) (hb:b<X.nx q):Dg X.D0 X.H q b:=by
 rcases h with h |⟨j,hj,h3,h4⟩
 ·exact .inl h
 ·refine .inr ⟨?_,hb⟩;have:=dB (X:=X) (Nat.zero_le j) (Nat.le_of_lt (sN j hj));exact Nat.le_trans this h3
def DQ (X:Cx) (s:Nat→Bool) (q:Nat):Nat→Prop:=λb=>X.DS s b∧b<X.nx q
mutual
theorem UW {D D':Nat→Prop}:∀v:AV,bp D v→bp D' v→bp (λb=>D b∧D' b) v
 | .bool _,_,_=>trivial
 | .int _ _,_,_=>trivial
 | .str _,_,_=>trivial
 | .ptr b o,h,h'=>⟨h,h'⟩
 | .au,_,_=>trivial
 | .slice b o l c p,h,h'=>⟨h,h'⟩
 | .ad,_,_=>trivial
 | .fn f a c,h,h'=>by simp only[bp]at*;exact⟨Qd a h.1 h'.1,Qd c h.2 h'.2⟩
 | .yield l,h,h'=>⟨h,h'⟩
 | .ei,_,_=>trivial
 | .iface t v,h,h'=>by simp only[bp]at*;exact UW v h h'
 | .cN,_,_=>trivial
 | .agg l,h,h'=>by simp only[bp]at*;exact Qd l h h'
 | .bm l,h,h'=>by simp only[bp]at*;exact Qd l h h'
 | .bX _,_,_=>trivial
 | .tail _ _ _ _,h,h'=>⟨h,h'⟩
 | .eO _,h,h'=>⟨h,h'⟩
theorem Qd {D D':Nat→Prop}:∀l:List AV,aT D l→aT D' l→aT (λb=>D b∧D' b) l
 |[],_,_=>trivial
 |a::r,h,h'=>by simp only[aT]at*;exact⟨UW a h.1 h'.1,Qd r h.2 h'.2⟩
end
theorem Zd {D D':Nat→Prop} {x:cK} (h:cA D x) (h':cA D' x):cA (λb=>D b∧D' b) x:=by
 cases x<;>simp only[cA]at* <;>first |exact Qd _ h h' |exact⟨Qd _ h.1 h'.1,h.2,h'.2⟩ |grind[UW] |trivial
theorem Inv.um (I:Inv X s q a w m C) {v:AV} (h1:bp (X.DS s) v) {j:Nat} (hj:j≤q) (h2:bp (Dg X.D0 X.H j) v):bp (DQ X s q) v:=by
 refine kF (λb hb=>?_) v (UW v h1 h2);obtain⟨fU,eI⟩:=hb;refine⟨fU,?_⟩;rcases eI with h |h
 ·exact Nat.lt_of_lt_of_le (Jj h) (dB (Nat.zero_le _) I.qN)
 ·exact Nat.lt_of_lt_of_le h.2 (dB hj I.qN)
theorem Inv.n7 (I:Inv X s q a w m C):Rel X.P m (DQ X s q) (X.H q) w:=by
 refine⟨⟨?_,?_,?_,?_⟩,λp hp=>by
  obtain⟨g,h1,h2,h3⟩:=I.rel.gl p hp;refine⟨g,h1,h2,?_⟩;rintro⟨b,⟨hb,ae⟩,hl,e⟩
  exact h3 ⟨b,hb,by unfold live at*;rw[I.i1 b hb ae];grind,e⟩⟩
 ·rintro b ⟨hb,ae⟩;obtain⟨x,hx,mW,rR⟩:=I.rel.bf b hb;rw[I.i1 b hb ae]at hx;refine⟨x,hx,mW,?_⟩;obtain⟨y,hy,fR⟩:=(X.gh q I.qN).bf b (L3 I.sN hb ae);rw[hx]at hy;cases hy;refine cA.mono (λb hb=>?_) (Zd rR fR);refine⟨hb.1,?_⟩;rcases hb.2 with h |h
  ·exact Nat.lt_of_lt_of_le (Jj h) (dB (Nat.zero_le _) I.qN)
  ·exact h.2
 ·rintro b b' ⟨hb,ae⟩ ⟨bF,uq⟩ hl dN e;refine I.rel.inj b b' hb bF ?_ ?_ e
  ·unfold live at*;rw[I.i1 b hb ae];grind
  ·unfold live at*;rw[I.i1 b' bF uq];grind
 ·rintro b ⟨hb,ae⟩;exact ae
 ·rintro b t ⟨hb,ae⟩ hg ⟨b',⟨bF,uq⟩,dN,he⟩;refine I.rel.cO b t hb (by rw[I.i1 b hb ae];grind) ⟨b',bF,?_,he⟩;unfold live at*;rw[I.i1 b' bF uq];grind
theorem Up:ins s i i=true:=by simp[ins]
theorem VY {j:Nat} (h:j≠i):ins s i j=s j:=by simp[ins,h]
theorem OG {j:Nat} (h:s j=true):ins s i j=true:=by simp[ins,h]
theorem Jg {j:Nat} (h:ins s i j=true):j=i∨s j=true:=by grind[ins]
theorem Inv.rdy (I:Inv X s q a w m C) (ho:X.ops[i]? =some o) (un:s i=false) (pd:∀e∈o.after,K4 e=true→s e.on=true):dS X s i o:=⟨ho,un,pd,I.down,I.sN⟩
theorem dS.pf (r:dS X s i o):∀j o',ins s i j=true→X.ops[j]? =some o'→∀e∈o'.after,K4 e=true→ins s i e.on=true:=by
 intro j o' hj pU e he hb;rcases Jg hj with rfl |hj
 ·rw[r.ho]at pU;cases pU;exact OG (r.pd e he hb)
 ·exact OG (r.down j o' hj pU e he hb)
theorem dS.E0 (r:dS X s i o):∀j,ins s i j=true→j<X.N:=by
 intro j hj;rcases Jg hj with rfl |hj
 ·exact Qa r.ho
 ·exact r.sN j hj
theorem Inv.su (I:Inv X s q a w m C) (r:dS X s i o) {v:AV} (hv:X.V i=v) (hc:∀u,bp (X.DS s) u→cv m' u=cv m u) {z:Value} (hz:cv m' v=z) (hd:bp (X.DS (ins s i)) v) :
  X.n≤(a.put o.dst z).tmps.size∧(∀t u,X.FS (ins s i) X.N t=some u→(a.put o.dst z).tmps[t]? =some (cv m' u)∧bp (X.DS (ins s i)) u):=by
 subst hz;refine⟨?_,?_⟩
 ·cases o.dst with
  |none=>exact I.AF
  |some d=>simp[Act.put];exact I.AF
 ·intro t u hu;rw[r.write]at hu;by_cases E4:o.dst=some t
  ·rw[iJ E4]at hu;cases hu;rw[hv];refine⟨?_,hd⟩;have ae:=Nat.lt_of_lt_of_le ((X.tr.step i o r.ho).1.dst t E4) I.AF;grind[Act.put,Array.getElem?_setIfInBounds_self]
  ·rw[iQ E4]at hu;obtain⟨h1,h2⟩:=I.slot t u hu;refine⟨?_,kF (λb hb=>UY hb) u h2⟩;rw[hc u h2];cases hod:o.dst with
   |none=>exact h1
   |some d=>grind[Act.put,Array.getElem?_setIfInBounds_ne]
theorem Inv.pure (I : Inv X s q a w m C) (r : dS X s i o) (hh : ¬ X.aX i) (hH : X.H (i + 1) = X.H i) (E : Ext m (X.DS s) C w m' (X.DS s) C w') (R' : Rel X.P m' (X.DS s) C w') (hv : bp (X.DS s) (X.V i)) :
    Inv X (ins s i) q (a.put o.dst (cv m' (X.V i))) w' m' C:=by
  have hD:X.DS (ins s i)=X.DS s:=by
    funext b
    refine propext (ml.trans ⟨λh=>h.elim id λh=>?_,.inl⟩);grind[nx]
  have sx:=I.su r rfl (m':=m') (λu hu=>E.cv hu) rfl (by grind);have Di:i≠q:=λe=>by subst e;exact hh (I.hq (Qa r.ho))
  refine { qN := I.qN, hq := I.hq, hs := ?_, sN := r.E0, down := r.pf, rl := by rw [hD];exact R'.toRel0, ss := I.ss, i1 := by rw [hD];exact I.i1, i2 := ?_, i3 := ?_, map := ?_, size := Nat.le_trans I.size E.size, keep := ?_,
           os:=E.os.trans I.os,tape:=E.tape.trans I.tape,output:=E.output.trans I.output,AF:=sx.1,slot:=sx.2,df:=by rw[we];exact I.df }
  · intro j hj;rw[VY (λe=>hh (by grind))];exact I.hs j hj
  · intro j L4 hj b h1 h2;rcases Jg hj with rfl |hj
    · grind[nx]
    · exact I.i2 j L4 hj b h1 h2
  · intro j pV hj b h1 h2;refine I.i3 j pV ?_ b h1 h2;grind[OG]
  · intro b hb;rw[E.map b (.inl hb)];exact I.map b hb
  · intro c hc hn;obtain⟨k1,k2⟩:=I.keep c hc hn;obtain⟨k3,k4⟩:=E.keep c (Nat.lt_of_lt_of_le hc I.size) k2;grind
end Cx
end Go.Ae
namespace Go.Ae
open Go
namespace Cx
variable {X:Cx} {s:Nat→Bool} {i q:Nat} {o:Oper} {a:Act} {w w':World} {m m':Mp} {C:AH}
theorem E5 {mk:Nat→AV} (h:De mk) {m m':Mp} {b b':Nat} (e:m b=m' b'):cv m (mk b)=cv m' (mk b'):=by
 rcases h with rfl |⟨l,k,o,rfl⟩
 all_goals simp_all[cv]
theorem qwp {mk:Nat→AV} (h:De mk) {D:Nat→Prop} {b:Nat}:bp D (mk b)↔D b:=by
 rcases h with rfl |⟨l,k,o,rfl⟩<;>rfl
theorem Inv.fresh (I:Inv X s q a w m C) (r:dS X s i o) (hh:¬X.aX i) {x:cK} {mk:Nat→AV} (T9:De mk) (hV:X.V i=mk (X.nx i)) (hH:X.H (i+1)=(X.H i).new x) {m1:Mp} {D1:Nat→Prop}
  (E:Ext m (X.DS s) C w m1 D1 (C.new x) w') (R1:Rel X.P m1 D1 (C.new x) w') :
  ∃m' C',Inv X (ins s i) q (a.put o.dst (cv m1 (mk C.nx))) w' m' C':=by
 have hi:=Qa r.ho;have np:X.nx (i+1)=X.nx i+1:=by simp_all[nx]
 have hCi:X.nx (i+1)≤C.nx:=Nat.le_trans (dB omQ (Nat.le_refl _)) I.ss;have hD:∀b,X.DS (ins s i) b↔X.DS s b∨b=X.nx i:=λb=>ml.trans ⟨λh=>h.imp id λh=>by omega,λh=>h.imp id λh=>by omega⟩;have BH:¬X.DS s (X.nx i):=T8 I.sN hi r.un (Nat.le_refl _) omQ;have ae:∀b,X.DS s b→b<C.nx:=λb hb=>I.rel.lt b hb;have pW:∀b,D1 b↔X.DS s b∨b=C.nx:=λb=>(E.dm b).trans ⟨λh=>h.imp id λh=>by simp at h;omega,λh=>h.imp id λh=>by simp_all⟩;have sj:∀b,X.DS s b→m1 b=m b:=E.map;obtain⟨m',ub⟩:∃m':Mp,m'=λb=>if b=X.nx i then m1 C.nx else m1 b:=⟨_,rfl⟩
 have Dj:m' (X.nx i)=m1 C.nx:=by grind
 have AG:∀b,b≠X.nx i→m' b=m1 b:=λb hb=>by grind
 have li:∀b,X.DS s b→m' b=m b:=λb hb=>by grind
 have fB:∀b,b≠X.nx i→(C.put (X.nx i) x).get b=C.get b:=λb hb=>AH.br C x (λe=>hb e.symm);have rQ:(C.put (X.nx i) x).get (X.nx i)=some x:=AH.aN C _ x;have o7:∀b,X.DS s b→(C.put (X.nx i) x).get b=C.get b:=λb hb=>fB b (λe=>BH (e▸hb));have BE:∀b,X.DS s b→(C.new x).get b=C.get b:=λb hb=>AH.bL C x (by grind);have pX:(C.new x).get C.nx=some x:=AH.bw C x;have L5:(X.H (i+1)).get (X.nx i)=some x:=by rw[hH];exact AH.bw _ _
 have rR:cA (X.DS s) x:=by
  obtain⟨y,hy,_,fR⟩:=R1.bf C.nx ((pW _).2 (.inr rfl));rw[pX]at hy;cases hy;obtain⟨z,hz,tM⟩:=(X.gh (i+1) hi).bf (X.nx i) (.inr ⟨dB (Nat.zero_le _) omQ,by show X.nx i<X.nx (i+1);omega⟩);rw[L5]at hz;cases hz;refine cA.mono (λb hb=>?_) (Zd fR tM);rcases(pW b).1 hb.1 with h |h
  ·grind
  ·exfalso;rcases hb.2 with h' |h'
   ·have:=Jj h';have:=dB (X:=X) (Nat.zero_le (i+1)) omQ;omega
   ·have:b<X.nx (i+1):=h'.2;omega
 have da:Nat→Nat:=λb=>if b=X.nx i then C.nx else b
 have fS:Rel0 X.P m' (X.DS (ins s i)) (C.put (X.nx i) x) w':=by
  refine⟨?_,?_,?_,?_⟩
  ·intro b hb;rcases(hD b).1 hb with hb |rfl
   ·obtain⟨y,hy,fQ,fR⟩:=R1.bf b ((pW b).2 (.inl hb));obtain⟨z,hz,_,tM⟩:=I.rel.bf b hb;rw[BE b hb,hz]at hy;cases hy;refine⟨_,(o7 b hb).trans hz,?_,tM.mono λb hb=>UY hb⟩;rw[li b hb,← sj b hb];exact fQ.congr (D:=X.DS s) (λb hb=>by grind) tM rfl
   ·obtain⟨y,hy,fQ,fR⟩:=R1.bf C.nx ((pW _).2 (.inr rfl));rw[pX]at hy;cases hy;refine⟨x,rQ,?_,rR.mono λb hb=>UY hb⟩;rw[Dj];exact fQ.congr (D:=X.DS s) (λb hb=>by grind) rR rfl
  ·intro b1 b2 h1 h2 l1 l2 he;rcases(hD b1).1 h1 with h1 |rfl<;>rcases(hD b2).1 h2 with h2 |rfl
   ·rw[li b1 h1,li b2 h2]at he;refine I.rel.inj b1 b2 h1 h2 ?_ ?_ he
    all_goals grind[live]
   ·exfalso;rw[li b1 h1,Dj,← sj b1 h1]at he;have:=R1.inj b1 C.nx ((pW _).2 (.inl h1)) ((pW _).2 (.inr rfl)) (by grind[live]) (by grind[live]) he;grind
   ·exfalso;rw[li b2 h2,Dj,← sj b2 h2]at he;have:=R1.inj C.nx b2 ((pW _).2 (.inr rfl)) ((pW _).2 (.inl h2)) (by grind[live]) (by grind[live]) he;grind
   rfl
  ·intro b hb;rw[AH.Bq];grind
  ·rintro b t hb hg ⟨b',bF,dN,he⟩;have hA:∀b,X.DS (ins s i) b→∃a,D1 a∧m1 a=m' b∧(C.new x).get a=(C.put (X.nx i) x).get b:=by
    grind
   obtain⟨a1,h1,h2,h3⟩:=hA b hb;obtain⟨a2,k1,k2,k3⟩:=hA b' bF;refine R1.cO a1 t h1 (h3.trans hg) ⟨a2,k1,?_,by grind⟩;grind[live]
 have hval:cv m' (X.V i)=cv m1 (mk C.nx):=by simp_all[E5]
 have sx:=I.su r rfl (m':=m') (z:=cv m1 (mk C.nx)) (λu hu=>kR li u hu) hval (by rw[hV];exact(qwp T9).2 ((hD _).2 (.inr rfl)));have Di:i≠q:=λe=>by subst e;exact hh (I.hq hi)
 refine⟨m',C.put (X.nx i) x,{ qN:=I.qN,hq:=I.hq,hs:=?_,sN:=r.E0,down:=r.pf,rl:=fS,ss:=I.ss,i1:=?_,i2:=?_,i3:=?_,map:=?_,size:=Nat.le_trans I.size E.size,keep:=?_,os:=E.os.trans I.os,tape:=E.tape.trans I.tape,output:=E.output.trans I.output,AF:=sx.1,slot:=sx.2,df:=by rw[we];exact I.df }⟩
 ·intro j hj;rw[VY (λe=>hh (by grind))];exact I.hs j hj
 ·intro b hb AI;rcases(hD b).1 hb with hb |rfl
  ·rw[o7 b hb];exact I.i1 b hb AI
  ·rw[rQ];have hlq:i<q:=by
    rcases Nat.lt_or_ge i q with h |h
    ·grind
    ·have:=dB (X:=X) h omQ;omega
   rw[I.i3 i hlq r.un _ (Nat.le_refl _) omQ,L5]
 ·intro j L4 hj b h1 h2;rcases Jg hj with rfl |hj
  ·grind
  ·rw[fB b,I.i2 j L4 hj b h1 h2];rintro rfl;exact BH (.inr ⟨j,hj,h1,h2⟩)
 ·intro j pV hj b h1 h2;refine I.i3 j pV ?_ b h1 h2;grind[OG]
 ·intro b hb;rw[li b (.inl hb)];exact I.map b hb
 ·intro c hc hn;obtain⟨k1,k2⟩:=I.keep c hc hn;obtain⟨k3,k4⟩:=E.keep c (Nat.lt_of_lt_of_le hc I.size) k2;refine⟨k3.trans k1,?_⟩;rintro⟨b,hb,hl,he⟩;rcases(hD b).1 hb with hb |rfl
  ·refine k2 ⟨b,hb,?_,by grind⟩;grind[live]
  ·refine k4 ⟨C.nx,(pW _).2 (.inr rfl),?_,by grind⟩;grind[live]
theorem qj1 (f:Nat→Option cK) (T:Nat):∀N,∃h:AH,h.nx=T∧(∀b,b<N→h.get b=f b)∧∀b,N≤b→h.get b=none:=by
 intro N
 induction N with
 |zero=>exact⟨⟨T,[],.e⟩,rfl,λb hb=>by omega,λb _=>aE.ft b⟩
 |succ N ih=>
  obtain⟨h,h1,h2,h3⟩:=ih;cases hf:f N with
  |some x=>
   refine⟨h.put N x,h1,λb hb=>?_,λb hb=>?_⟩
   ·by_cases e:b=N
    ·simp_all
    ·rw[AH.br h x (λee=>e ee.symm)];grind
   ·rw[AH.br h x omQ];grind
  |none=>
   grind
theorem pg (f:Nat→Option cK) (T N:Nat):∃h:AH,h.nx=T∧∀b,b<N→h.get b=f b:=by obtain⟨h,h1,h2,_⟩:=qj1 f T N;grind
theorem n8 (X:Cx) {q:Nat} (hq:q<X.N):∃q',q<q'∧q'≤X.N∧(q'<X.N→X.aX q')∧∀k,q<k→k<q'→¬X.aX k:=by
 have key:∀d q0,q<q0→q0+d=X.N→(∀k,q<k→k<q0→¬X.aX k)→∃q',q<q'∧q'≤X.N∧(q'<X.N→X.aX q')∧∀k,q<k→k<q'→¬X.aX k:=by
  intro d
  induction d with
  |zero=>grind
  |succ d ih=>
   intro q0 h1 h2 h3;by_cases hh:X.aX q0
   ·grind
   ·refine ih (q0+1) omQ omQ ?_;grind
 exact key (X.N-(q+1)) (q+1) omQ omQ (λk h1 h2=>by omega)
end Cx
end Go.Ae
namespace Go.Ae
open Go
namespace Cx
variable {X:Cx} {s:Nat→Bool} {i q:Nat} {o:Oper} {a:Act} {w w':World} {m m':Mp} {C:AH}
theorem Inv.ek (I:Inv X s q a w m C) (r:dS X s q o) {m1:Mp} {D1:Nat→Prop} (E:Ext m (DQ X s q) (X.H q) w m1 D1 (X.H (q+1)) w') (R1:Rel X.P m1 D1 (X.H (q+1)) w') (hv:bp D1 (X.V q)) :
  ∃q' m' C',Inv X (ins s q) q' (a.put o.dst (cv m1 (X.V q))) w' m' C':=by
 have hq:=Qa r.ho;obtain⟨q',hqq,BI,hqh,Wa⟩:=X.n8 hq;have bK:∀k,q+1≤k→k<q'→¬(X.aX k∧X.W k=true):=λk h1 h2 h=>Wa k omQ h2 h.1;have hnq:X.nx q≤X.nx (q+1):=dB omQ omQ;have hCq:X.nx (q+1)≤C.nx:=Nat.le_trans (dB omQ (Nat.le_refl _)) I.ss;have pW:∀b,D1 b↔DQ X s q b∨(X.nx q≤b∧b<X.nx (q+1)):=E.dm;have L6:∀b,X.DS s b→b<X.nx q∨(X.nx (q+1)≤b∧∃j,q<j∧s j=true∧X.nx j≤b∧b<X.nx (j+1)):=by
  rintro b (h |⟨j,hj,h1,h2⟩)
  ·exact .inl (Nat.lt_of_lt_of_le (Jj h) (dB (Nat.zero_le _) I.qN))
  ·have IC:=I.sN j hj;rcases Nat.lt_trichotomy j q with ae |rfl |Dh
   ·have:=dB (X:=X) (show j+1≤q by omega) I.qN;omega
   ·rw[r.un]at hj;grind
   ·have:=dB (X:=X) (show q+1≤j by omega) omQ;grind
 have Wb:∀b,X.DS (ins s q) b↔X.DS s b∨(X.nx q≤b∧b<X.nx (q+1)):=λb=>ml;have ll:∀b,b<X.nx (q+1)→(X.DS (ins s q) b↔D1 b):=by
  intro b hb;rw[Wb,pW];constructor
  ·rintro(h |h)
   ·rcases L6 b h with h' |⟨h',_⟩
    ·exact .inl ⟨h,h'⟩
    grind
   grind
  ·rintro(h |h)
   ·exact .inl h.1
   grind
 have fD:∀b,X.nx (q+1)≤b→X.DS (ins s q) b→X.DS s b:=λb hb h=>((Wb b).1 h).elim id λh=>by omega
 have pj:∀b,D1 b→b<X.nx (q+1):=R1.lt;obtain⟨m',ub⟩:∃m':Mp,m'=λb=>if b<X.nx (q+1)then m1 b else m b:=⟨_,rfl⟩
 have mL:∀b,b<X.nx (q+1)→m' b=m1 b:=λb hb=>by grind
 have L7:∀b,X.nx (q+1)≤b→m' b=m b:=λb hb=>by grind
 have li:∀b,X.DS s b→m' b=m b:=by
  intro b hb;rcases L6 b hb with h |⟨h,_⟩
  ·rw[mL b omQ];exact E.map b ⟨hb,h⟩
  grind
 obtain⟨C',Wc,Wd⟩:=pg (λb=>if b<X.nx (q+1)then(X.H (q+1)).get b else C.get b) C.nx C.nx;have ur:∀b,b<X.nx (q+1)→C'.get b=(X.H (q+1)).get b:=λb hb=>by grind
 have tN:∀b,X.nx (q+1)≤b→b<C.nx→C'.get b=C.get b:=λb hb ae=>by grind
 have mn:∀b,X.DS s b→b<C.nx:=I.rel.lt;have E6:∀c,own m (DQ X s q) (X.H q) c→own m (X.DS s) C c:=by rintro c ⟨b,hb,hl,he⟩;exact⟨b,hb.1,by unfold live at*;rw[I.i1 b hb.1 hb.2];grind,he⟩
 have AJ:∀b,X.DS s b→X.nx (q+1)≤b→live C b→(m b).1<w.heap.size∧¬own m (DQ X s q) (X.H q) (m b).1:=by intro b hb eL hl;refine⟨I.rel.inside hb hl,?_⟩;rintro⟨b2,eI,l6,he⟩;have:=I.rel.inj b2 b eI.1 hb (by unfold live at*;rw[I.i1 b2 eI.1 eI.2];grind) hl he;grind
 have sy:∀b t,X.DS s b→C.get b=some (.cO t)→(m b).1<w.heap.size∧¬own m (DQ X s q) (X.H q) (m b).1:=by intro b t hb hg;obtain⟨y,hy,fQ,_⟩:=I.rel.bf b hb;rw[hg]at hy;cases hy;exact⟨fQ.iy,λh=>I.rel.cO b t hb hg (E6 _ h)⟩
 have fS:Rel0 X.P m' (X.DS (ins s q)) C' w':=by
  refine⟨?_,?_,?_,?_⟩
  ·intro b hb;by_cases ae:b<X.nx (q+1)
   ·obtain⟨y,hy,fQ,fR⟩:=R1.bf b ((ll b ae).1 hb);refine⟨y,(ur b ae).trans hy,?_,fR.mono λb hb=>(ll b (pj b hb)).2 hb⟩;rw[mL b ae];exact fQ.congr (D:=D1) (λb hb=>mL b (pj b hb)) fR rfl
   ·have eL:X.nx (q+1)≤b:=by omega
    have pY:=fD b eL hb;obtain⟨z,hz,We,tM⟩:=I.rel.bf b pY;refine⟨z,(tN b eL (mn b pY)).trans hz,?_,tM.mono λb hb=>UY hb⟩;rw[L7 b eL];by_cases Bx:z.live
    ·obtain⟨f1,f2⟩:=AJ b pY eL ⟨z,hz,Bx⟩;exact We.congr (D:=X.DS s) li tM (E.keep _ f1 f2).1
    ·cases z<;>first |trivial |exact absurd trivial Bx |skip
     obtain⟨f1,f2⟩:=sy b _ pY hz;exact We.congr (D:=X.DS s) li tM (E.keep _ f1 f2).1
  ·intro b1 b2 h1 h2 l1 l2 he;have mixed:∀b1 b2,X.DS (ins s q) b1→X.DS (ins s q) b2→live C' b1→live C' b2→(m' b1).1=(m' b2).1→b1<X.nx (q+1)→X.nx (q+1)≤b2→False:=by
    intro b1 b2 h1 h2 l1 l2 he ae eL;have ID:=fD b2 eL h2;have l6:live C b2:=by grind[live]
    obtain⟨f1,f2⟩:=AJ b2 ID eL l6;refine(E.keep _ f1 f2).2 ⟨b1,(ll b1 ae).1 h1,?_,?_⟩
    all_goals grind[live]
   by_cases g1:b1<X.nx (q+1)<;>by_cases g2:b2<X.nx (q+1)
   ·rw[mL b1 g1,mL b2 g2]at he;exact R1.inj b1 b2 ((ll b1 g1).1 h1) ((ll b2 g2).1 h2) (by grind[live]) (by grind[live]) he
   ·grind
   ·grind
   ·have s1:=fD b1 omQ h1;have s2:=fD b2 omQ h2;rw[li b1 s1,li b2 s2]at he;exact I.rel.inj b1 b2 s1 s2 (by unfold live at*;grind) (by unfold live at*;grind) he
  ·grind
  ·rintro b1 t h1 hg ⟨b2,h2,l2,he⟩;by_cases g1:b1<X.nx (q+1)
   ·rw[ur b1 g1]at hg;obtain⟨n1,n2⟩:=E.ni b1 t ((ll b1 g1).1 h1) hg;by_cases g2:b2<X.nx (q+1)
    ·rw[mL b1 g1,mL b2 g2]at he;exact R1.cO b1 t ((ll b1 g1).1 h1) hg ⟨b2,(ll b2 g2).1 h2,by grind[live],he⟩
    ·have s2:=fD b2 omQ h2;have LJ:C.get b1=some (.cO t):=by rw[I.i1 b1 n1.1 n1.2];grind
     rw[li b1 n1.1,li b2 s2]at he;exact I.rel.cO b1 t n1.1 LJ ⟨b2,s2,by unfold live at*;grind,he⟩
   ·have s1:=fD b1 omQ h1;rw[tN b1 omQ (mn b1 s1)]at hg;rw[li b1 s1]at he;by_cases g2:b2<X.nx (q+1)
    ·obtain⟨f1,f2⟩:=sy b1 t s1 hg;refine(E.keep _ f1 f2).2 ⟨b2,(ll b2 g2).1 h2,by grind[live],?_⟩;grind
    ·have s2:=fD b2 omQ h2;rw[li b2 s2]at he;exact I.rel.cO b1 t s1 hg ⟨b2,s2,by unfold live at*;grind,he⟩
 have hval:cv m' (X.V q)=cv m1 (X.V q):=kR (λb hb=>mL b (pj b hb)) _ hv;have sx:=I.su r rfl (m':=m') (z:=cv m1 (X.V q)) (λu hu=>kR li u hu) hval (kF (λb hb=>(ll b (pj b hb)).2 hb) _ hv);refine⟨q',m',C',{ qN:=BI,hq:=hqh,hs:=?_,sN:=r.E0,down:=r.pf,rl:=fS,ss:=by rw[Wc];exact I.ss,i1:=?_,i2:=?_,i3:=?_,map:=?_,size:=Nat.le_trans I.size E.size,keep:=?_,os:=E.os.trans I.os,tape:=E.tape.trans I.tape,output:=E.output.trans I.output,AF:=sx.1,slot:=sx.2,df:=by rw[we];exact I.df }⟩
 ·intro j hj;by_cases pV:j=q
  ·grind[Up]
  ·rw[VY pV,I.hs j hj];grind
 ·intro b hb AI;by_cases ae:b<X.nx (q+1)
  ·rw[ur b ae,vB omQ BI bK b ae]
  ·have eL:X.nx (q+1)≤b:=by omega
   have pY:=fD b eL hb;rcases L6 b pY with h |⟨_,j,hj1,nQ,mq,Wf⟩
   ·omega
   ·rw[tN b eL (mn b pY),I.i2 j omQ nQ b mq Wf];have IC:=I.sN j nQ;have pV:j<q':=by
     rcases Nat.lt_or_ge j q' with h |h
     ·grind
     ·have:=dB (X:=X) h omQ;omega
    rw[vB (X:=X) (show j+1≤q' by omega) BI (λk h1 h2=>bK k omQ h2) b Wf]
 ·intro j pV hj b h1 h2;rcases Jg hj with rfl |hj
  ·omega
  ·have IC:=I.sN j hj;have h3:=dB (X:=X) (show q+1≤j by omega) omQ;have h4:=dB (X:=X) (show j+1≤X.N by omega) (Nat.le_refl _);have h5:=I.ss;rw[tN b omQ omQ,I.i2 j omQ hj b h1 h2]
 ·intro j pV hj b h1 h2;have E7:j≠q:=λe=>by grind[Up]
  rw[VY E7]at hj;rcases Nat.lt_or_gt_of_ne E7 with ae |Dh
  ·have h3:=dB (X:=X) (show j+1≤q by omega) I.qN;rw[vB (X:=X) (show q+1≤q' by omega) BI bK b omQ];rw[(E.un b (show b<X.nx q by omega) (λh=>T8 I.sN omQ hj h1 h2 h.1)).1];exact I.i3 j ae hj b h1 h2
  ·exact vB (X:=X) (show j+1≤q' by omega) BI (λk g1 g2=>bK k omQ g2) b h2
 ·intro b hb;rw[li b (.inl hb)];exact I.map b hb
 ·intro c hc hn;obtain⟨k1,k2⟩:=I.keep c hc hn;obtain⟨k3,k4⟩:=E.keep c (Nat.lt_of_lt_of_le hc I.size) (λh=>k2 (E6 c h));refine⟨k3.trans k1,?_⟩;rintro⟨b,hb,hl,he⟩;by_cases ae:b<X.nx (q+1)
  ·exact k4 ⟨b,(ll b ae).1 hb,by grind[live],by grind⟩
  ·have pY:=fD b omQ hb;exact k2 ⟨b,pY,by unfold live at*;grind,by grind⟩
end Cx
end Go.Ae
namespace Go.Ae
open Go
namespace Cx
variable {X:Cx} {s:Nat→Bool} {i q:Nat} {o:Oper} {a:Act} {w w':World} {m m':Mp} {C:AH}
theorem Wg (p:Nat→Prop):∀hi lo,(∀k,lo≤k→k<hi→¬p k)∨∃k,lo≤k∧k<hi∧p k∧∀j,k<j→j<hi→¬p j:=by
 intro hi
 induction hi with
 |zero=>simp
 |succ hi ih=>
  grind
theorem Ul (p:Nat→Prop):∀d lo,(∀k,lo≤k→k<lo+d→¬p k)∨∃k,lo≤k∧k<lo+d∧p k∧∀j,lo≤j→j<k→¬p j:=by
 intro d
 induction d with
 |zero=>grind
 |succ d ih=>
  grind
theorem Inv.nq (I:Inv X s q a w m C) (r:dS X s i o) (hh:X.aX i):i=q:=by
 have eL:q≤i:=by
  rcases Nat.lt_or_ge i q with h |h
  ·have:=(I.hs i hh).2 h;rw[r.un]at this;grind
  grind
 rcases Nat.lt_or_ge q i with h |h
 ·exfalso;have hi:=Qa r.ho;obtain⟨oq,Wh,Wi⟩:=I.hq omQ;obtain⟨oi,l8,iC⟩:=hh;have dz:∀x y,ins s i x=true→(xZ X.M x).testBit y=true→ins s i y=true:=λx y=>XU r.pf r.E0 x y;have:=X.st.chain (λx=>ins s i x=true) dz q i oq oi h Wh l8 Wi iC Up;rw[VY omQ]at this;have:=(I.hs q ⟨oq,Wh,Wi⟩).1 this;omega
 grind
def hv (X:Cx) (k:Nat):Prop:=X.aX k∧X.W k=true
theorem Inv.lm (I:Inv X s q a w m C) (Di:i≤q) (hn:∀k,i≤k→k<q→¬X.hv k):∀b,X.DS s b→b<X.nx i→C.get b=(X.H i).get b:=by intro b hb ae;have:=dB (X:=X) Di I.qN;rw[I.i1 b hb omQ,vB Di I.qN hn b ae]
theorem Inv.nr (I:Inv X s q a w m C) (Di:q≤i) (hi:i≤X.N) (hn:∀k,q≤k→k<i→¬X.hv k):∀b,X.DS s b→b<X.nx i→C.get b=(X.H i).get b:=by
 intro b hb ae;by_cases AI:b<X.nx q
 ·rw[I.i1 b hb AI,vB Di hi hn b AI]
 ·rcases hb with hb |⟨j,hj,h1,h2⟩
  ·have:=Jj hb;have:=dB (X:=X) (Nat.zero_le q) I.qN;omega
  ·have IC:=I.sN j hj;have pV:q≤j:=by
    rcases Nat.lt_or_ge j q with h |h
    ·have:=dB (X:=X) (show j+1≤q by omega) I.qN;omega
    grind
   have L0:j<i:=by
    rcases Nat.lt_or_ge j i with h |h
    ·grind
    ·have:=dB (X:=X) h omQ;omega
   rw[I.i2 j pV hj b h1 h2,vB (X:=X) (show j+1≤i by omega) hi (λk g1 g2=>hn k omQ g2) b h2]
theorem dS.lu (I:Inv X s q a w m C) (r:dS X s i o) {k:Nat} (h1:i<k) (h2:k<q) (hk:X.aX k):wO X.M i k=true:=by
 have n6:=(I.hs k hk).2 h2;obtain⟨ok,eJ,_⟩:=hk;have a1:(xZ X.M i).testBit k=false:=by
  cases h:(xZ X.M i).testBit k
  ·rfl
  ·have:=T6 r.ho h;omega
 have a2:=r.later n6;grind[wO]
theorem dS.fE (I:Inv X s q a w m C) (r:dS X s i o) {k:Nat} (h1:q≤k) (h2:k<i) (hk:X.aX k):wO X.M i k=true:=by
 have n6:s k=false:=by
  cases h:s k
  ·rfl
  ·have:=(I.hs k hk).1 h;omega
 obtain⟨ok,eJ,_⟩:=hk;have a1:(xZ X.M i).testBit k=false:=by
  cases h:(xZ X.M i).testBit k
  ·rfl
  ·have:=r.pT h;grind
 have a2:(xZ X.M k).testBit i=false:=by
  cases h:(xZ X.M k).testBit i
  ·rfl
  ·have:=T6 eJ h;omega
 grind[wO]
theorem YF {a:AV} {n:Option Nat} {v:AV} {h g:AH} (e:∀b off,a=.ptr b off→g.get b=h.get b) (e2:∀b off l i,a=.slice b off l i true→g.get b=h.get b) (hl:xG a n v h=true):xG a n v g=true:=by
 cases a<;>first |exact hl |skip
 ·rename_i b off;unfold xG at*;grind
 ·rename_i b off l i o;cases o
  ·rfl
  ·unfold xG at*;cases n with
   |none=>grind
   |some m=>simp only[vL]at*;grind
theorem Inv.load (I:Inv X s q a w m C) (r:dS X s i o) (hl:Uc o.op=true) (hw:X.W i=true) (hD:∀x v,eW (X.F i) x=some v→x∈o.op.operands→bp (X.DS s) v∧bp (Dg X.D0 X.H i) v) :
  cn X.P X.c o.op (eW (X.F i)) C=some (X.V i,C)∧X.H (i+1)=X.H i:=by
 have hi:=Qa r.ho;have hs:=(X.tr.step i o r.ho).1.yes hw;obtain⟨t,x,BG⟩:=Xt hl;rw[BG]at hs ⊢;obtain⟨e1,b,off,hx,g1,g2⟩:=Va hs;refine⟨?_,e1⟩;obtain⟨d1,d2⟩:=hD x _ hx (by grind[Op.operands]);have pZ:X.DS s b:=d1;have sA:b<X.nx i:=by
  rcases(show Dg X.D0 X.H i b from d2)with h |h
  ·exact Nat.lt_of_lt_of_le (Jj h) (dB (Nat.zero_le _) omQ)
  ·exact h.2
 have L8:¬X.aX i:=by rintro⟨o',pU,hh⟩;rw[r.ho]at pU;cases pU;rw[BG]at hh;cases hh
 have fV:∀k,X.hv k→wO X.M i k=true→xG (.ptr b off) (wY X.P o.op) (X.V i) (X.H k)=true∧xG (.ptr b off) (wY X.P o.op) (X.V i) (X.H (k+1))=true∧b<X.nx 0:=by
  rintro k ⟨⟨ok,eJ,E8⟩,E9⟩ dJ;obtain⟨z,hz,h1⟩:=X.EX i k o ok r.ho eJ (by grind[vm]) E8 hw E9 dJ;have:z=.ptr b off:=by rw[BG]at hz;have hz:eW (X.F i) x=some z:=hz;grind
  subst this;simp only[rY,Bool.and_eq_true]at h1;exact⟨h1.1,h1.2.1,zA h1.2.2⟩
 have fin:∀k,k≤X.N→xG (.ptr b off) (wY X.P o.op) (X.V i) (X.H k)=true→C.get b=(X.H k).get b→cn X.P X.c (.load t x) (eW (X.F i)) C=some (X.V i,C):=by intro k _ h1 h2;refine g2 C ?_;rw[BG]at h1;exact YF (λb' pL e=>by grind) (λ_ _ _ _ e=>by grind) h1
 rcases Nat.lt_or_ge i q with h |h
 ·rcases Wg X.hv q i with dA |⟨k,k1,k2,k3,k4⟩
  ·exact g1 C (I.lm omQ dA b pZ sA)
  ·have rS:k≠i:=λe=>L8 (e▸k3.1);obtain⟨l1,l2,l3⟩:=fV k k3 (dS.lu I r omQ k2 k3.1);have z1:=dB (X:=X) (Nat.zero_le q) I.qN;have z2:=dB (X:=X) (Nat.zero_le (k+1)) (by have:=I.qN;omega);refine fin (k+1) (by have:=I.qN;omega) l2 ?_;rw[I.i1 b pZ omQ,vB (X:=X) (show k+1≤q by omega) I.qN (λj h1 h2=>k4 j omQ h2) b omQ]
 ·have hqi:q<i∨q=i:=by omega
  rcases Ul X.hv (i-q) q with dA |⟨k,k1,k2,k3,k4⟩
  ·exact g1 C (I.nr h omQ (λk h1 h2=>dA k h1 omQ) b pZ sA)
  ·obtain⟨l1,l2,l3⟩:=fV k k3 (dS.fE I r k1 omQ k3.1);have z1:=dB (X:=X) (Nat.zero_le q) I.qN;refine fin k omQ l1 ?_;rw[I.i1 b pZ omQ,vB (X:=X) k1 omQ k4 b omQ]
theorem Inv.cut (I:Inv X s q a w m C) (r:dS X s i o) (hl:Qc X.P o.op=true) (hh:¬X.aX i) (hw:X.W i=true) (hD:∀x v,eW (X.F i) x=some v→x∈o.op.operands→bp (X.DS s) v∧bp (Dg X.D0 X.H i) v) :
  cn X.P X.c o.op (eW (X.F i)) C=some (X.V i,C)∧X.H (i+1)=X.H i:=by
 have hi:=Qa r.ho;have hs:=(X.tr.step i o r.ho).1.yes hw;obtain⟨e1,x,hx,u,hu,Db,g1,g2⟩:=Nb hl hs;refine⟨?_,e1⟩;by_cases fL:∃b off l k,u=.slice b off l k true
 rotate_left
 ·simp_all
 obtain⟨b,off,l,k0,rfl⟩:=fL;obtain⟨d1,d2⟩:=hD x _ hu hx;have pZ:X.DS s b:=d1;have sA:b<X.nx i:=by
  rcases(show Dg X.D0 X.H i b from d2)with h |h
  ·exact Nat.lt_of_lt_of_le (Jj h) (dB (Nat.zero_le _) omQ)
  ·exact h.2
 have fV:∀k,X.hv k→wO X.M i k=true→xG (.slice b off l k0 true) (wY X.P o.op) (X.V i) (X.H k)=true∧xG (.slice b off l k0 true) (wY X.P o.op) (X.V i) (X.H (k+1))=true∧b<X.nx 0:=by
  rintro k ⟨⟨ok,eJ,E8⟩,E9⟩ dJ;obtain⟨z,hz,h1⟩:=X.EX i k o ok r.ho eJ (by simp_all[vm,Bool.true_or,Bool.or_true]) E8 hw E9 dJ;rw[Db]at hz;cases hz;unfold rY at h1
  split at h1
  ·rename_i hv;rw[hv]at hs;exact(qK3 hl hs).elim
  ·simp only[Bool.and_eq_true]at h1;exact⟨h1.1,h1.2.1,zA h1.2.2⟩
 have fin:∀k,k≤X.N→xG (.slice b off l k0 true) (wY X.P o.op) (X.V i) (X.H k)=true→C.get b=(X.H k).get b→cn X.P X.c o.op (eW (X.F i)) C=some (X.V i,C):=by intro k _ h1 h2;exact g2 C (YF (λ_ _ e=>by cases e) (λb' pL l' k' e=>by simp_all) h1)
 rcases Nat.lt_or_ge i q with h |h
 ·rcases Wg X.hv q i with dA |⟨k,k1,k2,k3,k4⟩
  ·exact g1 C λb' pL l' k' e=>by cases e;exact I.lm omQ dA b pZ sA
  ·have rS:k≠i:=λe=>hh (e▸k3.1);obtain⟨l1,l2,l3⟩:=fV k k3 (dS.lu I r omQ k2 k3.1);have z1:=dB (X:=X) (Nat.zero_le q) I.qN;have z2:=dB (X:=X) (Nat.zero_le (k+1)) (by have:=I.qN;omega);refine fin (k+1) (by have:=I.qN;omega) l2 ?_;rw[I.i1 b pZ omQ,vB (X:=X) (show k+1≤q by omega) I.qN (λj h1 h2=>k4 j omQ h2) b omQ]
 ·rcases Ul X.hv (i-q) q with dA |⟨k,k1,k2,k3,k4⟩
  ·exact g1 C λb' pL l' k' e=>by cases e;exact I.nr h omQ (λk h1 h2=>dA k h1 omQ) b pZ sA
  ·obtain⟨l1,l2,l3⟩:=fV k k3 (dS.fE I r k1 omQ k3.1);have z1:=dB (X:=X) (Nat.zero_le q) I.qN;refine fin k omQ l1 ?_;rw[I.i1 b pZ omQ,vB (X:=X) k1 omQ k4 b omQ]
theorem Inv.conv (I:Inv X s q a w m C) (r:dS X s i o) (hl:kJ X.P o.op=true) (hw:X.W i=true) (hD:∀x v,eW (X.F i) x=some v→x∈o.op.operands→bp (X.DS s) v∧bp (Dg X.D0 X.H i) v) :
  cn X.P X.c o.op (eW (X.F i)) C=some (X.V i,C)∧X.H (i+1)=X.H i:=by
 have hi:=Qa r.ho;have hs:=(X.tr.step i o r.ho).1.yes hw;obtain⟨e1,hn,⟨st,bK⟩,x,hx,u,hu,Db,g1⟩:=Vy hl hs;refine⟨g1 C ?_,e1⟩;rintro b off l k0 p rfl;obtain⟨d1,d2⟩:=hD x _ hu hx;have pZ:X.DS s b:=d1;have sA:b<X.nx i:=by
  rcases(show Dg X.D0 X.H i b from d2)with h |h
  ·exact Nat.lt_of_lt_of_le (Jj h) (dB (Nat.zero_le _) omQ)
  ·exact h.2
 have L8:¬X.aX i:=by rintro⟨o',pU,hh⟩;rw[r.ho]at pU;simp_all[TY]
 have fV:∀k,X.hv k→wO X.M i k=true→X.nx (k+1)≤b:=by rintro k ⟨⟨ok,eJ,E8⟩,E9⟩ dJ;obtain⟨z,hz,h1⟩:=X.EX i k o ok r.ho eJ (by simp_all[vm,Bool.or_true]) E8 hw E9 dJ;rw[Db]at hz;cases hz;rw[hn,bK]at h1;exact gI h1
 rcases Nat.lt_or_ge i q with h |h
 ·refine I.lm omQ (λk h1 h2 hk=>?_) b pZ sA;by_cases e:k=i
  ·subst e;exact L8 hk.1
  ·have g:=fV k hk (dS.lu I r omQ h2 hk.1);have:=dB (X:=X) (show i≤k+1 by omega) (by have:=I.qN;omega);omega
 ·by_cases AI:b<X.nx q
  ·rw[I.i1 b pZ AI];refine(vB h omQ (λk h1 h2 hk=>?_) b AI).symm;have g:=fV k hk (dS.fE I r h1 h2 hk.1);have:=dB (X:=X) (show q≤k+1 by omega) omQ;omega
  ·rcases pZ with hb |⟨j,hj,h1,h2⟩
   ·have:=Jj hb;have:=dB (X:=X) (Nat.zero_le q) I.qN;omega
   ·have IC:=I.sN j hj;have pV:q≤j:=by
     rcases Nat.lt_or_ge j q with h |h
     ·have:=dB (X:=X) (show j+1≤q by omega) I.qN;omega
     omega
    have L0:j<i:=by
     rcases Nat.lt_or_ge j i with h |h
     ·omega
     ·have:=dB (X:=X) h omQ;omega
    rw[I.i2 j pV hj b h1 h2];refine(vB (X:=X) (show j+1≤i by omega) omQ (λk g1 g2 hk=>?_) b h2).symm;have g:=fV k hk (dS.fE I r omQ g2 hk.1);have:=dB (X:=X) (show j+1≤k+1 by omega) omQ;omega
end Cx
end Go.Ae
namespace Go.Ae
open Go
namespace Cx
variable {X:Cx} {s:Nat→Bool} {i q:Nat} {o:Oper} {a:Act} {w w':World} {m m':Mp} {C:AH}
noncomputable def FL (X:Cx) (o:Oper) (i:Nat):Nat→Option AV:=λt=>if(looks X.ops.toList o).testBit t=true then X.F i t else none
theorem UU {o:Oper} (i:Nat) (g:AH):cn X.P X.c o.op (eW (X.F i)) g=cn X.P X.c o.op (eW (X.FL o i)) g:=by
 refine qK6 λx hx=>?_;cases x with
 |tmp t=>simp_all[eW,FL,YA]
 |_=>rfl
theorem Ns (I:Inv X s q a w m C) (r:dS X s i o) {t:Nat} {v:AV} (h:X.FL o i t=some v):a.tmps[t]? =some (cv m v)∧bp (X.DS s) v∧bp (Dg X.D0 X.H i) v:=by
 unfold FL at h
 split at h
 ·rename_i hb;obtain⟨h1,h2⟩:=I.slot t v (by rw[r.read hb];grind);exact⟨h1,h2,(X.gh i (Nat.le_of_lt (Qa r.ho))).slot t v h⟩
 grind
theorem L9 {D:Nat→Prop} (I:Inv X s q a w m C) (r:dS X s i o) (hD:∀v,bp (X.DS s) v→bp (Dg X.D0 X.H i) v→bp D v):eP m D a.eval (eW (X.FL o i)):=by
 intro x v e;cases x with
 |tmp t=>obtain⟨h1,h2,h3⟩:=Ns I r e;simp_all[Act.eval,Array.getD_eq_getD_getElem?,Option.getD_some]
 |const k=>simp only[eW]at e;obtain⟨h1,h2⟩:=JV (m:=m) (D:=D) e;exact⟨h1.symm,h2⟩
 |global g=>trivial
 |func f=>simp only[eW,Option.some.injEq]at e;subst e;trivial
theorem qWH (I:Inv X s q a w m C) (r:dS X s i o):Region.wanted o (yielded X.ops a.tmps)=X.W i:=by
 obtain⟨st,_⟩:=X.tr.step i o r.ho;cases hg:o.guard with
 |none=>rw[st.g0 hg];grind[Region.wanted]
 |some g=>
  obtain⟨d,vg,h1,h2,h3⟩:=st.g1 g hg;have hF:X.FL o i d=some vg:=by simp_all[FL,Ol]
  obtain⟨h4,_⟩:=Ns I r hF;unfold kS at h1;rw[hg]at h1;simp only[Option.bind_some,xr,Array.getElem?_toList,Option.bind_eq_some_iff]at h1;obtain⟨p,hp,EH⟩:=h1;have hy:yielded X.ops a.tmps g.1=(match cv m vg with | .bool b=>some b |_=>none):=by unfold yielded;grind
  rw[h3];cases IE:km vg g.2
  ·refine Mr hg ?_;rw[hy];cases vg<;>simp only[cv]<;>first |(intro hh;cases hh;done) |skip
   grind[km]
  ·refine qki hg ?_;rw[hy];cases vg<;>simp only[km,Bool.false_eq_true]at IE
   grind[cv]
theorem Inv.step (I:Inv X s q a w m C) (r:dS X s i o) {rc:Option Nat} {nn:Nat} {Q:Exit→Act→World→Prop} {K:Act→World→Prop}
  (hK:∀q' a' w' m' C',Inv X (ins s i) q' a' w' m' C'→K a' w'):wpOpIn (FW rc) nn X.P X.ops Q i K a w:=by
 have hi:=Qa r.ho;obtain⟨st,_⟩:=X.tr.step i o r.ho;unfold wpOpIn;rw[r.ho];simp only[qWH I r];cases hw:X.W i with
 |false=>
  simp only[Bool.false_eq_true,if_false];refine⟨λ_ _=>trivial,?_⟩;obtain⟨hV,hH⟩:=st.no hw;by_cases hh:X.aX i
  ·obtain rfl:=I.nq r hh;obtain⟨q',m',C',I'⟩:=I.ek r (m1:=m) (D1:=DQ X s i) (by rw[hH];exact Ext.refl ..) (by rw[hH];exact I.n7) (by rw[hV];trivial);rw[hV]at I';exact hK _ _ _ _ _ I'
  ·have I':=I.pure r hh hH (Ext.refl ..) I.rel (by rw[hV];trivial);rw[hV]at I';exact hK _ _ _ _ _ I'
 |true=>
  simp only[if_true];have hs:=st.yes hw;by_cases hh:X.aX i
  ·obtain rfl:=I.nq r hh;rw[UU]at hs;refine ZV X.hc (L9 I r (λv h1 h2=>I.um h1 (Nat.le_refl _) h2)) I.n7 hs ?_;intro m' D' w' E R' hv;obtain⟨q',m2,C2,I'⟩:=I.ek r E R' hv;exact hK _ _ _ _ _ I'
  ·have EV:zd X.P o.op=false:=by
    cases h:zd X.P o.op
    ·rfl
    ·exact absurd ⟨o,r.ho,h⟩ hh
   have quiet:cn X.P X.c o.op (eW (X.F i)) C=some (X.V i,C)→X.H (i+1)=X.H i→o.wpIn (FW rc) nn X.P a w K Q:=by
    intro e hH;rw[UU]at e;refine ZV X.hc (L9 I r (λv h1 _=>h1)) I.rel e ?_;intro m' D' w' E R' hv;have hD:D'=X.DS s:=by
     rw[E.sr]
     funext b
     simp;omega
    subst hD;exact hK _ _ _ _ _ (I.pure r hh hH E R' hv)
   have Pa:∀x v,eW (X.F i) x=some v→x∈o.op.operands→bp (X.DS s) v∧bp (Dg X.D0 X.H i) v:=by
    intro x v hx hm;cases x with
    |tmp t=>
     have hF:X.FL o i t=some v:=by unfold FL;rw[iJ (YA hm)];exact hx
     exact(Ns I r hF).2
    |const k=>exact⟨(JV (m:=m) hx).2,(JV (m:=m) hx).2⟩
    |global g=>cases hx
    |func f=>cases hx;trivial
   rcases Ki EV with hc |hc |hc
   ·cases nl:Qc X.P o.op
    ·cases dV:kJ X.P o.op
     ·obtain⟨h1,h2⟩:=TX hc nl dV hs;simp_all
     ·obtain⟨h1,h2⟩:=I.conv r dV hw Pa
      simp_all
    ·obtain⟨h1,h2⟩:=I.cut r nl hh hw Pa;simp_all
   ·obtain⟨h1,h2⟩:=I.load r (Zg hc) hw Pa;simp_all
   ·obtain⟨mk,x,h1,h2,h3,h4⟩:=MI hc hs;have e:=h4 C;rw[UU]at e;refine ZV X.hc (L9 I r (λv h1 _=>h1)) I.rel e ?_;intro m' D' w' E R' hv;obtain⟨m2,C2,I'⟩:=I.fresh r hh h1 h2 h3 E R';exact hK _ _ _ _ _ I'
theorem nt (X:Cx):∀j,j≤X.N→∀b,X.nx 0≤b→b<X.nx j→∃i,i<j∧X.nx i≤b∧b<X.nx (i+1):=by
 intro j
 induction j with
 |zero=>simp
 |succ j ih=>
  grind
theorem Inv.done (I:Inv X s q a w m C) (cu:∀i,i<X.N→s i=true) {tm':PT AV} (ht:QZ tm' (X.F X.N)) :
  Z2 X.P X.m0 X.D0 (X.H 0) X.w0 X.n X.a0.defers a tm' m (DQ X s X.N) (X.H X.N) w:=by
 have BI:q=X.N:=by
  rcases Nat.lt_or_ge q X.N with h |h
  ·have:=(I.hs q (I.hq h)).1 (cu q h);omega
  ·have:=I.qN;omega
 subst BI;have IF:∀b,X.DS s b→DQ X s X.N b:=λb hb=>⟨hb,T7 I.sN hb⟩;have gN:=X.gh X.N (Nat.le_refl _);refine⟨⟨?_,I.map,I.size,?_,gN.nx,?_,I.os,I.tape,I.output,?_,λb t hb hg=>gN.ni b t (L3 I.sN hb.1 hb.2) hg⟩,I.n7,⟨I.AF,?_⟩,I.df⟩
 ·intro b hb;exact IF b (.inl hb)
 ·intro c hc hn;obtain⟨k1,k2⟩:=I.keep c hc hn;refine⟨k1,?_⟩;rintro⟨b,hb,hl,he⟩;exact k2 ⟨b,hb.1,by unfold live at*;rw[I.i1 b hb.1 hb.2];grind,he⟩
 ·intro b hb hn;refine⟨gN.un b hb hn,?_⟩;rintro⟨h |⟨j,hj,h1,_⟩,_⟩
  ·grind
  ·have:=dB (X:=X) (Nat.zero_le j) (Nat.le_of_lt (I.sN j hj));have hb:b<X.nx 0:=hb;omega
 ·intro b;constructor
  ·rintro⟨h,ae⟩;exact L3 I.sN h ae
  ·rintro(h |⟨h1,h2⟩)
   ·exact IF b (.inl h)
   ·obtain⟨i,hi,h3,h4⟩:=X.nt X.N (Nat.le_refl _) b h1 h2;exact IF b (.inr ⟨i,cu i hi,h3,h4⟩)
 ·intro t v hv;have:=I.slot t v (by rw[jQB cu _ (Nat.le_refl _)];exact ht t v hv);grind[kF]
def cY (N:Nat) (s:Nat→Bool):Nat:=((List.range N).filter λi=>!s i).length
theorem qg9 {N:Nat} (hi:i<N) (un:s i=false):cY N (ins s i)<cY N s:=by
 unfold cY;have:(List.range N).filter (λj=>!ins s i j)=((List.range N).filter λj=>!s j).filter λj=>!(j==i):=by
  simp[List.filter_filter,ins,Bool.not_or]
 rw[this];rw[List.length_filter_lt_length_iff_exists];grind
theorem qW9 {N:Nat} (h:cY N s=0):∀i,i<N→s i=true:=by grind[cY,List.length_eq_zero_iff,List.filter_eq_nil_iff]
theorem qWI {listed:Array Bool} (bC:listed.size=X.ops.size) (h:Region.ready .any X.ops listed=[]):∀i,i<X.N→listed.getD i false=true:=by
 intro i
 induction i using Nat.strongRecOn with
 |_ i ih=>
  intro hi;cases hl:listed.getD i false
  ·exfalso;obtain⟨o,ho⟩:=X.lg hi;have:i∈Region.ready .any X.ops listed:=by
    rw[mem_ready];have ae:i<listed.size:=by grind
    refine⟨by grind,o,ho,λe he hb=>?_⟩;have:=X.st.back i o ho e he hb;grind
   grind
  rfl
theorem BJ {rc:Option Nat} {nn:Nat} {Q:Exit→Act→World→Prop} (hQ:∀s q a w m C,Inv X s q a w m C→(∀i,i<X.N→s i=true)→Q .normal a w) :
  ∀(fuel:Nat) (listed:Array Bool) (q:Nat) (a:Act) (w:World) (m:Mp) (C:AH),listed.size=X.ops.size→Inv X (λi=>listed.getD i false) q a w m C→cY X.N (λi=>listed.getD i false)≤fuel→
   wpAnyIn (FW rc) nn X.P .any X.ops Q fuel listed a w:=by
 intro fuel
 induction fuel with
 |zero=>
  intro listed q a w m C bC I hc;have cu:=qW9 (Nat.le_zero.1 hc);refine⟨?_,hQ _ q a w m C I cu⟩;rw[List.eq_nil_iff_forall_not_mem];intro i hi;obtain⟨h1,o,ho,_⟩:=mem_ready.1 hi;have ae:=Qa ho;grind
 |succ fuel ih=>
  intro listed q a w m C bC I hc;refine⟨λh=>hQ _ q a w m C I (qWI bC h),?_⟩;intro i hi;obtain⟨h1,o,ho,h2⟩:=mem_ready.1 hi;have ae:=Qa ho;have IG:i<listed.size:=by grind
  have un:listed.getD i false=false:=by grind
  have us:(λj=>(listed.setIfInBounds i true).getD j false)=ins (λj=>listed.getD j false) i:=by
   funext j
   by_cases e:j=i
   ·simp_all[ins]
   ·rw[getD_set_ne false (λee=>e ee.symm)];simp[ins,e]
  refine I.step (I.rdy ho un h2) ?_;intro q' a' w' m' C' I';refine ih _ q' a' w' m' C' (by grind) (by grind) ?_;rw[us];have:=qg9 (N:=X.N) (s:=λj=>listed.getD j false) ae un;omega
theorem start (X:Cx) (Fa:∀t v,X.F 0 t=some v→X.a0.tmps[t]? =some (cv X.m0 v)∧bp X.D0 v) (bC:X.n≤X.a0.tmps.size) {s:Nat→Bool} (hs:∀i,s i=false) :
  ∃q C,Inv X s q X.a0 { X.w0 with drawn:=X.w0.drawn+1 } X.m0 C:=by
 have hex:∃q,q≤X.N∧(q<X.N→X.aX q)∧∀k,k<q→¬X.aX k:=by
  rcases Ul X.aX X.N 0 with h |⟨k,h1,h2,h3,h4⟩
  ·exact⟨X.N,Nat.le_refl _,λh=>by omega,λk hk=>h k (Nat.zero_le _) omQ⟩
  grind
 obtain⟨q,Pb,hq2,Wj⟩:=hex;have bK:∀i,∀k,i≤k→k<q→¬(X.aX k∧X.W k=true):=λi k _ h2 h=>Wj k h2 h.1;have hD:X.DS s=X.D0:=by
  funext b
  refine propext ⟨λh=>h.elim id ?_,.inl⟩;grind
 have dA:∀i,s i=true→False:=λi h=>by grind
 refine⟨q,⟨X.nx X.N,(X.H 0).rc,(X.H 0).t⟩,{ qN:=Pb,hq:=hq2,hs:=?_,sN:=λi h=>(dA i h).elim,down:=λi _ h=>(dA i h).elim,rl:=?_,ss:=Nat.le_refl _,i1:=?_,i2:=λi _ h=>(dA i h).elim,i3:=?_,map:=λ_ _=>rfl,size:=Nat.le_refl _,keep:=?_,os:=rfl,tape:=rfl,output:=rfl,AF:=bC,slot:=?_,df:=rfl }⟩
 ·grind
 ·rw[hD];refine⟨?_,X.nk.inj,λb hb=>Nat.lt_of_lt_of_le (Jj hb) (dB (Nat.zero_le _) (Nat.le_refl _)),X.nk.cO⟩;intro b hb;obtain⟨x,hx,hr,hd⟩:=X.nk.bf b hb;exact⟨x,hx,hr.congr (D:=X.D0) (λ_ _=>rfl) hd rfl,hd⟩
 ·intro b hb ae;rw[hD]at hb;rw[vB (X:=X) (Nat.zero_le q) Pb (bK 0) b (Jj hb)];rfl
 ·grind[vB]
 ·intro c hc hn;rw[hD];trivial
 ·intro t v hv;rw[qvi hs]at hv;grind
end Cx
end Go.Ae
namespace Go.Ae
open Go
variable {P:Program} {c:CV}
theorem qGs {t:PT Nat} {i:Nat} {a v:AV} {n:Option Nat} {nx:Nat} {r:AV×AH}:∀(hs:List Jv) (k:R),D9 t i a n v nx hs k=some r→
  k=some r∧∀q∈hs,wO t i q.j=true→rY a n v q.hb q.ha nx=true:=by
 intro hs
 induction hs with
 |nil=>simp
 |cons q hs ih=>
  intro k e;obtain⟨j,hb,ha⟩:=q;simp only[D9]at e;cases hl:wO t i j
  ·grind
  ·rw[hl]at e;simp only[cJ]at e;unfold ve at e;grind
theorem Oe {t:PT Nat} {hs:List Jv} {nx:Nat} {r:AV×AH}:∀(ls:List J7) (k:R),Nl t hs nx ls k=some r→
  k=some r∧∀l∈ls,∀q∈hs,wO t l.i q.j=true→rY l.a l.n l.v q.hb q.ha nx=true:=by
 intro ls
 induction ls with
 |nil=>simp
 |cons l ls ih=>
  intro k e;obtain⟨i,a,n,v⟩:=l;simp only[Nl]at e;obtain⟨e1,e2⟩:=qGs _ _ e;grind
theorem NA (hm:P.follows .mixedOrders=true) (hc:yh P c) {n nn:Nat} {ops:Array Oper} {rc:Option Nat} {Q:Exit→Act→World→Prop} {r:AV×AH} {id:Nat}
  {m:Mp} {D:Nat→Prop} {h:AH} {w:World} {a:Act} {tm:PT AV} {k:PT AV→AH→R} (RR:Rel P m D h w) (T:eK m D n a tm)
  (hk:∀m' D' h' w' a' tm',Z2 P m D h w n a.defers a' tm' m' D' h' w'→k tm' h'=some r→Q .normal a' w')
  (bK:Ih P ops=true) {LP:J7→Prop} {HP:Jv→Prop} {F1:Nat→Option AV} {h1:AH} {cF:PT AV} (S:nf P c n ops LP HP 0 (λt=>tm.get t) h ops.size F1 h1) (T1:QZ cF F1) (e1:k cF h1=some r)
  (fV:∀l hr,LP l→HP hr→(∃oi,ops[l.i]? =some oi∧vm P oi.op=true)→(∃oj,ops[hr.j]? =some oj∧zd P oj.op=true)→wO (wE ops.toList 0 .e) l.i hr.j=true→
   rY l.a l.n l.v hr.hb hr.ha h.nx=true):(Code.region id ops true).wpIn (FW rc) nn P Q a w:=by
 obtain⟨_,F,H,V,W,Pc,sB,hFN,hHN,n9⟩:=S.fns;have ae:∀i o,ops[i]? =some o→i<ops.size:=λi o h=>(Array.getElem?_eq_some_iff.1 h).1;have tr:Tr P c n ops LP HP F H V W:=⟨λi o ho=>n9 i o (Nat.zero_le _) (ae i o ho) ho⟩;have Pd:∀t v,F 0 t=some v→a.tmps[t]? =some (cv m v)∧bp D v:=λt v hv=>by rw[Pc]at hv;exact T.at_ t v hv
 have sC:Rel P m D (H 0) w:=by grind
 have gh:=λi hi=>qYO hc tr sC (λt v hv=>(Pd t v hv).2) (i:=i) hi;have gm:=(Z6 hc tr sC (λt v hv=>(Pd t v hv).2) ops.size (Nat.le_refl _)).2;have EX:∀i j oi oj,ops[i]? =some oi→ops[j]? =some oj→vm P oi.op=true→zd P oj.op=true→W i=true→W j=true→wO (wE ops.toList 0 .e) i j=true→
   ∃a,J6 (eW (F i)) oi.op=some a∧rY a (wY P oi.op) (V i) (H j) (H (j+1)) (H 0).nx=true:=by
  intro i j oi oj l8 Fb hl hh hwi hwj dJ;obtain⟨sti,_⟩:=n9 i oi (Nat.zero_le _) (ae i oi l8) l8;obtain⟨stj,_⟩:=n9 j oj (Nat.zero_le _) (ae j oj Fb) Fb;obtain⟨z,hz,hLP⟩:=sti.ld hwi hl;have hHP:=stj.hv hwj hh;have g1:=fV _ _ hLP hHP ⟨oi,l8,hl⟩ ⟨oj,Fb,hh⟩ dJ;grind
 let X:Cx:=⟨P,c,n,ops,wE ops.toList 0 .e,LP,HP,F,H,V,W,m,D,w,a,hc,tr,qxp bK,sC,gh,λi hi=>(gm i hi).1,λi hi=>(gm i hi).2,EX⟩
 refine wpIn_region_any hm ?_;obtain⟨q,C,I⟩:=Cx.start X Pd T.size (s:=λi=>(Array.replicate ops.size false).getD i false) (λi=>by simp[Array.getD]);refine Cx.BJ (X:=X) ?_ ops.size (Array.replicate ops.size false) q a _ m C (by grind) I ?_
 ·intro s q a' w' m' C' I' cu;have O:=I'.done cu (tm':=cF) (by show QZ cF (F ops.size);grind);have O':Z2 P m D h w n a.defers a' cF m' (Cx.DQ X s X.N) h1 w':=by
   have e0:X.H 0=h:=sB;have eN:X.H X.N=h1:=hHN;grind
  grind
 ·unfold Cx.cY;refine Nat.le_trans (List.length_filter_le _ _) ?_;simp;exact Nat.le_refl _
theorem Wk (hm:P.follows .mixedOrders=true) (hc:yh P c):VO P c:=by
 intro n nn ops Ls rc Q r id m D h w a tm k RR T e hk;simp only[Ll,xm]at e;obtain⟨bK,e⟩:=e;have hl:∀i o,ops.toList[i]? =some o→ops[0+i]? =some o:=λi o hi=>by grind
 have h0:QZ tm (λt=>tm.get t):=λt v hv=>hv;cases Pe:Xd P (vm P) (wE ops.toList 0 .e) ops.toList ops.toList 0
 ·rw[Pe]at e;simp only[cJ]at e;obtain⟨cF,h1,F1,e1,T1,S⟩:=qqU _ ops.toList 0 Ls tm _ h k hl h0 e;rw[Nat.zero_add,Array.length_toList]at S;refine NA hm hc RR T hk bK S T1 e1 ?_;rintro l hr _ _ ⟨oi,l8,hli⟩ ⟨oj,Fb,LY⟩ dJ;have:=MQ _ _ Pe l.i oi (by grind) hli hr.j oj (by grind) LY;grind
 ·rw[Pe]at e;simp only[cJ]at e;cases Ls with
  |nil=>grind
  |cons L Ls=>simp only[zg]at e;obtain⟨cF,h1,F1,ng,nh,e1,T1,_,_,S⟩:=qYb ops.toList 0 [] tm _ h [] [] _ hl h0 (λ_ hx=>(by grind)) e;obtain⟨e2,fV⟩:=Oe _ _ e1;rw[xm]at e2;obtain⟨cu,e2⟩:=e2;have S:=S (λl=>l∈ng) (λq=>q∈nh) (λ_ h=>h) (λ_ h=>h);rw[Nat.zero_add,Array.length_toList]at S;refine NA hm hc RR T hk bK S (T5 T1 L cu) e2 ?_;grind
theorem O7 {tab:BT} {rt:List RT} (hm:P.follows .mixedOrders=true) (ht:TabOk P tab rt) (k:Nat):yh P (callT tab rt k) :=
 qYL ht (λ_ hc=>Wk hm hc) k
theorem Rel.empty (P:Program) (m:Mp) (w:World) (hg:Gl P w):Rel P m (λ_=>False) AH.empty w:=⟨⟨λ_ hb=>hb.elim,λ_ _ hb=>hb.elim,λ_ hb=>hb.elim,λ_ _ hb=>hb.elim⟩,λp hp=>let ⟨g,h1,h2⟩:=hg p hp;⟨g,h1,h2,λ⟨_,hb,_⟩=>hb⟩⟩
theorem closed_true {tab:BT} {rt:List RT} (hm:P.follows .mixedOrders=true) (ht:TabOk P tab rt) {k:Nat} {f:FuncId} (e:isTrue (callT tab rt k (.fn f [] []) [] AH.empty)=true) (n:Nat) (w:World) (hg:Gl P w) :
  CallsIn Fence.wide n P f #[] w λe w'=>e=.returned (.bool true)∧RowKit.Below w.heap.size w w':=by
 unfold isTrue at e
 split at e
 rotate_left
 ·grind
 rename_i h' he;have:=(O7 hm ht k (.fn f [] []) [] AH.empty _ he (λ_=>(0,0)) _ w (Rel.empty P _ w hg) ⟨trivial,trivial⟩ trivial).2 n;refine CallsIn.mono this ?_;rintro ee w' ⟨m',D',rfl,X,R',_⟩;refine⟨rfl,X.os,X.tape,X.output,X.size,?_⟩;intro k hk;exact(X.keep k hk (λ⟨b,hb,_⟩=>hb)).1
end Go.Ae
namespace Go.Ae
open Go
variable {P:Program}
def callOk (P:Program) (f:Nat):Bool:=match P.funcs[f]? with
 | some fn => !(fn.name == "runtime.NumGoroutine") && !fn.body.isNone
 |none=>false
theorem qJT {f:Nat} (h:callOk P f=true) (as:Array Value) (W:World):(callFunc f as).run P W=.ok (.enter f as) W:=by
 unfold callOk at h
 split at h
 ·rename_i fn hf;simp only[Bool.and_eq_true,Bool.not_eq_true']at h;obtain⟨h1,h2⟩:=h;unfold callFunc;have hp:(program:Sem Program).run P W=.ok P W:=rfl;rw[qq hp];simp only[hf,h1,h2,Bool.false_eq_true,if_false];rfl
 grind
theorem BT.sD (g:Nat) (w:WF) (f:Nat):(BT.leaf g w).get f=if g=f then some w else none:=by
 show Bool.rec (motive:=λ_=>Option WF) none (some w) (Nat.beq g f)=_;by_cases h:g=f
 ·simp_all
 ·rw[iQ h,vY h]
theorem BT.sE (m:Nat) (l r:BT) (f:Nat):(BT.node m l r).get f=l.get f∨(BT.node m l r).get f=r.get f:=by
 show Bool.rec (motive:=λ_=>Option WF) (r.get f) (l.get f) (Nat.ble f m)=_∨Bool.rec (motive:=λ_=>Option WF) (r.get f) (l.get f) (Nat.ble f m)=_;cases Nat.ble f m
 all_goals simp
theorem BT.sF {p:Nat→WF→Prop}:∀{t:BT} {f:Nat} {g:WF},t.all p→t.get f=some g→p f g∧f∈t.fs:=by
 intro t
 induction t with
 |no=>nofun
 |leaf k w=>
  intro f g ha h;rw[BT.sD]at h;by_cases e:k=f
  ·rw[iJ e]at h;cases h;subst e;exact⟨ha,by simp[BT.fs]⟩
  grind
 |node m l r il ir=>
  intro f g ha h;rcases BT.sE m l r f with hl |hr
  ·rw[hl]at h;obtain⟨h1,h2⟩:=il ha.1 h;grind[BT.fs]
  ·rw[hr]at h;obtain⟨h1,h2⟩:=ir ha.2 h;grind[BT.fs]
theorem TabOk.of {tab:BT} {rt:List RT} (h1:tab.all (WX P)) (h2:tab.fs.all (λf=>callOk P f)=true) (h3:∀p∈rt,Ea P p.f p.pos p.L p.run):TabOk P tab rt:=by
 refine⟨?_,?_,h3⟩
 ·intro f g hg;exact(BT.sF h1 hg).1
 grind[qJT,List.all_eq_true,BT.sF]
open Go.RowKit
theorem post_below {H:Type} {enc:TypeId×Value→H} {f:Func} {s:ChangeSpec} {apart fresh handsOn again:Bool} {W W':World} {args:Array Value} {v:Value} {ds gs:List (DataW H)} {before pa pv:List MemPlace}
  (whole:DataW.Whole enc P f.params.toList s.vars apart W args.toList ds gs before) (parts:before=pa++pv) (below:Below W.heap.size W W')
  (out:∀(b:Nat) (sp:Nat→Bool) (hd:Bool),DataW.TrodAll enc P W' b sp hd f.resultTypes.toList (v.resultList f.resultTypes.size) (s.fn H (ds++gs)).results [])
  (ins:∀sp:Nat→Bool,(∀p∈before,sp p.block=true)→DataW.TrodAll enc P W' 0 sp true f.params.toList args.toList (s.fn H (ds++gs)).args pa)
  (Wl:∀sp:Nat→Bool,(∀p∈before,sp p.block=true)→DataW.TrodVars enc P W' sp s.vars (s.fn H (ds++gs)).vars pv)
  (wide:∀(j:Nat) (t:TypeId) (r:Value),f.resultTypes[j]? =some t→(v.resultList f.resultTypes.size)[j]? =some r→Value.okWide P W' .any 0 t r) :
  s.post enc P f apart fresh handsOn again W args v W':=by
 have inside:∀p∈before,p.block<W.heap.size:=λp hp=>whole.lt p hp;have Fc:∀p∈before,(λb=>decide (b<W.heap.size)) p.block=true:=λp hp=>iG (inside p hp);have all:∀p∈before,(λ_:Nat=>true) p.block=true:=λ_ _=>rfl;have BK:=whole;obtain⟨_,_,_,_,_,live,Pf⟩:=BK;have sG:([]++pa)++pv=before:=by grind
 refine⟨ds,gs,before,[],pa,pv,whole,out _ _ _,ins _ Fc,Wl _ Fc,?_,λ_=>⟨wide,_,_,([]++pa)++pv,⟨[]++pa,pv,ChangeShapes.trodAll_append (ins _ all) (out _ _ _),Wl _ all,rfl,?_,?_⟩,?_⟩⟩
 ·refine World.keptBut_mono (λp hp=>?_) (below.frame (· ∈before));grind
 ·intro b off hp;have cM:MemPlace.cell b off∈before:=by grind
  rw[below.frozen (inside _ cM)];exact live b off cM
 all_goals grind
end Go.Ae
namespace Go.Ae
open Go
theorem qgu {α:Type} (f:Nat→Option α):∀N,∃t:aE α,∀i,aE.get t i=if i<N then f i else none:=by
 intro N
 induction N with
 |zero=>exact⟨.e,λi=>by rfl⟩
 |succ N ih=>
  obtain⟨t,ht⟩:=ih;cases hf:f N with
  |none=>
   refine⟨t,λi=>?_⟩;grind
  |some x=>
   refine⟨aE.set t N x,λi=>?_⟩;rw[aE.bI];grind
def YS:Value→AV
 | .bool b=>.bool b
 | .int k n=>.int k n
 | .string s=>.str s.data.toList
 | .pointer none=>.au
 | .pointer (some ⟨b,o,none⟩)=>.ptr b o
 | .slice none 0 0=>.ad
 | .slice (some a) 0 0=>.bX a
 | .slice (some ⟨b,o,none⟩) len cap=>.slice b o len cap false
 | .nilFunc=>.ei
 | .nilIface=>.cN
 |_=>.undef
def GY:Value→AV
 | .agg cs=>.agg (cs.toList.map YS)
 |v=>YS v
def G4:Mp:=λb=>(b,0)
def gY (w:World) (b:Nat):Prop:=∃C e fr,w.heap[b]? =some (.cells C e fr)
def AK (w:World) (v:Value):Prop:=cv G4 (YS v)=v∧bp (gY w) (YS v)
structure kc (w:World) (h:AH):Prop where
  nx:h.nx=w.heap.size
  bf:∀b C e fr,w.heap[b]? =some (.cells C e fr)→∃t,h.get b=some (.cO t)∧∀i u,aE.get t i=some u↔∃v,C[i]? =some v∧AK w v∧u=YS v
theorem mirror (w:World):∃h,kc w h:=by
 have key:∀b:Nat,∃x:Option cK,∀(C:Array Value) (e:TypeId) (fr:Nat×Nat),w.heap[b]? =some (.cells C e fr)→∃t,x=some (.cO t)∧∀i u,aE.get t i=some u↔∃v,C[i]? =some v∧AK w v∧u=YS v:=by
  intro b;by_cases hc:gY w b
  ·obtain⟨C,e,fr,hb⟩:=hc;have cl:∀v,Decidable (AK w v):=λv=>Classical.propDecidable _;obtain⟨t,ht⟩:=qgu (λi=>(C[i]?).bind λv=>if AK w v then some (YS v)else none) C.size;refine⟨some (.cO t),λC' e' fr' bF=>⟨t,rfl,λi u=>?_⟩⟩;grind
  ·exact⟨none,λC e fr hb=>absurd ⟨C,e,fr,hb⟩ hc⟩
 obtain⟨h,h1,h2⟩:=Cx.pg (λb=>Classical.choose (key b)) w.heap.size w.heap.size;refine⟨h,h1,λb C e fr hb=>?_⟩;grind
theorem kc.mr {w:World} {h:AH} (M:kc w h) {b:Nat} (hb:gY w b):¬live h b:=by obtain⟨C,e,fr,hc⟩:=hb;obtain⟨t,ht,_⟩:=M.bf b C e fr hc;rintro⟨x,hx,hl⟩;rw[ht]at hx;cases hx;exact hl
theorem kc.nk {P:Program} {w:World} {h:AH} (M:kc w h):Rel0 P G4 (gY w) h w:=by
 refine⟨?_,λb _ hb _ hl=>(M.mr hb hl).elim,?_,?_⟩
 ·intro b hb;obtain⟨C,e,fr,hc⟩:=hb;obtain⟨t,ht,hi⟩:=M.bf b C e fr hc;refine⟨_,ht,⟨C.toList,e,fr,by trivial,?_⟩,?_⟩
  ·intro i v hv;obtain⟨u,h1,h2,rfl⟩:=(hi i v).1 hv;rw[h2.1];grind
  ·intro i v hv;obtain⟨u,h1,h2,rfl⟩:=(hi i v).1 hv;exact h2.2
 ·rintro b ⟨C,e,fr,hc⟩;rw[M.nx];grind
 ·rintro b t _ _ ⟨b',bF,hl,_⟩;exact M.mr bF hl
theorem kc.rel {P:Program} {w:World} {h:AH} (M:kc w h) (hg:Gl P w):Rel P G4 (gY w) h w :=
 ⟨M.nk,λp hp=>let ⟨g,h1,h2⟩:=hg p hp;⟨g,h1,h2,λ⟨_,hb,hl,_⟩=>M.mr hb hl⟩⟩
noncomputable def AH.at (h:AH) (b i:Nat):Option AV:=match h.get b with
 |some (.cells c _ _)=>c.fg i
 |some (.cO t)=>aE.get t i
 |_=>none
def WT (P:Program) (h:AH):Nat→TypeId→List AV→Prop
 | 0,_,_=>False
 |d+1,t,cs=>match P.underlying t with
  |some .bool=>∃b,cs=[.bool b]
  |some (.int k)=>∃n,cs=[.int k n]∧k.min≤n∧n≤k.max
  |some .string=>∃s,cs=[.str s]∧s.length≤maxLen
  |some (.slice e)=>cs=[.ad]∨(∃a,cs=[.bX a])∨P.cellsOf e=0∨∃b off len cap,cs=[.slice b off len cap false]∧len≤cap∧cap≤maxLen∧b<h.nx∧(∃t,h.get b=some (.cO t))∧
    ∀i,i<len→∃row,row.length=P.cellsOf e∧(∀j,j<P.cellsOf e→h.at b (off+i*P.cellsOf e+j)=row[j]?)∧WT P h d e row
  |some (.struct fs)=>cs.length=P.cellsOf t∧∀f∈fs.toList,WT P h d f.type ((cs.drop f.offset).take (P.cellsOf f.type))
  |some (.array n e)=>cs.length=P.cellsOf t∧∀i,i<n→WT P h d e ((cs.drop (i*P.cellsOf e)).take (P.cellsOf e))
  |_=>True
def Yt (P:Program):Nat→List Field→Option Nat
 |c,[]=>some c
 |c,f::r=>if f.offset=c then Yt P (c+P.cellsOf f.type) r else none
def plainT (P:Program):Nat→TypeId→Bool
 | 0,_=>false
 |d+1,t=>match P.underlying t with
  |some .bool |some (.int _) |some .string=>true
  |some (.slice e)=>Nat.ble 1 (P.cellsOf e)&&plainT P d e
  |some (.struct fs)=>(Yt P 0 fs.toList==some (P.cellsOf t))&&fs.toList.all λf=>plainT P d f.type
  |_=>false
theorem qw2 {k:IntKind} {n:Int} (h:(Lit.int k n).wf=true):k.min≤n∧n≤k.max:=by grind[Lit.wf]
theorem qVp {P:Program}:∀{l:List Field} {c e:Nat},Yt P c l=some e→c≤e∧∀i,c≤i→i<e→∃f∈l,f.offset≤i∧i<f.offset+P.cellsOf f.type:=by
 intro l
 induction l with
 |nil=>intro c e h;cases h;simp
 |cons f l ih=>
  intro c e h;unfold Yt at h
  grind
theorem qvB {w:World} {h:AH} (M:kc w h) {b o:Nat} {v:Value} (hc:w.cell? ⟨b,o,none⟩=some v) (hg:AK w v):h.at b o=some (YS v)∧gY w b:=by
 unfold World.cell? at hc
 split at hc
 ·rename_i C e fr hb;simp at hc;obtain⟨t,ht,hi⟩:=M.bf b C e fr hb;refine⟨?_,C,e,fr,hb⟩;unfold AH.at
  grind
 grind
theorem qW3 {w:World} {a:Addr} {v:Value} (hc:w.cell? a=some v):a.spot=none:=by
 unfold World.cell? at hc
 split at hc
 all_goals simp_all
theorem Qz {P:Program} {d:Nat} {t:TypeId} (h:plainT P d t=true):∃n,plainT P (n+1) t=true:=by
 cases d with
 |zero=>cases h
 |succ d=>grind
theorem XR {P:Program} {d:Nat} {t e:TypeId} (h:plainT P (d+1) t=true) (hu:P.underlying t=some (.slice e)):0<P.cellsOf e∧plainT P d e=true:=by unfold plainT at h;simp_all;omega
theorem GX {P:Program} {d:Nat} {t:TypeId} {fs:Array Field} (h:plainT P (d+1) t=true) (hu:P.underlying t=some (.struct fs)) :
  Yt P 0 fs.toList=some (P.cellsOf t)∧∀f∈fs.toList,plainT P d f.type=true:=by
 unfold plainT at h;grind
theorem qJh {P:Program}:∀{l:List Field} {c e:Nat},Yt P c l=some e→e=c+(l.map λf=>P.cellsOf f.type).sum∧∀(j:Nat) f,l[j]? =some f→f.offset=c+((l.take j).map λf=>P.cellsOf f.type).sum:=by
 intro l
 induction l with
 |nil=>intro c e h;cases h;simp
 |cons g l ih=>
  intro c e h;unfold Yt at h
  split at h
  ·rename_i hf;obtain⟨h1,h2⟩:=ih h;refine⟨by grind,λj f hj=>?_⟩;cases j with
   |zero=>grind
   |succ j=>grind
  grind
def Wm (P:Program) (t:TypeId):Prop:=∃d,plainT P d t=true
theorem qZi (P:Program):Kids P (Wm P):=by
 refine⟨?_,?_,?_,?_,?_⟩
 ·rintro t e ⟨d,h⟩ hu;grind[Qz,plainT,Bool.false_eq_true]
 ·rintro t e ⟨d,h⟩ hu;obtain⟨n,h⟩:=Qz h;exact⟨n,(XR h hu).2⟩
 ·rintro t e n ⟨d,h⟩ hu;grind[Qz,plainT,Bool.false_eq_true]
 ·rintro t fs ⟨d,h⟩ hu;obtain⟨n,h⟩:=Qz h;obtain⟨h1,h2⟩:=GX h hu;obtain⟨h3,h4⟩:=qJh h1;exact⟨λf hf=>⟨n,h2 f hf⟩,by grind,λj f hj=>by grind⟩
 ·rintro t k e ⟨d,h⟩ hu;grind[Qz,plainT,Bool.false_eq_true]
theorem qka {H:Type} {enc:TypeId×Value→H} {P:Program} {w:World} {h:AH} (M:kc w h) {held:Bool}:∀(d:Nat) (t:TypeId) (fuel:Nat) (cs:List Value) (x:DataW H×List MemPlace),
  plainT P d t=true→DataW.trod enc P w 0 (λ_=>true) held fuel t cs=some x→(∀v∈cs,AK w v)∧WT P h d t (cs.map YS):=by
 intro d
 induction d with
 |zero=>nofun
 |succ d ih=>
  intro t fuel cs x hp e;have Wn:=hp;unfold plainT at hp;unfold WT
  split at hp
  ·rename_i hu;simp only[hu];obtain⟨b,rfl,_⟩:=DataW.trod_bool hu e;exact⟨λv hv=>by rw[List.mem_singleton.1 hv];trivial,b,rfl⟩
  ·rename_i k hu;simp only[hu];obtain⟨n,rfl,_,hw⟩:=DataW.trod_int hu e;exact⟨λv hv=>by rw[List.mem_singleton.1 hv];trivial,n,rfl,qw2 hw⟩
  ·rename_i hu;simp only[hu];obtain⟨s,rfl,_,hl⟩:=DataW.trod_string hu e;refine⟨λv hv=>by rw[List.mem_singleton.1 hv];trivial,s.data.toList,rfl,?_⟩;trivial
  ·rename_i el hu;simp only[hu];obtain⟨bC,LB⟩:=XR Wn hu;rcases DataW.trod_slice hu e with⟨rfl,_⟩ |⟨a,len,cap,Wo,rest,n,rfl,rfl,_,_,LO,Pg,LM,h1,h2,_⟩
   ·exact⟨λv hv=>by rw[List.mem_singleton.1 hv];trivial,.inl rfl⟩
   ·obtain⟨TK,h2⟩:=h2 rfl;by_cases Wp:cap=0
    ·subst Wp;obtain rfl:len=0:=by omega
     exact⟨λv hv=>by rw[List.mem_singleton.1 hv];trivial,.inr (.inl ⟨a,rfl⟩)⟩
    ·--the first place shows that the address has no spot
     have row:∀i,i<cap→∃r y,(w.cells? 0 (a.add (i*P.cellsOf el)) (P.cellsOf el))=some r∧DataW.trod enc P w 0 (λ_=>true) held n el r=some y:=by
      intro i hi;by_cases p0:i<len
      ·have hx:=h1 i p0;rw[iW omQ]at hx;grind[Option.bind_eq_some_iff]
      ·have hx:=h2 (i-len) omQ;rw[show len+(i-len)=i by omega,iW omQ]at hx;grind[Option.bind_eq_some_iff]
     have cells:∀(b:Addr) r,w.cells? 0 b (P.cellsOf el)=some r→r.length=P.cellsOf el∧∀j,j<P.cellsOf el→w.cell? (b.add j)=r[j]?:=by intro b r hr;unfold World.cells? at hr;rw[iJ (Nat.zero_le _)]at hr;refine⟨by simpa using mapM_some_length hr,λj hj=>?_⟩;exact mapM_some_get hr j j (by grind)
     have AL:a.spot=none:=by obtain⟨r,y,hr,_⟩:=row 0 omQ;obtain⟨c1,c2⟩:=cells _ r hr;have:=c2 0 bC;rw[iW omQ]at this;grind[qW3,Addr.add]
     obtain⟨b,off,sp⟩:=a;simp only at AL;subst AL;have ap:∀i,i<cap→∃Ph:List AV,Ph.length=P.cellsOf el∧(∀j,j<P.cellsOf el→h.at b (off+i*P.cellsOf el+j)=Ph[j]?)∧WT P h d el Ph∧gY w b:=by
      intro i hi;obtain⟨r,y,hr,hy⟩:=row i hi;obtain⟨c1,c2⟩:=cells _ r hr;obtain⟨g1,g2⟩:=ih el n r y LB hy;have da:∀j,j<P.cellsOf el→h.at b (off+i*P.cellsOf el+j)=(r.map YS)[j]? ∧gY w b:=by
       intro j hj;have Pj:=c2 j hj;have l9:j<r.length:=by omega
       rw[iW l9]at Pj;have e1:((⟨b,off,none⟩:Addr).add (i*P.cellsOf el)).add j=⟨b,off+i*P.cellsOf el+j,none⟩:=by rw[w9,w9]
       rw[e1]at Pj;obtain⟨k1,k2⟩:=qvB M Pj (g1 _ (List.getElem_mem l9));grind
      grind
     have sH:YS (.slice (some ⟨b,off,none⟩) len cap)=.slice b off len cap false:=by
      cases cap with
      |zero=>grind
      |succ cap=>cases len<;>rfl
     obtain⟨_,_,_,_,si⟩:=ap 0 omQ;refine⟨?_,.inr (.inr (.inr ⟨b,off,len,cap,?_,LO,Pg,M.nk (P:=P) |>.lt b si,?_,?_⟩))⟩
     ·intro v hv;rw[List.mem_singleton.1 hv];exact⟨by rw[sH];rfl,by rw[sH];exact si⟩
     ·grind
     ·obtain⟨C,e,fr,hc⟩:=si;obtain⟨t,ht,_⟩:=M.bf b C e fr hc;grind
     ·intro i hi;obtain⟨r,r1,r2,r3,_⟩:=ap i omQ;grind
  ·rename_i fs hu;simp only[hu];obtain⟨Pk,hpf⟩:=GX Wn hu;obtain⟨xs,n,rfl,_,hlen,mY,hf⟩:=DataW.trod_struct hu e;have part:∀f∈fs.toList,(∀v∈(cs.drop f.offset).take (P.cellsOf f.type),AK w v)∧WT P h d f.type (((cs.drop f.offset).take (P.cellsOf f.type)).map YS):=by
    intro f Dk;obtain⟨i,hi,rfl⟩:=List.mem_iff_getElem.1 Dk;have oW:i<fs.size:=by grind
    have hx:=hf i fs[i] (Array.getElem?_eq_getElem oW);grind
   refine⟨?_,by grind,λf Dk=>?_⟩
   ·intro v hv;obtain⟨i,hi,rfl⟩:=List.mem_iff_getElem.1 hv;obtain⟨_,hc⟩:=qVp Pk;obtain⟨f,Dk,h1,h2⟩:=hc i (Nat.zero_le _) omQ;refine(part f Dk).1 _ ?_;have:((cs.drop f.offset).take (P.cellsOf f.type))[i-f.offset]? =some cs[i]:=by
     rw[List.getElem?_take_of_lt omQ,List.getElem?_drop,show f.offset+(i-f.offset)=i by omega,iW hi]
    grind
   simp_all
  grind
end Go.Ae
namespace Go.Ae
open Go
def Fe (P:Program) (h:AH) (d:Nat) (t:TypeId) (a:AV):Prop :=
 match P.underlying t with
 |some (.struct _) |some (.array _ _)=>∃l,a=.agg l∧WT P h d t l
 |_=>WT P h d t [a]
def IH (P:Program) (h:AH) (d:Nat):List TypeId→List AV→Prop
 |[],[]=>True
 |t::ts,a::as=>Fe P h d t a∧IH P h d ts as
 |_,_=>False
theorem qq5 {H:Type} {enc:TypeId×Value→H} {P:Program} {w:World} {h:AH} (M:kc w h) {r:Reach} {base d:Nat} {t:TypeId} {v:Value} {x:DataW H} {ps:List MemPlace} (hp:plainT P d t=true)
  (hv:Value.okWide P w r base t v) (e:DataW.Trod enc P w 0 (λ_=>true) true t v x ps):cv G4 (GY v)=v∧bp (gY w) (GY v)∧Fe P h d t (GY v):=by
 obtain⟨fuel,e⟩:=e;obtain⟨g,wt⟩:=qka M d t fuel _ _ hp e;unfold Fe;have agg:∀cs:Array Value,v=.agg cs→cv G4 (GY v)=v∧bp (gY w) (GY v)∧∃l,GY v=.agg l∧WT P h d t l:=by
  rintro cs rfl;refine⟨?_,?_,_,rfl,wt⟩
  ·simp only[GY,cv,xW,List.map_map]
   congr 1
   apply Array.ext';simp only[]
   conv=>rhs;rw[← List.map_id cs.toList]
   refine List.map_congr_left λv hv=>?_;exact(g v hv).1
  ·show aT _ _;rw[xh];intro u hu;obtain⟨z,hz,rfl⟩:=List.mem_map.1 hu;exact(g z hz).2
 have one:(∀cs:Array Value,v≠.agg cs)→cv G4 (GY v)=v∧bp (gY w) (GY v)∧WT P h d t [GY v]:=by
  intro hn;have hc:v.cells.toList=[v]:=by cases v<;>first |rfl |grind
  have hi:GY v=YS v:=by cases v<;>first |rfl |grind
  rw[hc]at g wt;rw[hi];exact⟨(g v aA).1,(g v aA).2,wt⟩
 unfold Value.okWide at hv
 split
 ·grind
 ·grind
 ·rename_i h1 h2;refine one ?_;rintro cs rfl
  simp_all[Cell.okWide,Cell.ok]
theorem args_ok {H:Type} {enc:TypeId×Value→H} {P:Program} {w:World} {h:AH} (M:kc w h) {r:Reach} {base d:Nat}:∀{ts:List TypeId} {vs:List Value} {ds:List (DataW H)} {ps:List MemPlace},
  ts.all (plainT P d)=true→(∀(j:Nat) t v,ts[j]? =some t→vs[j]? =some v→Value.okWide P w r base t v)→DataW.TrodAll enc P w 0 (λ_=>true) true ts vs ds ps→
  aQ G4 (vs.map GY)=vs∧aT (gY w) (vs.map GY)∧IH P h d ts (vs.map GY)∧ds.length=ts.length:=by
 intro ts
 induction ts with
 |nil=>
  intro vs ds ps _ _ e;cases vs<;>cases ds<;>simp only[DataW.TrodAll]at e
  trivial
 |cons t ts ih=>
  intro vs ds ps hp hv e;cases vs<;>cases ds<;>simp only[DataW.TrodAll]at e
  rename_i v vs x ds;obtain⟨p,q,h1,h2,_⟩:=e;simp only[List.all_cons,Bool.and_eq_true]at hp;obtain⟨a1,a2,a3⟩:=qq5 M hp.1 (hv 0 t v rfl rfl) h1;obtain⟨b1,b2,b3,b4⟩:=ih hp.2 (λj t v h1 h2=>hv (j+1) t v (by grind) (by grind)) h2;exact⟨by simp_all[List.map_cons,aQ],⟨a2,b2⟩,⟨a3,b3⟩,by grind⟩
theorem args_stay {H:Type} {enc:TypeId×Value→H} {P:Program} {w w':World} {sp:Nat→Bool}:∀{ts:List TypeId} {vs:List Value} {ds:List (DataW H)} {ps:List MemPlace},
  (∀t∈ts,Wm P t)→DataW.TrodAll enc P w 0 (λ_=>true) true ts vs ds ps→(∀k,k<w.heap.size→w'.heap[k]? =w.heap[k]?)→(∀p∈ps,p.block<w.heap.size)→(∀p∈ps,sp p.block=true)→
  DataW.TrodAll enc P w' 0 sp true ts vs ds ps:=by
 intro ts
 induction ts with
 |nil=>
  grind[DataW.TrodAll]
 |cons t ts ih=>
  intro vs ds ps hp e hb ae hs;cases vs<;>cases ds<;>simp only[DataW.TrodAll]at e ⊢
  rename_i v vs x ds;obtain⟨p,q,⟨fuel,h1⟩,h2,rfl⟩:=e;have hq:∀y,y∈p→y∈p++q:=λy hy=>List.mem_append.2 (.inl hy);refine⟨p,q,⟨fuel,?_⟩,ih (λt ht=>hp t (iX _ ht)) h2 hb (λy hy=>ae y (List.mem_append.2 (.inr hy))) (λy hy=>hs y (List.mem_append.2 (.inr hy))),rfl⟩;refine DataW.trod_stays (qZi P) ?_ (λh=>by grind) (hp t (iK ..)) h1 ?_ (λy hy=>hs y (hq y hy))
  ·rintro t e ⟨d,h⟩ hu;obtain⟨n,h⟩:=Qz h;exact(XR h hu).1
  ·intro y hy;have hk:=hb y.block (ae y (hq y hy));cases y with
   |cell b off=>show World.cell? _ _=World.cell? _ _;unfold World.cell?;simp only[];rw[show w'.heap[b]? =w.heap[b]? from hk]
   |map b=>exact hk
end Go.Ae
