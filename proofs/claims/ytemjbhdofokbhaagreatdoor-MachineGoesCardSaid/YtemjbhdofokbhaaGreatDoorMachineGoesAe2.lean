/- The abstract executor of the program's form in Lean, shown sound: what an abstract heap says of a world; loads, stores, numbers, simple operations. -/
import Derived.Test.YtemjbhdofokbhaaGreatDoorMachineGoesAe1
import Derived.Below
import Derived.Lib.LaidTab
import Derived.Laws.StructEq
namespace Go.Ae
theorem vC {a b:Nat} (h:a≠b):Nat.beq a b=false:=by
 grind[Nat.beq,absurd,Nat.eq_of_beq_eq_true]
theorem gV {a b:Nat} (h:Nat.beq a b=false):a≠b:=λe=>by simp_all
theorem zC {a b:Nat} (h:Nat.beq a b=true):a=b:=Nat.eq_of_beq_eq_true h
theorem PT.ly {α:Type} (i:Nat):(PT.e:PT α).get i=none:=rfl
theorem PT.mn {α:Type} (l:PT α) (v:Option α) (r:PT α) (i:Nat):(PT.n l v r).get i=bif Nat.beq i 0 then v else bif Nat.beq (i%2) 1 then l.get (i/2)else r.get (i/2-1):=by show Bool.rec (motive:=λ_=>Option α) (Bool.rec (motive:=λ_=>Option α) (r.get (i/2-1)) (l.get (i/2)) (Nat.beq (i%2) 1)) v (Nat.beq i 0)=_;cases Nat.beq i 0<;>cases Nat.beq (i%2) 1<;>rfl
theorem PT.Br {α:Type} (f i:Nat) (x:α):PT.iz (f+1) .e i x=bif Nat.beq i 0 then .n .e (some x) .e else bif Nat.beq (i%2) 1 then .n (PT.iz f .e (i/2) x) none .e else .n .e none (PT.iz f .e (i/2-1) x):=by show Bool.rec (motive:=λ_=>PT α) (Bool.rec (motive:=λ_=>PT α) (.n .e none (PT.iz f .e (i/2-1) x)) (.n (PT.iz f .e (i/2) x) none .e) (Nat.beq (i%2) 1)) (.n .e (some x) .e) (Nat.beq i 0)=_;cases Nat.beq i 0<;>cases Nat.beq (i%2) 1<;>rfl
theorem PT.Bs {α:Type} (f i:Nat) (x:α) (l:PT α) (v:Option α) (r:PT α):PT.iz (f+1) (.n l v r) i x=bif Nat.beq i 0 then .n l (some x) r else bif Nat.beq (i%2) 1 then .n (PT.iz f l (i/2) x) v r else .n l v (PT.iz f r (i/2-1) x):=by show Bool.rec (motive:=λ_=>PT α) (Bool.rec (motive:=λ_=>PT α) (.n l v (PT.iz f r (i/2-1) x)) (.n (PT.iz f l (i/2) x) v r) (Nat.beq (i%2) 1)) (.n l (some x) r) (Nat.beq i 0)=_;cases Nat.beq i 0<;>cases Nat.beq (i%2) 1<;>rfl
theorem Mm {α:Type} (i:Nat):QV ([]:List α) i=none:=rfl
theorem Oh {α:Type} (a:α) (r:List α) (i:Nat):QV (a::r) i=bif Nat.beq i 0 then some a else QV r (i-1):=by show Bool.rec (motive:=λ_=>Option α) (QV r (i-1)) (some a) (Nat.beq i 0)=_;cases Nat.beq i 0<;>rfl
theorem WS {α:Type} (l:List α):vh 0 l=some []:=rfl
theorem Ms {α:Type} (n:Nat) (a:α) (r:List α):vh (n+1) (a::r)=(vh n r).bind λs=>some (a::s):=by show Option.rec (motive:=λ_=>Option (List α)) none (λs=>some (a::s)) (vh n r)=_;cases vh n r<;>rfl
theorem qqn {α:Type} (n:Nat):gg (n+1) ([]:List α)=[]:=rfl
theorem qV0 {α:Type} (n:Nat) (a:α) (r:List α):gg (n+1) (a::r)=gg n r:=rfl
theorem WU {α:Type} (l:List α):Nf l []=some l:=rfl
theorem ZF {α:Type} (a:α) (l:List α) (x:α) (xs:List α):Nf (a::l) (x::xs)=(Nf l xs).bind λs=>some (x::s):=by show Option.rec (motive:=λ_=>Option (List α)) none (λs=>some (x::s)) (Nf l xs)=_;cases Nf l xs<;>rfl
theorem Vx {α:Type} (a:α) (l:List α) (n:Nat) (xs:List α):JL (a::l) (n+1) xs=(JL l n xs).bind λs=>some (a::s):=by show Option.rec (motive:=λ_=>Option (List α)) none (λs=>some (a::s)) (JL l n xs)=_;cases JL l n xs<;>rfl
theorem qk9 (t:aQ AV) (i:Nat):An t i []=t:=rfl
theorem qzB (t:aQ AV) (i:Nat) (x:AV) (r:List AV):An t i (x::r)=An (aQ.set t i x) (i+1) r:=rfl
theorem vm (z:List AV) (t:aQ AV) (i:Nat):Ji z t i=(match aQ.get t i with |some v=>some v |none=>QV z (i%z.length)):=by show Option.rec (motive:=λ_=>Option AV) (QV z (i%z.length)) (λv=>some v) (aQ.get t i)=_;split<;>simp_all
theorem WV (z:List AV) (t:aQ AV) (i:Nat):XO z t i 0=some []:=rfl
theorem Z1 (z:List AV) (t:aQ AV) (i n:Nat):XO z t i (n+1)=(Ji z t i).bind λv=>(XO z t (i+1) n).bind λs=>some (v::s):=by
 show Option.rec (motive:=λ_=>Option (List AV)) none (λv=>Option.rec (motive:=λ_=>Option (List AV)) none (λs=>some (v::s)) (XO z t (i+1) n)) (Ji z t i)=_;cases Ji z t i with
 |none=>rfl
 |some v=>cases XO z t (i+1) n<;>rfl
theorem PT.r6 {α:Type}:∀(f:Nat) (t:PT α) (i:Nat) (x:α) (j:Nat),i<f→(PT.iz f t i x).get j=if i=j then some x else t.get j:=by
 intro f
 induction f with
 |zero=>simp
 |succ f ih=>
  intro t i x j h;cases t with
  |e=>
   simp only[PT.Br];by_cases h0:i=0
   ·subst h0;simp only[Nat.beq_refl,cond_true,PT.mn,PT.ly];by_cases hj:j=0
    ·simp_all
    simp_all;omega
   ·have Pp:Nat.beq i 0=false:=vC h0;rw[Pp];simp only[cond_false];cases hm:Nat.beq (i%2) 1
    ·have uk:i%2≠1:=gV hm;simp only[cond_false,PT.mn,PT.ly];by_cases hj:j=0
     ·simp_all
     ·have Av:Nat.beq j 0=false:=vC hj;rw[Av];simp only[cond_false];cases lA:Nat.beq (j%2) 1
      ·have oA:j%2≠1:=gV lA;simp only[cond_false];rw[ih _ _ _ _ omQ];simp only[PT.ly];grind
      grind
    ·have uk:i%2=1:=Nat.eq_of_beq_eq_true hm;simp only[cond_true,PT.mn,PT.ly];by_cases hj:j=0
     ·simp_all
     ·have Av:Nat.beq j 0=false:=vC hj;rw[Av];simp only[cond_false];cases lA:Nat.beq (j%2) 1
      ·grind
      ·have oA:j%2=1:=Nat.eq_of_beq_eq_true lA;simp only[cond_true];rw[ih _ _ _ _ omQ];simp only[PT.ly];grind
  |n l v r=>
   simp only[PT.Bs];by_cases h0:i=0
   ·subst h0;simp only[Nat.beq_refl,cond_true,PT.mn];by_cases hj:j=0
    ·simp_all
    ·rw[iQ (λe=>hj e.symm)];grind[Nat.beq,vC]
   ·have Pp:Nat.beq i 0=false:=vC h0;rw[Pp];simp only[cond_false];cases hm:Nat.beq (i%2) 1
    ·have uk:i%2≠1:=gV hm;simp only[cond_false,PT.mn];by_cases hj:j=0
     ·simp_all
     ·have Av:Nat.beq j 0=false:=vC hj;rw[Av];simp only[cond_false];cases lA:Nat.beq (j%2) 1
      ·have oA:j%2≠1:=gV lA;grind
      grind
    ·have uk:i%2=1:=Nat.eq_of_beq_eq_true hm;simp only[cond_true,PT.mn];by_cases hj:j=0
     ·simp_all
     ·have Av:Nat.beq j 0=false:=vC hj;rw[Av];simp only[cond_false];cases lA:Nat.beq (j%2) 1
      ·grind
      ·have oA:j%2=1:=Nat.eq_of_beq_eq_true lA;grind
theorem PT.bZ {α:Type} (t:PT α) (i:Nat) (x:α) (j:Nat):(t.set i x).get j=if i=j then some x else t.get j :=
 PT.r6 (i+1) t i x j (Nat.lt_succ_self i)
@[simp] theorem PT.get_set_same {α:Type} (t:PT α) (i:Nat) (x:α):(t.set i x).get i=some x:=by rw[PT.bZ,iJ rfl]
def G3 (i m:Nat):Bool:=Nat.beq (Nat.land i m) 0
theorem PT.um {α:Type} (i j m:Nat) (f:PT α→PT α) (t:PT α):PT.mZ j m (PT.sub i m f t)=if G3 i m=G3 j m then f (PT.mZ j m t)else PT.mZ j m t:=by
 unfold G3;cases t with
 |e=>
  show PT.mZ j m (Bool.rec (motive:=λ_=>PT α) (.n .e none (f .e)) (.n (f .e) none .e) (Nat.beq (Nat.land i m) 0))=_;cases Nat.beq (Nat.land i m) 0
  ·show Bool.rec (motive:=λ_=>PT α) (f .e) .e (Nat.beq (Nat.land j m) 0)=_;cases Nat.beq (Nat.land j m) 0<;>rfl
  ·show Bool.rec (motive:=λ_=>PT α) .e (f .e) (Nat.beq (Nat.land j m) 0)=_;cases Nat.beq (Nat.land j m) 0<;>rfl
 |n l v r=>
  show PT.mZ j m (Bool.rec (motive:=λ_=>PT α) (.n l v (f r)) (.n (f l) v r) (Nat.beq (Nat.land i m) 0))=if _ then f (Bool.rec (motive:=λ_=>PT α) r l (Nat.beq (Nat.land j m) 0))else Bool.rec (motive:=λ_=>PT α) r l (Nat.beq (Nat.land j m) 0)
  cases Nat.beq (Nat.land i m) 0
  ·show Bool.rec (motive:=λ_=>PT α) (f r) l (Nat.beq (Nat.land j m) 0)=_;split<;>simp_all
  ·show Bool.rec (motive:=λ_=>PT α) r (f l) (Nat.beq (Nat.land j m) 0)=_;cases Nat.beq (Nat.land j m) 0<;>rfl
theorem PT.pQ {α:Type} (x:α) (t:PT α):(PT.mark x t).leaf=some x:=by cases t<;>rfl
noncomputable def CX {α:Type}:List Nat→PT α→Nat→Option α
 |[],t,_=>t.leaf
 |m::r,t,i=>CX r (PT.mZ i m t) i
noncomputable def DY {α:Type}:List Nat→Nat→α→PT α→PT α
 |[],_,x=>PT.mark x
 |m::r,i,x=>PT.sub i m (DY r i x)
theorem qqF {α:Type} (i j:Nat) (x:α):∀(L:List Nat) (t:PT α),CX L (DY L i x t) j=if(∀m∈L,G3 i m=G3 j m)then some x else CX L t j:=by
 intro L
 induction L with
 |nil=>simp[CX,DY,PT.pQ]
 |cons m L ih=>
  intro t;simp only[CX,DY,PT.um];grind
def V6:List Nat:=[2048,1024,512,256,128,64,32,16,8,4,2,1]
theorem UD (i k:Nat):G3 i (2 ^ k)=!i.testBit k:=by
 unfold G3;cases h:i.testBit k
 ·have:Nat.land i (2 ^ k)=0:=by
   apply Nat.eq_of_testBit_eq;intro n;show(i&&&2 ^ k).testBit n=_;grind
  simp_all
 ·have:Nat.land i (2 ^ k)≠0:=by
   intro e;have:=congrArg (λx=>x.testBit k) e;simp only[Nat.zero_testBit]at this;have h2:(i&&&2 ^ k).testBit k=false:=this;grind
  grind[vC]
theorem Zg (i j:Nat):(∀m∈V6,G3 i m=G3 j m)↔i%4096=j%4096:=by
 have hm:V6=[2 ^ 11,2 ^ 10,2 ^ 9,2 ^ 8,2 ^ 7,2 ^ 6,2 ^ 5,2 ^ 4,2 ^ 3,2 ^ 2,2 ^ 1,2 ^ 0]:=rfl;rw[hm];constructor
 ·intro h;have hb:∀k,k<12→i.testBit k=j.testBit k:=by
   intro k hk;have uo:2 ^ k∈[2 ^ 11,2 ^ 10,2 ^ 9,2 ^ 8,2 ^ 7,2 ^ 6,2 ^ 5,2 ^ 4,2 ^ 3,2 ^ 2,2 ^ 1,2 ^ 0]:=by
    have:k=0∨k=1∨k=2∨k=3∨k=4∨k=5∨k=6∨k=7∨k=8∨k=9∨k=10∨k=11:=by omega
    rcases this with rfl |rfl |rfl |rfl |rfl |rfl |rfl |rfl |rfl |rfl |rfl |rfl<;>simp
   grind[UD]
  apply Nat.eq_of_testBit_eq;intro n;rw[show 4096=2 ^ 12 from rfl,Nat.testBit_mod_two_pow,Nat.testBit_mod_two_pow];grind
 ·intro h m uo;have key:∀k,k<12→G3 i (2 ^ k)=G3 j (2 ^ k):=by
   intro k hk;rw[UD,UD];have:=congrArg (λx=>x.testBit k) h;simp only[show 4096=2 ^ 12 from rfl,Nat.testBit_mod_two_pow,hk,decide_true,Bool.true_and]at this;grind
  simp only[List.mem_cons,List.not_mem_nil,or_false]at uo;rcases uo with rfl |rfl |rfl |rfl |rfl |rfl |rfl |rfl |rfl |rfl |rfl |rfl<;>exact key _ omQ
theorem PT.nu {α:Type} (t:PT α) (i:Nat):t.mh i=CX V6 t i:=rfl
theorem PT.r7 {α:Type} (t:PT α) (i:Nat) (x:α):t.oY i x=DY V6 i x t:=rfl
theorem PT.pR {α:Type} (t:PT α) (i:Nat) (x:α) (j:Nat):(t.oY i x).mh j=if i%4096=j%4096 then some x else t.mh j:=by
 simp[PT.nu,PT.r7,qqF,Zg]
theorem aQ.get_eq {α:Type} (t:aQ α) (i:Nat):t.get i=(PT.get t (i/4096)).bind λs=>s.mh i:=by show Option.rec (motive:=λ_=>Option α) none (λs=>PT.mh s i) (PT.get t (i/4096))=_;cases PT.get t (i/4096)<;>rfl
theorem aQ.fK {α:Type} (i:Nat):aQ.get (PT.e:aQ α) i=none:=rfl
theorem aQ.bZ {α:Type} (t:aQ α) (i:Nat) (x:α) (j:Nat):(t.set i x).get j=if i=j then some x else t.get j:=by
 rw[aQ.get_eq,aQ.get_eq];show((PT.set t (i/4096) (PT.oY (Option.rec (motive:=λ_=>PT α) .e (λs=>s) (PT.get t (i/4096))) i x)).get (j/4096)).bind _=_;rw[PT.bZ];by_cases hd:i/4096=j/4096
 ·rw[iJ hd,Option.bind_some,PT.pR,← hd];by_cases hm:i%4096=j%4096
  ·grind
  ·have:i≠j:=λe=>hm (by rw[e]);rw[iQ hm,iQ this];cases PT.get t (i/4096)<;>rfl
 grind
@[simp] theorem aQ.get_set_same {α:Type} (t:aQ α) (i:Nat) (x:α):(t.set i x).get i=some x:=by rw[aQ.bZ,iJ rfl]
theorem XI (p:Nat×dh) (l:List (Nat×dh)) (b:Nat) (d:Option dh):VP (p::l) b d=if p.1=b then some p.2 else VP l b d:=by
 show Bool.rec (motive:=λ_=>Option dh) (VP l b d) (some p.2) (Nat.beq p.1 b)=_;by_cases h:p.1=b
 ·simp_all
 ·rw[iQ h,vC h]
theorem Ou:∀(n:Nat) (l:List (Nat×dh)) (b:Nat) (d:Option dh),VP (Zw n l) b (VP (gg n l) b d)=VP l b d:=by
 intro n
 induction n with
 |zero=>intro l b d;rfl
 |succ n ih=>
  intro l b d;cases l with
  |nil=>rfl
  |cons p l=>simp_all[VP,Zw,gg]
theorem OS:∀(l:List (Nat×dh)) (t:aQ dh) (b:Nat),aQ.get (ZT l t) b=VP l b (aQ.get t b):=by
 intro l
 induction l with
 |nil=>intro t b;rfl
 |cons p l ih=>grind[aQ.get,aQ.set,ZT,aQ.bZ,XI]
theorem AH.o9 (h:AH) (b b':Nat) (x:dh):(h.put b x).get b'=if b=b' then some x else h.get b':=by show VP ((b,x)::Zw 5 h.rc) b' (aQ.get (ZT (gg 5 h.rc) h.t) b')=_;rw[XI,OS,Ou];rfl
theorem AH.pd (h:AH) (b':Nat) (x:dh):(h.new x).get b'=if h.nx=b' then some x else h.get b':=by show VP ((h.nx,x)::Zw 5 h.rc) b' (aQ.get (ZT (gg 5 h.rc) h.t) b')=_;rw[XI,OS,Ou];rfl
@[simp] theorem AH.bi (h:AH) (b:Nat) (x:dh):(h.put b x).get b=some x:=by rw[AH.o9,iJ rfl]
theorem AH.bE (h:AH) {b b':Nat} (x:dh) (e:b≠b'):(h.put b x).get b'=h.get b':=by rw[AH.o9,iQ e]
@[simp] theorem AH.bF (h:AH) (x:dh):(h.new x).get h.nx=some x:=by rw[AH.pd,iJ rfl]
theorem AH.cg (h:AH) {b:Nat} (x:dh) (e:h.nx≠b):(h.new x).get b=h.get b:=by rw[AH.pd,iQ e]
@[simp] theorem AH.Bt (h:AH) (b:Nat) (x:dh):(h.put b x).nx=h.nx:=rfl
@[simp] theorem AH.Pq (h:AH) (x:dh):(h.new x).nx=h.nx+1:=rfl
theorem jKU (a b:IntKind):Pe a b=(a==b):=by cases a<;>cases b<;>rfl
theorem jZ4 (t w:Bool):Bj t w=(t==w):=by cases t<;>cases w<;>rfl
theorem Ps (b:Bool):Bm b=!b:=by cases b<;>rfl
theorem jZB (x y:Int):Bk x y=x+y:=by cases x<;>cases y<;>rfl
theorem jZE (x y:Int):Bl x y=x-y:=by
 cases x with
 |negSucc a=>rfl
 |ofNat a=>
  cases y with
  |negSucc b=>rfl
  |ofNat b=>
   show Bool.rec (motive:=λ_=>Int) (.negSucc (Nat.sub (Nat.sub b a) 1)) (.ofNat (Nat.sub a b)) (Nat.ble b a)=(a:Int)-(b:Int);cases hb:Nat.ble b a
   ·have:¬b≤a:=λh=>by simp_all[iY]
    grind
   simp at*;omega
theorem Vd (x y:Int):uf x y=oZ x y:=by cases x<;>cases y<;>rfl
theorem WW (x y:Int):DL x y=nr x y:=by cases x<;>cases y<;>rfl
theorem WY (k:IntKind) (n:Int) (f:Int→R):DM k n f=f (xy k n):=by
 cases k<;>first |rfl |skip
 ·cases n with
  |negSucc a=>rfl
  |ofNat a=>
   show Bool.rec (motive:=λ_=>R) (f (xy .i64 (.ofNat a))) (f (.ofNat a)) (Nat.ble a 9223372036854775807)=_;cases hb:Nat.ble a 9223372036854775807
   ·rfl
   ·simp only[xy,hb,cond_true]
 ·cases n with
  |negSucc a=>rfl
  |ofNat a=>
   show Bool.rec (motive:=λ_=>R) (f (xy .u64 (.ofNat a))) (f (.ofNat a)) (Nat.ble a 18446744073709551615)=_;cases hb:Nat.ble a 18446744073709551615
   ·rfl
   ·have:=Nat.le_of_ble_eq_true hb;simp only[xy];grind
theorem qyR (op:BinOp) (k:IntKind) (x y:Int) (f:AV→R):Pf op k x y f=ob (Jb op k x y) f:=by
 cases op<;>first |rfl |skip
 ·show DM k (Bk x y) (λn=>f (.int k n))=f (.int k (xy k (x+y)));rw[WY,jZB]
 ·show DM k (Bl x y) (λn=>f (.int k n))=f (.int k (xy k (x-y)));rw[WY,jZE]
 ·show f (.bool (DL x y))=_;rw[WW];rfl
 ·show f (.bool (Bm (DL x y)))=_;rw[WW,Ps];rfl
 ·show f (.bool (uf x y))=_;rw[Vd];rfl
 ·show f (.bool (Bm (uf y x)))=_;rw[Vd,Ps];rfl
 ·show f (.bool (uf y x))=_;rw[Vd];rfl
 ·show f (.bool (Bm (uf x y)))=_;rw[Vd,Ps];rfl
theorem DZ {α:Type} (x:Option α) (k:α→R):Option.rec (motive:=λ_=>R) none k x=ob x k:=by cases x<;>rfl
theorem uq (b:Bool) (x y:R):Bool.rec (motive:=λ_=>R) y x b=bif b then x else y:=by cases b<;>rfl
theorem WZ (v:AV) (a b:R):xA v a b=(match v with | .bool t=>(match t with |true=>a |false=>b) |_=>none):=by cases v<;>first |rfl |(rename_i t;cases t<;>rfl)
theorem ML (v:AV) (w:Bool) (a b:R):Qc v w a b=(match v with | .bool t=>bif t==w then a else b |_=>b):=by cases v<;>first |rfl |(rename_i t;show Bool.rec (motive:=λ_=>R) b a (Bj t w)=_;rw[jZ4,uq])
theorem W3 (c a b:AV) (k:AV→R):QW c a b k=(match c with | .bool t=>(match t with |true=>k a |false=>k b) |_=>none):=by cases c<;>first |rfl |(rename_i t;cases t<;>rfl)
theorem Nv (v:AV) (off:Nat) (k:AV→R):jJ v off k=(match v with | .ptr b o=>k (.ptr b (o+off)) |_=>none):=by cases v<;>rfl
theorem Zd (v:AV) (off:Nat) (k:AV→R):KJ v off k=(match v with | .agg cs=>ob (QV cs off) k |_=>none):=by cases v<;>first |rfl |exact DZ _ _
theorem Mj (v i:AV) (sz:Nat) (k:AV→R):w4 v i sz k=(match v,i with | .slice b off len _ _,.int _ (.ofNat a)=>bif Nat.ble (a+1) len then k (.ptr b (off+a*sz))else none |_,_=>none):=by
 cases v<;>first |rfl |skip
 cases i<;>first |rfl |skip
 rename_i n;cases n<;>first |rfl |exact uq _ _ _
theorem gS (h:AH) (v:AV) (k:AV→R):ji h v k=(match v with | .ptr b off=>(match h.get b with |some (.cells c _ _)=>ob (c.fk off) k |some (.dv t)=>ob (aQ.get t off) k |_=>none) |_=>none):=by
 cases v<;>first |rfl |skip
 rename_i b off;show Option.rec (motive:=λ_=>R) none _ (h.get b)=(match h.get b with |some (.cells c _ _)=>ob (c.fk off) k |some (.dv t)=>ob (aQ.get t off) k |_=>none);cases h.get b with
 |none=>rfl
 |some x=>cases x<;>first |rfl |simp[DZ]
theorem kU (h:AH) (v:AV) (n:Nat) (k:AV→R):zp h v n k=(match v with | .ptr b off=>ob (vv h b off n) λl=>k (.agg l) |_=>none):=by cases v<;>first |rfl |exact DZ _ _
theorem Ut (h:AH) (a x:AV) (n:Nat) (k:AH→R):zV h a x n k=(match a with | .ptr b off=>bif Nat.beq x.cells.length n then ob (kX h b off x.cells) k else none |_=>none):=by
 cases a<;>first |rfl |skip
 rename_i b off;show Bool.rec (motive:=λ_=>R) none (Option.rec (motive:=λ_=>R) none k (kX h b off x.cells)) (Nat.beq x.cells.length n)=_;rw[uq,DZ]
theorem Pt (op:BinOp) (x y:AV) (k:AV→R):zB op x y k=(match x,y with | .int k1 a,.int k2 b=>bif k1==k2 then ob (Jb op k1 a b) k else none |_,_=>none):=by
 cases x<;>first |rfl |skip
 cases y<;>first |rfl |skip
 rename_i k1 a k2 b;show Bool.rec (motive:=λ_=>R) none (Pf op k1 a b k) (Pe k1 k2)=_;rw[uq,qyR,jKU]
theorem YY (v:AV) (i:Nat) (k:AV→R):xC v i k=(match v with | .cn l=>ob (QV l i) k |_=>none):=by cases v<;>first |rfl |exact DZ _ _
theorem JO (c:CV) (f:AV) (a:List AV) (h:AH) (k:AV→AH→R):zS c f a h k=(match c f a h with |some q=>k q.1 q.2 |none=>none):=by unfold zS;split<;>simp_all
theorem ya {α:Type} (l:List α) (i:Nat):QV l i=l[i]?:=by
 induction l generalizing i with
 |nil=>rfl
 |cons a r ih=>
  cases i with
  |zero=>rfl
  |succ i=>simp only[Oh];rw[show Nat.beq (i+1) 0=false from rfl];grind
theorem Qy {α:Type} (n:Nat) (l:List α):gg n l=l.drop n:=by
 induction n generalizing l with
 |zero=>rfl
 |succ n ih=>cases l<;>simp[qqn,qV0,ih]
theorem kc {α:Type} {n:Nat} {l s:List α} (h:vh n l=some s):s=l.take n∧n≤l.length:=by
 induction n generalizing l s with
 |zero=>grind[WS]
 |succ n ih=>
  cases l with
  |nil=>trivial
  |cons a r=>grind[Ms,Option.bind_eq_some_iff]
theorem qqb {α:Type} {n:Nat} {l s:List α} (h:vh n l=some s):s.length=n:=by obtain⟨e,h'⟩:=kc h;grind
theorem qYo {α:Type} {l xs r:List α} (h:Nf l xs=some r):r=xs++l.drop xs.length∧xs.length≤l.length:=by
 induction xs generalizing l r with
 |nil=>grind[WU]
 |cons x xs ih=>
  cases l with
  |nil=>trivial
  |cons a l=>grind[ZF,Option.bind_eq_some_iff]
theorem VK {α:Type} {l:List α} {off:Nat} {xs r:List α} (h:JL l off xs=some r):r=l.take off++xs++l.drop (off+xs.length)∧off+xs.length≤l.length:=by
 induction off generalizing l r with
 |zero=>have h':Nf l xs=some r:=h;grind[qYo]
 |succ n ih=>
  cases l with
  |nil=>trivial
  |cons a l=>grind[Vx,Option.bind_eq_some_iff]
theorem w6 {α:Type} {n:Nat} {l:List α} (h:n≤l.length):vh n l=some (l.take n):=by
 induction n generalizing l with
 |zero=>rfl
 |succ n ih=>
  cases l with
  |nil=>grind
  |cons a r=>grind[Ms]
theorem qy1 {α:Type} {xs l:List α} (h:xs.length≤l.length):Nf l xs=some (xs++l.drop xs.length):=by
 induction xs generalizing l with
 |nil=>rfl
 |cons x xs ih=>
  cases l with
  |nil=>grind
  |cons a r=>grind[ZF]
theorem U2 {α:Type} {xs:List α}:∀{off:Nat} {l:List α},off+xs.length≤l.length→JL l off xs=some (l.take off++xs++l.drop (off+xs.length)):=by
 intro off
 induction off with
 |zero=>intro l h;have:JL l 0 xs=Nf l xs:=rfl;simp_all[qy1,omQ]
 |succ n ih=>
  intro l h;cases l with
  |nil=>grind
  |cons a r=>simp at h;simp only[Vx];grind
theorem QJ:∀(l:List AV) (i:Nat) (t:aQ AV) (j:Nat),aQ.get (An t i l) j=if i≤j∧j<i+l.length then l[j-i]? else aQ.get t j:=by
 intro l
 induction l with
 |nil=>simp[qk9,List.length_nil,iQ,omQ]
 |cons a l ih=>
  intro i t j;simp only[qzB,ih,List.length_cons];by_cases h1:i+1≤j∧j<i+1+l.length
  ·grind
  ·rw[iQ h1,aQ.bZ];grind
theorem CT.dR (c:CT):c.len=c.toList.length:=by cases c<;>simp[CT.len,CT.toList]
theorem Gz {z:List AV} {t:aQ AV} {i:Nat} {v:AV} (h:Ji z t i=some v):kY z t i=v:=by grind[kY]
theorem wA {a b:Nat} (h:Nat.ble a b=true):a≤b:=Nat.le_of_ble_eq_true h
theorem CT.ur {c:CT} {i:Nat} {v:AV} (h:c.fk i=some v):QV c.toList i=some v:=by
 cases c with
 |fj xs=>exact h
 |tree n z t=>
  simp only[CT.fk]at h;cases hb:Nat.ble (i+1) n
  ·grind
  ·rw[hb]at h;have:=wA hb;rw[ya];simp only[CT.toList,List.getElem?_map,List.getElem?_range this,Option.map_some,Gz h]
theorem qkn {z:List AV} {t:aQ AV}:∀{n i:Nat} {l:List AV},XO z t i n=some l→l=(List.range' i n).map (kY z t):=by
 intro n
 induction n with
 |zero=>simp[WV,Option.some.injEq]
 |succ n ih=>intro i l h;simp only[Z1,Option.bind_eq_some_iff]at h;obtain⟨v,hv,s,hs,h⟩:=h;cases h;rw[List.range'_succ,List.map_cons,← ih hs,Gz hv]
theorem CT.ny {c:CT} {off n:Nat} {l:List AV} (h:c.lr off n=some l):vh n (gg off c.toList)=some l:=by
 cases c with
 |fj xs=>exact h
 |tree m z t=>
  simp only[CT.lr]at h;cases hn:Nat.beq n 0
  ·rw[hn]at h;simp only[cond_false]at h;cases hb:Nat.ble (off+n) m
   ·grind
   ·rw[hb]at h;have:=wA hb;rw[Qy,w6 (by grind[CT.toList]),qkn h];simp only[CT.toList];rw[← List.map_drop,← List.map_take]
    congr 2
    apply List.ext_getElem?;grind
  ·have:=zC hn;subst this;trivial
theorem CT.nz {c c':CT} {off:Nat} {xs:List AV} (h:c.write off xs=some c'):JL c.toList off xs=some c'.toList:=by
 cases c with
 |fj ys=>simp only[CT.write,Option.bind_eq_some_iff]at h;obtain⟨s,hs,h⟩:=h;cases h;exact hs
 |tree n z t=>
  simp only[CT.write]at h;cases hb:Nat.ble (off+xs.length) n
  ·grind
  ·rw[hb]at h;have hle:=wA hb;cases h;rw[U2 (by grind[CT.toList])]
   congr 1
   apply List.ext_getElem?;intro i;simp only[CT.toList];by_cases hi:i<n
   ·rw[List.getElem?_map,List.getElem?_range hi,Option.map_some];by_cases h1:i<off
    ·rw[List.getElem?_append_left (by grind),List.getElem?_append_left (by grind),List.getElem?_take_of_lt h1,List.getElem?_map,List.getElem?_range hi];simp only[Option.map_some,kY,vm,QJ];grind
    ·by_cases h2:i<off+xs.length
     ·rw[List.getElem?_append_left (by grind),List.getElem?_append_right (by grind)];have hlen:(List.take off ((List.range n).map (kY z t))).length=off:=by grind
      rw[hlen,iW (show i-off<xs.length by omega)];simp only[kY,vm,QJ];grind
     ·rw[List.getElem?_append_right (by grind),List.getElem?_drop];have hlen:(List.take off ((List.range n).map (kY z t))++xs).length=off+xs.length:=by grind
      rw[hlen,show off+xs.length+(i-(off+xs.length))=i by omega,List.getElem?_map,List.getElem?_range hi];simp_all[Option.map_some,kY,vm,QJ,iQ]
   grind
theorem CT.aP (xs:List AV):(CT.ofList xs).toList=xs:=by
 unfold CT.ofList;cases Nat.ble xs.length 16
 ·simp only[cond_false,CT.toList];apply List.ext_getElem?;intro i;by_cases hi:i<xs.length
  ·rw[List.getElem?_map,List.getElem?_range hi,iW hi];simp_all[Option.map_some,kY,vm,QJ]
  grind
 rfl
theorem qqP (z:List AV):∀(n i:Nat),i<z.length*n→(gH z n)[i]? =z[i%z.length]?:=by
 intro n
 induction n with
 |zero=>simp
 |succ n ih=>
  intro i h;rw[Nat.mul_succ]at h;simp only[gH];by_cases hi:i<z.length
  ·grind[List.getElem?_append_left,Nat.mod_eq_of_lt]
  ·rw[List.getElem?_append_right omQ,ih _ omQ,← Nat.mod_eq_sub_mod omQ]
theorem qq9 (z:List AV):∀n,(gH z n).length=z.length*n:=by
 intro n
 induction n with
 |zero=>rfl
 |succ n ih=>grind[gH,List.length_append,Nat.mul_succ]
theorem CT.oB (z:List AV) (n:Nat):(CT.CN z n).toList=gH z n:=by
 unfold CT.CN;cases Nat.ble (z.length*n) 16
 ·simp only[cond_false,CT.toList];apply List.ext_getElem?;intro i;by_cases hi:i<z.length*n
  ·rw[List.getElem?_map,List.getElem?_range hi,qqP z n i hi];have hz:0<z.length:=by
    grind
   have hm:=Nat.mod_lt i hz;simp_all[Option.map_some,kY,vm,aQ.fK,ya]
  grind[List.getElem?_eq_none,qq9]
 rfl
theorem CT.r8 (c:CT) (xs:List AV):(c.lf xs).toList=c.toList++xs:=by
 cases c with
 |fj ys=>exact CT.aP _
 |tree n z t=>
  simp only[CT.lf,CT.toList];apply List.ext_getElem?;intro i;by_cases hi:i<n
  ·rw[List.getElem?_map,List.getElem?_range omQ,List.getElem?_append_left (by grind),List.getElem?_map,List.getElem?_range hi];simp only[Option.map_some,kY,vm,QJ];grind
  ·rw[List.getElem?_append_right (by grind)];by_cases h2:i<n+xs.length
   ·rw[List.getElem?_map,List.getElem?_range h2];have hlen:((List.range n).map (kY z t)).length=n:=by simp
    rw[hlen,iW (show i-n<xs.length by omega)];simp only[Option.map_some,kY,vm,QJ];grind
   grind
theorem CT.oC {c c':CT} {n:Nat} (h:c.pre n=some c'):vh n c.toList=some c'.toList:=by
 cases c with
 |fj ys=>simp only[CT.pre,Option.bind_eq_some_iff]at h;obtain⟨s,hs,h⟩:=h;cases h;exact hs
 |tree m z t=>
  simp only[CT.pre]at h;cases hb:Nat.ble n m
  ·grind
  ·rw[hb]at h;have:=wA hb;cases h;rw[w6 (by grind[CT.toList])];simp only[CT.toList];rw[← List.map_take,List.take_range,show min n m=n by omega]
theorem CT.Bu {c c':CT} {off n:Nat} (h:c.Il off n=some c'):vh n (gg off c.toList)=some c'.toList:=by
 unfold CT.Il at h;cases h0:Nat.beq off 0
 ·rw[h0]at h;simp only[cond_false,Option.bind_eq_some_iff]at h;grind[CT.aP,CT.ny]
 ·rw[h0]at h;have:=zC h0;subst this;exact CT.oC h
abbrev Mp:=Nat→Nat×Nat
mutual
def cv (m:Mp):AV→Value
 | .bool b=>.bool b
 | .int k n=>.int k n
 | .str s=>.string ⟨s.toArray⟩
 | .ptr b o=>.pointer (some ⟨(m b).1,o,none⟩)
 | .ba=>.pointer none
 | .slice b o l c p=>.slice (some ⟨(m b).1,o,none⟩) l (match p with |true=>(m b).2-c |false=>c)
 | .ap=>.slice none 0 0
 | .fn f a c=>.func (.func f) (bj m a).toArray (bj m c).toArray
 | .yield l=>.func (.yield (m l).1) #[] #[]
 | .eG=>.nilFunc
 | .iface t v=>.iface t (cv m v)
 | .dt=>.nilIface
 | .agg l=>.agg (bj m l).toArray
 | .cn l=>.tuple (bj m l).toArray
 | .cA a=>.slice (some a) 0 0
 | .tail b o o' i=>.slice (some ⟨(m b).1,if(m b).2=i then o else o',none⟩) 0 ((m b).2-i)
 | .eV b=>.map (some (m b).1)
def bj (m:Mp):List AV→List Value
 |[]=>[]
 |a::r=>cv m a::bj m r
end
mutual
def bD (D:Nat→Prop):AV→Prop
 | .bool _=>True
 | .int _ _=>True
 | .str _=>True
 | .ptr b _=>D b
 | .ba=>True
 | .slice b _ _ _ _=>D b
 | .ap=>True
 | .fn _ a c=>bm D a∧bm D c
 | .yield l=>D l
 | .eG=>True
 | .iface _ v=>bD D v
 | .dt=>True
 | .agg l=>bm D l
 | .cn l=>bm D l
 | .cA _=>True
 | .tail b _ _ _=>D b
 | .eV b=>D b
def bm (D:Nat→Prop):List AV→Prop
 |[]=>True
 |a::r=>bD D a∧bm D r
end
theorem xg (m:Mp) (l:List AV):bj m l=l.map (cv m):=by
 induction l with
 |nil=>rfl
 |cons a r ih=>grind[bj]
@[simp] theorem eS (m:Mp) (l:List AV):(bj m l).length=l.length:=by simp[xg]
theorem GQ (m:Mp) (l r:List AV):bj m (l++r)=bj m l++bj m r:=by simp[xg]
theorem yY (D:Nat→Prop) (l:List AV):bm D l↔∀v∈l,bD D v:=by
 induction l with
 |nil=>simp[bm]
 |cons a r ih=>grind[bm]
theorem gC {D:Nat→Prop} {l r:List AV}:bm D (l++r)↔bm D l∧bm D r:=by simp only[yY,List.mem_append];grind
theorem XV {D:Nat→Prop} {l:List AV} (n:Nat) (h:bm D l):bm D (l.take n):=by grind[yY,List.mem_of_mem_take]
theorem GA {D:Nat→Prop} {l:List AV} (n:Nat) (h:bm D l):bm D (l.drop n):=by grind[yY,List.mem_of_mem_drop]
mutual
theorem QA {m m':Mp} {D:Nat→Prop} (hm:∀b,D b→m' b=m b):∀v:AV,bD D v→cv m' v=cv m v
 | .bool _,_=>rfl
 | .int _ _,_=>rfl
 | .str _,_=>rfl
 | .ptr b o,h=>by simp only[bD]at h;simp only[cv,hm b h]
 | .ba,_=>rfl
 | .slice b o l c p,h=>by simp only[bD]at h;cases p<;>simp only[cv,hm b h]
 | .ap,_=>rfl
 | .fn f a c,h=>by simp only[bD]at h;simp only[cv,kN hm a h.1,kN hm c h.2]
 | .yield l,h=>by simp only[bD]at h;simp only[cv,hm l h]
 | .eG,_=>rfl
 | .iface t v,h=>by simp only[bD]at h;simp only[cv,QA hm v h]
 | .dt,_=>rfl
 | .agg l,h=>by simp only[bD]at h;simp only[cv,kN hm l h]
 | .cn l,h=>by simp only[bD]at h;simp only[cv,kN hm l h]
 | .cA _,_=>rfl
 | .tail b o o' i,h=>by simp only[bD]at h;simp only[cv,hm b h]
 | .eV b,h=>by simp only[bD]at h;simp only[cv,hm b h]
theorem kN {m m':Mp} {D:Nat→Prop} (hm:∀b,D b→m' b=m b):∀l:List AV,bm D l→bj m' l=bj m l
 |[],_=>rfl
 |a::r,h=>by simp only[bm]at h;simp only[bj,QA hm a h.1,kN hm r h.2]
end
mutual
theorem QG {D D':Nat→Prop} (hd:∀b,D b→D' b):∀v:AV,bD D v→bD D' v
 | .bool _,_=>trivial
 | .int _ _,_=>trivial
 | .str _,_=>trivial
 | .ptr b o,h=>hd b h
 | .ba,_=>trivial
 | .slice b o l c p,h=>hd b h
 | .ap,_=>trivial
 | .fn f a c,h=>by simp only[bD]at*;exact⟨wa hd a h.1,wa hd c h.2⟩
 | .yield l,h=>hd l h
 | .eG,_=>trivial
 | .iface t v,h=>by simp only[bD]at*;exact QG hd v h
 | .dt,_=>trivial
 | .agg l,h=>by simp only[bD]at*;exact wa hd l h
 | .cn l,h=>by simp only[bD]at*;exact wa hd l h
 | .cA _,_=>trivial
 | .tail b _ _ _,h=>hd b h
 | .eV b,h=>hd b h
theorem wa {D D':Nat→Prop} (hd:∀b,D b→D' b):∀l:List AV,bm D l→bm D' l
 |[],_=>trivial
 |a::r,h=>by simp only[bm]at*;exact⟨QG hd a h.1,wa hd r h.2⟩
end
def kG:AX→Code
 | .normal=>.skip
 | .exit i=>.exit i
 | .goto l=>.goto l
 | .ret=>.ret
def Pu (e:Int×Int×Nat):MapEntry:={ key:=.int .i64 e.1,val:=.int .i64 e.2.1,born:=e.2.2 }
def dE (P:Program) (m:Mp) (x:dh) (b:Nat×Nat) (w:World):Prop :=
 match x with
 | .cells c e o=>∃(rest:List Value) (fr:Nat×Nat),w.heap[b.1]? =some (.cells (bj m c.toList++rest).toArray e fr)∧(o=false→rest=[])∧
   (∀i,i<c.toList.length+rest.length→¬(fr.1≤i∧i<fr.2))∧(o=true→∀n,bh P e=some n→c.toList.length≤b.2*n∧b.2*n≤c.toList.length+rest.length)
 | .dead=>True
 | .iter s pos=>w.heap[b.1]? =some (.stringIter ⟨s.toArray⟩ pos)
 | .loop st cx f pos L vs d=>∃(f':FuncId) (tmps:Array Value) (ps:Array Tmp) (g:Operand) (assign body:Code) (fn:Func) (bd:Code),
   w.heap[b.1]? =some (.loop { state:=st,pending:=cx.map kG,fn:=f',tmps,params:=ps,assign,body,defers:=(m d).1 })∧
   P.funcs[f]? =some fn∧fn.body=some bd∧xM bd pos=some (.rangeFunc g ps assign body)∧fn.ntmps≤tmps.size∧
   L.length=vs.length∧∀p∈L.zip vs,tmps[p.1]? =some (cv m p.2)
 | .lT=>w.heap[b.1]? =some (.deferred (some []))
 | .pP=>∃o,w.heap[b.1]? =some o
 | .dv t=>∃C e fr,w.heap[b.1]? =some (.cells (List.toArray C) e fr)∧∀i v,aQ.get t i=some v→C[i]? =some (cv m v)
 | .mp l c=>w.heap[b.1]? =some (.map (l.map Pu).toArray c)
def cV (D:Nat→Prop):dh→Prop
 | .cells c _ _=>bm D c.toList
 | .loop _ _ _ _ _ vs d=>bm D vs∧D d
 | .dv t=>∀i v,aQ.get t i=some v→bD D v
 |_=>True
def dh.live:dh→Prop
 | .dead=>False
 | .dv _=>False
 |_=>True
def live (h:AH) (b:Nat):Prop:=∃x,h.get b=some x∧x.live
def own (m:Mp) (D:Nat→Prop) (h:AH) (c:Nat):Prop:=∃b,D b∧live h b∧(m b).1=c
structure Rel0 (P:Program) (m:Mp) (D:Nat→Prop) (h:AH) (w:World):Prop where
  bG:∀b,D b→∃x,h.get b=some x∧dE P m x (m b) w∧cV D x
  inj:∀b b',D b→D b'→live h b→live h b'→(m b).1=(m b').1→b=b'
  lt:∀b,D b→b<h.nx
  dv:∀b t,D b→h.get b=some (.dv t)→¬own m D h (m b).1
def Gl (P:Program) (w:World):Prop:=∀p∈gtab,∃g,P.globalNamed p.1=some g∧Lib.TabIs P w p.1 p.2.1 p.2.2
def Aw (P:Program) (m:Mp) (D:Nat→Prop) (h:AH) (w:World):Prop:=∀p∈gtab,∃g,P.globalNamed p.1=some g∧Lib.TabIs P w p.1 p.2.1 p.2.2∧¬own m D h g
structure Rel (P:Program) (m:Mp) (D:Nat→Prop) (h:AH) (w:World):Prop extends Rel0 P m D h w where
  gl:Aw P m D h w
theorem Aw.gl {P:Program} {m:Mp} {D:Nat→Prop} {h:AH} {w:World} (r:Aw P m D h w):Gl P w:=λp hp=>let ⟨g,h1,h2,_⟩:=r p hp;⟨g,h1,h2⟩
theorem KK {P:Program} {w w':World} {name:String} {k:IntKind} {zs:List Int} {g:Nat} (hg:P.globalNamed name=some g) (h:Lib.TabIs P w name k zs):g<w.heap.size∧(w'.heap[g]? =w.heap[g]? →Lib.TabIs P w' name k zs):=by
 unfold Lib.TabIs World.var? at*;grind
structure Ext (m:Mp) (D:Nat→Prop) (h:AH) (w:World) (m':Mp) (D':Nat→Prop) (h':AH) (w':World):Prop where
  r9:∀b,D b→D' b
  map:∀b,D b→m' b=m b
  size:w.heap.size≤w'.heap.size
  keep:∀c,c<w.heap.size→¬own m D h c→w'.heap[c]? =w.heap[c]? ∧¬own m' D' h' c
  nx:h.nx≤h'.nx
  un:∀b,b<h.nx→¬D b→h'.get b=h.get b∧¬D' b
  os:w'.os=w.os
  tape:w'.tape=w.tape
  output:w'.output=w.output
  dm:∀b,D' b↔D b∨(h.nx≤b∧b<h'.nx)
  ni:∀b t,D' b→h'.get b=some (.dv t)→D b∧h.get b=some (.dv t)
theorem Aw.ext {P:Program} {m m':Mp} {D D':Nat→Prop} {h h':AH} {w w':World} (X:Ext m D h w m' D' h' w') (r:Aw P m D h w):Aw P m' D' h' w':=λp hp=>by
 obtain⟨g,h1,h2,h3⟩:=r p hp;obtain⟨k1,k2⟩:=KK (w':=w') h1 h2;obtain⟨e1,e2⟩:=X.keep g k1 h3;grind
theorem Ext.rel {P:Program} {m m':Mp} {D D':Nat→Prop} {h h':AH} {w w':World} (r:Rel P m D h w) (x:Ext m D h w m' D' h' w'∧Rel0 P m' D' h' w'):Ext m D h w m' D' h' w'∧Rel P m' D' h' w':=⟨x.1,{ toRel0:=x.2,gl:=r.gl.ext x.1 }⟩
theorem Ext.refl (m:Mp) (D:Nat→Prop) (h:AH) (w:World):Ext m D h w m D h w :=
 ⟨λ_ x=>x,λ_ _=>rfl,Nat.le_refl _,λ_ _ n=>⟨rfl,n⟩,Nat.le_refl _,λ_ _ n=>⟨rfl,n⟩,rfl,rfl,rfl,λ_=>⟨.inl,λx=>x.elim id λy=>by omega⟩,λ_ _ x y=>⟨x,y⟩⟩
theorem Ext.trans {m m' W4:Mp} {D D' W5:Nat→Prop} {h h' pS:AH} {w w' W6:World} (a:Ext m D h w m' D' h' w') (b:Ext m' D' h' w' W4 W5 pS W6):Ext m D h w W4 W5 pS W6 where
 r9:=λx hx=>b.r9 x (a.r9 x hx)
 map:=λx hx=>(b.map x (a.r9 x hx)).trans (a.map x hx)
 size:=Nat.le_trans a.size b.size
 keep:=λc hc hn=>by
  obtain⟨e1,n1⟩:=a.keep c hc hn;obtain⟨e2,n2⟩:=b.keep c (Nat.lt_of_lt_of_le hc a.size) n1;grind
 nx:=Nat.le_trans a.nx b.nx
 un:=λx hx hn=>by
  obtain⟨e1,n1⟩:=a.un x hx hn;obtain⟨e2,n2⟩:=b.un x (Nat.lt_of_lt_of_le hx a.nx) n1;grind
 os:=b.os.trans a.os
 tape:=b.tape.trans a.tape
 output:=b.output.trans a.output
 dm:=λx=>by
  have h1:=a.nx;have h2:=b.nx;rw[b.dm,a.dm];grind
 ni:=λx t hx hg=>by
  obtain⟨h1,h2⟩:=b.ni x t hx hg;exact a.ni x t h1 h2
theorem Ext.cv {m m':Mp} {D D':Nat→Prop} {h h':AH} {w w':World} (e:Ext m D h w m' D' h' w') {v:AV} (hv:bD D v):Ae.cv m' v=Ae.cv m v:=QA e.map v hv
theorem Ext.bj {m m':Mp} {D D':Nat→Prop} {h h':AH} {w w':World} (e:Ext m D h w m' D' h' w') {l:List AV} (hv:bm D l):Ae.bj m' l=Ae.bj m l:=kN e.map l hv
theorem Ext.bD {m m':Mp} {D D':Nat→Prop} {h h':AH} {w w':World} (e:Ext m D h w m' D' h' w') {v:AV} (hv:Ae.bD D v):Ae.bD D' v:=QG e.r9 v hv
theorem Ext.bm {m m':Mp} {D D':Nat→Prop} {h h':AH} {w w':World} (e:Ext m D h w m' D' h' w') {l:List AV} (hv:Ae.bm D l):Ae.bm D' l:=wa e.r9 l hv
theorem dE.congr {P:Program} {m m':Mp} {D:Nat→Prop} (hm:∀b,D b→m' b=m b) {x:dh} {b:Nat×Nat} {w w':World} (hx:cV D x) (hw:w'.heap[b.1]? =w.heap[b.1]?) (h:dE P m x b w):dE P m' x b w':=by
 cases x with
 |cells c e o=>grind[cV,dE,kN]
 |dead=>trivial
 |iter s pos=>grind[dE]
 |loop st cx f pos L vs d=>
  simp only[cV]at hx;simp only[dE]at*;obtain⟨f',tmps,ps,g,assign,body,fn,bd,h1,h2,h3,h4,h5,h6,h7⟩:=h;refine⟨f',tmps,ps,g,assign,body,fn,bd,?_,h2,h3,h4,h5,h6,?_⟩
  ·grind
  ·intro p hp;rw[QA hm p.2 ((yY D vs).1 hx.1 _ (List.of_mem_zip hp).2)];grind
 |lT=>grind[dE]
 |pP=>grind[dE]
 |dv t=>grind[cV,dE,QA]
 |mp l c=>grind[dE]
theorem cV.mono {D D':Nat→Prop} (hd:∀b,D b→D' b) {x:dh} (h:cV D x):cV D' x:=by
 cases x<;>simp only[cV]at* <;>first |exact wa hd _ h |exact⟨wa hd _ h.1,hd _ h.2⟩ |grind[QG] |trivial
theorem dE.inside {P:Program} {m:Mp} {x:dh} {b:Nat×Nat} {w:World} (hl:x.live) (h:dE P m x b w):b.1<w.heap.size:=by
 have key:∀o,w.heap[b.1]? =some o→b.1<w.heap.size:=λo e=>(Array.getElem?_eq_some_iff.1 e).1;cases x with
 |cells c e o=>obtain⟨r,fr,h,_⟩:=h;grind
 |dead=>trivial
 |iter s pos=>exact key _ h
 |loop st cx f pos L vs d=>obtain⟨f',tmps,ps,g,assign,body,fn,bd,h1,_⟩:=h;grind
 |lT=>exact key _ h
 |pP=>obtain⟨o,h⟩:=h;grind
 |dv t=>trivial
 |mp l c=>exact key _ h
theorem dE.lg {P:Program} {m:Mp} {t:aQ AV} {b:Nat×Nat} {w:World} (h:dE P m (.dv t) b w):b.1<w.heap.size:=by obtain⟨C,e,fr,h,_⟩:=h;grind
theorem Rel.inside {P:Program} {m:Mp} {D:Nat→Prop} {h:AH} {w:World} (r:Rel P m D h w) {b:Nat} (hb:D b) (hl:live h b):(m b).1<w.heap.size:=by obtain⟨x,hx,hr,_⟩:=r.bG b hb;obtain⟨y,hy,lU⟩:=hl;rw[hx]at hy;cases hy;exact hr.inside lU
theorem Rel.new {P:Program} {m:Mp} {D:Nat→Prop} {h:AH} {w w0:World} (r:Rel P m D h w) (x:dh) (o:Obj) (room:Nat)
  (Ax:w0.heap=w.heap.push o) (Bv:w0.os=w.os) (lB:w0.tape=w.tape) (iD:w0.output=w.output)
  (hx:cV D x) (nA:dE P m x (w.heap.size,room) w0) (lh:∀t,x≠.dv t:=by intro t hh;cases hh) :
  let m':Mp:=λb=>if b=h.nx then(w.heap.size,room)else m b
  let D':Nat→Prop:=λb=>b=h.nx∨D b
  Ext m D h w m' D' (h.new x) w0∧Rel P m' D' (h.new x) w0:=by
 intro m' D';refine Ext.rel r ?_;have hm:∀b,D b→m' b=m b:=λb hb=>by
  have:=r.lt b hb;grind
 have hold:∀c,c<w.heap.size→w0.heap[c]? =w.heap[c]?:=λc hc=>by
  grind
 have dw:∀b,D b→(h.new x).get b=h.get b:=λb hb=>AH.cg h x (by have:=r.lt b hb;omega);have cr:∀b,D b→(live (h.new x) b↔live h b):=λb hb=>by grind[live]
 refine⟨⟨λb hb=>.inr hb,hm,?_,?_,Nat.le_succ _,?_,Bv,lB,iD,λb=>?_,?_⟩,⟨?_,?_,?_,?_⟩⟩
 ·grind
 ·intro c hc hn;refine⟨hold c hc,?_⟩;rintro⟨b,hb,hl,he⟩;rcases hb with rfl |hb
  ·grind
  ·exact hn ⟨b,hb,(cr b hb).1 hl,by grind⟩
 ·intro b hb hn;refine⟨AH.cg h x omQ,?_⟩;grind
 ·show b=h.nx∨D b↔D b∨(h.nx≤b∧b<h.nx+1);grind
 ·intro b t hb hg;rcases hb with rfl |hb
  all_goals simp_all
 ·intro b hb;rcases hb with rfl |hb
  ·refine⟨x,AH.bF h x,?_,hx.mono λb hb=>.inr hb⟩;have e:m' h.nx=(w.heap.size,room):=by grind
   rw[e];exact nA.congr hm hx rfl
  ·obtain⟨y,hy,fE,hZ⟩:=r.bG b hb;refine⟨y,(dw b hb).trans hy,?_,hZ.mono λb hb=>.inr hb⟩;rw[hm b hb];cases y with
   |dead=>trivial
   |dv t=>exact fE.congr hm hZ (hold _ fE.lg)
   |_=>exact fE.congr hm hZ (hold _ (dE.inside (by trivial) fE))
 ·intro b b' hb bV hl dW he;rcases hb with rfl |hb<;>rcases bV with rfl |bV
  ·rfl
  ·have h1:=r.inside bV ((cr b' bV).1 dW);grind
  ·have h1:=r.inside hb ((cr b hb).1 hl);grind
  ·rw[hm b hb,hm b' bV]at he;exact r.inj b b' hb bV ((cr b hb).1 hl) ((cr b' bV).1 dW) he
 ·intro b hb;rcases hb with rfl |hb
  ·simp
  ·have:=r.lt b hb;simp;omega
 ·rintro b t hb hg ⟨b',bV,dW,he⟩;have bJ:b≠b':=by
   rintro rfl;obtain⟨y,hy,lU⟩:=dW;rw[hg]at hy;cases hy;exact lU
  rcases hb with rfl |hb
  ·simp_all
  ·rw[dw b hb]at hg;rcases bV with rfl |bV
   ·obtain⟨y,hy,fE,_⟩:=r.bG b hb;rw[hg]at hy;cases hy;have:=fE.lg;grind
   ·refine r.dv b t hb hg ⟨b',bV,(cr b' bV).1 dW,?_⟩;grind
theorem Rel.put {P:Program} {m:Mp} {D:Nat→Prop} {h:AH} {w w0:World} (r:Rel P m D h w) (b:Nat) (x:dh) (hb:D b) (pT:live h b)
  (D4:w0.heap.size=w.heap.size) (fm:∀c,c≠(m b).1→w0.heap[c]? =w.heap[c]?) (Bv:w0.os=w.os) (lB:w0.tape=w.tape) (iD:w0.output=w.output)
  (hx:cV D x) (nA:dE P m x (m b) w0) (lh:∀t,x≠.dv t:=by intro t hh;cases hh) :
  Ext m D h w m D (h.put b x) w0∧Rel P m D (h.put b x) w0:=by
 refine Ext.rel r ?_;have dw:∀b',b'≠b→(h.put b x).get b'=h.get b':=λb' hn=>AH.bE h x (λe=>hn e.symm);have cr:∀b',live (h.put b x) b'→live h b':=λb' hl=>by
  grind[live]
 refine⟨⟨λ_ h=>h,λ_ _=>rfl,by omega,?_,Nat.le_refl _,?_,Bv,lB,iD,λb=>⟨.inl,λhb=>hb.elim id λhb=>by simp at*;omega⟩,?_⟩,⟨?_,?_,?_,?_⟩⟩
 ·intro c hc hn;refine⟨fm c λe=>hn ⟨b,hb,pT,e.symm⟩,?_⟩;rintro⟨b',bV,dW,he⟩;exact hn ⟨b',bV,cr b' dW,he⟩
 ·grind
 ·intro b' t bV hg;by_cases e:b'=b
  all_goals simp_all
 ·intro b' bV;by_cases e:b'=b
  ·simp_all
  ·obtain⟨y,hy,fE,hZ⟩:=r.bG b' bV;refine⟨y,(dw b' e).trans hy,?_,hZ⟩;cases y with
   |dead=>trivial
   |dv t=>exact fE.congr (λ_ _=>rfl) hZ (fm _ λee=>r.dv b' t bV hy ⟨b,hb,pT,ee.symm⟩)
   |_=>refine fE.congr (λ_ _=>rfl) hZ (fm _ λee=>e ?_);exact r.inj b' b bV hb ⟨_,hy,trivial⟩ pT ee
 ·intro b1 b2 h1 h2 l1 l2 he;exact r.inj b1 b2 h1 h2 (cr b1 l1) (cr b2 l2) he
 ·intro b' bV;exact r.lt b' bV
 ·rintro b' t bV hg ⟨b2,fb,n9,he⟩;by_cases e:b'=b
  ·simp_all
  ·rw[dw b' e]at hg;exact r.dv b' t bV hg ⟨b2,fb,cr b2 n9,he⟩
end Go.Ae
namespace Go.Ae
open Go
def CY:Value→Bool
 | .agg _=>false
 | .tuple _=>false
 |_=>true
theorem qq {α β:Type} {P:Program} {e:Sem α} {f:α→Sem β} {w w':World} {a:α} (h:e.run P w=.ok a w'):(e>>=f).run P w=(f a).run P w':=by simp_all
theorem wz {α:Type} (P:Program) (a:α) (w:World):(pure a:Sem α).run P w=.ok a w:=rfl
theorem W7 {w:World} {b:Nat} {C:List Value} {e:TypeId} {fr:Nat×Nat} (h:w.heap[b]? =some (.cells C.toArray e fr)) (o:Nat):w.cell? ⟨b,o,none⟩=C[o]?:=by simp[World.cell?,h]
theorem kO (b o n:Nat):Addr.add ⟨b,o,none⟩ n=⟨b,o+n,none⟩:=by
 simp[Addr.add]
theorem NV {P:Program} {w:World} {b:Nat} {C:List Value} {e:TypeId} {fr:Nat×Nat} (h:w.heap[b]? =some (.cells C.toArray e fr)) {o:Nat} {v:Value} (hv:C[o]? =some v) :
  (load ⟨b,o,none⟩).run P w=.ok v w:=by
 grind[load,Sem.run,W7]
theorem K5 {P:Program} {w:World} {b:Nat} {C:List Value} {e:TypeId} {fr:Nat×Nat} (h:w.heap[b]? =some (.cells C.toArray e fr)) (o:Nat) :
  ∀(n i:Nat) (acc:Array Value),o+i+n≤C.length→(loadCellsFrom ⟨b,o,none⟩ i n acc).run P w=.ok (acc++((C.drop (o+i)).take n).toArray) w:=by
 intro n
 induction n with
 |zero=>simp[loadCellsFrom]
 |succ n ih=>
  intro i acc hl;unfold loadCellsFrom;have hg:C[o+i]? =some (C[o+i]'omQ):=iW omQ;rw[kO,qq (NV h hg),ih _ _ omQ]
  congr 1
  grind
theorem Gb {P:Program} {w:World} {b:Nat} {C:List Value} {e:TypeId} {fr:Nat×Nat} (h:w.heap[b]? =some (.cells C.toArray e fr)) (o n:Nat) (hl:o+n≤C.length) :
  (loadCells ⟨b,o,none⟩ n).run P w=.ok ((C.drop o).take n).toArray w:=by
 unfold loadCells;rw[K5 h o n 0 #[] (by grind)];simp
theorem qjA {P:Program} {w:World} {b:Nat} {C:List Value} {e:TypeId} {fr:Nat×Nat} (h:w.heap[b]? =some (.cells C.toArray e fr)) {o:Nat} (ho:o<C.length) {v:Value} (hv:CY v=true)
  (hf:¬(fr.1≤o∧o<fr.2)):(store ⟨b,o,none⟩ v).run P w=.ok () (w.setCell ⟨b,o,none⟩ v):=by
 have hc:w.cell? ⟨b,o,none⟩=some (C[o]'ho):=by rw[W7 h,iW ho]
 have hz:w.frozen? ⟨b,o,none⟩=false:=by grind[World.frozen?,Bool.and_eq_false_iff,decide_eq_false_iff_not]
 cases v<;>simp[CY]at hv<;>simp[store,Sem.run,hc,hz]
theorem qQO {w:World} {b:Nat} {C:List Value} {e:TypeId} {fr:Nat×Nat} (h:w.heap[b]? =some (.cells C.toArray e fr)) (o:Nat) (v:Value) :
  (w.setCell ⟨b,o,none⟩ v).heap[b]? =some (.cells (C.set o v).toArray e fr):=by
 simp[World.setCell,Array.getElem?_modify,h]
theorem OX {w:World} {b c:Nat} (o:Nat) (v:Value) (hc:c≠b):(w.setCell ⟨b,o,none⟩ v).heap[c]? =w.heap[c]?:=by simp[World.setCell,Array.getElem?_modify];omega
@[simp] theorem mG (w:World) (a:Addr) (v:Value):(w.setCell a v).heap.size=w.heap.size:=by simp
structure jVd (w w':World) (b:Nat) (o:Obj):Prop where
  size:w'.heap.size=w.heap.size
  at_:w'.heap[b]? =some o
  other:∀c,c≠b→w'.heap[c]? =w.heap[c]?
  os:w'.os=w.os
  tape:w'.tape=w.tape
  output:w'.output=w.output
theorem Yy {P:Program} {b:Nat} {e:TypeId} {fr:Nat×Nat} (o:Nat):∀(vs:List Value) (i:Nat) (w:World) (C:List Value),w.heap[b]? =some (.cells C.toArray e fr)→
  o+i+vs.length≤C.length→(∀v∈vs,CY v=true)→(∀k,k<C.length→¬(fr.1≤k∧k<fr.2))→
  ∃w',(storeCells ⟨b,o,none⟩ vs i).run P w=.ok () w'∧jVd w w' b (.cells (C.take (o+i)++vs++C.drop (o+i+vs.length)).toArray e fr):=by
 intro vs
 induction vs with
 |nil=>intro i w C h hl _ _;exact⟨w,by rfl,⟨rfl,by simp[h],λ_ _=>rfl,rfl,rfl,rfl⟩⟩
 |cons v vs ih=>
  intro i w C h hl ho hf;simp only[List.length_cons]at hl;have h1:=qjA (P:=P) h (o:=o+i) omQ (ho v (iK ..)) (hf _ omQ);obtain⟨w',hr,ht⟩:=ih (i+1) (w.setCell ⟨b,o+i,none⟩ v) (C.set (o+i) v) (qQO h _ _) (by grind) (λx hx=>ho x (iX _ hx)) (by grind);refine⟨w',?_,?_⟩
  ·grind[storeCells,kO,qq]
  ·refine⟨by rw[ht.size,mG],?_,λc hc=>(ht.other c hc).trans (OX _ _ hc),ht.os,ht.tape,ht.output⟩;rw[ht.at_]
   congr 3
   have e1:(C.set (o+i) v).take (o+(i+1))=C.take (o+i)++[v]:=by grind[List.take_succ_eq_append_getElem,List.take_set_of_le]
   have e2:(C.set (o+i) v).drop (o+(i+1)+vs.length)=C.drop (o+i+(v::vs).length):=by
    rw[List.drop_set_of_lt omQ]
    simp;omega
   grind
end Go.Ae
namespace Go.Ae
open Go
variable {P:Program} {m:Mp} {D:Nat→Prop} {h:AH} {w:World}
theorem qy3 (m:Mp) (v:AV) (hv:v.one=true):CY (cv m v)=true:=by
 cases v<;>first |rfl |trivial
theorem W8 {l:List AV} (m:Mp) (hl:qt l=true):∀v∈bj m l,CY v=true:=by intro v hv;rw[xg,List.mem_map]at hv;obtain⟨a,ha,rfl⟩:=hv;grind[qt,List.all_eq_true,qy3]
theorem w8 (m:Mp) (v:AV):(cv m v).cells=(bj m v.cells).toArray:=by
 cases v<;>simp[cv,AV.cells,Value.cells,bj]
theorem ka {v:AV} (hv:bD D v):bm D v.cells:=by
 cases v<;>simp only[AV.cells,bm,bD]at* <;>first |exact⟨hv,trivial⟩ |grind |trivial |exact⟨trivial,trivial⟩
theorem Rel.cells (r:Rel P m D h w) {b:Nat} (hb:D b) {c:CT} {e:TypeId} {o:Bool} (hg:h.get b=some (.cells c e o)) :
  ∃(rest:List Value) (fr:Nat×Nat),w.heap[(m b).1]? =some (.cells (bj m c.toList++rest).toArray e fr)∧(o=false→rest=[])∧
   (∀i,i<c.toList.length+rest.length→¬(fr.1≤i∧i<fr.2))∧(o=true→∀n,bh P e=some n→c.toList.length≤(m b).2*n∧(m b).2*n≤c.toList.length+rest.length)∧bm D c.toList:=by
 obtain⟨x,hx,hr,hd⟩:=r.bG b hb;rw[hg]at hx;cases hx;obtain⟨rest,fr,h1,h2,h3,h4⟩:=hr;exact⟨rest,fr,h1,h2,h3,h4,hd⟩
theorem W9 {b:Nat} {x:dh} (hg:h.get b=some x) (hl:x.live):live h b:=⟨x,hg,hl⟩
theorem Rel.sd (r:Rel P m D h w) {b off n:Nat} {c:CT} {t:TypeId} {o:Bool} {l:List AV} (hb:D b) (hg:h.get b=some (.cells c t o)) (e:vh n (gg off c.toList)=some l) :
  (loadCells ⟨(m b).1,off,none⟩ n).run P w=.ok (bj m l).toArray w∧bm D l∧l.length=n:=by
 obtain⟨rest,fr,h1,_,_,_,hd⟩:=r.cells hb hg;rw[Qy]at e;obtain⟨e1,e2⟩:=kc e;refine⟨?_,?_,qqb e⟩
 ·by_cases hz:n=0
  ·simp_all[bj,loadCells,loadCellsFrom]
  ·simp only[List.length_drop]at e2;rw[Gb h1 off n (by simp;omega)];subst e1;rw[xg,xg,List.drop_append_of_le_length (by grind),List.take_append_of_le_length (by grind)];simp
 grind[XV,GA]
theorem qzE {t:aQ AV}:∀{n i:Nat} {l:List AV},XO [] t i n=some l→l.length=n∧∀k,k<n→∃v,aQ.get t (i+k)=some v∧l[k]? =some v:=by
 intro n
 induction n with
 |zero=>intro i l e;rw[WV]at e;grind
 |succ n ih=>
  intro i l e;rw[Z1]at e;simp only[Option.bind_eq_some_iff]at e;obtain⟨v,hv,s,hs,e⟩:=e;cases e;obtain⟨h1,h2⟩:=ih hs;have hv':aQ.get t i=some v:=by
   grind[vm,Mm]
  grind
theorem Rel.D6 (r:Rel P m D h w) {b:Nat} {t:aQ AV} (hb:D b) (hg:h.get b=some (.dv t)) :
  ∃C e fr,w.heap[(m b).1]? =some (.cells (List.toArray C) e fr)∧∀i v,aQ.get t i=some v→C[i]? =some (cv m v)∧bD D v:=by
 obtain⟨x,hx,hr,hd⟩:=r.bG b hb;rw[hg]at hx;cases hx;obtain⟨C,e,fr,h1,h2⟩:=hr;exact⟨C,e,fr,h1,λi v hv=>⟨h2 i v hv,hd i v hv⟩⟩
theorem Rel.D7 (r:Rel P m D h w) {b off n:Nat} {t:aQ AV} {l:List AV} (hb:D b) (hg:h.get b=some (.dv t)) (e:XO [] t off n=some l) :
  (loadCells ⟨(m b).1,off,none⟩ n).run P w=.ok (bj m l).toArray w∧bm D l∧l.length=n:=by
 obtain⟨C,el,fr,h1,h2⟩:=r.D6 hb hg;obtain⟨e1,e2⟩:=qzE e;have key:∀k,k<n→∃v,l[k]? =some v∧C[off+k]? =some (cv m v)∧bD D v:=λk hk=>by
  grind
 refine⟨?_,?_,e1⟩
 ·by_cases hz:n=0
  ·simp_all[iA,bj,loadCells,loadCellsFrom]
  ·have hlen:off+n≤C.length:=by
    obtain⟨v,_,hc,_⟩:=key (n-1) omQ;grind
   rw[Gb h1 off n hlen]
   congr 2
   apply List.ext_getElem?;intro k;rw[xg,List.getElem?_map];grind
 ·rw[yY];intro v hv;obtain⟨k,hk,rfl⟩:=List.mem_iff_getElem.1 hv;grind
theorem Rel.se (r:Rel P m D h w) {b off:Nat} {t:aQ AV} {v:AV} (hb:D b) (hg:h.get b=some (.dv t)) (e:aQ.get t off=some v) :
  (load ⟨(m b).1,off,none⟩).run P w=.ok (cv m v) w∧bD D v:=by
 obtain⟨C,el,fr,h1,h2⟩:=r.D6 hb hg;grind[NV]
theorem Rel.read (r:Rel P m D h w) {b off n:Nat} {l:List AV} (hb:D b) (e:vv h b off n=some l) :
  (loadCells ⟨(m b).1,off,none⟩ n).run P w=.ok (bj m l).toArray w∧bm D l∧l.length=n:=by
 unfold vv at e
 split at e
 ·rename_i c t o hg;exact r.sd hb hg (CT.ny e)
 ·rename_i t hg;exact r.D7 hb hg e
 grind
theorem Rel.Ay (r:Rel P m D h w) {b off:Nat} {c:CT} {t:TypeId} {o:Bool} {v:AV} (hb:D b) (hg:h.get b=some (.cells c t o)) (e:c.fk off=some v) :
  (load ⟨(m b).1,off,none⟩).run P w=.ok (cv m v) w∧bD D v:=by
 obtain⟨rest,fr,h1,_,_,_,hd⟩:=r.cells hb hg
 replace e:=CT.ur e
 rw[ya]at e;have ax:off<c.toList.length:=(List.getElem?_eq_some_iff.1 e).1;grind[NV,yY,List.mem_of_getElem?,List.getElem?_append_left,xg]
theorem Rel.write (r:Rel P m D h w) {b off:Nat} {xs:List AV} {h':AH} (hb:D b) (Pv:bm D xs) (e:kX h b off xs=some h') :
  ∃w',(storeCells ⟨(m b).1,off,none⟩ (bj m xs)).run P w=.ok () w'∧Ext m D h w m D h' w'∧Rel P m D h' w':=by
 unfold kX at e
 split at e
 ·rename_i c t o hg;cases pU:qt xs
  ·grind
  ·rw[pU]at e;simp only[cond_true,Option.bind_eq_some_iff]at e;obtain⟨c',bH,he⟩:=e;cases he;obtain⟨e1,e2⟩:=VK (CT.nz bH);obtain⟨rest,fr,h1,h2,h3,h4,hd⟩:=r.cells hb hg;obtain⟨w',hr,ht⟩:=Yy (P:=P) off (bj m xs) 0 w _ h1 (by simp;omega) (W8 m pU) (by simp_all);refine⟨w',hr,?_⟩;have hlen:c'.toList.length=c.toList.length:=by grind
   refine r.put b _ hb (W9 hg trivial) ht.size ht.other ht.os ht.tape ht.output ?_ ?_
   ·grind[cV,gC,XV,GA]
   ·refine⟨rest,fr,?_,h2,by grind,by grind⟩;rw[ht.at_,e1]
    congr 3
    simp only[xg,List.length_map,Nat.add_zero,List.map_append,List.map_take,List.map_drop];grind
 grind
theorem Zb {v:Value} {a:AV} (e:Ul v=some a):cv m a=v∧bD D a:=by
 unfold Ul at e
 split at e<;>first |(cases e;exact⟨rfl,trivial⟩) |grind
theorem Mz {l:List Value} {s:List AV} (e:kK Ul l=some s):bj m s=l∧bm D s:=by
 induction l generalizing s with
 |nil=>simp[kK]at e;subst e;trivial
 |cons a r ih=>simp only[kK,Option.bind_eq_some_iff]at e;obtain⟨b,hb,t,ht,hs⟩:=e;cases hs;obtain⟨h1,h2⟩:=Zb (m:=m) (D:=D) hb;obtain⟨h3,h4⟩:=ih ht;exact⟨by grind[bj],h2,h4⟩
theorem XJ {v:Value} {a:AV} (e:Nz v=some a):cv m a=v∧bD D a:=by
 unfold Nz at e
 split at e
 ·rename_i cs;simp only[Option.map_eq_some_iff]at e;obtain⟨s,hs,rfl⟩:=e;obtain⟨h1,h2⟩:=Mz (m:=m) (D:=D) hs;exact⟨by simp[cv,h1],h2⟩
 ·rename_i cs;simp only[Option.map_eq_some_iff]at e;obtain⟨s,hs,rfl⟩:=e;obtain⟨h1,h2⟩:=Mz (m:=m) (D:=D) hs;exact⟨by simp[cv,h1],h2⟩
 ·rename_i f first cap
  cases hc:(first.isEmpty&&cap.isEmpty)
  ·grind
  ·rw[hc]at e;cases e;simp only[Bool.and_eq_true,Array.isEmpty_iff]at hc;obtain⟨rfl,rfl⟩:=hc;trivial
 grind[Zb]
theorem run_underlying {t:TypeId} {d:TypeDesc} (e:P.underlying t=some d):(underlying t).run P w=.ok d w:=by unfold underlying;simp_all
theorem run_typeInfo {t:TypeId} {i:TypeInfo} (e:P.info? t=some i):(typeInfo t).run P w=.ok i w:=by unfold typeInfo;simp_all
theorem run_sizeOf {t:TypeId} {n:Nat} (e:bh P t=some n):(sizeOf t).run P w=.ok n w:=by simp only[bh,Option.map_eq_some_iff]at e;obtain⟨i,hi,rfl⟩:=e;simp_all[sizeOf,run_typeInfo]
theorem wb {t:TypeId} {b:Bool} (e:iB P t=some b):(isAgg t).run P w=.ok b w:=by simp only[iB,Option.map_eq_some_iff]at e;obtain⟨d,hd,hb⟩:=e;unfold isAgg;rw[qq (run_underlying hd)];split<;>simp_all
theorem vr {t:TypeId} {z:AV} (e:fJ P t=some z):(zeroValue t).run P w=.ok (cv m z) w∧bD D z:=by simp only[fJ,Option.bind_eq_some_iff]at e;obtain⟨i,hi,v,hv,hz⟩:=e;obtain⟨h1,h2⟩:=XJ (m:=m) (D:=D) hz;simp_all[zeroValue,run_typeInfo]
end Go.Ae
namespace Go.Ae
open Go
variable {P:Program} {m:Mp} {D:Nat→Prop} {h:AH} {w:World}
def eJ (P:Program) (m:Mp) (D:Nat→Prop) (h:AH) (w:World) (lV:Result Next) (v:AV) (h':AH):Prop :=
 ∃m' D' w',(lV=.ok (.value (cv m' v)) w'∨(lV=.ok .skip w'∧v=.undef))∧Ext m D h w m' D' h' w'∧Rel P m' D' h' w'∧bD D' v
theorem qC {α:Type} {x:Option α} {k:α→R} {r:AV×AH}:ob x k=some r↔∃a,x=some a∧k a=some r:=by
 grind
theorem yq {b:Bool} {x:R} {r:AV×AH}:da b x none=some r↔b=true∧x=some r:=by
 grind
theorem jC {α:Type} {b:Bool} {x:Option α} {r:α}:(bif b then x else none)=some r↔b=true∧x=some r:=by
 grind
theorem qr {v v':AV} {h h':AH}:(some (v,h):R)=some (v',h')↔v=v'∧h=h':=by simp
theorem zM (r:Rel P m D h w) {s:Sem Value} {v:AV} (hs:s.run P w=.ok (cv m v) w) (hv:bD D v) :
  eJ P m D h w ((do pure (Next.value (← s)):Sem Next).run P w) v h :=
 ⟨m,D,w,.inl (by simp_all),Ext.refl ..,r,hv⟩
theorem YW (r:Rel P m D h w) {s:Sem Next} {v:AV} (hs:s.run P w=.ok (.value (cv m v)) w) (hv:bD D v):eJ P m D h w (s.run P w) v h :=
 ⟨m,D,w,.inl hs,Ext.refl ..,r,hv⟩
def eX (m:Mp) (D:Nat→Prop) (ρ:Operand→Value) (r:Operand→Option AV):Prop:=∀x v,r x=some v→ρ x=cv m v∧bD D v
theorem zE {a b:Nat} (h:Nat.ble a b=true):a≤b:=Nat.le_of_ble_eq_true h
theorem U4 {a b:Nat} (h:Nat.ble a b=false):b<a:=by
 rcases Nat.lt_or_ge b a with h' |h'
 all_goals simp_all[iY]
theorem Nk (a b:Int):nr a b=(a==b):=by
 cases a with
 |ofNat a=>cases b with
  |ofNat b=>
   simp only[nr];by_cases e:a=b
   ·simp_all
   grind[vC,beq_eq_false_iff_ne,Int.ofNat.inj]
  |negSucc b=>rfl
 |negSucc a=>cases b with
  |ofNat b=>rfl
  |negSucc b=>
   simp only[nr];by_cases e:a=b
   all_goals simp_all[vC,beq_eq_false_iff_ne]
theorem MS (a b:Int):oZ a b=decide (a<b):=by
 cases a with
 |ofNat a=>cases b with
  |ofNat b=>
   simp only[oZ];cases e:Nat.ble (a+1) b
   ·have:=U4 e;grind
   simp at*;omega
  |negSucc b=>rfl
 |negSucc a=>cases b with
  |ofNat b=>simp[oZ];omega
  |negSucc b=>
   simp only[oZ];cases e:Nat.ble (b+1) a
   ·have:=U4 e;grind
   simp at*;omega
theorem UC (n:Int):IntKind.wrap .i64 n=if 9223372036854775808≤n%18446744073709551616 then n%18446744073709551616-18446744073709551616 else n%18446744073709551616:=by show(if(true&&decide (n%18446744073709551616≥9223372036854775808))=true then _ else _)=_;simp only[Bool.true_and,decide_eq_true_eq,ge_iff_le];rfl
theorem Yb (n:Int):IntKind.wrap .u64 n=n%18446744073709551616:=rfl
theorem jZp (n:Int):IntKind.wrap .u8 n=n%256:=rfl
theorem Zs (a:Nat) (h:a≤9223372036854775807):IntKind.wrap .i64 (Int.negSucc a)=Int.negSucc a:=by simp[Int.negSucc_eq,UC];omega
theorem Qj (k:IntKind) (n:Int):xy k n=k.wrap n:=by
 cases k<;>cases n<;>simp only[xy]
 ·rename_i a;cases hb:Nat.ble a 9223372036854775807
  ·rw[cond_false]
  ·have:=zE hb;rw[UC];show(a:Int)=if 9223372036854775808≤(a:Int)%_ then _ else(a:Int)%_
   split<;>omega
 ·rename_i a;cases hb:Nat.ble a 9223372036854775807
  ·rw[cond_false]
  ·have:=zE hb;rw[cond_true];exact(Zs a this).symm
 ·rename_i a;rw[jZp];show((a%256:Nat):Int)=(a:Int)%_;omega
 ·rename_i a;rw[Yb];show((a%18446744073709551616:Nat):Int)=(a:Int)%_;omega
 ·rename_i a;rw[Yb];show((18446744073709551615-a%18446744073709551616:Nat):Int)=_;omega
theorem li (a b:List UInt8):lu a b=(a==b):=by
 induction a generalizing b with
 |nil=>cases b<;>rfl
 |cons x a ih=>cases b with
  |nil=>rfl
  |cons y b=>grind[lu]
def D8 (op:BinOp) (k:IntKind) (x y:Int):Sem Value :=
 match op with
 | .add | .sub | .mul=>Op.intArith op k x y
 | .quo | .rem=>Op.intDiv op k x y
 | .and | .or | .xor | .andNot=>Op.intBits op k x y
 |_=>Op.intCmp op x y
theorem qwP {op:BinOp} {k:IntKind} {x y:Int} {v:AV} (e:Jb op k x y=some v) :
  (D8 op k x y).run P w=.ok (cv m v) w∧bD D v:=by
 cases op<;>simp only[Jb,Qj,Nk,MS]at e
 case quo=>
  by_cases hy:y=0
  ·grind
  ·rw[beq_eq_false_iff_ne.2 hy]at e;cases e;exact⟨by simp[D8,Op.intDiv,hy,cv],trivial⟩
 case rem=>
  by_cases hy:y=0
  ·grind
  ·rw[beq_eq_false_iff_ne.2 hy]at e;cases e;exact⟨by simp[D8,Op.intDiv,hy,cv],trivial⟩
 case leq=>
  cases e;refine⟨?_,trivial⟩;show Result.ok (Value.bool (decide (x≤y))) w=.ok (.bool (!decide (y<x))) w;rw[← decide_not,decide_eq_decide.2 (show x≤y↔¬y<x by omega)]
 case geq=>
  cases e;refine⟨?_,trivial⟩;show Result.ok (Value.bool (decide (x≥y))) w=.ok (.bool (!decide (x<y))) w;rw[← decide_not,decide_eq_decide.2 (show x≥y↔¬x<y by omega)]
 all_goals first
  |(cases e;done)
  |(cases e;exact⟨rfl,trivial⟩)
end Go.Ae
namespace Go.Ae
open Go
variable {P:Program} {m:Mp} {D:Nat→Prop} {h h':AH} {w:World} {c:CV} {ρ:Operand→Value} {r:Operand→Option AV} {o:Oper} {v:AV}
abbrev fin:AV→AH→R:=λv h=>some (v,h)
theorem jJR {x:Operand} (ho:o.op=.move x) (hr:eX m D ρ r) (R:Rel P m D h w) (e:bC P c o.op r h fin=some (v,h')):eJ P m D h w ((execOp ρ o).run P w) v h':=by rw[ho]at e;simp only[bC,qC,qr]at e;obtain⟨a,ha,rfl,rfl⟩:=e;obtain⟨h1,h2⟩:=hr _ _ ha;grind[YW,execOp,wz]
theorem qjD {x:Operand} (ho:o.op=.assign x) (hr:eX m D ρ r) (R:Rel P m D h w) (e:bC P c o.op r h fin=some (v,h')):eJ P m D h w ((execOp ρ o).run P w) v h':=by rw[ho]at e;simp only[bC,qC,qr]at e;obtain⟨a,ha,rfl,rfl⟩:=e;obtain⟨h1,h2⟩:=hr _ _ ha;grind[YW,execOp,wz]
theorem jQA {x y z:Operand} (ho:o.op=.pick x y z) (hr:eX m D ρ r) (R:Rel P m D h w) (e:bC P c o.op r h fin=some (v,h')):eJ P m D h w ((execOp ρ o).run P w) v h':=by
 rw[ho]at e;simp only[bC,qC]at e;obtain⟨a,ha,b,hb,d,hd,e⟩:=e;obtain⟨a1,a2⟩:=hr _ _ ha;obtain⟨b1,b2⟩:=hr _ _ hb;obtain⟨d1,d2⟩:=hr _ _ hd;rw[W3]at e
 split at e
 ·rename_i t;cases t<;>simp only[qr]at e<;>obtain⟨rfl,rfl⟩:=e
  ·refine YW R ?_ d2;simp_all[execOp,cv,asBool]
  ·refine YW R ?_ b2;simp_all[execOp,cv,asBool]
 grind
theorem jV5 {x:Operand} (ho:o.op=.nilCheck x) (hr:eX m D ρ r) (R:Rel P m D h w) (e:bC P c o.op r h fin=some (v,h')):eJ P m D h w ((execOp ρ o).run P w) v h':=by
 rw[ho]at e;simp only[bC,qC]at e;obtain⟨a,ha,e⟩:=e;obtain⟨a1,a2⟩:=hr _ _ ha;unfold yB at e
 split at e<;>first |(cases e;done) |skip
 all_goals
  simp only[qr]at e;obtain⟨rfl,rfl⟩:=e;refine YW R ?_ a2;simp_all[execOp,cv]
theorem D9 {op:UnOp} {t:TypeId} {x:Operand} (ho:o.op=.unOp op t x) (hr:eX m D ρ r) (R:Rel P m D h w) (e:bC P c o.op r h fin=some (v,h')):eJ P m D h w ((execOp ρ o).run P w) v h':=by
 rw[ho]at e;simp only[bC,qC]at e;obtain⟨a,ha,e⟩:=e;obtain⟨a1,a2⟩:=hr _ _ ha;unfold rX at e
 split at e<;>first |(cases e;done) |skip
 all_goals
  simp only[qr]at e;obtain⟨rfl,rfl⟩:=e;simp only[execOp,ho,a1];refine zM R ?_ trivial
  first
   |(simp only[cv,Qj];rfl)
   |rfl
theorem qvr {t:TypeId} {x:Operand} (ho:o.op=.makeInterface t x) (hr:eX m D ρ r) (R:Rel P m D h w) (e:bC P c o.op r h fin=some (v,h')):eJ P m D h w ((execOp ρ o).run P w) v h':=by
 rw[ho]at e;simp only[bC,qC]at e;obtain⟨d,hd,e⟩:=e;have key:∃a,r x=some a∧fin (.iface t a) h=some (v,h'):=by
  grind
 obtain⟨a,ha,e⟩:=key;obtain⟨a1,a2⟩:=hr _ _ ha;simp only[qr]at e;obtain⟨rfl,rfl⟩:=e;simp only[execOp,ho,a1];refine zM R ?_ a2;unfold Instr.makeInterface;rw[qq (run_underlying hd)];cases d<;>first |rfl |grind
theorem qkl {t:TypeId} {x:Operand} {f:Nat} (ho:o.op=.fieldAddr t x f) (hr:eX m D ρ r) (R:Rel P m D h w) (e:bC P c o.op r h fin=some (v,h')):eJ P m D h w ((execOp ρ o).run P w) v h':=by
 rw[ho]at e;simp only[bC,qC]at e;obtain⟨a,ha,off,lC,e⟩:=e;obtain⟨a1,a2⟩:=hr _ _ ha;rw[Nv]at e
 split at e
 ·rename_i b o';simp only[qr]at e;obtain⟨rfl,rfl⟩:=e;simp only[execOp,ho,a1];refine zM R ?_ a2;unfold WN at lC;simp only[Option.bind_eq_some_iff]at lC;obtain⟨d,hd,lC⟩:=lC;unfold Instr.fieldAt;rw[qq (run_underlying hd)];cases d<;>simp only[reduceCtorEq]at lC
  rename_i fs;simp only[Option.bind_eq_some_iff]at lC;obtain⟨g,hg,sz,bP,lC⟩:=lC;cases hz:Nat.beq sz 0<;>rw[hz]at lC<;>simp only[cond_true,cond_false,reduceCtorEq,Option.some.injEq]at lC
  subst lC;simp only[hg,cv];rw[qq (show(Instr.sureAddr (.pointer (some ⟨(m b).1,o',none⟩))).run P w=.ok ⟨(m b).1,o',none⟩ w from rfl)];rw[qq (show(fieldPlace ⟨(m b).1,o',none⟩ g).run P w=.ok ⟨(m b).1,o'+g.offset,none⟩ w from ?_)]
  ·rfl
  ·unfold fieldPlace;simp_all[run_sizeOf,gV,kO]
 grind
theorem GG {t:TypeId} {cs:List AV} {off:Nat} {x:AV} (ht:iB P t=some false) (e:QV cs off=some x) (hd:bm D cs):(part t (bj m cs).toArray off).run P w=.ok (cv m x) w∧bD D x:=by rw[ya]at e;refine⟨?_,(yY D cs).1 hd x (List.mem_of_getElem? e)⟩;unfold part;rw[qq (wb ht)];simp_all[Bool.false_eq_true,List.getElem?_toArray,xg,List.getElem?_map]
theorem Gv {t:TypeId} {cs l:List AV} {off n:Nat} (ht:iB P t=some true) (hn:bh P t=some n) (e:vh n (gg off cs)=some l) (hd:bm D cs):(part t (bj m cs).toArray off).run P w=.ok (cv m (.agg l)) w∧bm D l:=by
 rw[Qy]at e;obtain⟨e1,e2⟩:=kc e;refine⟨?_,by grind[XV,GA]⟩;unfold part;rw[qq (wb ht)];simp_all[run_sizeOf,cv,xg]
theorem kh {t:TypeId} {i:Option Nat} (e:QK P t=some i):(i=none∧iB P t=some false)∨∃n,i=some n∧iB P t=some true∧bh P t=some n:=by
 unfold QK at e;simp only[Option.bind_eq_some_iff]at e;obtain⟨a,ha,e⟩:=e;cases a
 ·grind
 ·simp only[cond_true,Option.map_eq_some_iff]at e;grind
theorem qyo {t:TypeId} {x:Operand} {f:Nat} (ho:o.op=.field t x f) (hr:eX m D ρ r) (R:Rel P m D h w) (e:bC P c o.op r h fin=some (v,h')):eJ P m D h w ((execOp ρ o).run P w) v h':=by
 rw[ho]at e;simp only[bC,qC]at e;obtain⟨a,ha,p,hp,e⟩:=e;obtain⟨a1,a2⟩:=hr _ _ ha;unfold Zy at hp;simp only[Option.bind_eq_some_iff]at hp;obtain⟨d,hd,hp⟩:=hp;cases d<;>simp only[reduceCtorEq]at hp
 rename_i fs;simp only[Option.bind_eq_some_iff,Option.map_eq_some_iff]at hp;obtain⟨g,hg,i,hi,rfl⟩:=hp;simp only[execOp,ho,a1];rcases kh hi with⟨rfl,nb⟩ |⟨n,rfl,nb,hn⟩
 ·simp only[Zd]at e
  split at e
  ·rename_i cs;simp only[qC,qr]at e;obtain⟨z,hz,rfl,rfl⟩:=e;obtain⟨z1,z2⟩:=GG (w:=w) (m:=m) nb hz a2;refine zM R ?_ z2;simp_all[Instr.field,run_underlying,cv,asAgg]
  grind
 ·simp only[Yt]at e
  split at e
  ·rename_i cs;simp only[qC,qr]at e;obtain⟨z,hz,rfl,rfl⟩:=e;obtain⟨z1,z2⟩:=Gv (w:=w) (m:=m) nb hn hz a2;refine zM R ?_ z2;simp_all[Instr.field,run_underlying,cv,asAgg]
  grind
theorem qQd {t:TypeId} {x i:Operand} (ho:o.op=.indexAddr t x i) (hr:eX m D ρ r) (R:Rel P m D h w) (e:bC P c o.op r h fin=some (v,h')):eJ P m D h w ((execOp ρ o).run P w) v h':=by
 rw[ho]at e;simp only[bC,qC]at e;obtain⟨a,ha,j,hj,d,hd,e⟩:=e;obtain⟨a1,a2⟩:=hr _ _ ha;obtain⟨j1,j2⟩:=hr _ _ hj;simp only[execOp,ho,a1,j1];cases d<;>simp only[reduceCtorEq]at e
 case slice el=>
  simp only[qC]at e;obtain⟨sz,bP,e⟩:=e;rw[Mj]at e
  split at e
  ·rename_i b off len cp aS k q;simp only[jC,qr]at e;obtain⟨hq,rfl,rfl⟩:=e;have hq:=zE hq;refine zM R ?_ a2;unfold Instr.indexAt;simp only[cv];rw[qq (show(asIntOf (.int k (.ofNat q))).run P w=.ok (k,.ofNat q) w from rfl)];rw[qq (run_underlying hd)];simp only[];rw[qq (show(pure (some (⟨(m b).1,off,none⟩:Addr),len,el):Sem (Option Addr×Nat×TypeId)).run P w=.ok _ w from rfl)];rw[qq (run_underlying hd)];have:(0:Int)≤Int.ofNat q∧Int.ofNat q<(len:Int):=⟨Int.natCast_nonneg q,by grind⟩;simp_all[run_sizeOf,kO]
  grind
 case array n el=>
  simp only[yq,qC]at e;obtain⟨h2,sz,bP,e⟩:=e;have h2:=zE h2;unfold Jg at e
  split at e
  ·rename_i b off k q;simp only[jC,qr]at e;obtain⟨hq,rfl,rfl⟩:=e;have hq:=zE hq;refine zM R ?_ a2;unfold Instr.indexAt;simp only[cv];rw[qq (show(asIntOf (.int k (.ofNat q))).run P w=.ok (k,.ofNat q) w from rfl)];rw[qq (run_underlying hd)];simp only[];rw[qq (show(Instr.sureAddr (.pointer (some ⟨(m b).1,off,none⟩))).run P w=.ok ⟨(m b).1,off,none⟩ w from rfl)];rw[qq (show(pure (some (⟨(m b).1,off,none⟩:Addr),n,el):Sem (Option Addr×Nat×TypeId)).run P w=.ok _ w from rfl)];rw[qq (run_underlying hd)];have:(0:Int)≤Int.ofNat q∧Int.ofNat q<(n:Int):=⟨Int.natCast_nonneg q,by grind⟩;simp_all[run_sizeOf,kO]
  grind
theorem qK5 {x:Operand} {i:Nat} (ho:o.op=.extract x i) (hr:eX m D ρ r) (R:Rel P m D h w) (e:bC P c o.op r h fin=some (v,h')):eJ P m D h w ((execOp ρ o).run P w) v h':=by
 rw[ho]at e;simp only[bC,qC]at e;obtain⟨a,ha,e⟩:=e;obtain⟨a1,a2⟩:=hr _ _ ha;rw[YY]at e
 split at e
 ·rename_i l;simp only[qC,qr]at e;obtain⟨z,hz,rfl,rfl⟩:=e;rw[ya]at hz;simp only[execOp,ho,a1];refine zM R ?_ ((yY D l).1 a2 _ (List.mem_of_getElem? hz));simp_all[Instr.extract,cv,List.getElem?_toArray,xg,List.getElem?_map]
 grind
theorem qk4 {t:TypeId} {x i:Operand} (ho:o.op=.index t x i) (hr:eX m D ρ r) (R:Rel P m D h w) (e:bC P c o.op r h fin=some (v,h')):eJ P m D h w ((execOp ρ o).run P w) v h':=by
 rw[ho]at e;simp only[bC,qC]at e;obtain⟨a,ha,j,hj,d,hd,e⟩:=e;obtain⟨a1,a2⟩:=hr _ _ ha;obtain⟨j1,j2⟩:=hr _ _ hj;simp only[execOp,ho,a1,j1];cases d<;>simp only[reduceCtorEq]at e
 case string=>
  unfold wF at e
  split at e
  ·rename_i s k q;simp only[qC,qr]at e;obtain⟨z,hz,rfl,rfl⟩:=e;rw[ya]at hz;refine zM R ?_ trivial;unfold Instr.index;simp only[cv];rw[qq (show(asIntOf (.int k (.ofNat q))).run P w=.ok (k,.ofNat q) w from rfl)];rw[qq (run_underlying hd)];have h0:(0:Int)≤Int.ofNat q:=Int.natCast_nonneg q;have hb:(ByteArray.mk s.toArray)[q]? =some z:=by
    have ax:q<s.length:=(List.getElem?_eq_some_iff.1 hz).1;have hs:(ByteArray.mk s.toArray).size=s.length:=by rfl
    rw[getElem?_pos _ _ (by grind)]
    congr 1
    have:=(List.getElem?_eq_some_iff.1 hz).2;trivial
   simp_all
  grind
 case array n el=>
  simp only[qC]at e;obtain⟨sz,bP,g,hg,e⟩:=e;cases g
  ·simp only[da]at e;unfold YR at e
   split at e
   ·rename_i cs k q;simp only[jC,qC,qr]at e;obtain⟨hq,z,hz,rfl,rfl⟩:=e;have hq:=zE hq;obtain⟨z1,z2⟩:=GG (w:=w) (m:=m) hg hz a2;refine zM R ?_ z2;unfold Instr.index;simp only[cv];rw[qq (show(asIntOf (.int k (.ofNat q))).run P w=.ok (k,.ofNat q) w from rfl)];rw[qq (run_underlying hd)];have:(0:Int)≤Int.ofNat q∧Int.ofNat q<(n:Int):=⟨Int.natCast_nonneg q,by grind⟩;simp_all[run_sizeOf]
   grind
  ·simp only[da]at e;unfold YS at e
   split at e
   ·rename_i cs k q;simp only[jC,qC,qr]at e;obtain⟨hq,z,hz,rfl,rfl⟩:=e;have hq:=zE hq;obtain⟨z1,z2⟩:=Gv (w:=w) (m:=m) hg bP hz a2;refine zM R ?_ z2;unfold Instr.index;simp only[cv];rw[qq (show(asIntOf (.int k (.ofNat q))).run P w=.ok (k,.ofNat q) w from rfl)];rw[qq (run_underlying hd)];have:(0:Int)≤Int.ofNat q∧Int.ofNat q<(n:Int):=⟨Int.natCast_nonneg q,by grind⟩;simp only[iJ this];rw[qq (run_sizeOf bP)];exact z1
   grind
theorem jJH {t:TypeId} {x:Operand} (ho:o.op=.load t x) (hr:eX m D ρ r) (R:Rel P m D h w) (e:bC P c o.op r h fin=some (v,h')):eJ P m D h w ((execOp ρ o).run P w) v h':=by
 rw[ho]at e;simp only[bC,qC]at e;obtain⟨a,ha,i,hi,e⟩:=e;obtain⟨a1,a2⟩:=hr _ _ ha;simp only[execOp,ho,a1];rcases kh hi with⟨rfl,nb⟩ |⟨n,rfl,nb,hn⟩
 ·simp only[gS]at e
  split at e
  ·rename_i b off
   split at e
   ·rename_i cs t' op' hg;simp only[qC,qr]at e;obtain⟨z,hz,rfl,rfl⟩:=e;obtain⟨z1,z2⟩:=R.Ay a2 hg hz;refine zM R ?_ z2;unfold Instr.loadAt;simp only[cv];rw[qq (show(Instr.sureAddr (.pointer (some ⟨(m b).1,off,none⟩))).run P w=.ok ⟨(m b).1,off,none⟩ w from rfl)];simp_all[loadVar,wb]
   ·rename_i ti hg;simp only[qC,qr]at e;obtain⟨z,hz,rfl,rfl⟩:=e;obtain⟨z1,z2⟩:=R.se a2 hg hz;refine zM R ?_ z2;unfold Instr.loadAt;simp only[cv];rw[qq (show(Instr.sureAddr (.pointer (some ⟨(m b).1,off,none⟩))).run P w=.ok ⟨(m b).1,off,none⟩ w from rfl)];simp_all[loadVar,wb]
   grind
  grind
 ·simp only[kU]at e
  split at e
  ·rename_i b off;simp only[qC,qr]at e;obtain⟨z,hz,rfl,rfl⟩:=e;obtain⟨z1,z2,z3⟩:=R.read a2 hz;refine zM R ?_ z2;unfold Instr.loadAt;simp only[cv];rw[qq (show(Instr.sureAddr (.pointer (some ⟨(m b).1,off,none⟩))).run P w=.ok ⟨(m b).1,off,none⟩ w from rfl)];simp_all[loadVar,wb,run_sizeOf]
  grind
theorem qkh {t:TypeId} {x y:Operand} (ho:o.op=.store t x y) (hr:eX m D ρ r) (R:Rel P m D h w) (e:bC P c o.op r h fin=some (v,h')):eJ P m D h w ((execOp ρ o).run P w) v h':=by
 rw[ho]at e;simp only[bC,qC]at e;obtain⟨a,ha,b,hb,n,hn,e⟩:=e;obtain⟨a1,a2⟩:=hr _ _ ha;obtain⟨b1,b2⟩:=hr _ _ hb;rw[Ut]at e
 split at e
 ·rename_i q off;simp only[jC,qC,qr]at e;obtain⟨hl,h1,hw,rfl,rfl⟩:=e;have hl:=zC hl;obtain⟨w',dy,Bw,ia⟩:=R.write a2 (ka b2) hw;refine⟨m,D,w',.inr ⟨?_,rfl⟩,Bw,ia,trivial⟩;simp only[execOp,ho,a1,b1,cv];have hs:(Instr.storeAt t (.pointer (some ⟨(m q).1,off,none⟩)) (cv m b)).run P w=.ok () w':=by
   unfold Instr.storeAt;rw[qq (show(Instr.sureAddr (.pointer (some ⟨(m q).1,off,none⟩))).run P w=.ok ⟨(m q).1,off,none⟩ w from rfl)];simp_all[storeVar,run_sizeOf,w8,List.size_toArray]
  simp_all
 grind
end Go.Ae
namespace Go.Ae
open Go
variable {P:Program} {m:Mp} {D:Nat→Prop} {h h':AH} {w:World} {c:CV} {ρ:Operand→Value} {r:Operand→Option AV} {o:Oper} {v:AV}
theorem JA (hr:eX m D ρ r) {l:List Operand} {s:List AV} (e:kK r l=some s):l.map ρ=bj m s∧bm D s:=by
 induction l generalizing s with
 |nil=>simp[kK]at e;subst e;trivial
 |cons a l ih=>simp only[kK,Option.bind_eq_some_iff]at e;obtain⟨b,hb,t,ht,hs⟩:=e;cases hs;obtain⟨h1,h2⟩:=hr _ _ hb;obtain⟨h3,h4⟩:=ih ht;exact⟨by grind[bj],h2,h4⟩
theorem Vi {α β:Type} (f:α→β) (x:Array α):x.map f=(x.toList.map f).toArray:=by grind
theorem qZa {fn:Fn} {x y:Array Operand} (ho:o.op=.makeFunc fn x y) (hr:eX m D ρ r) (R:Rel P m D h w) (e:bC P c o.op r h fin=some (v,h')):eJ P m D h w ((execOp ρ o).run P w) v h':=by
 rw[ho]at e;cases fn<;>simp only[bC,reduceCtorEq]at e
 rename_i f;simp only[qC,qr]at e;obtain⟨a,ha,b,hb,rfl,rfl⟩:=e;obtain⟨a1,a2⟩:=JA hr ha;obtain⟨b1,b2⟩:=JA hr hb;simp only[execOp,ho];refine zM R ?_ ⟨a2,b2⟩;grind[Instr.makeFunc,cv,wz,Vi]
theorem qza {x:Operand} {xt t:TypeId} {ok:Bool} (ho:o.op=.typeAssert x xt t ok) (hr:eX m D ρ r) (R:Rel P m D h w) (e:bC P c o.op r h fin=some (v,h')):eJ P m D h w ((execOp ρ o).run P w) v h':=by
 rw[ho]at e;simp only[bC,qC]at e;obtain⟨a,ha,d,hd,e⟩:=e;obtain⟨a1,a2⟩:=hr _ _ ha;simp only[execOp,ho,a1];have lh:(∀ms,d≠.interface ms)∧(da ok (ob (fJ P t) λz=>yM t z a λy=>fin y h) (Qd t a λy=>fin y h))=some (v,h'):=by
  grind
 obtain⟨lh,e⟩:=lh;cases ok
 ·simp only[da]at e;unfold Qd at e
  split at e
  ·rename_i u z;simp only[jC,qr]at e;obtain⟨hu,rfl,rfl⟩:=e;have hu:=zC hu;subst hu;refine zM R ?_ a2;simp_all[Instr.typeAssert,cv,run_underlying]
  grind
 ·simp only[da,qC]at e;obtain⟨z,hz,e⟩:=e;obtain⟨z1,z2⟩:=vr (w:=w) (m:=m) (D:=D) hz;unfold yM at e
  split at e
  ·rename_i u y _;cases hu:Nat.beq u t
   ·rw[hu]at e;simp only[cond_false,qr]at e;obtain⟨rfl,rfl⟩:=e;refine zM R ?_ ⟨z2,trivial,trivial⟩;unfold Instr.typeAssert;simp_all[cv,bj,run_underlying,gV]
   ·rw[hu]at e;simp only[cond_true,qr]at e;obtain⟨rfl,rfl⟩:=e;have hu:=zC hu;subst hu;refine zM R ?_ ⟨a2,trivial,trivial⟩;simp_all[Instr.typeAssert,cv,bj,run_underlying]
  ·simp only[qr]at e;obtain⟨rfl,rfl⟩:=e;refine zM R ?_ ⟨z2,trivial,trivial⟩;simp_all[Instr.typeAssert,cv,bj,run_underlying]
  grind
theorem qVC {op:BinOp} {k:IntKind} {x y:Int} {z:AV} (e:Im op k x y=some z) (yk:IntKind):(Op.shift op k x yk y).run P w=.ok (cv m z) w∧bD D z:=by
 unfold Im at e;rw[MS]at e;by_cases hy:y<0
 ·grind
 ·simp only[iV hy,cond_false]at e;cases op<;>simp only[reduceCtorEq,Option.some.injEq]at e<;>subst e<;>refine⟨?_,trivial⟩
  all_goals (simp[Op.shift,cv,Qj];omega)
theorem US (l:List UInt8):(ByteArray.mk l.toArray).toList=l:=by simp
theorem qxE {op:BinOp} {x y:List UInt8} {z:AV} (e:Ao op x y=some z):(Op.stringOp op ⟨x.toArray⟩ ⟨y.toArray⟩).run P w=.ok (cv m z) w∧bD D z:=by
 cases op<;>simp only[Ao,reduceCtorEq,Option.some.injEq,li]at e
 case add=>
  rw[jC]at e;obtain⟨hl,e⟩:=e;have hl:=zE hl;cases e;refine⟨?_,trivial⟩;have h1:(ByteArray.mk x.toArray).size=x.length:=by rfl
  have h2:(ByteArray.mk y.toArray).size=y.length:=by rfl
  have h3:¬(((x.length+y.length:Nat):Int)>IntKind.i64.max):=by simp;omega
  simp only[Op.stringOp,h1,h2,h3,if_false,cv];rfl
 all_goals
  subst e;refine⟨?_,trivial⟩;simp[Op.stringOp,cv]
theorem qXH {op:BinOp} {t:TypeId} {x y:Operand} {a b:Value} (h1:op≠.eql) (h2:op≠.neq):(eqGuard op t x y a b).run P w=.ok () w:=by unfold eqGuard;simp
theorem Js {op:BinOp} {t:TypeId} {x y:Operand} {a b:AV} (ha:∀l,a≠.agg l) (hb:a≠.dt∨b≠.dt):(eqGuard op t x y (cv m a) (cv m b)).run P w=.ok () w:=by
 unfold eqGuard;cases op<;>first |rfl |skip
 all_goals
  cases a<;>first |(exact absurd rfl (ha _)) |(cases b<;>first |rfl |grind)
theorem qzO {t:TypeId} {x y:Value} {b:Bool} (h:∀d,(Op.equalIn (d+1) t x y).run P w=.ok b w):(Op.equal t x y).run P w=.ok b w:=h 9999
theorem ZZ {t:TypeId} {d:TypeDesc} {k:EK} {a b:AV} {q:Bool} (hd:P.underlying t=some d) (hk:MG d=some k) (e:Y5 k a b=some q) (n:Nat) :
  (Op.equalIn (n+1) t (cv m a) (cv m b)).run P w=.ok q w:=by
 cases d<;>simp only[MG,reduceCtorEq,Option.some.injEq]at hk<;>subst hk<;>unfold Y5 at e<;>split at e<;>
  first
   |(cases e;done)
   |skip
 all_goals try contradiction
 all_goals try (simp only[Option.some.injEq]at e;subst e)
 all_goals
  unfold Op.equalIn;rw[qq (Ae.run_underlying hd)];simp only[cv]
 all_goals first
  |rfl
  |skip
 ·simp_all[jC,Option.some.injEq,Nk]
 simp[beq_toListBytes,li]
mutual
theorem qKS:∀v:AV,bD (λ_=>True) v
 | .bool _=>trivial
 | .int _ _=>trivial
 | .str _=>trivial
 | .ptr _ _=>trivial
 | .ba=>trivial
 | .slice _ _ _ _ _=>trivial
 | .ap=>trivial
 | .fn _ a c=>⟨ga a,ga c⟩
 | .yield _=>trivial
 | .eG=>trivial
 | .iface _ v=>qKS v
 | .dt=>trivial
 | .agg l=>ga l
 | .cn l=>ga l
 | .cA _=>trivial
 | .tail _ _ _ _=>trivial
 | .eV _=>trivial
theorem ga:∀l:List AV,bm (λ_=>True) l
 |[]=>trivial
 |a::r=>⟨qKS a,ga r⟩
end
theorem Ob {t:TypeId} {d:TypeDesc} {k:EK} (hd:P.underlying t=some d) (hk:MG d=some k):iB P t=some false:=by grind[iB,MG,reduceCtorEq]
theorem qX4 {l1 l2:List ES} {xs ys:List AV} {q:Bool} (e:yK (l1++l2) xs ys=some q):(yK l1 xs ys=some false∧q=false)∨(yK l1 xs ys=some true∧yK l2 xs ys=some q):=by
 induction l1 with
 |nil=>exact .inr ⟨rfl,e⟩
 |cons a l1 ih=>
  cases a with
  |nt k o=>
   simp only[List.cons_append,yK,Option.bind_eq_some_iff]at e ⊢;grind
  |len n=>
   simp only[List.cons_append,yK]at e ⊢;grind
theorem OG {c n:Nat} {xs ys:List AV} (hx:c+n≤xs.length) (hy:c+n≤ys.length):∀{l:List ES},XU n l=true→
  yK (Kx c l) xs ys=yK l ((xs.drop c).take n) ((ys.drop c).take n):=by
 intro l
 induction l with
 |nil=>intro _;rfl
 |cons a l ih=>
  intro h;cases a with
  |nt k o=>
   simp only[XU,Bool.and_eq_true]at h;have ho:=zE h.1;have gx:QV xs (c+o)=QV ((xs.drop c).take n) o:=by rw[ya,ya,List.getElem?_take_of_lt omQ,List.getElem?_drop]
   have gy:QV ys (c+o)=QV ((ys.drop c).take n) o:=by rw[ya,ya,List.getElem?_take_of_lt omQ,List.getElem?_drop]
   grind[Kx,yK]
  |len m=>
   simp only[XU,Bool.and_eq_true]at h;have hm:=zE h.1;have h1:(Nat.ble (c+m) xs.length&&Nat.ble (c+m) ys.length)=true:=by simp;omega
   have h2:(Nat.ble m ((xs.drop c).take n).length&&Nat.ble m ((ys.drop c).take n).length)=true:=by grind
   simp only[Kx,yK,h1,h2,cond_true,ih h.2]
theorem qG0:∀(d:Nat) {fs:List Field} {l:List ES} {xs ys:List AV} {q:Bool} (n:Nat) (_:gI P d fs=some l) (_:yK l xs ys=some q),
  (Op.eqFields (n+d) (bj m xs).toArray (bj m ys).toArray fs).run P w=.ok q w:=by
 intro d
 induction d with
 |zero=>nofun
 |succ d ihd=>
  intro fs l xs ys q n hl e;simp only[gI]at hl
  induction fs generalizing l q with
  |nil=>simp[Y7]at hl;subst hl;simp[yK]at e;subst e;rfl
  |cons f fs ih=>
   unfold Y7 at hl;cases hn : f.name == "_"
   ·rw [hn] at hl;simp only [cond_false, Option.bind_eq_some_iff] at hl;obtain ⟨u, hu, hl⟩ := hl;have bJ : f.name ≠ "_" := by grind
    by_cases cd:∃gs,u=.struct gs
    ·obtain⟨gs,rfl⟩:=cd;simp only[Option.bind_eq_some_iff]at hl;obtain⟨sz,bP,hl⟩:=hl;cases Pw:P.stoodInHeld f.type
     ·rw[Pw]at hl;simp only[cond_false,Option.bind_eq_some_iff]at hl;obtain⟨l1,oa,hl⟩:=hl;cases dY:XU sz l1
      ·grind
      ·rw[dY]at hl;simp only[cond_true,Option.map_eq_some_iff]at hl;obtain⟨l2,n9,rfl⟩:=hl;simp only[yK]at e;cases hb:Nat.ble (f.offset+sz) xs.length&&Nat.ble (f.offset+sz) ys.length
       ·grind
       ·rw[hb]at e;simp only[cond_true]at e;simp only[Bool.and_eq_true]at hb;have hx:=zE hb.1;have hy:=zE hb.2;have nb:iB P f.type=some true:=by grind[iB]
        have px:=Gv (P:=P) (m:=m) (w:=w) (t:=f.type) (off:=f.offset) nb bP (show vh sz (gg f.offset xs)=some ((xs.drop f.offset).take sz) by grind[Qy,w6]) (ga xs);have py:=Gv (P:=P) (m:=m) (w:=w) (t:=f.type) (off:=f.offset) nb bP (show vh sz (gg f.offset ys)=some ((ys.drop f.offset).take sz) by grind[Qy,w6]) (ga ys);have Eb:∀b,yK (Kx f.offset l1) xs ys=some b→
          (Op.equalIn (n+(d+1)) f.type (cv m (.agg ((xs.drop f.offset).take sz))) (cv m (.agg ((ys.drop f.offset).take sz)))).run P w=.ok b w:=by
         intro b sf;rw[OG hx hy dY]at sf;have hf:P.fieldsOf f.type=gs:=by grind[Program.fieldsOf]
         rw[show cv m (.agg ((xs.drop f.offset).take sz))=.agg (bj m ((xs.drop f.offset).take sz)).toArray from rfl,show cv m (.agg ((ys.drop f.offset).take sz))=.agg (bj m ((ys.drop f.offset).take sz)).toArray from rfl];rw[show n+(d+1)=(n+d)+1 from rfl,run_equalIn_struct w (n+d) f.type _ _ (by grind) Pw,hf];grind
        unfold Op.eqFields;rw[iJ bJ,qq px.1,qq py.1];rcases qX4 e with⟨h1,rfl⟩ |⟨h1,h2⟩
        ·simp_all
        ·rw[qq (Eb true h1)];grind
     grind
    ·have hl:∃k s,MG u=some k∧Y7 P (gI P d) fs=some s∧ES.nt k f.offset::s=l:=by
      cases u<;>first |(exact absurd ⟨_,rfl⟩ cd) |skip
      all_goals
       simp only[Option.bind_eq_some_iff]at hl;obtain⟨k,hk,hl⟩:=hl;refine⟨k,?_⟩;cases k<;>simp only[reduceCtorEq,Option.map_eq_some_iff]at hl<;>
        (obtain⟨s,hs,rfl⟩:=hl;exact⟨s,hk,hs,rfl⟩)
     obtain⟨k,s,hk,hs,rfl⟩:=hl;simp only[yK,Option.bind_eq_some_iff]at e;obtain⟨x,hx,y,hy,b,hb,e⟩:=e;unfold Op.eqFields;rw[iJ bJ];rw[qq (GG (m:=m) (w:=w) (Ob hu hk) hx (ga xs)).1];rw[qq (GG (m:=m) (w:=w) (Ob hu hk) hy (ga ys)).1];rw[show n+(d+1)=(n+d)+1 from rfl,qq (ZZ hu hk hb (n+d))];cases b
     ·simp_all
     grind
   grind
theorem jZ1 {t:TypeId} {fs:Array Field} {l:List ES} {xs ys:List AV} {q:Bool} (hd:P.underlying t=some (.struct fs)) (hg:(P.eqGuardType P.depth t||P.stoodInHeld t)=false)
  (hl:gI P 8 fs.toList=some l) (e:yK l xs ys=some q):(Op.equal t (cv m (.agg xs)) (cv m (.agg ys))).run P w=.ok q w:=by
 simp only[Bool.or_eq_false_iff]at hg;have hf:P.fieldsOf t=fs:=by grind[Program.fieldsOf]
 have:(Op.equalIn (9991+8+1) t (cv m (.agg xs)) (cv m (.agg ys))).run P w=.ok q w:=by rw[show cv m (.agg xs)=.agg (bj m xs).toArray from rfl,show cv m (.agg ys)=.agg (bj m ys).toArray from rfl];rw[run_equalIn_struct w (9991+8) t _ _ (by grind) hg.2,hf];exact qG0 8 9991 hl e
 trivial
theorem M2 (b:Bool):(b !=false)=b:=by simp
theorem OD (b:Bool):(b !=true)=!b:=by simp
theorem jKO {op:BinOp} {t t2:TypeId} {x y:Operand} (ho:o.op=.binOp op t x y t2) (hr:eX m D ρ r) (R:Rel P m D h w) (e:bC P c o.op r h fin=some (v,h')):eJ P m D h w ((execOp ρ o).run P w) v h':=by
 rw[ho]at e;simp only[bC,qC]at e;obtain⟨a,ha,b,hb,e⟩:=e;obtain⟨a1,a2⟩:=hr _ _ ha;obtain⟨b1,b2⟩:=hr _ _ hb;simp only[execOp,ho,a1,b1]
 suffices hs:h=h'∧bD D v∧(eqGuard op t x y (cv m a) (cv m b)).run P w=.ok () w∧(binOp op t (cv m a) (cv m b)).run P w=.ok (cv m v) w by
  obtain⟨rfl,hv,h1,h2⟩:=hs;grind[zM,qq]
 have shift:∀op,(op=.shl∨op=.shr)→kC op a b (λz=>fin z h)=some (v,h')→h=h'∧bD D v∧(eqGuard op t x y (cv m a) (cv m b)).run P w=.ok () w∧(binOp op t (cv m a) (cv m b)).run P w=.ok (cv m v) w:=by
  intro op lD e;unfold kC at e
  split at e
  ·rename_i k1 p k2 q _;simp only[qC,qr]at e;obtain⟨z,hz,rfl,rfl⟩:=e;obtain⟨z1,z2⟩:=qVC (P:=P) (m:=m) (D:=D) (w:=w) hz k2;refine⟨rfl,z2,qXH (by grind) (by grind),?_⟩;rcases lD with rfl |rfl<;>exact z1
  grind
 unfold DP at e
 split at e
 ·grind
 ·grind
 ·rename_i oD IC;simp only[qC]at e;obtain⟨d,hd,e⟩:=e;have oD:op≠.shl:=λhh=>oD hh;have IC:op≠.shr:=λhh=>IC hh;have gen:∀(k:EK),MG d=some k→(∀kk,d≠.int kk)→d≠.string→∀q,Y5 k a b=some q→
    (∀x y,(eqGuard .eql t x y (cv m a) (cv m b)).run P w=.ok () w)∧(∀x y,(eqGuard .neq t x y (cv m a) (cv m b)).run P w=.ok () w)∧
    (binOp .eql t (cv m a) (cv m b)).run P w=.ok (.bool q) w∧(binOp .neq t (cv m a) (cv m b)).run P w=.ok (.bool !q) w:=by
   intro k hk hi hs q hq;have dy:=qzO (λn=>ZZ (m:=m) (w:=w) hd hk hq n);have nb:(∀l,a≠.agg l)∧(a≠.dt∨b≠.dt)∧(∀kk n,a≠.int kk n)∧(∀s,a≠.str s):=by
    cases d<;>simp only[MG,reduceCtorEq,Option.some.injEq]at hk<;>first |(exact absurd rfl (hi _)) |(exact absurd rfl hs) |skip
    all_goals
     grind[Y5]
   obtain⟨g1,g2,g3,g4⟩:=nb;refine⟨λx y=>Js g1 g2,λx y=>Js g1 g2,?_,?_⟩
   ·have:binOp .eql t (cv m a) (cv m b)=(do pure (Value.bool (← Op.equal t (cv m a) (cv m b)))):=by
     cases a<;>first |rfl |(exact absurd rfl (g3 _ _)) |grind
    simp_all
   ·have:binOp .neq t (cv m a) (cv m b)=(do pure (Value.bool (!(← Op.equal t (cv m a) (cv m b))))):=by
     cases a<;>first |rfl |(exact absurd rfl (g3 _ _)) |grind
    simp_all
  have pe:(∀kk,d≠.int kk)→d≠.string→∀(k:EK),MG d=some k→∀neg,(neg=false→op=.eql)→(neg=true→op=.neq)→n8 k neg a b (λz=>fin z h)=some (v,h')→
    h=h'∧bD D v∧(eqGuard op t x y (cv m a) (cv m b)).run P w=.ok () w∧(binOp op t (cv m a) (cv m b)).run P w=.ok (cv m v) w:=by
   intro hi hs k hk neg e0 e1 e;unfold n8 at e;simp only[qC,qr]at e;obtain⟨q,hq,rfl,rfl⟩:=e;obtain⟨q1,q2,q3,q4⟩:=gen k hk hi hs q hq;cases neg
   ·obtain rfl:=e0 rfl;exact⟨rfl,trivial,q1 x y,by rw[q3,M2];rfl⟩
   ·obtain rfl:=e1 rfl;exact⟨rfl,trivial,q2 x y,by rw[q4,OD];rfl⟩
  have ps:∀fs l,d=.struct fs→(P.eqGuardType P.depth t||P.stoodInHeld t)=false→gI P 8 fs.toList=some l→∀neg,(neg=false→op=.eql)→(neg=true→op=.neq)→UW l neg a b (λz=>fin z h)=some (v,h')→
    h=h'∧bD D v∧(eqGuard op t x y (cv m a) (cv m b)).run P w=.ok () w∧(binOp op t (cv m a) (cv m b)).run P w=.ok (cv m v) w:=by
   intro fs l rH hg hl neg e0 e1 ee;subst rH;unfold UW at ee
   split at ee
   ·rename_i xs ys;simp only[qC,qr]at ee;obtain⟨q,hq,rfl,rfl⟩:=ee;have dy:=jZ1 (m:=m) (w:=w) hd hg hl hq;simp only[Bool.or_eq_false_iff]at hg;cases neg
    ·obtain rfl:=e0 rfl;refine⟨rfl,trivial,run_eqGuard_agg w _ _ _ _ _ _ hg.1,?_⟩;have:binOp .eql t (cv m (.agg xs)) (cv m (.agg ys))=(do pure (Value.bool (← Op.equal t (cv m (.agg xs)) (cv m (.agg ys))))):=rfl;rw[this,qq dy,M2];rfl
    ·obtain rfl:=e1 rfl;refine⟨rfl,trivial,run_eqGuard_agg w _ _ _ _ _ _ hg.1,?_⟩;have:binOp .neq t (cv m (.agg xs)) (cv m (.agg ys))=(do pure (Value.bool (!(← Op.equal t (cv m (.agg xs)) (cv m (.agg ys)))))):=rfl;rw[this,qq dy,OD];rfl
   grind
  split at e
  ·--numbers
   rw[Pt]at e
   split at e
   ·rename_i k1 p k2 q;simp only[jC,qC,qr]at e;obtain⟨hk,z,hz,rfl,rfl⟩:=e;have hk:k1=k2:=by grind
    subst hk;obtain⟨z1,z2⟩:=qwP (P:=P) (m:=m) (D:=D) (w:=w) hz;refine⟨rfl,z2,Js aW aW,?_⟩;have:binOp op t (cv m (.int k1 p)) (cv m (.int k1 q))=D8 op k1 p q:=by
     cases op<;>first |(exact absurd rfl oD) |(exact absurd rfl IC) |simp[binOp,cv,D8]
    grind
   grind
  ·unfold ug at e
   split at e
   ·rename_i s1 s2;simp only[qC,qr]at e;obtain⟨z,hz,rfl,rfl⟩:=e;obtain⟨z1,z2⟩:=qxE (P:=P) (m:=m) (D:=D) (w:=w) hz;refine⟨rfl,z2,Js aW aW,?_⟩;have:binOp op t (cv m (.str s1)) (cv m (.str s2))=Op.stringOp op ⟨s1.toArray⟩ ⟨s2.toArray⟩:=by
     cases op<;>first |(exact absurd rfl oD) |(exact absurd rfl IC) |rfl
    grind
   grind
  ·rename_i fs
   split at e
   ·grind
   ·grind
   grind
  ·rename_i hi hs _
   split at e
   ·simp only[qC]at e;obtain⟨k,hk,e⟩:=e;exact pe (λkk hh=>hi kk hh) (λhh=>hs hh) k hk false (λ_=>rfl) aW e
   ·simp only[qC]at e;obtain⟨k,hk,e⟩:=e;exact pe (λkk hh=>hi kk hh) (λhh=>hs hh) k hk true aW (λ_=>rfl) e
   grind
end Go.Ae
