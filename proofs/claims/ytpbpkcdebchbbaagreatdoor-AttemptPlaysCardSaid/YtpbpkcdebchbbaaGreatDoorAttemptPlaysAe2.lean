/- The abstract executor of the program's form in Lean, shown sound: what an abstract heap says of a world; loads, stores, numbers, simple operations. -/
import Derived.Test.YtpbpkcdebchbbaaGreatDoorAttemptPlaysAe1
import Derived.Below
import Derived.Lib.LaidTab
import Derived.Laws.StructEq
namespace Go.Ae
theorem vY {a b:Nat} (h:a≠b):Nat.beq a b=false:=by
 grind[Nat.beq,absurd,Nat.eq_of_beq_eq_true]
theorem vT {a b:Nat} (h:Nat.beq a b=false):a≠b:=λe=>by simp_all
theorem zy {a b:Nat} (h:Nat.beq a b=true):a=b:=Nat.eq_of_beq_eq_true h
theorem PT.iP {α:Type} (i:Nat):(PT.e:PT α).get i=none:=rfl
theorem PT.lZ {α:Type} (l:PT α) (v:Option α) (r:PT α) (i:Nat):(PT.n l v r).get i=bif Nat.beq i 0 then v else bif Nat.beq (i%2) 1 then l.get (i/2)else r.get (i/2-1):=by show Bool.rec (motive:=λ_=>Option α) (Bool.rec (motive:=λ_=>Option α) (r.get (i/2-1)) (l.get (i/2)) (Nat.beq (i%2) 1)) v (Nat.beq i 0)=_;cases Nat.beq i 0<;>cases Nat.beq (i%2) 1<;>rfl
theorem PT.Bn {α:Type} (f i:Nat) (x:α):PT.ic (f+1) .e i x=bif Nat.beq i 0 then .n .e (some x) .e else bif Nat.beq (i%2) 1 then .n (PT.ic f .e (i/2) x) none .e else .n .e none (PT.ic f .e (i/2-1) x):=by show Bool.rec (motive:=λ_=>PT α) (Bool.rec (motive:=λ_=>PT α) (.n .e none (PT.ic f .e (i/2-1) x)) (.n (PT.ic f .e (i/2) x) none .e) (Nat.beq (i%2) 1)) (.n .e (some x) .e) (Nat.beq i 0)=_;cases Nat.beq i 0<;>cases Nat.beq (i%2) 1<;>rfl
theorem PT.Bo {α:Type} (f i:Nat) (x:α) (l:PT α) (v:Option α) (r:PT α):PT.ic (f+1) (.n l v r) i x=bif Nat.beq i 0 then .n l (some x) r else bif Nat.beq (i%2) 1 then .n (PT.ic f l (i/2) x) v r else .n l v (PT.ic f r (i/2-1) x):=by show Bool.rec (motive:=λ_=>PT α) (Bool.rec (motive:=λ_=>PT α) (.n l v (PT.ic f r (i/2-1) x)) (.n (PT.ic f l (i/2) x) v r) (Nat.beq (i%2) 1)) (.n l (some x) r) (Nat.beq i 0)=_;cases Nat.beq i 0<;>cases Nat.beq (i%2) 1<;>rfl
theorem U3 {α:Type} (i:Nat):wm ([]:List α) i=none:=rfl
theorem MF {α:Type} (a:α) (r:List α) (i:Nat):wm (a::r) i=bif Nat.beq i 0 then some a else wm r (i-1):=by show Bool.rec (motive:=λ_=>Option α) (wm r (i-1)) (some a) (Nat.beq i 0)=_;cases Nat.beq i 0<;>rfl
theorem Tq {α:Type} (l:List α):vE 0 l=some []:=rfl
theorem qK5 {α:Type} (n:Nat):vE (n+1) ([]:List α)=none:=rfl
theorem U7 {α:Type} (n:Nat) (a:α) (r:List α):vE (n+1) (a::r)=(vE n r).bind λs=>some (a::s):=by show Option.rec (motive:=λ_=>Option (List α)) none (λs=>some (a::s)) (vE n r)=_;cases vE n r<;>rfl
theorem qg3 {α:Type} (l:List α):vh 0 l=l:=rfl
theorem qVe {α:Type} (n:Nat):vh (n+1) ([]:List α)=[]:=rfl
theorem qZC {α:Type} (n:Nat) (a:α) (r:List α):vh (n+1) (a::r)=vh n r:=rfl
theorem Ts {α:Type} (l:List α):Ve l []=some l:=rfl
theorem qjm {α:Type} (x:α) (xs:List α):Ve [] (x::xs)=none:=rfl
theorem NV {α:Type} (a:α) (l:List α) (x:α) (xs:List α):Ve (a::l) (x::xs)=(Ve l xs).bind λs=>some (x::s):=by show Option.rec (motive:=λ_=>Option (List α)) none (λs=>some (x::s)) (Ve l xs)=_;cases Ve l xs<;>rfl
theorem qZc {α:Type} (n:Nat) (xs:List α):QU [] (n+1) xs=none:=rfl
theorem Ke {α:Type} (a:α) (l:List α) (n:Nat) (xs:List α):QU (a::l) (n+1) xs=(QU l n xs).bind λs=>some (a::s):=by show Option.rec (motive:=λ_=>Option (List α)) none (λs=>some (a::s)) (QU l n xs)=_;cases QU l n xs<;>rfl
theorem qqm (t:aE AV) (i:Nat):ZS t i []=t:=rfl
theorem qG9 (t:aE AV) (i:Nat) (x:AV) (r:List AV):ZS t i (x::r)=ZS (aE.set t i x) (i+1) r:=rfl
theorem vF (z:List AV) (t:aE AV) (i:Nat):Qm z t i=(match aE.get t i with |some v=>some v |none=>wm z (i%z.length)):=by show Option.rec (motive:=λ_=>Option AV) (wm z (i%z.length)) (λv=>some v) (aE.get t i)=_;split<;>simp_all
theorem Tt (z:List AV) (t:aE AV) (i:Nat):JC z t i 0=some []:=rfl
theorem Nc (z:List AV) (t:aE AV) (i n:Nat):JC z t i (n+1)=(Qm z t i).bind λv=>(JC z t (i+1) n).bind λs=>some (v::s):=by
 show Option.rec (motive:=λ_=>Option (List AV)) none (λv=>Option.rec (motive:=λ_=>Option (List AV)) none (λs=>some (v::s)) (JC z t (i+1) n)) (Qm z t i)=_;cases Qm z t i with
 |none=>rfl
 |some v=>cases JC z t (i+1) n<;>rfl
theorem PT.r0 {α:Type}:∀(f:Nat) (t:PT α) (i:Nat) (x:α) (j:Nat),i<f→(PT.ic f t i x).get j=if i=j then some x else t.get j:=by
 intro f
 induction f with
 |zero=>simp
 |succ f ih=>
  intro t i x j h;cases t with
  |e=>
   simp only[PT.Bn];by_cases h0:i=0
   ·subst h0;simp only[Nat.beq_refl,cond_true,PT.lZ,PT.iP];by_cases hj:j=0
    ·simp_all
    simp_all;omega
   ·have Lp:Nat.beq i 0=false:=vY h0;rw[Lp];simp only[cond_false];cases hm:Nat.beq (i%2) 1
    ·have ub:i%2≠1:=vT hm;simp only[cond_false,PT.lZ,PT.iP];by_cases hj:j=0
     ·simp_all
     ·have Bp:Nat.beq j 0=false:=vY hj;rw[Bp];simp only[cond_false];cases iR:Nat.beq (j%2) 1
      ·have nW:j%2≠1:=vT iR;simp only[cond_false];rw[ih _ _ _ _ omQ];simp only[PT.iP];grind
      grind
    ·have ub:i%2=1:=Nat.eq_of_beq_eq_true hm;simp only[cond_true,PT.lZ,PT.iP];by_cases hj:j=0
     ·simp_all
     ·have Bp:Nat.beq j 0=false:=vY hj;rw[Bp];simp only[cond_false];cases iR:Nat.beq (j%2) 1
      ·grind
      ·have nW:j%2=1:=Nat.eq_of_beq_eq_true iR;simp only[cond_true];rw[ih _ _ _ _ omQ];simp only[PT.iP];grind
  |n l v r=>
   simp only[PT.Bo];by_cases h0:i=0
   ·subst h0;simp only[Nat.beq_refl,cond_true,PT.lZ];by_cases hj:j=0
    ·simp_all
    ·rw[iQ (λe=>hj e.symm)];grind[Nat.beq,vY]
   ·have Lp:Nat.beq i 0=false:=vY h0;rw[Lp];simp only[cond_false];cases hm:Nat.beq (i%2) 1
    ·have ub:i%2≠1:=vT hm;simp only[cond_false,PT.lZ];by_cases hj:j=0
     ·simp_all
     ·have Bp:Nat.beq j 0=false:=vY hj;rw[Bp];simp only[cond_false];cases iR:Nat.beq (j%2) 1
      ·have nW:j%2≠1:=vT iR;grind
      grind
    ·have ub:i%2=1:=Nat.eq_of_beq_eq_true hm;simp only[cond_true,PT.lZ];by_cases hj:j=0
     ·simp_all
     ·have Bp:Nat.beq j 0=false:=vY hj;rw[Bp];simp only[cond_false];cases iR:Nat.beq (j%2) 1
      ·grind
      ·have nW:j%2=1:=Nat.eq_of_beq_eq_true iR;grind
theorem PT.bI {α:Type} (t:PT α) (i:Nat) (x:α) (j:Nat):(t.set i x).get j=if i=j then some x else t.get j :=
 PT.r0 (i+1) t i x j (Nat.lt_succ_self i)
@[simp] theorem PT.get_set_same {α:Type} (t:PT α) (i:Nat) (x:α):(t.set i x).get i=some x:=by rw[PT.bI,iJ rfl]
def YN (i m:Nat):Bool:=Nat.beq (Nat.land i m) 0
theorem PT.uc {α:Type} (i j m:Nat) (f:PT α→PT α) (t:PT α):PT.mH j m (PT.sub i m f t)=if YN i m=YN j m then f (PT.mH j m t)else PT.mH j m t:=by
 unfold YN;cases t with
 |e=>
  show PT.mH j m (Bool.rec (motive:=λ_=>PT α) (.n .e none (f .e)) (.n (f .e) none .e) (Nat.beq (Nat.land i m) 0))=_;cases Nat.beq (Nat.land i m) 0
  ·show Bool.rec (motive:=λ_=>PT α) (f .e) .e (Nat.beq (Nat.land j m) 0)=_;cases Nat.beq (Nat.land j m) 0<;>rfl
  ·show Bool.rec (motive:=λ_=>PT α) .e (f .e) (Nat.beq (Nat.land j m) 0)=_;cases Nat.beq (Nat.land j m) 0<;>rfl
 |n l v r=>
  show PT.mH j m (Bool.rec (motive:=λ_=>PT α) (.n l v (f r)) (.n (f l) v r) (Nat.beq (Nat.land i m) 0))=if _ then f (Bool.rec (motive:=λ_=>PT α) r l (Nat.beq (Nat.land j m) 0))else Bool.rec (motive:=λ_=>PT α) r l (Nat.beq (Nat.land j m) 0)
  cases Nat.beq (Nat.land i m) 0
  ·show Bool.rec (motive:=λ_=>PT α) (f r) l (Nat.beq (Nat.land j m) 0)=_;split<;>simp_all
  ·show Bool.rec (motive:=λ_=>PT α) r (f l) (Nat.beq (Nat.land j m) 0)=_;cases Nat.beq (Nat.land j m) 0<;>rfl
theorem PT.pN {α:Type} (x:α) (t:PT α):(PT.mark x t).leaf=some x:=by cases t<;>rfl
noncomputable def C9 {α:Type}:List Nat→PT α→Nat→Option α
 |[],t,_=>t.leaf
 |m::r,t,i=>C9 r (PT.mH i m t) i
noncomputable def Ef {α:Type}:List Nat→Nat→α→PT α→PT α
 |[],_,x=>PT.mark x
 |m::r,i,x=>PT.sub i m (Ef r i x)
theorem qVB {α:Type} (i j:Nat) (x:α):∀(L:List Nat) (t:PT α),C9 L (Ef L i x t) j=if(∀m∈L,YN i m=YN j m)then some x else C9 L t j:=by
 intro L
 induction L with
 |nil=>simp[C9,Ef,PT.pN]
 |cons m L ih=>
  intro t;simp only[C9,Ef,PT.uc];grind
def Ug:List Nat:=[2048,1024,512,256,128,64,32,16,8,4,2,1]
theorem G0 (i k:Nat):YN i (2 ^ k)=!i.testBit k:=by
 unfold YN;cases h:i.testBit k
 ·have:Nat.land i (2 ^ k)=0:=by
   apply Nat.eq_of_testBit_eq;intro n;show(i&&&2 ^ k).testBit n=_;grind
  simp_all
 ·have:Nat.land i (2 ^ k)≠0:=by
   intro e;have:=congrArg (λx=>x.testBit k) e;simp only[Nat.zero_testBit]at this;have h2:(i&&&2 ^ k).testBit k=false:=this;grind
  grind[vY]
theorem M4 (i j:Nat):(∀m∈Ug,YN i m=YN j m)↔i%4096=j%4096:=by
 have hm:Ug=[2 ^ 11,2 ^ 10,2 ^ 9,2 ^ 8,2 ^ 7,2 ^ 6,2 ^ 5,2 ^ 4,2 ^ 3,2 ^ 2,2 ^ 1,2 ^ 0]:=rfl;rw[hm];constructor
 ·intro h;have hb:∀k,k<12→i.testBit k=j.testBit k:=by
   intro k hk;have ud:2 ^ k∈[2 ^ 11,2 ^ 10,2 ^ 9,2 ^ 8,2 ^ 7,2 ^ 6,2 ^ 5,2 ^ 4,2 ^ 3,2 ^ 2,2 ^ 1,2 ^ 0]:=by
    have:k=0∨k=1∨k=2∨k=3∨k=4∨k=5∨k=6∨k=7∨k=8∨k=9∨k=10∨k=11:=by omega
    rcases this with rfl |rfl |rfl |rfl |rfl |rfl |rfl |rfl |rfl |rfl |rfl |rfl<;>simp
   grind[G0]
  apply Nat.eq_of_testBit_eq;intro n;rw[show 4096=2 ^ 12 from rfl,Nat.testBit_mod_two_pow,Nat.testBit_mod_two_pow];grind
 ·intro h m ud;have key:∀k,k<12→YN i (2 ^ k)=YN j (2 ^ k):=by
   intro k hk;rw[G0,G0];have:=congrArg (λx=>x.testBit k) h;simp only[show 4096=2 ^ 12 from rfl,Nat.testBit_mod_two_pow,hk,decide_true,Bool.true_and]at this;grind
  simp only[List.mem_cons,List.not_mem_nil,or_false]at ud;rcases ud with rfl |rfl |rfl |rfl |rfl |rfl |rfl |rfl |rfl |rfl |rfl |rfl<;>exact key _ omQ
theorem PT.mT {α:Type} (t:PT α) (i:Nat):t.lW i=C9 Ug t i:=rfl
theorem PT.r4 {α:Type} (t:PT α) (i:Nat) (x:α):t.oO i x=Ef Ug i x t:=rfl
theorem PT.pO {α:Type} (t:PT α) (i:Nat) (x:α) (j:Nat):(t.oO i x).lW j=if i%4096=j%4096 then some x else t.lW j:=by
 simp[PT.mT,PT.r4,qVB,M4]
theorem aE.get_eq {α:Type} (t:aE α) (i:Nat):t.get i=(PT.get t (i/4096)).bind λs=>s.lW i:=by show Option.rec (motive:=λ_=>Option α) none (λs=>PT.lW s i) (PT.get t (i/4096))=_;cases PT.get t (i/4096)<;>rfl
theorem aE.ft {α:Type} (i:Nat):aE.get (PT.e:aE α) i=none:=rfl
theorem aE.bI {α:Type} (t:aE α) (i:Nat) (x:α) (j:Nat):(t.set i x).get j=if i=j then some x else t.get j:=by
 rw[aE.get_eq,aE.get_eq];show((PT.set t (i/4096) (PT.oO (Option.rec (motive:=λ_=>PT α) .e (λs=>s) (PT.get t (i/4096))) i x)).get (j/4096)).bind _=_;rw[PT.bI];by_cases hd:i/4096=j/4096
 ·rw[iJ hd,Option.bind_some,PT.pO,← hd];by_cases hm:i%4096=j%4096
  ·grind
  ·have:i≠j:=λe=>hm (by rw[e]);rw[iQ hm,iQ this];cases PT.get t (i/4096)<;>rfl
 grind
@[simp] theorem aE.get_set_same {α:Type} (t:aE α) (i:Nat) (x:α):(t.set i x).get i=some x:=by rw[aE.bI,iJ rfl]
theorem JA (p:Nat×cK) (l:List (Nat×cK)) (b:Nat) (d:Option cK):Kr (p::l) b d=if p.1=b then some p.2 else Kr l b d:=by
 show Bool.rec (motive:=λ_=>Option cK) (Kr l b d) (some p.2) (Nat.beq p.1 b)=_;by_cases h:p.1=b
 ·simp_all
 ·rw[iQ h,vY h]
theorem MO:∀(n:Nat) (l:List (Nat×cK)) (b:Nat) (d:Option cK),Kr (M6 n l) b (Kr (vh n l) b d)=Kr l b d:=by
 intro n
 induction n with
 |zero=>intro l b d;rfl
 |succ n ih=>
  intro l b d;cases l with
  |nil=>rfl
  |cons p l=>simp_all[Kr,M6,vh]
theorem My:∀(l:List (Nat×cK)) (t:aE cK) (b:Nat),aE.get (Nw l t) b=Kr l b (aE.get t b):=by
 intro l
 induction l with
 |nil=>intro t b;rfl
 |cons p l ih=>grind[aE.get,aE.set,Nw,aE.bI,JA]
theorem AH.oS (h:AH) (b b':Nat) (x:cK):(h.put b x).get b'=if b=b' then some x else h.get b':=by show Kr ((b,x)::M6 5 h.rc) b' (aE.get (Nw (vh 5 h.rc) h.t) b')=_;rw[JA,My,MO];rfl
theorem AH.oT (h:AH) (b':Nat) (x:cK):(h.new x).get b'=if h.nx=b' then some x else h.get b':=by show Kr ((h.nx,x)::M6 5 h.rc) b' (aE.get (Nw (vh 5 h.rc) h.t) b')=_;rw[JA,My,MO];rfl
@[simp] theorem AH.aN (h:AH) (b:Nat) (x:cK):(h.put b x).get b=some x:=by rw[AH.oS,iJ rfl]
theorem AH.br (h:AH) {b b':Nat} (x:cK) (e:b≠b'):(h.put b x).get b'=h.get b':=by rw[AH.oS,iQ e]
@[simp] theorem AH.bw (h:AH) (x:cK):(h.new x).get h.nx=some x:=by rw[AH.oT,iJ rfl]
theorem AH.bL (h:AH) {b:Nat} (x:cK) (e:h.nx≠b):(h.new x).get b=h.get b:=by rw[AH.oT,iQ e]
@[simp] theorem AH.Bq (h:AH) (b:Nat) (x:cK):(h.put b x).nx=h.nx:=rfl
@[simp] theorem AH.Lq (h:AH) (x:cK):(h.new x).nx=h.nx+1:=rfl
theorem qw8 (a b:IntKind):Lj a b=(a==b):=by cases a<;>cases b<;>rfl
theorem qgo (t w:Bool):Bg t w=(t==w):=by cases t<;>cases w<;>rfl
theorem N9 (b:Bool):Bj b=!b:=by cases b<;>rfl
theorem qv1 (x y:Int):Bh x y=x+y:=by cases x<;>cases y<;>rfl
theorem qv5 (x y:Int):Bi x y=x-y:=by
 cases x with
 |negSucc a=>rfl
 |ofNat a=>
  cases y with
  |negSucc b=>rfl
  |ofNat b=>
   show Bool.rec (motive:=λ_=>Int) (.negSucc (Nat.sub (Nat.sub b a) 1)) (.ofNat (Nat.sub a b)) (Nat.ble b a)=(a:Int)-(b:Int);cases hb:Nat.ble b a
   ·have:¬b≤a:=λh=>by simp_all[iY]
    grind
   simp at*;omega
theorem K6 (x y:Int):Nh x y=oP x y:=by cases x<;>cases y<;>rfl
theorem Tu (x y:Int):DY x y=eV x y:=by cases x<;>cases y<;>rfl
theorem Zf (k:IntKind) (n:Int) (f:Int→R):DZ k n f=f (zC k n):=by
 cases k<;>first |rfl |skip
 ·cases n with
  |negSucc a=>rfl
  |ofNat a=>
   show Bool.rec (motive:=λ_=>R) (f (zC .i64 (.ofNat a))) (f (.ofNat a)) (Nat.ble a 9223372036854775807)=_;cases hb:Nat.ble a 9223372036854775807
   ·rfl
   ·simp only[zC,hb,cond_true]
 ·cases n with
  |negSucc a=>rfl
  |ofNat a=>
   show Bool.rec (motive:=λ_=>R) (f (zC .u64 (.ofNat a))) (f (.ofNat a)) (Nat.ble a 18446744073709551615)=_;cases hb:Nat.ble a 18446744073709551615
   ·rfl
   ·have:=Nat.le_of_ble_eq_true hb;simp only[zC];grind
theorem qxU (op:BinOp) (k:IntKind) (x y:Int) (f:AV→R):Lk op k x y f=ob (QH op k x y) f:=by
 cases op<;>first |rfl |skip
 ·show DZ k (Bh x y) (λn=>f (.int k n))=f (.int k (zC k (x+y)));rw[Zf,qv1]
 ·show DZ k (Bi x y) (λn=>f (.int k n))=f (.int k (zC k (x-y)));rw[Zf,qv5]
 ·show f (.bool (DY x y))=_;rw[Tu];rfl
 ·show f (.bool (Bj (DY x y)))=_;rw[Tu,N9];rfl
 ·show f (.bool (Nh x y))=_;rw[K6];rfl
 ·show f (.bool (Bj (Nh y x)))=_;rw[K6,N9];rfl
 ·show f (.bool (Nh y x))=_;rw[K6];rfl
 ·show f (.bool (Bj (Nh x y)))=_;rw[K6,N9];rfl
theorem Eg {α:Type} (x:Option α) (k:α→R):Option.rec (motive:=λ_=>R) none k x=ob x k:=by cases x<;>rfl
theorem ue (b:Bool) (x y:R):Bool.rec (motive:=λ_=>R) y x b=bif b then x else y:=by cases b<;>rfl
theorem ZA (v:AV) (a b:R):jw v a b=(match v with | .bool t=>(match t with |true=>a |false=>b) |_=>none):=by cases v<;>first |rfl |(rename_i t;cases t<;>rfl)
theorem Um (v:AV) (w:Bool) (a b:R):xe v w a b=(match v with | .bool t=>bif t==w then a else b |_=>b):=by cases v<;>first |rfl |(rename_i t;show Bool.rec (motive:=λ_=>R) b a (Bg t w)=_;rw[qgo,ue])
theorem O6 (c a b:AV) (k:AV→R):zo c a b k=(match c with | .bool t=>(match t with |true=>k a |false=>k b) |_=>none):=by cases c<;>first |rfl |(rename_i t;cases t<;>rfl)
theorem Vg (v:AV) (off:Nat) (k:AV→R):qI v off k=(match v with | .ptr b o=>k (.ptr b (o+off)) |_=>none):=by cases v<;>rfl
theorem KI (v:AV) (off:Nat) (k:AV→R):Xk v off k=(match v with | .agg cs=>ob (wm cs off) k |_=>none):=by cases v<;>first |rfl |exact Eg _ _
theorem UH (v i:AV) (sz:Nat) (k:AV→R):xy v i sz k=(match v,i with | .slice b off len _ _,.int _ (.ofNat a)=>bif Nat.ble (a+1) len then k (.ptr b (off+a*sz))else none |_,_=>none):=by
 cases v<;>first |rfl |skip
 cases i<;>first |rfl |skip
 rename_i n;cases n<;>first |rfl |exact ue _ _ _
theorem gX (h:AH) (v:AV) (k:AV→R):ql h v k=(match v with | .ptr b off=>(match h.get b with |some (.cells c _ _)=>ob (c.fg off) k |some (.cO t)=>ob (aE.get t off) k |_=>none) |_=>none):=by
 cases v<;>first |rfl |skip
 rename_i b off;show Option.rec (motive:=λ_=>R) none _ (h.get b)=(match h.get b with |some (.cells c _ _)=>ob (c.fg off) k |some (.cO t)=>ob (aE.get t off) k |_=>none);cases h.get b with
 |none=>rfl
 |some x=>cases x<;>first |rfl |simp[Eg]
theorem kG (h:AH) (v:AV) (n:Nat) (k:AV→R):q8 h v n k=(match v with | .ptr b off=>ob (vK h b off n) λl=>k (.agg l) |_=>none):=by cases v<;>first |rfl |exact Eg _ _
theorem Kz (h:AH) (a x:AV) (n:Nat) (k:AH→R):qn h a x n k=(match a with | .ptr b off=>bif Nat.beq x.cells.length n then ob (wx h b off x.cells) k else none |_=>none):=by
 cases a<;>first |rfl |skip
 rename_i b off;show Bool.rec (motive:=λ_=>R) none (Option.rec (motive:=λ_=>R) none k (wx h b off x.cells)) (Nat.beq x.cells.length n)=_;rw[ue,Eg]
theorem N5 (op:BinOp) (x y:AV) (k:AV→R):jY op x y k=(match x,y with | .int k1 a,.int k2 b=>bif k1==k2 then ob (QH op k1 a b) k else none |_,_=>none):=by
 cases x<;>first |rfl |skip
 cases y<;>first |rfl |skip
 rename_i k1 a k2 b;show Bool.rec (motive:=λ_=>R) none (Lk op k1 a b k) (Lj k1 k2)=_;rw[ue,qxU,qw8]
theorem XZ (v:AV) (i:Nat) (k:AV→R):zX v i k=(match v with | .bm l=>ob (wm l i) k |_=>none):=by cases v<;>first |rfl |exact Eg _ _
theorem Qb (c:CV) (f:AV) (a:List AV) (h:AH) (k:AV→AH→R):jC c f a h k=(match c f a h with |some q=>k q.1 q.2 |none=>none):=by unfold jC;split<;>simp_all
theorem xr {α:Type} (l:List α) (i:Nat):wm l i=l[i]?:=by
 induction l generalizing i with
 |nil=>rfl
 |cons a r ih=>
  cases i with
  |zero=>rfl
  |succ i=>simp only[MF];rw[show Nat.beq (i+1) 0=false from rfl];grind
theorem kP {α:Type} (n:Nat) (l:List α):vh n l=l.drop n:=by
 induction n generalizing l with
 |zero=>rfl
 |succ n ih=>cases l<;>simp[qVe,qZC,ih]
theorem kj {α:Type} {n:Nat} {l s:List α} (h:vE n l=some s):s=l.take n∧n≤l.length:=by
 induction n generalizing l s with
 |zero=>grind[Tq]
 |succ n ih=>
  cases l with
  |nil=>trivial
  |cons a r=>grind[U7,Option.bind_eq_some_iff]
theorem qVR {α:Type} {n:Nat} {l s:List α} (h:vE n l=some s):s.length=n:=by obtain⟨e,h'⟩:=kj h;grind
theorem qKl {α:Type} {l xs r:List α} (h:Ve l xs=some r):r=xs++l.drop xs.length∧xs.length≤l.length:=by
 induction xs generalizing l r with
 |nil=>grind[Ts]
 |cons x xs ih=>
  cases l with
  |nil=>trivial
  |cons a l=>grind[NV,Option.bind_eq_some_iff]
theorem KP {α:Type} {l:List α} {off:Nat} {xs r:List α} (h:QU l off xs=some r):r=l.take off++xs++l.drop (off+xs.length)∧off+xs.length≤l.length:=by
 induction off generalizing l r with
 |zero=>have h':Ve l xs=some r:=h;grind[qKl]
 |succ n ih=>
  cases l with
  |nil=>trivial
  |cons a l=>grind[Ke,Option.bind_eq_some_iff]
theorem wG {α:Type} {n:Nat} {l:List α} (h:n≤l.length):vE n l=some (l.take n):=by
 induction n generalizing l with
 |zero=>rfl
 |succ n ih=>
  cases l with
  |nil=>grind
  |cons a r=>grind[U7]
theorem qxu {α:Type} {xs l:List α} (h:xs.length≤l.length):Ve l xs=some (xs++l.drop xs.length):=by
 induction xs generalizing l with
 |nil=>rfl
 |cons x xs ih=>
  cases l with
  |nil=>grind
  |cons a r=>grind[NV]
theorem Kg {α:Type} {xs:List α}:∀{off:Nat} {l:List α},off+xs.length≤l.length→QU l off xs=some (l.take off++xs++l.drop (off+xs.length)):=by
 intro off
 induction off with
 |zero=>intro l h;have:QU l 0 xs=Ve l xs:=rfl;simp_all[qxu,omQ]
 |succ n ih=>
  intro l h;cases l with
  |nil=>grind
  |cons a r=>simp at h;simp only[Ke];grind
theorem kD:∀(l:List AV) (i:Nat) (t:aE AV) (j:Nat),aE.get (ZS t i l) j=if i≤j∧j<i+l.length then l[j-i]? else aE.get t j:=by
 intro l
 induction l with
 |nil=>simp[qqm,List.length_nil,iQ,omQ]
 |cons a l ih=>
  intro i t j;simp only[qG9,ih,List.length_cons];by_cases h1:i+1≤j∧j<i+1+l.length
  ·grind
  ·rw[iQ h1,aE.bI];grind
theorem CT.dD (c:CT):c.len=c.toList.length:=by cases c<;>simp[CT.len,CT.toList]
theorem YQ {z:List AV} {t:aE AV} {i:Nat} {v:AV} (h:Qm z t i=some v):wD z t i=v:=by grind[wD]
theorem gI {a b:Nat} (h:Nat.ble a b=true):a≤b:=Nat.le_of_ble_eq_true h
theorem CT.uf {c:CT} {i:Nat} {v:AV} (h:c.fg i=some v):wm c.toList i=some v:=by
 cases c with
 |ff xs=>exact h
 |tree n z t=>
  simp only[CT.fg]at h;cases hb:Nat.ble (i+1) n
  ·grind
  ·rw[hb]at h;have:=gI hb;rw[xr];simp only[CT.toList,List.getElem?_map,List.getElem?_range this,Option.map_some,YQ h]
theorem qqP {z:List AV} {t:aE AV}:∀{n i:Nat} {l:List AV},JC z t i n=some l→l=(List.range' i n).map (wD z t):=by
 intro n
 induction n with
 |zero=>simp[Tt,Option.some.injEq]
 |succ n ih=>intro i l h;simp only[Nc,Option.bind_eq_some_iff]at h;obtain⟨v,hv,s,hs,h⟩:=h;cases h;rw[List.range'_succ,List.map_cons,← ih hs,YQ hv]
theorem CT.mU {c:CT} {off n:Nat} {l:List AV} (h:c.iO off n=some l):vE n (vh off c.toList)=some l:=by
 cases c with
 |ff xs=>exact h
 |tree m z t=>
  simp only[CT.iO]at h;cases hn:Nat.beq n 0
  ·rw[hn]at h;simp only[cond_false]at h;cases hb:Nat.ble (off+n) m
   ·grind
   ·rw[hb]at h;have:=gI hb;rw[kP,wG (by grind[CT.toList]),qqP h];simp only[CT.toList];rw[← List.map_drop,← List.map_take]
    congr 2
    apply List.ext_getElem?;grind
  ·have:=zy hn;subst this;trivial
theorem CT.mV {c c':CT} {off:Nat} {xs:List AV} (h:c.write off xs=some c'):QU c.toList off xs=some c'.toList:=by
 cases c with
 |ff ys=>simp only[CT.write,Option.bind_eq_some_iff]at h;obtain⟨s,hs,h⟩:=h;cases h;exact hs
 |tree n z t=>
  simp only[CT.write]at h;cases hb:Nat.ble (off+xs.length) n
  ·grind
  ·rw[hb]at h;have hle:=gI hb;cases h;rw[Kg (by grind[CT.toList])]
   congr 1
   apply List.ext_getElem?;intro i;simp only[CT.toList];by_cases hi:i<n
   ·rw[List.getElem?_map,List.getElem?_range hi,Option.map_some];by_cases h1:i<off
    ·rw[List.getElem?_append_left (by grind),List.getElem?_append_left (by grind),List.getElem?_take_of_lt h1,List.getElem?_map,List.getElem?_range hi];simp only[Option.map_some,wD,vF,kD];grind
    ·by_cases h2:i<off+xs.length
     ·rw[List.getElem?_append_left (by grind),List.getElem?_append_right (by grind)];have hlen:(List.take off ((List.range n).map (wD z t))).length=off:=by grind
      rw[hlen,iW (show i-off<xs.length by omega)];simp only[wD,vF,kD];grind
     ·rw[List.getElem?_append_right (by grind),List.getElem?_drop];have hlen:(List.take off ((List.range n).map (wD z t))++xs).length=off+xs.length:=by grind
      rw[hlen,show off+xs.length+(i-(off+xs.length))=i by omega,List.getElem?_map,List.getElem?_range hi];simp_all[Option.map_some,wD,vF,kD,iQ]
   grind
theorem CT.aD (xs:List AV):(CT.ofList xs).toList=xs:=by
 unfold CT.ofList;cases Nat.ble xs.length 16
 ·simp only[cond_false,CT.toList];apply List.ext_getElem?;intro i;by_cases hi:i<xs.length
  ·rw[List.getElem?_map,List.getElem?_range hi,iW hi];simp_all[Option.map_some,wD,vF,kD]
  grind
 rfl
theorem qVL (z:List AV):∀(n i:Nat),i<z.length*n→(gA z n)[i]? =z[i%z.length]?:=by
 intro n
 induction n with
 |zero=>simp
 |succ n ih=>
  intro i h;rw[Nat.mul_succ]at h;simp only[gA];by_cases hi:i<z.length
  ·grind[List.getElem?_append_left,Nat.mod_eq_of_lt]
  ·rw[List.getElem?_append_right omQ,ih _ omQ,← Nat.mod_eq_sub_mod omQ]
theorem qV3 (z:List AV):∀n,(gA z n).length=z.length*n:=by
 intro n
 induction n with
 |zero=>rfl
 |succ n ih=>grind[gA,List.length_append,Nat.mul_succ]
theorem CT.nX (z:List AV) (n:Nat):(CT.C3 z n).toList=gA z n:=by
 unfold CT.C3;cases Nat.ble (z.length*n) 16
 ·simp only[cond_false,CT.toList];apply List.ext_getElem?;intro i;by_cases hi:i<z.length*n
  ·rw[List.getElem?_map,List.getElem?_range hi,qVL z n i hi];have hz:0<z.length:=by
    grind
   have hm:=Nat.mod_lt i hz;simp_all[Option.map_some,wD,vF,aE.ft,xr]
  grind[List.getElem?_eq_none,qV3]
 rfl
theorem CT.r5 (c:CT) (xs:List AV):(c.ix xs).toList=c.toList++xs:=by
 cases c with
 |ff ys=>exact CT.aD _
 |tree n z t=>
  simp only[CT.ix,CT.toList];apply List.ext_getElem?;intro i;by_cases hi:i<n
  ·rw[List.getElem?_map,List.getElem?_range omQ,List.getElem?_append_left (by grind),List.getElem?_map,List.getElem?_range hi];simp only[Option.map_some,wD,vF,kD];grind
  ·rw[List.getElem?_append_right (by grind)];by_cases h2:i<n+xs.length
   ·rw[List.getElem?_map,List.getElem?_range h2];have hlen:((List.range n).map (wD z t)).length=n:=by simp
    rw[hlen,iW (show i-n<xs.length by omega)];simp only[Option.map_some,wD,vF,kD];grind
   grind
theorem CT.nY {c c':CT} {n:Nat} (h:c.pre n=some c'):vE n c.toList=some c'.toList:=by
 cases c with
 |ff ys=>simp only[CT.pre,Option.bind_eq_some_iff]at h;obtain⟨s,hs,h⟩:=h;cases h;exact hs
 |tree m z t=>
  simp only[CT.pre]at h;cases hb:Nat.ble n m
  ·grind
  ·rw[hb]at h;have:=gI hb;cases h;rw[wG (by grind[CT.toList])];simp only[CT.toList];rw[← List.map_take,List.take_range,show min n m=n by omega]
theorem CT.Br {c c':CT} {off n:Nat} (h:c.Ib off n=some c'):vE n (vh off c.toList)=some c'.toList:=by
 unfold CT.Ib at h;cases h0:Nat.beq off 0
 ·rw[h0]at h;simp only[cond_false,Option.bind_eq_some_iff]at h;grind[CT.aD,CT.mU]
 ·rw[h0]at h;have:=zy h0;subst this;exact CT.nY h
abbrev Mp:=Nat→Nat×Nat
mutual
def cv (m:Mp):AV→Value
 | .bool b=>.bool b
 | .int k n=>.int k n
 | .str s=>.string ⟨s.toArray⟩
 | .ptr b o=>.pointer (some ⟨(m b).1,o,none⟩)
 | .au=>.pointer none
 | .slice b o l c p=>.slice (some ⟨(m b).1,o,none⟩) l (match p with |true=>(m b).2-c |false=>c)
 | .ad=>.slice none 0 0
 | .fn f a c=>.func (.func f) (aQ m a).toArray (aQ m c).toArray
 | .yield l=>.func (.yield (m l).1) #[] #[]
 | .ei=>.nilFunc
 | .iface t v=>.iface t (cv m v)
 | .cN=>.nilIface
 | .agg l=>.agg (aQ m l).toArray
 | .bm l=>.tuple (aQ m l).toArray
 | .bX a=>.slice (some a) 0 0
 | .tail b o o' i=>.slice (some ⟨(m b).1,if(m b).2=i then o else o',none⟩) 0 ((m b).2-i)
 | .eO b=>.map (some (m b).1)
def aQ (m:Mp):List AV→List Value
 |[]=>[]
 |a::r=>cv m a::aQ m r
end
mutual
def bp (D:Nat→Prop):AV→Prop
 | .bool _=>True
 | .int _ _=>True
 | .str _=>True
 | .ptr b _=>D b
 | .au=>True
 | .slice b _ _ _ _=>D b
 | .ad=>True
 | .fn _ a c=>aT D a∧aT D c
 | .yield l=>D l
 | .ei=>True
 | .iface _ v=>bp D v
 | .cN=>True
 | .agg l=>aT D l
 | .bm l=>aT D l
 | .bX _=>True
 | .tail b _ _ _=>D b
 | .eO b=>D b
def aT (D:Nat→Prop):List AV→Prop
 |[]=>True
 |a::r=>bp D a∧aT D r
end
theorem xW (m:Mp) (l:List AV):aQ m l=l.map (cv m):=by
 induction l with
 |nil=>rfl
 |cons a r ih=>grind[aQ]
@[simp] theorem eH (m:Mp) (l:List AV):(aQ m l).length=l.length:=by simp[xW]
theorem Xp (m:Mp) (l r:List AV):aQ m (l++r)=aQ m l++aQ m r:=by simp[xW]
theorem xh (D:Nat→Prop) (l:List AV):aT D l↔∀v∈l,bp D v:=by
 induction l with
 |nil=>simp[aT]
 |cons a r ih=>grind[aT]
theorem vp {D:Nat→Prop} {l r:List AV}:aT D (l++r)↔aT D l∧aT D r:=by simp only[xh,List.mem_append];grind
theorem JY {D:Nat→Prop} {l:List AV} (n:Nat) (h:aT D l):aT D (l.take n):=by grind[xh,List.mem_of_mem_take]
theorem YW {D:Nat→Prop} {l:List AV} (n:Nat) (h:aT D l):aT D (l.drop n):=by grind[xh,List.mem_of_mem_drop]
mutual
theorem kR {m m':Mp} {D:Nat→Prop} (hm:∀b,D b→m' b=m b):∀v:AV,bp D v→cv m' v=cv m v
 | .bool _,_=>rfl
 | .int _ _,_=>rfl
 | .str _,_=>rfl
 | .ptr b o,h=>by simp only[bp]at h;simp only[cv,hm b h]
 | .au,_=>rfl
 | .slice b o l c p,h=>by simp only[bp]at h;cases p<;>simp only[cv,hm b h]
 | .ad,_=>rfl
 | .fn f a c,h=>by simp only[bp]at h;simp only[cv,w8 hm a h.1,w8 hm c h.2]
 | .yield l,h=>by simp only[bp]at h;simp only[cv,hm l h]
 | .ei,_=>rfl
 | .iface t v,h=>by simp only[bp]at h;simp only[cv,kR hm v h]
 | .cN,_=>rfl
 | .agg l,h=>by simp only[bp]at h;simp only[cv,w8 hm l h]
 | .bm l,h=>by simp only[bp]at h;simp only[cv,w8 hm l h]
 | .bX _,_=>rfl
 | .tail b o o' i,h=>by simp only[bp]at h;simp only[cv,hm b h]
 | .eO b,h=>by simp only[bp]at h;simp only[cv,hm b h]
theorem w8 {m m':Mp} {D:Nat→Prop} (hm:∀b,D b→m' b=m b):∀l:List AV,aT D l→aQ m' l=aQ m l
 |[],_=>rfl
 |a::r,h=>by simp only[aT]at h;simp only[aQ,kR hm a h.1,w8 hm r h.2]
end
mutual
theorem kF {D D':Nat→Prop} (hd:∀b,D b→D' b):∀v:AV,bp D v→bp D' v
 | .bool _,_=>trivial
 | .int _ _,_=>trivial
 | .str _,_=>trivial
 | .ptr b o,h=>hd b h
 | .au,_=>trivial
 | .slice b o l c p,h=>hd b h
 | .ad,_=>trivial
 | .fn f a c,h=>by simp only[bp]at*;exact⟨gt hd a h.1,gt hd c h.2⟩
 | .yield l,h=>hd l h
 | .ei,_=>trivial
 | .iface t v,h=>by simp only[bp]at*;exact kF hd v h
 | .cN,_=>trivial
 | .agg l,h=>by simp only[bp]at*;exact gt hd l h
 | .bm l,h=>by simp only[bp]at*;exact gt hd l h
 | .bX _,_=>trivial
 | .tail b _ _ _,h=>hd b h
 | .eO b,h=>hd b h
theorem gt {D D':Nat→Prop} (hd:∀b,D b→D' b):∀l:List AV,aT D l→aT D' l
 |[],_=>trivial
 |a::r,h=>by simp only[aT]at*;exact⟨kF hd a h.1,gt hd r h.2⟩
end
def wy:AX→Code
 | .normal=>.skip
 | .exit i=>.exit i
 | .goto l=>.goto l
 | .ret=>.ret
def Lr (e:Int×Int×Nat):MapEntry:={ key:=.int .i64 e.1,val:=.int .i64 e.2.1,born:=e.2.2 }
def cW (P:Program) (m:Mp) (x:cK) (b:Nat×Nat) (w:World):Prop :=
 match x with
 | .cells c e o=>∃(rest:List Value) (fr:Nat×Nat),w.heap[b.1]? =some (.cells (aQ m c.toList++rest).toArray e fr)∧(o=false→rest=[])∧
   (∀i,i<c.toList.length+rest.length→¬(fr.1≤i∧i<fr.2))∧(o=true→∀n,aM P e=some n→c.toList.length≤b.2*n∧b.2*n≤c.toList.length+rest.length)
 | .dead=>True
 | .iter s pos=>w.heap[b.1]? =some (.stringIter ⟨s.toArray⟩ pos)
 | .loop st bT f pos L vs d=>∃(f':FuncId) (tmps:Array Value) (ps:Array Tmp) (g:Operand) (assign body:Code) (fn:Func) (bd:Code),
   w.heap[b.1]? =some (.loop { state:=st,pending:=bT.map wy,fn:=f',tmps,params:=ps,assign,body,defers:=(m d).1 })∧
   P.funcs[f]? =some fn∧fn.body=some bd∧xg bd pos=some (.rangeFunc g ps assign body)∧fn.ntmps≤tmps.size∧
   L.length=vs.length∧∀p∈L.zip vs,tmps[p.1]? =some (cv m p.2)
 | .lI=>w.heap[b.1]? =some (.deferred (some []))
 | .pM=>∃o,w.heap[b.1]? =some o
 | .cO t=>∃C e fr,w.heap[b.1]? =some (.cells (List.toArray C) e fr)∧∀i v,aE.get t i=some v→C[i]? =some (cv m v)
 | .mp l c=>w.heap[b.1]? =some (.map (l.map Lr).toArray c)
def cA (D:Nat→Prop):cK→Prop
 | .cells c _ _=>aT D c.toList
 | .loop _ _ _ _ _ vs d=>aT D vs∧D d
 | .cO t=>∀i v,aE.get t i=some v→bp D v
 |_=>True
def cK.live:cK→Prop
 | .dead=>False
 | .cO _=>False
 |_=>True
def live (h:AH) (b:Nat):Prop:=∃x,h.get b=some x∧x.live
def own (m:Mp) (D:Nat→Prop) (h:AH) (c:Nat):Prop:=∃b,D b∧live h b∧(m b).1=c
structure Rel0 (P:Program) (m:Mp) (D:Nat→Prop) (h:AH) (w:World):Prop where
  bf:∀b,D b→∃x,h.get b=some x∧cW P m x (m b) w∧cA D x
  inj:∀b b',D b→D b'→live h b→live h b'→(m b).1=(m b').1→b=b'
  lt:∀b,D b→b<h.nx
  cO:∀b t,D b→h.get b=some (.cO t)→¬own m D h (m b).1
def Gl (P:Program) (w:World):Prop:=∀p∈gtab,∃g,P.globalNamed p.1=some g∧Lib.TabIs P w p.1 p.2.1 p.2.2
def An (P:Program) (m:Mp) (D:Nat→Prop) (h:AH) (w:World):Prop:=∀p∈gtab,∃g,P.globalNamed p.1=some g∧Lib.TabIs P w p.1 p.2.1 p.2.2∧¬own m D h g
structure Rel (P:Program) (m:Mp) (D:Nat→Prop) (h:AH) (w:World):Prop extends Rel0 P m D h w where
  gl:An P m D h w
theorem An.gl {P:Program} {m:Mp} {D:Nat→Prop} {h:AH} {w:World} (r:An P m D h w):Gl P w:=λp hp=>let ⟨g,h1,h2,_⟩:=r p hp;⟨g,h1,h2⟩
theorem YT {P:Program} {w w':World} {name:String} {k:IntKind} {zs:List Int} {g:Nat} (hg:P.globalNamed name=some g) (h:Lib.TabIs P w name k zs):g<w.heap.size∧(w'.heap[g]? =w.heap[g]? →Lib.TabIs P w' name k zs):=by
 unfold Lib.TabIs World.var? at*;grind
structure Ext (m:Mp) (D:Nat→Prop) (h:AH) (w:World) (m':Mp) (D':Nat→Prop) (h':AH) (w':World):Prop where
  r6:∀b,D b→D' b
  map:∀b,D b→m' b=m b
  size:w.heap.size≤w'.heap.size
  keep:∀c,c<w.heap.size→¬own m D h c→w'.heap[c]? =w.heap[c]? ∧¬own m' D' h' c
  nx:h.nx≤h'.nx
  un:∀b,b<h.nx→¬D b→h'.get b=h.get b∧¬D' b
  os:w'.os=w.os
  tape:w'.tape=w.tape
  output:w'.output=w.output
  dm:∀b,D' b↔D b∨(h.nx≤b∧b<h'.nx)
  ni:∀b t,D' b→h'.get b=some (.cO t)→D b∧h.get b=some (.cO t)
theorem An.ext {P:Program} {m m':Mp} {D D':Nat→Prop} {h h':AH} {w w':World} (X:Ext m D h w m' D' h' w') (r:An P m D h w):An P m' D' h' w':=λp hp=>by
 obtain⟨g,h1,h2,h3⟩:=r p hp;obtain⟨k1,k2⟩:=YT (w':=w') h1 h2;obtain⟨e1,e2⟩:=X.keep g k1 h3;grind
theorem Ext.rel {P:Program} {m m':Mp} {D D':Nat→Prop} {h h':AH} {w w':World} (r:Rel P m D h w) (x:Ext m D h w m' D' h' w'∧Rel0 P m' D' h' w'):Ext m D h w m' D' h' w'∧Rel P m' D' h' w':=⟨x.1,{ toRel0:=x.2,gl:=r.gl.ext x.1 }⟩
theorem Ext.refl (m:Mp) (D:Nat→Prop) (h:AH) (w:World):Ext m D h w m D h w :=
 ⟨λ_ x=>x,λ_ _=>rfl,Nat.le_refl _,λ_ _ n=>⟨rfl,n⟩,Nat.le_refl _,λ_ _ n=>⟨rfl,n⟩,rfl,rfl,rfl,λ_=>⟨.inl,λx=>x.elim id λy=>by omega⟩,λ_ _ x y=>⟨x,y⟩⟩
theorem Ext.trans {m m' Tv:Mp} {D D' Tw:Nat→Prop} {h h' nN:AH} {w w' Tx:World} (a:Ext m D h w m' D' h' w') (b:Ext m' D' h' w' Tv Tw nN Tx):Ext m D h w Tv Tw nN Tx where
 r6:=λx hx=>b.r6 x (a.r6 x hx)
 map:=λx hx=>(b.map x (a.r6 x hx)).trans (a.map x hx)
 size:=Nat.le_trans a.size b.size
 keep:=λc hc hn=>by
  obtain⟨e1,n1⟩:=a.keep c hc hn;obtain⟨e2,n2⟩:=b.keep c (Nat.lt_of_lt_of_le hc a.size) n1;grind
 nx:=Nat.le_trans a.nx b.nx
 un:=λx hx hn=>by
  obtain⟨e1,n1⟩:=a.un x hx hn;obtain⟨e2,n2⟩:=b.un x (Nat.lt_of_lt_of_le hx a.nx) n1;grind
 os:=b.os.trans a.os
 tape:=b.tape.trans a.tape
 output:=b.output.trans a.output
 dm:=λx=>by
  have h1:=a.nx;have h2:=b.nx;rw[b.dm,a.dm];grind
 ni:=λx t hx hg=>by
  obtain⟨h1,h2⟩:=b.ni x t hx hg;exact a.ni x t h1 h2
theorem Ext.cv {m m':Mp} {D D':Nat→Prop} {h h':AH} {w w':World} (e:Ext m D h w m' D' h' w') {v:AV} (hv:bp D v):Ae.cv m' v=Ae.cv m v:=kR e.map v hv
theorem Ext.aQ {m m':Mp} {D D':Nat→Prop} {h h':AH} {w w':World} (e:Ext m D h w m' D' h' w') {l:List AV} (hv:aT D l):Ae.aQ m' l=Ae.aQ m l:=w8 e.map l hv
theorem Ext.bp {m m':Mp} {D D':Nat→Prop} {h h':AH} {w w':World} (e:Ext m D h w m' D' h' w') {v:AV} (hv:Ae.bp D v):Ae.bp D' v:=kF e.r6 v hv
theorem Ext.aT {m m':Mp} {D D':Nat→Prop} {h h':AH} {w w':World} (e:Ext m D h w m' D' h' w') {l:List AV} (hv:Ae.aT D l):Ae.aT D' l:=gt e.r6 l hv
theorem cW.congr {P:Program} {m m':Mp} {D:Nat→Prop} (hm:∀b,D b→m' b=m b) {x:cK} {b:Nat×Nat} {w w':World} (hx:cA D x) (hw:w'.heap[b.1]? =w.heap[b.1]?) (h:cW P m x b w):cW P m' x b w':=by
 cases x with
 |cells c e o=>grind[cA,cW,w8]
 |dead=>trivial
 |iter s pos=>grind[cW]
 |loop st bT f pos L vs d=>
  simp only[cA]at hx;simp only[cW]at*;obtain⟨f',tmps,ps,g,assign,body,fn,bd,h1,h2,h3,h4,h5,h6,h7⟩:=h;refine⟨f',tmps,ps,g,assign,body,fn,bd,?_,h2,h3,h4,h5,h6,?_⟩
  ·grind
  ·intro p hp;rw[kR hm p.2 ((xh D vs).1 hx.1 _ (List.of_mem_zip hp).2)];grind
 |lI=>grind[cW]
 |pM=>grind[cW]
 |cO t=>grind[cA,cW,kR]
 |mp l c=>grind[cW]
theorem cA.mono {D D':Nat→Prop} (hd:∀b,D b→D' b) {x:cK} (h:cA D x):cA D' x:=by
 cases x<;>simp only[cA]at* <;>first |exact gt hd _ h |exact⟨gt hd _ h.1,hd _ h.2⟩ |grind[kF] |trivial
theorem cW.inside {P:Program} {m:Mp} {x:cK} {b:Nat×Nat} {w:World} (hl:x.live) (h:cW P m x b w):b.1<w.heap.size:=by
 have key:∀o,w.heap[b.1]? =some o→b.1<w.heap.size:=λo e=>(Array.getElem?_eq_some_iff.1 e).1;cases x with
 |cells c e o=>obtain⟨r,fr,h,_⟩:=h;grind
 |dead=>trivial
 |iter s pos=>exact key _ h
 |loop st bT f pos L vs d=>obtain⟨f',tmps,ps,g,assign,body,fn,bd,h1,_⟩:=h;grind
 |lI=>exact key _ h
 |pM=>obtain⟨o,h⟩:=h;grind
 |cO t=>trivial
 |mp l c=>exact key _ h
theorem cW.iy {P:Program} {m:Mp} {t:aE AV} {b:Nat×Nat} {w:World} (h:cW P m (.cO t) b w):b.1<w.heap.size:=by obtain⟨C,e,fr,h,_⟩:=h;grind
theorem Rel.inside {P:Program} {m:Mp} {D:Nat→Prop} {h:AH} {w:World} (r:Rel P m D h w) {b:Nat} (hb:D b) (hl:live h b):(m b).1<w.heap.size:=by obtain⟨x,hx,hr,_⟩:=r.bf b hb;obtain⟨y,hy,hS⟩:=hl;rw[hx]at hy;cases hy;exact hr.inside hS
theorem Rel.new {P:Program} {m:Mp} {D:Nat→Prop} {h:AH} {w w0:World} (r:Rel P m D h w) (x:cK) (o:Obj) (room:Nat)
  (Ao:w0.heap=w.heap.push o) (ug:w0.os=w.os) (iS:w0.tape=w.tape) (fw:w0.output=w.output)
  (hx:cA D x) (mW:cW P m x (w.heap.size,room) w0) (iz:∀t,x≠.cO t:=by intro t hh;cases hh) :
  let m':Mp:=λb=>if b=h.nx then(w.heap.size,room)else m b
  let D':Nat→Prop:=λb=>b=h.nx∨D b
  Ext m D h w m' D' (h.new x) w0∧Rel P m' D' (h.new x) w0:=by
 intro m' D';refine Ext.rel r ?_;have hm:∀b,D b→m' b=m b:=λb hb=>by
  have:=r.lt b hb;grind
 have hold:∀c,c<w.heap.size→w0.heap[c]? =w.heap[c]?:=λc hc=>by
  grind
 have cP:∀b,D b→(h.new x).get b=h.get b:=λb hb=>AH.bL h x (by have:=r.lt b hb;omega);have bO:∀b,D b→(live (h.new x) b↔live h b):=λb hb=>by grind[live]
 refine⟨⟨λb hb=>.inr hb,hm,?_,?_,Nat.le_succ _,?_,ug,iS,fw,λb=>?_,?_⟩,⟨?_,?_,?_,?_⟩⟩
 ·grind
 ·intro c hc hn;refine⟨hold c hc,?_⟩;rintro⟨b,hb,hl,he⟩;rcases hb with rfl |hb
  ·grind
  ·exact hn ⟨b,hb,(bO b hb).1 hl,by grind⟩
 ·intro b hb hn;refine⟨AH.bL h x omQ,?_⟩;grind
 ·show b=h.nx∨D b↔D b∨(h.nx≤b∧b<h.nx+1);grind
 ·intro b t hb hg;rcases hb with rfl |hb
  all_goals simp_all
 ·intro b hb;rcases hb with rfl |hb
  ·refine⟨x,AH.bw h x,?_,hx.mono λb hb=>.inr hb⟩;have e:m' h.nx=(w.heap.size,room):=by grind
   rw[e];exact mW.congr hm hx rfl
  ·obtain⟨y,hy,fQ,fR⟩:=r.bf b hb;refine⟨y,(cP b hb).trans hy,?_,fR.mono λb hb=>.inr hb⟩;rw[hm b hb];cases y with
   |dead=>trivial
   |cO t=>exact fQ.congr hm fR (hold _ fQ.iy)
   |_=>exact fQ.congr hm fR (hold _ (cW.inside (by trivial) fQ))
 ·intro b b' hb bF hl dN he;rcases hb with rfl |hb<;>rcases bF with rfl |bF
  ·rfl
  ·have h1:=r.inside bF ((bO b' bF).1 dN);grind
  ·have h1:=r.inside hb ((bO b hb).1 hl);grind
  ·rw[hm b hb,hm b' bF]at he;exact r.inj b b' hb bF ((bO b hb).1 hl) ((bO b' bF).1 dN) he
 ·intro b hb;rcases hb with rfl |hb
  ·simp
  ·have:=r.lt b hb;simp;omega
 ·rintro b t hb hg ⟨b',bF,dN,he⟩;have bG:b≠b':=by
   rintro rfl;obtain⟨y,hy,hS⟩:=dN;rw[hg]at hy;cases hy;exact hS
  rcases hb with rfl |hb
  ·simp_all
  ·rw[cP b hb]at hg;rcases bF with rfl |bF
   ·obtain⟨y,hy,fQ,_⟩:=r.bf b hb;rw[hg]at hy;cases hy;have:=fQ.iy;grind
   ·refine r.cO b t hb hg ⟨b',bF,(bO b' bF).1 dN,?_⟩;grind
theorem Rel.put {P:Program} {m:Mp} {D:Nat→Prop} {h:AH} {w w0:World} (r:Rel P m D h w) (b:Nat) (x:cK) (hb:D b) (oU:live h b)
  (Eh:w0.heap.size=w.heap.size) (fh:∀c,c≠(m b).1→w0.heap[c]? =w.heap[c]?) (ug:w0.os=w.os) (iS:w0.tape=w.tape) (fw:w0.output=w.output)
  (hx:cA D x) (mW:cW P m x (m b) w0) (iz:∀t,x≠.cO t:=by intro t hh;cases hh) :
  Ext m D h w m D (h.put b x) w0∧Rel P m D (h.put b x) w0:=by
 refine Ext.rel r ?_;have cP:∀b',b'≠b→(h.put b x).get b'=h.get b':=λb' hn=>AH.br h x (λe=>hn e.symm);have bO:∀b',live (h.put b x) b'→live h b':=λb' hl=>by
  grind[live]
 refine⟨⟨λ_ h=>h,λ_ _=>rfl,by omega,?_,Nat.le_refl _,?_,ug,iS,fw,λb=>⟨.inl,λhb=>hb.elim id λhb=>by simp at*;omega⟩,?_⟩,⟨?_,?_,?_,?_⟩⟩
 ·intro c hc hn;refine⟨fh c λe=>hn ⟨b,hb,oU,e.symm⟩,?_⟩;rintro⟨b',bF,dN,he⟩;exact hn ⟨b',bF,bO b' dN,he⟩
 ·grind
 ·intro b' t bF hg;by_cases e:b'=b
  all_goals simp_all
 ·intro b' bF;by_cases e:b'=b
  ·simp_all
  ·obtain⟨y,hy,fQ,fR⟩:=r.bf b' bF;refine⟨y,(cP b' e).trans hy,?_,fR⟩;cases y with
   |dead=>trivial
   |cO t=>exact fQ.congr (λ_ _=>rfl) fR (fh _ λee=>r.cO b' t bF hy ⟨b,hb,oU,ee.symm⟩)
   |_=>refine fQ.congr (λ_ _=>rfl) fR (fh _ λee=>e ?_);exact r.inj b' b bF hb ⟨_,hy,trivial⟩ oU ee
 ·intro b1 b2 h1 h2 l1 l2 he;exact r.inj b1 b2 h1 h2 (bO b1 l1) (bO b2 l2) he
 ·intro b' bF;exact r.lt b' bF
 ·rintro b' t bF hg ⟨b2,eI,l6,he⟩;by_cases e:b'=b
  ·simp_all
  ·rw[cP b' e]at hg;exact r.cO b' t bF hg ⟨b2,eI,bO b2 l6,he⟩
end Go.Ae
namespace Go.Ae
open Go
def Da:Value→Bool
 | .agg _=>false
 | .tuple _=>false
 |_=>true
theorem KZ {α β:Type} (P:Program) (e:Sem α) (f:α→Sem β) (w:World) :
  (Sem.bind e f).run P w=match e.run P w with | .ok a w'=>(f a).run P w' | .halt h w'=>.halt h w':=by
 induction e generalizing w with
 |pure a=>rfl
 |load m a k ih=>grind[Sem.bind,Sem.run]
 |store m a v k ih=>
  cases v<;>simp only[Sem.bind,Sem.run]<;>(repeat' split)<;>first |exact ih _ |rfl |simp_all
 |new o k ih=>exact ih _ _
 |shape r k ih=>exact ih _ _
 |freeze a n k ih=>exact ih _
 |frozen a k ih=>exact ih _ _
 |getObj r k ih=>grind[Sem.bind,Sem.run]
 |setObj r o k ih=>grind[Sem.bind,Sem.run]
 |choose q k ih=>grind[Sem.bind,Sem.run]
 |sys c k ih=>exact ih _ _
 |program k ih=>exact ih _ _
 |mark m k ih=>exact ih _
 |halt h=>rfl
theorem qq {α β:Type} {P:Program} {e:Sem α} {f:α→Sem β} {w w':World} {a:α} (h:e.run P w=.ok a w'):(e>>=f).run P w=(f a).run P w':=by simp_all
theorem gF {α:Type} (P:Program) (a:α) (w:World):(pure a:Sem α).run P w=.ok a w:=rfl
theorem Ty {w:World} {b:Nat} {C:List Value} {e:TypeId} {fr:Nat×Nat} (h:w.heap[b]? =some (.cells C.toArray e fr)) (o:Nat):w.cell? ⟨b,o,none⟩=C[o]?:=by simp[World.cell?,h]
theorem w9 (b o n:Nat):Addr.add ⟨b,o,none⟩ n=⟨b,o+n,none⟩:=by
 simp[Addr.add]
theorem Vj {P:Program} {w:World} {b:Nat} {C:List Value} {e:TypeId} {fr:Nat×Nat} (h:w.heap[b]? =some (.cells C.toArray e fr)) {o:Nat} {v:Value} (hv:C[o]? =some v) :
  (load ⟨b,o,none⟩).run P w=.ok v w:=by
 grind[load,Sem.run,Ty]
theorem Gk {P:Program} {w:World} {b:Nat} {C:List Value} {e:TypeId} {fr:Nat×Nat} (h:w.heap[b]? =some (.cells C.toArray e fr)) (o:Nat) :
  ∀(n i:Nat) (acc:Array Value),o+i+n≤C.length→(loadCellsFrom ⟨b,o,none⟩ i n acc).run P w=.ok (acc++((C.drop (o+i)).take n).toArray) w:=by
 intro n
 induction n with
 |zero=>simp[loadCellsFrom]
 |succ n ih=>
  intro i acc hl;unfold loadCellsFrom;have hg:C[o+i]? =some (C[o+i]'omQ):=iW omQ;rw[w9,qq (Vj h hg),ih _ _ omQ]
  congr 1
  grind
theorem Yy {P:Program} {w:World} {b:Nat} {C:List Value} {e:TypeId} {fr:Nat×Nat} (h:w.heap[b]? =some (.cells C.toArray e fr)) (o n:Nat) (hl:o+n≤C.length) :
  (loadCells ⟨b,o,none⟩ n).run P w=.ok ((C.drop o).take n).toArray w:=by
 unfold loadCells;rw[Gk h o n 0 #[] (by grind)];simp
theorem qV4 {P:Program} {w:World} {b:Nat} {C:List Value} {e:TypeId} {fr:Nat×Nat} (h:w.heap[b]? =some (.cells C.toArray e fr)) {o:Nat} (ho:o<C.length) {v:Value} (hv:Da v=true)
  (hf:¬(fr.1≤o∧o<fr.2)):(store ⟨b,o,none⟩ v).run P w=.ok () (w.setCell ⟨b,o,none⟩ v):=by
 have hc:w.cell? ⟨b,o,none⟩=some (C[o]'ho):=by rw[Ty h,iW ho]
 have hz:w.frozen? ⟨b,o,none⟩=false:=by grind[World.frozen?,Bool.and_eq_false_iff,decide_eq_false_iff_not]
 cases v<;>simp[Da]at hv<;>simp[store,Sem.run,hc,hz]
theorem Nr {w:World} {b:Nat} {C:List Value} {e:TypeId} {fr:Nat×Nat} (h:w.heap[b]? =some (.cells C.toArray e fr)) (o:Nat) (v:Value) :
  (w.setCell ⟨b,o,none⟩ v).heap[b]? =some (.cells (C.set o v).toArray e fr):=by
 simp[World.setCell,Array.getElem?_modify,h]
theorem V7 {w:World} {b c:Nat} (o:Nat) (v:Value) (hc:c≠b):(w.setCell ⟨b,o,none⟩ v).heap[c]? =w.heap[c]?:=by simp[World.setCell,Array.getElem?_modify];omega
@[simp] theorem mh (w:World) (a:Addr) (v:Value):(w.setCell a v).heap.size=w.heap.size:=by simp
structure qy3 (w w':World) (b:Nat) (o:Obj):Prop where
  size:w'.heap.size=w.heap.size
  at_:w'.heap[b]? =some o
  other:∀c,c≠b→w'.heap[c]? =w.heap[c]?
  os:w'.os=w.os
  tape:w'.tape=w.tape
  output:w'.output=w.output
theorem Xz {P:Program} {b:Nat} {e:TypeId} {fr:Nat×Nat} (o:Nat):∀(vs:List Value) (i:Nat) (w:World) (C:List Value),w.heap[b]? =some (.cells C.toArray e fr)→
  o+i+vs.length≤C.length→(∀v∈vs,Da v=true)→(∀k,k<C.length→¬(fr.1≤k∧k<fr.2))→
  ∃w',(storeCells ⟨b,o,none⟩ vs i).run P w=.ok () w'∧qy3 w w' b (.cells (C.take (o+i)++vs++C.drop (o+i+vs.length)).toArray e fr):=by
 intro vs
 induction vs with
 |nil=>intro i w C h hl _ _;exact⟨w,by rfl,⟨rfl,by simp[h],λ_ _=>rfl,rfl,rfl,rfl⟩⟩
 |cons v vs ih=>
  intro i w C h hl ho hf;simp only[List.length_cons]at hl;have h1:=qV4 (P:=P) h (o:=o+i) omQ (ho v (iK ..)) (hf _ omQ);obtain⟨w',hr,ht⟩:=ih (i+1) (w.setCell ⟨b,o+i,none⟩ v) (C.set (o+i) v) (Nr h _ _) (by grind) (λx hx=>ho x (iX _ hx)) (by grind);refine⟨w',?_,?_⟩
  ·grind[storeCells,w9,qq]
  ·refine⟨by rw[ht.size,mh],?_,λc hc=>(ht.other c hc).trans (V7 _ _ hc),ht.os,ht.tape,ht.output⟩;rw[ht.at_]
   congr 3
   have e1:(C.set (o+i) v).take (o+(i+1))=C.take (o+i)++[v]:=by grind[List.take_succ_eq_append_getElem,List.take_set_of_le]
   have e2:(C.set (o+i) v).drop (o+(i+1)+vs.length)=C.drop (o+i+(v::vs).length):=by
    rw[List.drop_set_of_lt omQ]
    simp;omega
   grind
end Go.Ae
namespace Go.Ae
open Go
variable {P:Program} {m:Mp} {D:Nat→Prop} {h:AH} {w:World}
theorem qx1 (m:Mp) (v:AV) (hv:v.one=true):Da (cv m v)=true:=by
 cases v<;>first |rfl |trivial
theorem ZG {l:List AV} (m:Mp) (hl:jV l=true):∀v∈aQ m l,Da v=true:=by intro v hv;rw[xW,List.mem_map]at hv;obtain⟨a,ha,rfl⟩:=hv;grind[jV,List.all_eq_true,qx1]
theorem wW (m:Mp) (v:AV):(cv m v).cells=(aQ m v.cells).toArray:=by
 cases v<;>simp[cv,AV.cells,Value.cells,aQ]
theorem kY {v:AV} (hv:bp D v):aT D v.cells:=by
 cases v<;>simp only[AV.cells,aT,bp]at* <;>first |exact⟨hv,trivial⟩ |grind |trivial |exact⟨trivial,trivial⟩
theorem Rel.cells (r:Rel P m D h w) {b:Nat} (hb:D b) {c:CT} {e:TypeId} {o:Bool} (hg:h.get b=some (.cells c e o)) :
  ∃(rest:List Value) (fr:Nat×Nat),w.heap[(m b).1]? =some (.cells (aQ m c.toList++rest).toArray e fr)∧(o=false→rest=[])∧
   (∀i,i<c.toList.length+rest.length→¬(fr.1≤i∧i<fr.2))∧(o=true→∀n,aM P e=some n→c.toList.length≤(m b).2*n∧(m b).2*n≤c.toList.length+rest.length)∧aT D c.toList:=by
 obtain⟨x,hx,hr,hd⟩:=r.bf b hb;rw[hg]at hx;cases hx;obtain⟨rest,fr,h1,h2,h3,h4⟩:=hr;exact⟨rest,fr,h1,h2,h3,h4,hd⟩
theorem Tz {b:Nat} {x:cK} (hg:h.get b=some x) (hl:x.live):live h b:=⟨x,hg,hl⟩
theorem Rel.r7 (r:Rel P m D h w) {b off n:Nat} {c:CT} {t:TypeId} {o:Bool} {l:List AV} (hb:D b) (hg:h.get b=some (.cells c t o)) (e:vE n (vh off c.toList)=some l) :
  (loadCells ⟨(m b).1,off,none⟩ n).run P w=.ok (aQ m l).toArray w∧aT D l∧l.length=n:=by
 obtain⟨rest,fr,h1,_,_,_,hd⟩:=r.cells hb hg;rw[kP]at e;obtain⟨e1,e2⟩:=kj e;refine⟨?_,?_,qVR e⟩
 ·by_cases hz:n=0
  ·simp_all[aQ,loadCells,loadCellsFrom]
  ·simp only[List.length_drop]at e2;rw[Yy h1 off n (by simp;omega)];subst e1;rw[xW,xW,List.drop_append_of_le_length (by grind),List.take_append_of_le_length (by grind)];simp
 grind[JY,YW]
theorem qWC {t:aE AV}:∀{n i:Nat} {l:List AV},JC [] t i n=some l→l.length=n∧∀k,k<n→∃v,aE.get t (i+k)=some v∧l[k]? =some v:=by
 intro n
 induction n with
 |zero=>intro i l e;rw[Tt]at e;grind
 |succ n ih=>
  intro i l e;rw[Nc]at e;simp only[Option.bind_eq_some_iff]at e;obtain⟨v,hv,s,hs,e⟩:=e;cases e;obtain⟨h1,h2⟩:=ih hs;have hv':aE.get t i=some v:=by
   grind[vF,U3]
  grind
theorem Rel.Ei (r:Rel P m D h w) {b:Nat} {t:aE AV} (hb:D b) (hg:h.get b=some (.cO t)) :
  ∃C e fr,w.heap[(m b).1]? =some (.cells (List.toArray C) e fr)∧∀i v,aE.get t i=some v→C[i]? =some (cv m v)∧bp D v:=by
 obtain⟨x,hx,hr,hd⟩:=r.bf b hb;rw[hg]at hx;cases hx;obtain⟨C,e,fr,h1,h2⟩:=hr;exact⟨C,e,fr,h1,λi v hv=>⟨h2 i v hv,hd i v hv⟩⟩
theorem Rel.Ej (r:Rel P m D h w) {b off n:Nat} {t:aE AV} {l:List AV} (hb:D b) (hg:h.get b=some (.cO t)) (e:JC [] t off n=some l) :
  (loadCells ⟨(m b).1,off,none⟩ n).run P w=.ok (aQ m l).toArray w∧aT D l∧l.length=n:=by
 obtain⟨C,el,fr,h1,h2⟩:=r.Ei hb hg;obtain⟨e1,e2⟩:=qWC e;have key:∀k,k<n→∃v,l[k]? =some v∧C[off+k]? =some (cv m v)∧bp D v:=λk hk=>by
  grind
 refine⟨?_,?_,e1⟩
 ·by_cases hz:n=0
  ·simp_all[iA,aQ,loadCells,loadCellsFrom]
  ·have hlen:off+n≤C.length:=by
    obtain⟨v,_,hc,_⟩:=key (n-1) omQ;grind
   rw[Yy h1 off n hlen]
   congr 2
   apply List.ext_getElem?;intro k;rw[xW,List.getElem?_map];grind
 ·rw[xh];intro v hv;obtain⟨k,hk,rfl⟩:=List.mem_iff_getElem.1 hv;grind
theorem Rel.r8 (r:Rel P m D h w) {b off:Nat} {t:aE AV} {v:AV} (hb:D b) (hg:h.get b=some (.cO t)) (e:aE.get t off=some v) :
  (load ⟨(m b).1,off,none⟩).run P w=.ok (cv m v) w∧bp D v:=by
 obtain⟨C,el,fr,h1,h2⟩:=r.Ei hb hg;grind[Vj]
theorem Rel.read (r:Rel P m D h w) {b off n:Nat} {l:List AV} (hb:D b) (e:vK h b off n=some l) :
  (loadCells ⟨(m b).1,off,none⟩ n).run P w=.ok (aQ m l).toArray w∧aT D l∧l.length=n:=by
 unfold vK at e
 split at e
 ·rename_i c t o hg;exact r.r7 hb hg (CT.mU e)
 ·rename_i t hg;exact r.Ej hb hg e
 grind
theorem Rel.Ap (r:Rel P m D h w) {b off:Nat} {c:CT} {t:TypeId} {o:Bool} {v:AV} (hb:D b) (hg:h.get b=some (.cells c t o)) (e:c.fg off=some v) :
  (load ⟨(m b).1,off,none⟩).run P w=.ok (cv m v) w∧bp D v:=by
 obtain⟨rest,fr,h1,_,_,_,hd⟩:=r.cells hb hg
 replace e:=CT.uf e
 rw[xr]at e;have ae:off<c.toList.length:=(List.getElem?_eq_some_iff.1 e).1;grind[Vj,xh,List.mem_of_getElem?,List.getElem?_append_left,xW]
theorem Rel.write (r:Rel P m D h w) {b off:Nat} {xs:List AV} {h':AH} (hb:D b) (Lt:aT D xs) (e:wx h b off xs=some h') :
  ∃w',(storeCells ⟨(m b).1,off,none⟩ (aQ m xs)).run P w=.ok () w'∧Ext m D h w m D h' w'∧Rel P m D h' w':=by
 unfold wx at e
 split at e
 ·rename_i c t o hg;cases pP:jV xs
  ·grind
  ·rw[pP]at e;simp only[cond_true,Option.bind_eq_some_iff]at e;obtain⟨c',mi,he⟩:=e;cases he;obtain⟨e1,e2⟩:=KP (CT.mV mi);obtain⟨rest,fr,h1,h2,h3,h4,hd⟩:=r.cells hb hg;obtain⟨w',hr,ht⟩:=Xz (P:=P) off (aQ m xs) 0 w _ h1 (by simp;omega) (ZG m pP) (by simp_all);refine⟨w',hr,?_⟩;have hlen:c'.toList.length=c.toList.length:=by grind
   refine r.put b _ hb (Tz hg trivial) ht.size ht.other ht.os ht.tape ht.output ?_ ?_
   ·grind[cA,vp,JY,YW]
   ·refine⟨rest,fr,?_,h2,by grind,by grind⟩;rw[ht.at_,e1]
    congr 3
    simp only[xW,List.length_map,Nat.add_zero,List.map_append,List.map_take,List.map_drop];grind
 grind
theorem NC {v:Value} {a:AV} (e:KV v=some a):cv m a=v∧bp D a:=by
 unfold KV at e
 split at e<;>first |(cases e;exact⟨rfl,trivial⟩) |grind
theorem UL {l:List Value} {s:List AV} (e:ww KV l=some s):aQ m s=l∧aT D s:=by
 induction l generalizing s with
 |nil=>simp[ww]at e;subst e;trivial
 |cons a r ih=>simp only[ww,Option.bind_eq_some_iff]at e;obtain⟨b,hb,t,ht,hs⟩:=e;cases hs;obtain⟨h1,h2⟩:=NC (m:=m) (D:=D) hb;obtain⟨h3,h4⟩:=ih ht;exact⟨by grind[aQ],h2,h4⟩
theorem JV {v:Value} {a:AV} (e:Vv v=some a):cv m a=v∧bp D a:=by
 unfold Vv at e
 split at e
 ·rename_i cs;simp only[Option.map_eq_some_iff]at e;obtain⟨s,hs,rfl⟩:=e;obtain⟨h1,h2⟩:=UL (m:=m) (D:=D) hs;exact⟨by simp[cv,h1],h2⟩
 ·rename_i cs;simp only[Option.map_eq_some_iff]at e;obtain⟨s,hs,rfl⟩:=e;obtain⟨h1,h2⟩:=UL (m:=m) (D:=D) hs;exact⟨by simp[cv,h1],h2⟩
 ·rename_i f first cap
  cases hc:(first.isEmpty&&cap.isEmpty)
  ·grind
  ·rw[hc]at e;cases e;simp only[Bool.and_eq_true,Array.isEmpty_iff]at hc;obtain⟨rfl,rfl⟩:=hc;trivial
 grind[NC]
theorem run_underlying {t:TypeId} {d:TypeDesc} (e:P.underlying t=some d):(underlying t).run P w=.ok d w:=by unfold underlying;simp_all
theorem run_typeInfo {t:TypeId} {i:TypeInfo} (e:P.info? t=some i):(typeInfo t).run P w=.ok i w:=by unfold typeInfo;simp_all
theorem run_sizeOf {t:TypeId} {n:Nat} (e:aM P t=some n):(sizeOf t).run P w=.ok n w:=by simp only[aM,Option.map_eq_some_iff]at e;obtain⟨i,hi,rfl⟩:=e;simp_all[sizeOf,run_typeInfo]
theorem gu {t:TypeId} {b:Bool} (e:ie P t=some b):(isAgg t).run P w=.ok b w:=by simp only[ie,Option.map_eq_some_iff]at e;obtain⟨d,hd,hb⟩:=e;unfold isAgg;rw[qq (run_underlying hd)];split<;>simp_all
theorem vM {t:TypeId} {z:AV} (e:fo P t=some z):(zeroValue t).run P w=.ok (cv m z) w∧bp D z:=by simp only[fo,Option.bind_eq_some_iff]at e;obtain⟨i,hi,v,hv,hz⟩:=e;obtain⟨h1,h2⟩:=JV (m:=m) (D:=D) hz;simp_all[zeroValue,run_typeInfo]
end Go.Ae
namespace Go.Ae
open Go
variable {P:Program} {m:Mp} {D:Nat→Prop} {h:AH} {w:World}
def ep (P:Program) (m:Mp) (D:Nat→Prop) (h:AH) (w:World) (nO:Result Next) (v:AV) (h':AH):Prop :=
 ∃m' D' w',(nO=.ok (.value (cv m' v)) w'∨(nO=.ok .skip w'∧v=.undef))∧Ext m D h w m' D' h' w'∧Rel P m' D' h' w'∧bp D' v
theorem qO {α:Type} {x:Option α} {k:α→R} {r:AV×AH}:ob x k=some r↔∃a,x=some a∧k a=some r:=by
 grind
theorem xm {b:Bool} {x:R} {r:AV×AH}:cJ b x none=some r↔b=true∧x=some r:=by
 grind
theorem jO {α:Type} {b:Bool} {x:Option α} {r:α}:(bif b then x else none)=some r↔b=true∧x=some r:=by
 grind
theorem jZ {v v':AV} {h h':AH}:(some (v,h):R)=some (v',h')↔v=v'∧h=h':=by simp
theorem zB (r:Rel P m D h w) {s:Sem Value} {v:AV} (hs:s.run P w=.ok (cv m v) w) (hv:bp D v) :
  ep P m D h w ((do pure (Next.value (← s)):Sem Next).run P w) v h :=
 ⟨m,D,w,.inl (by simp_all),Ext.refl ..,r,hv⟩
theorem XJ (r:Rel P m D h w) {s:Sem Next} {v:AV} (hs:s.run P w=.ok (.value (cv m v)) w) (hv:bp D v):ep P m D h w (s.run P w) v h :=
 ⟨m,D,w,.inl hs,Ext.refl ..,r,hv⟩
def eP (m:Mp) (D:Nat→Prop) (ρ:Operand→Value) (r:Operand→Option AV):Prop:=∀x v,r x=some v→ρ x=cv m v∧bp D v
theorem zA {a b:Nat} (h:Nat.ble a b=true):a≤b:=Nat.le_of_ble_eq_true h
theorem KB {a b:Nat} (h:Nat.ble a b=false):b<a:=by
 rcases Nat.lt_or_ge b a with h' |h'
 all_goals simp_all[iY]
theorem Ky (a b:Int):eV a b=(a==b):=by
 cases a with
 |ofNat a=>cases b with
  |ofNat b=>
   simp only[eV];by_cases e:a=b
   ·simp_all
   grind[vY,beq_eq_false_iff_ne,Int.ofNat.inj]
  |negSucc b=>rfl
 |negSucc a=>cases b with
  |ofNat b=>rfl
  |negSucc b=>
   simp only[eV];by_cases e:a=b
   all_goals simp_all[vY,beq_eq_false_iff_ne]
theorem Un (a b:Int):oP a b=decide (a<b):=by
 cases a with
 |ofNat a=>cases b with
  |ofNat b=>
   simp only[oP];cases e:Nat.ble (a+1) b
   ·have:=KB e;grind
   simp at*;omega
  |negSucc b=>rfl
 |negSucc a=>cases b with
  |ofNat b=>simp[oP];omega
  |negSucc b=>
   simp only[oP];cases e:Nat.ble (b+1) a
   ·have:=KB e;grind
   simp at*;omega
theorem Gt (n:Int):IntKind.wrap .i64 n=if 9223372036854775808≤n%18446744073709551616 then n%18446744073709551616-18446744073709551616 else n%18446744073709551616:=by show(if(true&&decide (n%18446744073709551616≥9223372036854775808))=true then _ else _)=_;simp only[Bool.true_and,decide_eq_true_eq,ge_iff_le];rfl
theorem Ge (n:Int):IntKind.wrap .u64 n=n%18446744073709551616:=rfl
theorem TA (n:Int):IntKind.wrap .u8 n=n%256:=rfl
theorem NO (a:Nat) (h:a≤9223372036854775807):IntKind.wrap .i64 (Int.negSucc a)=Int.negSucc a:=by simp[Int.negSucc_eq,Gt];omega
theorem kL (k:IntKind) (n:Int):zC k n=k.wrap n:=by
 cases k<;>cases n<;>simp only[zC]
 ·rename_i a;cases hb:Nat.ble a 9223372036854775807
  ·rw[cond_false]
  ·have:=zA hb;rw[Gt];show(a:Int)=if 9223372036854775808≤(a:Int)%_ then _ else(a:Int)%_
   split<;>omega
 ·rename_i a;cases hb:Nat.ble a 9223372036854775807
  ·rw[cond_false]
  ·have:=zA hb;rw[cond_true];exact(NO a this).symm
 ·rename_i a;rw[TA];show((a%256:Nat):Int)=(a:Int)%_;omega
 ·rename_i a;rw[Ge];show((a%18446744073709551616:Nat):Int)=(a:Int)%_;omega
 ·rename_i a;rw[Ge];show((18446744073709551615-a%18446744073709551616:Nat):Int)=_;omega
theorem iB (a b:List UInt8):ig a b=(a==b):=by
 induction a generalizing b with
 |nil=>cases b<;>rfl
 |cons x a ih=>cases b with
  |nil=>rfl
  |cons y b=>grind[ig]
def Oh (op:BinOp) (k:IntKind) (x y:Int):Sem Value :=
 match op with
 | .add | .sub | .mul=>Op.intArith op k x y
 | .quo | .rem=>Op.intDiv op k x y
 | .and | .or | .xor | .andNot=>Op.intBits op k x y
 |_=>Op.intCmp op x y
theorem qzb {op:BinOp} {k:IntKind} {x y:Int} {v:AV} (e:QH op k x y=some v) :
  (Oh op k x y).run P w=.ok (cv m v) w∧bp D v:=by
 cases op<;>simp only[QH,kL,Ky,Un]at e
 case quo=>
  by_cases hy:y=0
  ·grind
  ·rw[beq_eq_false_iff_ne.2 hy]at e;cases e;exact⟨by simp[Oh,Op.intDiv,hy,cv],trivial⟩
 case rem=>
  by_cases hy:y=0
  ·grind
  ·rw[beq_eq_false_iff_ne.2 hy]at e;cases e;exact⟨by simp[Oh,Op.intDiv,hy,cv],trivial⟩
 case leq=>
  cases e;refine⟨?_,trivial⟩;show Result.ok (Value.bool (decide (x≤y))) w=.ok (.bool (!decide (y<x))) w;rw[← decide_not,decide_eq_decide.2 (show x≤y↔¬y<x by omega)]
 case geq=>
  cases e;refine⟨?_,trivial⟩;show Result.ok (Value.bool (decide (x≥y))) w=.ok (.bool (!decide (x<y))) w;rw[← decide_not,decide_eq_decide.2 (show x≥y↔¬x<y by omega)]
 all_goals first
  |(cases e;done)
  |(cases e;exact⟨rfl,trivial⟩)
end Go.Ae
namespace Go.Ae
open Go
variable {P:Program} {m:Mp} {D:Nat→Prop} {h h':AH} {w:World} {c:CV} {ρ:Operand→Value} {r:Operand→Option AV} {o:Oper} {v:AV}
abbrev fin:AV→AH→R:=λv h=>some (v,h)
theorem qvF {x:Operand} (ho:o.op=.move x) (hr:eP m D ρ r) (R:Rel P m D h w) (e:bh P c o.op r h fin=some (v,h')):ep P m D h w ((execOp ρ o).run P w) v h':=by rw[ho]at e;simp only[bh,qO,jZ]at e;obtain⟨a,ha,rfl,rfl⟩:=e;obtain⟨h1,h2⟩:=hr _ _ ha;grind[XJ,execOp,gF]
theorem qV5 {x:Operand} (ho:o.op=.assign x) (hr:eP m D ρ r) (R:Rel P m D h w) (e:bh P c o.op r h fin=some (v,h')):ep P m D h w ((execOp ρ o).run P w) v h':=by rw[ho]at e;simp only[bh,qO,jZ]at e;obtain⟨a,ha,rfl,rfl⟩:=e;obtain⟨h1,h2⟩:=hr _ _ ha;grind[XJ,execOp,gF]
theorem qx7 {x y z:Operand} (ho:o.op=.pick x y z) (hr:eP m D ρ r) (R:Rel P m D h w) (e:bh P c o.op r h fin=some (v,h')):ep P m D h w ((execOp ρ o).run P w) v h':=by
 rw[ho]at e;simp only[bh,qO]at e;obtain⟨a,ha,b,hb,d,hd,e⟩:=e;obtain⟨a1,a2⟩:=hr _ _ ha;obtain⟨b1,b2⟩:=hr _ _ hb;obtain⟨d1,d2⟩:=hr _ _ hd;rw[O6]at e
 split at e
 ·rename_i t;cases t<;>simp only[jZ]at e<;>obtain⟨rfl,rfl⟩:=e
  ·refine XJ R ?_ d2;simp_all[execOp,cv,asBool]
  ·refine XJ R ?_ b2;simp_all[execOp,cv,asBool]
 grind
theorem jQF {x:Operand} (ho:o.op=.nilCheck x) (hr:eP m D ρ r) (R:Rel P m D h w) (e:bh P c o.op r h fin=some (v,h')):ep P m D h w ((execOp ρ o).run P w) v h':=by
 rw[ho]at e;simp only[bh,qO]at e;obtain⟨a,ha,e⟩:=e;obtain⟨a1,a2⟩:=hr _ _ ha;unfold jo at e
 split at e<;>first |(cases e;done) |skip
 all_goals
  simp only[jZ]at e;obtain⟨rfl,rfl⟩:=e;refine XJ R ?_ a2;simp_all[execOp,cv]
theorem Ek {op:UnOp} {t:TypeId} {x:Operand} (ho:o.op=.unOp op t x) (hr:eP m D ρ r) (R:Rel P m D h w) (e:bh P c o.op r h fin=some (v,h')):ep P m D h w ((execOp ρ o).run P w) v h':=by
 rw[ho]at e;simp only[bh,qO]at e;obtain⟨a,ha,e⟩:=e;obtain⟨a1,a2⟩:=hr _ _ ha;unfold lX at e
 split at e<;>first |(cases e;done) |skip
 all_goals
  simp only[jZ]at e;obtain⟨rfl,rfl⟩:=e;simp only[execOp,ho,a1];refine zB R ?_ trivial
  first
   |(simp only[cv,kL];rfl)
   |rfl
theorem qjH {t:TypeId} {x:Operand} (ho:o.op=.makeInterface t x) (hr:eP m D ρ r) (R:Rel P m D h w) (e:bh P c o.op r h fin=some (v,h')):ep P m D h w ((execOp ρ o).run P w) v h':=by
 rw[ho]at e;simp only[bh,qO]at e;obtain⟨d,hd,e⟩:=e;have key:∃a,r x=some a∧fin (.iface t a) h=some (v,h'):=by
  grind
 obtain⟨a,ha,e⟩:=key;obtain⟨a1,a2⟩:=hr _ _ ha;simp only[jZ]at e;obtain⟨rfl,rfl⟩:=e;simp only[execOp,ho,a1];refine zB R ?_ a2;unfold Instr.makeInterface;rw[qq (run_underlying hd)];cases d<;>first |rfl |grind
theorem qqM {t:TypeId} {x:Operand} {f:Nat} (ho:o.op=.fieldAddr t x f) (hr:eP m D ρ r) (R:Rel P m D h w) (e:bh P c o.op r h fin=some (v,h')):ep P m D h w ((execOp ρ o).run P w) v h':=by
 rw[ho]at e;simp only[bh,qO]at e;obtain⟨a,ha,off,iT,e⟩:=e;obtain⟨a1,a2⟩:=hr _ _ ha;rw[Vg]at e
 split at e
 ·rename_i b o';simp only[jZ]at e;obtain⟨rfl,rfl⟩:=e;simp only[execOp,ho,a1];refine zB R ?_ a2;unfold ZT at iT;simp only[Option.bind_eq_some_iff]at iT;obtain⟨d,hd,iT⟩:=iT;unfold Instr.fieldAt;rw[qq (run_underlying hd)];cases d<;>simp only[reduceCtorEq]at iT
  rename_i fs;simp only[Option.bind_eq_some_iff]at iT;obtain⟨g,hg,sz,bC,iT⟩:=iT;cases hz:Nat.beq sz 0<;>rw[hz]at iT<;>simp only[cond_true,cond_false,reduceCtorEq,Option.some.injEq]at iT
  subst iT;simp only[hg,cv];rw[qq (show(Instr.sureAddr (.pointer (some ⟨(m b).1,o',none⟩))).run P w=.ok ⟨(m b).1,o',none⟩ w from rfl)];rw[qq (show(fieldPlace ⟨(m b).1,o',none⟩ g).run P w=.ok ⟨(m b).1,o'+g.offset,none⟩ w from ?_)]
  ·rfl
  ·unfold fieldPlace;simp_all[run_sizeOf,vT,w9]
 grind
theorem X5 {t:TypeId} {cs:List AV} {off:Nat} {x:AV} (ht:ie P t=some false) (e:wm cs off=some x) (hd:aT D cs):(part t (aQ m cs).toArray off).run P w=.ok (cv m x) w∧bp D x:=by rw[xr]at e;refine⟨?_,(xh D cs).1 hd x (List.mem_of_getElem? e)⟩;unfold part;rw[qq (gu ht)];simp_all[Bool.false_eq_true,List.getElem?_toArray,xW,List.getElem?_map]
theorem YK {t:TypeId} {cs l:List AV} {off n:Nat} (ht:ie P t=some true) (hn:aM P t=some n) (e:vE n (vh off cs)=some l) (hd:aT D cs):(part t (aQ m cs).toArray off).run P w=.ok (cv m (.agg l)) w∧aT D l:=by
 rw[kP]at e;obtain⟨e1,e2⟩:=kj e;refine⟨?_,by grind[JY,YW]⟩;unfold part;rw[qq (gu ht)];simp_all[run_sizeOf,cv,xW]
theorem ky {t:TypeId} {i:Option Nat} (e:kE P t=some i):(i=none∧ie P t=some false)∨∃n,i=some n∧ie P t=some true∧aM P t=some n:=by
 unfold kE at e;simp only[Option.bind_eq_some_iff]at e;obtain⟨a,ha,e⟩:=e;cases a
 ·grind
 ·simp only[cond_true,Option.map_eq_some_iff]at e;grind
theorem qxs {t:TypeId} {x:Operand} {f:Nat} (ho:o.op=.field t x f) (hr:eP m D ρ r) (R:Rel P m D h w) (e:bh P c o.op r h fin=some (v,h')):ep P m D h w ((execOp ρ o).run P w) v h':=by
 rw[ho]at e;simp only[bh,qO]at e;obtain⟨a,ha,p,hp,e⟩:=e;obtain⟨a1,a2⟩:=hr _ _ ha;unfold M7 at hp;simp only[Option.bind_eq_some_iff]at hp;obtain⟨d,hd,hp⟩:=hp;cases d<;>simp only[reduceCtorEq]at hp
 rename_i fs;simp only[Option.bind_eq_some_iff,Option.map_eq_some_iff]at hp;obtain⟨g,hg,i,hi,rfl⟩:=hp;simp only[execOp,ho,a1];rcases ky hi with⟨rfl,mJ⟩ |⟨n,rfl,mJ,hn⟩
 ·simp only[KI]at e
  split at e
  ·rename_i cs;simp only[qO,jZ]at e;obtain⟨z,hz,rfl,rfl⟩:=e;obtain⟨z1,z2⟩:=X5 (w:=w) (m:=m) mJ hz a2;refine zB R ?_ z2;simp_all[Instr.field,run_underlying,cv,asAgg]
  grind
 ·simp only[Xa]at e
  split at e
  ·rename_i cs;simp only[qO,jZ]at e;obtain⟨z,hz,rfl,rfl⟩:=e;obtain⟨z1,z2⟩:=YK (w:=w) (m:=m) mJ hn hz a2;refine zB R ?_ z2;simp_all[Instr.field,run_underlying,cv,asAgg]
  grind
theorem N8 {t:TypeId} {x i:Operand} (ho:o.op=.indexAddr t x i) (hr:eP m D ρ r) (R:Rel P m D h w) (e:bh P c o.op r h fin=some (v,h')):ep P m D h w ((execOp ρ o).run P w) v h':=by
 rw[ho]at e;simp only[bh,qO]at e;obtain⟨a,ha,j,hj,d,hd,e⟩:=e;obtain⟨a1,a2⟩:=hr _ _ ha;obtain⟨j1,j2⟩:=hr _ _ hj;simp only[execOp,ho,a1,j1];cases d<;>simp only[reduceCtorEq]at e
 case slice el=>
  simp only[qO]at e;obtain⟨sz,bC,e⟩:=e;rw[UH]at e
  split at e
  ·rename_i b off len cp ay k q;simp only[jO,jZ]at e;obtain⟨hq,rfl,rfl⟩:=e;have hq:=zA hq;refine zB R ?_ a2;unfold Instr.indexAt;simp only[cv];rw[qq (show(asIntOf (.int k (.ofNat q))).run P w=.ok (k,.ofNat q) w from rfl)];rw[qq (run_underlying hd)];simp only[];rw[qq (show(pure (some (⟨(m b).1,off,none⟩:Addr),len,el):Sem (Option Addr×Nat×TypeId)).run P w=.ok _ w from rfl)];rw[qq (run_underlying hd)];have:(0:Int)≤Int.ofNat q∧Int.ofNat q<(len:Int):=⟨Int.natCast_nonneg q,by grind⟩;simp_all[run_sizeOf,w9]
  grind
 case array n el=>
  simp only[xm,qO]at e;obtain⟨h2,sz,bC,e⟩:=e;have h2:=zA h2;unfold gp at e
  split at e
  ·rename_i b off k q;simp only[jO,jZ]at e;obtain⟨hq,rfl,rfl⟩:=e;have hq:=zA hq;refine zB R ?_ a2;unfold Instr.indexAt;simp only[cv];rw[qq (show(asIntOf (.int k (.ofNat q))).run P w=.ok (k,.ofNat q) w from rfl)];rw[qq (run_underlying hd)];simp only[];rw[qq (show(Instr.sureAddr (.pointer (some ⟨(m b).1,off,none⟩))).run P w=.ok ⟨(m b).1,off,none⟩ w from rfl)];rw[qq (show(pure (some (⟨(m b).1,off,none⟩:Addr),n,el):Sem (Option Addr×Nat×TypeId)).run P w=.ok _ w from rfl)];rw[qq (run_underlying hd)];have:(0:Int)≤Int.ofNat q∧Int.ofNat q<(n:Int):=⟨Int.natCast_nonneg q,by grind⟩;simp_all[run_sizeOf,w9]
  grind
theorem qJa {x:Operand} {i:Nat} (ho:o.op=.extract x i) (hr:eP m D ρ r) (R:Rel P m D h w) (e:bh P c o.op r h fin=some (v,h')):ep P m D h w ((execOp ρ o).run P w) v h':=by
 rw[ho]at e;simp only[bh,qO]at e;obtain⟨a,ha,e⟩:=e;obtain⟨a1,a2⟩:=hr _ _ ha;rw[XZ]at e
 split at e
 ·rename_i l;simp only[qO,jZ]at e;obtain⟨z,hz,rfl,rfl⟩:=e;rw[xr]at hz;simp only[execOp,ho,a1];refine zB R ?_ ((xh D l).1 a2 _ (List.mem_of_getElem? hz));simp_all[Instr.extract,cv,List.getElem?_toArray,xW,List.getElem?_map]
 grind
theorem qqe {t:TypeId} {x i:Operand} (ho:o.op=.index t x i) (hr:eP m D ρ r) (R:Rel P m D h w) (e:bh P c o.op r h fin=some (v,h')):ep P m D h w ((execOp ρ o).run P w) v h':=by
 rw[ho]at e;simp only[bh,qO]at e;obtain⟨a,ha,j,hj,d,hd,e⟩:=e;obtain⟨a1,a2⟩:=hr _ _ ha;obtain⟨j1,j2⟩:=hr _ _ hj;simp only[execOp,ho,a1,j1];cases d<;>simp only[reduceCtorEq]at e
 case string=>
  unfold gR at e
  split at e
  ·rename_i s k q;simp only[qO,jZ]at e;obtain⟨z,hz,rfl,rfl⟩:=e;rw[xr]at hz;refine zB R ?_ trivial;unfold Instr.index;simp only[cv];rw[qq (show(asIntOf (.int k (.ofNat q))).run P w=.ok (k,.ofNat q) w from rfl)];rw[qq (run_underlying hd)];have h0:(0:Int)≤Int.ofNat q:=Int.natCast_nonneg q;have hb:(ByteArray.mk s.toArray)[q]? =some z:=by
    have ae:q<s.length:=(List.getElem?_eq_some_iff.1 hz).1;have hs:(ByteArray.mk s.toArray).size=s.length:=by rfl
    rw[getElem?_pos _ _ (by grind)]
    congr 1
    have:=(List.getElem?_eq_some_iff.1 hz).2;trivial
   simp_all
  grind
 case array n el=>
  simp only[qO]at e;obtain⟨sz,bC,g,hg,e⟩:=e;cases g
  ·simp only[cJ]at e;unfold QM at e
   split at e
   ·rename_i cs k q;simp only[jO,qO,jZ]at e;obtain⟨hq,z,hz,rfl,rfl⟩:=e;have hq:=zA hq;obtain⟨z1,z2⟩:=X5 (w:=w) (m:=m) hg hz a2;refine zB R ?_ z2;unfold Instr.index;simp only[cv];rw[qq (show(asIntOf (.int k (.ofNat q))).run P w=.ok (k,.ofNat q) w from rfl)];rw[qq (run_underlying hd)];have:(0:Int)≤Int.ofNat q∧Int.ofNat q<(n:Int):=⟨Int.natCast_nonneg q,by grind⟩;simp_all[run_sizeOf]
   grind
  ·simp only[cJ]at e;unfold XH at e
   split at e
   ·rename_i cs k q;simp only[jO,qO,jZ]at e;obtain⟨hq,z,hz,rfl,rfl⟩:=e;have hq:=zA hq;obtain⟨z1,z2⟩:=YK (w:=w) (m:=m) hg bC hz a2;refine zB R ?_ z2;unfold Instr.index;simp only[cv];rw[qq (show(asIntOf (.int k (.ofNat q))).run P w=.ok (k,.ofNat q) w from rfl)];rw[qq (run_underlying hd)];have:(0:Int)≤Int.ofNat q∧Int.ofNat q<(n:Int):=⟨Int.natCast_nonneg q,by grind⟩;simp only[iJ this];rw[qq (run_sizeOf bC)];exact z1
   grind
theorem qk9 {t:TypeId} {x:Operand} (ho:o.op=.load t x) (hr:eP m D ρ r) (R:Rel P m D h w) (e:bh P c o.op r h fin=some (v,h')):ep P m D h w ((execOp ρ o).run P w) v h':=by
 rw[ho]at e;simp only[bh,qO]at e;obtain⟨a,ha,i,hi,e⟩:=e;obtain⟨a1,a2⟩:=hr _ _ ha;simp only[execOp,ho,a1];rcases ky hi with⟨rfl,mJ⟩ |⟨n,rfl,mJ,hn⟩
 ·simp only[gX]at e
  split at e
  ·rename_i b off
   split at e
   ·rename_i cs t' op' hg;simp only[qO,jZ]at e;obtain⟨z,hz,rfl,rfl⟩:=e;obtain⟨z1,z2⟩:=R.Ap a2 hg hz;refine zB R ?_ z2;unfold Instr.loadAt;simp only[cv];rw[qq (show(Instr.sureAddr (.pointer (some ⟨(m b).1,off,none⟩))).run P w=.ok ⟨(m b).1,off,none⟩ w from rfl)];simp_all[loadVar,gu]
   ·rename_i ti hg;simp only[qO,jZ]at e;obtain⟨z,hz,rfl,rfl⟩:=e;obtain⟨z1,z2⟩:=R.r8 a2 hg hz;refine zB R ?_ z2;unfold Instr.loadAt;simp only[cv];rw[qq (show(Instr.sureAddr (.pointer (some ⟨(m b).1,off,none⟩))).run P w=.ok ⟨(m b).1,off,none⟩ w from rfl)];simp_all[loadVar,gu]
   grind
  grind
 ·simp only[kG]at e
  split at e
  ·rename_i b off;simp only[qO,jZ]at e;obtain⟨z,hz,rfl,rfl⟩:=e;obtain⟨z1,z2,z3⟩:=R.read a2 hz;refine zB R ?_ z2;unfold Instr.loadAt;simp only[cv];rw[qq (show(Instr.sureAddr (.pointer (some ⟨(m b).1,off,none⟩))).run P w=.ok ⟨(m b).1,off,none⟩ w from rfl)];simp_all[loadVar,gu,run_sizeOf]
  grind
theorem qqL {t:TypeId} {x y:Operand} (ho:o.op=.store t x y) (hr:eP m D ρ r) (R:Rel P m D h w) (e:bh P c o.op r h fin=some (v,h')):ep P m D h w ((execOp ρ o).run P w) v h':=by
 rw[ho]at e;simp only[bh,qO]at e;obtain⟨a,ha,b,hb,n,hn,e⟩:=e;obtain⟨a1,a2⟩:=hr _ _ ha;obtain⟨b1,b2⟩:=hr _ _ hb;rw[Kz]at e
 split at e
 ·rename_i q off;simp only[jO,qO,jZ]at e;obtain⟨hl,h1,hw,rfl,rfl⟩:=e;have hl:=zy hl;obtain⟨w',cQ,Bs,fS⟩:=R.write a2 (kY b2) hw;refine⟨m,D,w',.inr ⟨?_,rfl⟩,Bs,fS,trivial⟩;simp only[execOp,ho,a1,b1,cv];have hs:(Instr.storeAt t (.pointer (some ⟨(m q).1,off,none⟩)) (cv m b)).run P w=.ok () w':=by
   unfold Instr.storeAt;rw[qq (show(Instr.sureAddr (.pointer (some ⟨(m q).1,off,none⟩))).run P w=.ok ⟨(m q).1,off,none⟩ w from rfl)];simp_all[storeVar,run_sizeOf,wW,List.size_toArray]
  simp_all
 grind
end Go.Ae
namespace Go.Ae
open Go
variable {P:Program} {m:Mp} {D:Nat→Prop} {h h':AH} {w:World} {c:CV} {ρ:Operand→Value} {r:Operand→Option AV} {o:Oper} {v:AV}
theorem QP (hr:eP m D ρ r) {l:List Operand} {s:List AV} (e:ww r l=some s):l.map ρ=aQ m s∧aT D s:=by
 induction l generalizing s with
 |nil=>simp[ww]at e;subst e;trivial
 |cons a l ih=>simp only[ww,Option.bind_eq_some_iff]at e;obtain⟨b,hb,t,ht,hs⟩:=e;cases hs;obtain⟨h1,h2⟩:=hr _ _ hb;obtain⟨h3,h4⟩:=ih ht;exact⟨by grind[aQ],h2,h4⟩
theorem UK {α β:Type} (f:α→β) (x:Array α):x.map f=(x.toList.map f).toArray:=by grind
theorem Zv {fn:Fn} {x y:Array Operand} (ho:o.op=.makeFunc fn x y) (hr:eP m D ρ r) (R:Rel P m D h w) (e:bh P c o.op r h fin=some (v,h')):ep P m D h w ((execOp ρ o).run P w) v h':=by
 rw[ho]at e;cases fn<;>simp only[bh,reduceCtorEq]at e
 rename_i f;simp only[qO,jZ]at e;obtain⟨a,ha,b,hb,rfl,rfl⟩:=e;obtain⟨a1,a2⟩:=QP hr ha;obtain⟨b1,b2⟩:=QP hr hb;simp only[execOp,ho];refine zB R ?_ ⟨a2,b2⟩;grind[Instr.makeFunc,cv,gF,UK]
theorem qWc {x:Operand} {xt t:TypeId} {ok:Bool} (ho:o.op=.typeAssert x xt t ok) (hr:eP m D ρ r) (R:Rel P m D h w) (e:bh P c o.op r h fin=some (v,h')):ep P m D h w ((execOp ρ o).run P w) v h':=by
 rw[ho]at e;simp only[bh,qO]at e;obtain⟨a,ha,d,hd,e⟩:=e;obtain⟨a1,a2⟩:=hr _ _ ha;simp only[execOp,ho,a1];have iz:(∀ms,d≠.interface ms)∧(cJ ok (ob (fo P t) λz=>yx t z a λy=>fin y h) (kr t a λy=>fin y h))=some (v,h'):=by
  grind
 obtain⟨iz,e⟩:=iz;cases ok
 ·simp only[cJ]at e;unfold kr at e
  split at e
  ·rename_i u z;simp only[jO,jZ]at e;obtain⟨hu,rfl,rfl⟩:=e;have hu:=zy hu;subst hu;refine zB R ?_ a2;simp_all[Instr.typeAssert,cv,run_underlying]
  grind
 ·simp only[cJ,qO]at e;obtain⟨z,hz,e⟩:=e;obtain⟨z1,z2⟩:=vM (w:=w) (m:=m) (D:=D) hz;unfold yx at e
  split at e
  ·rename_i u y _;cases hu:Nat.beq u t
   ·rw[hu]at e;simp only[cond_false,jZ]at e;obtain⟨rfl,rfl⟩:=e;refine zB R ?_ ⟨z2,trivial,trivial⟩;unfold Instr.typeAssert;simp_all[cv,aQ,run_underlying,vT]
   ·rw[hu]at e;simp only[cond_true,jZ]at e;obtain⟨rfl,rfl⟩:=e;have hu:=zy hu;subst hu;refine zB R ?_ ⟨a2,trivial,trivial⟩;simp_all[Instr.typeAssert,cv,aQ,run_underlying]
  ·simp only[jZ]at e;obtain⟨rfl,rfl⟩:=e;refine zB R ?_ ⟨z2,trivial,trivial⟩;simp_all[Instr.typeAssert,cv,aQ,run_underlying]
  grind
theorem qJe {op:BinOp} {k:IntKind} {x y:Int} {z:AV} (e:N3 op k x y=some z) (yk:IntKind):(Op.shift op k x yk y).run P w=.ok (cv m z) w∧bp D z:=by
 unfold N3 at e;rw[Un]at e;by_cases hy:y<0
 ·grind
 ·simp only[iV hy,cond_false]at e;cases op<;>simp only[reduceCtorEq,Option.some.injEq]at e<;>subst e<;>refine⟨?_,trivial⟩
  all_goals (simp[Op.shift,cv,kL];omega)
theorem G9 (l:List UInt8):(ByteArray.mk l.toArray).toList=l:=by simp
theorem qYE {op:BinOp} {x y:List UInt8} {z:AV} (e:ZC op x y=some z):(Op.stringOp op ⟨x.toArray⟩ ⟨y.toArray⟩).run P w=.ok (cv m z) w∧bp D z:=by
 cases op<;>simp only[ZC,reduceCtorEq,Option.some.injEq,iB]at e
 case add=>
  rw[jO]at e;obtain⟨hl,e⟩:=e;have hl:=zA hl;cases e;refine⟨?_,trivial⟩;have h1:(ByteArray.mk x.toArray).size=x.length:=by rfl
  have h2:(ByteArray.mk y.toArray).size=y.length:=by rfl
  have h3:¬(((x.length+y.length:Nat):Int)>IntKind.i64.max):=by simp;omega
  simp only[Op.stringOp,h1,h2,h3,if_false,cv];rfl
 all_goals
  subst e;refine⟨?_,trivial⟩;simp[Op.stringOp,cv]
theorem Zp {op:BinOp} {t:TypeId} {x y:Operand} {a b:Value} (h1:op≠.eql) (h2:op≠.neq):(eqGuard op t x y a b).run P w=.ok () w:=by unfold eqGuard;simp
theorem Q2 {op:BinOp} {t:TypeId} {x y:Operand} {a b:AV} (ha:∀l,a≠.agg l) (hb:a≠.cN∨b≠.cN):(eqGuard op t x y (cv m a) (cv m b)).run P w=.ok () w:=by
 unfold eqGuard;cases op<;>first |rfl |skip
 all_goals
  cases a<;>first |(exact absurd rfl (ha _)) |(cases b<;>first |rfl |grind)
theorem qWM {t:TypeId} {x y:Value} {b:Bool} (h:∀d,(Op.equalIn (d+1) t x y).run P w=.ok b w):(Op.equal t x y).run P w=.ok b w:=h 9999
theorem Mi {t:TypeId} {d:TypeDesc} {k:EK} {a b:AV} {q:Bool} (hd:P.underlying t=some d) (hk:UE d=some k) (e:Xh k a b=some q) (n:Nat) :
  (Op.equalIn (n+1) t (cv m a) (cv m b)).run P w=.ok q w:=by
 cases d<;>simp only[UE,reduceCtorEq,Option.some.injEq]at hk<;>subst hk<;>unfold Xh at e<;>split at e<;>
  first
   |(cases e;done)
   |skip
 all_goals try contradiction
 all_goals try (simp only[Option.some.injEq]at e;subst e)
 all_goals
  unfold Op.equalIn;rw[qq (Ae.run_underlying hd)];simp only[cv]
 all_goals first
  |rfl
  |skip
 ·simp_all[jO,Option.some.injEq,Ky]
 simp[beq_toListBytes,iB]
mutual
theorem TB:∀v:AV,bp (λ_=>True) v
 | .bool _=>trivial
 | .int _ _=>trivial
 | .str _=>trivial
 | .ptr _ _=>trivial
 | .au=>trivial
 | .slice _ _ _ _ _=>trivial
 | .ad=>trivial
 | .fn _ a c=>⟨gj a,gj c⟩
 | .yield _=>trivial
 | .ei=>trivial
 | .iface _ v=>TB v
 | .cN=>trivial
 | .agg l=>gj l
 | .bm l=>gj l
 | .bX _=>trivial
 | .tail _ _ _ _=>trivial
 | .eO _=>trivial
theorem gj:∀l:List AV,aT (λ_=>True) l
 |[]=>trivial
 |a::r=>⟨TB a,gj r⟩
end
theorem MC {t:TypeId} {d:TypeDesc} {k:EK} (hd:P.underlying t=some d) (hk:UE d=some k):ie P t=some false:=by grind[ie,UE,reduceCtorEq]
theorem qQd {l1 l2:List ES} {xs ys:List AV} {q:Bool} (e:xk (l1++l2) xs ys=some q):(xk l1 xs ys=some false∧q=false)∨(xk l1 xs ys=some true∧xk l2 xs ys=some q):=by
 induction l1 with
 |nil=>exact .inr ⟨rfl,e⟩
 |cons a l1 ih=>
  cases a with
  |b6 k o=>
   simp only[List.cons_append,xk,Option.bind_eq_some_iff]at e ⊢;grind
  |len n=>
   simp only[List.cons_append,xk]at e ⊢;grind
theorem V8 {c n:Nat} {xs ys:List AV} (hx:c+n≤xs.length) (hy:c+n≤ys.length):∀{l:List ES},JM n l=true→
  xk (Ym c l) xs ys=xk l ((xs.drop c).take n) ((ys.drop c).take n):=by
 intro l
 induction l with
 |nil=>intro _;rfl
 |cons a l ih=>
  intro h;cases a with
  |b6 k o=>
   simp only[JM,Bool.and_eq_true]at h;have ho:=zA h.1;have gx:wm xs (c+o)=wm ((xs.drop c).take n) o:=by rw[xr,xr,List.getElem?_take_of_lt omQ,List.getElem?_drop]
   have gy:wm ys (c+o)=wm ((ys.drop c).take n) o:=by rw[xr,xr,List.getElem?_take_of_lt omQ,List.getElem?_drop]
   grind[Ym,xk]
  |len m=>
   simp only[JM,Bool.and_eq_true]at h;have hm:=zA h.1;have h1:(Nat.ble (c+m) xs.length&&Nat.ble (c+m) ys.length)=true:=by simp;omega
   have h2:(Nat.ble m ((xs.drop c).take n).length&&Nat.ble m ((ys.drop c).take n).length)=true:=by grind
   simp only[Ym,xk,h1,h2,cond_true,ih h.2]
theorem qXA:∀(d:Nat) {fs:List Field} {l:List ES} {xs ys:List AV} {q:Bool} (n:Nat) (_:vu P d fs=some l) (_:xk l xs ys=some q),
  (Op.eqFields (n+d) (aQ m xs).toArray (aQ m ys).toArray fs).run P w=.ok q w:=by
 intro d
 induction d with
 |zero=>nofun
 |succ d ihd=>
  intro fs l xs ys q n hl e;simp only[vu]at hl
  induction fs generalizing l q with
  |nil=>simp[Xm]at hl;subst hl;simp[xk]at e;subst e;rfl
  |cons f fs ih=>
   unfold Xm at hl;cases hn : f.name == "_"
   ·rw [hn] at hl;simp only [cond_false, Option.bind_eq_some_iff] at hl;obtain ⟨u, hu, hl⟩ := hl;have bG : f.name ≠ "_" := by grind
    by_cases bK:∃gs,u=.struct gs
    ·obtain⟨gs,rfl⟩:=bK;simp only[Option.bind_eq_some_iff]at hl;obtain⟨sz,bC,hl⟩:=hl;cases El:P.stoodInHeld f.type
     ·rw[El]at hl;simp only[cond_false,Option.bind_eq_some_iff]at hl;obtain⟨l1,oV,hl⟩:=hl;cases cM:JM sz l1
      ·grind
      ·rw[cM]at hl;simp only[cond_true,Option.map_eq_some_iff]at hl;obtain⟨l2,l6,rfl⟩:=hl;simp only[xk]at e;cases hb:Nat.ble (f.offset+sz) xs.length&&Nat.ble (f.offset+sz) ys.length
       ·grind
       ·rw[hb]at e;simp only[cond_true]at e;simp only[Bool.and_eq_true]at hb;have hx:=zA hb.1;have hy:=zA hb.2;have mJ:ie P f.type=some true:=by grind[ie]
        have px:=YK (P:=P) (m:=m) (w:=w) (t:=f.type) (off:=f.offset) mJ bC (show vE sz (vh f.offset xs)=some ((xs.drop f.offset).take sz) by grind[kP,wG]) (gj xs);have py:=YK (P:=P) (m:=m) (w:=w) (t:=f.type) (off:=f.offset) mJ bC (show vE sz (vh f.offset ys)=some ((ys.drop f.offset).take sz) by grind[kP,wG]) (gj ys);have Em:∀b,xk (Ym f.offset l1) xs ys=some b→
          (Op.equalIn (n+(d+1)) f.type (cv m (.agg ((xs.drop f.offset).take sz))) (cv m (.agg ((ys.drop f.offset).take sz)))).run P w=.ok b w:=by
         intro b Aq;rw[V8 hx hy cM]at Aq;have hf:P.fieldsOf f.type=gs:=by grind[Program.fieldsOf]
         rw[show cv m (.agg ((xs.drop f.offset).take sz))=.agg (aQ m ((xs.drop f.offset).take sz)).toArray from rfl,show cv m (.agg ((ys.drop f.offset).take sz))=.agg (aQ m ((ys.drop f.offset).take sz)).toArray from rfl];rw[show n+(d+1)=(n+d)+1 from rfl,run_equalIn_struct w (n+d) f.type _ _ (by grind) El,hf];grind
        unfold Op.eqFields;rw[iJ bG,qq px.1,qq py.1];rcases qQd e with⟨h1,rfl⟩ |⟨h1,h2⟩
        ·simp_all
        ·rw[qq (Em true h1)];grind
     grind
    ·have hl:∃k s,UE u=some k∧Xm P (vu P d) fs=some s∧ES.b6 k f.offset::s=l:=by
      cases u<;>first |(exact absurd ⟨_,rfl⟩ bK) |skip
      all_goals
       simp only[Option.bind_eq_some_iff]at hl;obtain⟨k,hk,hl⟩:=hl;refine⟨k,?_⟩;cases k<;>simp only[reduceCtorEq,Option.map_eq_some_iff]at hl<;>
        (obtain⟨s,hs,rfl⟩:=hl;exact⟨s,hk,hs,rfl⟩)
     obtain⟨k,s,hk,hs,rfl⟩:=hl;simp only[xk,Option.bind_eq_some_iff]at e;obtain⟨x,hx,y,hy,b,hb,e⟩:=e;unfold Op.eqFields;rw[iJ bG];rw[qq (X5 (m:=m) (w:=w) (MC hu hk) hx (gj xs)).1];rw[qq (X5 (m:=m) (w:=w) (MC hu hk) hy (gj ys)).1];rw[show n+(d+1)=(n+d)+1 from rfl,qq (Mi hu hk hb (n+d))];cases b
     ·simp_all
     grind
   grind
theorem qgl {t:TypeId} {fs:Array Field} {l:List ES} {xs ys:List AV} {q:Bool} (hd:P.underlying t=some (.struct fs)) (hg:(P.eqGuardType P.depth t||P.stoodInHeld t)=false)
  (hl:vu P 8 fs.toList=some l) (e:xk l xs ys=some q):(Op.equal t (cv m (.agg xs)) (cv m (.agg ys))).run P w=.ok q w:=by
 simp only[Bool.or_eq_false_iff]at hg;have hf:P.fieldsOf t=fs:=by grind[Program.fieldsOf]
 have:(Op.equalIn (9991+8+1) t (cv m (.agg xs)) (cv m (.agg ys))).run P w=.ok q w:=by rw[show cv m (.agg xs)=.agg (aQ m xs).toArray from rfl,show cv m (.agg ys)=.agg (aQ m ys).toArray from rfl];rw[run_equalIn_struct w (9991+8) t _ _ (by grind) hg.2,hf];exact qXA 8 9991 hl e
 trivial
theorem VQ (b:Bool):(b !=false)=b:=by simp
theorem Mq (b:Bool):(b !=true)=!b:=by simp
theorem qw3 {op:BinOp} {t t2:TypeId} {x y:Operand} (ho:o.op=.binOp op t x y t2) (hr:eP m D ρ r) (R:Rel P m D h w) (e:bh P c o.op r h fin=some (v,h')):ep P m D h w ((execOp ρ o).run P w) v h':=by
 rw[ho]at e;simp only[bh,qO]at e;obtain⟨a,ha,b,hb,e⟩:=e;obtain⟨a1,a2⟩:=hr _ _ ha;obtain⟨b1,b2⟩:=hr _ _ hb;simp only[execOp,ho,a1,b1]
 suffices hs:h=h'∧bp D v∧(eqGuard op t x y (cv m a) (cv m b)).run P w=.ok () w∧(binOp op t (cv m a) (cv m b)).run P w=.ok (cv m v) w by
  obtain⟨rfl,hv,h1,h2⟩:=hs;grind[zB,qq]
 have shift:∀op,(op=.shl∨op=.shr)→wb op a b (λz=>fin z h)=some (v,h')→h=h'∧bp D v∧(eqGuard op t x y (cv m a) (cv m b)).run P w=.ok () w∧(binOp op t (cv m a) (cv m b)).run P w=.ok (cv m v) w:=by
  intro op fL e;unfold wb at e
  split at e
  ·rename_i k1 p k2 q _;simp only[qO,jZ]at e;obtain⟨z,hz,rfl,rfl⟩:=e;obtain⟨z1,z2⟩:=qJe (P:=P) (m:=m) (D:=D) (w:=w) hz k2;refine⟨rfl,z2,Zp (by grind) (by grind),?_⟩;rcases fL with rfl |rfl<;>exact z1
  grind
 unfold D5 at e
 split at e
 ·grind
 ·grind
 ·rename_i Im Io;simp only[qO]at e;obtain⟨d,hd,e⟩:=e;have Im:op≠.shl:=λhh=>Im hh;have Io:op≠.shr:=λhh=>Io hh;have gen:∀(k:EK),UE d=some k→(∀kk,d≠.int kk)→d≠.string→∀q,Xh k a b=some q→
    (∀x y,(eqGuard .eql t x y (cv m a) (cv m b)).run P w=.ok () w)∧(∀x y,(eqGuard .neq t x y (cv m a) (cv m b)).run P w=.ok () w)∧
    (binOp .eql t (cv m a) (cv m b)).run P w=.ok (.bool q) w∧(binOp .neq t (cv m a) (cv m b)).run P w=.ok (.bool !q) w:=by
   intro k hk hi hs q hq;have cQ:=qWM (λn=>Mi (m:=m) (w:=w) hd hk hq n);have mJ:(∀l,a≠.agg l)∧(a≠.cN∨b≠.cN)∧(∀kk n,a≠.int kk n)∧(∀s,a≠.str s):=by
    cases d<;>simp only[UE,reduceCtorEq,Option.some.injEq]at hk<;>first |(exact absurd rfl (hi _)) |(exact absurd rfl hs) |skip
    all_goals
     grind[Xh]
   obtain⟨g1,g2,g3,g4⟩:=mJ;refine⟨λx y=>Q2 g1 g2,λx y=>Q2 g1 g2,?_,?_⟩
   ·have:binOp .eql t (cv m a) (cv m b)=(do pure (Value.bool (← Op.equal t (cv m a) (cv m b)))):=by
     cases a<;>first |rfl |(exact absurd rfl (g3 _ _)) |grind
    simp_all
   ·have:binOp .neq t (cv m a) (cv m b)=(do pure (Value.bool (!(← Op.equal t (cv m a) (cv m b))))):=by
     cases a<;>first |rfl |(exact absurd rfl (g3 _ _)) |grind
    simp_all
  have pe:(∀kk,d≠.int kk)→d≠.string→∀(k:EK),UE d=some k→∀neg,(neg=false→op=.eql)→(neg=true→op=.neq)→lJ k neg a b (λz=>fin z h)=some (v,h')→
    h=h'∧bp D v∧(eqGuard op t x y (cv m a) (cv m b)).run P w=.ok () w∧(binOp op t (cv m a) (cv m b)).run P w=.ok (cv m v) w:=by
   intro hi hs k hk neg e0 e1 e;unfold lJ at e;simp only[qO,jZ]at e;obtain⟨q,hq,rfl,rfl⟩:=e;obtain⟨q1,q2,q3,q4⟩:=gen k hk hi hs q hq;cases neg
   ·obtain rfl:=e0 rfl;exact⟨rfl,trivial,q1 x y,by rw[q3,VQ];rfl⟩
   ·obtain rfl:=e1 rfl;exact⟨rfl,trivial,q2 x y,by rw[q4,Mq];rfl⟩
  have ps:∀fs l,d=.struct fs→(P.eqGuardType P.depth t||P.stoodInHeld t)=false→vu P 8 fs.toList=some l→∀neg,(neg=false→op=.eql)→(neg=true→op=.neq)→kU l neg a b (λz=>fin z h)=some (v,h')→
    h=h'∧bp D v∧(eqGuard op t x y (cv m a) (cv m b)).run P w=.ok () w∧(binOp op t (cv m a) (cv m b)).run P w=.ok (cv m v) w:=by
   intro fs l rP hg hl neg e0 e1 ee;subst rP;unfold kU at ee
   split at ee
   ·rename_i xs ys;simp only[qO,jZ]at ee;obtain⟨q,hq,rfl,rfl⟩:=ee;have cQ:=qgl (m:=m) (w:=w) hd hg hl hq;simp only[Bool.or_eq_false_iff]at hg;cases neg
    ·obtain rfl:=e0 rfl;refine⟨rfl,trivial,run_eqGuard_agg w _ _ _ _ _ _ hg.1,?_⟩;have:binOp .eql t (cv m (.agg xs)) (cv m (.agg ys))=(do pure (Value.bool (← Op.equal t (cv m (.agg xs)) (cv m (.agg ys))))):=rfl;rw[this,qq cQ,VQ];rfl
    ·obtain rfl:=e1 rfl;refine⟨rfl,trivial,run_eqGuard_agg w _ _ _ _ _ _ hg.1,?_⟩;have:binOp .neq t (cv m (.agg xs)) (cv m (.agg ys))=(do pure (Value.bool (!(← Op.equal t (cv m (.agg xs)) (cv m (.agg ys)))))):=rfl;rw[this,qq cQ,Mq];rfl
   grind
  split at e
  ·--numbers
   rw[N5]at e
   split at e
   ·rename_i k1 p k2 q;simp only[jO,qO,jZ]at e;obtain⟨hk,z,hz,rfl,rfl⟩:=e;have hk:k1=k2:=by grind
    subst hk;obtain⟨z1,z2⟩:=qzb (P:=P) (m:=m) (D:=D) (w:=w) hz;refine⟨rfl,z2,Q2 aA aA,?_⟩;have:binOp op t (cv m (.int k1 p)) (cv m (.int k1 q))=Oh op k1 p q:=by
     cases op<;>first |(exact absurd rfl Im) |(exact absurd rfl Io) |simp[binOp,cv,Oh]
    grind
   grind
  ·unfold XF at e
   split at e
   ·rename_i s1 s2;simp only[qO,jZ]at e;obtain⟨z,hz,rfl,rfl⟩:=e;obtain⟨z1,z2⟩:=qYE (P:=P) (m:=m) (D:=D) (w:=w) hz;refine⟨rfl,z2,Q2 aA aA,?_⟩;have:binOp op t (cv m (.str s1)) (cv m (.str s2))=Op.stringOp op ⟨s1.toArray⟩ ⟨s2.toArray⟩:=by
     cases op<;>first |(exact absurd rfl Im) |(exact absurd rfl Io) |rfl
    grind
   grind
  ·rename_i fs
   split at e
   ·grind
   ·grind
   grind
  ·rename_i hi hs _
   split at e
   ·simp only[qO]at e;obtain⟨k,hk,e⟩:=e;exact pe (λkk hh=>hi kk hh) (λhh=>hs hh) k hk false (λ_=>rfl) aA e
   ·simp only[qO]at e;obtain⟨k,hk,e⟩:=e;exact pe (λkk hh=>hi kk hh) (λhh=>hs hh) k hk true aA (λ_=>rfl) e
   grind
end Go.Ae
