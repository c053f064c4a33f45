/- The abstract executor of the program's form in Lean, shown sound: what an abstract heap says of a world; loads, stores, numbers, simple operations. -/
import Derived.Test.YthmopakmcboghaaGreatDoorMachineWakesAe1
import Derived.Below
import Derived.Lib.LaidTab
import Derived.Laws.StructEq
namespace Go.Ae
theorem xp {a b:Nat} (h:a≠b):Nat.beq a b=false:=by
 cases e:Nat.beq a b
 ·rfl
 ·exact absurd (Nat.eq_of_beq_eq_true e) h
theorem yb {a b:Nat} (h:Nat.beq a b=false):a≠b:=λe=>by subst e;rw[Nat.beq_refl]at h;cases h
theorem jd {a b:Nat} (h:Nat.beq a b=true):a=b:=Nat.eq_of_beq_eq_true h
theorem PT.fQ {α:Type} (i:Nat):(PT.e:PT α).get i=none:=rfl
theorem PT.iC {α:Type} (l:PT α) (v:Option α) (r:PT α) (i:Nat):(PT.n l v r).get i=bif Nat.beq i 0 then v else bif Nat.beq (i%2) 1 then l.get (i/2)else r.get (i/2-1):=by show Bool.rec (motive:=λ_=>Option α) (Bool.rec (motive:=λ_=>Option α) (r.get (i/2-1)) (l.get (i/2)) (Nat.beq (i%2) 1)) v (Nat.beq i 0)=_;cases Nat.beq i 0<;>cases Nat.beq (i%2) 1<;>rfl
theorem PT.tA {α:Type} (f i:Nat) (x:α):PT.fi (f+1) .e i x=bif Nat.beq i 0 then .n .e (some x) .e else bif Nat.beq (i%2) 1 then .n (PT.fi f .e (i/2) x) none .e else .n .e none (PT.fi f .e (i/2-1) x):=by show Bool.rec (motive:=λ_=>PT α) (Bool.rec (motive:=λ_=>PT α) (.n .e none (PT.fi f .e (i/2-1) x)) (.n (PT.fi f .e (i/2) x) none .e) (Nat.beq (i%2) 1)) (.n .e (some x) .e) (Nat.beq i 0)=_;cases Nat.beq i 0<;>cases Nat.beq (i%2) 1<;>rfl
theorem PT.tB {α:Type} (f i:Nat) (x:α) (l:PT α) (v:Option α) (r:PT α):PT.fi (f+1) (.n l v r) i x=bif Nat.beq i 0 then .n l (some x) r else bif Nat.beq (i%2) 1 then .n (PT.fi f l (i/2) x) v r else .n l v (PT.fi f r (i/2-1) x):=by show Bool.rec (motive:=λ_=>PT α) (Bool.rec (motive:=λ_=>PT α) (.n l v (PT.fi f r (i/2-1) x)) (.n (PT.fi f l (i/2) x) v r) (Nat.beq (i%2) 1)) (.n l (some x) r) (Nat.beq i 0)=_;cases Nat.beq i 0<;>cases Nat.beq (i%2) 1<;>rfl
theorem Kr {α:Type} (i:Nat):wx ([]:List α) i=none:=rfl
theorem Vg {α:Type} (a:α) (r:List α) (i:Nat):wx (a::r) i=bif Nat.beq i 0 then some a else wx r (i-1):=by show Bool.rec (motive:=λ_=>Option α) (wx r (i-1)) (some a) (Nat.beq i 0)=_;cases Nat.beq i 0<;>rfl
theorem Nx {α:Type} (l:List α):yD 0 l=some []:=rfl
theorem qZ0 {α:Type} (n:Nat):yD (n+1) ([]:List α)=none:=rfl
theorem K5 {α:Type} (n:Nat) (a:α) (r:List α):yD (n+1) (a::r)=(yD n r).bind λs=>some (a::s):=by show Option.rec (motive:=λ_=>Option (List α)) none (λs=>some (a::s)) (yD n r)=_;cases yD n r<;>rfl
theorem qkB {α:Type} (l:List α):yi 0 l=l:=rfl
theorem qXU {α:Type} (n:Nat):yi (n+1) ([]:List α)=[]:=rfl
theorem qQS {α:Type} (n:Nat) (a:α) (r:List α):yi (n+1) (a::r)=yi n r:=rfl
theorem HM {α:Type} (l:List α):UU l []=some l:=rfl
theorem qW6 {α:Type} (x:α) (xs:List α):UU [] (x::xs)=none:=rfl
theorem V4 {α:Type} (a:α) (l:List α) (x:α) (xs:List α):UU (a::l) (x::xs)=(UU l xs).bind λs=>some (x::s):=by show Option.rec (motive:=λ_=>Option (List α)) none (λs=>some (x::s)) (UU l xs)=_;cases UU l xs<;>rfl
theorem qQt {α:Type} (n:Nat) (xs:List α):kO [] (n+1) xs=none:=rfl
theorem GN {α:Type} (a:α) (l:List α) (n:Nat) (xs:List α):kO (a::l) (n+1) xs=(kO l n xs).bind λs=>some (a::s):=by show Option.rec (motive:=λ_=>Option (List α)) none (λs=>some (a::s)) (kO l n xs)=_;cases kO l n xs<;>rfl
theorem qWB (t:aL AV) (i:Nat):OU t i []=t:=rfl
theorem qKf (t:aL AV) (i:Nat) (x:AV) (r:List AV):OU t i (x::r)=OU (aL.set t i x) (i+1) r:=rfl
theorem yE (z:List AV) (t:aL AV) (i:Nat):ko z t i=(match aL.get t i with |some v=>some v |none=>wx z (i%z.length)):=by show Option.rec (motive:=λ_=>Option AV) (wx z (i%z.length)) (λv=>some v) (aL.get t i)=_;cases aL.get t i<;>rfl
theorem HO (z:List AV) (t:aL AV) (i:Nat):Qb z t i 0=some []:=rfl
theorem MI (z:List AV) (t:aL AV) (i n:Nat):Qb z t i (n+1)=(ko z t i).bind λv=>(Qb z t (i+1) n).bind λs=>some (v::s):=by
 show Option.rec (motive:=λ_=>Option (List AV)) none (λv=>Option.rec (motive:=λ_=>Option (List AV)) none (λs=>some (v::s)) (Qb z t (i+1) n)) (ko z t i)=_;cases ko z t i with
 |none=>rfl
 |some v=>cases Qb z t (i+1) n<;>rfl
theorem PT.oA {α:Type}:∀(f:Nat) (t:PT α) (i:Nat) (x:α) (j:Nat),i<f→(PT.fi f t i x).get j=if i=j then some x else t.get j:=by
 intro f
 induction f with
 |zero=>intro t i x j h;omega
 |succ f ih=>
  intro t i x j h;cases t with
  |e=>
   simp only[PT.tA];by_cases h0:i=0
   ·subst h0;simp only[Nat.beq_refl,cond_true,PT.iC,PT.fQ];by_cases hj:j=0
    ·subst hj;simp
    ·rw[iQ (λe=>hj e.symm)];have:Nat.beq j 0=false:=xp hj;rw[this];cases hb:Nat.beq (j%2) 1<;>simp
   ·have Eg:Nat.beq i 0=false:=xp h0;rw[Eg];simp only[cond_false];cases hm:Nat.beq (i%2) 1
    ·have rG:i%2≠1:=yb hm;simp only[cond_false,PT.iC,PT.fQ];by_cases hj:j=0
     ·subst hj;simp[h0]
     ·have tC:Nat.beq j 0=false:=xp hj;rw[tC];simp only[cond_false];cases fR:Nat.beq (j%2) 1
      ·have ml:j%2≠1:=yb fR;simp only[cond_false];rw[ih _ _ _ _ omQ];simp only[PT.fQ];by_cases e:i=j
       ·subst e;simp
       ·rw[iQ omQ,iQ e]
      ·have ml:j%2=1:=Nat.eq_of_beq_eq_true fR;simp only[cond_true];rw[iQ omQ]
    ·have rG:i%2=1:=Nat.eq_of_beq_eq_true hm;simp only[cond_true,PT.iC,PT.fQ];by_cases hj:j=0
     ·subst hj;simp[h0]
     ·have tC:Nat.beq j 0=false:=xp hj;rw[tC];simp only[cond_false];cases fR:Nat.beq (j%2) 1
      ·have ml:j%2≠1:=yb fR;simp only[cond_false];rw[iQ omQ]
      ·have ml:j%2=1:=Nat.eq_of_beq_eq_true fR;simp only[cond_true];rw[ih _ _ _ _ omQ];simp only[PT.fQ];by_cases e:i=j
       ·subst e;simp
       ·rw[iQ omQ,iQ e]
  |n l v r=>
   simp only[PT.tB];by_cases h0:i=0
   ·subst h0;simp only[Nat.beq_refl,cond_true,PT.iC];by_cases hj:j=0
    ·subst hj;simp
    ·rw[iQ (λe=>hj e.symm)];have:Nat.beq j 0=false:=xp hj;rw[this];simp
   ·have Eg:Nat.beq i 0=false:=xp h0;rw[Eg];simp only[cond_false];cases hm:Nat.beq (i%2) 1
    ·have rG:i%2≠1:=yb hm;simp only[cond_false,PT.iC];by_cases hj:j=0
     ·subst hj;simp[h0]
     ·have tC:Nat.beq j 0=false:=xp hj;rw[tC];simp only[cond_false];cases fR:Nat.beq (j%2) 1
      ·have ml:j%2≠1:=yb fR;simp only[cond_false];rw[ih _ _ _ _ omQ];by_cases e:i=j
       ·subst e;simp
       ·rw[iQ omQ,iQ e]
      ·have ml:j%2=1:=Nat.eq_of_beq_eq_true fR;simp only[cond_true];rw[iQ omQ]
    ·have rG:i%2=1:=Nat.eq_of_beq_eq_true hm;simp only[cond_true,PT.iC];by_cases hj:j=0
     ·subst hj;simp[h0]
     ·have tC:Nat.beq j 0=false:=xp hj;rw[tC];simp only[cond_false];cases fR:Nat.beq (j%2) 1
      ·have ml:j%2≠1:=yb fR;simp only[cond_false];rw[iQ omQ]
      ·have ml:j%2=1:=Nat.eq_of_beq_eq_true fR;simp only[cond_true];rw[ih _ _ _ _ omQ];by_cases e:i=j
       ·subst e;simp
       ·rw[iQ omQ,iQ e]
theorem PT.bE {α:Type} (t:PT α) (i:Nat) (x:α) (j:Nat):(t.set i x).get j=if i=j then some x else t.get j :=
 PT.oA (i+1) t i x j (Nat.lt_succ_self i)
@[simp] theorem PT.get_set_same {α:Type} (t:PT α) (i:Nat) (x:α):(t.set i x).get i=some x:=by rw[PT.bE,iJ rfl]
def XO (i m:Nat):Bool:=Nat.beq (Nat.land i m) 0
theorem PT.rH {α:Type} (i j m:Nat) (f:PT α→PT α) (t:PT α):PT.ll j m (PT.sub i m f t)=if XO i m=XO j m then f (PT.ll j m t)else PT.ll j m t:=by
 unfold XO;cases t with
 |e=>
  show PT.ll j m (Bool.rec (motive:=λ_=>PT α) (.n .e none (f .e)) (.n (f .e) none .e) (Nat.beq (Nat.land i m) 0))=_;cases Nat.beq (Nat.land i m) 0
  ·show Bool.rec (motive:=λ_=>PT α) (f .e) .e (Nat.beq (Nat.land j m) 0)=_;cases Nat.beq (Nat.land j m) 0<;>rfl
  ·show Bool.rec (motive:=λ_=>PT α) .e (f .e) (Nat.beq (Nat.land j m) 0)=_;cases Nat.beq (Nat.land j m) 0<;>rfl
 |n l v r=>
  show PT.ll j m (Bool.rec (motive:=λ_=>PT α) (.n l v (f r)) (.n (f l) v r) (Nat.beq (Nat.land i m) 0))=if _ then f (Bool.rec (motive:=λ_=>PT α) r l (Nat.beq (Nat.land j m) 0))else Bool.rec (motive:=λ_=>PT α) r l (Nat.beq (Nat.land j m) 0)
  cases Nat.beq (Nat.land i m) 0
  ·show Bool.rec (motive:=λ_=>PT α) (f r) l (Nat.beq (Nat.land j m) 0)=_;cases Nat.beq (Nat.land j m) 0<;>rfl
  ·show Bool.rec (motive:=λ_=>PT α) r (f l) (Nat.beq (Nat.land j m) 0)=_;cases Nat.beq (Nat.land j m) 0<;>rfl
theorem PT.nu {α:Type} (x:α) (t:PT α):(PT.mark x t).leaf=some x:=by cases t<;>rfl
noncomputable def uQ {α:Type}:List Nat→PT α→Nat→Option α
 |[],t,_=>t.leaf
 |m::r,t,i=>uQ r (PT.ll i m t) i
noncomputable def AF {α:Type}:List Nat→Nat→α→PT α→PT α
 |[],_,x=>PT.mark x
 |m::r,i,x=>PT.sub i m (AF r i x)
theorem qZ5 {α:Type} (i j:Nat) (x:α):∀(L:List Nat) (t:PT α),uQ L (AF L i x t) j=if(∀m∈L,XO i m=XO j m)then some x else uQ L t j:=by
 intro L
 induction L with
 |nil=>intro t;simp[uQ,AF,PT.nu]
 |cons m L ih=>
  intro t;simp only[uQ,AF,PT.rH];by_cases h:XO i m=XO j m
  ·rw[iJ h,ih];by_cases h2:∀k∈L,XO i k=XO j k
   ·rw[iJ h2,iJ (by intro k hk;rcases List.mem_cons.1 hk with rfl |hk;exact h;exact h2 k hk)]
   ·rw[iQ h2,iQ (λhh=>h2 λk hk=>hh k (iX _ hk))]
  ·rw[iQ h,iQ (λhh=>h (hh m (iK ..)))]
def KK:List Nat:=[2048,1024,512,256,128,64,32,16,8,4,2,1]
theorem Ym (i k:Nat):XO i (2 ^ k)=!i.testBit k:=by
 unfold XO;cases h:i.testBit k
 ·have:Nat.land i (2 ^ k)=0:=by
   apply Nat.eq_of_testBit_eq;intro n;show(i&&&2 ^ k).testBit n=_;rw[Nat.testBit_and,Nat.testBit_two_pow];by_cases e:k=n
   ·subst e;simp[h]
   ·simp[e]
  rw[this];rfl
 ·have:Nat.land i (2 ^ k)≠0:=by
   intro e;have:=congrArg (λx=>x.testBit k) e;simp only[Nat.zero_testBit]at this;have h2:(i&&&2 ^ k).testBit k=false:=this;rw[Nat.testBit_and,Nat.testBit_two_pow,h]at h2;simp at h2
  rw[xp this];rfl
theorem Vn (i j:Nat):(∀m∈KK,XO i m=XO j m)↔i%4096=j%4096:=by
 have hm:KK=[2 ^ 11,2 ^ 10,2 ^ 9,2 ^ 8,2 ^ 7,2 ^ 6,2 ^ 5,2 ^ 4,2 ^ 3,2 ^ 2,2 ^ 1,2 ^ 0]:=rfl;rw[hm];constructor
 ·intro h;have hb:∀k,k<12→i.testBit k=j.testBit k:=by
   intro k hk;have ny:2 ^ k∈[2 ^ 11,2 ^ 10,2 ^ 9,2 ^ 8,2 ^ 7,2 ^ 6,2 ^ 5,2 ^ 4,2 ^ 3,2 ^ 2,2 ^ 1,2 ^ 0]:=by
    have:k=0∨k=1∨k=2∨k=3∨k=4∨k=5∨k=6∨k=7∨k=8∨k=9∨k=10∨k=11:=by omega
    rcases this with rfl |rfl |rfl |rfl |rfl |rfl |rfl |rfl |rfl |rfl |rfl |rfl<;>simp
   have:=h _ ny;rw[Ym,Ym]at this;simpa using this
  apply Nat.eq_of_testBit_eq;intro n;rw[show 4096=2 ^ 12 from rfl,Nat.testBit_mod_two_pow,Nat.testBit_mod_two_pow];by_cases hn:n<12
  ·simp[hn,hb n hn]
  ·simp[hn]
 ·intro h m ny;have key:∀k,k<12→XO i (2 ^ k)=XO j (2 ^ k):=by
   intro k hk;rw[Ym,Ym];have:=congrArg (λx=>x.testBit k) h;simp only[show 4096=2 ^ 12 from rfl,Nat.testBit_mod_two_pow,hk,decide_true,Bool.true_and]at this;rw[this]
  simp only[List.mem_cons,List.not_mem_nil,or_false]at ny;rcases ny with rfl |rfl |rfl |rfl |rfl |rfl |rfl |rfl |rfl |rfl |rfl |rfl<;>exact key _ omQ
theorem PT.lB {α:Type} (t:PT α) (i:Nat):t.iz i=uQ KK t i:=rfl
theorem PT.oB {α:Type} (t:PT α) (i:Nat) (x:α):t.mJ i x=AF KK i x t:=rfl
theorem PT.nz {α:Type} (t:PT α) (i:Nat) (x:α) (j:Nat):(t.mJ i x).iz j=if i%4096=j%4096 then some x else t.iz j:=by
 rw[PT.lB,PT.lB,PT.oB,qZ5];by_cases h:i%4096=j%4096
 ·rw[iJ h,iJ ((Vn i j).2 h)]
 ·rw[iQ h,iQ (λhh=>h ((Vn i j).1 hh))]
theorem aL.get_eq {α:Type} (t:aL α) (i:Nat):t.get i=(PT.get t (i/4096)).bind λs=>s.iz i:=by show Option.rec (motive:=λ_=>Option α) none (λs=>PT.iz s i) (PT.get t (i/4096))=_;cases PT.get t (i/4096)<;>rfl
theorem aL.ey {α:Type} (i:Nat):aL.get (PT.e:aL α) i=none:=rfl
theorem aL.bE {α:Type} (t:aL α) (i:Nat) (x:α) (j:Nat):(t.set i x).get j=if i=j then some x else t.get j:=by
 rw[aL.get_eq,aL.get_eq];show((PT.set t (i/4096) (PT.mJ (Option.rec (motive:=λ_=>PT α) .e (λs=>s) (PT.get t (i/4096))) i x)).get (j/4096)).bind _=_;rw[PT.bE];by_cases hd:i/4096=j/4096
 ·rw[iJ hd,Option.bind_some,PT.nz,← hd];by_cases hm:i%4096=j%4096
  ·have:i=j:=by omega
   rw[iJ hm,iJ this]
  ·have:i≠j:=λe=>hm (by rw[e]);rw[iQ hm,iQ this];cases PT.get t (i/4096)<;>rfl
 ·have:i≠j:=λe=>hd (by rw[e]);rw[iQ hd,iQ this]
@[simp] theorem aL.get_set_same {α:Type} (t:aL α) (i:Nat) (x:α):(t.set i x).get i=some x:=by rw[aL.bE,iJ rfl]
theorem Qa (p:Nat×cG) (l:List (Nat×cG)) (b:Nat) (d:Option cG):Ge (p::l) b d=if p.1=b then some p.2 else Ge l b d:=by
 show Bool.rec (motive:=λ_=>Option cG) (Ge l b d) (some p.2) (Nat.beq p.1 b)=_;by_cases h:p.1=b
 ·rw[iJ h,h,Nat.beq_refl]
 ·rw[iQ h,xp h]
theorem VC:∀(n:Nat) (l:List (Nat×cG)) (b:Nat) (d:Option cG),Ge (Vo n l) b (Ge (yi n l) b d)=Ge l b d:=by
 intro n
 induction n with
 |zero=>intro l b d;rfl
 |succ n ih=>
  intro l b d;cases l with
  |nil=>rfl
  |cons p l=>show Ge (p::Vo n l) b (Ge (yi n l) b d)=_;rw[Qa,Qa,ih]
theorem VG:∀(l:List (Nat×cG)) (t:aL cG) (b:Nat),aL.get (MG l t) b=Ge l b (aL.get t b):=by
 intro l
 induction l with
 |nil=>intro t b;rfl
 |cons p l ih=>intro t b;show aL.get (aL.set (MG l t) p.1 p.2) b=_;rw[aL.bE,Qa,ih]
theorem AH.mN (h:AH) (b b':Nat) (x:cG):(h.put b x).get b'=if b=b' then some x else h.get b':=by show Ge ((b,x)::Vo 5 h.rc) b' (aL.get (MG (yi 5 h.rc) h.t) b')=_;rw[Qa,VG,VC];rfl
theorem AH.mO (h:AH) (b':Nat) (x:cG):(h.new x).get b'=if h.nx=b' then some x else h.get b':=by show Ge ((h.nx,x)::Vo 5 h.rc) b' (aL.get (MG (yi 5 h.rc) h.t) b')=_;rw[Qa,VG,VC];rfl
@[simp] theorem AH.aS (h:AH) (b:Nat) (x:cG):(h.put b x).get b=some x:=by rw[AH.mN,iJ rfl]
theorem AH.bn (h:AH) {b b':Nat} (x:cG) (e:b≠b'):(h.put b x).get b'=h.get b':=by rw[AH.mN,iQ e]
@[simp] theorem AH.bp (h:AH) (x:cG):(h.new x).get h.nx=some x:=by rw[AH.mO,iJ rfl]
theorem AH.bG (h:AH) {b:Nat} (x:cG) (e:h.nx≠b):(h.new x).get b=h.get b:=by rw[AH.mO,iQ e]
@[simp] theorem AH.tD (h:AH) (b:Nat) (x:cG):(h.put b x).nx=h.nx:=rfl
@[simp] theorem AH.Eh (h:AH) (x:cG):(h.new x).nx=h.nx+1:=rfl
theorem qvE (a b:IntKind):D6 a b=(a==b):=by cases a<;>cases b<;>rfl
theorem qx3 (t w:Bool):th t w=(t==w):=by cases t<;>cases w<;>rfl
theorem M3 (b:Bool):tp b=!b:=by cases b<;>rfl
theorem qxF (x y:Int):tj x y=x+y:=by cases x<;>cases y<;>rfl
theorem qxI (x y:Int):tn x y=x-y:=by
 cases x with
 |negSucc a=>rfl
 |ofNat a=>
  cases y with
  |negSucc b=>rfl
  |ofNat b=>
   show Bool.rec (motive:=λ_=>Int) (.negSucc (Nat.sub (Nat.sub b a) 1)) (.ofNat (Nat.sub a b)) (Nat.ble b a)=(a:Int)-(b:Int);cases hb:Nat.ble b a
   ·have:¬b≤a:=λh=>by rw[iY h]at hb;cases hb
    show Int.negSucc (b-a-1)=_;rw[Int.negSucc_eq];omega
   ·have:=Nat.le_of_ble_eq_true hb;show Int.ofNat (a-b)=_;show((a-b:Nat):Int)=_;omega
theorem Gs (x y:Int):MU x y=mK x y:=by cases x<;>cases y<;>rfl
theorem NQ (x y:Int):Aw x y=lm x y:=by cases x<;>cases y<;>rfl
theorem Oh (k:IntKind) (n:Int) (f:Int→R):Zx k n f=f (zg k n):=by
 cases k<;>first |rfl |skip
 ·cases n with
  |negSucc a=>rfl
  |ofNat a=>
   show Bool.rec (motive:=λ_=>R) (f (zg .i64 (.ofNat a))) (f (.ofNat a)) (Nat.ble a 9223372036854775807)=_;cases hb:Nat.ble a 9223372036854775807
   ·rfl
   ·simp only[zg,hb,cond_true]
 ·cases n with
  |negSucc a=>rfl
  |ofNat a=>
   show Bool.rec (motive:=λ_=>R) (f (zg .u64 (.ofNat a))) (f (.ofNat a)) (Nat.ble a 18446744073709551615)=_;cases hb:Nat.ble a 18446744073709551615
   ·rfl
   ·have:=Nat.le_of_ble_eq_true hb;simp only[zg];rw[Nat.mod_eq_of_lt omQ]
theorem qq2 (op:BinOp) (k:IntKind) (x y:Int) (f:AV→R):D7 op k x y f=ob (kb op k x y) f:=by
 cases op<;>first |rfl |skip
 ·show Zx k (tj x y) (λn=>f (.int k n))=f (.int k (zg k (x+y)));rw[Oh,qxF]
 ·show Zx k (tn x y) (λn=>f (.int k n))=f (.int k (zg k (x-y)));rw[Oh,qxI]
 ·show f (.bool (Aw x y))=_;rw[NQ];rfl
 ·show f (.bool (tp (Aw x y)))=_;rw[NQ,M3];rfl
 ·show f (.bool (MU x y))=_;rw[Gs];rfl
 ·show f (.bool (tp (MU y x)))=_;rw[Gs,M3];rfl
 ·show f (.bool (MU y x))=_;rw[Gs];rfl
 ·show f (.bool (tp (MU x y)))=_;rw[Gs,M3];rfl
theorem AG {α:Type} (x:Option α) (k:α→R):Option.rec (motive:=λ_=>R) none k x=ob x k:=by cases x<;>rfl
theorem rI (b:Bool) (x y:R):Bool.rec (motive:=λ_=>R) y x b=bif b then x else y:=by cases b<;>rfl
theorem OE (v:AV) (a b:R):zP v a b=(match v with | .bool t=>(match t with |true=>a |false=>b) |_=>none):=by cases v<;>first |rfl |(rename_i t;cases t<;>rfl)
theorem Ka (v:AV) (w:Bool) (a b:R):kL v w a b=(match v with | .bool t=>bif t==w then a else b |_=>b):=by cases v<;>first |rfl |(rename_i t;show Bool.rec (motive:=λ_=>R) b a (th t w)=_;rw[qx3,rI])
theorem N9 (c a b:AV) (k:AV→R):kV c a b k=(match c with | .bool t=>(match t with |true=>k a |false=>k b) |_=>none):=by cases c<;>first |rfl |(rename_i t;cases t<;>rfl)
theorem Uy (v:AV) (off:Nat) (k:AV→R):qn v off k=(match v with | .ptr b o=>k (.ptr b (o+off)) |_=>none):=by cases v<;>rfl
theorem Mj (v:AV) (off:Nat) (k:AV→R):Y9 v off k=(match v with | .agg cs=>ob (wx cs off) k |_=>none):=by cases v<;>first |rfl |exact AG _ _
theorem Kw (v i:AV) (sz:Nat) (k:AV→R):vt v i sz k=(match v,i with | .slice b off len _ _,.int _ (.ofNat a)=>bif Nat.ble (a+1) len then k (.ptr b (off+a*sz))else none |_,_=>none):=by
 cases v<;>first |rfl |skip
 cases i<;>first |rfl |skip
 rename_i n;cases n<;>first |rfl |exact rI _ _ _
theorem y5 (h:AH) (v:AV) (k:AV→R):jB h v k=(match v with | .ptr b off=>(match h.get b with |some (.cells c _ _)=>ob (c.dX off) k |some (.cJ t)=>ob (aL.get t off) k |_=>none) |_=>none):=by
 cases v<;>first |rfl |skip
 rename_i b off;show Option.rec (motive:=λ_=>R) none _ (h.get b)=(match h.get b with |some (.cells c _ _)=>ob (c.dX off) k |some (.cJ t)=>ob (aL.get t off) k |_=>none);cases h.get b with
 |none=>rfl
 |some x=>cases x<;>first |rfl |exact AG _ _
theorem gt (h:AH) (v:AV) (n:Nat) (k:AV→R):zc h v n k=(match v with | .ptr b off=>ob (yJ h b off n) λl=>k (.agg l) |_=>none):=by cases v<;>first |rfl |exact AG _ _
theorem GY (h:AH) (a x:AV) (n:Nat) (k:AH→R):jU h a x n k=(match a with | .ptr b off=>bif Nat.beq x.cells.length n then ob (vA h b off x.cells) k else none |_=>none):=by
 cases a<;>first |rfl |skip
 rename_i b off;show Bool.rec (motive:=λ_=>R) none (Option.rec (motive:=λ_=>R) none k (vA h b off x.cells)) (Nat.beq x.cells.length n)=_;rw[rI,AG]
theorem Ms (op:BinOp) (x y:AV) (k:AV→R):jo op x y k=(match x,y with | .int k1 a,.int k2 b=>bif k1==k2 then ob (kb op k1 a b) k else none |_,_=>none):=by
 cases x<;>first |rfl |skip
 cases y<;>first |rfl |skip
 rename_i k1 a k2 b;show Bool.rec (motive:=λ_=>R) none (D7 op k1 a b k) (D6 k1 k2)=_;rw[rI,qq2,qvE]
theorem JY (v:AV) (i:Nat) (k:AV→R):xv v i k=(match v with | .bJ l=>ob (wx l i) k |_=>none):=by cases v<;>first |rfl |exact AG _ _
theorem kR (c:CV) (f:AV) (a:List AV) (h:AH) (k:AV→AH→R):zA c f a h k=(match c f a h with |some q=>k q.1 q.2 |none=>none):=by unfold zA;cases c f a h<;>rfl
theorem xh {α:Type} (l:List α) (i:Nat):wx l i=l[i]?:=by
 induction l generalizing i with
 |nil=>simp[Kr]
 |cons a r ih=>
  cases i with
  |zero=>simp[Vg]
  |succ i=>simp only[Vg];rw[show Nat.beq (i+1) 0=false from rfl];simp[ih]
theorem wF {α:Type} (n:Nat) (l:List α):yi n l=l.drop n:=by
 induction n generalizing l with
 |zero=>simp[qkB]
 |succ n ih=>cases l<;>simp[qXU,qQS,ih]
theorem wQ {α:Type} {n:Nat} {l s:List α} (h:yD n l=some s):s=l.take n∧n≤l.length:=by
 induction n generalizing l s with
 |zero=>simp[Nx]at h;simp[h]
 |succ n ih=>
  cases l with
  |nil=>simp[qZ0]at h
  |cons a r=>simp only[K5,Option.bind_eq_some_iff]at h;obtain⟨t,ht,hs⟩:=h;obtain⟨e1,e2⟩:=ih ht;cases hs;simp[e1];omega
theorem qXH {α:Type} {n:Nat} {l s:List α} (h:yD n l=some s):s.length=n:=by obtain⟨e,h'⟩:=wQ h;rw[e,List.length_take];omega
theorem qZf {α:Type} {l xs r:List α} (h:UU l xs=some r):r=xs++l.drop xs.length∧xs.length≤l.length:=by
 induction xs generalizing l r with
 |nil=>cases l<;>(simp[HM]at h;simp[h])
 |cons x xs ih=>
  cases l with
  |nil=>simp[qW6]at h
  |cons a l=>simp only[V4,Option.bind_eq_some_iff]at h;obtain⟨t,ht,hs⟩:=h;obtain⟨e1,e2⟩:=ih ht;cases hs;simp[e1];omega
theorem GE {α:Type} {l:List α} {off:Nat} {xs r:List α} (h:kO l off xs=some r):r=l.take off++xs++l.drop (off+xs.length)∧off+xs.length≤l.length:=by
 induction off generalizing l r with
 |zero=>have h':UU l xs=some r:=h;obtain⟨e1,e2⟩:=qZf h';simp[e1];omega
 |succ n ih=>
  cases l with
  |nil=>simp[qQt]at h
  |cons a l=>simp only[GN,Option.bind_eq_some_iff]at h;obtain⟨t,ht,hs⟩:=h;obtain⟨e1,e2⟩:=ih ht;cases hs;refine⟨?_,by simp;omega⟩;rw[e1,show n+1+xs.length=(n+xs.length)+1 from by omega];simp
theorem gQ {α:Type} {n:Nat} {l:List α} (h:n≤l.length):yD n l=some (l.take n):=by
 induction n generalizing l with
 |zero=>cases l<;>simp[Nx]
 |succ n ih=>
  cases l with
  |nil=>simp at h
  |cons a r=>simp at h;simp[K5,ih h]
theorem qjH {α:Type} {xs l:List α} (h:xs.length≤l.length):UU l xs=some (xs++l.drop xs.length):=by
 induction xs generalizing l with
 |nil=>cases l<;>simp[HM]
 |cons x xs ih=>
  cases l with
  |nil=>simp at h
  |cons a r=>simp at h;simp[V4,ih h]
theorem Gq {α:Type} {xs:List α}:∀{off:Nat} {l:List α},off+xs.length≤l.length→kO l off xs=some (l.take off++xs++l.drop (off+xs.length)):=by
 intro off
 induction off with
 |zero=>intro l h;have:kO l 0 xs=UU l xs:=rfl;rw[this,qjH omQ];simp
 |succ n ih=>
  intro l h;cases l with
  |nil=>simp at h
  |cons a r=>simp at h;simp only[GN];rw[ih omQ,show n+1+xs.length=(n+xs.length)+1 from by omega];simp
theorem wY:∀(l:List AV) (i:Nat) (t:aL AV) (j:Nat),aL.get (OU t i l) j=if i≤j∧j<i+l.length then l[j-i]? else aL.get t j:=by
 intro l
 induction l with
 |nil=>intro i t j;simp only[qWB,List.length_nil];rw[iQ omQ]
 |cons a l ih=>
  intro i t j;simp only[qKf,ih,List.length_cons];by_cases h1:i+1≤j∧j<i+1+l.length
  ·rw[iJ h1,iJ omQ,show j-i=(j-(i+1))+1 by omega];simp
  ·rw[iQ h1,aL.bE];by_cases h2:i=j
   ·subst h2;rw[iJ rfl,iJ omQ];simp
   ·rw[iQ h2,iQ omQ]
theorem CT.dp (c:CT):c.len=c.toList.length:=by cases c<;>simp[CT.len,CT.toList]
theorem J6 {z:List AV} {t:aL AV} {i:Nat} {v:AV} (h:ko z t i=some v):gw z t i=v:=by simp only[gw,h]
theorem vk {a b:Nat} (h:Nat.ble a b=true):a≤b:=Nat.le_of_ble_eq_true h
theorem CT.rJ {c:CT} {i:Nat} {v:AV} (h:c.dX i=some v):wx c.toList i=some v:=by
 cases c with
 |dW xs=>exact h
 |tree n z t=>
  simp only[CT.dX]at h;cases hb:Nat.ble (i+1) n
  ·rw[hb]at h;cases h
  ·rw[hb]at h;have:=vk hb;rw[xh];simp only[CT.toList,List.getElem?_map,List.getElem?_range this,Option.map_some,J6 h]
theorem qGu {z:List AV} {t:aL AV}:∀{n i:Nat} {l:List AV},Qb z t i n=some l→l=(List.range' i n).map (gw z t):=by
 intro n
 induction n with
 |zero=>intro i l h;simp only[HO,Option.some.injEq]at h;subst h;rfl
 |succ n ih=>intro i l h;simp only[MI,Option.bind_eq_some_iff]at h;obtain⟨v,hv,s,hs,h⟩:=h;cases h;rw[List.range'_succ,List.map_cons,← ih hs,J6 hv]
theorem CT.lC {c:CT} {off n:Nat} {l:List AV} (h:c.fM off n=some l):yD n (yi off c.toList)=some l:=by
 cases c with
 |dW xs=>exact h
 |tree m z t=>
  simp only[CT.fM]at h;cases hn:Nat.beq n 0
  ·rw[hn]at h;simp only[cond_false]at h;cases hb:Nat.ble (off+n) m
   ·rw[hb]at h;cases h
   ·rw[hb]at h;have:=vk hb;rw[wF,gQ (by simp[CT.toList];omega),qGu h];simp only[CT.toList];rw[← List.map_drop,← List.map_take]
    congr 2
    apply List.ext_getElem?;intro i;by_cases hi:i<n
    ·rw[List.getElem?_take_of_lt hi,List.getElem?_drop,List.getElem?_range omQ,List.getElem?_range' hi];simp
    ·rw[List.getElem?_eq_none (by simp;omega),List.getElem?_eq_none (by simp;omega)]
  ·have:=jd hn;subst this;rw[hn]at h;simp only[cond_true]at h;rw[← h];rfl
theorem CT.lD {c c':CT} {off:Nat} {xs:List AV} (h:c.write off xs=some c'):kO c.toList off xs=some c'.toList:=by
 cases c with
 |dW ys=>simp only[CT.write,Option.bind_eq_some_iff]at h;obtain⟨s,hs,h⟩:=h;cases h;exact hs
 |tree n z t=>
  simp only[CT.write]at h;cases hb:Nat.ble (off+xs.length) n
  ·rw[hb]at h;cases h
  ·rw[hb]at h;have hle:=vk hb;cases h;rw[Gq (by simp[CT.toList];omega)]
   congr 1
   apply List.ext_getElem?;intro i;simp only[CT.toList];by_cases hi:i<n
   ·rw[List.getElem?_map,List.getElem?_range hi,Option.map_some];by_cases h1:i<off
    ·rw[List.getElem?_append_left (by simp;omega),List.getElem?_append_left (by simp;omega),List.getElem?_take_of_lt h1,List.getElem?_map,List.getElem?_range hi];simp only[Option.map_some,gw,yE,wY];rw[iQ omQ]
    ·by_cases h2:i<off+xs.length
     ·rw[List.getElem?_append_left (by simp;omega),List.getElem?_append_right (by simp;omega)];have hlen:(List.take off ((List.range n).map (gw z t))).length=off:=by simp;omega
      rw[hlen,iW (show i-off<xs.length by omega)];simp only[gw,yE,wY];rw[iJ omQ,iW (show i-off<xs.length by omega)]
     ·rw[List.getElem?_append_right (by simp;omega),List.getElem?_drop];have hlen:(List.take off ((List.range n).map (gw z t))++xs).length=off+xs.length:=by simp;omega
      rw[hlen,show off+xs.length+(i-(off+xs.length))=i by omega,List.getElem?_map,List.getElem?_range hi];simp only[Option.map_some,gw,yE,wY];rw[iQ omQ]
   ·rw[List.getElem?_eq_none (by simp;omega),List.getElem?_eq_none (by simp;omega)]
theorem CT.aG (xs:List AV):(CT.ofList xs).toList=xs:=by
 unfold CT.ofList;cases Nat.ble xs.length 16
 ·simp only[cond_false,CT.toList];apply List.ext_getElem?;intro i;by_cases hi:i<xs.length
  ·rw[List.getElem?_map,List.getElem?_range hi,iW hi];simp only[Option.map_some,gw,yE,wY];rw[iJ omQ,Nat.sub_zero,iW hi]
  ·rw[List.getElem?_eq_none (by simp;omega),List.getElem?_eq_none omQ]
 ·rfl
theorem qXC (z:List AV):∀(n i:Nat),i<z.length*n→(yI z n)[i]? =z[i%z.length]?:=by
 intro n
 induction n with
 |zero=>intro i h;simp at h
 |succ n ih=>
  intro i h;rw[Nat.mul_succ]at h;simp only[yI];by_cases hi:i<z.length
  ·rw[List.getElem?_append_left hi,Nat.mod_eq_of_lt hi]
  ·rw[List.getElem?_append_right omQ,ih _ omQ,← Nat.mod_eq_sub_mod omQ]
theorem qXo (z:List AV):∀n,(yI z n).length=z.length*n:=by
 intro n
 induction n with
 |zero=>rfl
 |succ n ih=>simp only[yI,List.length_append,ih,Nat.mul_succ];omega
theorem CT.mn (z:List AV) (n:Nat):(CT.uL z n).toList=yI z n:=by
 unfold CT.uL;cases Nat.ble (z.length*n) 16
 ·simp only[cond_false,CT.toList];apply List.ext_getElem?;intro i;by_cases hi:i<z.length*n
  ·rw[List.getElem?_map,List.getElem?_range hi,qXC z n i hi];have hz:0<z.length:=by
    rcases Nat.eq_zero_or_pos z.length with h |h
    ·rw[h]at hi;omega
    ·exact h
   have hm:=Nat.mod_lt i hz;simp only[Option.map_some,gw,yE,aL.ey,xh];rw[iW hm]
  ·rw[List.getElem?_eq_none (by simp;omega),List.getElem?_eq_none (by rw[qXo];omega)]
 ·rfl
theorem CT.oC (c:CT) (xs:List AV):(c.fN xs).toList=c.toList++xs:=by
 cases c with
 |dW ys=>exact CT.aG _
 |tree n z t=>
  simp only[CT.fN,CT.toList];apply List.ext_getElem?;intro i;by_cases hi:i<n
  ·rw[List.getElem?_map,List.getElem?_range omQ,List.getElem?_append_left (by simp;omega),List.getElem?_map,List.getElem?_range hi];simp only[Option.map_some,gw,yE,wY];rw[iQ omQ]
  ·rw[List.getElem?_append_right (by simp;omega)];by_cases h2:i<n+xs.length
   ·rw[List.getElem?_map,List.getElem?_range h2];have hlen:((List.range n).map (gw z t)).length=n:=by simp
    rw[hlen,iW (show i-n<xs.length by omega)];simp only[Option.map_some,gw,yE,wY];rw[iJ omQ,iW (show i-n<xs.length by omega)]
   ·rw[List.getElem?_eq_none (by simp;omega),List.getElem?_eq_none (by simp;omega)]
theorem CT.mo {c c':CT} {n:Nat} (h:c.pre n=some c'):yD n c.toList=some c'.toList:=by
 cases c with
 |dW ys=>simp only[CT.pre,Option.bind_eq_some_iff]at h;obtain⟨s,hs,h⟩:=h;cases h;exact hs
 |tree m z t=>
  simp only[CT.pre]at h;cases hb:Nat.ble n m
  ·rw[hb]at h;cases h
  ·rw[hb]at h;have:=vk hb;cases h;rw[gQ (by simp[CT.toList];omega)];simp only[CT.toList];rw[← List.map_take,List.take_range,show min n m=n by omega]
theorem CT.tE {c c':CT} {off n:Nat} (h:c.C0 off n=some c'):yD n (yi off c.toList)=some c'.toList:=by
 unfold CT.C0 at h;cases h0:Nat.beq off 0
 ·rw[h0]at h;simp only[cond_false,Option.bind_eq_some_iff]at h;obtain⟨l,hl,h⟩:=h;cases h;rw[CT.aG];exact CT.lC hl
 ·rw[h0]at h;have:=jd h0;subst this;exact CT.mo h
abbrev Mp:=Nat→Nat×Nat
mutual
def cv (m:Mp):AV→Value
 | .bool b=>.bool b
 | .int k n=>.int k n
 | .str s=>.string ⟨s.toArray⟩
 | .ptr b o=>.pointer (some ⟨(m b).1,o,none⟩)
 | .aP=>.pointer none
 | .slice b o l c p=>.slice (some ⟨(m b).1,o,none⟩) l (match p with |true=>(m b).2-c |false=>c)
 | .ak=>.slice none 0 0
 | .fn f a c=>.func (.func f) (aT m a).toArray (aT m c).toArray
 | .yield l=>.func (.yield (m l).1) #[] #[]
 | .dG=>.nilFunc
 | .iface t v=>.iface t (cv m v)
 | .cH=>.nilIface
 | .agg l=>.agg (aT m l).toArray
 | .bJ l=>.tuple (aT m l).toArray
 | .bU a=>.slice (some a) 0 0
 | .tail b o o' i=>.slice (some ⟨(m b).1,if(m b).2=i then o else o',none⟩) 0 ((m b).2-i)
 | .cI b=>.map (some (m b).1)
def aT (m:Mp):List AV→List Value
 |[]=>[]
 |a::r=>cv m a::aT m r
end
mutual
def bm (D:Nat→Prop):AV→Prop
 | .bool _=>True
 | .int _ _=>True
 | .str _=>True
 | .ptr b _=>D b
 | .aP=>True
 | .slice b _ _ _ _=>D b
 | .ak=>True
 | .fn _ a c=>aY D a∧aY D c
 | .yield l=>D l
 | .dG=>True
 | .iface _ v=>bm D v
 | .cH=>True
 | .agg l=>aY D l
 | .bJ l=>aY D l
 | .bU _=>True
 | .tail b _ _ _=>D b
 | .cI b=>D b
def aY (D:Nat→Prop):List AV→Prop
 |[]=>True
 |a::r=>bm D a∧aY D r
end
theorem zC (m:Mp) (l:List AV):aT m l=l.map (cv m):=by
 induction l with
 |nil=>rfl
 |cons a r ih=>simp[aT,ih]
@[simp] theorem dN (m:Mp) (l:List AV):(aT m l).length=l.length:=by simp[zC]
theorem Jr (m:Mp) (l r:List AV):aT m (l++r)=aT m l++aT m r:=by simp[zC]
theorem xJ (D:Nat→Prop) (l:List AV):aY D l↔∀v∈l,bm D v:=by
 induction l with
 |nil=>simp[aY]
 |cons a r ih=>simp[aY,ih]
theorem yp {D:Nat→Prop} {l r:List AV}:aY D (l++r)↔aY D l∧aY D r:=by simp only[xJ,List.mem_append];exact⟨λh=>⟨λv hv=>h v (.inl hv),λv hv=>h v (.inr hv)⟩,λh v hv=>hv.elim (h.1 v) (h.2 v)⟩
theorem QI {D:Nat→Prop} {l:List AV} (n:Nat) (h:aY D l):aY D (l.take n):=by rw[xJ]at*;exact λv hv=>h v (List.mem_of_mem_take hv)
theorem XJ {D:Nat→Prop} {l:List AV} (n:Nat) (h:aY D l):aY D (l.drop n):=by rw[xJ]at*;exact λv hv=>h v (List.mem_of_mem_drop hv)
mutual
theorem wI {m m':Mp} {D:Nat→Prop} (hm:∀b,D b→m' b=m b):∀v:AV,bm D v→cv m' v=cv m v
 | .bool _,_=>rfl
 | .int _ _,_=>rfl
 | .str _,_=>rfl
 | .ptr b o,h=>by simp only[bm]at h;simp only[cv,hm b h]
 | .aP,_=>rfl
 | .slice b o l c p,h=>by simp only[bm]at h;cases p<;>simp only[cv,hm b h]
 | .ak,_=>rfl
 | .fn f a c,h=>by simp only[bm]at h;simp only[cv,ge hm a h.1,ge hm c h.2]
 | .yield l,h=>by simp only[bm]at h;simp only[cv,hm l h]
 | .dG,_=>rfl
 | .iface t v,h=>by simp only[bm]at h;simp only[cv,wI hm v h]
 | .cH,_=>rfl
 | .agg l,h=>by simp only[bm]at h;simp only[cv,ge hm l h]
 | .bJ l,h=>by simp only[bm]at h;simp only[cv,ge hm l h]
 | .bU _,_=>rfl
 | .tail b o o' i,h=>by simp only[bm]at h;simp only[cv,hm b h]
 | .cI b,h=>by simp only[bm]at h;simp only[cv,hm b h]
theorem ge {m m':Mp} {D:Nat→Prop} (hm:∀b,D b→m' b=m b):∀l:List AV,aY D l→aT m' l=aT m l
 |[],_=>rfl
 |a::r,h=>by simp only[aY]at h;simp only[aT,wI hm a h.1,ge hm r h.2]
end
mutual
theorem wk {D D':Nat→Prop} (hd:∀b,D b→D' b):∀v:AV,bm D v→bm D' v
 | .bool _,_=>trivial
 | .int _ _,_=>trivial
 | .str _,_=>trivial
 | .ptr b o,h=>hd b h
 | .aP,_=>trivial
 | .slice b o l c p,h=>hd b h
 | .ak,_=>trivial
 | .fn f a c,h=>by simp only[bm]at*;exact⟨vR hd a h.1,vR hd c h.2⟩
 | .yield l,h=>hd l h
 | .dG,_=>trivial
 | .iface t v,h=>by simp only[bm]at*;exact wk hd v h
 | .cH,_=>trivial
 | .agg l,h=>by simp only[bm]at*;exact vR hd l h
 | .bJ l,h=>by simp only[bm]at*;exact vR hd l h
 | .bU _,_=>trivial
 | .tail b _ _ _,h=>hd b h
 | .cI b,h=>hd b h
theorem vR {D D':Nat→Prop} (hd:∀b,D b→D' b):∀l:List AV,aY D l→aY D' l
 |[],_=>trivial
 |a::r,h=>by simp only[aY]at*;exact⟨wk hd a h.1,vR hd r h.2⟩
end
def gk:AX→Code
 | .normal=>.skip
 | .exit i=>.exit i
 | .goto l=>.goto l
 | .ret=>.ret
def zN (e:Int×Int×Nat):MapEntry:={ key:=.int .i64 e.1,val:=.int .i64 e.2.1,born:=e.2.2 }
def cK (P:Program) (m:Mp) (x:cG) (b:Nat×Nat) (w:World):Prop :=
 match x with
 | .cells c e o=>∃(rest:List Value) (fr:Nat×Nat),w.heap[b.1]? =some (.cells (aT m c.toList++rest).toArray e fr)∧(o=false→rest=[])∧
   (∀i,i<c.toList.length+rest.length→¬(fr.1≤i∧i<fr.2))∧(o=true→∀n,aM P e=some n→c.toList.length≤b.2*n∧b.2*n≤c.toList.length+rest.length)
 | .dead=>True
 | .iter s pos=>w.heap[b.1]? =some (.stringIter ⟨s.toArray⟩ pos)
 | .loop st bO f pos L vs d=>∃(f':FuncId) (tmps:Array Value) (ps:Array Tmp) (g:Operand) (assign body:Code) (fn:Func) (bd:Code),
   w.heap[b.1]? =some (.loop { state:=st,pending:=bO.map gk,fn:=f',tmps,params:=ps,assign,body,defers:=(m d).1 })∧
   P.funcs[f]? =some fn∧fn.body=some bd∧zT bd pos=some (.rangeFunc g ps assign body)∧fn.ntmps≤tmps.size∧
   L.length=vs.length∧∀p∈L.zip vs,tmps[p.1]? =some (cv m p.2)
 | .ij=>w.heap[b.1]? =some (.deferred (some []))
 | .nr=>∃o,w.heap[b.1]? =some o
 | .cJ t=>∃C e fr,w.heap[b.1]? =some (.cells (List.toArray C) e fr)∧∀i v,aL.get t i=some v→C[i]? =some (cv m v)
 | .mp l c=>w.heap[b.1]? =some (.map (l.map zN).toArray c)
def cr (D:Nat→Prop):cG→Prop
 | .cells c _ _=>aY D c.toList
 | .loop _ _ _ _ _ vs d=>aY D vs∧D d
 | .cJ t=>∀i v,aL.get t i=some v→bm D v
 |_=>True
def cG.live:cG→Prop
 | .dead=>False
 | .cJ _=>False
 |_=>True
def live (h:AH) (b:Nat):Prop:=∃x,h.get b=some x∧x.live
def own (m:Mp) (D:Nat→Prop) (h:AH) (c:Nat):Prop:=∃b,D b∧live h b∧(m b).1=c
structure Rel0 (P:Program) (m:Mp) (D:Nat→Prop) (h:AH) (w:World):Prop where
  br:∀b,D b→∃x,h.get b=some x∧cK P m x (m b) w∧cr D x
  inj:∀b b',D b→D b'→live h b→live h b'→(m b).1=(m b').1→b=b'
  lt:∀b,D b→b<h.nx
  cJ:∀b t,D b→h.get b=some (.cJ t)→¬own m D h (m b).1
def Gl (P:Program) (w:World):Prop:=∀p∈gtab,∃g,P.globalNamed p.1=some g∧Lib.TabIs P w p.1 p.2.1 p.2.2
def sA (P:Program) (m:Mp) (D:Nat→Prop) (h:AH) (w:World):Prop:=∀p∈gtab,∃g,P.globalNamed p.1=some g∧Lib.TabIs P w p.1 p.2.1 p.2.2∧¬own m D h g
structure Rel (P:Program) (m:Mp) (D:Nat→Prop) (h:AH) (w:World):Prop extends Rel0 P m D h w where
  gl:sA P m D h w
theorem sA.gl {P:Program} {m:Mp} {D:Nat→Prop} {h:AH} {w:World} (r:sA P m D h w):Gl P w:=λp hp=>let ⟨g,h1,h2,_⟩:=r p hp;⟨g,h1,h2⟩
theorem Xb {P:Program} {w w':World} {name:String} {k:IntKind} {zs:List Int} {g:Nat} (hg:P.globalNamed name=some g) (h:Lib.TabIs P w name k zs):g<w.heap.size∧(w'.heap[g]? =w.heap[g]? →Lib.TabIs P w' name k zs):=by
 unfold Lib.TabIs World.var? at*;simp only[hg,Option.bind_some]at h ⊢;refine⟨?_,λe=>by rw[e];exact h⟩;rcases Nat.lt_or_ge g w.heap.size with h' |h'
 ·exact h'
 ·rw[Array.getElem?_eq_none h']at h;simp at h
structure Ext (m:Mp) (D:Nat→Prop) (h:AH) (w:World) (m':Mp) (D':Nat→Prop) (h':AH) (w':World):Prop where
  oD:∀b,D b→D' b
  map:∀b,D b→m' b=m b
  size:w.heap.size≤w'.heap.size
  keep:∀c,c<w.heap.size→¬own m D h c→w'.heap[c]? =w.heap[c]? ∧¬own m' D' h' c
  nx:h.nx≤h'.nx
  un:∀b,b<h.nx→¬D b→h'.get b=h.get b∧¬D' b
  os:w'.os=w.os
  tape:w'.tape=w.tape
  output:w'.output=w.output
  dm:∀b,D' b↔D b∨(h.nx≤b∧b<h'.nx)
  ni:∀b t,D' b→h'.get b=some (.cJ t)→D b∧h.get b=some (.cJ t)
theorem sA.ext {P:Program} {m m':Mp} {D D':Nat→Prop} {h h':AH} {w w':World} (X:Ext m D h w m' D' h' w') (r:sA P m D h w):sA P m' D' h' w':=λp hp=>by
 obtain⟨g,h1,h2,h3⟩:=r p hp;obtain⟨k1,k2⟩:=Xb (w':=w') h1 h2;obtain⟨e1,e2⟩:=X.keep g k1 h3;exact⟨g,h1,k2 e1,e2⟩
theorem Ext.rel {P:Program} {m m':Mp} {D D':Nat→Prop} {h h':AH} {w w':World} (r:Rel P m D h w) (x:Ext m D h w m' D' h' w'∧Rel0 P m' D' h' w'):Ext m D h w m' D' h' w'∧Rel P m' D' h' w':=⟨x.1,{ toRel0:=x.2,gl:=r.gl.ext x.1 }⟩
theorem Ext.refl (m:Mp) (D:Nat→Prop) (h:AH) (w:World):Ext m D h w m D h w :=
 ⟨λ_ x=>x,λ_ _=>rfl,Nat.le_refl _,λ_ _ n=>⟨rfl,n⟩,Nat.le_refl _,λ_ _ n=>⟨rfl,n⟩,rfl,rfl,rfl,λ_=>⟨.inl,λx=>x.elim id λy=>by omega⟩,λ_ _ x y=>⟨x,y⟩⟩
theorem Ext.trans {m m' HQ:Mp} {D D' HR:Nat→Prop} {h h' nA:AH} {w w' Ia:World} (a:Ext m D h w m' D' h' w') (b:Ext m' D' h' w' HQ HR nA Ia):Ext m D h w HQ HR nA Ia where
 oD:=λx hx=>b.oD x (a.oD x hx)
 map:=λx hx=>(b.map x (a.oD x hx)).trans (a.map x hx)
 size:=Nat.le_trans a.size b.size
 keep:=λc hc hn=>by
  obtain⟨e1,n1⟩:=a.keep c hc hn;obtain⟨e2,n2⟩:=b.keep c (Nat.lt_of_lt_of_le hc a.size) n1;exact⟨e2.trans e1,n2⟩
 nx:=Nat.le_trans a.nx b.nx
 un:=λx hx hn=>by
  obtain⟨e1,n1⟩:=a.un x hx hn;obtain⟨e2,n2⟩:=b.un x (Nat.lt_of_lt_of_le hx a.nx) n1;exact⟨e2.trans e1,n2⟩
 os:=b.os.trans a.os
 tape:=b.tape.trans a.tape
 output:=b.output.trans a.output
 dm:=λx=>by
  have h1:=a.nx;have h2:=b.nx;rw[b.dm,a.dm];constructor
  ·rintro((h |h) |h)
   ·exact .inl h
   ·exact .inr ⟨h.1,by omega⟩
   ·exact .inr ⟨by omega,h.2⟩
  ·rintro(h |h)
   ·exact .inl (.inl h)
   ·by_cases hx:x<h'.nx
    ·exact .inl (.inr ⟨h.1,hx⟩)
    ·exact .inr ⟨by omega,h.2⟩
 ni:=λx t hx hg=>by
  obtain⟨h1,h2⟩:=b.ni x t hx hg;exact a.ni x t h1 h2
theorem Ext.cv {m m':Mp} {D D':Nat→Prop} {h h':AH} {w w':World} (e:Ext m D h w m' D' h' w') {v:AV} (hv:bm D v):Ae.cv m' v=Ae.cv m v:=wI e.map v hv
theorem Ext.aT {m m':Mp} {D D':Nat→Prop} {h h':AH} {w w':World} (e:Ext m D h w m' D' h' w') {l:List AV} (hv:aY D l):Ae.aT m' l=Ae.aT m l:=ge e.map l hv
theorem Ext.bm {m m':Mp} {D D':Nat→Prop} {h h':AH} {w w':World} (e:Ext m D h w m' D' h' w') {v:AV} (hv:Ae.bm D v):Ae.bm D' v:=wk e.oD v hv
theorem Ext.aY {m m':Mp} {D D':Nat→Prop} {h h':AH} {w w':World} (e:Ext m D h w m' D' h' w') {l:List AV} (hv:Ae.aY D l):Ae.aY D' l:=vR e.oD l hv
theorem cK.congr {P:Program} {m m':Mp} {D:Nat→Prop} (hm:∀b,D b→m' b=m b) {x:cG} {b:Nat×Nat} {w w':World} (hx:cr D x) (hw:w'.heap[b.1]? =w.heap[b.1]?) (h:cK P m x b w):cK P m' x b w':=by
 cases x with
 |cells c e o=>simp only[cr]at hx;simp only[cK]at*;rw[hw,ge hm c.toList hx];exact h
 |dead=>trivial
 |iter s pos=>simp only[cK]at*;rw[hw];exact h
 |loop st bO f pos L vs d=>
  simp only[cr]at hx;simp only[cK]at*;obtain⟨f',tmps,ps,g,assign,body,fn,bd,h1,h2,h3,h4,h5,h6,h7⟩:=h;refine⟨f',tmps,ps,g,assign,body,fn,bd,?_,h2,h3,h4,h5,h6,?_⟩
  ·rw[hw,hm d hx.2];exact h1
  ·intro p hp;rw[wI hm p.2 ((xJ D vs).1 hx.1 _ (List.of_mem_zip hp).2)];exact h7 p hp
 |ij=>simp only[cK]at*;rw[hw];exact h
 |nr=>simp only[cK]at*;rw[hw];exact h
 |cJ t=>simp only[cr]at hx;simp only[cK]at*;obtain⟨C,e,fr,h1,h2⟩:=h;exact⟨C,e,fr,by rw[hw];exact h1,λi v hv=>by rw[wI hm v (hx i v hv)];exact h2 i v hv⟩
 |mp l c=>simp only[cK]at*;rw[hw];exact h
theorem cr.mono {D D':Nat→Prop} (hd:∀b,D b→D' b) {x:cG} (h:cr D x):cr D' x:=by
 cases x<;>simp only[cr]at* <;>first |exact vR hd _ h |exact⟨vR hd _ h.1,hd _ h.2⟩ |exact λi v hv=>wk hd v (h i v hv) |trivial
theorem cK.inside {P:Program} {m:Mp} {x:cG} {b:Nat×Nat} {w:World} (hl:x.live) (h:cK P m x b w):b.1<w.heap.size:=by
 have key:∀o,w.heap[b.1]? =some o→b.1<w.heap.size:=λo e=>(Array.getElem?_eq_some_iff.1 e).1;cases x with
 |cells c e o=>obtain⟨r,fr,h,_⟩:=h;exact key _ h
 |dead=>exact hl.elim
 |iter s pos=>exact key _ h
 |loop st bO f pos L vs d=>obtain⟨f',tmps,ps,g,assign,body,fn,bd,h1,_⟩:=h;exact key _ h1
 |ij=>exact key _ h
 |nr=>obtain⟨o,h⟩:=h;exact key _ h
 |cJ t=>exact hl.elim
 |mp l c=>exact key _ h
theorem cK.fF {P:Program} {m:Mp} {t:aL AV} {b:Nat×Nat} {w:World} (h:cK P m (.cJ t) b w):b.1<w.heap.size:=by obtain⟨C,e,fr,h,_⟩:=h;exact(Array.getElem?_eq_some_iff.1 h).1
theorem Rel.inside {P:Program} {m:Mp} {D:Nat→Prop} {h:AH} {w:World} (r:Rel P m D h w) {b:Nat} (hb:D b) (hl:live h b):(m b).1<w.heap.size:=by obtain⟨x,hx,hr,_⟩:=r.br b hb;obtain⟨y,hy,fS⟩:=hl;rw[hx]at hy;cases hy;exact hr.inside fS
theorem Rel.new {P:Program} {m:Mp} {D:Nat→Prop} {h:AH} {w w0:World} (r:Rel P m D h w) (x:cG) (o:Obj) (room:Nat)
  (eZ:w0.heap=w.heap.push o) (tF:w0.os=w.os) (fT:w0.tape=w.tape) (fm:w0.output=w.output)
  (hx:cr D x) (lE:cK P m x (w.heap.size,room) w0) (fG:∀t,x≠.cJ t:=by intro t hh;cases hh) :
  let m':Mp:=λb=>if b=h.nx then(w.heap.size,room)else m b
  let D':Nat→Prop:=λb=>b=h.nx∨D b
  Ext m D h w m' D' (h.new x) w0∧Rel P m' D' (h.new x) w0:=by
 intro m' D';refine Ext.rel r ?_;have hm:∀b,D b→m' b=m b:=λb hb=>by
  have:=r.lt b hb;simp only[m'];rw[iQ omQ]
 have hold:∀c,c<w.heap.size→w0.heap[c]? =w.heap[c]?:=λc hc=>by
  rw[eZ,Array.getElem?_push,iQ omQ]
 have cD:∀b,D b→(h.new x).get b=h.get b:=λb hb=>AH.bG h x (by have:=r.lt b hb;omega);have bM:∀b,D b→(live (h.new x) b↔live h b):=λb hb=>by unfold live;rw[cD b hb]
 refine⟨⟨λb hb=>.inr hb,hm,?_,?_,Nat.le_succ _,?_,tF,fT,fm,λb=>?_,?_⟩,⟨?_,?_,?_,?_⟩⟩
 ·rw[eZ];simp
 ·intro c hc hn;refine⟨hold c hc,?_⟩;rintro⟨b,hb,hl,he⟩;rcases hb with rfl |hb
  ·simp only[m',iJ]at he;omega
  ·exact hn ⟨b,hb,(bM b hb).1 hl,by rw[← hm b hb];exact he⟩
 ·intro b hb hn;refine⟨AH.bG h x omQ,?_⟩;rintro(rfl |hd)
  ·omega
  ·exact hn hd
 ·show b=h.nx∨D b↔D b∨(h.nx≤b∧b<h.nx+1);constructor
  ·rintro(rfl |hb)
   ·exact .inr ⟨Nat.le_refl _,Nat.lt_succ_self _⟩
   ·exact .inl hb
  ·rintro(hb |hb)
   ·exact .inr hb
   ·exact .inl omQ
 ·intro b t hb hg;rcases hb with rfl |hb
  ·rw[AH.bp]at hg;cases hg;exact absurd rfl (fG t)
  ·exact⟨hb,by rw[← cD b hb];exact hg⟩
 ·intro b hb;rcases hb with rfl |hb
  ·refine⟨x,AH.bp h x,?_,hx.mono λb hb=>.inr hb⟩;have e:m' h.nx=(w.heap.size,room):=by simp[m']
   rw[e];exact lE.congr hm hx rfl
  ·obtain⟨y,hy,fH,eU⟩:=r.br b hb;refine⟨y,(cD b hb).trans hy,?_,eU.mono λb hb=>.inr hb⟩;rw[hm b hb];cases y with
   |dead=>trivial
   |cJ t=>exact fH.congr hm eU (hold _ fH.fF)
   |_=>exact fH.congr hm eU (hold _ (cK.inside (by exact True.intro) fH))
 ·intro b b' hb bA hl dQ he;rcases hb with rfl |hb<;>rcases bA with rfl |bA
  ·rfl
  ·have h1:=r.inside bA ((bM b' bA).1 dQ);rw[hm b' bA]at he;simp only[m',iJ]at he;omega
  ·have h1:=r.inside hb ((bM b hb).1 hl);rw[hm b hb]at he;simp only[m',iJ]at he;omega
  ·rw[hm b hb,hm b' bA]at he;exact r.inj b b' hb bA ((bM b hb).1 hl) ((bM b' bA).1 dQ) he
 ·intro b hb;rcases hb with rfl |hb
  ·simp
  ·have:=r.lt b hb;simp;omega
 ·rintro b t hb hg ⟨b',bA,dQ,he⟩;have cx:b≠b':=by
   rintro rfl;obtain⟨y,hy,fS⟩:=dQ;rw[hg]at hy;cases hy;exact fS
  rcases hb with rfl |hb
  ·rcases bA with rfl |bA
   ·exact cx rfl
   ·have h1:=r.inside bA ((bM b' bA).1 dQ);rw[hm b' bA]at he;simp only[m',iJ]at he;omega
  ·rw[cD b hb]at hg;rcases bA with rfl |bA
   ·obtain⟨y,hy,fH,_⟩:=r.br b hb;rw[hg]at hy;cases hy;have:=fH.fF;rw[hm b hb]at he;simp only[m',iJ]at he;omega
   ·refine r.cJ b t hb hg ⟨b',bA,(bM b' bA).1 dQ,?_⟩;rw[hm b hb,hm b' bA]at he;exact he
theorem Rel.put {P:Program} {m:Mp} {D:Nat→Prop} {h:AH} {w w0:World} (r:Rel P m D h w) (b:Nat) (x:cG) (hb:D b) (nB:live h b)
  (AI:w0.heap.size=w.heap.size) (dY:∀c,c≠(m b).1→w0.heap[c]? =w.heap[c]?) (tF:w0.os=w.os) (fT:w0.tape=w.tape) (fm:w0.output=w.output)
  (hx:cr D x) (lE:cK P m x (m b) w0) (fG:∀t,x≠.cJ t:=by intro t hh;cases hh) :
  Ext m D h w m D (h.put b x) w0∧Rel P m D (h.put b x) w0:=by
 refine Ext.rel r ?_;have cD:∀b',b'≠b→(h.put b x).get b'=h.get b':=λb' hn=>AH.bn h x (λe=>hn e.symm);have bM:∀b',live (h.put b x) b'→live h b':=λb' hl=>by
  by_cases e:b'=b
  ·subst e;exact nB
  ·unfold live at*;rw[cD b' e]at hl;exact hl
 refine⟨⟨λ_ h=>h,λ_ _=>rfl,by omega,?_,Nat.le_refl _,?_,tF,fT,fm,λb=>⟨.inl,λhb=>hb.elim id λhb=>by simp at hb;omega⟩,?_⟩,⟨?_,?_,?_,?_⟩⟩
 ·intro c hc hn;refine⟨dY c λe=>hn ⟨b,hb,nB,e.symm⟩,?_⟩;rintro⟨b',bA,dQ,he⟩;exact hn ⟨b',bA,bM b' dQ,he⟩
 ·intro b' bA hn;exact⟨cD b' (λe=>hn (e▸hb)),hn⟩
 ·intro b' t bA hg;by_cases e:b'=b
  ·subst e;rw[AH.aS]at hg;cases hg;exact absurd rfl (fG t)
  ·exact⟨bA,by rw[← cD b' e];exact hg⟩
 ·intro b' bA;by_cases e:b'=b
  ·subst e;exact⟨x,AH.aS h b' x,lE,hx⟩
  ·obtain⟨y,hy,fH,eU⟩:=r.br b' bA;refine⟨y,(cD b' e).trans hy,?_,eU⟩;cases y with
   |dead=>trivial
   |cJ t=>exact fH.congr (λ_ _=>rfl) eU (dY _ λee=>r.cJ b' t bA hy ⟨b,hb,nB,ee.symm⟩)
   |_=>refine fH.congr (λ_ _=>rfl) eU (dY _ λee=>e ?_);exact r.inj b' b bA hb ⟨_,hy,trivial⟩ nB ee
 ·intro b1 b2 h1 h2 l1 l2 he;exact r.inj b1 b2 h1 h2 (bM b1 l1) (bM b2 l2) he
 ·intro b' bA;exact r.lt b' bA
 ·rintro b' t bA hg ⟨b2,dS,lF,he⟩;by_cases e:b'=b
  ·subst e;have:=r.inj b2 b' dS bA (bM b2 lF) nB he;subst this;obtain⟨y,hy,fS⟩:=lF;rw[hg]at hy;cases hy;exact fS
  ·rw[cD b' e]at hg;exact r.cJ b' t bA hg ⟨b2,dS,bM b2 lF,he⟩
end Go.Ae
namespace Go.Ae
open Go
def uR:Value→Bool
 | .agg _=>false
 | .tuple _=>false
 |_=>true
theorem Y7 {α β:Type} (P:Program) (e:Sem α) (f:α→Sem β) (w:World) :
  (Sem.bind e f).run P w=match e.run P w with | .ok a w'=>(f a).run P w' | .halt h w'=>.halt h w':=by
 induction e generalizing w with
 |pure a=>rfl
 |load m a k ih=>simp only[Sem.bind,Sem.run];split<;>first |exact ih _ _ |(split<;>first |exact ih _ _ |rfl)
 |store m a v k ih=>
  cases v<;>simp only[Sem.bind,Sem.run]<;>(repeat' split)<;>first |exact ih _ |rfl |simp_all
 |new o k ih=>exact ih _ _
 |shape r k ih=>exact ih _ _
 |freeze a n k ih=>exact ih _
 |frozen a k ih=>exact ih _ _
 |getObj r k ih=>simp only[Sem.bind,Sem.run];split<;>first |exact ih _ _ |rfl
 |setObj r o k ih=>simp only[Sem.bind,Sem.run];split<;>first |exact ih _ |rfl
 |choose q k ih=>simp only[Sem.bind,Sem.run];split<;>exact ih _ _
 |sys c k ih=>exact ih _ _
 |program k ih=>exact ih _ _
 |mark m k ih=>exact ih _
 |halt h=>rfl
theorem qV {α β:Type} {P:Program} {e:Sem α} {f:α→Sem β} {w w':World} {a:α} (h:e.run P w=.ok a w'):(e>>=f).run P w=(f a).run P w':=by show(Sem.bind e f).run P w=_;rw[Y7,h]
theorem vY {α:Type} (P:Program) (a:α) (w:World):(pure a:Sem α).run P w=.ok a w:=rfl
theorem Ib {w:World} {b:Nat} {C:List Value} {e:TypeId} {fr:Nat×Nat} (h:w.heap[b]? =some (.cells C.toArray e fr)) (o:Nat):w.cell? ⟨b,o,none⟩=C[o]?:=by simp[World.cell?,h]
theorem gi (b o n:Nat):Addr.add ⟨b,o,none⟩ n=⟨b,o+n,none⟩:=by
 unfold Addr.add
 split
 ·subst_vars;simp
 ·rfl
theorem Uj {P:Program} {w:World} {b:Nat} {C:List Value} {e:TypeId} {fr:Nat×Nat} (h:w.heap[b]? =some (.cells C.toArray e fr)) {o:Nat} {v:Value} (hv:C[o]? =some v) :
  (load ⟨b,o,none⟩).run P w=.ok v w:=by
 simp only[load,Sem.run,Ib h,hv]
theorem YF {P:Program} {w:World} {b:Nat} {C:List Value} {e:TypeId} {fr:Nat×Nat} (h:w.heap[b]? =some (.cells C.toArray e fr)) (o:Nat) :
  ∀(n i:Nat) (acc:Array Value),o+i+n≤C.length→(loadCellsFrom ⟨b,o,none⟩ i n acc).run P w=.ok (acc++((C.drop (o+i)).take n).toArray) w:=by
 intro n
 induction n with
 |zero=>intro i acc _;simp[loadCellsFrom]
 |succ n ih=>
  intro i acc hl;unfold loadCellsFrom;have hg:C[o+i]? =some (C[o+i]'omQ):=iW omQ;rw[gi,qV (Uj h hg),ih _ _ omQ]
  congr 1
  rw[List.drop_eq_getElem_cons (show o+i<C.length by omega)];simp[Nat.add_assoc]
theorem Xg {P:Program} {w:World} {b:Nat} {C:List Value} {e:TypeId} {fr:Nat×Nat} (h:w.heap[b]? =some (.cells C.toArray e fr)) (o n:Nat) (hl:o+n≤C.length) :
  (loadCells ⟨b,o,none⟩ n).run P w=.ok ((C.drop o).take n).toArray w:=by
 unfold loadCells;rw[YF h o n 0 #[] (by simpa using hl)];simp
theorem qXp {P:Program} {w:World} {b:Nat} {C:List Value} {e:TypeId} {fr:Nat×Nat} (h:w.heap[b]? =some (.cells C.toArray e fr)) {o:Nat} (ho:o<C.length) {v:Value} (hv:uR v=true)
  (hf:¬(fr.1≤o∧o<fr.2)):(store ⟨b,o,none⟩ v).run P w=.ok () (w.setCell ⟨b,o,none⟩ v):=by
 have hc:w.cell? ⟨b,o,none⟩=some (C[o]'ho):=by rw[Ib h,iW ho]
 have hz:w.frozen? ⟨b,o,none⟩=false:=by obtain⟨lo,hi⟩:=fr;simp only[World.frozen?,h];simp only[Bool.and_eq_false_iff,decide_eq_false_iff_not];simp only at hf;omega
 cases v<;>simp[uR]at hv<;>simp[store,Sem.run,hc,hz]
theorem Mf {w:World} {b:Nat} {C:List Value} {e:TypeId} {fr:Nat×Nat} (h:w.heap[b]? =some (.cells C.toArray e fr)) (o:Nat) (v:Value) :
  (w.setCell ⟨b,o,none⟩ v).heap[b]? =some (.cells (C.set o v).toArray e fr):=by
 simp[World.setCell,Array.getElem?_modify,h]
theorem Uo {w:World} {b c:Nat} (o:Nat) (v:Value) (hc:c≠b):(w.setCell ⟨b,o,none⟩ v).heap[c]? =w.heap[c]?:=by simp only[World.setCell,Array.getElem?_modify];rw[iQ (λe=>hc e.symm)]
@[simp] theorem iL (w:World) (a:Addr) (v:Value):(w.setCell a v).heap.size=w.heap.size:=by simp[World.setCell]
structure qv5 (w w':World) (b:Nat) (o:Obj):Prop where
  size:w'.heap.size=w.heap.size
  at_:w'.heap[b]? =some o
  other:∀c,c≠b→w'.heap[c]? =w.heap[c]?
  os:w'.os=w.os
  tape:w'.tape=w.tape
  output:w'.output=w.output
theorem Jk {P:Program} {b:Nat} {e:TypeId} {fr:Nat×Nat} (o:Nat):∀(vs:List Value) (i:Nat) (w:World) (C:List Value),w.heap[b]? =some (.cells C.toArray e fr)→
  o+i+vs.length≤C.length→(∀v∈vs,uR v=true)→(∀k,k<C.length→¬(fr.1≤k∧k<fr.2))→
  ∃w',(storeCells ⟨b,o,none⟩ vs i).run P w=.ok () w'∧qv5 w w' b (.cells (C.take (o+i)++vs++C.drop (o+i+vs.length)).toArray e fr):=by
 intro vs
 induction vs with
 |nil=>intro i w C h hl _ _;exact⟨w,by unfold storeCells;rfl,⟨rfl,by simp[h],λ_ _=>rfl,rfl,rfl,rfl⟩⟩
 |cons v vs ih=>
  intro i w C h hl ho hf;simp only[List.length_cons]at hl;have h1:=qXp (P:=P) h (o:=o+i) omQ (ho v (iK ..)) (hf _ omQ);obtain⟨w',hr,ht⟩:=ih (i+1) (w.setCell ⟨b,o+i,none⟩ v) (C.set (o+i) v) (Mf h _ _) (by simp;omega) (λx hx=>ho x (iX _ hx)) (by simpa using hf);refine⟨w',?_,?_⟩
  ·unfold storeCells;rw[gi,qV h1];exact hr
  ·refine⟨by rw[ht.size,iL],?_,λc hc=>(ht.other c hc).trans (Uo _ _ hc),ht.os,ht.tape,ht.output⟩;rw[ht.at_]
   congr 3
   have e1:(C.set (o+i) v).take (o+(i+1))=C.take (o+i)++[v]:=by rw[show o+(i+1)=(o+i)+1 from by omega,List.take_succ_eq_append_getElem (by simp;omega)];simp[List.take_set_of_le]
   have e2:(C.set (o+i) v).drop (o+(i+1)+vs.length)=C.drop (o+i+(v::vs).length):=by
    rw[List.drop_set_of_lt omQ]
    congr 1
    simp;omega
   rw[e1,e2];simp
end Go.Ae
namespace Go.Ae
open Go
variable {P:Program} {m:Mp} {D:Nat→Prop} {h:AH} {w:World}
theorem qjL (m:Mp) (v:AV) (hv:v.one=true):uR (cv m v)=true:=by
 cases v<;>first |rfl |(simp[AV.one]at hv;done)
theorem Oj {l:List AV} (m:Mp) (hl:ql l=true):∀v∈aT m l,uR v=true:=by intro v hv;rw[zC,List.mem_map]at hv;obtain⟨a,ha,rfl⟩:=hv;unfold ql at hl;rw[List.all_eq_true]at hl;exact qjL m a (hl a ha)
theorem gZ (m:Mp) (v:AV):(cv m v).cells=(aT m v.cells).toArray:=by
 cases v<;>simp[cv,AV.cells,Value.cells,aT]
theorem gu {v:AV} (hv:bm D v):aY D v.cells:=by
 cases v<;>simp only[AV.cells,aY,bm]at* <;>first |exact⟨hv,trivial⟩ |exact hv |trivial |exact⟨trivial,trivial⟩
theorem Rel.cells (r:Rel P m D h w) {b:Nat} (hb:D b) {c:CT} {e:TypeId} {o:Bool} (hg:h.get b=some (.cells c e o)) :
  ∃(rest:List Value) (fr:Nat×Nat),w.heap[(m b).1]? =some (.cells (aT m c.toList++rest).toArray e fr)∧(o=false→rest=[])∧
   (∀i,i<c.toList.length+rest.length→¬(fr.1≤i∧i<fr.2))∧(o=true→∀n,aM P e=some n→c.toList.length≤(m b).2*n∧(m b).2*n≤c.toList.length+rest.length)∧aY D c.toList:=by
 obtain⟨x,hx,hr,hd⟩:=r.br b hb;rw[hg]at hx;cases hx;obtain⟨rest,fr,h1,h2,h3,h4⟩:=hr;exact⟨rest,fr,h1,h2,h3,h4,hd⟩
theorem G0 {b:Nat} {x:cG} (hg:h.get b=some x) (hl:x.live):live h b:=⟨x,hg,hl⟩
theorem Rel.oE (r:Rel P m D h w) {b off n:Nat} {c:CT} {t:TypeId} {o:Bool} {l:List AV} (hb:D b) (hg:h.get b=some (.cells c t o)) (e:yD n (yi off c.toList)=some l) :
  (loadCells ⟨(m b).1,off,none⟩ n).run P w=.ok (aT m l).toArray w∧aY D l∧l.length=n:=by
 obtain⟨rest,fr,h1,_,_,_,hd⟩:=r.cells hb hg;rw[wF]at e;obtain⟨e1,e2⟩:=wQ e;refine⟨?_,?_,qXH e⟩
 ·by_cases hz:n=0
  ·subst hz;subst e1;simp[aT,loadCells,loadCellsFrom]
  ·simp only[List.length_drop]at e2;rw[Xg h1 off n (by simp;omega)];subst e1;rw[zC,zC,List.drop_append_of_le_length (by simp;omega),List.take_append_of_le_length (by simp;omega)];simp[List.map_take,List.map_drop]
 ·subst e1;exact QI _ (XJ _ hd)
theorem qKl {t:aL AV}:∀{n i:Nat} {l:List AV},Qb [] t i n=some l→l.length=n∧∀k,k<n→∃v,aL.get t (i+k)=some v∧l[k]? =some v:=by
 intro n
 induction n with
 |zero=>intro i l e;rw[HO]at e;cases e;exact⟨rfl,λk hk=>by omega⟩
 |succ n ih=>
  intro i l e;rw[MI]at e;simp only[Option.bind_eq_some_iff]at e;obtain⟨v,hv,s,hs,e⟩:=e;cases e;obtain⟨h1,h2⟩:=ih hs;have hv':aL.get t i=some v:=by
   rw[yE]at hv
   split at hv
   ·rename_i x hx;cases hv;exact hx
   ·rw[Kr]at hv;cases hv
  refine⟨by simp[h1],?_⟩;intro k hk;cases k with
  |zero=>exact⟨v,hv',rfl⟩
  |succ k=>obtain⟨u,hu1,AJ⟩:=h2 k omQ;exact⟨u,by rw[← hu1];congr 1;omega,by simpa using AJ⟩
theorem Rel.AK (r:Rel P m D h w) {b:Nat} {t:aL AV} (hb:D b) (hg:h.get b=some (.cJ t)) :
  ∃C e fr,w.heap[(m b).1]? =some (.cells (List.toArray C) e fr)∧∀i v,aL.get t i=some v→C[i]? =some (cv m v)∧bm D v:=by
 obtain⟨x,hx,hr,hd⟩:=r.br b hb;rw[hg]at hx;cases hx;obtain⟨C,e,fr,h1,h2⟩:=hr;exact⟨C,e,fr,h1,λi v hv=>⟨h2 i v hv,hd i v hv⟩⟩
theorem Rel.AL (r:Rel P m D h w) {b off n:Nat} {t:aL AV} {l:List AV} (hb:D b) (hg:h.get b=some (.cJ t)) (e:Qb [] t off n=some l) :
  (loadCells ⟨(m b).1,off,none⟩ n).run P w=.ok (aT m l).toArray w∧aY D l∧l.length=n:=by
 obtain⟨C,el,fr,h1,h2⟩:=r.AK hb hg;obtain⟨e1,e2⟩:=qKl e;have key:∀k,k<n→∃v,l[k]? =some v∧C[off+k]? =some (cv m v)∧bm D v:=λk hk=>by
  obtain⟨v,hv,hl⟩:=e2 k hk;exact⟨v,hl,h2 _ v hv⟩
 refine⟨?_,?_,e1⟩
 ·by_cases hz:n=0
  ·subst hz;rw[iA e1];simp[aT,loadCells,loadCellsFrom]
  ·have hlen:off+n≤C.length:=by
    obtain⟨v,_,hc,_⟩:=key (n-1) omQ;have:=(List.getElem?_eq_some_iff.1 hc).1;omega
   rw[Xg h1 off n hlen]
   congr 2
   apply List.ext_getElem?;intro k;rw[zC,List.getElem?_map];by_cases hk:k<n
   ·obtain⟨v,hl,hc,_⟩:=key k hk;rw[List.getElem?_take_of_lt hk,List.getElem?_drop,hc,hl];rfl
   ·rw[List.getElem?_eq_none (by simp;omega),List.getElem?_eq_none omQ];rfl
 ·rw[xJ];intro v hv;obtain⟨k,hk,rfl⟩:=List.mem_iff_getElem.1 hv;obtain⟨u,hl,_,hd⟩:=key k omQ;rw[iW hk]at hl;cases hl;exact hd
theorem Rel.oF (r:Rel P m D h w) {b off:Nat} {t:aL AV} {v:AV} (hb:D b) (hg:h.get b=some (.cJ t)) (e:aL.get t off=some v) :
  (load ⟨(m b).1,off,none⟩).run P w=.ok (cv m v) w∧bm D v:=by
 obtain⟨C,el,fr,h1,h2⟩:=r.AK hb hg;obtain⟨h3,h4⟩:=h2 off v e;exact⟨Uj h1 h3,h4⟩
theorem Rel.read (r:Rel P m D h w) {b off n:Nat} {l:List AV} (hb:D b) (e:yJ h b off n=some l) :
  (loadCells ⟨(m b).1,off,none⟩ n).run P w=.ok (aT m l).toArray w∧aY D l∧l.length=n:=by
 unfold yJ at e
 split at e
 ·rename_i c t o hg;exact r.oE hb hg (CT.lC e)
 ·rename_i t hg;exact r.AL hb hg e
 ·cases e
theorem Rel.sB (r:Rel P m D h w) {b off:Nat} {c:CT} {t:TypeId} {o:Bool} {v:AV} (hb:D b) (hg:h.get b=some (.cells c t o)) (e:c.dX off=some v) :
  (load ⟨(m b).1,off,none⟩).run P w=.ok (cv m v) w∧bm D v:=by
 obtain⟨rest,fr,h1,_,_,_,hd⟩:=r.cells hb hg
 replace e:=CT.rJ e
 rw[xh]at e;have ap:off<c.toList.length:=(List.getElem?_eq_some_iff.1 e).1;refine⟨Uj h1 ?_,(xJ D c.toList).1 hd v (List.mem_of_getElem? e)⟩;rw[List.getElem?_append_left (by simpa using ap),zC,List.getElem?_map,e];rfl
theorem Rel.write (r:Rel P m D h w) {b off:Nat} {xs:List AV} {h':AH} (hb:D b) (Ei:aY D xs) (e:vA h b off xs=some h') :
  ∃w',(storeCells ⟨(m b).1,off,none⟩ (aT m xs)).run P w=.ok () w'∧Ext m D h w m D h' w'∧Rel P m D h' w':=by
 unfold vA at e
 split at e
 ·rename_i c t o hg;cases nC:ql xs
  ·rw[nC]at e;cases e
  ·rw[nC]at e;simp only[cond_true,Option.bind_eq_some_iff]at e;obtain⟨c',mq,he⟩:=e;cases he;obtain⟨e1,e2⟩:=GE (CT.lD mq);obtain⟨rest,fr,h1,h2,h3,h4,hd⟩:=r.cells hb hg;obtain⟨w',hr,ht⟩:=Jk (P:=P) off (aT m xs) 0 w _ h1 (by simp;omega) (Oj m nC) (by simpa using h3);refine⟨w',hr,?_⟩;have hlen:c'.toList.length=c.toList.length:=by rw[e1];simp;omega
   refine r.put b _ hb (G0 hg trivial) ht.size ht.other ht.os ht.tape ht.output ?_ ?_
   ·simp only[cr];rw[e1];exact yp.2 ⟨yp.2 ⟨QI _ hd,Ei⟩,XJ _ hd⟩
   ·refine⟨rest,fr,?_,h2,by rw[hlen];exact h3,by rw[hlen];exact h4⟩;rw[ht.at_,e1]
    congr 3
    simp only[zC,List.length_map,Nat.add_zero,List.map_append,List.map_take,List.map_drop];rw[List.take_append_of_le_length (by simp;omega),List.drop_append_of_le_length (by simp;omega)];simp
 ·cases e
theorem Mq {v:Value} {a:AV} (e:GQ v=some a):cv m a=v∧bm D a:=by
 unfold GQ at e
 split at e<;>first |(cases e;exact⟨rfl,trivial⟩) |(cases e;done)
theorem Ky {l:List Value} {s:List AV} (e:gY GQ l=some s):aT m s=l∧aY D s:=by
 induction l generalizing s with
 |nil=>simp[gY]at e;subst e;exact⟨rfl,trivial⟩
 |cons a r ih=>simp only[gY,Option.bind_eq_some_iff]at e;obtain⟨b,hb,t,ht,hs⟩:=e;cases hs;obtain⟨h1,h2⟩:=Mq (m:=m) (D:=D) hb;obtain⟨h3,h4⟩:=ih ht;exact⟨by simp[aT,h1,h3],h2,h4⟩
theorem QD {v:Value} {a:AV} (e:Uv v=some a):cv m a=v∧bm D a:=by
 unfold Uv at e
 split at e
 ·rename_i cs;simp only[Option.map_eq_some_iff]at e;obtain⟨s,hs,rfl⟩:=e;obtain⟨h1,h2⟩:=Ky (m:=m) (D:=D) hs;exact⟨by simp[cv,h1],h2⟩
 ·rename_i cs;simp only[Option.map_eq_some_iff]at e;obtain⟨s,hs,rfl⟩:=e;obtain⟨h1,h2⟩:=Ky (m:=m) (D:=D) hs;exact⟨by simp[cv,h1],h2⟩
 ·rename_i f first cap
  cases hc:(first.isEmpty&&cap.isEmpty)
  ·rw[hc]at e;cases e
  ·rw[hc]at e;cases e;simp only[Bool.and_eq_true,Array.isEmpty_iff]at hc;obtain⟨rfl,rfl⟩:=hc;exact⟨by simp[cv,aT],trivial,trivial⟩
 ·exact Mq e
theorem run_underlying {t:TypeId} {d:TypeDesc} (e:P.underlying t=some d):(underlying t).run P w=.ok d w:=by unfold underlying;rw[qV (show(program).run P w=.ok P w from rfl)];rw[e];rfl
theorem run_typeInfo {t:TypeId} {i:TypeInfo} (e:P.info? t=some i):(typeInfo t).run P w=.ok i w:=by unfold typeInfo;rw[qV (show(program).run P w=.ok P w from rfl)];rw[e];rfl
theorem run_sizeOf {t:TypeId} {n:Nat} (e:aM P t=some n):(sizeOf t).run P w=.ok n w:=by simp only[aM,Option.map_eq_some_iff]at e;obtain⟨i,hi,rfl⟩:=e;unfold sizeOf;rw[qV (run_typeInfo hi)];rfl
theorem vT {t:TypeId} {b:Bool} (e:fj P t=some b):(isAgg t).run P w=.ok b w:=by simp only[fj,Option.map_eq_some_iff]at e;obtain⟨d,hd,hb⟩:=e;unfold isAgg;rw[qV (run_underlying hd)];cases d<;>(subst hb;rfl)
theorem xP {t:TypeId} {z:AV} (e:dH P t=some z):(zeroValue t).run P w=.ok (cv m z) w∧bm D z:=by simp only[dH,Option.bind_eq_some_iff]at e;obtain⟨i,hi,v,hv,hz⟩:=e;obtain⟨h1,h2⟩:=QD (m:=m) (D:=D) hz;refine⟨?_,h2⟩;unfold zeroValue;rw[qV (run_typeInfo hi),hv,h1];rfl
end Go.Ae
namespace Go.Ae
open Go
variable {P:Program} {m:Mp} {D:Nat→Prop} {h:AH} {w:World}
def dj (P:Program) (m:Mp) (D:Nat→Prop) (h:AH) (w:World) (iM:Result Next) (v:AV) (h':AH):Prop :=
 ∃m' D' w',(iM=.ok (.value (cv m' v)) w'∨(iM=.ok .skip w'∧v=.undef))∧Ext m D h w m' D' h' w'∧Rel P m' D' h' w'∧bm D' v
theorem qg {α:Type} {x:Option α} {k:α→R} {r:AV×AH}:ob x k=some r↔∃a,x=some a∧k a=some r:=by
 cases x<;>simp[ob]
theorem jO {b:Bool} {x:R} {r:AV×AH}:cj b x none=some r↔b=true∧x=some r:=by
 cases b<;>simp[cj]
theorem qs {α:Type} {b:Bool} {x:Option α} {r:α}:(bif b then x else none)=some r↔b=true∧x=some r:=by
 cases b<;>simp
theorem qM {v v':AV} {h h':AH}:(some (v,h):R)=some (v',h')↔v=v'∧h=h':=by simp
theorem ja (r:Rel P m D h w) {s:Sem Value} {v:AV} (hs:s.run P w=.ok (cv m v) w) (hv:bm D v) :
  dj P m D h w ((do pure (Next.value (← s)):Sem Next).run P w) v h :=
 ⟨m,D,w,.inl (by rw[qV hs];rfl),Ext.refl ..,r,hv⟩
theorem JW (r:Rel P m D h w) {s:Sem Next} {v:AV} (hs:s.run P w=.ok (.value (cv m v)) w) (hv:bm D v):dj P m D h w (s.run P w) v h :=
 ⟨m,D,w,.inl hs,Ext.refl ..,r,hv⟩
def dr (m:Mp) (D:Nat→Prop) (ρ:Operand→Value) (r:Operand→Option AV):Prop:=∀x v,r x=some v→ρ x=cv m v∧bm D v
theorem jf {a b:Nat} (h:Nat.ble a b=true):a≤b:=Nat.le_of_ble_eq_true h
theorem Xu {a b:Nat} (h:Nat.ble a b=false):b<a:=by
 rcases Nat.lt_or_ge b a with h' |h'
 ·exact h'
 ·rw[iY h']at h;cases h
theorem Uw (a b:Int):lm a b=(a==b):=by
 cases a with
 |ofNat a=>cases b with
  |ofNat b=>
   simp only[lm];by_cases e:a=b
   ·subst e;simp
   ·rw[xp e];symm;rw[beq_eq_false_iff_ne];intro h;exact e (Int.ofNat.inj h)
  |negSucc b=>rfl
 |negSucc a=>cases b with
  |ofNat b=>rfl
  |negSucc b=>
   simp only[lm];by_cases e:a=b
   ·subst e;simp
   ·rw[xp e];symm;rw[beq_eq_false_iff_ne];intro h;exact e (Int.negSucc.inj h)
theorem Kb (a b:Int):mK a b=decide (a<b):=by
 cases a with
 |ofNat a=>cases b with
  |ofNat b=>
   simp only[mK];cases e:Nat.ble (a+1) b
   ·have:=Xu e;symm;rw[decide_eq_false_iff_not];show¬((a:Int)<(b:Int));omega
   ·have:=jf e;symm;rw[decide_eq_true_eq];show(a:Int)<(b:Int);omega
  |negSucc b=>simp only[mK];symm;rw[decide_eq_false_iff_not];show¬((a:Int)<_);omega
 |negSucc a=>cases b with
  |ofNat b=>simp only[mK];symm;rw[decide_eq_true_eq];show _<(b:Int);omega
  |negSucc b=>
   simp only[mK];cases e:Nat.ble (b+1) a
   ·have:=Xu e;symm;rw[decide_eq_false_iff_not];omega
   ·have:=jf e;symm;rw[decide_eq_true_eq];omega
theorem Yl (n:Int):IntKind.wrap .i64 n=if 9223372036854775808≤n%18446744073709551616 then n%18446744073709551616-18446744073709551616 else n%18446744073709551616:=by show(if(true&&decide (n%18446744073709551616≥9223372036854775808))=true then _ else _)=_;simp only[Bool.true_and,decide_eq_true_eq,ge_iff_le];rfl
theorem UC (n:Int):IntKind.wrap .u64 n=n%18446744073709551616:=rfl
theorem Ic (n:Int):IntKind.wrap .u8 n=n%256:=rfl
theorem MC (a:Nat) (h:a≤9223372036854775807):IntKind.wrap .i64 (Int.negSucc a)=Int.negSucc a:=by have e:Int.negSucc a= -((a:Int)+1):=Int.negSucc_eq a;rw[Yl,e];generalize hx:-((a:Int)+1)=x;rw[iJ omQ];omega
theorem kA (k:IntKind) (n:Int):zg k n=k.wrap n:=by
 cases k<;>cases n<;>simp only[zg]
 ·rename_i a;cases hb:Nat.ble a 9223372036854775807
  ·rw[cond_false]
  ·have:=jf hb;rw[Yl];show(a:Int)=if 9223372036854775808≤(a:Int)%_ then _ else(a:Int)%_
   split<;>omega
 ·rename_i a;cases hb:Nat.ble a 9223372036854775807
  ·rw[cond_false]
  ·have:=jf hb;rw[cond_true];exact(MC a this).symm
 ·rename_i a;rw[Ic];show((a%256:Nat):Int)=(a:Int)%_;omega
 ·rename_i a;rw[UC];show((a%18446744073709551616:Nat):Int)=(a:Int)%_;omega
 ·rename_i a;rw[UC];show((18446744073709551615-a%18446744073709551616:Nat):Int)=_;omega
theorem fI (a b:List UInt8):fO a b=(a==b):=by
 induction a generalizing b with
 |nil=>cases b<;>rfl
 |cons x a ih=>cases b with
  |nil=>rfl
  |cons y b=>simp only[fO,ih];rfl
def Nm (op:BinOp) (k:IntKind) (x y:Int):Sem Value :=
 match op with
 | .add | .sub | .mul=>Op.intArith op k x y
 | .quo | .rem=>Op.intDiv op k x y
 | .and | .or | .xor | .andNot=>Op.intBits op k x y
 |_=>Op.intCmp op x y
theorem qY3 {op:BinOp} {k:IntKind} {x y:Int} {v:AV} (e:kb op k x y=some v) :
  (Nm op k x y).run P w=.ok (cv m v) w∧bm D v:=by
 cases op<;>simp only[kb,kA,Uw,Kb]at e
 case quo=>
  by_cases hy:y=0
  ·subst hy;cases e
  ·rw[beq_eq_false_iff_ne.2 hy]at e;cases e;exact⟨by simp[Nm,Op.intDiv,hy,cv],trivial⟩
 case rem=>
  by_cases hy:y=0
  ·subst hy;cases e
  ·rw[beq_eq_false_iff_ne.2 hy]at e;cases e;exact⟨by simp[Nm,Op.intDiv,hy,cv],trivial⟩
 case leq=>
  cases e;refine⟨?_,trivial⟩;show Result.ok (Value.bool (decide (x≤y))) w=.ok (.bool (!decide (y<x))) w;rw[← decide_not,decide_eq_decide.2 (show x≤y↔¬y<x by omega)]
 case geq=>
  cases e;refine⟨?_,trivial⟩;show Result.ok (Value.bool (decide (x≥y))) w=.ok (.bool (!decide (x<y))) w;rw[← decide_not,decide_eq_decide.2 (show x≥y↔¬x<y by omega)]
 all_goals first
  |(cases e;done)
  |(cases e;exact⟨rfl,trivial⟩)
end Go.Ae
namespace Go.Ae
open Go
variable {P:Program} {m:Mp} {D:Nat→Prop} {h h':AH} {w:World} {c:CV} {ρ:Operand→Value} {r:Operand→Option AV} {o:Oper} {v:AV}
abbrev fin:AV→AH→R:=λv h=>some (v,h)
theorem qzc {x:Operand} (ho:o.op=.move x) (hr:dr m D ρ r) (R:Rel P m D h w) (e:aX P c o.op r h fin=some (v,h')):dj P m D h w ((execOp ρ o).run P w) v h':=by rw[ho]at e;simp only[aX,qg,qM]at e;obtain⟨a,ha,rfl,rfl⟩:=e;obtain⟨h1,h2⟩:=hr _ _ ha;refine JW R ?_ h2;simp only[execOp,ho,h1,vY]
theorem qXs {x:Operand} (ho:o.op=.assign x) (hr:dr m D ρ r) (R:Rel P m D h w) (e:aX P c o.op r h fin=some (v,h')):dj P m D h w ((execOp ρ o).run P w) v h':=by rw[ho]at e;simp only[aX,qg,qM]at e;obtain⟨a,ha,rfl,rfl⟩:=e;obtain⟨h1,h2⟩:=hr _ _ ha;refine JW R ?_ h2;simp only[execOp,ho,h1,vY]
theorem qjS {x y z:Operand} (ho:o.op=.pick x y z) (hr:dr m D ρ r) (R:Rel P m D h w) (e:aX P c o.op r h fin=some (v,h')):dj P m D h w ((execOp ρ o).run P w) v h':=by
 rw[ho]at e;simp only[aX,qg]at e;obtain⟨a,ha,b,hb,d,hd,e⟩:=e;obtain⟨a1,a2⟩:=hr _ _ ha;obtain⟨b1,b2⟩:=hr _ _ hb;obtain⟨d1,d2⟩:=hr _ _ hd;rw[N9]at e
 split at e
 ·rename_i t;cases t<;>simp only[qM]at e<;>obtain⟨rfl,rfl⟩:=e
  ·refine JW R ?_ d2;simp only[execOp,ho,a1,b1,d1,cv,asBool];rfl
  ·refine JW R ?_ b2;simp only[execOp,ho,a1,b1,d1,cv,asBool];rfl
 ·cases e
theorem qgM {x:Operand} (ho:o.op=.nilCheck x) (hr:dr m D ρ r) (R:Rel P m D h w) (e:aX P c o.op r h fin=some (v,h')):dj P m D h w ((execOp ρ o).run P w) v h':=by
 rw[ho]at e;simp only[aX,qg]at e;obtain⟨a,ha,e⟩:=e;obtain⟨a1,a2⟩:=hr _ _ ha;unfold xM at e
 split at e<;>first |(cases e;done) |skip
 all_goals
  simp only[qM]at e;obtain⟨rfl,rfl⟩:=e;refine JW R ?_ a2;simp only[execOp,ho,a1,cv];rfl
theorem AM {op:UnOp} {t:TypeId} {x:Operand} (ho:o.op=.unOp op t x) (hr:dr m D ρ r) (R:Rel P m D h w) (e:aX P c o.op r h fin=some (v,h')):dj P m D h w ((execOp ρ o).run P w) v h':=by
 rw[ho]at e;simp only[aX,qg]at e;obtain⟨a,ha,e⟩:=e;obtain⟨a1,a2⟩:=hr _ _ ha;unfold ow at e
 split at e<;>first |(cases e;done) |skip
 all_goals
  simp only[qM]at e;obtain⟨rfl,rfl⟩:=e;simp only[execOp,ho,a1];refine ja R ?_ trivial
  first
   |(simp only[cv,kA];rfl)
   |rfl
theorem qWh {t:TypeId} {x:Operand} (ho:o.op=.makeInterface t x) (hr:dr m D ρ r) (R:Rel P m D h w) (e:aX P c o.op r h fin=some (v,h')):dj P m D h w ((execOp ρ o).run P w) v h':=by
 rw[ho]at e;simp only[aX,qg]at e;obtain⟨d,hd,e⟩:=e;have key:∃a,r x=some a∧fin (.iface t a) h=some (v,h'):=by
  split at e
  ·cases e
  ·exact qg.1 e
 obtain⟨a,ha,e⟩:=key;obtain⟨a1,a2⟩:=hr _ _ ha;simp only[qM]at e;obtain⟨rfl,rfl⟩:=e;simp only[execOp,ho,a1];refine ja R ?_ a2;unfold Instr.makeInterface;rw[qV (run_underlying hd)];cases d<;>first |rfl |(simp_all;done)
theorem qGs {t:TypeId} {x:Operand} {f:Nat} (ho:o.op=.fieldAddr t x f) (hr:dr m D ρ r) (R:Rel P m D h w) (e:aX P c o.op r h fin=some (v,h')):dj P m D h w ((execOp ρ o).run P w) v h':=by
 rw[ho]at e;simp only[aX,qg]at e;obtain⟨a,ha,off,fU,e⟩:=e;obtain⟨a1,a2⟩:=hr _ _ ha;rw[Uy]at e
 split at e
 ·rename_i b o';simp only[qM]at e;obtain⟨rfl,rfl⟩:=e;simp only[execOp,ho,a1];refine ja R ?_ a2;unfold Oa at fU;simp only[Option.bind_eq_some_iff]at fU;obtain⟨d,hd,fU⟩:=fU;unfold Instr.fieldAt;rw[qV (run_underlying hd)];cases d<;>simp only[reduceCtorEq]at fU
  rename_i fs;simp only[Option.bind_eq_some_iff]at fU;obtain⟨g,hg,sz,bw,fU⟩:=fU;cases hz:Nat.beq sz 0<;>rw[hz]at fU<;>simp only[cond_true,cond_false,reduceCtorEq,Option.some.injEq]at fU
  subst fU;simp only[hg,cv];rw[qV (show(Instr.sureAddr (.pointer (some ⟨(m b).1,o',none⟩))).run P w=.ok ⟨(m b).1,o',none⟩ w from rfl)];rw[qV (show(fieldPlace ⟨(m b).1,o',none⟩ g).run P w=.ok ⟨(m b).1,o'+g.offset,none⟩ w from ?_)]
  ·rfl
  ·unfold fieldPlace;rw[qV (run_sizeOf bw),iQ (yb hz),gi];rfl
 ·cases e
theorem J2 {t:TypeId} {cs:List AV} {off:Nat} {x:AV} (ht:fj P t=some false) (e:wx cs off=some x) (hd:aY D cs):(part t (aT m cs).toArray off).run P w=.ok (cv m x) w∧bm D x:=by rw[xh]at e;refine⟨?_,(xJ D cs).1 hd x (List.mem_of_getElem? e)⟩;unfold part;rw[qV (vT ht)];simp only[Bool.false_eq_true,if_false,List.getElem?_toArray,zC,List.getElem?_map,e];rfl
theorem J8 {t:TypeId} {cs l:List AV} {off n:Nat} (ht:fj P t=some true) (hn:aM P t=some n) (e:yD n (yi off cs)=some l) (hd:aY D cs):(part t (aT m cs).toArray off).run P w=.ok (cv m (.agg l)) w∧aY D l:=by
 rw[wF]at e;obtain⟨e1,e2⟩:=wQ e;refine⟨?_,by subst e1;exact QI _ (XJ _ hd)⟩;unfold part;rw[qV (vT ht)];simp only[if_true];rw[qV (run_sizeOf hn)];subst e1;simp only[cv,zC,List.map_take,List.map_drop,vY]
 congr 2
 simp[List.take_drop]
theorem wZ {t:TypeId} {i:Option Nat} (e:wz P t=some i):(i=none∧fj P t=some false)∨∃n,i=some n∧fj P t=some true∧aM P t=some n:=by
 unfold wz at e;simp only[Option.bind_eq_some_iff]at e;obtain⟨a,ha,e⟩:=e;cases a
 ·simp at e;exact .inl ⟨e.symm,ha⟩
 ·simp only[cond_true,Option.map_eq_some_iff]at e;obtain⟨n,hn,e⟩:=e;exact .inr ⟨n,e.symm,ha,hn⟩
theorem qjD {t:TypeId} {x:Operand} {f:Nat} (ho:o.op=.field t x f) (hr:dr m D ρ r) (R:Rel P m D h w) (e:aX P c o.op r h fin=some (v,h')):dj P m D h w ((execOp ρ o).run P w) v h':=by
 rw[ho]at e;simp only[aX,qg]at e;obtain⟨a,ha,p,hp,e⟩:=e;obtain⟨a1,a2⟩:=hr _ _ ha;unfold Vp at hp;simp only[Option.bind_eq_some_iff]at hp;obtain⟨d,hd,hp⟩:=hp;cases d<;>simp only[reduceCtorEq]at hp
 rename_i fs;simp only[Option.bind_eq_some_iff,Option.map_eq_some_iff]at hp;obtain⟨g,hg,i,hi,rfl⟩:=hp;simp only[execOp,ho,a1];rcases wZ hi with⟨rfl,lq⟩ |⟨n,rfl,lq,hn⟩
 ·simp only[Mj]at e
  split at e
  ·rename_i cs;simp only[qg,qM]at e;obtain⟨z,hz,rfl,rfl⟩:=e;obtain⟨z1,z2⟩:=J2 (w:=w) (m:=m) lq hz a2;refine ja R ?_ z2;unfold Instr.field;rw[qV (run_underlying hd)];simp only[hg,cv];rw[qV (show(asAgg (.agg (aT m cs).toArray)).run P w=.ok _ w from rfl)];exact z1
  ·cases e
 ·simp only[YJ]at e
  split at e
  ·rename_i cs;simp only[qg,qM]at e;obtain⟨z,hz,rfl,rfl⟩:=e;obtain⟨z1,z2⟩:=J8 (w:=w) (m:=m) lq hn hz a2;refine ja R ?_ z2;unfold Instr.field;rw[qV (run_underlying hd)];simp only[hg,cv];rw[qV (show(asAgg (.agg (aT m cs).toArray)).run P w=.ok _ w from rfl)];exact z1
  ·cases e
theorem Mu {t:TypeId} {x i:Operand} (ho:o.op=.indexAddr t x i) (hr:dr m D ρ r) (R:Rel P m D h w) (e:aX P c o.op r h fin=some (v,h')):dj P m D h w ((execOp ρ o).run P w) v h':=by
 rw[ho]at e;simp only[aX,qg]at e;obtain⟨a,ha,j,hj,d,hd,e⟩:=e;obtain⟨a1,a2⟩:=hr _ _ ha;obtain⟨j1,j2⟩:=hr _ _ hj;simp only[execOp,ho,a1,j1];cases d<;>simp only[reduceCtorEq]at e
 case slice el=>
  simp only[qg]at e;obtain⟨sz,bw,e⟩:=e;rw[Kw]at e
  split at e
  ·rename_i b off len cp bg k q;simp only[qs,qM]at e;obtain⟨hq,rfl,rfl⟩:=e;have hq:=jf hq;refine ja R ?_ a2;unfold Instr.indexAt;simp only[cv];rw[qV (show(asIntOf (.int k (.ofNat q))).run P w=.ok (k,.ofNat q) w from rfl)];rw[qV (run_underlying hd)];simp only[];rw[qV (show(pure (some (⟨(m b).1,off,none⟩:Addr),len,el):Sem (Option Addr×Nat×TypeId)).run P w=.ok _ w from rfl)];rw[qV (run_underlying hd)];have:(0:Int)≤Int.ofNat q∧Int.ofNat q<(len:Int):=⟨Int.natCast_nonneg q,by show(q:Int)<len;omega⟩;simp only[iJ this];rw[qV (run_sizeOf bw)];simp only[gi,vY];rfl
  ·cases e
 case array n el=>
  simp only[jO,qg]at e;obtain⟨h2,sz,bw,e⟩:=e;have h2:=jf h2;unfold QJ at e
  split at e
  ·rename_i b off k q;simp only[qs,qM]at e;obtain⟨hq,rfl,rfl⟩:=e;have hq:=jf hq;refine ja R ?_ a2;unfold Instr.indexAt;simp only[cv];rw[qV (show(asIntOf (.int k (.ofNat q))).run P w=.ok (k,.ofNat q) w from rfl)];rw[qV (run_underlying hd)];simp only[];rw[qV (show(Instr.sureAddr (.pointer (some ⟨(m b).1,off,none⟩))).run P w=.ok ⟨(m b).1,off,none⟩ w from rfl)];rw[qV (show(pure (some (⟨(m b).1,off,none⟩:Addr),n,el):Sem (Option Addr×Nat×TypeId)).run P w=.ok _ w from rfl)];rw[qV (run_underlying hd)];have:(0:Int)≤Int.ofNat q∧Int.ofNat q<(n:Int):=⟨Int.natCast_nonneg q,by show(q:Int)<n;omega⟩;simp only[iJ this];rw[qV (run_sizeOf bw)];simp only[gi,vY];rfl
  ·cases e
theorem Zr {x:Operand} {i:Nat} (ho:o.op=.extract x i) (hr:dr m D ρ r) (R:Rel P m D h w) (e:aX P c o.op r h fin=some (v,h')):dj P m D h w ((execOp ρ o).run P w) v h':=by
 rw[ho]at e;simp only[aX,qg]at e;obtain⟨a,ha,e⟩:=e;obtain⟨a1,a2⟩:=hr _ _ ha;rw[JY]at e
 split at e
 ·rename_i l;simp only[qg,qM]at e;obtain⟨z,hz,rfl,rfl⟩:=e;rw[xh]at hz;simp only[execOp,ho,a1];refine ja R ?_ ((xJ D l).1 a2 _ (List.mem_of_getElem? hz));simp only[Instr.extract,cv,List.getElem?_toArray,zC,List.getElem?_map,hz];rfl
 ·cases e
theorem qG8 {t:TypeId} {x i:Operand} (ho:o.op=.index t x i) (hr:dr m D ρ r) (R:Rel P m D h w) (e:aX P c o.op r h fin=some (v,h')):dj P m D h w ((execOp ρ o).run P w) v h':=by
 rw[ho]at e;simp only[aX,qg]at e;obtain⟨a,ha,j,hj,d,hd,e⟩:=e;obtain⟨a1,a2⟩:=hr _ _ ha;obtain⟨j1,j2⟩:=hr _ _ hj;simp only[execOp,ho,a1,j1];cases d<;>simp only[reduceCtorEq]at e
 case string=>
  unfold gA at e
  split at e
  ·rename_i s k q;simp only[qg,qM]at e;obtain⟨z,hz,rfl,rfl⟩:=e;rw[xh]at hz;refine ja R ?_ trivial;unfold Instr.index;simp only[cv];rw[qV (show(asIntOf (.int k (.ofNat q))).run P w=.ok (k,.ofNat q) w from rfl)];rw[qV (run_underlying hd)];have h0:(0:Int)≤Int.ofNat q:=Int.natCast_nonneg q;have hb:(ByteArray.mk s.toArray)[q]? =some z:=by
    have ap:q<s.length:=(List.getElem?_eq_some_iff.1 hz).1;have hs:(ByteArray.mk s.toArray).size=s.length:=by simp[ByteArray.size]
    rw[getElem?_pos _ _ (by rw[hs];exact ap)]
    congr 1
    have:=(List.getElem?_eq_some_iff.1 hz).2;rw[← this];rfl
   simp only[iJ h0,show(Int.ofNat q).toNat=q from rfl,hb];rfl
  ·cases e
 case array n el=>
  simp only[qg]at e;obtain⟨sz,bw,g,hg,e⟩:=e;cases g
  ·simp only[cj]at e;unfold Xp at e
   split at e
   ·rename_i cs k q;simp only[qs,qg,qM]at e;obtain⟨hq,z,hz,rfl,rfl⟩:=e;have hq:=jf hq;obtain⟨z1,z2⟩:=J2 (w:=w) (m:=m) hg hz a2;refine ja R ?_ z2;unfold Instr.index;simp only[cv];rw[qV (show(asIntOf (.int k (.ofNat q))).run P w=.ok (k,.ofNat q) w from rfl)];rw[qV (run_underlying hd)];have:(0:Int)≤Int.ofNat q∧Int.ofNat q<(n:Int):=⟨Int.natCast_nonneg q,by show(q:Int)<n;omega⟩;simp only[iJ this];rw[qV (run_sizeOf bw)];exact z1
   ·cases e
  ·simp only[cj]at e;unfold Xs at e
   split at e
   ·rename_i cs k q;simp only[qs,qg,qM]at e;obtain⟨hq,z,hz,rfl,rfl⟩:=e;have hq:=jf hq;obtain⟨z1,z2⟩:=J8 (w:=w) (m:=m) hg bw hz a2;refine ja R ?_ z2;unfold Instr.index;simp only[cv];rw[qV (show(asIntOf (.int k (.ofNat q))).run P w=.ok (k,.ofNat q) w from rfl)];rw[qV (run_underlying hd)];have:(0:Int)≤Int.ofNat q∧Int.ofNat q<(n:Int):=⟨Int.natCast_nonneg q,by show(q:Int)<n;omega⟩;simp only[iJ this];rw[qV (run_sizeOf bw)];exact z1
   ·cases e
theorem qzO {t:TypeId} {x:Operand} (ho:o.op=.load t x) (hr:dr m D ρ r) (R:Rel P m D h w) (e:aX P c o.op r h fin=some (v,h')):dj P m D h w ((execOp ρ o).run P w) v h':=by
 rw[ho]at e;simp only[aX,qg]at e;obtain⟨a,ha,i,hi,e⟩:=e;obtain⟨a1,a2⟩:=hr _ _ ha;simp only[execOp,ho,a1];rcases wZ hi with⟨rfl,lq⟩ |⟨n,rfl,lq,hn⟩
 ·simp only[y5]at e
  split at e
  ·rename_i b off
   split at e
   ·rename_i cs t' op' hg;simp only[qg,qM]at e;obtain⟨z,hz,rfl,rfl⟩:=e;obtain⟨z1,z2⟩:=R.sB a2 hg hz;refine ja R ?_ z2;unfold Instr.loadAt;simp only[cv];rw[qV (show(Instr.sureAddr (.pointer (some ⟨(m b).1,off,none⟩))).run P w=.ok ⟨(m b).1,off,none⟩ w from rfl)];unfold loadVar;rw[qV (vT lq)];exact z1
   ·rename_i ti hg;simp only[qg,qM]at e;obtain⟨z,hz,rfl,rfl⟩:=e;obtain⟨z1,z2⟩:=R.oF a2 hg hz;refine ja R ?_ z2;unfold Instr.loadAt;simp only[cv];rw[qV (show(Instr.sureAddr (.pointer (some ⟨(m b).1,off,none⟩))).run P w=.ok ⟨(m b).1,off,none⟩ w from rfl)];unfold loadVar;rw[qV (vT lq)];exact z1
   ·cases e
  ·cases e
 ·simp only[gt]at e
  split at e
  ·rename_i b off;simp only[qg,qM]at e;obtain⟨z,hz,rfl,rfl⟩:=e;obtain⟨z1,z2,z3⟩:=R.read a2 hz;refine ja R ?_ z2;unfold Instr.loadAt;simp only[cv];rw[qV (show(Instr.sureAddr (.pointer (some ⟨(m b).1,off,none⟩))).run P w=.ok ⟨(m b).1,off,none⟩ w from rfl)];unfold loadVar;rw[qV (vT lq)];simp only[if_true];rw[qV (run_sizeOf hn),qV z1];rfl
  ·cases e
theorem qGp {t:TypeId} {x y:Operand} (ho:o.op=.store t x y) (hr:dr m D ρ r) (R:Rel P m D h w) (e:aX P c o.op r h fin=some (v,h')):dj P m D h w ((execOp ρ o).run P w) v h':=by
 rw[ho]at e;simp only[aX,qg]at e;obtain⟨a,ha,b,hb,n,hn,e⟩:=e;obtain⟨a1,a2⟩:=hr _ _ ha;obtain⟨b1,b2⟩:=hr _ _ hb;rw[GY]at e
 split at e
 ·rename_i q off;simp only[qs,qg,qM]at e;obtain⟨hl,h1,hw,rfl,rfl⟩:=e;have hl:=jd hl;obtain⟨w',cE,oG,dZ⟩:=R.write a2 (gu b2) hw;refine⟨m,D,w',.inr ⟨?_,rfl⟩,oG,dZ,trivial⟩;simp only[execOp,ho,a1,b1,cv];have hs:(Instr.storeAt t (.pointer (some ⟨(m q).1,off,none⟩)) (cv m b)).run P w=.ok () w':=by
   unfold Instr.storeAt;rw[qV (show(Instr.sureAddr (.pointer (some ⟨(m q).1,off,none⟩))).run P w=.ok ⟨(m q).1,off,none⟩ w from rfl)];unfold storeVar;rw[qV (run_sizeOf hn)];rw[gZ];simp only[List.size_toArray,dN,hl,ne_eq,not_true_eq_false,if_false];exact cE
  rw[qV hs];rfl
 ·cases e
end Go.Ae
namespace Go.Ae
open Go
variable {P:Program} {m:Mp} {D:Nat→Prop} {h h':AH} {w:World} {c:CV} {ρ:Operand→Value} {r:Operand→Option AV} {o:Oper} {v:AV}
theorem kC (hr:dr m D ρ r) {l:List Operand} {s:List AV} (e:gY r l=some s):l.map ρ=aT m s∧aY D s:=by
 induction l generalizing s with
 |nil=>simp[gY]at e;subst e;exact⟨rfl,trivial⟩
 |cons a l ih=>simp only[gY,Option.bind_eq_some_iff]at e;obtain⟨b,hb,t,ht,hs⟩:=e;cases hs;obtain⟨h1,h2⟩:=hr _ _ hb;obtain⟨h3,h4⟩:=ih ht;exact⟨by simp[aT,h1,h3],h2,h4⟩
theorem G4 {α β:Type} (f:α→β) (x:Array α):x.map f=(x.toList.map f).toArray:=by cases x;simp
theorem OA {fn:Fn} {x y:Array Operand} (ho:o.op=.makeFunc fn x y) (hr:dr m D ρ r) (R:Rel P m D h w) (e:aX P c o.op r h fin=some (v,h')):dj P m D h w ((execOp ρ o).run P w) v h':=by
 rw[ho]at e;cases fn<;>simp only[aX,reduceCtorEq]at e
 rename_i f;simp only[qg,qM]at e;obtain⟨a,ha,b,hb,rfl,rfl⟩:=e;obtain⟨a1,a2⟩:=kC hr ha;obtain⟨b1,b2⟩:=kC hr hb;simp only[execOp,ho];refine ja R ?_ ⟨a2,b2⟩;simp only[Instr.makeFunc,cv,← a1,← b1,vY];rw[G4,G4]
theorem qK4 {x:Operand} {xt t:TypeId} {ok:Bool} (ho:o.op=.typeAssert x xt t ok) (hr:dr m D ρ r) (R:Rel P m D h w) (e:aX P c o.op r h fin=some (v,h')):dj P m D h w ((execOp ρ o).run P w) v h':=by
 rw[ho]at e;simp only[aX,qg]at e;obtain⟨a,ha,d,hd,e⟩:=e;obtain⟨a1,a2⟩:=hr _ _ ha;simp only[execOp,ho,a1];have fG:(∀ms,d≠.interface ms)∧(cj ok (ob (dH P t) λz=>xu t z a λy=>fin y h) (kp t a λy=>fin y h))=some (v,h'):=by
  split at e
  ·cases e
  ·rename_i hn;exact⟨λms Ej=>hn ms Ej,e⟩
 obtain⟨fG,e⟩:=fG;cases ok
 ·simp only[cj]at e;unfold kp at e
  split at e
  ·rename_i u z;simp only[qs,qM]at e;obtain⟨hu,rfl,rfl⟩:=e;have hu:=jd hu;subst hu;refine ja R ?_ a2;unfold Instr.typeAssert;simp only[cv];rw[qV (run_underlying hd)];cases d<;>first |(exact absurd rfl (fG _)) |simp
  ·cases e
 ·simp only[cj,qg]at e;obtain⟨z,hz,e⟩:=e;obtain⟨z1,z2⟩:=xP (w:=w) (m:=m) (D:=D) hz;unfold xu at e
  split at e
  ·rename_i u y _;cases hu:Nat.beq u t
   ·rw[hu]at e;simp only[cond_false,qM]at e;obtain⟨rfl,rfl⟩:=e;refine ja R ?_ ⟨z2,trivial,trivial⟩;unfold Instr.typeAssert;simp only[cv,aT];rw[qV (run_underlying hd)];have cx:¬u=t:=yb hu;cases d<;>first |(exact absurd rfl (fG _)) |(simp only[cx,if_false,if_true];rw[qV z1];rfl)
   ·rw[hu]at e;simp only[cond_true,qM]at e;obtain⟨rfl,rfl⟩:=e;have hu:=jd hu;subst hu;refine ja R ?_ ⟨a2,trivial,trivial⟩;unfold Instr.typeAssert;simp only[cv,aT];rw[qV (run_underlying hd)];cases d<;>first |(exact absurd rfl (fG _)) |simp
  ·simp only[qM]at e;obtain⟨rfl,rfl⟩:=e;refine ja R ?_ ⟨z2,trivial,trivial⟩;unfold Instr.typeAssert;simp only[cv,aT];rw[qV (run_underlying hd)];cases d<;>first |(exact absurd rfl (fG _)) |(simp only[if_true];rw[qV z1];rfl)
  ·cases e
theorem Z0 {op:BinOp} {k:IntKind} {x y:Int} {z:AV} (e:Mo op k x y=some z) (yk:IntKind):(Op.shift op k x yk y).run P w=.ok (cv m z) w∧bm D z:=by
 unfold Mo at e;rw[Kb]at e;by_cases hy:y<0
 ·simp[hy]at e
 ·simp only[iV hy,cond_false]at e;cases op<;>simp only[reduceCtorEq,Option.some.injEq]at e<;>subst e<;>refine⟨?_,trivial⟩
  ·simp only[Op.shift,hy,if_false,cv,kA];rfl
  ·simp only[Op.shift,hy,if_false,cv];rfl
theorem Y5 (l:List UInt8):(ByteArray.mk l.toArray).toList=l:=by rw[ByteArray.toList_eq]
theorem qVe {op:BinOp} {x y:List UInt8} {z:AV} (e:OH op x y=some z):(Op.stringOp op ⟨x.toArray⟩ ⟨y.toArray⟩).run P w=.ok (cv m z) w∧bm D z:=by
 cases op<;>simp only[OH,reduceCtorEq,Option.some.injEq,fI]at e
 case add=>
  rw[qs]at e;obtain⟨hl,e⟩:=e;have hl:=jf hl;cases e;refine⟨?_,trivial⟩;have h1:(ByteArray.mk x.toArray).size=x.length:=by simp[ByteArray.size]
  have h2:(ByteArray.mk y.toArray).size=y.length:=by simp[ByteArray.size]
  have h3:¬(((x.length+y.length:Nat):Int)>IntKind.i64.max):=by show¬(_>(9223372036854775807:Int));omega
  simp only[Op.stringOp,h1,h2,h3,if_false,cv];show Result.ok (Value.string (ByteArray.mk x.toArray++ByteArray.mk y.toArray)) w=_
  congr 2
 all_goals
  subst e;refine⟨?_,trivial⟩;simp only[Op.stringOp,Y5,cv];rfl
theorem Oo {op:BinOp} {t:TypeId} {x y:Operand} {a b:Value} (h1:op≠.eql) (h2:op≠.neq):(eqGuard op t x y a b).run P w=.ok () w:=by unfold eqGuard;cases op<;>first |(exact absurd rfl h1) |(exact absurd rfl h2) |rfl
theorem QX {op:BinOp} {t:TypeId} {x y:Operand} {a b:AV} (ha:∀l,a≠.agg l) (hb:a≠.cH∨b≠.cH):(eqGuard op t x y (cv m a) (cv m b)).run P w=.ok () w:=by
 unfold eqGuard;cases op<;>first |rfl |skip
 all_goals
  cases a<;>first |(exact absurd rfl (ha _)) |(cases b<;>first |rfl |(rcases hb with hb |hb<;>exact absurd rfl hb))
theorem qKt {t:TypeId} {x y:Value} {b:Bool} (h:∀d,(Op.equalIn (d+1) t x y).run P w=.ok b w):(Op.equal t x y).run P w=.ok b w:=h 9999
theorem VT {t:TypeId} {d:TypeDesc} {k:EK} {a b:AV} {q:Bool} (hd:P.underlying t=some d) (hk:Kx d=some k) (e:Ji k a b=some q) (n:Nat) :
  (Op.equalIn (n+1) t (cv m a) (cv m b)).run P w=.ok q w:=by
 cases d<;>simp only[Kx,reduceCtorEq,Option.some.injEq]at hk<;>subst hk<;>unfold Ji at e<;>split at e<;>
  first
   |(cases e;done)
   |skip
 all_goals try contradiction
 all_goals try (simp only[Option.some.injEq]at e;subst e)
 all_goals
  unfold Op.equalIn;rw[qV (Ae.run_underlying hd)];simp only[cv]
 all_goals first
  |rfl
  |skip
 ·rename_i k1 x1 k2 y1 _;rw[qs]at e;obtain⟨hk,e⟩:=e;simp only[Option.some.injEq]at e;subst e;have hk:k1=k2:=by simpa using hk
  simp only[iJ hk,Uw];rfl
 ·rename_i s1 s2 _;show Result.ok ((ByteArray.mk s1.toArray)==(ByteArray.mk s2.toArray)) w=_;rw[beq_toListBytes,Y5,Y5,fI]
mutual
theorem ZR:∀v:AV,bm (λ_=>True) v
 | .bool _=>trivial
 | .int _ _=>trivial
 | .str _=>trivial
 | .ptr _ _=>trivial
 | .aP=>trivial
 | .slice _ _ _ _ _=>trivial
 | .ak=>trivial
 | .fn _ a c=>⟨y7 a,y7 c⟩
 | .yield _=>trivial
 | .dG=>trivial
 | .iface _ v=>ZR v
 | .cH=>trivial
 | .agg l=>y7 l
 | .bJ l=>y7 l
 | .bU _=>trivial
 | .tail _ _ _ _=>trivial
 | .cI _=>trivial
theorem y7:∀l:List AV,aY (λ_=>True) l
 |[]=>trivial
 |a::r=>⟨ZR a,y7 r⟩
end
theorem Vz {t:TypeId} {d:TypeDesc} {k:EK} (hd:P.underlying t=some d) (hk:Kx d=some k):fj P t=some false:=by unfold fj;rw[hd];cases d<;>simp only[Kx,reduceCtorEq]at hk<;>rfl
theorem Zg {l1 l2:List ES} {xs ys:List AV} {q:Bool} (e:xk (l1++l2) xs ys=some q):(xk l1 xs ys=some false∧q=false)∨(xk l1 xs ys=some true∧xk l2 xs ys=some q):=by
 induction l1 with
 |nil=>exact .inr ⟨rfl,e⟩
 |cons a l1 ih=>
  cases a with
  |lA k o=>
   simp only[List.cons_append,xk,Option.bind_eq_some_iff]at e ⊢;obtain⟨x,hx,y,hy,b,hb,e⟩:=e;cases b
   ·simp only[cond_false,Option.some.injEq]at e;subst e;exact .inl ⟨⟨x,hx,y,hy,false,hb,rfl⟩,rfl⟩
   ·simp only[cond_true]at e;rcases ih e with⟨h1,h2⟩ |⟨h1,h2⟩
    ·exact .inl ⟨⟨x,hx,y,hy,true,hb,h1⟩,h2⟩
    ·exact .inr ⟨⟨x,hx,y,hy,true,hb,h1⟩,h2⟩
  |len n=>
   simp only[List.cons_append,xk]at e ⊢;cases hb:Nat.ble n xs.length&&Nat.ble n ys.length
   ·rw[hb]at e;cases e
   ·rw[hb]at e;exact ih e
theorem Up {c n:Nat} {xs ys:List AV} (hx:c+n≤xs.length) (hy:c+n≤ys.length):∀{l:List ES},Qe n l=true→
  xk (Xl c l) xs ys=xk l ((xs.drop c).take n) ((ys.drop c).take n):=by
 intro l
 induction l with
 |nil=>intro _;rfl
 |cons a l ih=>
  intro h;cases a with
  |lA k o=>
   simp only[Qe,Bool.and_eq_true]at h;have ho:=jf h.1;have gx:wx xs (c+o)=wx ((xs.drop c).take n) o:=by rw[xh,xh,List.getElem?_take_of_lt omQ,List.getElem?_drop]
   have gy:wx ys (c+o)=wx ((ys.drop c).take n) o:=by rw[xh,xh,List.getElem?_take_of_lt omQ,List.getElem?_drop]
   simp only[Xl,xk,gx,gy,ih h.2]
  |len m=>
   simp only[Qe,Bool.and_eq_true]at h;have hm:=jf h.1;have h1:(Nat.ble (c+m) xs.length&&Nat.ble (c+m) ys.length)=true:=by rw[iY omQ,iY omQ];rfl
   have h2:(Nat.ble m ((xs.drop c).take n).length&&Nat.ble m ((ys.drop c).take n).length)=true:=by rw[iY (by simp;omega),iY (by simp;omega)];rfl
   simp only[Xl,xk,h1,h2,cond_true,ih h.2]
theorem qJM:∀(d:Nat) {fs:List Field} {l:List ES} {xs ys:List AV} {q:Bool} (n:Nat) (_:yt P d fs=some l) (_:xk l xs ys=some q),
  (Op.eqFields (n+d) (aT m xs).toArray (aT m ys).toArray fs).run P w=.ok q w:=by
 intro d
 induction d with
 |zero=>intro fs l xs ys q n hl;cases hl
 |succ d ihd=>
  intro fs l xs ys q n hl e;simp only[yt]at hl
  induction fs generalizing l q with
  |nil=>simp[Jo]at hl;subst hl;simp[xk]at e;subst e;rfl
  |cons f fs ih=>
   unfold Jo at hl;cases hn : f.name == "_"
   ·rw [hn] at hl;simp only [cond_false, Option.bind_eq_some_iff] at hl;obtain ⟨u, hu, hl⟩ := hl;have cx : f.name ≠ "_" := by simpa using hn
    by_cases cP:∃gs,u=.struct gs
    ·obtain⟨gs,rfl⟩:=cP;simp only[Option.bind_eq_some_iff]at hl;obtain⟨sz,bw,hl⟩:=hl;cases AN:P.stoodInHeld f.type
     ·rw[AN]at hl;simp only[cond_false,Option.bind_eq_some_iff]at hl;obtain⟨l1,rf,hl⟩:=hl;cases dl:Qe sz l1
      ·rw[dl]at hl;cases hl
      ·rw[dl]at hl;simp only[cond_true,Option.map_eq_some_iff]at hl;obtain⟨l2,lF,rfl⟩:=hl;simp only[xk]at e;cases hb:Nat.ble (f.offset+sz) xs.length&&Nat.ble (f.offset+sz) ys.length
       ·rw[hb]at e;cases e
       ·rw[hb]at e;simp only[cond_true]at e;simp only[Bool.and_eq_true]at hb;have hx:=jf hb.1;have hy:=jf hb.2;have lq:fj P f.type=some true:=by unfold fj;rw[hu];rfl
        have px:=J8 (P:=P) (m:=m) (w:=w) (t:=f.type) (off:=f.offset) lq bw (show yD sz (yi f.offset xs)=some ((xs.drop f.offset).take sz) by rw[wF,gQ (by simp;omega)]) (y7 xs);have py:=J8 (P:=P) (m:=m) (w:=w) (t:=f.type) (off:=f.offset) lq bw (show yD sz (yi f.offset ys)=some ((ys.drop f.offset).take sz) by rw[wF,gQ (by simp;omega)]) (y7 ys);have AO:∀b,xk (Xl f.offset l1) xs ys=some b→
          (Op.equalIn (n+(d+1)) f.type (cv m (.agg ((xs.drop f.offset).take sz))) (cv m (.agg ((ys.drop f.offset).take sz)))).run P w=.ok b w:=by
         intro b oH;rw[Up hx hy dl]at oH;have hf:P.fieldsOf f.type=gs:=by unfold Program.fieldsOf;rw[hu]
         rw[show cv m (.agg ((xs.drop f.offset).take sz))=.agg (aT m ((xs.drop f.offset).take sz)).toArray from rfl,show cv m (.agg ((ys.drop f.offset).take sz))=.agg (aT m ((ys.drop f.offset).take sz)).toArray from rfl];rw[show n+(d+1)=(n+d)+1 from rfl,run_equalIn_struct w (n+d) f.type _ _ (by rw[hf];exact hu) AN,hf];exact ihd n rf oH
        unfold Op.eqFields;rw[iJ cx,qV px.1,qV py.1];rcases Zg e with⟨h1,rfl⟩ |⟨h1,h2⟩
        ·rw[qV (AO false h1)];rfl
        ·rw[qV (AO true h1)];simp only[Bool.not_true,Bool.false_eq_true,if_false];exact ih lF h2
     ·rw[AN]at hl;cases hl
    ·have hl:∃k s,Kx u=some k∧Jo P (yt P d) fs=some s∧ES.lA k f.offset::s=l:=by
      cases u<;>first |(exact absurd ⟨_,rfl⟩ cP) |skip
      all_goals
       simp only[Option.bind_eq_some_iff]at hl;obtain⟨k,hk,hl⟩:=hl;refine⟨k,?_⟩;cases k<;>simp only[reduceCtorEq,Option.map_eq_some_iff]at hl<;>
        (obtain⟨s,hs,rfl⟩:=hl;exact⟨s,hk,hs,rfl⟩)
     obtain⟨k,s,hk,hs,rfl⟩:=hl;simp only[xk,Option.bind_eq_some_iff]at e;obtain⟨x,hx,y,hy,b,hb,e⟩:=e;unfold Op.eqFields;rw[iJ cx];rw[qV (J2 (m:=m) (w:=w) (Vz hu hk) hx (y7 xs)).1];rw[qV (J2 (m:=m) (w:=w) (Vz hu hk) hy (y7 ys)).1];rw[show n+(d+1)=(n+d)+1 from rfl,qV (VT hu hk hb (n+d))];cases b
     ·simp only[cond_false,Option.some.injEq]at e;subst e;rfl
     ·simp only[cond_true]at e;simp only[Bool.not_true,Bool.false_eq_true,if_false];exact ih hs e
   ·rw[hn]at hl;cases hl
theorem qx0 {t:TypeId} {fs:Array Field} {l:List ES} {xs ys:List AV} {q:Bool} (hd:P.underlying t=some (.struct fs)) (hg:(P.eqGuardType P.depth t||P.stoodInHeld t)=false)
  (hl:yt P 8 fs.toList=some l) (e:xk l xs ys=some q):(Op.equal t (cv m (.agg xs)) (cv m (.agg ys))).run P w=.ok q w:=by
 simp only[Bool.or_eq_false_iff]at hg;have hf:P.fieldsOf t=fs:=by unfold Program.fieldsOf;rw[hd]
 have:(Op.equalIn (9991+8+1) t (cv m (.agg xs)) (cv m (.agg ys))).run P w=.ok q w:=by rw[show cv m (.agg xs)=.agg (aT m xs).toArray from rfl,show cv m (.agg ys)=.agg (aT m ys).toArray from rfl];rw[run_equalIn_struct w (9991+8) t _ _ (by rw[hf];exact hd) hg.2,hf];exact qJM 8 9991 hl e
 exact this
theorem K8 (b:Bool):(b !=false)=b:=by cases b<;>rfl
theorem U8 (b:Bool):(b !=true)=!b:=by cases b<;>rfl
theorem qvA {op:BinOp} {t t2:TypeId} {x y:Operand} (ho:o.op=.binOp op t x y t2) (hr:dr m D ρ r) (R:Rel P m D h w) (e:aX P c o.op r h fin=some (v,h')):dj P m D h w ((execOp ρ o).run P w) v h':=by
 rw[ho]at e;simp only[aX,qg]at e;obtain⟨a,ha,b,hb,e⟩:=e;obtain⟨a1,a2⟩:=hr _ _ ha;obtain⟨b1,b2⟩:=hr _ _ hb;simp only[execOp,ho,a1,b1]
 suffices hs:h=h'∧bm D v∧(eqGuard op t x y (cv m a) (cv m b)).run P w=.ok () w∧(binOp op t (cv m a) (cv m b)).run P w=.ok (cv m v) w by
  obtain⟨rfl,hv,h1,h2⟩:=hs;refine ja R ?_ hv;rw[qV h1];exact h2
 have shift:∀op,(op=.shl∨op=.shr)→wL op a b (λz=>fin z h)=some (v,h')→h=h'∧bm D v∧(eqGuard op t x y (cv m a) (cv m b)).run P w=.ok () w∧(binOp op t (cv m a) (cv m b)).run P w=.ok (cv m v) w:=by
  intro op lG e;unfold wL at e
  split at e
  ·rename_i k1 p k2 q _;simp only[qg,qM]at e;obtain⟨z,hz,rfl,rfl⟩:=e;obtain⟨z1,z2⟩:=Z0 (P:=P) (m:=m) (D:=D) (w:=w) hz k2;refine⟨rfl,z2,Oo (by rcases lG with rfl |rfl<;>simp) (by rcases lG with rfl |rfl<;>simp),?_⟩;rcases lG with rfl |rfl<;>exact z1
  ·cases e
 unfold Ay at e
 split at e
 ·exact shift .shl (.inl rfl) e
 ·exact shift .shr (.inr rfl) e
 ·rename_i uS De;simp only[qg]at e;obtain⟨d,hd,e⟩:=e;have uS:op≠.shl:=λhh=>uS hh;have De:op≠.shr:=λhh=>De hh;have gen:∀(k:EK),Kx d=some k→(∀kk,d≠.int kk)→d≠.string→∀q,Ji k a b=some q→
    (∀x y,(eqGuard .eql t x y (cv m a) (cv m b)).run P w=.ok () w)∧(∀x y,(eqGuard .neq t x y (cv m a) (cv m b)).run P w=.ok () w)∧
    (binOp .eql t (cv m a) (cv m b)).run P w=.ok (.bool q) w∧(binOp .neq t (cv m a) (cv m b)).run P w=.ok (.bool !q) w:=by
   intro k hk hi hs q hq;have cE:=qKt (λn=>VT (m:=m) (w:=w) hd hk hq n);have lq:(∀l,a≠.agg l)∧(a≠.cH∨b≠.cH)∧(∀kk n,a≠.int kk n)∧(∀s,a≠.str s):=by
    cases d<;>simp only[Kx,reduceCtorEq,Option.some.injEq]at hk<;>first |(exact absurd rfl (hi _)) |(exact absurd rfl hs) |skip
    all_goals
     subst hk;unfold Ji at hq
     split at hq
     all_goals try contradiction
     all_goals simp
   obtain⟨g1,g2,g3,g4⟩:=lq;refine⟨λx y=>QX g1 g2,λx y=>QX g1 g2,?_,?_⟩
   ·have:binOp .eql t (cv m a) (cv m b)=(do pure (Value.bool (← Op.equal t (cv m a) (cv m b)))):=by
     cases a<;>first |rfl |(exact absurd rfl (g3 _ _)) |(exact absurd rfl (g4 _))
    rw[this,qV cE];rfl
   ·have:binOp .neq t (cv m a) (cv m b)=(do pure (Value.bool (!(← Op.equal t (cv m a) (cv m b))))):=by
     cases a<;>first |rfl |(exact absurd rfl (g3 _ _)) |(exact absurd rfl (g4 _))
    rw[this,qV cE];rfl
  have pe:(∀kk,d≠.int kk)→d≠.string→∀(k:EK),Kx d=some k→∀neg,(neg=false→op=.eql)→(neg=true→op=.neq)→mM k neg a b (λz=>fin z h)=some (v,h')→
    h=h'∧bm D v∧(eqGuard op t x y (cv m a) (cv m b)).run P w=.ok () w∧(binOp op t (cv m a) (cv m b)).run P w=.ok (cv m v) w:=by
   intro hi hs k hk neg e0 e1 e;unfold mM at e;simp only[qg,qM]at e;obtain⟨q,hq,rfl,rfl⟩:=e;obtain⟨q1,q2,q3,q4⟩:=gen k hk hi hs q hq;cases neg
   ·obtain rfl:=e0 rfl;exact⟨rfl,trivial,q1 x y,by rw[q3,K8];rfl⟩
   ·obtain rfl:=e1 rfl;exact⟨rfl,trivial,q2 x y,by rw[q4,U8];rfl⟩
  have ps:∀fs l,d=.struct fs→(P.eqGuardType P.depth t||P.stoodInHeld t)=false→yt P 8 fs.toList=some l→∀neg,(neg=false→op=.eql)→(neg=true→op=.neq)→GG l neg a b (λz=>fin z h)=some (v,h')→
    h=h'∧bm D v∧(eqGuard op t x y (cv m a) (cv m b)).run P w=.ok () w∧(binOp op t (cv m a) (cv m b)).run P w=.ok (cv m v) w:=by
   intro fs l oa hg hl neg e0 e1 ee;subst oa;unfold GG at ee
   split at ee
   ·rename_i xs ys;simp only[qg,qM]at ee;obtain⟨q,hq,rfl,rfl⟩:=ee;have cE:=qx0 (m:=m) (w:=w) hd hg hl hq;simp only[Bool.or_eq_false_iff]at hg;cases neg
    ·obtain rfl:=e0 rfl;refine⟨rfl,trivial,run_eqGuard_agg w _ _ _ _ _ _ hg.1,?_⟩;have:binOp .eql t (cv m (.agg xs)) (cv m (.agg ys))=(do pure (Value.bool (← Op.equal t (cv m (.agg xs)) (cv m (.agg ys))))):=rfl;rw[this,qV cE,K8];rfl
    ·obtain rfl:=e1 rfl;refine⟨rfl,trivial,run_eqGuard_agg w _ _ _ _ _ _ hg.1,?_⟩;have:binOp .neq t (cv m (.agg xs)) (cv m (.agg ys))=(do pure (Value.bool (!(← Op.equal t (cv m (.agg xs)) (cv m (.agg ys)))))):=rfl;rw[this,qV cE,U8];rfl
   ·cases ee
  split at e
  ·--numbers
   rw[Ms]at e
   split at e
   ·rename_i k1 p k2 q;simp only[qs,qg,qM]at e;obtain⟨hk,z,hz,rfl,rfl⟩:=e;have hk:k1=k2:=by simpa using hk
    subst hk;obtain⟨z1,z2⟩:=qY3 (P:=P) (m:=m) (D:=D) (w:=w) hz;refine⟨rfl,z2,QX aN aN,?_⟩;have:binOp op t (cv m (.int k1 p)) (cv m (.int k1 q))=Nm op k1 p q:=by
     cases op<;>first |(exact absurd rfl uS) |(exact absurd rfl De) |simp[binOp,cv,Nm]
    rw[this];exact z1
   ·cases e
  ·unfold M6 at e
   split at e
   ·rename_i s1 s2;simp only[qg,qM]at e;obtain⟨z,hz,rfl,rfl⟩:=e;obtain⟨z1,z2⟩:=qVe (P:=P) (m:=m) (D:=D) (w:=w) hz;refine⟨rfl,z2,QX aN aN,?_⟩;have:binOp op t (cv m (.str s1)) (cv m (.str s2))=Op.stringOp op ⟨s1.toArray⟩ ⟨s2.toArray⟩:=by
     cases op<;>first |(exact absurd rfl uS) |(exact absurd rfl De) |rfl
    rw[this];exact z1
   ·cases e
  ·rename_i fs
   split at e
   ·cases hg:(P.eqGuardType P.depth t||P.stoodInHeld t)<;>simp only[hg,cj,reduceCtorEq]at e
    simp only[qg]at e;obtain⟨l,hl,e⟩:=e;exact ps fs l rfl hg hl false (λ_=>rfl) aN e
   ·cases hg:(P.eqGuardType P.depth t||P.stoodInHeld t)<;>simp only[hg,cj,reduceCtorEq]at e
    simp only[qg]at e;obtain⟨l,hl,e⟩:=e;exact ps fs l rfl hg hl true aN (λ_=>rfl) e
   ·cases e
  ·rename_i hi hs _
   split at e
   ·simp only[qg]at e;obtain⟨k,hk,e⟩:=e;exact pe (λkk hh=>hi kk hh) (λhh=>hs hh) k hk false (λ_=>rfl) aN e
   ·simp only[qg]at e;obtain⟨k,hk,e⟩:=e;exact pe (λkk hh=>hi kk hh) (λhh=>hs hh) k hk true aN (λ_=>rfl) e
   ·cases e
end Go.Ae
