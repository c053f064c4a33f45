/- The abstract executor of the program's form in Lean, shown sound: what an abstract heap says of a world; loads, stores, numbers, simple operations. -/
import Derived.Test.YtolpbdncppeohaaGreatDoorTopBankAe1
import Derived.Below
import Derived.Lib.LaidTab
import Derived.Laws.StructEq
namespace Go.Ae
theorem yi {a b:Nat} (h:a≠b):Nat.beq a b=false:=by
 grind[Nat.beq,absurd,Nat.eq_of_beq_eq_true]
theorem vo {a b:Nat} (h:Nat.beq a b=false):a≠b:=λe=>by simp_all
theorem zE {a b:Nat} (h:Nat.beq a b=true):a=b:=Nat.eq_of_beq_eq_true h
theorem PT.lg {α:Type} (i:Nat):(PT.e:PT α).get i=none:=rfl
theorem PT.lY {α:Type} (l:PT α) (v:Option α) (r:PT α) (i:Nat):(PT.n l v r).get i=bif Nat.beq i 0 then v else bif Nat.beq (i%2) 1 then l.get (i/2)else r.get (i/2-1):=by show Bool.rec (motive:=λ_=>Option α) (Bool.rec (motive:=λ_=>Option α) (r.get (i/2-1)) (l.get (i/2)) (Nat.beq (i%2) 1)) v (Nat.beq i 0)=_;cases Nat.beq i 0<;>cases Nat.beq (i%2) 1<;>rfl
theorem PT.Bi {α:Type} (f i:Nat) (x:α):PT.im (f+1) .e i x=bif Nat.beq i 0 then .n .e (some x) .e else bif Nat.beq (i%2) 1 then .n (PT.im f .e (i/2) x) none .e else .n .e none (PT.im f .e (i/2-1) x):=by show Bool.rec (motive:=λ_=>PT α) (Bool.rec (motive:=λ_=>PT α) (.n .e none (PT.im f .e (i/2-1) x)) (.n (PT.im f .e (i/2) x) none .e) (Nat.beq (i%2) 1)) (.n .e (some x) .e) (Nat.beq i 0)=_;cases Nat.beq i 0<;>cases Nat.beq (i%2) 1<;>rfl
theorem PT.Bj {α:Type} (f i:Nat) (x:α) (l:PT α) (v:Option α) (r:PT α):PT.im (f+1) (.n l v r) i x=bif Nat.beq i 0 then .n l (some x) r else bif Nat.beq (i%2) 1 then .n (PT.im f l (i/2) x) v r else .n l v (PT.im f r (i/2-1) x):=by show Bool.rec (motive:=λ_=>PT α) (Bool.rec (motive:=λ_=>PT α) (.n l v (PT.im f r (i/2-1) x)) (.n (PT.im f l (i/2) x) v r) (Nat.beq (i%2) 1)) (.n l (some x) r) (Nat.beq i 0)=_;cases Nat.beq i 0<;>cases Nat.beq (i%2) 1<;>rfl
theorem MA {α:Type} (i:Nat):Qy ([]:List α) i=none:=rfl
theorem Oy {α:Type} (a:α) (r:List α) (i:Nat):Qy (a::r) i=bif Nat.beq i 0 then some a else Qy r (i-1):=by show Bool.rec (motive:=λ_=>Option α) (Qy r (i-1)) (some a) (Nat.beq i 0)=_;cases Nat.beq i 0<;>rfl
theorem Lv {α:Type} (l:List α):vN 0 l=some []:=rfl
theorem qYh {α:Type} (n:Nat):vN (n+1) ([]:List α)=none:=rfl
theorem MH {α:Type} (n:Nat) (a:α) (r:List α):vN (n+1) (a::r)=(vN n r).bind λs=>some (a::s):=by show Option.rec (motive:=λ_=>Option (List α)) none (λs=>some (a::s)) (vN n r)=_;cases vN n r<;>rfl
theorem jZ1 {α:Type} (l:List α):gK 0 l=l:=rfl
theorem qqP {α:Type} (n:Nat):gK (n+1) ([]:List α)=[]:=rfl
theorem qVR {α:Type} (n:Nat) (a:α) (r:List α):gK (n+1) (a::r)=gK n r:=rfl
theorem Tw {α:Type} (l:List α):NB l []=some l:=rfl
theorem qv4 {α:Type} (x:α) (xs:List α):NB [] (x::xs)=none:=rfl
theorem ZW {α:Type} (a:α) (l:List α) (x:α) (xs:List α):NB (a::l) (x::xs)=(NB l xs).bind λs=>some (x::s):=by show Option.rec (motive:=λ_=>Option (List α)) none (λs=>some (x::s)) (NB l xs)=_;cases NB l xs<;>rfl
theorem qVt {α:Type} (n:Nat) (xs:List α):Jy [] (n+1) xs=none:=rfl
theorem U3 {α:Type} (a:α) (l:List α) (n:Nat) (xs:List α):Jy (a::l) (n+1) xs=(Jy l n xs).bind λs=>some (a::s):=by show Option.rec (motive:=λ_=>Option (List α)) none (λs=>some (a::s)) (Jy l n xs)=_;cases Jy l n xs<;>rfl
theorem qke (t:aO AV) (i:Nat):u9 t i []=t:=rfl
theorem qji (t:aO AV) (i:Nat) (x:AV) (r:List AV):u9 t i (x::r)=u9 (aO.set t i x) (i+1) r:=rfl
theorem vS (z:List AV) (t:aO AV) (i:Nat):JP z t i=(match aO.get t i with |some v=>some v |none=>Qy z (i%z.length)):=by show Option.rec (motive:=λ_=>Option AV) (Qy z (i%z.length)) (λv=>some v) (aO.get t i)=_;split<;>simp_all
theorem Tx (z:List AV) (t:aO AV) (i:Nat):XC z t i 0=some []:=rfl
theorem Zc (z:List AV) (t:aO AV) (i n:Nat):XC z t i (n+1)=(JP z t i).bind λv=>(XC z t (i+1) n).bind λs=>some (v::s):=by
 show Option.rec (motive:=λ_=>Option (List AV)) none (λv=>Option.rec (motive:=λ_=>Option (List AV)) none (λs=>some (v::s)) (XC z t (i+1) n)) (JP z t i)=_;cases JP z t i with
 |none=>rfl
 |some v=>cases XC z t (i+1) n<;>rfl
theorem PT.rB {α:Type}:∀(f:Nat) (t:PT α) (i:Nat) (x:α) (j:Nat),i<f→(PT.im f t i x).get j=if i=j then some x else t.get j:=by
 intro f
 induction f with
 |zero=>simp
 |succ f ih=>
  intro t i x j h;cases t with
  |e=>
   simp only[PT.Bi];by_cases h0:i=0
   ·subst h0;simp only[Nat.beq_refl,cond_true,PT.lY,PT.lg];by_cases hj:j=0
    ·simp_all
    simp_all;omega
   ·have CQ:Nat.beq i 0=false:=yi h0;rw[CQ];simp only[cond_false];cases hm:Nat.beq (i%2) 1
    ·have tU:i%2≠1:=vo hm;simp only[cond_false,PT.lY,PT.lg];by_cases hj:j=0
     ·simp_all
     ·have Bk:Nat.beq j 0=false:=yi hj;rw[Bk];simp only[cond_false];cases lh:Nat.beq (j%2) 1
      ·have n0:j%2≠1:=vo lh;simp only[cond_false];rw[ih _ _ _ _ omQ];simp only[PT.lg];grind
      grind
    ·have tU:i%2=1:=Nat.eq_of_beq_eq_true hm;simp only[cond_true,PT.lY,PT.lg];by_cases hj:j=0
     ·simp_all
     ·have Bk:Nat.beq j 0=false:=yi hj;rw[Bk];simp only[cond_false];cases lh:Nat.beq (j%2) 1
      ·grind
      ·have n0:j%2=1:=Nat.eq_of_beq_eq_true lh;simp only[cond_true];rw[ih _ _ _ _ omQ];simp only[PT.lg];grind
  |n l v r=>
   simp only[PT.Bj];by_cases h0:i=0
   ·subst h0;simp only[Nat.beq_refl,cond_true,PT.lY];by_cases hj:j=0
    ·simp_all
    ·rw[iQ (λe=>hj e.symm)];grind[Nat.beq,yi]
   ·have CQ:Nat.beq i 0=false:=yi h0;rw[CQ];simp only[cond_false];cases hm:Nat.beq (i%2) 1
    ·have tU:i%2≠1:=vo hm;simp only[cond_false,PT.lY];by_cases hj:j=0
     ·simp_all
     ·have Bk:Nat.beq j 0=false:=yi hj;rw[Bk];simp only[cond_false];cases lh:Nat.beq (j%2) 1
      ·have n0:j%2≠1:=vo lh;grind
      grind
    ·have tU:i%2=1:=Nat.eq_of_beq_eq_true hm;simp only[cond_true,PT.lY];by_cases hj:j=0
     ·simp_all
     ·have Bk:Nat.beq j 0=false:=yi hj;rw[Bk];simp only[cond_false];cases lh:Nat.beq (j%2) 1
      ·grind
      ·have n0:j%2=1:=Nat.eq_of_beq_eq_true lh;grind
theorem PT.bP {α:Type} (t:PT α) (i:Nat) (x:α) (j:Nat):(t.set i x).get j=if i=j then some x else t.get j :=
 PT.rB (i+1) t i x j (Nat.lt_succ_self i)
@[simp] theorem PT.get_set_same {α:Type} (t:PT α) (i:Nat) (x:α):(t.set i x).get i=some x:=by rw[PT.bP,iJ rfl]
def Ge (i m:Nat):Bool:=Nat.beq (Nat.land i m) 0
theorem PT.tV {α:Type} (i j m:Nat) (f:PT α→PT α) (t:PT α):PT.mF j m (PT.sub i m f t)=if Ge i m=Ge j m then f (PT.mF j m t)else PT.mF j m t:=by
 unfold Ge;cases t with
 |e=>
  show PT.mF j m (Bool.rec (motive:=λ_=>PT α) (.n .e none (f .e)) (.n (f .e) none .e) (Nat.beq (Nat.land i m) 0))=_;cases Nat.beq (Nat.land i m) 0
  ·show Bool.rec (motive:=λ_=>PT α) (f .e) .e (Nat.beq (Nat.land j m) 0)=_;cases Nat.beq (Nat.land j m) 0<;>rfl
  ·show Bool.rec (motive:=λ_=>PT α) .e (f .e) (Nat.beq (Nat.land j m) 0)=_;cases Nat.beq (Nat.land j m) 0<;>rfl
 |n l v r=>
  show PT.mF j m (Bool.rec (motive:=λ_=>PT α) (.n l v (f r)) (.n (f l) v r) (Nat.beq (Nat.land i m) 0))=if _ then f (Bool.rec (motive:=λ_=>PT α) r l (Nat.beq (Nat.land j m) 0))else Bool.rec (motive:=λ_=>PT α) r l (Nat.beq (Nat.land j m) 0)
  cases Nat.beq (Nat.land i m) 0
  ·show Bool.rec (motive:=λ_=>PT α) (f r) l (Nat.beq (Nat.land j m) 0)=_;split<;>simp_all
  ·show Bool.rec (motive:=λ_=>PT α) r (f l) (Nat.beq (Nat.land j m) 0)=_;cases Nat.beq (Nat.land j m) 0<;>rfl
theorem PT.pj {α:Type} (x:α) (t:PT α):(PT.mark x t).leaf=some x:=by cases t<;>rfl
noncomputable def CR {α:Type}:List Nat→PT α→Nat→Option α
 |[],t,_=>t.leaf
 |m::r,t,i=>CR r (PT.mF i m t) i
noncomputable def DR {α:Type}:List Nat→Nat→α→PT α→PT α
 |[],_,x=>PT.mark x
 |m::r,i,x=>PT.sub i m (DR r i x)
theorem qYp {α:Type} (i j:Nat) (x:α):∀(L:List Nat) (t:PT α),CR L (DR L i x t) j=if(∀m∈L,Ge i m=Ge j m)then some x else CR L t j:=by
 intro L
 induction L with
 |nil=>simp[CR,DR,PT.pj]
 |cons m L ih=>
  intro t;simp only[CR,DR,PT.tV];grind
def VT:List Nat:=[2048,1024,512,256,128,64,32,16,8,4,2,1]
theorem UZ (i k:Nat):Ge i (2 ^ k)=!i.testBit k:=by
 unfold Ge;cases h:i.testBit k
 ·have:Nat.land i (2 ^ k)=0:=by
   apply Nat.eq_of_testBit_eq;intro n;show(i&&&2 ^ k).testBit n=_;grind
  simp_all
 ·have:Nat.land i (2 ^ k)≠0:=by
   intro e;have:=congrArg (λx=>x.testBit k) e;simp only[Nat.zero_testBit]at this;have h2:(i&&&2 ^ k).testBit k=false:=this;grind
  grind[yi]
theorem O6 (i j:Nat):(∀m∈VT,Ge i m=Ge j m)↔i%4096=j%4096:=by
 have hm:VT=[2 ^ 11,2 ^ 10,2 ^ 9,2 ^ 8,2 ^ 7,2 ^ 6,2 ^ 5,2 ^ 4,2 ^ 3,2 ^ 2,2 ^ 1,2 ^ 0]:=rfl;rw[hm];constructor
 ·intro h;have hb:∀k,k<12→i.testBit k=j.testBit k:=by
   intro k hk;have tW:2 ^ k∈[2 ^ 11,2 ^ 10,2 ^ 9,2 ^ 8,2 ^ 7,2 ^ 6,2 ^ 5,2 ^ 4,2 ^ 3,2 ^ 2,2 ^ 1,2 ^ 0]:=by
    have:k=0∨k=1∨k=2∨k=3∨k=4∨k=5∨k=6∨k=7∨k=8∨k=9∨k=10∨k=11:=by omega
    rcases this with rfl |rfl |rfl |rfl |rfl |rfl |rfl |rfl |rfl |rfl |rfl |rfl<;>simp
   grind[UZ]
  apply Nat.eq_of_testBit_eq;intro n;rw[show 4096=2 ^ 12 from rfl,Nat.testBit_mod_two_pow,Nat.testBit_mod_two_pow];grind
 ·intro h m tW;have key:∀k,k<12→Ge i (2 ^ k)=Ge j (2 ^ k):=by
   intro k hk;rw[UZ,UZ];have:=congrArg (λx=>x.testBit k) h;simp only[show 4096=2 ^ 12 from rfl,Nat.testBit_mod_two_pow,hk,decide_true,Bool.true_and]at this;grind
  simp only[List.mem_cons,List.not_mem_nil,or_false]at tW;rcases tW with rfl |rfl |rfl |rfl |rfl |rfl |rfl |rfl |rfl |rfl |rfl |rfl<;>exact key _ omQ
theorem PT.mP {α:Type} (t:PT α) (i:Nat):t.lX i=CR VT t i:=rfl
theorem PT.rC {α:Type} (t:PT α) (i:Nat) (x:α):t.oD i x=DR VT i x t:=rfl
theorem PT.pn {α:Type} (t:PT α) (i:Nat) (x:α) (j:Nat):(t.oD i x).lX j=if i%4096=j%4096 then some x else t.lX j:=by
 simp[PT.mP,PT.rC,qYp,O6]
theorem aO.get_eq {α:Type} (t:aO α) (i:Nat):t.get i=(PT.get t (i/4096)).bind λs=>s.lX i:=by show Option.rec (motive:=λ_=>Option α) none (λs=>PT.lX s i) (PT.get t (i/4096))=_;cases PT.get t (i/4096)<;>rfl
theorem aO.fE {α:Type} (i:Nat):aO.get (PT.e:aO α) i=none:=rfl
theorem aO.bP {α:Type} (t:aO α) (i:Nat) (x:α) (j:Nat):(t.set i x).get j=if i=j then some x else t.get j:=by
 rw[aO.get_eq,aO.get_eq];show((PT.set t (i/4096) (PT.oD (Option.rec (motive:=λ_=>PT α) .e (λs=>s) (PT.get t (i/4096))) i x)).get (j/4096)).bind _=_;rw[PT.bP];by_cases hd:i/4096=j/4096
 ·rw[iJ hd,Option.bind_some,PT.pn,← hd];by_cases hm:i%4096=j%4096
  ·grind
  ·have:i≠j:=λe=>hm (by rw[e]);rw[iQ hm,iQ this];cases PT.get t (i/4096)<;>rfl
 grind
@[simp] theorem aO.get_set_same {α:Type} (t:aO α) (i:Nat) (x:α):(t.set i x).get i=some x:=by rw[aO.bP,iJ rfl]
theorem Xk (p:Nat×cV) (l:List (Nat×cV)) (b:Nat) (d:Option cV):VK (p::l) b d=if p.1=b then some p.2 else VK l b d:=by
 show Bool.rec (motive:=λ_=>Option cV) (VK l b d) (some p.2) (Nat.beq p.1 b)=_;by_cases h:p.1=b
 ·simp_all
 ·rw[iQ h,yi h]
theorem OE:∀(n:Nat) (l:List (Nat×cV)) (b:Nat) (d:Option cV),VK (O8 n l) b (VK (gK n l) b d)=VK l b d:=by
 intro n
 induction n with
 |zero=>intro l b d;rfl
 |succ n ih=>
  intro l b d;cases l with
  |nil=>rfl
  |cons p l=>simp_all[VK,O8,gK]
theorem Oq:∀(l:List (Nat×cV)) (t:aO cV) (b:Nat),aO.get (ZB l t) b=VK l b (aO.get t b):=by
 intro l
 induction l with
 |nil=>intro t b;rfl
 |cons p l ih=>grind[aO.get,aO.set,ZB,aO.bP,Xk]
theorem AH.oG (h:AH) (b b':Nat) (x:cV):(h.put b x).get b'=if b=b' then some x else h.get b':=by show VK ((b,x)::O8 5 h.rc) b' (aO.get (ZB (gK 5 h.rc) h.t) b')=_;rw[Xk,Oq,OE];rfl
theorem AH.oH (h:AH) (b':Nat) (x:cV):(h.new x).get b'=if h.nx=b' then some x else h.get b':=by show VK ((h.nx,x)::O8 5 h.rc) b' (aO.get (ZB (gK 5 h.rc) h.t) b')=_;rw[Xk,Oq,OE];rfl
@[simp] theorem AH.aV (h:AH) (b:Nat) (x:cV):(h.put b x).get b=some x:=by rw[AH.oG,iJ rfl]
theorem AH.bw (h:AH) {b b':Nat} (x:cV) (e:b≠b'):(h.put b x).get b'=h.get b':=by rw[AH.oG,iQ e]
@[simp] theorem AH.bB (h:AH) (x:cV):(h.new x).get h.nx=some x:=by rw[AH.oH,iJ rfl]
theorem AH.bS (h:AH) {b:Nat} (x:cV) (e:h.nx≠b):(h.new x).get b=h.get b:=by rw[AH.oH,iQ e]
@[simp] theorem AH.Bl (h:AH) (b:Nat) (x:cV):(h.put b x).nx=h.nx:=rfl
@[simp] theorem AH.Lw (h:AH) (x:cV):(h.new x).nx=h.nx+1:=rfl
theorem jX7 (a b:IntKind):Li a b=(a==b):=by cases a<;>cases b<;>rfl
theorem jZm (t w:Bool):A9 t w=(t==w):=by cases t<;>cases w<;>rfl
theorem Lx (b:Bool):Bc b=!b:=by cases b<;>rfl
theorem jJt (x y:Int):Ba x y=x+y:=by cases x<;>cases y<;>rfl
theorem jJ1 (x y:Int):Bb x y=x-y:=by
 cases x with
 |negSucc a=>rfl
 |ofNat a=>
  cases y with
  |negSucc b=>rfl
  |ofNat b=>
   show Bool.rec (motive:=λ_=>Int) (.negSucc (Nat.sub (Nat.sub b a) 1)) (.ofNat (Nat.sub a b)) (Nat.ble b a)=(a:Int)-(b:Int);cases hb:Nat.ble b a
   ·have:¬b≤a:=λh=>by simp_all[iY]
    grind
   simp at*;omega
theorem Vk (x y:Int):Zn x y=oE x y:=by cases x<;>cases y<;>rfl
theorem Ly (x y:Int):DG x y=mG x y:=by cases x<;>cases y<;>rfl
theorem Ty (k:IntKind) (n:Int) (f:Int→R):DH k n f=f (jR k n):=by
 cases k<;>first |rfl |skip
 ·cases n with
  |negSucc a=>rfl
  |ofNat a=>
   show Bool.rec (motive:=λ_=>R) (f (jR .i64 (.ofNat a))) (f (.ofNat a)) (Nat.ble a 9223372036854775807)=_;cases hb:Nat.ble a 9223372036854775807
   ·rfl
   ·simp only[jR,hb,cond_true]
 ·cases n with
  |negSucc a=>rfl
  |ofNat a=>
   show Bool.rec (motive:=λ_=>R) (f (jR .u64 (.ofNat a))) (f (.ofNat a)) (Nat.ble a 18446744073709551615)=_;cases hb:Nat.ble a 18446744073709551615
   ·rfl
   ·have:=Nat.le_of_ble_eq_true hb;simp only[jR];grind
theorem qyC (op:BinOp) (k:IntKind) (x y:Int) (f:AV→R):Lj op k x y f=ob (JL op k x y) f:=by
 cases op<;>first |rfl |skip
 ·show DH k (Ba x y) (λn=>f (.int k n))=f (.int k (jR k (x+y)));rw[Ty,jJt]
 ·show DH k (Bb x y) (λn=>f (.int k n))=f (.int k (jR k (x-y)));rw[Ty,jJ1]
 ·show f (.bool (DG x y))=_;rw[Ly];rfl
 ·show f (.bool (Bc (DG x y)))=_;rw[Ly,Lx];rfl
 ·show f (.bool (Zn x y))=_;rw[Vk];rfl
 ·show f (.bool (Bc (Zn y x)))=_;rw[Vk,Lx];rfl
 ·show f (.bool (Zn y x))=_;rw[Vk];rfl
 ·show f (.bool (Bc (Zn x y)))=_;rw[Vk,Lx];rfl
theorem DT {α:Type} (x:Option α) (k:α→R):Option.rec (motive:=λ_=>R) none k x=ob x k:=by cases x<;>rfl
theorem tX (b:Bool) (x y:R):Bool.rec (motive:=λ_=>R) y x b=bif b then x else y:=by cases b<;>rfl
theorem Tz (v:AV) (a b:R):xY v a b=(match v with | .bool t=>(match t with |true=>a |false=>b) |_=>none):=by cases v<;>first |rfl |(rename_i t;cases t<;>rfl)
theorem MX (v:AV) (w:Bool) (a b:R):wa v w a b=(match v with | .bool t=>bif t==w then a else b |_=>b):=by cases v<;>first |rfl |(rename_i t;show Bool.rec (motive:=λ_=>R) b a (A9 t w)=_;rw[jZm,tX])
theorem TA (c a b:AV) (k:AV→R):gt c a b k=(match c with | .bool t=>(match t with |true=>k a |false=>k b) |_=>none):=by cases c<;>first |rfl |(rename_i t;cases t<;>rfl)
theorem M3 (v:AV) (off:Nat) (k:AV→R):jG v off k=(match v with | .ptr b o=>k (.ptr b (o+off)) |_=>none):=by cases v<;>rfl
theorem ZF (v:AV) (off:Nat) (k:AV→R):UE v off k=(match v with | .agg cs=>ob (Qy cs off) k |_=>none):=by cases v<;>first |rfl |exact DT _ _
theorem Vn (v i:AV) (sz:Nat) (k:AV→R):gT v i sz k=(match v,i with | .slice b off len _ _,.int _ (.ofNat a)=>bif Nat.ble (a+1) len then k (.ptr b (off+a*sz))else none |_,_=>none):=by
 cases v<;>first |rfl |skip
 cases i<;>first |rfl |skip
 rename_i n;cases n<;>first |rfl |exact tX _ _ _
theorem gM (h:AH) (v:AV) (k:AV→R):ja h v k=(match v with | .ptr b off=>(match h.get b with |some (.cells c _ _)=>ob (c.fa off) k |some (.dq t)=>ob (aO.get t off) k |_=>none) |_=>none):=by
 cases v<;>first |rfl |skip
 rename_i b off;show Option.rec (motive:=λ_=>R) none _ (h.get b)=(match h.get b with |some (.cells c _ _)=>ob (c.fa off) k |some (.dq t)=>ob (aO.get t off) k |_=>none);cases h.get b with
 |none=>rfl
 |some x=>cases x<;>first |rfl |simp[DT]
theorem QK (h:AH) (v:AV) (n:Nat) (k:AV→R):xH h v n k=(match v with | .ptr b off=>ob (vq h b off n) λl=>k (.agg l) |_=>none):=by cases v<;>first |rfl |exact DT _ _
theorem UT (h:AH) (a x:AV) (n:Nat) (k:AH→R):zx h a x n k=(match a with | .ptr b off=>bif Nat.beq x.cells.length n then ob (wW h b off x.cells) k else none |_=>none):=by
 cases a<;>first |rfl |skip
 rename_i b off;show Bool.rec (motive:=λ_=>R) none (Option.rec (motive:=λ_=>R) none k (wW h b off x.cells)) (Nat.beq x.cells.length n)=_;rw[tX,DT]
theorem Lz (op:BinOp) (x y:AV) (k:AV→R):zB op x y k=(match x,y with | .int k1 a,.int k2 b=>bif k1==k2 then ob (JL op k1 a b) k else none |_,_=>none):=by
 cases x<;>first |rfl |skip
 cases y<;>first |rfl |skip
 rename_i k1 a k2 b;show Bool.rec (motive:=λ_=>R) none (Lj op k1 a b k) (Li k1 k2)=_;rw[tX,qyC,jX7]
theorem YZ (v:AV) (i:Nat) (k:AV→R):yY v i k=(match v with | .bV l=>ob (Qy l i) k |_=>none):=by cases v<;>first |rfl |exact DT _ _
theorem JD (c:CV) (f:AV) (a:List AV) (h:AH) (k:AV→AH→R):ze c f a h k=(match c f a h with |some q=>k q.1 q.2 |none=>none):=by unfold ze;split<;>simp_all
theorem yR {α:Type} (l:List α) (i:Nat):Qy l i=l[i]?:=by
 induction l generalizing i with
 |nil=>rfl
 |cons a r ih=>
  cases i with
  |zero=>rfl
  |succ i=>simp only[Oy];rw[show Nat.beq (i+1) 0=false from rfl];grind
theorem QI {α:Type} (n:Nat) (l:List α):gK n l=l.drop n:=by
 induction n generalizing l with
 |zero=>rfl
 |succ n ih=>cases l<;>simp[qqP,qVR,ih]
theorem QW {α:Type} {n:Nat} {l s:List α} (h:vN n l=some s):s=l.take n∧n≤l.length:=by
 induction n generalizing l s with
 |zero=>grind[Lv]
 |succ n ih=>
  cases l with
  |nil=>trivial
  |cons a r=>grind[MH,Option.bind_eq_some_iff]
theorem qqA {α:Type} {n:Nat} {l s:List α} (h:vN n l=some s):s.length=n:=by obtain⟨e,h'⟩:=QW h;grind
theorem qYI {α:Type} {l xs r:List α} (h:NB l xs=some r):r=xs++l.drop xs.length∧xs.length≤l.length:=by
 induction xs generalizing l r with
 |nil=>grind[Tw]
 |cons x xs ih=>
  cases l with
  |nil=>trivial
  |cons a l=>grind[ZW,Option.bind_eq_some_iff]
theorem Up {α:Type} {l:List α} {off:Nat} {xs r:List α} (h:Jy l off xs=some r):r=l.take off++xs++l.drop (off+xs.length)∧off+xs.length≤l.length:=by
 induction off generalizing l r with
 |zero=>have h':NB l xs=some r:=h;grind[qYI]
 |succ n ih=>
  cases l with
  |nil=>trivial
  |cons a l=>grind[U3,Option.bind_eq_some_iff]
theorem kQ {α:Type} {n:Nat} {l:List α} (h:n≤l.length):vN n l=some (l.take n):=by
 induction n generalizing l with
 |zero=>rfl
 |succ n ih=>
  cases l with
  |nil=>grind
  |cons a r=>grind[MH]
theorem qyc {α:Type} {xs l:List α} (h:xs.length≤l.length):NB l xs=some (xs++l.drop xs.length):=by
 induction xs generalizing l with
 |nil=>rfl
 |cons x xs ih=>
  cases l with
  |nil=>grind
  |cons a r=>grind[ZW]
theorem Ub {α:Type} {xs:List α}:∀{off:Nat} {l:List α},off+xs.length≤l.length→Jy l off xs=some (l.take off++xs++l.drop (off+xs.length)):=by
 intro off
 induction off with
 |zero=>intro l h;have:Jy l 0 xs=NB l xs:=rfl;simp_all[qyc,omQ]
 |succ n ih=>
  intro l h;cases l with
  |nil=>grind
  |cons a r=>simp at h;simp only[U3];grind
theorem Qk:∀(l:List AV) (i:Nat) (t:aO AV) (j:Nat),aO.get (u9 t i l) j=if i≤j∧j<i+l.length then l[j-i]? else aO.get t j:=by
 intro l
 induction l with
 |nil=>simp[qke,List.length_nil,iQ,omQ]
 |cons a l ih=>
  intro i t j;simp only[qji,ih,List.length_cons];by_cases h1:i+1≤j∧j<i+1+l.length
  ·grind
  ·rw[iQ h1,aO.bP];grind
theorem CT.dN (c:CT):c.len=c.toList.length:=by cases c<;>simp[CT.len,CT.toList]
theorem Y8 {z:List AV} {t:aO AV} {i:Nat} {v:AV} (h:JP z t i=some v):kg z t i=v:=by grind[kg]
theorem wX {a b:Nat} (h:Nat.ble a b=true):a≤b:=Nat.le_of_ble_eq_true h
theorem CT.tY {c:CT} {i:Nat} {v:AV} (h:c.fa i=some v):Qy c.toList i=some v:=by
 cases c with
 |e9 xs=>exact h
 |tree n z t=>
  simp only[CT.fa]at h;cases hb:Nat.ble (i+1) n
  ·grind
  ·rw[hb]at h;have:=wX hb;rw[yR];simp only[CT.toList,List.getElem?_map,List.getElem?_range this,Option.map_some,Y8 h]
theorem qkM {z:List AV} {t:aO AV}:∀{n i:Nat} {l:List AV},XC z t i n=some l→l=(List.range' i n).map (kg z t):=by
 intro n
 induction n with
 |zero=>simp[Tx,Option.some.injEq]
 |succ n ih=>intro i l h;simp only[Zc,Option.bind_eq_some_iff]at h;obtain⟨v,hv,s,hs,h⟩:=h;cases h;rw[List.range'_succ,List.map_cons,← ih hs,Y8 hv]
theorem CT.mQ {c:CT} {off n:Nat} {l:List AV} (h:c.iU off n=some l):vN n (gK off c.toList)=some l:=by
 cases c with
 |e9 xs=>exact h
 |tree m z t=>
  simp only[CT.iU]at h;cases hn:Nat.beq n 0
  ·rw[hn]at h;simp only[cond_false]at h;cases hb:Nat.ble (off+n) m
   ·grind
   ·rw[hb]at h;have:=wX hb;rw[QI,kQ (by grind[CT.toList]),qkM h];simp only[CT.toList];rw[← List.map_drop,← List.map_take]
    congr 2
    apply List.ext_getElem?;grind
  ·have:=zE hn;subst this;trivial
theorem CT.mR {c c':CT} {off:Nat} {xs:List AV} (h:c.write off xs=some c'):Jy c.toList off xs=some c'.toList:=by
 cases c with
 |e9 ys=>simp only[CT.write,Option.bind_eq_some_iff]at h;obtain⟨s,hs,h⟩:=h;cases h;exact hs
 |tree n z t=>
  simp only[CT.write]at h;cases hb:Nat.ble (off+xs.length) n
  ·grind
  ·rw[hb]at h;have hle:=wX hb;cases h;rw[Ub (by grind[CT.toList])]
   congr 1
   apply List.ext_getElem?;intro i;simp only[CT.toList];by_cases hi:i<n
   ·rw[List.getElem?_map,List.getElem?_range hi,Option.map_some];by_cases h1:i<off
    ·rw[List.getElem?_append_left (by grind),List.getElem?_append_left (by grind),List.getElem?_take_of_lt h1,List.getElem?_map,List.getElem?_range hi];simp only[Option.map_some,kg,vS,Qk];grind
    ·by_cases h2:i<off+xs.length
     ·rw[List.getElem?_append_left (by grind),List.getElem?_append_right (by grind)];have hlen:(List.take off ((List.range n).map (kg z t))).length=off:=by grind
      rw[hlen,iW (show i-off<xs.length by omega)];simp only[kg,vS,Qk];grind
     ·rw[List.getElem?_append_right (by grind),List.getElem?_drop];have hlen:(List.take off ((List.range n).map (kg z t))++xs).length=off+xs.length:=by grind
      rw[hlen,show off+xs.length+(i-(off+xs.length))=i by omega,List.getElem?_map,List.getElem?_range hi];simp_all[Option.map_some,kg,vS,Qk,iQ]
   grind
theorem CT.aL (xs:List AV):(CT.ofList xs).toList=xs:=by
 unfold CT.ofList;cases Nat.ble xs.length 16
 ·simp only[cond_false,CT.toList];apply List.ext_getElem?;intro i;by_cases hi:i<xs.length
  ·rw[List.getElem?_map,List.getElem?_range hi,iW hi];simp_all[Option.map_some,kg,vS,Qk]
  grind
 rfl
theorem qY4 (z:List AV):∀(n i:Nat),i<z.length*n→(gC z n)[i]? =z[i%z.length]?:=by
 intro n
 induction n with
 |zero=>simp
 |succ n ih=>
  intro i h;rw[Nat.mul_succ]at h;simp only[gC];by_cases hi:i<z.length
  ·grind[List.getElem?_append_left,Nat.mod_eq_of_lt]
  ·rw[List.getElem?_append_right omQ,ih _ omQ,← Nat.mod_eq_sub_mod omQ]
theorem qqn (z:List AV):∀n,(gC z n).length=z.length*n:=by
 intro n
 induction n with
 |zero=>rfl
 |succ n ih=>grind[gC,List.length_append,Nat.mul_succ]
theorem CT.n6 (z:List AV) (n:Nat):(CT.CH z n).toList=gC z n:=by
 unfold CT.CH;cases Nat.ble (z.length*n) 16
 ·simp only[cond_false,CT.toList];apply List.ext_getElem?;intro i;by_cases hi:i<z.length*n
  ·rw[List.getElem?_map,List.getElem?_range hi,qY4 z n i hi];have hz:0<z.length:=by
    grind
   have hm:=Nat.mod_lt i hz;simp_all[Option.map_some,kg,vS,aO.fE,yR]
  grind[List.getElem?_eq_none,qqn]
 rfl
theorem CT.rD (c:CT) (xs:List AV):(c.iM xs).toList=c.toList++xs:=by
 cases c with
 |e9 ys=>exact CT.aL _
 |tree n z t=>
  simp only[CT.iM,CT.toList];apply List.ext_getElem?;intro i;by_cases hi:i<n
  ·rw[List.getElem?_map,List.getElem?_range omQ,List.getElem?_append_left (by grind),List.getElem?_map,List.getElem?_range hi];simp only[Option.map_some,kg,vS,Qk];grind
  ·rw[List.getElem?_append_right (by grind)];by_cases h2:i<n+xs.length
   ·rw[List.getElem?_map,List.getElem?_range h2];have hlen:((List.range n).map (kg z t)).length=n:=by simp
    rw[hlen,iW (show i-n<xs.length by omega)];simp only[Option.map_some,kg,vS,Qk];grind
   grind
theorem CT.n7 {c c':CT} {n:Nat} (h:c.pre n=some c'):vN n c.toList=some c'.toList:=by
 cases c with
 |e9 ys=>simp only[CT.pre,Option.bind_eq_some_iff]at h;obtain⟨s,hs,h⟩:=h;cases h;exact hs
 |tree m z t=>
  simp only[CT.pre]at h;cases hb:Nat.ble n m
  ·grind
  ·rw[hb]at h;have:=wX hb;cases h;rw[kQ (by grind[CT.toList])];simp only[CT.toList];rw[← List.map_take,List.take_range,show min n m=n by omega]
theorem CT.Bm {c c':CT} {off n:Nat} (h:c.Hv off n=some c'):vN n (gK off c.toList)=some c'.toList:=by
 unfold CT.Hv at h;cases h0:Nat.beq off 0
 ·rw[h0]at h;simp only[cond_false,Option.bind_eq_some_iff]at h;grind[CT.aL,CT.mQ]
 ·rw[h0]at h;have:=zE h0;subst this;exact CT.n7 h
abbrev Mp:=Nat→Nat×Nat
mutual
def cv (m:Mp):AV→Value
 | .bool b=>.bool b
 | .int k n=>.int k n
 | .str s=>.string ⟨s.toArray⟩
 | .ptr b o=>.pointer (some ⟨(m b).1,o,none⟩)
 | .aU=>.pointer none
 | .slice b o l c p=>.slice (some ⟨(m b).1,o,none⟩) l (match p with |true=>(m b).2-c |false=>c)
 | .ak=>.slice none 0 0
 | .fn f a c=>.func (.func f) (aW m a).toArray (aW m c).toArray
 | .yield l=>.func (.yield (m l).1) #[] #[]
 | .dY=>.nilFunc
 | .iface t v=>.iface t (cv m v)
 | .dl=>.nilIface
 | .agg l=>.agg (aW m l).toArray
 | .bV l=>.tuple (aW m l).toArray
 | .ch a=>.slice (some a) 0 0
 | .tail b o o' i=>.slice (some ⟨(m b).1,if(m b).2=i then o else o',none⟩) 0 ((m b).2-i)
 | .dp b=>.map (some (m b).1)
def aW (m:Mp):List AV→List Value
 |[]=>[]
 |a::r=>cv m a::aW m r
end
mutual
def bu (D:Nat→Prop):AV→Prop
 | .bool _=>True
 | .int _ _=>True
 | .str _=>True
 | .ptr b _=>D b
 | .aU=>True
 | .slice b _ _ _ _=>D b
 | .ak=>True
 | .fn _ a c=>ba D a∧ba D c
 | .yield l=>D l
 | .dY=>True
 | .iface _ v=>bu D v
 | .dl=>True
 | .agg l=>ba D l
 | .bV l=>ba D l
 | .ch _=>True
 | .tail b _ _ _=>D b
 | .dp b=>D b
def ba (D:Nat→Prop):List AV→Prop
 |[]=>True
 |a::r=>bu D a∧ba D r
end
theorem xK (m:Mp) (l:List AV):aW m l=l.map (cv m):=by
 induction l with
 |nil=>rfl
 |cons a r ih=>grind[aW]
@[simp] theorem eG (m:Mp) (l:List AV):(aW m l).length=l.length:=by simp[xK]
theorem Yt (m:Mp) (l r:List AV):aW m (l++r)=aW m l++aW m r:=by simp[xK]
theorem x8 (D:Nat→Prop) (l:List AV):ba D l↔∀v∈l,bu D v:=by
 induction l with
 |nil=>simp[ba]
 |cons a r ih=>grind[ba]
theorem gw {D:Nat→Prop} {l r:List AV}:ba D (l++r)↔ba D l∧ba D r:=by simp only[x8,List.mem_append];grind
theorem XZ {D:Nat→Prop} {l:List AV} (n:Nat) (h:ba D l):ba D (l.take n):=by grind[x8,List.mem_of_mem_take]
theorem Gq {D:Nat→Prop} {l:List AV} (n:Nat) (h:ba D l):ba D (l.drop n):=by grind[x8,List.mem_of_mem_drop]
mutual
theorem QL {m m':Mp} {D:Nat→Prop} (hm:∀b,D b→m' b=m b):∀v:AV,bu D v→cv m' v=cv m v
 | .bool _,_=>rfl
 | .int _ _,_=>rfl
 | .str _,_=>rfl
 | .ptr b o,h=>by simp only[bu]at h;simp only[cv,hm b h]
 | .aU,_=>rfl
 | .slice b o l c p,h=>by simp only[bu]at h;cases p<;>simp only[cv,hm b h]
 | .ak,_=>rfl
 | .fn f a c,h=>by simp only[bu]at h;simp only[cv,kl hm a h.1,kl hm c h.2]
 | .yield l,h=>by simp only[bu]at h;simp only[cv,hm l h]
 | .dY,_=>rfl
 | .iface t v,h=>by simp only[bu]at h;simp only[cv,QL hm v h]
 | .dl,_=>rfl
 | .agg l,h=>by simp only[bu]at h;simp only[cv,kl hm l h]
 | .bV l,h=>by simp only[bu]at h;simp only[cv,kl hm l h]
 | .ch _,_=>rfl
 | .tail b o o' i,h=>by simp only[bu]at h;simp only[cv,hm b h]
 | .dp b,h=>by simp only[bu]at h;simp only[cv,hm b h]
theorem kl {m m':Mp} {D:Nat→Prop} (hm:∀b,D b→m' b=m b):∀l:List AV,ba D l→aW m' l=aW m l
 |[],_=>rfl
 |a::r,h=>by simp only[ba]at h;simp only[aW,QL hm a h.1,kl hm r h.2]
end
mutual
theorem QA {D D':Nat→Prop} (hd:∀b,D b→D' b):∀v:AV,bu D v→bu D' v
 | .bool _,_=>trivial
 | .int _ _,_=>trivial
 | .str _,_=>trivial
 | .ptr b o,h=>hd b h
 | .aU,_=>trivial
 | .slice b o l c p,h=>hd b h
 | .ak,_=>trivial
 | .fn f a c,h=>by simp only[bu]at*;exact⟨wO hd a h.1,wO hd c h.2⟩
 | .yield l,h=>hd l h
 | .dY,_=>trivial
 | .iface t v,h=>by simp only[bu]at*;exact QA hd v h
 | .dl,_=>trivial
 | .agg l,h=>by simp only[bu]at*;exact wO hd l h
 | .bV l,h=>by simp only[bu]at*;exact wO hd l h
 | .ch _,_=>trivial
 | .tail b _ _ _,h=>hd b h
 | .dp b,h=>hd b h
theorem wO {D D':Nat→Prop} (hd:∀b,D b→D' b):∀l:List AV,ba D l→ba D' l
 |[],_=>trivial
 |a::r,h=>by simp only[ba]at*;exact⟨QA hd a h.1,wO hd r h.2⟩
end
def kY:AX→Code
 | .normal=>.skip
 | .exit i=>.exit i
 | .goto l=>.goto l
 | .ret=>.ret
def xk (e:Int×Int×Nat):MapEntry:={ key:=.int .i64 e.1,val:=.int .i64 e.2.1,born:=e.2.2 }
def dr (P:Program) (m:Mp) (x:cV) (b:Nat×Nat) (w:World):Prop :=
 match x with
 | .cells c e o=>∃(rest:List Value) (fr:Nat×Nat),w.heap[b.1]? =some (.cells (aW m c.toList++rest).toArray e fr)∧(o=false→rest=[])∧
   (∀i,i<c.toList.length+rest.length→¬(fr.1≤i∧i<fr.2))∧(o=true→∀n,aQ P e=some n→c.toList.length≤b.2*n∧b.2*n≤c.toList.length+rest.length)
 | .dead=>True
 | .iter s pos=>w.heap[b.1]? =some (.stringIter ⟨s.toArray⟩ pos)
 | .loop st cj f pos L vs d=>∃(f':FuncId) (tmps:Array Value) (ps:Array Tmp) (g:Operand) (assign body:Code) (fn:Func) (bd:Code),
   w.heap[b.1]? =some (.loop { state:=st,pending:=cj.map kY,fn:=f',tmps,params:=ps,assign,body,defers:=(m d).1 })∧
   P.funcs[f]? =some fn∧fn.body=some bd∧xF bd pos=some (.rangeFunc g ps assign body)∧fn.ntmps≤tmps.size∧
   L.length=vs.length∧∀p∈L.zip vs,tmps[p.1]? =some (cv m p.2)
 | .lH=>w.heap[b.1]? =some (.deferred (some []))
 | .pd=>∃o,w.heap[b.1]? =some o
 | .dq t=>∃C e fr,w.heap[b.1]? =some (.cells (List.toArray C) e fr)∧∀i v,aO.get t i=some v→C[i]? =some (cv m v)
 | .mp l c=>w.heap[b.1]? =some (.map (l.map xk).toArray c)
def cJ (D:Nat→Prop):cV→Prop
 | .cells c _ _=>ba D c.toList
 | .loop _ _ _ _ _ vs d=>ba D vs∧D d
 | .dq t=>∀i v,aO.get t i=some v→bu D v
 |_=>True
def cV.live:cV→Prop
 | .dead=>False
 | .dq _=>False
 |_=>True
def live (h:AH) (b:Nat):Prop:=∃x,h.get b=some x∧x.live
def own (m:Mp) (D:Nat→Prop) (h:AH) (c:Nat):Prop:=∃b,D b∧live h b∧(m b).1=c
structure Rel0 (P:Program) (m:Mp) (D:Nat→Prop) (h:AH) (w:World):Prop where
  bp:∀b,D b→∃x,h.get b=some x∧dr P m x (m b) w∧cJ D x
  inj:∀b b',D b→D b'→live h b→live h b'→(m b).1=(m b').1→b=b'
  lt:∀b,D b→b<h.nx
  dq:∀b t,D b→h.get b=some (.dq t)→¬own m D h (m b).1
def Gl (P:Program) (w:World):Prop:=∀p∈gtab,∃g,P.globalNamed p.1=some g∧Lib.TabIs P w p.1 p.2.1 p.2.2
def Ah (P:Program) (m:Mp) (D:Nat→Prop) (h:AH) (w:World):Prop:=∀p∈gtab,∃g,P.globalNamed p.1=some g∧Lib.TabIs P w p.1 p.2.1 p.2.2∧¬own m D h g
structure Rel (P:Program) (m:Mp) (D:Nat→Prop) (h:AH) (w:World):Prop extends Rel0 P m D h w where
  gl:Ah P m D h w
theorem Ah.gl {P:Program} {m:Mp} {D:Nat→Prop} {h:AH} {w:World} (r:Ah P m D h w):Gl P w:=λp hp=>let ⟨g,h1,h2,_⟩:=r p hp;⟨g,h1,h2⟩
theorem Gp {P:Program} {w w':World} {name:String} {k:IntKind} {zs:List Int} {g:Nat} (hg:P.globalNamed name=some g) (h:Lib.TabIs P w name k zs):g<w.heap.size∧(w'.heap[g]? =w.heap[g]? →Lib.TabIs P w' name k zs):=by
 unfold Lib.TabIs World.var? at*;grind
structure Ext (m:Mp) (D:Nat→Prop) (h:AH) (w:World) (m':Mp) (D':Nat→Prop) (h':AH) (w':World):Prop where
  rE:∀b,D b→D' b
  map:∀b,D b→m' b=m b
  size:w.heap.size≤w'.heap.size
  keep:∀c,c<w.heap.size→¬own m D h c→w'.heap[c]? =w.heap[c]? ∧¬own m' D' h' c
  nx:h.nx≤h'.nx
  un:∀b,b<h.nx→¬D b→h'.get b=h.get b∧¬D' b
  os:w'.os=w.os
  tape:w'.tape=w.tape
  output:w'.output=w.output
  dm:∀b,D' b↔D b∨(h.nx≤b∧b<h'.nx)
  ni:∀b t,D' b→h'.get b=some (.dq t)→D b∧h.get b=some (.dq t)
theorem Ah.ext {P:Program} {m m':Mp} {D D':Nat→Prop} {h h':AH} {w w':World} (X:Ext m D h w m' D' h' w') (r:Ah P m D h w):Ah P m' D' h' w':=λp hp=>by
 obtain⟨g,h1,h2,h3⟩:=r p hp;obtain⟨k1,k2⟩:=Gp (w':=w') h1 h2;obtain⟨e1,e2⟩:=X.keep g k1 h3;grind
theorem Ext.rel {P:Program} {m m':Mp} {D D':Nat→Prop} {h h':AH} {w w':World} (r:Rel P m D h w) (x:Ext m D h w m' D' h' w'∧Rel0 P m' D' h' w'):Ext m D h w m' D' h' w'∧Rel P m' D' h' w':=⟨x.1,{ toRel0:=x.2,gl:=r.gl.ext x.1 }⟩
theorem Ext.refl (m:Mp) (D:Nat→Prop) (h:AH) (w:World):Ext m D h w m D h w :=
 ⟨λ_ x=>x,λ_ _=>rfl,Nat.le_refl _,λ_ _ n=>⟨rfl,n⟩,Nat.le_refl _,λ_ _ n=>⟨rfl,n⟩,rfl,rfl,rfl,λ_=>⟨.inl,λx=>x.elim id λy=>by omega⟩,λ_ _ x y=>⟨x,y⟩⟩
theorem Ext.trans {m m' TB:Mp} {D D' TC:Nat→Prop} {h h' po:AH} {w w' TD:World} (a:Ext m D h w m' D' h' w') (b:Ext m' D' h' w' TB TC po TD):Ext m D h w TB TC po TD where
 rE:=λx hx=>b.rE x (a.rE x hx)
 map:=λx hx=>(b.map x (a.rE x hx)).trans (a.map x hx)
 size:=Nat.le_trans a.size b.size
 keep:=λc hc hn=>by
  obtain⟨e1,n1⟩:=a.keep c hc hn;obtain⟨e2,n2⟩:=b.keep c (Nat.lt_of_lt_of_le hc a.size) n1;grind
 nx:=Nat.le_trans a.nx b.nx
 un:=λx hx hn=>by
  obtain⟨e1,n1⟩:=a.un x hx hn;obtain⟨e2,n2⟩:=b.un x (Nat.lt_of_lt_of_le hx a.nx) n1;grind
 os:=b.os.trans a.os
 tape:=b.tape.trans a.tape
 output:=b.output.trans a.output
 dm:=λx=>by
  have h1:=a.nx;have h2:=b.nx;rw[b.dm,a.dm];grind
 ni:=λx t hx hg=>by
  obtain⟨h1,h2⟩:=b.ni x t hx hg;exact a.ni x t h1 h2
theorem Ext.cv {m m':Mp} {D D':Nat→Prop} {h h':AH} {w w':World} (e:Ext m D h w m' D' h' w') {v:AV} (hv:bu D v):Ae.cv m' v=Ae.cv m v:=QL e.map v hv
theorem Ext.aW {m m':Mp} {D D':Nat→Prop} {h h':AH} {w w':World} (e:Ext m D h w m' D' h' w') {l:List AV} (hv:ba D l):Ae.aW m' l=Ae.aW m l:=kl e.map l hv
theorem Ext.bu {m m':Mp} {D D':Nat→Prop} {h h':AH} {w w':World} (e:Ext m D h w m' D' h' w') {v:AV} (hv:Ae.bu D v):Ae.bu D' v:=QA e.rE v hv
theorem Ext.ba {m m':Mp} {D D':Nat→Prop} {h h':AH} {w w':World} (e:Ext m D h w m' D' h' w') {l:List AV} (hv:Ae.ba D l):Ae.ba D' l:=wO e.rE l hv
theorem dr.congr {P:Program} {m m':Mp} {D:Nat→Prop} (hm:∀b,D b→m' b=m b) {x:cV} {b:Nat×Nat} {w w':World} (hx:cJ D x) (hw:w'.heap[b.1]? =w.heap[b.1]?) (h:dr P m x b w):dr P m' x b w':=by
 cases x with
 |cells c e o=>grind[cJ,dr,kl]
 |dead=>trivial
 |iter s pos=>grind[dr]
 |loop st cj f pos L vs d=>
  simp only[cJ]at hx;simp only[dr]at*;obtain⟨f',tmps,ps,g,assign,body,fn,bd,h1,h2,h3,h4,h5,h6,h7⟩:=h;refine⟨f',tmps,ps,g,assign,body,fn,bd,?_,h2,h3,h4,h5,h6,?_⟩
  ·grind
  ·intro p hp;rw[QL hm p.2 ((x8 D vs).1 hx.1 _ (List.of_mem_zip hp).2)];grind
 |lH=>grind[dr]
 |pd=>grind[dr]
 |dq t=>grind[cJ,dr,QL]
 |mp l c=>grind[dr]
theorem cJ.mono {D D':Nat→Prop} (hd:∀b,D b→D' b) {x:cV} (h:cJ D x):cJ D' x:=by
 cases x<;>simp only[cJ]at* <;>first |exact wO hd _ h |exact⟨wO hd _ h.1,hd _ h.2⟩ |grind[QA] |trivial
theorem dr.inside {P:Program} {m:Mp} {x:cV} {b:Nat×Nat} {w:World} (hl:x.live) (h:dr P m x b w):b.1<w.heap.size:=by
 have key:∀o,w.heap[b.1]? =some o→b.1<w.heap.size:=λo e=>(Array.getElem?_eq_some_iff.1 e).1;cases x with
 |cells c e o=>obtain⟨r,fr,h,_⟩:=h;grind
 |dead=>trivial
 |iter s pos=>exact key _ h
 |loop st cj f pos L vs d=>obtain⟨f',tmps,ps,g,assign,body,fn,bd,h1,_⟩:=h;grind
 |lH=>exact key _ h
 |pd=>obtain⟨o,h⟩:=h;grind
 |dq t=>trivial
 |mp l c=>exact key _ h
theorem dr.iN {P:Program} {m:Mp} {t:aO AV} {b:Nat×Nat} {w:World} (h:dr P m (.dq t) b w):b.1<w.heap.size:=by obtain⟨C,e,fr,h,_⟩:=h;grind
theorem Rel.inside {P:Program} {m:Mp} {D:Nat→Prop} {h:AH} {w:World} (r:Rel P m D h w) {b:Nat} (hb:D b) (hl:live h b):(m b).1<w.heap.size:=by obtain⟨x,hx,hr,_⟩:=r.bp b hb;obtain⟨y,hy,lI⟩:=hl;rw[hx]at hy;cases hy;exact hr.inside lI
theorem Rel.new {P:Program} {m:Mp} {D:Nat→Prop} {h:AH} {w w0:World} (r:Rel P m D h w) (x:cV) (o:Obj) (room:Nat)
  (fW:w0.heap=w.heap.push o) (Bn:w0.os=w.os) (li:w0.tape=w.tape) (iw:w0.output=w.output)
  (hx:cJ D x) (mS:dr P m x (w.heap.size,room) w0) (iO:∀t,x≠.dq t:=by intro t hh;cases hh) :
  let m':Mp:=λb=>if b=h.nx then(w.heap.size,room)else m b
  let D':Nat→Prop:=λb=>b=h.nx∨D b
  Ext m D h w m' D' (h.new x) w0∧Rel P m' D' (h.new x) w0:=by
 intro m' D';refine Ext.rel r ?_;have hm:∀b,D b→m' b=m b:=λb hb=>by
  have:=r.lt b hb;grind
 have hold:∀c,c<w.heap.size→w0.heap[c]? =w.heap[c]?:=λc hc=>by
  grind
 have cO:∀b,D b→(h.new x).get b=h.get b:=λb hb=>AH.bS h x (by have:=r.lt b hb;omega);have bY:∀b,D b→(live (h.new x) b↔live h b):=λb hb=>by grind[live]
 refine⟨⟨λb hb=>.inr hb,hm,?_,?_,Nat.le_succ _,?_,Bn,li,iw,λb=>?_,?_⟩,⟨?_,?_,?_,?_⟩⟩
 ·grind
 ·intro c hc hn;refine⟨hold c hc,?_⟩;rintro⟨b,hb,hl,he⟩;rcases hb with rfl |hb
  ·grind
  ·exact hn ⟨b,hb,(bY b hb).1 hl,by grind⟩
 ·intro b hb hn;refine⟨AH.bS h x omQ,?_⟩;grind
 ·show b=h.nx∨D b↔D b∨(h.nx≤b∧b<h.nx+1);grind
 ·intro b t hb hg;rcases hb with rfl |hb
  all_goals simp_all
 ·intro b hb;rcases hb with rfl |hb
  ·refine⟨x,AH.bB h x,?_,hx.mono λb hb=>.inr hb⟩;have e:m' h.nx=(w.heap.size,room):=by grind
   rw[e];exact mS.congr hm hx rfl
  ·obtain⟨y,hy,fw,fX⟩:=r.bp b hb;refine⟨y,(cO b hb).trans hy,?_,fX.mono λb hb=>.inr hb⟩;rw[hm b hb];cases y with
   |dead=>trivial
   |dq t=>exact fw.congr hm fX (hold _ fw.iN)
   |_=>exact fw.congr hm fX (hold _ (dr.inside (by trivial) fw))
 ·intro b b' hb bJ hl eH he;rcases hb with rfl |hb<;>rcases bJ with rfl |bJ
  ·rfl
  ·have h1:=r.inside bJ ((bY b' bJ).1 eH);grind
  ·have h1:=r.inside hb ((bY b hb).1 hl);grind
  ·rw[hm b hb,hm b' bJ]at he;exact r.inj b b' hb bJ ((bY b hb).1 hl) ((bY b' bJ).1 eH) he
 ·intro b hb;rcases hb with rfl |hb
  ·simp
  ·have:=r.lt b hb;simp;omega
 ·rintro b t hb hg ⟨b',bJ,eH,he⟩;have cg:b≠b':=by
   rintro rfl;obtain⟨y,hy,lI⟩:=eH;rw[hg]at hy;cases hy;exact lI
  rcases hb with rfl |hb
  ·simp_all
  ·rw[cO b hb]at hg;rcases bJ with rfl |bJ
   ·obtain⟨y,hy,fw,_⟩:=r.bp b hb;rw[hg]at hy;cases hy;have:=fw.iN;grind
   ·refine r.dq b t hb hg ⟨b',bJ,(bY b' bJ).1 eH,?_⟩;grind
theorem Rel.put {P:Program} {m:Mp} {D:Nat→Prop} {h:AH} {w w0:World} (r:Rel P m D h w) (b:Nat) (x:cV) (hb:D b) (pp:live h b)
  (DU:w0.heap.size=w.heap.size) (fc:∀c,c≠(m b).1→w0.heap[c]? =w.heap[c]?) (Bn:w0.os=w.os) (li:w0.tape=w.tape) (iw:w0.output=w.output)
  (hx:cJ D x) (mS:dr P m x (m b) w0) (iO:∀t,x≠.dq t:=by intro t hh;cases hh) :
  Ext m D h w m D (h.put b x) w0∧Rel P m D (h.put b x) w0:=by
 refine Ext.rel r ?_;have cO:∀b',b'≠b→(h.put b x).get b'=h.get b':=λb' hn=>AH.bw h x (λe=>hn e.symm);have bY:∀b',live (h.put b x) b'→live h b':=λb' hl=>by
  grind[live]
 refine⟨⟨λ_ h=>h,λ_ _=>rfl,by omega,?_,Nat.le_refl _,?_,Bn,li,iw,λb=>⟨.inl,λhb=>hb.elim id λhb=>by simp at*;omega⟩,?_⟩,⟨?_,?_,?_,?_⟩⟩
 ·intro c hc hn;refine⟨fc c λe=>hn ⟨b,hb,pp,e.symm⟩,?_⟩;rintro⟨b',bJ,eH,he⟩;exact hn ⟨b',bJ,bY b' eH,he⟩
 ·grind
 ·intro b' t bJ hg;by_cases e:b'=b
  all_goals simp_all
 ·intro b' bJ;by_cases e:b'=b
  ·simp_all
  ·obtain⟨y,hy,fw,fX⟩:=r.bp b' bJ;refine⟨y,(cO b' e).trans hy,?_,fX⟩;cases y with
   |dead=>trivial
   |dq t=>exact fw.congr (λ_ _=>rfl) fX (fc _ λee=>r.dq b' t bJ hy ⟨b,hb,pp,ee.symm⟩)
   |_=>refine fw.congr (λ_ _=>rfl) fX (fc _ λee=>e ?_);exact r.inj b' b bJ hb ⟨_,hy,trivial⟩ pp ee
 ·intro b1 b2 h1 h2 l1 l2 he;exact r.inj b1 b2 h1 h2 (bY b1 l1) (bY b2 l2) he
 ·intro b' bJ;exact r.lt b' bJ
 ·rintro b' t bJ hg ⟨b2,eP,nK,he⟩;by_cases e:b'=b
  ·simp_all
  ·rw[cO b' e]at hg;exact r.dq b' t bJ hg ⟨b2,eP,bY b2 nK,he⟩
end Go.Ae
namespace Go.Ae
open Go
def CS:Value→Bool
 | .agg _=>false
 | .tuple _=>false
 |_=>true
theorem UA {α β:Type} (P:Program) (e:Sem α) (f:α→Sem β) (w:World) :
  (Sem.bind e f).run P w=match e.run P w with | .ok a w'=>(f a).run P w' | .halt h w'=>.halt h w':=by
 induction e generalizing w with
 |pure a=>rfl
 |load m a k ih=>grind[Sem.bind,Sem.run]
 |store m a v k ih=>
  cases v<;>simp only[Sem.bind,Sem.run]<;>(repeat' split)<;>first |exact ih _ |rfl |simp_all
 |new o k ih=>exact ih _ _
 |shape r k ih=>exact ih _ _
 |freeze a n k ih=>exact ih _
 |frozen a k ih=>exact ih _ _
 |getObj r k ih=>grind[Sem.bind,Sem.run]
 |setObj r o k ih=>grind[Sem.bind,Sem.run]
 |choose q k ih=>grind[Sem.bind,Sem.run]
 |sys c k ih=>exact ih _ _
 |program k ih=>exact ih _ _
 |mark m k ih=>exact ih _
 |halt h=>rfl
theorem qV {α β:Type} {P:Program} {e:Sem α} {f:α→Sem β} {w w':World} {a:α} (h:e.run P w=.ok a w'):(e>>=f).run P w=(f a).run P w':=by simp_all
theorem wJ {α:Type} (P:Program) (a:α) (w:World):(pure a:Sem α).run P w=.ok a w:=rfl
theorem TE {w:World} {b:Nat} {C:List Value} {e:TypeId} {fr:Nat×Nat} (h:w.heap[b]? =some (.cells C.toArray e fr)) (o:Nat):w.cell? ⟨b,o,none⟩=C[o]?:=by simp[World.cell?,h]
theorem ko (b o n:Nat):Addr.add ⟨b,o,none⟩ n=⟨b,o+n,none⟩:=by
 simp[Addr.add]
theorem Mn {P:Program} {w:World} {b:Nat} {C:List Value} {e:TypeId} {fr:Nat×Nat} (h:w.heap[b]? =some (.cells C.toArray e fr)) {o:Nat} {v:Value} (hv:C[o]? =some v) :
  (load ⟨b,o,none⟩).run P w=.ok v w:=by
 grind[load,Sem.run,TE]
theorem Ka {P:Program} {w:World} {b:Nat} {C:List Value} {e:TypeId} {fr:Nat×Nat} (h:w.heap[b]? =some (.cells C.toArray e fr)) (o:Nat) :
  ∀(n i:Nat) (acc:Array Value),o+i+n≤C.length→(loadCellsFrom ⟨b,o,none⟩ i n acc).run P w=.ok (acc++((C.drop (o+i)).take n).toArray) w:=by
 intro n
 induction n with
 |zero=>simp[loadCellsFrom]
 |succ n ih=>
  intro i acc hl;unfold loadCellsFrom;have hg:C[o+i]? =some (C[o+i]'omQ):=iW omQ;rw[ko,qV (Mn h hg),ih _ _ omQ]
  congr 1
  grind
theorem GH {P:Program} {w:World} {b:Nat} {C:List Value} {e:TypeId} {fr:Nat×Nat} (h:w.heap[b]? =some (.cells C.toArray e fr)) (o n:Nat) (hl:o+n≤C.length) :
  (loadCells ⟨b,o,none⟩ n).run P w=.ok ((C.drop o).take n).toArray w:=by
 unfold loadCells;rw[Ka h o n 0 #[] (by grind)];simp
theorem qqp {P:Program} {w:World} {b:Nat} {C:List Value} {e:TypeId} {fr:Nat×Nat} (h:w.heap[b]? =some (.cells C.toArray e fr)) {o:Nat} (ho:o<C.length) {v:Value} (hv:CS v=true)
  (hf:¬(fr.1≤o∧o<fr.2)):(store ⟨b,o,none⟩ v).run P w=.ok () (w.setCell ⟨b,o,none⟩ v):=by
 have hc:w.cell? ⟨b,o,none⟩=some (C[o]'ho):=by rw[TE h,iW ho]
 have hz:w.frozen? ⟨b,o,none⟩=false:=by grind[World.frozen?,Bool.and_eq_false_iff,decide_eq_false_iff_not]
 cases v<;>simp[CS]at hv<;>simp[store,Sem.run,hc,hz]
theorem Z0 {w:World} {b:Nat} {C:List Value} {e:TypeId} {fr:Nat×Nat} (h:w.heap[b]? =some (.cells C.toArray e fr)) (o:Nat) (v:Value) :
  (w.setCell ⟨b,o,none⟩ v).heap[b]? =some (.cells (C.set o v).toArray e fr):=by
 simp[World.setCell,Array.getElem?_modify,h]
theorem Na {w:World} {b c:Nat} (o:Nat) (v:Value) (hc:c≠b):(w.setCell ⟨b,o,none⟩ v).heap[c]? =w.heap[c]?:=by simp[World.setCell,Array.getElem?_modify];omega
@[simp] theorem mg (w:World) (a:Addr) (v:Value):(w.setCell a v).heap.size=w.heap.size:=by simp
structure jK6 (w w':World) (b:Nat) (o:Obj):Prop where
  size:w'.heap.size=w.heap.size
  at_:w'.heap[b]? =some o
  other:∀c,c≠b→w'.heap[c]? =w.heap[c]?
  os:w'.os=w.os
  tape:w'.tape=w.tape
  output:w'.output=w.output
theorem YY {P:Program} {b:Nat} {e:TypeId} {fr:Nat×Nat} (o:Nat):∀(vs:List Value) (i:Nat) (w:World) (C:List Value),w.heap[b]? =some (.cells C.toArray e fr)→
  o+i+vs.length≤C.length→(∀v∈vs,CS v=true)→(∀k,k<C.length→¬(fr.1≤k∧k<fr.2))→
  ∃w',(storeCells ⟨b,o,none⟩ vs i).run P w=.ok () w'∧jK6 w w' b (.cells (C.take (o+i)++vs++C.drop (o+i+vs.length)).toArray e fr):=by
 intro vs
 induction vs with
 |nil=>intro i w C h hl _ _;exact⟨w,by rfl,⟨rfl,by simp[h],λ_ _=>rfl,rfl,rfl,rfl⟩⟩
 |cons v vs ih=>
  intro i w C h hl ho hf;simp only[List.length_cons]at hl;have h1:=qqp (P:=P) h (o:=o+i) omQ (ho v (iK ..)) (hf _ omQ);obtain⟨w',hr,ht⟩:=ih (i+1) (w.setCell ⟨b,o+i,none⟩ v) (C.set (o+i) v) (Z0 h _ _) (by grind) (λx hx=>ho x (iX _ hx)) (by grind);refine⟨w',?_,?_⟩
  ·grind[storeCells,ko,qV]
  ·refine⟨by rw[ht.size,mg],?_,λc hc=>(ht.other c hc).trans (Na _ _ hc),ht.os,ht.tape,ht.output⟩;rw[ht.at_]
   congr 3
   have e1:(C.set (o+i) v).take (o+(i+1))=C.take (o+i)++[v]:=by grind[List.take_succ_eq_append_getElem,List.take_set_of_le]
   have e2:(C.set (o+i) v).drop (o+(i+1)+vs.length)=C.drop (o+i+(v::vs).length):=by
    rw[List.drop_set_of_lt omQ]
    simp;omega
   grind
end Go.Ae
namespace Go.Ae
open Go
variable {P:Program} {m:Mp} {D:Nat→Prop} {h:AH} {w:World}
theorem qye (m:Mp) (v:AV) (hv:v.one=true):CS (cv m v)=true:=by
 cases v<;>first |rfl |trivial
theorem TF {l:List AV} (m:Mp) (hl:jY l=true):∀v∈aW m l,CS v=true:=by intro v hv;rw[xK,List.mem_map]at hv;obtain⟨a,ha,rfl⟩:=hv;grind[jY,List.all_eq_true,qye]
theorem kJ (m:Mp) (v:AV):(cv m v).cells=(aW m v.cells).toArray:=by
 cases v<;>simp[cv,AV.cells,Value.cells,aW]
theorem QV {v:AV} (hv:bu D v):ba D v.cells:=by
 cases v<;>simp only[AV.cells,ba,bu]at* <;>first |exact⟨hv,trivial⟩ |grind |trivial |exact⟨trivial,trivial⟩
theorem Rel.cells (r:Rel P m D h w) {b:Nat} (hb:D b) {c:CT} {e:TypeId} {o:Bool} (hg:h.get b=some (.cells c e o)) :
  ∃(rest:List Value) (fr:Nat×Nat),w.heap[(m b).1]? =some (.cells (aW m c.toList++rest).toArray e fr)∧(o=false→rest=[])∧
   (∀i,i<c.toList.length+rest.length→¬(fr.1≤i∧i<fr.2))∧(o=true→∀n,aQ P e=some n→c.toList.length≤(m b).2*n∧(m b).2*n≤c.toList.length+rest.length)∧ba D c.toList:=by
 obtain⟨x,hx,hr,hd⟩:=r.bp b hb;rw[hg]at hx;cases hx;obtain⟨rest,fr,h1,h2,h3,h4⟩:=hr;exact⟨rest,fr,h1,h2,h3,h4,hd⟩
theorem Vw {b:Nat} {x:cV} (hg:h.get b=some x) (hl:x.live):live h b:=⟨x,hg,hl⟩
theorem Rel.rF (r:Rel P m D h w) {b off n:Nat} {c:CT} {t:TypeId} {o:Bool} {l:List AV} (hb:D b) (hg:h.get b=some (.cells c t o)) (e:vN n (gK off c.toList)=some l) :
  (loadCells ⟨(m b).1,off,none⟩ n).run P w=.ok (aW m l).toArray w∧ba D l∧l.length=n:=by
 obtain⟨rest,fr,h1,_,_,_,hd⟩:=r.cells hb hg;rw[QI]at e;obtain⟨e1,e2⟩:=QW e;refine⟨?_,?_,qqA e⟩
 ·by_cases hz:n=0
  ·simp_all[aW,loadCells,loadCellsFrom]
  ·simp only[List.length_drop]at e2;rw[GH h1 off n (by simp;omega)];subst e1;rw[xK,xK,List.drop_append_of_le_length (by grind),List.take_append_of_le_length (by grind)];simp
 grind[XZ,Gq]
theorem qjn {t:aO AV}:∀{n i:Nat} {l:List AV},XC [] t i n=some l→l.length=n∧∀k,k<n→∃v,aO.get t (i+k)=some v∧l[k]? =some v:=by
 intro n
 induction n with
 |zero=>intro i l e;rw[Tx]at e;grind
 |succ n ih=>
  intro i l e;rw[Zc]at e;simp only[Option.bind_eq_some_iff]at e;obtain⟨v,hv,s,hs,e⟩:=e;cases e;obtain⟨h1,h2⟩:=ih hs;have Bo:aO.get t i=some v:=by
   grind[vS,MA]
  grind
theorem Rel.DW (r:Rel P m D h w) {b:Nat} {t:aO AV} (hb:D b) (hg:h.get b=some (.dq t)) :
  ∃C e fr,w.heap[(m b).1]? =some (.cells (List.toArray C) e fr)∧∀i v,aO.get t i=some v→C[i]? =some (cv m v)∧bu D v:=by
 obtain⟨x,hx,hr,hd⟩:=r.bp b hb;rw[hg]at hx;cases hx;obtain⟨C,e,fr,h1,h2⟩:=hr;exact⟨C,e,fr,h1,λi v hv=>⟨h2 i v hv,hd i v hv⟩⟩
theorem Rel.DX (r:Rel P m D h w) {b off n:Nat} {t:aO AV} {l:List AV} (hb:D b) (hg:h.get b=some (.dq t)) (e:XC [] t off n=some l) :
  (loadCells ⟨(m b).1,off,none⟩ n).run P w=.ok (aW m l).toArray w∧ba D l∧l.length=n:=by
 obtain⟨C,el,fr,h1,h2⟩:=r.DW hb hg;obtain⟨e1,e2⟩:=qjn e;have key:∀k,k<n→∃v,l[k]? =some v∧C[off+k]? =some (cv m v)∧bu D v:=λk hk=>by
  grind
 refine⟨?_,?_,e1⟩
 ·by_cases hz:n=0
  ·simp_all[iA,aW,loadCells,loadCellsFrom]
  ·have hlen:off+n≤C.length:=by
    obtain⟨v,_,hc,_⟩:=key (n-1) omQ;grind
   rw[GH h1 off n hlen]
   congr 2
   apply List.ext_getElem?;intro k;rw[xK,List.getElem?_map];grind
 ·rw[x8];intro v hv;obtain⟨k,hk,rfl⟩:=List.mem_iff_getElem.1 hv;grind
theorem Rel.rG (r:Rel P m D h w) {b off:Nat} {t:aO AV} {v:AV} (hb:D b) (hg:h.get b=some (.dq t)) (e:aO.get t off=some v) :
  (load ⟨(m b).1,off,none⟩).run P w=.ok (cv m v) w∧bu D v:=by
 obtain⟨C,el,fr,h1,h2⟩:=r.DW hb hg;grind[Mn]
theorem Rel.read (r:Rel P m D h w) {b off n:Nat} {l:List AV} (hb:D b) (e:vq h b off n=some l) :
  (loadCells ⟨(m b).1,off,none⟩ n).run P w=.ok (aW m l).toArray w∧ba D l∧l.length=n:=by
 unfold vq at e
 split at e
 ·rename_i c t o hg;exact r.rF hb hg (CT.mQ e)
 ·rename_i t hg;exact r.DX hb hg e
 grind
theorem Rel.Ai (r:Rel P m D h w) {b off:Nat} {c:CT} {t:TypeId} {o:Bool} {v:AV} (hb:D b) (hg:h.get b=some (.cells c t o)) (e:c.fa off=some v) :
  (load ⟨(m b).1,off,none⟩).run P w=.ok (cv m v) w∧bu D v:=by
 obtain⟨rest,fr,h1,_,_,_,hd⟩:=r.cells hb hg
 replace e:=CT.tY e
 rw[yR]at e;have aw:off<c.toList.length:=(List.getElem?_eq_some_iff.1 e).1;grind[Mn,x8,List.mem_of_getElem?,List.getElem?_append_left,xK]
theorem Rel.write (r:Rel P m D h w) {b off:Nat} {xs:List AV} {h':AH} (hb:D b) (LA:ba D xs) (e:wW h b off xs=some h') :
  ∃w',(storeCells ⟨(m b).1,off,none⟩ (aW m xs)).run P w=.ok () w'∧Ext m D h w m D h' w'∧Rel P m D h' w':=by
 unfold wW at e
 split at e
 ·rename_i c t o hg;cases pt:jY xs
  ·grind
  ·rw[pt]at e;simp only[cond_true,Option.bind_eq_some_iff]at e;obtain⟨c',bE,he⟩:=e;cases he;obtain⟨e1,e2⟩:=Up (CT.mR bE);obtain⟨rest,fr,h1,h2,h3,h4,hd⟩:=r.cells hb hg;obtain⟨w',hr,ht⟩:=YY (P:=P) off (aW m xs) 0 w _ h1 (by simp;omega) (TF m pt) (by simp_all);refine⟨w',hr,?_⟩;have hlen:c'.toList.length=c.toList.length:=by grind
   refine r.put b _ hb (Vw hg trivial) ht.size ht.other ht.os ht.tape ht.output ?_ ?_
   ·grind[cJ,gw,XZ,Gq]
   ·refine⟨rest,fr,?_,h2,by grind,by grind⟩;rw[ht.at_,e1]
    congr 3
    simp only[xK,List.length_map,Nat.add_zero,List.map_append,List.map_take,List.map_drop];grind
 grind
theorem ZE {v:Value} {a:AV} (e:UF v=some a):cv m a=v∧bu D a:=by
 unfold UF at e
 split at e<;>first |(cases e;exact⟨rfl,trivial⟩) |grind
theorem Vo {l:List Value} {s:List AV} (e:kV UF l=some s):aW m s=l∧ba D s:=by
 induction l generalizing s with
 |nil=>simp[kV]at e;subst e;trivial
 |cons a r ih=>simp only[kV,Option.bind_eq_some_iff]at e;obtain⟨b,hb,t,ht,hs⟩:=e;cases hs;obtain⟨h1,h2⟩:=ZE (m:=m) (D:=D) hb;obtain⟨h3,h4⟩:=ih ht;exact⟨by grind[aW],h2,h4⟩
theorem J7 {v:Value} {a:AV} (e:DD v=some a):cv m a=v∧bu D a:=by
 unfold DD at e
 split at e
 ·rename_i cs;simp only[Option.map_eq_some_iff]at e;obtain⟨s,hs,rfl⟩:=e;obtain⟨h1,h2⟩:=Vo (m:=m) (D:=D) hs;exact⟨by simp[cv,h1],h2⟩
 ·rename_i cs;simp only[Option.map_eq_some_iff]at e;obtain⟨s,hs,rfl⟩:=e;obtain⟨h1,h2⟩:=Vo (m:=m) (D:=D) hs;exact⟨by simp[cv,h1],h2⟩
 ·rename_i f first cap
  cases hc:(first.isEmpty&&cap.isEmpty)
  ·grind
  ·rw[hc]at e;cases e;simp only[Bool.and_eq_true,Array.isEmpty_iff]at hc;obtain⟨rfl,rfl⟩:=hc;trivial
 grind[ZE]
theorem run_underlying {t:TypeId} {d:TypeDesc} (e:P.underlying t=some d):(underlying t).run P w=.ok d w:=by unfold underlying;simp_all
theorem run_typeInfo {t:TypeId} {i:TypeInfo} (e:P.info? t=some i):(typeInfo t).run P w=.ok i w:=by unfold typeInfo;simp_all
theorem run_sizeOf {t:TypeId} {n:Nat} (e:aQ P t=some n):(sizeOf t).run P w=.ok n w:=by simp only[aQ,Option.map_eq_some_iff]at e;obtain⟨i,hi,rfl⟩:=e;simp_all[sizeOf,run_typeInfo]
theorem wP {t:TypeId} {b:Bool} (e:iq P t=some b):(isAgg t).run P w=.ok b w:=by simp only[iq,Option.map_eq_some_iff]at e;obtain⟨d,hd,hb⟩:=e;unfold isAgg;rw[qV (run_underlying hd)];split<;>simp_all
theorem yH {t:TypeId} {z:AV} (e:dZ P t=some z):(zeroValue t).run P w=.ok (cv m z) w∧bu D z:=by simp only[dZ,Option.bind_eq_some_iff]at e;obtain⟨i,hi,v,hv,hz⟩:=e;obtain⟨h1,h2⟩:=J7 (m:=m) (D:=D) hz;simp_all[zeroValue,run_typeInfo]
end Go.Ae
namespace Go.Ae
open Go
variable {P:Program} {m:Mp} {D:Nat→Prop} {h:AH} {w:World}
def dK (P:Program) (m:Mp) (D:Nat→Prop) (h:AH) (w:World) (cW:Result Next) (v:AV) (h':AH):Prop :=
 ∃m' D' w',(cW=.ok (.value (cv m' v)) w'∨(cW=.ok .skip w'∧v=.undef))∧Ext m D h w m' D' h' w'∧Rel P m' D' h' w'∧bu D' v
theorem qg {α:Type} {x:Option α} {k:α→R} {r:AV×AH}:ob x k=some r↔∃a,x=some a∧k a=some r:=by
 grind
theorem zW {b:Bool} {x:R} {r:AV×AH}:cE b x none=some r↔b=true∧x=some r:=by
 grind
theorem jg {α:Type} {b:Bool} {x:Option α} {r:α}:(bif b then x else none)=some r↔b=true∧x=some r:=by
 grind
theorem qU {v v':AV} {h h':AH}:(some (v,h):R)=some (v',h')↔v=v'∧h=h':=by simp
theorem zg (r:Rel P m D h w) {s:Sem Value} {v:AV} (hs:s.run P w=.ok (cv m v) w) (hv:bu D v) :
  dK P m D h w ((do pure (Next.value (← s)):Sem Next).run P w) v h :=
 ⟨m,D,w,.inl (by simp_all),Ext.refl ..,r,hv⟩
theorem YJ (r:Rel P m D h w) {s:Sem Next} {v:AV} (hs:s.run P w=.ok (.value (cv m v)) w) (hv:bu D v):dK P m D h w (s.run P w) v h :=
 ⟨m,D,w,.inl hs,Ext.refl ..,r,hv⟩
def dQ (m:Mp) (D:Nat→Prop) (ρ:Operand→Value) (r:Operand→Option AV):Prop:=∀x v,r x=some v→ρ x=cv m v∧bu D v
theorem zL {a b:Nat} (h:Nat.ble a b=true):a≤b:=Nat.le_of_ble_eq_true h
theorem KJ {a b:Nat} (h:Nat.ble a b=false):b<a:=by
 rcases Nat.lt_or_ge b a with h' |h'
 all_goals simp_all[iY]
theorem M2 (a b:Int):mG a b=(a==b):=by
 cases a with
 |ofNat a=>cases b with
  |ofNat b=>
   simp only[mG];by_cases e:a=b
   ·simp_all
   grind[yi,beq_eq_false_iff_ne,Int.ofNat.inj]
  |negSucc b=>rfl
 |negSucc a=>cases b with
  |ofNat b=>rfl
  |negSucc b=>
   simp only[mG];by_cases e:a=b
   all_goals simp_all[yi,beq_eq_false_iff_ne]
theorem MK (a b:Int):oE a b=decide (a<b):=by
 cases a with
 |ofNat a=>cases b with
  |ofNat b=>
   simp only[oE];cases e:Nat.ble (a+1) b
   ·have:=KJ e;grind
   simp at*;omega
  |negSucc b=>rfl
 |negSucc a=>cases b with
  |ofNat b=>simp[oE];omega
  |negSucc b=>
   simp only[oE];cases e:Nat.ble (b+1) a
   ·have:=KJ e;grind
   simp at*;omega
theorem UQ (n:Int):IntKind.wrap .i64 n=if 9223372036854775808≤n%18446744073709551616 then n%18446744073709551616-18446744073709551616 else n%18446744073709551616:=by show(if(true&&decide (n%18446744073709551616≥9223372036854775808))=true then _ else _)=_;simp only[Bool.true_and,decide_eq_true_eq,ge_iff_le];rfl
theorem M7 (n:Int):IntKind.wrap .u64 n=n%18446744073709551616:=rfl
theorem TG (n:Int):IntKind.wrap .u8 n=n%256:=rfl
theorem ZS (a:Nat) (h:a≤9223372036854775807):IntKind.wrap .i64 (Int.negSucc a)=Int.negSucc a:=by simp[Int.negSucc_eq,UQ];omega
theorem QC (k:IntKind) (n:Int):jR k n=k.wrap n:=by
 cases k<;>cases n<;>simp only[jR]
 ·rename_i a;cases hb:Nat.ble a 9223372036854775807
  ·rw[cond_false]
  ·have:=zL hb;rw[UQ];show(a:Int)=if 9223372036854775808≤(a:Int)%_ then _ else(a:Int)%_
   split<;>omega
 ·rename_i a;cases hb:Nat.ble a 9223372036854775807
  ·rw[cond_false]
  ·have:=zL hb;rw[cond_true];exact(ZS a this).symm
 ·rename_i a;rw[TG];show((a%256:Nat):Int)=(a:Int)%_;omega
 ·rename_i a;rw[M7];show((a%18446744073709551616:Nat):Int)=(a:Int)%_;omega
 ·rename_i a;rw[M7];show((18446744073709551615-a%18446744073709551616:Nat):Int)=_;omega
theorem fF (a b:List UInt8):iu a b=(a==b):=by
 induction a generalizing b with
 |nil=>cases b<;>rfl
 |cons x a ih=>cases b with
  |nil=>rfl
  |cons y b=>grind[iu]
def DY (op:BinOp) (k:IntKind) (x y:Int):Sem Value :=
 match op with
 | .add | .sub | .mul=>Op.intArith op k x y
 | .quo | .rem=>Op.intDiv op k x y
 | .and | .or | .xor | .andNot=>Op.intBits op k x y
 |_=>Op.intCmp op x y
theorem qg3 {op:BinOp} {k:IntKind} {x y:Int} {v:AV} (e:JL op k x y=some v) :
  (DY op k x y).run P w=.ok (cv m v) w∧bu D v:=by
 cases op<;>simp only[JL,QC,M2,MK]at e
 case quo=>
  by_cases hy:y=0
  ·grind
  ·rw[beq_eq_false_iff_ne.2 hy]at e;cases e;exact⟨by simp[DY,Op.intDiv,hy,cv],trivial⟩
 case rem=>
  by_cases hy:y=0
  ·grind
  ·rw[beq_eq_false_iff_ne.2 hy]at e;cases e;exact⟨by simp[DY,Op.intDiv,hy,cv],trivial⟩
 case leq=>
  cases e;refine⟨?_,trivial⟩;show Result.ok (Value.bool (decide (x≤y))) w=.ok (.bool (!decide (y<x))) w;rw[← decide_not,decide_eq_decide.2 (show x≤y↔¬y<x by omega)]
 case geq=>
  cases e;refine⟨?_,trivial⟩;show Result.ok (Value.bool (decide (x≥y))) w=.ok (.bool (!decide (x<y))) w;rw[← decide_not,decide_eq_decide.2 (show x≥y↔¬x<y by omega)]
 all_goals first
  |(cases e;done)
  |(cases e;exact⟨rfl,trivial⟩)
end Go.Ae
namespace Go.Ae
open Go
variable {P:Program} {m:Mp} {D:Nat→Prop} {h h':AH} {w:World} {c:CV} {ρ:Operand→Value} {r:Operand→Option AV} {o:Oper} {v:AV}
abbrev fin:AV→AH→R:=λv h=>some (v,h)
theorem jQ6 {x:Operand} (ho:o.op=.move x) (hr:dQ m D ρ r) (R:Rel P m D h w) (e:bc P c o.op r h fin=some (v,h')):dK P m D h w ((execOp ρ o).run P w) v h':=by rw[ho]at e;simp only[bc,qg,qU]at e;obtain⟨a,ha,rfl,rfl⟩:=e;obtain⟨h1,h2⟩:=hr _ _ ha;grind[YJ,execOp,wJ]
theorem qqs {x:Operand} (ho:o.op=.assign x) (hr:dQ m D ρ r) (R:Rel P m D h w) (e:bc P c o.op r h fin=some (v,h')):dK P m D h w ((execOp ρ o).run P w) v h':=by rw[ho]at e;simp only[bc,qg,qU]at e;obtain⟨a,ha,rfl,rfl⟩:=e;obtain⟨h1,h2⟩:=hr _ _ ha;grind[YJ,execOp,wJ]
theorem qym {x y z:Operand} (ho:o.op=.pick x y z) (hr:dQ m D ρ r) (R:Rel P m D h w) (e:bc P c o.op r h fin=some (v,h')):dK P m D h w ((execOp ρ o).run P w) v h':=by
 rw[ho]at e;simp only[bc,qg]at e;obtain⟨a,ha,b,hb,d,hd,e⟩:=e;obtain⟨a1,a2⟩:=hr _ _ ha;obtain⟨b1,b2⟩:=hr _ _ hb;obtain⟨d1,d2⟩:=hr _ _ hd;rw[TA]at e
 split at e
 ·rename_i t;cases t<;>simp only[qU]at e<;>obtain⟨rfl,rfl⟩:=e
  ·refine YJ R ?_ d2;simp_all[execOp,cv,asBool]
  ·refine YJ R ?_ b2;simp_all[execOp,cv,asBool]
 grind
theorem jVN {x:Operand} (ho:o.op=.nilCheck x) (hr:dQ m D ρ r) (R:Rel P m D h w) (e:bc P c o.op r h fin=some (v,h')):dK P m D h w ((execOp ρ o).run P w) v h':=by
 rw[ho]at e;simp only[bc,qg]at e;obtain⟨a,ha,e⟩:=e;obtain⟨a1,a2⟩:=hr _ _ ha;unfold yF at e
 split at e<;>first |(cases e;done) |skip
 all_goals
  simp only[qU]at e;obtain⟨rfl,rfl⟩:=e;refine YJ R ?_ a2;simp_all[execOp,cv]
theorem DZ {op:UnOp} {t:TypeId} {x:Operand} (ho:o.op=.unOp op t x) (hr:dQ m D ρ r) (R:Rel P m D h w) (e:bc P c o.op r h fin=some (v,h')):dK P m D h w ((execOp ρ o).run P w) v h':=by
 rw[ho]at e;simp only[bc,qg]at e;obtain⟨a,ha,e⟩:=e;obtain⟨a1,a2⟩:=hr _ _ ha;unfold tg at e
 split at e<;>first |(cases e;done) |skip
 all_goals
  simp only[qU]at e;obtain⟨rfl,rfl⟩:=e;simp only[execOp,ho,a1];refine zg R ?_ trivial
  first
   |(simp only[cv,QC];rfl)
   |rfl
theorem qvU {t:TypeId} {x:Operand} (ho:o.op=.makeInterface t x) (hr:dQ m D ρ r) (R:Rel P m D h w) (e:bc P c o.op r h fin=some (v,h')):dK P m D h w ((execOp ρ o).run P w) v h':=by
 rw[ho]at e;simp only[bc,qg]at e;obtain⟨d,hd,e⟩:=e;have key:∃a,r x=some a∧fin (.iface t a) h=some (v,h'):=by
  grind
 obtain⟨a,ha,e⟩:=key;obtain⟨a1,a2⟩:=hr _ _ ha;simp only[qU]at e;obtain⟨rfl,rfl⟩:=e;simp only[execOp,ho,a1];refine zg R ?_ a2;unfold Instr.makeInterface;rw[qV (run_underlying hd)];cases d<;>first |rfl |grind
theorem qkI {t:TypeId} {x:Operand} {f:Nat} (ho:o.op=.fieldAddr t x f) (hr:dQ m D ρ r) (R:Rel P m D h w) (e:bc P c o.op r h fin=some (v,h')):dK P m D h w ((execOp ρ o).run P w) v h':=by
 rw[ho]at e;simp only[bc,qg]at e;obtain⟨a,ha,off,ll,e⟩:=e;obtain⟨a1,a2⟩:=hr _ _ ha;rw[M3]at e
 split at e
 ·rename_i b o';simp only[qU]at e;obtain⟨rfl,rfl⟩:=e;simp only[execOp,ho,a1];refine zg R ?_ a2;unfold Ts at ll;simp only[Option.bind_eq_some_iff]at ll;obtain⟨d,hd,ll⟩:=ll;unfold Instr.fieldAt;rw[qV (run_underlying hd)];cases d<;>simp only[reduceCtorEq]at ll
  rename_i fs;simp only[Option.bind_eq_some_iff]at ll;obtain⟨g,hg,sz,bF,ll⟩:=ll;cases hz:Nat.beq sz 0<;>rw[hz]at ll<;>simp only[cond_true,cond_false,reduceCtorEq,Option.some.injEq]at ll
  subst ll;simp only[hg,cv];rw[qV (show(Instr.sureAddr (.pointer (some ⟨(m b).1,o',none⟩))).run P w=.ok ⟨(m b).1,o',none⟩ w from rfl)];rw[qV (show(fieldPlace ⟨(m b).1,o',none⟩ g).run P w=.ok ⟨(m b).1,o'+g.offset,none⟩ w from ?_)]
  ·rfl
  ·unfold fieldPlace;simp_all[run_sizeOf,vo,ko]
 grind
theorem Y2 {t:TypeId} {cs:List AV} {off:Nat} {x:AV} (ht:iq P t=some false) (e:Qy cs off=some x) (hd:ba D cs):(part t (aW m cs).toArray off).run P w=.ok (cv m x) w∧bu D x:=by rw[yR]at e;refine⟨?_,(x8 D cs).1 hd x (List.mem_of_getElem? e)⟩;unfold part;rw[qV (wP ht)];simp_all[Bool.false_eq_true,List.getElem?_toArray,xK,List.getElem?_map]
theorem GJ {t:TypeId} {cs l:List AV} {off n:Nat} (ht:iq P t=some true) (hn:aQ P t=some n) (e:vN n (gK off cs)=some l) (hd:ba D cs):(part t (aW m cs).toArray off).run P w=.ok (cv m (.agg l)) w∧ba D l:=by
 rw[QI]at e;obtain⟨e1,e2⟩:=QW e;refine⟨?_,by grind[XZ,Gq]⟩;unfold part;rw[qV (wP ht)];simp_all[run_sizeOf,cv,xK]
theorem Qq {t:TypeId} {i:Option Nat} (e:Qw P t=some i):(i=none∧iq P t=some false)∨∃n,i=some n∧iq P t=some true∧aQ P t=some n:=by
 unfold Qw at e;simp only[Option.bind_eq_some_iff]at e;obtain⟨a,ha,e⟩:=e;cases a
 ·grind
 ·simp only[cond_true,Option.map_eq_some_iff]at e;grind
theorem qyU {t:TypeId} {x:Operand} {f:Nat} (ho:o.op=.field t x f) (hr:dQ m D ρ r) (R:Rel P m D h w) (e:bc P c o.op r h fin=some (v,h')):dK P m D h w ((execOp ρ o).run P w) v h':=by
 rw[ho]at e;simp only[bc,qg]at e;obtain⟨a,ha,p,hp,e⟩:=e;obtain⟨a1,a2⟩:=hr _ _ ha;unfold O9 at hp;simp only[Option.bind_eq_some_iff]at hp;obtain⟨d,hd,hp⟩:=hp;cases d<;>simp only[reduceCtorEq]at hp
 rename_i fs;simp only[Option.bind_eq_some_iff,Option.map_eq_some_iff]at hp;obtain⟨g,hg,i,hi,rfl⟩:=hp;simp only[execOp,ho,a1];rcases Qq hi with⟨rfl,mI⟩ |⟨n,rfl,mI,hn⟩
 ·simp only[ZF]at e
  split at e
  ·rename_i cs;simp only[qg,qU]at e;obtain⟨z,hz,rfl,rfl⟩:=e;obtain⟨z1,z2⟩:=Y2 (w:=w) (m:=m) mI hz a2;refine zg R ?_ z2;simp_all[Instr.field,run_underlying,cv,asAgg]
  grind
 ·simp only[KW]at e
  split at e
  ·rename_i cs;simp only[qg,qU]at e;obtain⟨z,hz,rfl,rfl⟩:=e;obtain⟨z1,z2⟩:=GJ (w:=w) (m:=m) mI hn hz a2;refine zg R ?_ z2;simp_all[Instr.field,run_underlying,cv,asAgg]
  grind
theorem qQL {t:TypeId} {x i:Operand} (ho:o.op=.indexAddr t x i) (hr:dQ m D ρ r) (R:Rel P m D h w) (e:bc P c o.op r h fin=some (v,h')):dK P m D h w ((execOp ρ o).run P w) v h':=by
 rw[ho]at e;simp only[bc,qg]at e;obtain⟨a,ha,j,hj,d,hd,e⟩:=e;obtain⟨a1,a2⟩:=hr _ _ ha;obtain⟨j1,j2⟩:=hr _ _ hj;simp only[execOp,ho,a1,j1];cases d<;>simp only[reduceCtorEq]at e
 case slice el=>
  simp only[qg]at e;obtain⟨sz,bF,e⟩:=e;rw[Vn]at e
  split at e
  ·rename_i b off len cp bn k q;simp only[jg,qU]at e;obtain⟨hq,rfl,rfl⟩:=e;have hq:=zL hq;refine zg R ?_ a2;unfold Instr.indexAt;simp only[cv];rw[qV (show(asIntOf (.int k (.ofNat q))).run P w=.ok (k,.ofNat q) w from rfl)];rw[qV (run_underlying hd)];simp only[];rw[qV (show(pure (some (⟨(m b).1,off,none⟩:Addr),len,el):Sem (Option Addr×Nat×TypeId)).run P w=.ok _ w from rfl)];rw[qV (run_underlying hd)];have:(0:Int)≤Int.ofNat q∧Int.ofNat q<(len:Int):=⟨Int.natCast_nonneg q,by grind⟩;simp_all[run_sizeOf,ko]
  grind
 case array n el=>
  simp only[zW,qg]at e;obtain⟨h2,sz,bF,e⟩:=e;have h2:=zL h2;unfold Je at e
  split at e
  ·rename_i b off k q;simp only[jg,qU]at e;obtain⟨hq,rfl,rfl⟩:=e;have hq:=zL hq;refine zg R ?_ a2;unfold Instr.indexAt;simp only[cv];rw[qV (show(asIntOf (.int k (.ofNat q))).run P w=.ok (k,.ofNat q) w from rfl)];rw[qV (run_underlying hd)];simp only[];rw[qV (show(Instr.sureAddr (.pointer (some ⟨(m b).1,off,none⟩))).run P w=.ok ⟨(m b).1,off,none⟩ w from rfl)];rw[qV (show(pure (some (⟨(m b).1,off,none⟩:Addr),n,el):Sem (Option Addr×Nat×TypeId)).run P w=.ok _ w from rfl)];rw[qV (run_underlying hd)];have:(0:Int)≤Int.ofNat q∧Int.ofNat q<(n:Int):=⟨Int.natCast_nonneg q,by grind⟩;simp_all[run_sizeOf,ko]
  grind
theorem qKh {x:Operand} {i:Nat} (ho:o.op=.extract x i) (hr:dQ m D ρ r) (R:Rel P m D h w) (e:bc P c o.op r h fin=some (v,h')):dK P m D h w ((execOp ρ o).run P w) v h':=by
 rw[ho]at e;simp only[bc,qg]at e;obtain⟨a,ha,e⟩:=e;obtain⟨a1,a2⟩:=hr _ _ ha;rw[YZ]at e
 split at e
 ·rename_i l;simp only[qg,qU]at e;obtain⟨z,hz,rfl,rfl⟩:=e;rw[yR]at hz;simp only[execOp,ho,a1];refine zg R ?_ ((x8 D l).1 a2 _ (List.mem_of_getElem? hz));simp_all[Instr.extract,cv,List.getElem?_toArray,xK,List.getElem?_map]
 grind
theorem qkb {t:TypeId} {x i:Operand} (ho:o.op=.index t x i) (hr:dQ m D ρ r) (R:Rel P m D h w) (e:bc P c o.op r h fin=some (v,h')):dK P m D h w ((execOp ρ o).run P w) v h':=by
 rw[ho]at e;simp only[bc,qg]at e;obtain⟨a,ha,j,hj,d,hd,e⟩:=e;obtain⟨a1,a2⟩:=hr _ _ ha;obtain⟨j1,j2⟩:=hr _ _ hj;simp only[execOp,ho,a1,j1];cases d<;>simp only[reduceCtorEq]at e
 case string=>
  unfold kw at e
  split at e
  ·rename_i s k q;simp only[qg,qU]at e;obtain⟨z,hz,rfl,rfl⟩:=e;rw[yR]at hz;refine zg R ?_ trivial;unfold Instr.index;simp only[cv];rw[qV (show(asIntOf (.int k (.ofNat q))).run P w=.ok (k,.ofNat q) w from rfl)];rw[qV (run_underlying hd)];have h0:(0:Int)≤Int.ofNat q:=Int.natCast_nonneg q;have hb:(ByteArray.mk s.toArray)[q]? =some z:=by
    have aw:q<s.length:=(List.getElem?_eq_some_iff.1 hz).1;have hs:(ByteArray.mk s.toArray).size=s.length:=by rfl
    rw[getElem?_pos _ _ (by grind)]
    congr 1
    have:=(List.getElem?_eq_some_iff.1 hz).2;trivial
   simp_all
  grind
 case array n el=>
  simp only[qg]at e;obtain⟨sz,bF,g,hg,e⟩:=e;cases g
  ·simp only[cE]at e;unfold G8 at e
   split at e
   ·rename_i cs k q;simp only[jg,qg,qU]at e;obtain⟨hq,z,hz,rfl,rfl⟩:=e;have hq:=zL hq;obtain⟨z1,z2⟩:=Y2 (w:=w) (m:=m) hg hz a2;refine zg R ?_ z2;unfold Instr.index;simp only[cv];rw[qV (show(asIntOf (.int k (.ofNat q))).run P w=.ok (k,.ofNat q) w from rfl)];rw[qV (run_underlying hd)];have:(0:Int)≤Int.ofNat q∧Int.ofNat q<(n:Int):=⟨Int.natCast_nonneg q,by grind⟩;simp_all[run_sizeOf]
   grind
  ·simp only[cE]at e;unfold KQ at e
   split at e
   ·rename_i cs k q;simp only[jg,qg,qU]at e;obtain⟨hq,z,hz,rfl,rfl⟩:=e;have hq:=zL hq;obtain⟨z1,z2⟩:=GJ (w:=w) (m:=m) hg bF hz a2;refine zg R ?_ z2;unfold Instr.index;simp only[cv];rw[qV (show(asIntOf (.int k (.ofNat q))).run P w=.ok (k,.ofNat q) w from rfl)];rw[qV (run_underlying hd)];have:(0:Int)≤Int.ofNat q∧Int.ofNat q<(n:Int):=⟨Int.natCast_nonneg q,by grind⟩;simp only[iJ this];rw[qV (run_sizeOf bF)];exact z1
   grind
theorem jQu {t:TypeId} {x:Operand} (ho:o.op=.load t x) (hr:dQ m D ρ r) (R:Rel P m D h w) (e:bc P c o.op r h fin=some (v,h')):dK P m D h w ((execOp ρ o).run P w) v h':=by
 rw[ho]at e;simp only[bc,qg]at e;obtain⟨a,ha,i,hi,e⟩:=e;obtain⟨a1,a2⟩:=hr _ _ ha;simp only[execOp,ho,a1];rcases Qq hi with⟨rfl,mI⟩ |⟨n,rfl,mI,hn⟩
 ·simp only[gM]at e
  split at e
  ·rename_i b off
   split at e
   ·rename_i cs t' op' hg;simp only[qg,qU]at e;obtain⟨z,hz,rfl,rfl⟩:=e;obtain⟨z1,z2⟩:=R.Ai a2 hg hz;refine zg R ?_ z2;unfold Instr.loadAt;simp only[cv];rw[qV (show(Instr.sureAddr (.pointer (some ⟨(m b).1,off,none⟩))).run P w=.ok ⟨(m b).1,off,none⟩ w from rfl)];simp_all[loadVar,wP]
   ·rename_i ti hg;simp only[qg,qU]at e;obtain⟨z,hz,rfl,rfl⟩:=e;obtain⟨z1,z2⟩:=R.rG a2 hg hz;refine zg R ?_ z2;unfold Instr.loadAt;simp only[cv];rw[qV (show(Instr.sureAddr (.pointer (some ⟨(m b).1,off,none⟩))).run P w=.ok ⟨(m b).1,off,none⟩ w from rfl)];simp_all[loadVar,wP]
   grind
  grind
 ·simp only[QK]at e
  split at e
  ·rename_i b off;simp only[qg,qU]at e;obtain⟨z,hz,rfl,rfl⟩:=e;obtain⟨z1,z2,z3⟩:=R.read a2 hz;refine zg R ?_ z2;unfold Instr.loadAt;simp only[cv];rw[qV (show(Instr.sureAddr (.pointer (some ⟨(m b).1,off,none⟩))).run P w=.ok ⟨(m b).1,off,none⟩ w from rfl)];simp_all[loadVar,wP,run_sizeOf]
  grind
theorem qkH {t:TypeId} {x y:Operand} (ho:o.op=.store t x y) (hr:dQ m D ρ r) (R:Rel P m D h w) (e:bc P c o.op r h fin=some (v,h')):dK P m D h w ((execOp ρ o).run P w) v h':=by
 rw[ho]at e;simp only[bc,qg]at e;obtain⟨a,ha,b,hb,n,hn,e⟩:=e;obtain⟨a1,a2⟩:=hr _ _ ha;obtain⟨b1,b2⟩:=hr _ _ hb;rw[UT]at e
 split at e
 ·rename_i q off;simp only[jg,qg,qU]at e;obtain⟨hl,h1,hw,rfl,rfl⟩:=e;have hl:=zE hl;obtain⟨w',cP,rH,fg⟩:=R.write a2 (QV b2) hw;refine⟨m,D,w',.inr ⟨?_,rfl⟩,rH,fg,trivial⟩;simp only[execOp,ho,a1,b1,cv];have hs:(Instr.storeAt t (.pointer (some ⟨(m q).1,off,none⟩)) (cv m b)).run P w=.ok () w':=by
   unfold Instr.storeAt;rw[qV (show(Instr.sureAddr (.pointer (some ⟨(m q).1,off,none⟩))).run P w=.ok ⟨(m q).1,off,none⟩ w from rfl)];simp_all[storeVar,run_sizeOf,kJ,List.size_toArray]
  simp_all
 grind
end Go.Ae
namespace Go.Ae
open Go
variable {P:Program} {m:Mp} {D:Nat→Prop} {h h':AH} {w:World} {c:CV} {ρ:Operand→Value} {r:Operand→Option AV} {o:Oper} {v:AV}
theorem JG (hr:dQ m D ρ r) {l:List Operand} {s:List AV} (e:kV r l=some s):l.map ρ=aW m s∧ba D s:=by
 induction l generalizing s with
 |nil=>simp[kV]at e;subst e;trivial
 |cons a l ih=>simp only[kV,Option.bind_eq_some_iff]at e;obtain⟨b,hb,t,ht,hs⟩:=e;cases hs;obtain⟨h1,h2⟩:=hr _ _ hb;obtain⟨h3,h4⟩:=ih ht;exact⟨by grind[aW],h2,h4⟩
theorem VB {α β:Type} (f:α→β) (x:Array α):x.map f=(x.toList.map f).toArray:=by grind
theorem qZC {fn:Fn} {x y:Array Operand} (ho:o.op=.makeFunc fn x y) (hr:dQ m D ρ r) (R:Rel P m D h w) (e:bc P c o.op r h fin=some (v,h')):dK P m D h w ((execOp ρ o).run P w) v h':=by
 rw[ho]at e;cases fn<;>simp only[bc,reduceCtorEq]at e
 rename_i f;simp only[qg,qU]at e;obtain⟨a,ha,b,hb,rfl,rfl⟩:=e;obtain⟨a1,a2⟩:=JG hr ha;obtain⟨b1,b2⟩:=JG hr hb;simp only[execOp,ho];refine zg R ?_ ⟨a2,b2⟩;grind[Instr.makeFunc,cv,wJ,VB]
theorem qj7 {x:Operand} {xt t:TypeId} {ok:Bool} (ho:o.op=.typeAssert x xt t ok) (hr:dQ m D ρ r) (R:Rel P m D h w) (e:bc P c o.op r h fin=some (v,h')):dK P m D h w ((execOp ρ o).run P w) v h':=by
 rw[ho]at e;simp only[bc,qg]at e;obtain⟨a,ha,d,hd,e⟩:=e;obtain⟨a1,a2⟩:=hr _ _ ha;simp only[execOp,ho,a1];have iO:(∀ms,d≠.interface ms)∧(cE ok (ob (dZ P t) λz=>ym t z a λy=>fin y h) (JR t a λy=>fin y h))=some (v,h'):=by
  grind
 obtain⟨iO,e⟩:=iO;cases ok
 ·simp only[cE]at e;unfold JR at e
  split at e
  ·rename_i u z;simp only[jg,qU]at e;obtain⟨hu,rfl,rfl⟩:=e;have hu:=zE hu;subst hu;refine zg R ?_ a2;simp_all[Instr.typeAssert,cv,run_underlying]
  grind
 ·simp only[cE,qg]at e;obtain⟨z,hz,e⟩:=e;obtain⟨z1,z2⟩:=yH (w:=w) (m:=m) (D:=D) hz;unfold ym at e
  split at e
  ·rename_i u y _;cases hu:Nat.beq u t
   ·rw[hu]at e;simp only[cond_false,qU]at e;obtain⟨rfl,rfl⟩:=e;refine zg R ?_ ⟨z2,trivial,trivial⟩;unfold Instr.typeAssert;simp_all[cv,aW,run_underlying,vo]
   ·rw[hu]at e;simp only[cond_true,qU]at e;obtain⟨rfl,rfl⟩:=e;have hu:=zE hu;subst hu;refine zg R ?_ ⟨a2,trivial,trivial⟩;simp_all[Instr.typeAssert,cv,aW,run_underlying]
  ·simp only[qU]at e;obtain⟨rfl,rfl⟩:=e;refine zg R ?_ ⟨z2,trivial,trivial⟩;simp_all[Instr.typeAssert,cv,aW,run_underlying]
  grind
theorem qKs {op:BinOp} {k:IntKind} {x y:Int} {z:AV} (e:MI op k x y=some z) (yk:IntKind):(Op.shift op k x yk y).run P w=.ok (cv m z) w∧bu D z:=by
 unfold MI at e;rw[MK]at e;by_cases hy:y<0
 ·grind
 ·simp only[iV hy,cond_false]at e;cases op<;>simp only[reduceCtorEq,Option.some.injEq]at e<;>subst e<;>refine⟨?_,trivial⟩
  all_goals (simp[Op.shift,cv,QC];omega)
theorem Uw (l:List UInt8):(ByteArray.mk l.toArray).toList=l:=by simp
theorem qzo {op:BinOp} {x y:List UInt8} {z:AV} (e:Aa op x y=some z):(Op.stringOp op ⟨x.toArray⟩ ⟨y.toArray⟩).run P w=.ok (cv m z) w∧bu D z:=by
 cases op<;>simp only[Aa,reduceCtorEq,Option.some.injEq,fF]at e
 case add=>
  rw[jg]at e;obtain⟨hl,e⟩:=e;have hl:=zL hl;cases e;refine⟨?_,trivial⟩;have h1:(ByteArray.mk x.toArray).size=x.length:=by rfl
  have h2:(ByteArray.mk y.toArray).size=y.length:=by rfl
  have h3:¬(((x.length+y.length:Nat):Int)>IntKind.i64.max):=by simp;omega
  simp only[Op.stringOp,h1,h2,h3,if_false,cv];rfl
 all_goals
  subst e;refine⟨?_,trivial⟩;simp[Op.stringOp,cv]
theorem qZ2 {op:BinOp} {t:TypeId} {x y:Operand} {a b:Value} (h1:op≠.eql) (h2:op≠.neq):(eqGuard op t x y a b).run P w=.ok () w:=by unfold eqGuard;simp
theorem Jl {op:BinOp} {t:TypeId} {x y:Operand} {a b:AV} (ha:∀l,a≠.agg l) (hb:a≠.dl∨b≠.dl):(eqGuard op t x y (cv m a) (cv m b)).run P w=.ok () w:=by
 unfold eqGuard;cases op<;>first |rfl |skip
 all_goals
  cases a<;>first |(exact absurd rfl (ha _)) |(cases b<;>first |rfl |grind)
theorem qju {t:TypeId} {x y:Value} {b:Bool} (h:∀d,(Op.equalIn (d+1) t x y).run P w=.ok b w):(Op.equal t x y).run P w=.ok b w:=h 9999
theorem Of {t:TypeId} {d:TypeDesc} {k:EK} {a b:AV} {q:Bool} (hd:P.underlying t=some d) (hk:Vh d=some k) (e:Ym k a b=some q) (n:Nat) :
  (Op.equalIn (n+1) t (cv m a) (cv m b)).run P w=.ok q w:=by
 cases d<;>simp only[Vh,reduceCtorEq,Option.some.injEq]at hk<;>subst hk<;>unfold Ym at e<;>split at e<;>
  first
   |(cases e;done)
   |skip
 all_goals try contradiction
 all_goals try (simp only[Option.some.injEq]at e;subst e)
 all_goals
  unfold Op.equalIn;rw[qV (Ae.run_underlying hd)];simp only[cv]
 all_goals first
  |rfl
  |skip
 ·simp_all[jg,Option.some.injEq,M2]
 simp[beq_toListBytes,fF]
mutual
theorem TH:∀v:AV,bu (λ_=>True) v
 | .bool _=>trivial
 | .int _ _=>trivial
 | .str _=>trivial
 | .ptr _ _=>trivial
 | .aU=>trivial
 | .slice _ _ _ _ _=>trivial
 | .ak=>trivial
 | .fn _ a c=>⟨gR a,gR c⟩
 | .yield _=>trivial
 | .dY=>trivial
 | .iface _ v=>TH v
 | .dl=>trivial
 | .agg l=>gR l
 | .bV l=>gR l
 | .ch _=>trivial
 | .tail _ _ _ _=>trivial
 | .dp _=>trivial
theorem gR:∀l:List AV,ba (λ_=>True) l
 |[]=>trivial
 |a::r=>⟨TH a,gR r⟩
end
theorem Ok {t:TypeId} {d:TypeDesc} {k:EK} (hd:P.underlying t=some d) (hk:Vh d=some k):iq P t=some false:=by grind[iq,Vh,reduceCtorEq]
theorem qXp {l1 l2:List ES} {xs ys:List AV} {q:Bool} (e:yW (l1++l2) xs ys=some q):(yW l1 xs ys=some false∧q=false)∨(yW l1 xs ys=some true∧yW l2 xs ys=some q):=by
 induction l1 with
 |nil=>exact .inr ⟨rfl,e⟩
 |cons a l1 ih=>
  cases a with
  |mO k o=>
   simp only[List.cons_append,yW,Option.bind_eq_some_iff]at e ⊢;grind
  |len n=>
   simp only[List.cons_append,yW]at e ⊢;grind
theorem Nc {c n:Nat} {xs ys:List AV} (hx:c+n≤xs.length) (hy:c+n≤ys.length):∀{l:List ES},XN n l=true→
  yW (G4 c l) xs ys=yW l ((xs.drop c).take n) ((ys.drop c).take n):=by
 intro l
 induction l with
 |nil=>intro _;rfl
 |cons a l ih=>
  intro h;cases a with
  |mO k o=>
   simp only[XN,Bool.and_eq_true]at h;have ho:=zL h.1;have gx:Qy xs (c+o)=Qy ((xs.drop c).take n) o:=by rw[yR,yR,List.getElem?_take_of_lt omQ,List.getElem?_drop]
   have gy:Qy ys (c+o)=Qy ((ys.drop c).take n) o:=by rw[yR,yR,List.getElem?_take_of_lt omQ,List.getElem?_drop]
   grind[G4,yW]
  |len m=>
   simp only[XN,Bool.and_eq_true]at h;have hm:=zL h.1;have h1:(Nat.ble (c+m) xs.length&&Nat.ble (c+m) ys.length)=true:=by simp;omega
   have h2:(Nat.ble m ((xs.drop c).take n).length&&Nat.ble m ((ys.drop c).take n).length)=true:=by grind
   simp only[G4,yW,h1,h2,cond_true,ih h.2]
theorem qGT:∀(d:Nat) {fs:List Field} {l:List ES} {xs ys:List AV} {q:Bool} (n:Nat) (_:gD P d fs=some l) (_:yW l xs ys=some q),
  (Op.eqFields (n+d) (aW m xs).toArray (aW m ys).toArray fs).run P w=.ok q w:=by
 intro d
 induction d with
 |zero=>nofun
 |succ d ihd=>
  intro fs l xs ys q n hl e;simp only[gD]at hl
  induction fs generalizing l q with
  |nil=>simp[Yr]at hl;subst hl;simp[yW]at e;subst e;rfl
  |cons f fs ih=>
   unfold Yr at hl;cases hn : f.name == "_"
   ·rw [hn] at hl;simp only [cond_false, Option.bind_eq_some_iff] at hl;obtain ⟨u, hu, hl⟩ := hl;have cg : f.name ≠ "_" := by grind
    by_cases bZ:∃gs,u=.struct gs
    ·obtain⟨gs,rfl⟩:=bZ;simp only[Option.bind_eq_some_iff]at hl;obtain⟨sz,bF,hl⟩:=hl;cases D5:P.stoodInHeld f.type
     ·rw[D5]at hl;simp only[cond_false,Option.bind_eq_some_iff]at hl;obtain⟨l1,tu,hl⟩:=hl;cases eI:XN sz l1
      ·grind
      ·rw[eI]at hl;simp only[cond_true,Option.map_eq_some_iff]at hl;obtain⟨l2,nK,rfl⟩:=hl;simp only[yW]at e;cases hb:Nat.ble (f.offset+sz) xs.length&&Nat.ble (f.offset+sz) ys.length
       ·grind
       ·rw[hb]at e;simp only[cond_true]at e;simp only[Bool.and_eq_true]at hb;have hx:=zL hb.1;have hy:=zL hb.2;have mI:iq P f.type=some true:=by grind[iq]
        have px:=GJ (P:=P) (m:=m) (w:=w) (t:=f.type) (off:=f.offset) mI bF (show vN sz (gK f.offset xs)=some ((xs.drop f.offset).take sz) by grind[QI,kQ]) (gR xs);have py:=GJ (P:=P) (m:=m) (w:=w) (t:=f.type) (off:=f.offset) mI bF (show vN sz (gK f.offset ys)=some ((ys.drop f.offset).take sz) by grind[QI,kQ]) (gR ys);have D6:∀b,yW (G4 f.offset l1) xs ys=some b→
          (Op.equalIn (n+(d+1)) f.type (cv m (.agg ((xs.drop f.offset).take sz))) (cv m (.agg ((ys.drop f.offset).take sz)))).run P w=.ok b w:=by
         intro b rI;rw[Nc hx hy eI]at rI;have hf:P.fieldsOf f.type=gs:=by grind[Program.fieldsOf]
         rw[show cv m (.agg ((xs.drop f.offset).take sz))=.agg (aW m ((xs.drop f.offset).take sz)).toArray from rfl,show cv m (.agg ((ys.drop f.offset).take sz))=.agg (aW m ((ys.drop f.offset).take sz)).toArray from rfl];rw[show n+(d+1)=(n+d)+1 from rfl,run_equalIn_struct w (n+d) f.type _ _ (by grind) D5,hf];grind
        unfold Op.eqFields;rw[iJ cg,qV px.1,qV py.1];rcases qXp e with⟨h1,rfl⟩ |⟨h1,h2⟩
        ·simp_all
        ·rw[qV (D6 true h1)];grind
     grind
    ·have hl:∃k s,Vh u=some k∧Yr P (gD P d) fs=some s∧ES.mO k f.offset::s=l:=by
      cases u<;>first |(exact absurd ⟨_,rfl⟩ bZ) |skip
      all_goals
       simp only[Option.bind_eq_some_iff]at hl;obtain⟨k,hk,hl⟩:=hl;refine⟨k,?_⟩;cases k<;>simp only[reduceCtorEq,Option.map_eq_some_iff]at hl<;>
        (obtain⟨s,hs,rfl⟩:=hl;exact⟨s,hk,hs,rfl⟩)
     obtain⟨k,s,hk,hs,rfl⟩:=hl;simp only[yW,Option.bind_eq_some_iff]at e;obtain⟨x,hx,y,hy,b,hb,e⟩:=e;unfold Op.eqFields;rw[iJ cg];rw[qV (Y2 (m:=m) (w:=w) (Ok hu hk) hx (gR xs)).1];rw[qV (Y2 (m:=m) (w:=w) (Ok hu hk) hy (gR ys)).1];rw[show n+(d+1)=(n+d)+1 from rfl,qV (Of hu hk hb (n+d))];cases b
     ·simp_all
     grind
   grind
theorem jZh {t:TypeId} {fs:Array Field} {l:List ES} {xs ys:List AV} {q:Bool} (hd:P.underlying t=some (.struct fs)) (hg:(P.eqGuardType P.depth t||P.stoodInHeld t)=false)
  (hl:gD P 8 fs.toList=some l) (e:yW l xs ys=some q):(Op.equal t (cv m (.agg xs)) (cv m (.agg ys))).run P w=.ok q w:=by
 simp only[Bool.or_eq_false_iff]at hg;have hf:P.fieldsOf t=fs:=by grind[Program.fieldsOf]
 have:(Op.equalIn (9991+8+1) t (cv m (.agg xs)) (cv m (.agg ys))).run P w=.ok q w:=by rw[show cv m (.agg xs)=.agg (aW m xs).toArray from rfl,show cv m (.agg ys)=.agg (aW m ys).toArray from rfl];rw[run_equalIn_struct w (9991+8) t _ _ (by grind) hg.2,hf];exact qGT 8 9991 hl e
 trivial
theorem MN (b:Bool):(b !=false)=b:=by simp
theorem OJ (b:Bool):(b !=true)=!b:=by simp
theorem jX2 {op:BinOp} {t t2:TypeId} {x y:Operand} (ho:o.op=.binOp op t x y t2) (hr:dQ m D ρ r) (R:Rel P m D h w) (e:bc P c o.op r h fin=some (v,h')):dK P m D h w ((execOp ρ o).run P w) v h':=by
 rw[ho]at e;simp only[bc,qg]at e;obtain⟨a,ha,b,hb,e⟩:=e;obtain⟨a1,a2⟩:=hr _ _ ha;obtain⟨b1,b2⟩:=hr _ _ hb;simp only[execOp,ho,a1,b1]
 suffices hs:h=h'∧bu D v∧(eqGuard op t x y (cv m a) (cv m b)).run P w=.ok () w∧(binOp op t (cv m a) (cv m b)).run P w=.ok (cv m v) w by
  obtain⟨rfl,hv,h1,h2⟩:=hs;grind[zg,qV]
 have shift:∀op,(op=.shl∨op=.shr)→w5 op a b (λz=>fin z h)=some (v,h')→h=h'∧bu D v∧(eqGuard op t x y (cv m a) (cv m b)).run P w=.ok () w∧(binOp op t (cv m a) (cv m b)).run P w=.ok (cv m v) w:=by
  intro op mT e;unfold w5 at e
  split at e
  ·rename_i k1 p k2 q _;simp only[qg,qU]at e;obtain⟨z,hz,rfl,rfl⟩:=e;obtain⟨z1,z2⟩:=qKs (P:=P) (m:=m) (D:=D) (w:=w) hz k2;refine⟨rfl,z2,qZ2 (by grind) (by grind),?_⟩;rcases mT with rfl |rfl<;>exact z1
  grind
 unfold DK at e
 split at e
 ·grind
 ·grind
 ·rename_i nL mh;simp only[qg]at e;obtain⟨d,hd,e⟩:=e;have nL:op≠.shl:=λhh=>nL hh;have mh:op≠.shr:=λhh=>mh hh;have gen:∀(k:EK),Vh d=some k→(∀kk,d≠.int kk)→d≠.string→∀q,Ym k a b=some q→
    (∀x y,(eqGuard .eql t x y (cv m a) (cv m b)).run P w=.ok () w)∧(∀x y,(eqGuard .neq t x y (cv m a) (cv m b)).run P w=.ok () w)∧
    (binOp .eql t (cv m a) (cv m b)).run P w=.ok (.bool q) w∧(binOp .neq t (cv m a) (cv m b)).run P w=.ok (.bool !q) w:=by
   intro k hk hi hs q hq;have cP:=qju (λn=>Of (m:=m) (w:=w) hd hk hq n);have mI:(∀l,a≠.agg l)∧(a≠.dl∨b≠.dl)∧(∀kk n,a≠.int kk n)∧(∀s,a≠.str s):=by
    cases d<;>simp only[Vh,reduceCtorEq,Option.some.injEq]at hk<;>first |(exact absurd rfl (hi _)) |(exact absurd rfl hs) |skip
    all_goals
     grind[Ym]
   obtain⟨g1,g2,g3,g4⟩:=mI;refine⟨λx y=>Jl g1 g2,λx y=>Jl g1 g2,?_,?_⟩
   ·have:binOp .eql t (cv m a) (cv m b)=(do pure (Value.bool (← Op.equal t (cv m a) (cv m b)))):=by
     cases a<;>first |rfl |(exact absurd rfl (g3 _ _)) |grind
    simp_all
   ·have:binOp .neq t (cv m a) (cv m b)=(do pure (Value.bool (!(← Op.equal t (cv m a) (cv m b))))):=by
     cases a<;>first |rfl |(exact absurd rfl (g3 _ _)) |grind
    simp_all
  have pe:(∀kk,d≠.int kk)→d≠.string→∀(k:EK),Vh d=some k→∀neg,(neg=false→op=.eql)→(neg=true→op=.neq)→nY k neg a b (λz=>fin z h)=some (v,h')→
    h=h'∧bu D v∧(eqGuard op t x y (cv m a) (cv m b)).run P w=.ok () w∧(binOp op t (cv m a) (cv m b)).run P w=.ok (cv m v) w:=by
   intro hi hs k hk neg e0 e1 e;unfold nY at e;simp only[qg,qU]at e;obtain⟨q,hq,rfl,rfl⟩:=e;obtain⟨q1,q2,q3,q4⟩:=gen k hk hi hs q hq;cases neg
   ·obtain rfl:=e0 rfl;exact⟨rfl,trivial,q1 x y,by rw[q3,MN];rfl⟩
   ·obtain rfl:=e1 rfl;exact⟨rfl,trivial,q2 x y,by rw[q4,OJ];rfl⟩
  have ps:∀fs l,d=.struct fs→(P.eqGuardType P.depth t||P.stoodInHeld t)=false→gD P 8 fs.toList=some l→∀neg,(neg=false→op=.eql)→(neg=true→op=.neq)→UO l neg a b (λz=>fin z h)=some (v,h')→
    h=h'∧bu D v∧(eqGuard op t x y (cv m a) (cv m b)).run P w=.ok () w∧(binOp op t (cv m a) (cv m b)).run P w=.ok (cv m v) w:=by
   intro fs l pW hg hl neg e0 e1 ee;subst pW;unfold UO at ee
   split at ee
   ·rename_i xs ys;simp only[qg,qU]at ee;obtain⟨q,hq,rfl,rfl⟩:=ee;have cP:=jZh (m:=m) (w:=w) hd hg hl hq;simp only[Bool.or_eq_false_iff]at hg;cases neg
    ·obtain rfl:=e0 rfl;refine⟨rfl,trivial,run_eqGuard_agg w _ _ _ _ _ _ hg.1,?_⟩;have:binOp .eql t (cv m (.agg xs)) (cv m (.agg ys))=(do pure (Value.bool (← Op.equal t (cv m (.agg xs)) (cv m (.agg ys))))):=rfl;rw[this,qV cP,MN];rfl
    ·obtain rfl:=e1 rfl;refine⟨rfl,trivial,run_eqGuard_agg w _ _ _ _ _ _ hg.1,?_⟩;have:binOp .neq t (cv m (.agg xs)) (cv m (.agg ys))=(do pure (Value.bool (!(← Op.equal t (cv m (.agg xs)) (cv m (.agg ys)))))):=rfl;rw[this,qV cP,OJ];rfl
   grind
  split at e
  ·--numbers
   rw[Lz]at e
   split at e
   ·rename_i k1 p k2 q;simp only[jg,qg,qU]at e;obtain⟨hk,z,hz,rfl,rfl⟩:=e;have hk:k1=k2:=by grind
    subst hk;obtain⟨z1,z2⟩:=qg3 (P:=P) (m:=m) (D:=D) (w:=w) hz;refine⟨rfl,z2,Jl aS aS,?_⟩;have:binOp op t (cv m (.int k1 p)) (cv m (.int k1 q))=DY op k1 p q:=by
     cases op<;>first |(exact absurd rfl nL) |(exact absurd rfl mh) |simp[binOp,cv,DY]
    grind
   grind
  ·unfold Nb at e
   split at e
   ·rename_i s1 s2;simp only[qg,qU]at e;obtain⟨z,hz,rfl,rfl⟩:=e;obtain⟨z1,z2⟩:=qzo (P:=P) (m:=m) (D:=D) (w:=w) hz;refine⟨rfl,z2,Jl aS aS,?_⟩;have:binOp op t (cv m (.str s1)) (cv m (.str s2))=Op.stringOp op ⟨s1.toArray⟩ ⟨s2.toArray⟩:=by
     cases op<;>first |(exact absurd rfl nL) |(exact absurd rfl mh) |rfl
    grind
   grind
  ·rename_i fs
   split at e
   ·grind
   ·grind
   grind
  ·rename_i hi hs _
   split at e
   ·simp only[qg]at e;obtain⟨k,hk,e⟩:=e;exact pe (λkk hh=>hi kk hh) (λhh=>hs hh) k hk false (λ_=>rfl) aS e
   ·simp only[qg]at e;obtain⟨k,hk,e⟩:=e;exact pe (λkk hh=>hi kk hh) (λhh=>hs hh) k hk true aS (λ_=>rfl) e
   grind
end Go.Ae
