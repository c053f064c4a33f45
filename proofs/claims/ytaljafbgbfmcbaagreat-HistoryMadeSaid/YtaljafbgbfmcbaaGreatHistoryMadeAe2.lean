/- The abstract executor of the program's form in Lean, shown sound: what an abstract heap says of a world; loads, stores, numbers, simple operations. -/
import Derived.Test.YtaljafbgbfmcbaaGreatHistoryMadeAe1
import Derived.Below
import Derived.Lib.LaidTab
import Derived.Laws.StructEq
namespace Go.Ae
theorem yY {a b:Nat} (h:a≠b):Nat.beq a b=false:=by
 grind[Nat.beq,absurd,Nat.eq_of_beq_eq_true]
theorem gZ {a b:Nat} (h:Nat.beq a b=false):a≠b:=λe=>by simp_all
theorem zF {a b:Nat} (h:Nat.beq a b=true):a=b:=Nat.eq_of_beq_eq_true h
theorem PT.lV {α:Type} (i:Nat):(PT.e:PT α).get i=none:=rfl
theorem PT.mN {α:Type} (l:PT α) (v:Option α) (r:PT α) (i:Nat):(PT.n l v r).get i=bif Nat.beq i 0 then v else bif Nat.beq (i%2) 1 then l.get (i/2)else r.get (i/2-1):=by show Bool.rec (motive:=λ_=>Option α) (Bool.rec (motive:=λ_=>Option α) (r.get (i/2-1)) (l.get (i/2)) (Nat.beq (i%2) 1)) v (Nat.beq i 0)=_;cases Nat.beq i 0<;>cases Nat.beq (i%2) 1<;>rfl
theorem PT.CE {α:Type} (f i:Nat) (x:α):PT.lm (f+1) .e i x=bif Nat.beq i 0 then .n .e (some x) .e else bif Nat.beq (i%2) 1 then .n (PT.lm f .e (i/2) x) none .e else .n .e none (PT.lm f .e (i/2-1) x):=by show Bool.rec (motive:=λ_=>PT α) (Bool.rec (motive:=λ_=>PT α) (.n .e none (PT.lm f .e (i/2-1) x)) (.n (PT.lm f .e (i/2) x) none .e) (Nat.beq (i%2) 1)) (.n .e (some x) .e) (Nat.beq i 0)=_;cases Nat.beq i 0<;>cases Nat.beq (i%2) 1<;>rfl
theorem PT.CF {α:Type} (f i:Nat) (x:α) (l:PT α) (v:Option α) (r:PT α):PT.lm (f+1) (.n l v r) i x=bif Nat.beq i 0 then .n l (some x) r else bif Nat.beq (i%2) 1 then .n (PT.lm f l (i/2) x) v r else .n l v (PT.lm f r (i/2-1) x):=by show Bool.rec (motive:=λ_=>PT α) (Bool.rec (motive:=λ_=>PT α) (.n l v (PT.lm f r (i/2-1) x)) (.n (PT.lm f l (i/2) x) v r) (Nat.beq (i%2) 1)) (.n l (some x) r) (Nat.beq i 0)=_;cases Nat.beq i 0<;>cases Nat.beq (i%2) 1<;>rfl
theorem MA {α:Type} (i:Nat):kN ([]:List α) i=none:=rfl
theorem Ox {α:Type} (a:α) (r:List α) (i:Nat):kN (a::r) i=bif Nat.beq i 0 then some a else kN r (i-1):=by show Bool.rec (motive:=λ_=>Option α) (kN r (i-1)) (some a) (Nat.beq i 0)=_;cases Nat.beq i 0<;>rfl
theorem Sq {α:Type} (l:List α):vh 0 l=some []:=rfl
theorem qW8 {α:Type} (n:Nat):vh (n+1) ([]:List α)=none:=rfl
theorem MF {α:Type} (n:Nat) (a:α) (r:List α):vh (n+1) (a::r)=(vh n r).bind λs=>some (a::s):=by show Option.rec (motive:=λ_=>Option (List α)) none (λs=>some (a::s)) (vh n r)=_;cases vh n r<;>rfl
theorem jQc {α:Type} (l:List α):gj 0 l=l:=rfl
theorem qYc {α:Type} (n:Nat):gj (n+1) ([]:List α)=[]:=rfl
theorem qVE {α:Type} (n:Nat) (a:α) (r:List α):gj (n+1) (a::r)=gj n r:=rfl
theorem qv5 {α:Type} (l:List α):NF l []=some l:=rfl
theorem qko {α:Type} (x:α) (xs:List α):NF [] (x::xs)=none:=rfl
theorem ZJ {α:Type} (a:α) (l:List α) (x:α) (xs:List α):NF (a::l) (x::xs)=(NF l xs).bind λs=>some (x::s):=by show Option.rec (motive:=λ_=>Option (List α)) none (λs=>some (x::s)) (NF l xs)=_;cases NF l xs<;>rfl
theorem qVe {α:Type} (n:Nat) (xs:List α):JE [] (n+1) xs=none:=rfl
theorem U0 {α:Type} (a:α) (l:List α) (n:Nat) (xs:List α):JE (a::l) (n+1) xs=(JE l n xs).bind λs=>some (a::s):=by show Option.rec (motive:=λ_=>Option (List α)) none (λs=>some (a::s)) (JE l n xs)=_;cases JE l n xs<;>rfl
theorem qxi (t:aH AV) (i:Nat):Bj t i []=t:=rfl
theorem qqu (t:aH AV) (i:Nat) (x:AV) (r:List AV):Bj t i (x::r)=Bj (aH.set t i x) (i+1) r:=rfl
theorem vi (z:List AV) (t:aH AV) (i:Nat):Jb z t i=(match aH.get t i with |some v=>some v |none=>kN z (i%z.length)):=by show Option.rec (motive:=λ_=>Option AV) (kN z (i%z.length)) (λv=>some v) (aH.get t i)=_;split<;>simp_all
theorem qWA (z:List AV) (t:aH AV) (i:Nat):XC z t i 0=some []:=rfl
theorem ZM (z:List AV) (t:aH AV) (i n:Nat):XC z t i (n+1)=(Jb z t i).bind λv=>(XC z t (i+1) n).bind λs=>some (v::s):=by
 show Option.rec (motive:=λ_=>Option (List AV)) none (λv=>Option.rec (motive:=λ_=>Option (List AV)) none (λs=>some (v::s)) (XC z t (i+1) n)) (Jb z t i)=_;cases Jb z t i with
 |none=>rfl
 |some v=>cases XC z t (i+1) n<;>rfl
theorem PT.sH {α:Type}:∀(f:Nat) (t:PT α) (i:Nat) (x:α) (j:Nat),i<f→(PT.lm f t i x).get j=if i=j then some x else t.get j:=by
 intro f
 induction f with
 |zero=>simp
 |succ f ih=>
  intro t i x j h;cases t with
  |e=>
   simp only[PT.CE];by_cases h0:i=0
   ·subst h0;simp only[Nat.beq_refl,cond_true,PT.mN,PT.lV];by_cases hj:j=0
    ·simp_all
    simp_all;omega
   ·have Ss:Nat.beq i 0=false:=yY h0;rw[Ss];simp only[cond_false];cases hm:Nat.beq (i%2) 1
    ·have uT:i%2≠1:=gZ hm;simp only[cond_false,PT.mN,PT.lV];by_cases hj:j=0
     ·simp_all
     ·have Bq:Nat.beq j 0=false:=yY hj;rw[Bq];simp only[cond_false];cases sI:Nat.beq (j%2) 1
      ·have oZ:j%2≠1:=gZ sI;simp only[cond_false];rw[ih _ _ _ _ omQ];simp only[PT.lV];grind
      grind
    ·have uT:i%2=1:=Nat.eq_of_beq_eq_true hm;simp only[cond_true,PT.mN,PT.lV];by_cases hj:j=0
     ·simp_all
     ·have Bq:Nat.beq j 0=false:=yY hj;rw[Bq];simp only[cond_false];cases sI:Nat.beq (j%2) 1
      ·grind
      ·have oZ:j%2=1:=Nat.eq_of_beq_eq_true sI;simp only[cond_true];rw[ih _ _ _ _ omQ];simp only[PT.lV];grind
  |n l v r=>
   simp only[PT.CF];by_cases h0:i=0
   ·subst h0;simp only[Nat.beq_refl,cond_true,PT.mN];by_cases hj:j=0
    ·simp_all
    ·rw[iQ (λe=>hj e.symm)];grind[Nat.beq,yY]
   ·have Ss:Nat.beq i 0=false:=yY h0;rw[Ss];simp only[cond_false];cases hm:Nat.beq (i%2) 1
    ·have uT:i%2≠1:=gZ hm;simp only[cond_false,PT.mN];by_cases hj:j=0
     ·simp_all
     ·have Bq:Nat.beq j 0=false:=yY hj;rw[Bq];simp only[cond_false];cases sI:Nat.beq (j%2) 1
      ·have oZ:j%2≠1:=gZ sI;grind
      grind
    ·have uT:i%2=1:=Nat.eq_of_beq_eq_true hm;simp only[cond_true,PT.mN];by_cases hj:j=0
     ·simp_all
     ·have Bq:Nat.beq j 0=false:=yY hj;rw[Bq];simp only[cond_false];cases sI:Nat.beq (j%2) 1
      ·grind
      ·have oZ:j%2=1:=Nat.eq_of_beq_eq_true sI;grind
theorem PT.bN {α:Type} (t:PT α) (i:Nat) (x:α) (j:Nat):(t.set i x).get j=if i=j then some x else t.get j :=
 PT.sH (i+1) t i x j (Nat.lt_succ_self i)
@[simp] theorem PT.get_set_same {α:Type} (t:PT α) (i:Nat) (x:α):(t.set i x).get i=some x:=by rw[PT.bN,iJ rfl]
def Gf (i m:Nat):Bool:=Nat.beq (Nat.land i m) 0
theorem PT.uV {α:Type} (i j m:Nat) (f:PT α→PT α) (t:PT α):PT.nu j m (PT.sub i m f t)=if Gf i m=Gf j m then f (PT.nu j m t)else PT.nu j m t:=by
 unfold Gf;cases t with
 |e=>
  show PT.nu j m (Bool.rec (motive:=λ_=>PT α) (.n .e none (f .e)) (.n (f .e) none .e) (Nat.beq (Nat.land i m) 0))=_;cases Nat.beq (Nat.land i m) 0
  ·show Bool.rec (motive:=λ_=>PT α) (f .e) .e (Nat.beq (Nat.land j m) 0)=_;cases Nat.beq (Nat.land j m) 0<;>rfl
  ·show Bool.rec (motive:=λ_=>PT α) .e (f .e) (Nat.beq (Nat.land j m) 0)=_;cases Nat.beq (Nat.land j m) 0<;>rfl
 |n l v r=>
  show PT.nu j m (Bool.rec (motive:=λ_=>PT α) (.n l v (f r)) (.n (f l) v r) (Nat.beq (Nat.land i m) 0))=if _ then f (Bool.rec (motive:=λ_=>PT α) r l (Nat.beq (Nat.land j m) 0))else Bool.rec (motive:=λ_=>PT α) r l (Nat.beq (Nat.land j m) 0)
  cases Nat.beq (Nat.land i m) 0
  ·show Bool.rec (motive:=λ_=>PT α) (f r) l (Nat.beq (Nat.land j m) 0)=_;split<;>simp_all
  ·show Bool.rec (motive:=λ_=>PT α) r (f l) (Nat.beq (Nat.land j m) 0)=_;cases Nat.beq (Nat.land j m) 0<;>rfl
theorem PT.rK {α:Type} (x:α) (t:PT α):(PT.mark x t).leaf=some x:=by cases t<;>rfl
noncomputable def Eu {α:Type}:List Nat→PT α→Nat→Option α
 |[],t,_=>t.leaf
 |m::r,t,i=>Eu r (PT.nu i m t) i
noncomputable def FH {α:Type}:List Nat→Nat→α→PT α→PT α
 |[],_,x=>PT.mark x
 |m::r,i,x=>PT.sub i m (FH r i x)
theorem qYF {α:Type} (i j:Nat) (x:α):∀(L:List Nat) (t:PT α),Eu L (FH L i x t) j=if(∀m∈L,Gf i m=Gf j m)then some x else Eu L t j:=by
 intro L
 induction L with
 |nil=>simp[Eu,FH,PT.rK]
 |cons m L ih=>
  intro t;simp only[Eu,FH,PT.uV];grind
def VI:List Nat:=[2048,1024,512,256,128,64,32,16,8,4,2,1]
theorem UV (i k:Nat):Gf i (2 ^ k)=!i.testBit k:=by
 unfold Gf;cases h:i.testBit k
 ·have:Nat.land i (2 ^ k)=0:=by
   apply Nat.eq_of_testBit_eq;intro n;show(i&&&2 ^ k).testBit n=_;grind
  simp_all
 ·have:Nat.land i (2 ^ k)≠0:=by
   intro e;have:=congrArg (λx=>x.testBit k) e;simp only[Nat.zero_testBit]at this;have h2:(i&&&2 ^ k).testBit k=false:=this;grind
  grind[yY]
theorem Ol (i j:Nat):(∀m∈VI,Gf i m=Gf j m)↔i%4096=j%4096:=by
 have hm:VI=[2 ^ 11,2 ^ 10,2 ^ 9,2 ^ 8,2 ^ 7,2 ^ 6,2 ^ 5,2 ^ 4,2 ^ 3,2 ^ 2,2 ^ 1,2 ^ 0]:=rfl;rw[hm];constructor
 ·intro h;have hb:∀k,k<12→i.testBit k=j.testBit k:=by
   intro k hk;have lx:2 ^ k∈[2 ^ 11,2 ^ 10,2 ^ 9,2 ^ 8,2 ^ 7,2 ^ 6,2 ^ 5,2 ^ 4,2 ^ 3,2 ^ 2,2 ^ 1,2 ^ 0]:=by
    have:k=0∨k=1∨k=2∨k=3∨k=4∨k=5∨k=6∨k=7∨k=8∨k=9∨k=10∨k=11:=by omega
    rcases this with rfl |rfl |rfl |rfl |rfl |rfl |rfl |rfl |rfl |rfl |rfl |rfl<;>simp
   grind[UV]
  apply Nat.eq_of_testBit_eq;intro n;rw[show 4096=2 ^ 12 from rfl,Nat.testBit_mod_two_pow,Nat.testBit_mod_two_pow];grind
 ·intro h m lx;have key:∀k,k<12→Gf i (2 ^ k)=Gf j (2 ^ k):=by
   intro k hk;rw[UV,UV];have:=congrArg (λx=>x.testBit k) h;simp only[show 4096=2 ^ 12 from rfl,Nat.testBit_mod_two_pow,hk,decide_true,Bool.true_and]at this;grind
  simp only[List.mem_cons,List.not_mem_nil,or_false]at lx;rcases lx with rfl |rfl |rfl |rfl |rfl |rfl |rfl |rfl |rfl |rfl |rfl |rfl<;>exact key _ omQ
theorem PT.nL {α:Type} (t:PT α) (i:Nat):t.mM i=Eu VI t i:=rfl
theorem PT.sJ {α:Type} (t:PT α) (i:Nat) (x:α):t.pO i x=FH VI i x t:=rfl
theorem PT.rL {α:Type} (t:PT α) (i:Nat) (x:α) (j:Nat):(t.pO i x).mM j=if i%4096=j%4096 then some x else t.mM j:=by
 simp[PT.nL,PT.sJ,qYF,Ol]
theorem aH.get_eq {α:Type} (t:aH α) (i:Nat):t.get i=(PT.get t (i/4096)).bind λs=>s.mM i:=by show Option.rec (motive:=λ_=>Option α) none (λs=>PT.mM s i) (PT.get t (i/4096))=_;cases PT.get t (i/4096)<;>rfl
theorem aH.ic {α:Type} (i:Nat):aH.get (PT.e:aH α) i=none:=rfl
theorem aH.bN {α:Type} (t:aH α) (i:Nat) (x:α) (j:Nat):(t.set i x).get j=if i=j then some x else t.get j:=by
 rw[aH.get_eq,aH.get_eq];show((PT.set t (i/4096) (PT.pO (Option.rec (motive:=λ_=>PT α) .e (λs=>s) (PT.get t (i/4096))) i x)).get (j/4096)).bind _=_;rw[PT.bN];by_cases hd:i/4096=j/4096
 ·rw[iJ hd,Option.bind_some,PT.rL,← hd];by_cases hm:i%4096=j%4096
  ·grind
  ·have:i≠j:=λe=>hm (by rw[e]);rw[iQ hm,iQ this];cases PT.get t (i/4096)<;>rfl
 grind
@[simp] theorem aH.get_set_same {α:Type} (t:aH α) (i:Nat) (x:α):(t.set i x).get i=some x:=by rw[aH.bN,iJ rfl]
theorem Xw (p:Nat×cW) (l:List (Nat×cW)) (b:Nat) (d:Option cW):VZ (p::l) b d=if p.1=b then some p.2 else VZ l b d:=by
 show Bool.rec (motive:=λ_=>Option cW) (VZ l b d) (some p.2) (Nat.beq p.1 b)=_;by_cases h:p.1=b
 ·simp_all
 ·rw[iQ h,yY h]
theorem OB:∀(n:Nat) (l:List (Nat×cW)) (b:Nat) (d:Option cW),VZ (On n l) b (VZ (gj n l) b d)=VZ l b d:=by
 intro n
 induction n with
 |zero=>intro l b d;rfl
 |succ n ih=>
  intro l b d;cases l with
  |nil=>rfl
  |cons p l=>simp_all[VZ,On,gj]
theorem OY:∀(l:List (Nat×cW)) (t:aH cW) (b:Nat),aH.get (Zx l t) b=VZ l b (aH.get t b):=by
 intro l
 induction l with
 |nil=>intro t b;rfl
 |cons p l ih=>grind[aH.get,aH.set,Zx,aH.bN,Xw]
theorem AH.pS (h:AH) (b b':Nat) (x:cW):(h.put b x).get b'=if b=b' then some x else h.get b':=by show VZ ((b,x)::On 5 h.rc) b' (aH.get (Zx (gj 5 h.rc) h.t) b')=_;rw[Xw,OY,OB];rfl
theorem AH.pT (h:AH) (b':Nat) (x:cW):(h.new x).get b'=if h.nx=b' then some x else h.get b':=by show VZ ((h.nx,x)::On 5 h.rc) b' (aH.get (Zx (gj 5 h.rc) h.t) b')=_;rw[Xw,OY,OB];rfl
@[simp] theorem AH.bu (h:AH) (b:Nat) (x:cW):(h.put b x).get b=some x:=by rw[AH.pS,iJ rfl]
theorem AH.cn (h:AH) {b b':Nat} (x:cW) (e:b≠b'):(h.put b x).get b'=h.get b':=by rw[AH.pS,iQ e]
@[simp] theorem AH.bD (h:AH) (x:cW):(h.new x).get h.nx=some x:=by rw[AH.pT,iJ rfl]
theorem AH.cq (h:AH) {b:Nat} (x:cW) (e:h.nx≠b):(h.new x).get b=h.get b:=by rw[AH.pT,iQ e]
@[simp] theorem AH.CG (h:AH) (b:Nat) (x:cW):(h.put b x).nx=h.nx:=rfl
@[simp] theorem AH.Su (h:AH) (x:cW):(h.new x).nx=h.nx+1:=rfl
theorem jJc (a b:IntKind):Sf a b=(a==b):=by cases a<;>cases b<;>rfl
theorem jQS (t w:Bool):Ct t w=(t==w):=by cases t<;>cases w<;>rfl
theorem Z7 (b:Bool):Cw b=!b:=by cases b<;>rfl
theorem qyn (x y:Int):Cu x y=x+y:=by cases x<;>cases y<;>rfl
theorem qys (x y:Int):Cv x y=x-y:=by
 cases x with
 |negSucc a=>rfl
 |ofNat a=>
  cases y with
  |negSucc b=>rfl
  |ofNat b=>
   show Bool.rec (motive:=λ_=>Int) (.negSucc (Nat.sub (Nat.sub b a) 1)) (.ofNat (Nat.sub a b)) (Nat.ble b a)=(a:Int)-(b:Int);cases hb:Nat.ble b a
   ·have:¬b≤a:=λh=>by simp_all[iY]
    grind
   simp at*;omega
theorem VY (x y:Int):ZU x y=pP x y:=by cases x<;>cases y<;>rfl
theorem Sv (x y:Int):Fx x y=ny x y:=by cases x<;>cases y<;>rfl
theorem qZH (k:IntKind) (n:Int) (f:Int→R):Fy k n f=f (zu k n):=by
 cases k<;>first |rfl |skip
 ·cases n with
  |negSucc a=>rfl
  |ofNat a=>
   show Bool.rec (motive:=λ_=>R) (f (zu .i64 (.ofNat a))) (f (.ofNat a)) (Nat.ble a 9223372036854775807)=_;cases hb:Nat.ble a 9223372036854775807
   ·rfl
   ·simp only[zu,hb,cond_true]
 ·cases n with
  |negSucc a=>rfl
  |ofNat a=>
   show Bool.rec (motive:=λ_=>R) (f (zu .u64 (.ofNat a))) (f (.ofNat a)) (Nat.ble a 18446744073709551615)=_;cases hb:Nat.ble a 18446744073709551615
   ·rfl
   ·have:=Nat.le_of_ble_eq_true hb;simp only[zu];grind
theorem qgM (op:BinOp) (k:IntKind) (x y:Int) (f:AV→R):Sh op k x y f=ob (JP op k x y) f:=by
 cases op<;>first |rfl |skip
 ·show Fy k (Cu x y) (λn=>f (.int k n))=f (.int k (zu k (x+y)));rw[qZH,qyn]
 ·show Fy k (Cv x y) (λn=>f (.int k n))=f (.int k (zu k (x-y)));rw[qZH,qys]
 ·show f (.bool (Fx x y))=_;rw[Sv];rfl
 ·show f (.bool (Cw (Fx x y)))=_;rw[Sv,Z7];rfl
 ·show f (.bool (ZU x y))=_;rw[VY];rfl
 ·show f (.bool (Cw (ZU y x)))=_;rw[VY,Z7];rfl
 ·show f (.bool (ZU y x))=_;rw[VY];rfl
 ·show f (.bool (Cw (ZU x y)))=_;rw[VY,Z7];rfl
theorem FI {α:Type} (x:Option α) (k:α→R):Option.rec (motive:=λ_=>R) none k x=ob x k:=by cases x<;>rfl
theorem uW (b:Bool) (x y:R):Bool.rec (motive:=λ_=>R) y x b=bif b then x else y:=by cases b<;>rfl
theorem qxD (v:AV) (a b:R):zU v a b=(match v with | .bool t=>(match t with |true=>a |false=>b) |_=>none):=by cases v<;>first |rfl |(rename_i t;cases t<;>rfl)
theorem MX (v:AV) (w:Bool) (a b:R):JB v w a b=(match v with | .bool t=>bif t==w then a else b |_=>b):=by cases v<;>first |rfl |(rename_i t;show Bool.rec (motive:=λ_=>R) b a (Ct t w)=_;rw[jQS,uW])
theorem qJH (c a b:AV) (k:AV→R):w4 c a b k=(match c with | .bool t=>(match t with |true=>k a |false=>k b) |_=>none):=by cases c<;>first |rfl |(rename_i t;cases t<;>rfl)
theorem Mo (v:AV) (off:Nat) (k:AV→R):qH v off k=(match v with | .ptr b o=>k (.ptr b (o+off)) |_=>none):=by cases v<;>rfl
theorem Un (v:AV) (off:Nat) (k:AV→R):Gt v off k=(match v with | .agg cs=>ob (kN cs off) k |_=>none):=by cases v<;>first |rfl |exact FI _ _
theorem Vf (v i:AV) (sz:Nat) (k:AV→R):yt v i sz k=(match v,i with | .slice b off len _ _,.int _ (.ofNat a)=>bif Nat.ble (a+1) len then k (.ptr b (off+a*sz))else none |_,_=>none):=by
 cases v<;>first |rfl |skip
 cases i<;>first |rfl |skip
 rename_i n;cases n<;>first |rfl |exact uW _ _ _
theorem gD (h:AH) (v:AV) (k:AV→R):jK h v k=(match v with | .ptr b off=>(match h.get b with |some (.cells c _ _)=>ob (c.fN off) k |some (.dh t)=>ob (aH.get t off) k |_=>none) |_=>none):=by
 cases v<;>first |rfl |skip
 rename_i b off;show Option.rec (motive:=λ_=>R) none _ (h.get b)=(match h.get b with |some (.cells c _ _)=>ob (c.fN off) k |some (.dh t)=>ob (aH.get t off) k |_=>none);cases h.get b with
 |none=>rfl
 |some x=>cases x<;>first |rfl |simp[FI]
theorem ku (h:AH) (v:AV) (n:Nat) (k:AV→R):jr h v n k=(match v with | .ptr b off=>ob (yo h b off n) λl=>k (.agg l) |_=>none):=by cases v<;>first |rfl |exact FI _ _
theorem UT (h:AH) (a x:AV) (n:Nat) (k:AH→R):jw h a x n k=(match a with | .ptr b off=>bif Nat.beq x.cells.length n then ob (wK h b off x.cells) k else none |_=>none):=by
 cases a<;>first |rfl |skip
 rename_i b off;show Bool.rec (motive:=λ_=>R) none (Option.rec (motive:=λ_=>R) none k (wK h b off x.cells)) (Nat.beq x.cells.length n)=_;rw[uW,FI]
theorem Z0 (op:BinOp) (x y:AV) (k:AV→R):j6 op x y k=(match x,y with | .int k1 a,.int k2 b=>bif k1==k2 then ob (JP op k1 a b) k else none |_,_=>none):=by
 cases x<;>first |rfl |skip
 cases y<;>first |rfl |skip
 rename_i k1 a k2 b;show Bool.rec (motive:=λ_=>R) none (Sh op k1 a b k) (Sf k1 k2)=_;rw[uW,qgM,jJc]
theorem Yw (v:AV) (i:Nat) (k:AV→R):wn v i k=(match v with | .cA l=>ob (kN l i) k |_=>none):=by cases v<;>first |rfl |exact FI _ _
theorem JH (c:CV) (f:AV) (a:List AV) (h:AH) (k:AV→AH→R):xS c f a h k=(match c f a h with |some q=>k q.1 q.2 |none=>none):=by unfold xS;split<;>simp_all
theorem yv {α:Type} (l:List α) (i:Nat):kN l i=l[i]?:=by
 induction l generalizing i with
 |nil=>rfl
 |cons a r ih=>
  cases i with
  |zero=>rfl
  |succ i=>simp only[Ox];rw[show Nat.beq (i+1) 0=false from rfl];grind
theorem JL {α:Type} (n:Nat) (l:List α):gj n l=l.drop n:=by
 induction n generalizing l with
 |zero=>rfl
 |succ n ih=>cases l<;>simp[qYc,qVE,ih]
theorem k8 {α:Type} {n:Nat} {l s:List α} (h:vh n l=some s):s=l.take n∧n≤l.length:=by
 induction n generalizing l s with
 |zero=>grind[Sq]
 |succ n ih=>
  cases l with
  |nil=>trivial
  |cons a r=>grind[MF,Option.bind_eq_some_iff]
theorem qYR {α:Type} {n:Nat} {l s:List α} (h:vh n l=some s):s.length=n:=by obtain⟨e,h'⟩:=k8 h;grind
theorem qWm {α:Type} {l xs r:List α} (h:NF l xs=some r):r=xs++l.drop xs.length∧xs.length≤l.length:=by
 induction xs generalizing l r with
 |nil=>grind[qv5]
 |cons x xs ih=>
  cases l with
  |nil=>trivial
  |cons a l=>grind[ZJ,Option.bind_eq_some_iff]
theorem Up {α:Type} {l:List α} {off:Nat} {xs r:List α} (h:JE l off xs=some r):r=l.take off++xs++l.drop (off+xs.length)∧off+xs.length≤l.length:=by
 induction off generalizing l r with
 |zero=>have h':NF l xs=some r:=h;grind[qWm]
 |succ n ih=>
  cases l with
  |nil=>trivial
  |cons a l=>grind[U0,Option.bind_eq_some_iff]
theorem Qj {α:Type} {n:Nat} {l:List α} (h:n≤l.length):vh n l=some (l.take n):=by
 induction n generalizing l with
 |zero=>rfl
 |succ n ih=>
  cases l with
  |nil=>grind
  |cons a r=>grind[MF]
theorem qgf {α:Type} {xs l:List α} (h:xs.length≤l.length):NF l xs=some (xs++l.drop xs.length):=by
 induction xs generalizing l with
 |nil=>rfl
 |cons x xs ih=>
  cases l with
  |nil=>grind
  |cons a r=>grind[ZJ]
theorem Ud {α:Type} {xs:List α}:∀{off:Nat} {l:List α},off+xs.length≤l.length→JE l off xs=some (l.take off++xs++l.drop (off+xs.length)):=by
 intro off
 induction off with
 |zero=>intro l h;have:JE l 0 xs=NF l xs:=rfl;simp_all[qgf,omQ]
 |succ n ih=>
  intro l h;cases l with
  |nil=>grind
  |cons a r=>simp at h;simp only[U0];grind
theorem QV:∀(l:List AV) (i:Nat) (t:aH AV) (j:Nat),aH.get (Bj t i l) j=if i≤j∧j<i+l.length then l[j-i]? else aH.get t j:=by
 intro l
 induction l with
 |nil=>simp[qxi,List.length_nil,iQ,omQ]
 |cons a l ih=>
  intro i t j;simp only[qqu,ih,List.length_cons];by_cases h1:i+1≤j∧j<i+1+l.length
  ·grind
  ·rw[iQ h1,aH.bN];grind
theorem CT.dD (c:CT):c.len=c.toList.length:=by cases c<;>simp[CT.len,CT.toList]
theorem Gz {z:List AV} {t:aH AV} {i:Nat} {v:AV} (h:Jb z t i=some v):kY z t i=v:=by grind[kY]
theorem wm {a b:Nat} (h:Nat.ble a b=true):a≤b:=Nat.le_of_ble_eq_true h
theorem CT.uX {c:CT} {i:Nat} {v:AV} (h:c.fN i=some v):kN c.toList i=some v:=by
 cases c with
 |fG xs=>exact h
 |tree n z t=>
  simp only[CT.fN]at h;cases hb:Nat.ble (i+1) n
  ·grind
  ·rw[hb]at h;have:=wm hb;rw[yv];grind[CT.toList,List.getElem?_range,Gz]
theorem qxH {z:List AV} {t:aH AV}:∀{n i:Nat} {l:List AV},XC z t i n=some l→l=(List.range' i n).map (kY z t):=by
 intro n
 induction n with
 |zero=>simp[qWA,Option.some.injEq]
 |succ n ih=>grind[ZM,Option.bind_eq_some_iff,List.range'_succ,Gz]
theorem CT.nM {c:CT} {off n:Nat} {l:List AV} (h:c.lT off n=some l):vh n (gj off c.toList)=some l:=by
 cases c with
 |fG xs=>exact h
 |tree m z t=>
  simp only[CT.lT]at h;cases hn:Nat.beq n 0
  ·rw[hn]at h;simp only[cond_false]at h;cases hb:Nat.ble (off+n) m
   ·grind
   ·rw[hb]at h;have:=wm hb;rw[JL,Qj (by grind[CT.toList]),qxH h];simp only[CT.toList];rw[← List.map_drop,← List.map_take]
    congr 2
    apply List.ext_getElem?;grind
  ·have:=zF hn;subst this;trivial
theorem CT.nN {c c':CT} {off:Nat} {xs:List AV} (h:c.write off xs=some c'):JE c.toList off xs=some c'.toList:=by
 cases c with
 |fG ys=>simp only[CT.write,Option.bind_eq_some_iff]at h;obtain⟨s,hs,h⟩:=h;cases h;exact hs
 |tree n z t=>
  simp only[CT.write]at h;cases hb:Nat.ble (off+xs.length) n
  ·grind
  ·rw[hb]at h;have hle:=wm hb;cases h;rw[Ud (by grind[CT.toList])]
   congr 1
   apply List.ext_getElem?;intro i;simp only[CT.toList];by_cases hi:i<n
   ·rw[List.getElem?_map,List.getElem?_range hi,Option.map_some];by_cases h1:i<off
    ·rw[List.getElem?_append_left (by grind),List.getElem?_append_left (by grind),List.getElem?_take_of_lt h1,List.getElem?_map,List.getElem?_range hi];simp only[Option.map_some,kY,vi,QV];grind
    ·by_cases h2:i<off+xs.length
     ·rw[List.getElem?_append_left (by grind),List.getElem?_append_right (by grind)];have hlen:(List.take off ((List.range n).map (kY z t))).length=off:=by grind
      rw[hlen,iW (show i-off<xs.length by omega)];simp only[kY,vi,QV];grind
     ·rw[List.getElem?_append_right (by grind),List.getElem?_drop];have hlen:(List.take off ((List.range n).map (kY z t))++xs).length=off+xs.length:=by grind
      rw[hlen,show off+xs.length+(i-(off+xs.length))=i by omega,List.getElem?_map,List.getElem?_range hi];simp_all[Option.map_some,kY,vi,QV,iQ]
   grind
theorem CT.aZ (xs:List AV):(CT.ofList xs).toList=xs:=by
 unfold CT.ofList;cases Nat.ble xs.length 16
 ·simp only[cond_false,CT.toList];apply List.ext_getElem?;intro i;by_cases hi:i<xs.length
  ·rw[List.getElem?_map,List.getElem?_range hi,iW hi];simp_all[Option.map_some,kY,vi,QV]
  grind
 rfl
theorem qYI (z:List AV):∀(n i:Nat),i<z.length*n→(gu z n)[i]? =z[i%z.length]?:=by
 intro n
 induction n with
 |zero=>simp
 |succ n ih=>
  intro i h;rw[Nat.mul_succ]at h;simp only[gu];by_cases hi:i<z.length
  ·grind[List.getElem?_append_left,Nat.mod_eq_of_lt]
  ·rw[List.getElem?_append_right omQ,ih _ omQ,← Nat.mod_eq_sub_mod omQ]
theorem qY1 (z:List AV):∀n,(gu z n).length=z.length*n:=by
 intro n
 induction n with
 |zero=>rfl
 |succ n ih=>grind[gu,List.length_append,Nat.mul_succ]
theorem CT.o7 (z:List AV) (n:Nat):(CT.Ep z n).toList=gu z n:=by
 unfold CT.Ep;cases Nat.ble (z.length*n) 16
 ·simp only[cond_false,CT.toList];apply List.ext_getElem?;intro i;by_cases hi:i<z.length*n
  ·rw[List.getElem?_map,List.getElem?_range hi,qYI z n i hi];have hz:0<z.length:=by
    grind
   have hm:=Nat.mod_lt i hz;grind[kY,vi,aH.ic,yv]
  grind[List.getElem?_eq_none,qY1]
 rfl
theorem CT.sK (c:CT) (xs:List AV):(c.lH xs).toList=c.toList++xs:=by
 cases c with
 |fG ys=>exact CT.aZ _
 |tree n z t=>
  simp only[CT.lH,CT.toList];apply List.ext_getElem?;intro i;by_cases hi:i<n
  ·rw[List.getElem?_map,List.getElem?_range omQ,List.getElem?_append_left (by grind),List.getElem?_map,List.getElem?_range hi];simp only[Option.map_some,kY,vi,QV];grind
  ·rw[List.getElem?_append_right (by grind)];by_cases h2:i<n+xs.length
   ·rw[List.getElem?_map,List.getElem?_range h2];have hlen:((List.range n).map (kY z t)).length=n:=by simp
    rw[hlen,iW (show i-n<xs.length by omega)];simp only[Option.map_some,kY,vi,QV];grind
   grind
theorem CT.pd {c c':CT} {n:Nat} (h:c.pre n=some c'):vh n c.toList=some c'.toList:=by
 cases c with
 |fG ys=>simp only[CT.pre,Option.bind_eq_some_iff]at h;obtain⟨s,hs,h⟩:=h;cases h;exact hs
 |tree m z t=>
  simp only[CT.pre]at h;cases hb:Nat.ble n m
  ·grind
  ·rw[hb]at h;have:=wm hb;cases h;rw[Qj (by grind[CT.toList])];simp only[CT.toList];rw[← List.map_take,List.take_range,show min n m=n by omega]
theorem CT.CH {c c':CT} {off n:Nat} (h:c.Pe off n=some c'):vh n (gj off c.toList)=some c'.toList:=by
 unfold CT.Pe at h;cases h0:Nat.beq off 0
 ·rw[h0]at h;simp only[cond_false,Option.bind_eq_some_iff]at h;grind[CT.aZ,CT.nM]
 ·rw[h0]at h;have:=zF h0;subst this;exact CT.pd h
abbrev Mp:=Nat→Nat×Nat
mutual
def cv (m:Mp):AV→Value
 | .bool b=>.bool b
 | .int k n=>.int k n
 | .str s=>.string ⟨s.toArray⟩
 | .ptr b o=>.pointer (some ⟨(m b).1,o,none⟩)
 | .aW=>.pointer none
 | .slice b o l c p=>.slice (some ⟨(m b).1,o,none⟩) l (match p with |true=>(m b).2-c |false=>c)
 | .aj=>.slice none 0 0
 | .fn f a c=>.func (.func f) (aQ m a).toArray (aQ m c).toArray
 | .yield l=>.func (.yield (m l).1) #[] #[]
 | .eR=>.nilFunc
 | .iface t v=>.iface t (cv m v)
 | .dQ=>.nilIface
 | .agg l=>.agg (aQ m l).toArray
 | .cA l=>.tuple (aQ m l).toArray
 | .bM a=>.slice (some a) 0 0
 | .tail b o o' i=>.slice (some ⟨(m b).1,if(m b).2=i then o else o',none⟩) 0 ((m b).2-i)
 | .da b=>.map (some (m b).1)
def aQ (m:Mp):List AV→List Value
 |[]=>[]
 |a::r=>cv m a::aQ m r
end
mutual
def br (D:Nat→Prop):AV→Prop
 | .bool _=>True
 | .int _ _=>True
 | .str _=>True
 | .ptr b _=>D b
 | .aW=>True
 | .slice b _ _ _ _=>D b
 | .aj=>True
 | .fn _ a c=>aY D a∧aY D c
 | .yield l=>D l
 | .eR=>True
 | .iface _ v=>br D v
 | .dQ=>True
 | .agg l=>aY D l
 | .cA l=>aY D l
 | .bM _=>True
 | .tail b _ _ _=>D b
 | .da b=>D b
def aY (D:Nat→Prop):List AV→Prop
 |[]=>True
 |a::r=>br D a∧aY D r
end
theorem ye (m:Mp) (l:List AV):aQ m l=l.map (cv m):=by
 induction l with
 |nil=>rfl
 |cons a r ih=>grind[aQ]
@[simp] theorem fz (m:Mp) (l:List AV):(aQ m l).length=l.length:=by simp[ye]
theorem GJ (m:Mp) (l r:List AV):aQ m (l++r)=aQ m l++aQ m r:=by simp[ye]
theorem vo (D:Nat→Prop) (l:List AV):aY D l↔∀v∈l,br D v:=by
 induction l with
 |nil=>simp[aY]
 |cons a r ih=>grind[aY]
theorem w8 {D:Nat→Prop} {l r:List AV}:aY D (l++r)↔aY D l∧aY D r:=by grind[vo]
theorem XV {D:Nat→Prop} {l:List AV} (n:Nat) (h:aY D l):aY D (l.take n):=by grind[vo,List.mem_of_mem_take]
theorem GC {D:Nat→Prop} {l:List AV} (n:Nat) (h:aY D l):aY D (l.drop n):=by grind[vo,List.mem_of_mem_drop]
mutual
theorem QA {m m':Mp} {D:Nat→Prop} (hm:∀b,D b→m' b=m b):∀v:AV,br D v→cv m' v=cv m v
 | .bool _,_=>rfl
 | .int _ _,_=>rfl
 | .str _,_=>rfl
 | .ptr b o,h=>by simp only[br]at h;simp only[cv,hm b h]
 | .aW,_=>rfl
 | .slice b o l c p,h=>by simp only[br]at h;cases p<;>simp only[cv,hm b h]
 | .aj,_=>rfl
 | .fn f a c,h=>by simp only[br]at h;simp only[cv,kb hm a h.1,kb hm c h.2]
 | .yield l,h=>by simp only[br]at h;simp only[cv,hm l h]
 | .eR,_=>rfl
 | .iface t v,h=>by simp only[br]at h;simp only[cv,QA hm v h]
 | .dQ,_=>rfl
 | .agg l,h=>by simp only[br]at h;simp only[cv,kb hm l h]
 | .cA l,h=>by simp only[br]at h;simp only[cv,kb hm l h]
 | .bM _,_=>rfl
 | .tail b o o' i,h=>by simp only[br]at h;simp only[cv,hm b h]
 | .da b,h=>by simp only[br]at h;simp only[cv,hm b h]
theorem kb {m m':Mp} {D:Nat→Prop} (hm:∀b,D b→m' b=m b):∀l:List AV,aY D l→aQ m' l=aQ m l
 |[],_=>rfl
 |a::r,h=>by simp only[aY]at h;simp only[aQ,QA hm a h.1,kb hm r h.2]
end
mutual
theorem Qq {D D':Nat→Prop} (hd:∀b,D b→D' b):∀v:AV,br D v→br D' v
 | .bool _,_=>trivial
 | .int _ _,_=>trivial
 | .str _,_=>trivial
 | .ptr b o,h=>hd b h
 | .aW,_=>trivial
 | .slice b o l c p,h=>hd b h
 | .aj,_=>trivial
 | .fn f a c,h=>by simp only[br]at*;exact⟨wO hd a h.1,wO hd c h.2⟩
 | .yield l,h=>hd l h
 | .eR,_=>trivial
 | .iface t v,h=>by simp only[br]at*;exact Qq hd v h
 | .dQ,_=>trivial
 | .agg l,h=>by simp only[br]at*;exact wO hd l h
 | .cA l,h=>by simp only[br]at*;exact wO hd l h
 | .bM _,_=>trivial
 | .tail b _ _ _,h=>hd b h
 | .da b,h=>hd b h
theorem wO {D D':Nat→Prop} (hd:∀b,D b→D' b):∀l:List AV,aY D l→aY D' l
 |[],_=>trivial
 |a::r,h=>by simp only[aY]at*;exact⟨Qq hd a h.1,wO hd r h.2⟩
end
def kG:AX→Code
 | .normal=>.skip
 | .exit i=>.exit i
 | .goto l=>.goto l
 | .ret=>.ret
def xA (e:Int×Int×Nat):MapEntry:={ key:=.int .i64 e.1,val:=.int .i64 e.2.1,born:=e.2.2 }
def di (P:Program) (m:Mp) (x:cW) (b:Nat×Nat) (w:World):Prop :=
 match x with
 | .cells c e o=>∃(rest:List Value) (fr:Nat×Nat),w.heap[b.1]? =some (.cells (aQ m c.toList++rest).toArray e fr)∧(o=false→rest=[])∧
   (∀i,i<c.toList.length+rest.length→¬(fr.1≤i∧i<fr.2))∧(o=true→∀n,aK P e=some n→c.toList.length≤b.2*n∧b.2*n≤c.toList.length+rest.length)
 | .dead=>True
 | .iter s pos=>w.heap[b.1]? =some (.stringIter ⟨s.toArray⟩ pos)
 | .loop st dp f pos L vs d=>∃(f':FuncId) (tmps:Array Value) (ps:Array Tmp) (g:Operand) (assign body:Code) (fn:Func) (bd:Code),
   w.heap[b.1]? =some (.loop { state:=st,pending:=dp.map kG,fn:=f',tmps,params:=ps,assign,body,defers:=(m d).1 })∧
   P.funcs[f]? =some fn∧fn.body=some bd∧xM bd pos=some (.rangeFunc g ps assign body)∧fn.ntmps≤tmps.size∧
   L.length=vs.length∧∀p∈L.zip vs,tmps[p.1]? =some (cv m p.2)
 | .Er=>w.heap[b.1]? =some (.deferred (some []))
 | .sF=>∃o,w.heap[b.1]? =some o
 | .dh t=>∃C e fr,w.heap[b.1]? =some (.cells (List.toArray C) e fr)∧∀i v,aH.get t i=some v→C[i]? =some (cv m v)
 | .mp l c=>w.heap[b.1]? =some (.map (l.map xA).toArray c)
def cM (D:Nat→Prop):cW→Prop
 | .cells c _ _=>aY D c.toList
 | .loop _ _ _ _ _ vs d=>aY D vs∧D d
 | .dh t=>∀i v,aH.get t i=some v→br D v
 |_=>True
def cW.live:cW→Prop
 | .dead=>False
 | .dh _=>False
 |_=>True
def live (h:AH) (b:Nat):Prop:=∃x,h.get b=some x∧x.live
def own (m:Mp) (D:Nat→Prop) (h:AH) (c:Nat):Prop:=∃b,D b∧live h b∧(m b).1=c
structure Rel0 (P:Program) (m:Mp) (D:Nat→Prop) (h:AH) (w:World):Prop where
  bR:∀b,D b→∃x,h.get b=some x∧di P m x (m b) w∧cM D x
  inj:∀b b',D b→D b'→live h b→live h b'→(m b).1=(m b').1→b=b'
  lt:∀b,D b→b<h.nx
  dh:∀b t,D b→h.get b=some (.dh t)→¬own m D h (m b).1
def Gl (P:Program) (w:World):Prop:=∀p∈Cq,∃g,P.globalNamed p.1=some g∧Lib.TabIs P w p.1 p.2.1 p.2.2
def Br (P:Program) (m:Mp) (D:Nat→Prop) (h:AH) (w:World):Prop:=∀p∈Cq,∃g,P.globalNamed p.1=some g∧Lib.TabIs P w p.1 p.2.1 p.2.2∧¬own m D h g
structure Rel (P:Program) (m:Mp) (D:Nat→Prop) (h:AH) (w:World):Prop extends Rel0 P m D h w where
  gl:Br P m D h w
theorem Br.gl {P:Program} {m:Mp} {D:Nat→Prop} {h:AH} {w:World} (r:Br P m D h w):Gl P w:=λp hp=>let ⟨g,h1,h2,_⟩:=r p hp;⟨g,h1,h2⟩
theorem gl_none {P:Program} {w:World} (e:Cq=[]):Gl P w:=λp hp=>by grind
theorem G1 {P:Program} {w w':World} {name:String} {k:IntKind} {zs:List Int} {g:Nat} (hg:P.globalNamed name=some g) (h:Lib.TabIs P w name k zs):g<w.heap.size∧(w'.heap[g]? =w.heap[g]? →Lib.TabIs P w' name k zs):=by
 grind[Lib.TabIs,World.var?,Nat.lt_or_ge,Array.getElem?_eq_none]
structure Ext (m:Mp) (D:Nat→Prop) (h:AH) (w:World) (m':Mp) (D':Nat→Prop) (h':AH) (w':World):Prop where
  sL:∀b,D b→D' b
  map:∀b,D b→m' b=m b
  size:w.heap.size≤w'.heap.size
  keep:∀c,c<w.heap.size→¬own m D h c→w'.heap[c]? =w.heap[c]? ∧¬own m' D' h' c
  nx:h.nx≤h'.nx
  un:∀b,b<h.nx→¬D b→h'.get b=h.get b∧¬D' b
  os:w'.os=w.os
  tape:w'.tape=w.tape
  output:w'.output=w.output
  dm:∀b,D' b↔D b∨(h.nx≤b∧b<h'.nx)
  ni:∀b t,D' b→h'.get b=some (.dh t)→D b∧h.get b=some (.dh t)
theorem Br.ext {P:Program} {m m':Mp} {D D':Nat→Prop} {h h':AH} {w w':World} (X:Ext m D h w m' D' h' w') (r:Br P m D h w):Br P m' D' h' w':=λp hp=>by
 obtain⟨g,h1,h2,h3⟩:=r p hp;obtain⟨k1,k2⟩:=G1 (w':=w') h1 h2;obtain⟨e1,e2⟩:=X.keep g k1 h3;grind
theorem Ext.rel {P:Program} {m m':Mp} {D D':Nat→Prop} {h h':AH} {w w':World} (r:Rel P m D h w) (x:Ext m D h w m' D' h' w'∧Rel0 P m' D' h' w'):Ext m D h w m' D' h' w'∧Rel P m' D' h' w':=⟨x.1,{ toRel0:=x.2,gl:=r.gl.ext x.1 }⟩
theorem Ext.refl (m:Mp) (D:Nat→Prop) (h:AH) (w:World):Ext m D h w m D h w :=
 ⟨λ_ x=>x,λ_ _=>rfl,Nat.le_refl _,λ_ _ n=>⟨rfl,n⟩,Nat.le_refl _,λ_ _ n=>⟨rfl,n⟩,rfl,rfl,rfl,λ_=>⟨.inl,λx=>x.elim id λy=>by omega⟩,λ_ _ x y=>⟨x,y⟩⟩
theorem Ext.trans {m m' m'':Mp} {D D' D'':Nat→Prop} {h h' oM:AH} {w w' w'':World} (a:Ext m D h w m' D' h' w') (b:Ext m' D' h' w' m'' D'' oM w''):Ext m D h w m'' D'' oM w'' where
 sL:=λx hx=>b.sL x (a.sL x hx)
 map:=λx hx=>(b.map x (a.sL x hx)).trans (a.map x hx)
 size:=Nat.le_trans a.size b.size
 keep:=λc hc hn=>by
  obtain⟨e1,n1⟩:=a.keep c hc hn;obtain⟨e2,n2⟩:=b.keep c (Nat.lt_of_lt_of_le hc a.size) n1;grind
 nx:=Nat.le_trans a.nx b.nx
 un:=λx hx hn=>by
  obtain⟨e1,n1⟩:=a.un x hx hn;obtain⟨e2,n2⟩:=b.un x (Nat.lt_of_lt_of_le hx a.nx) n1;grind
 os:=b.os.trans a.os
 tape:=b.tape.trans a.tape
 output:=b.output.trans a.output
 dm:=λx=>by
  have h1:=a.nx;have h2:=b.nx;rw[b.dm,a.dm];grind
 ni:=λx t hx hg=>by
  obtain⟨h1,h2⟩:=b.ni x t hx hg;exact a.ni x t h1 h2
theorem Ext.cv {m m':Mp} {D D':Nat→Prop} {h h':AH} {w w':World} (e:Ext m D h w m' D' h' w') {v:AV} (hv:br D v):Ae.cv m' v=Ae.cv m v:=QA e.map v hv
theorem Ext.aQ {m m':Mp} {D D':Nat→Prop} {h h':AH} {w w':World} (e:Ext m D h w m' D' h' w') {l:List AV} (hv:aY D l):Ae.aQ m' l=Ae.aQ m l:=kb e.map l hv
theorem Ext.br {m m':Mp} {D D':Nat→Prop} {h h':AH} {w w':World} (e:Ext m D h w m' D' h' w') {v:AV} (hv:Ae.br D v):Ae.br D' v:=Qq e.sL v hv
theorem Ext.aY {m m':Mp} {D D':Nat→Prop} {h h':AH} {w w':World} (e:Ext m D h w m' D' h' w') {l:List AV} (hv:Ae.aY D l):Ae.aY D' l:=wO e.sL l hv
theorem di.congr {P:Program} {m m':Mp} {D:Nat→Prop} (hm:∀b,D b→m' b=m b) {x:cW} {b:Nat×Nat} {w w':World} (hx:cM D x) (hw:w'.heap[b.1]? =w.heap[b.1]?) (h:di P m x b w):di P m' x b w':=by
 cases x with
 |cells c e o=>grind[cM,di,kb]
 |dead=>trivial
 |iter s pos=>grind[di]
 |loop st dp f pos L vs d=>
  simp only[cM]at hx;simp only[di]at*;obtain⟨f',tmps,ps,g,assign,body,fn,bd,h1,h2,h3,h4,h5,h6,h7⟩:=h;refine⟨f',tmps,ps,g,assign,body,fn,bd,?_,h2,h3,h4,h5,h6,?_⟩
  ·grind
  ·intro p hp;rw[QA hm p.2 ((vo D vs).1 hx.1 _ (List.of_mem_zip hp).2)];grind
 |Er=>grind[di]
 |sF=>grind[di]
 |dh t=>grind[cM,di,QA]
 |mp l c=>grind[di]
theorem cM.mono {D D':Nat→Prop} (hd:∀b,D b→D' b) {x:cW} (h:cM D x):cM D' x:=by
 cases x<;>simp only[cM]at* <;>first |exact wO hd _ h |exact⟨wO hd _ h.1,hd _ h.2⟩ |grind[Qq] |trivial
theorem di.inside {P:Program} {m:Mp} {x:cW} {b:Nat×Nat} {w:World} (hl:x.live) (h:di P m x b w):b.1<w.heap.size:=by
 have key:∀o,w.heap[b.1]? =some o→b.1<w.heap.size:=λo e=>(Array.getElem?_eq_some_iff.1 e).1;cases x with
 |cells c e o=>obtain⟨r,fr,h,_⟩:=h;grind
 |dead=>trivial
 |iter s pos=>exact key _ h
 |loop st dp f pos L vs d=>obtain⟨f',tmps,ps,g,assign,body,fn,bd,h1,_⟩:=h;grind
 |Er=>exact key _ h
 |sF=>obtain⟨o,h⟩:=h;grind
 |dh t=>trivial
 |mp l c=>exact key _ h
theorem di.lI {P:Program} {m:Mp} {t:aH AV} {b:Nat×Nat} {w:World} (h:di P m (.dh t) b w):b.1<w.heap.size:=by obtain⟨C,e,fr,h,_⟩:=h;grind
theorem Rel.inside {P:Program} {m:Mp} {D:Nat→Prop} {h:AH} {w:World} (r:Rel P m D h w) {b:Nat} (hb:D b) (hl:live h b):(m b).1<w.heap.size:=by obtain⟨x,hx,hr,_⟩:=r.bR b hb;obtain⟨y,hy,eF⟩:=hl;rw[hx]at hy;cases hy;exact hr.inside eF
theorem Rel.new {P:Program} {m:Mp} {D:Nat→Prop} {h:AH} {w w0:World} (r:Rel P m D h w) (x:cW) (o:Obj) (room:Nat)
  (ly:w0.heap=w.heap.push o) (CJ:w0.os=w.os) (lW:w0.tape=w.tape) (mY:w0.output=w.output)
  (hx:cM D x) (nO:di P m x (w.heap.size,room) w0) (lJ:∀t,x≠.dh t:=by intro t hh;cases hh) :
  let m':Mp:=λb=>if b=h.nx then(w.heap.size,room)else m b
  let D':Nat→Prop:=λb=>b=h.nx∨D b
  Ext m D h w m' D' (h.new x) w0∧Rel P m' D' (h.new x) w0:=by
 intro m' D';refine Ext.rel r ?_;have hm:∀b,D b→m' b=m b:=λb hb=>by
  have:=r.lt b hb;grind
 have hold:∀c,c<w.heap.size→w0.heap[c]? =w.heap[c]?:=λc hc=>by
  grind
 have cR:∀b,D b→(h.new x).get b=h.get b:=λb hb=>AH.cq h x (by have:=r.lt b hb;omega);have bX:∀b,D b→(live (h.new x) b↔live h b):=λb hb=>by grind[live]
 refine⟨⟨λb hb=>.inr hb,hm,?_,?_,Nat.le_succ _,?_,CJ,lW,mY,λb=>?_,?_⟩,⟨?_,?_,?_,?_⟩⟩
 ·grind
 ·intro c hc hn;refine⟨hold c hc,?_⟩;rintro⟨b,hb,hl,he⟩;rcases hb with rfl |hb
  ·grind
  ·exact hn ⟨b,hb,(bX b hb).1 hl,by grind⟩
 ·intro b hb hn;refine⟨AH.cq h x omQ,?_⟩;grind
 ·show b=h.nx∨D b↔D b∨(h.nx≤b∧b<h.nx+1);grind
 ·intro b t hb hg;rcases hb with rfl |hb
  all_goals simp_all
 ·intro b hb;rcases hb with rfl |hb
  ·refine⟨x,AH.bD h x,?_,hx.mono λb hb=>.inr hb⟩;have e:m' h.nx=(w.heap.size,room):=by grind
   rw[e];exact nO.congr hm hx rfl
  ·obtain⟨y,hy,dG,iF⟩:=r.bR b hb;refine⟨y,(cR b hb).trans hy,?_,iF.mono λb hb=>.inr hb⟩;rw[hm b hb];cases y with
   |dead=>trivial
   |dh t=>exact dG.congr hm iF (hold _ dG.lI)
   |_=>exact dG.congr hm iF (hold _ (di.inside (by trivial) dG))
 ·intro b b' hb bL hl fO he;rcases hb with rfl |hb<;>rcases bL with rfl |bL
  ·rfl
  ·have h1:=r.inside bL ((bX b' bL).1 fO);grind
  ·have h1:=r.inside hb ((bX b hb).1 hl);grind
  ·rw[hm b hb,hm b' bL]at he;exact r.inj b b' hb bL ((bX b hb).1 hl) ((bX b' bL).1 fO) he
 ·intro b hb;rcases hb with rfl |hb
  ·simp
  ·have:=r.lt b hb;simp;omega
 ·rintro b t hb hg ⟨b',bL,fO,he⟩;have bW:b≠b':=by
   rintro rfl;obtain⟨y,hy,eF⟩:=fO;rw[hg]at hy;cases hy;exact eF
  rcases hb with rfl |hb
  ·simp_all
  ·rw[cR b hb]at hg;rcases bL with rfl |bL
   ·obtain⟨y,hy,dG,_⟩:=r.bR b hb;rw[hg]at hy;cases hy;have:=dG.lI;grind
   ·refine r.dh b t hb hg ⟨b',bL,(bX b' bL).1 fO,?_⟩;grind
theorem Rel.put {P:Program} {m:Mp} {D:Nat→Prop} {h:AH} {w w0:World} (r:Rel P m D h w) (b:Nat) (x:cW) (hb:D b) (rM:live h b)
  (FJ:w0.heap.size=w.heap.size) (fP:∀c,c≠(m b).1→w0.heap[c]? =w.heap[c]?) (CJ:w0.os=w.os) (lW:w0.tape=w.tape) (mY:w0.output=w.output)
  (hx:cM D x) (nO:di P m x (m b) w0) (lJ:∀t,x≠.dh t:=by intro t hh;cases hh) :
  Ext m D h w m D (h.put b x) w0∧Rel P m D (h.put b x) w0:=by
 refine Ext.rel r ?_;have cR:∀b',b'≠b→(h.put b x).get b'=h.get b':=λb' hn=>AH.cn h x (λe=>hn e.symm);have bX:∀b',live (h.put b x) b'→live h b':=λb' hl=>by
  grind[live]
 refine⟨⟨λ_ h=>h,λ_ _=>rfl,by omega,?_,Nat.le_refl _,?_,CJ,lW,mY,λb=>⟨.inl,λhb=>hb.elim id λhb=>by simp at*;omega⟩,?_⟩,⟨?_,?_,?_,?_⟩⟩
 ·intro c hc hn;refine⟨fP c λe=>hn ⟨b,hb,rM,e.symm⟩,?_⟩;rintro⟨b',bL,fO,he⟩;exact hn ⟨b',bL,bX b' fO,he⟩
 ·grind
 ·intro b' t bL hg;by_cases e:b'=b
  all_goals simp_all
 ·intro b' bL;by_cases e:b'=b
  ·simp_all
  ·obtain⟨y,hy,dG,iF⟩:=r.bR b' bL;refine⟨y,(cR b' e).trans hy,?_,iF⟩;cases y with
   |dead=>trivial
   |dh t=>exact dG.congr (λ_ _=>rfl) iF (fP _ λee=>r.dh b' t bL hy ⟨b,hb,rM,ee.symm⟩)
   |_=>refine dG.congr (λ_ _=>rfl) iF (fP _ λee=>e ?_);exact r.inj b' b bL hb ⟨_,hy,trivial⟩ rM ee
 ·intro b1 b2 h1 h2 l1 l2 he;exact r.inj b1 b2 h1 h2 (bX b1 l1) (bX b2 l2) he
 ·intro b' bL;exact r.lt b' bL
 ·rintro b' t bL hg ⟨b2,oN,iC,he⟩;by_cases e:b'=b
  ·simp_all
  ·rw[cR b' e]at hg;exact r.dh b' t bL hg ⟨b2,oN,bX b2 iC,he⟩
end Go.Ae
namespace Go.Ae
open Go
def Ev:Value→Bool
 | .agg _=>false
 | .tuple _=>false
 |_=>true
theorem UF {α β:Type} (P:Program) (e:Sem α) (f:α→Sem β) (w:World) :
  (Sem.bind e f).run P w=match e.run P w with | .ok a w'=>(f a).run P w' | .halt h w'=>.halt h w':=by
 induction e generalizing w with
 |pure a=>rfl
 |load m a k ih=>grind[Sem.bind,Sem.run]
 |store m a v k ih=>
  cases v<;>simp only[Sem.bind,Sem.run]<;>(repeat' split)<;>first |exact ih _ |rfl |simp_all
 |new o k ih=>exact ih _ _
 |shape r k ih=>exact ih _ _
 |freeze a n k ih=>exact ih _
 |frozen a k ih=>exact ih _ _
 |getObj r k ih=>grind[Sem.bind,Sem.run]
 |setObj r o k ih=>grind[Sem.bind,Sem.run]
 |choose q k ih=>grind[Sem.bind,Sem.run]
 |sys c k ih=>exact ih _ _
 |program k ih=>exact ih _ _
 |mark m k ih=>exact ih _
 |halt h=>rfl
theorem qV {α β:Type} {P:Program} {e:Sem α} {f:α→Sem β} {w w':World} {a:α} (h:e.run P w=.ok a w'):(e>>=f).run P w=(f a).run P w':=by simp_all
theorem wJ {α:Type} (P:Program) (a:α) (w:World):(pure a:Sem α).run P w=.ok a w:=rfl
theorem qG3 {w:World} {b:Nat} {C:List Value} {e:TypeId} {fr:Nat×Nat} (h:w.heap[b]? =some (.cells C.toArray e fr)) (o:Nat):w.cell? ⟨b,o,none⟩=C[o]?:=by simp[World.cell?,h]
theorem kc (b o n:Nat):Addr.add ⟨b,o,none⟩ n=⟨b,o+n,none⟩:=by
 simp[Addr.add]
theorem Mf {P:Program} {w:World} {b:Nat} {C:List Value} {e:TypeId} {fr:Nat×Nat} (h:w.heap[b]? =some (.cells C.toArray e fr)) {o:Nat} {v:Value} (hv:C[o]? =some v) :
  (load ⟨b,o,none⟩).run P w=.ok v w:=by
 grind[load,Sem.run,qG3]
theorem Kd {P:Program} {w:World} {b:Nat} {C:List Value} {e:TypeId} {fr:Nat×Nat} (h:w.heap[b]? =some (.cells C.toArray e fr)) (o:Nat) :
  ∀(n i:Nat) (acc:Array Value),o+i+n≤C.length→(loadCellsFrom ⟨b,o,none⟩ i n acc).run P w=.ok (acc++((C.drop (o+i)).take n).toArray) w:=by
 intro n
 induction n with
 |zero=>simp[loadCellsFrom]
 |succ n ih=>
  intro i acc hl;unfold loadCellsFrom;have hg:C[o+i]? =some (C[o+i]'omQ):=iW omQ;rw[kc,qV (Mf h hg),ih _ _ omQ]
  congr 1
  grind
theorem GR {P:Program} {w:World} {b:Nat} {C:List Value} {e:TypeId} {fr:Nat×Nat} (h:w.heap[b]? =some (.cells C.toArray e fr)) (o n:Nat) (hl:o+n≤C.length) :
  (loadCells ⟨b,o,none⟩ n).run P w=.ok ((C.drop o).take n).toArray w:=by
 unfold loadCells;rw[Kd h o n 0 #[] (by grind)];simp
theorem qY3 {P:Program} {w:World} {b:Nat} {C:List Value} {e:TypeId} {fr:Nat×Nat} (h:w.heap[b]? =some (.cells C.toArray e fr)) {o:Nat} (ho:o<C.length) {v:Value} (hv:Ev v=true)
  (hf:¬(fr.1≤o∧o<fr.2)):(store ⟨b,o,none⟩ v).run P w=.ok () (w.setCell ⟨b,o,none⟩ v):=by
 have hc:w.cell? ⟨b,o,none⟩=some (C[o]'ho):=by rw[qG3 h,iW ho]
 have hz:w.frozen? ⟨b,o,none⟩=false:=by grind[World.frozen?,Bool.and_eq_false_iff,decide_eq_false_iff_not]
 cases v<;>simp[Ev]at hv<;>simp[store,Sem.run,hc,hz]
theorem Zl {w:World} {b:Nat} {C:List Value} {e:TypeId} {fr:Nat×Nat} (h:w.heap[b]? =some (.cells C.toArray e fr)) (o:Nat) (v:Value) :
  (w.setCell ⟨b,o,none⟩ v).heap[b]? =some (.cells (C.set o v).toArray e fr):=by
 simp[World.setCell,Array.getElem?_modify,h]
theorem Ni {w:World} {b c:Nat} (o:Nat) (v:Value) (hc:c≠b):(w.setCell ⟨b,o,none⟩ v).heap[c]? =w.heap[c]?:=by simp[World.setCell,Array.getElem?_modify];omega
@[simp] theorem mZ (w:World) (a:Addr) (v:Value):(w.setCell a v).heap.size=w.heap.size:=by simp
structure jZa (w w':World) (b:Nat) (o:Obj):Prop where
  size:w'.heap.size=w.heap.size
  at_:w'.heap[b]? =some o
  other:∀c,c≠b→w'.heap[c]? =w.heap[c]?
  os:w'.os=w.os
  tape:w'.tape=w.tape
  output:w'.output=w.output
theorem YE {P:Program} {b:Nat} {e:TypeId} {fr:Nat×Nat} (o:Nat):∀(vs:List Value) (i:Nat) (w:World) (C:List Value),w.heap[b]? =some (.cells C.toArray e fr)→
  o+i+vs.length≤C.length→(∀v∈vs,Ev v=true)→(∀k,k<C.length→¬(fr.1≤k∧k<fr.2))→
  ∃w',(storeCells ⟨b,o,none⟩ vs i).run P w=.ok () w'∧jZa w w' b (.cells (C.take (o+i)++vs++C.drop (o+i+vs.length)).toArray e fr):=by
 intro vs
 induction vs with
 |nil=>intro i w C h hl _ _;exact⟨w,by rfl,⟨rfl,by simp[h],λ_ _=>rfl,rfl,rfl,rfl⟩⟩
 |cons v vs ih=>
  intro i w C h hl ho hf;simp only[List.length_cons]at hl;have h1:=qY3 (P:=P) h (o:=o+i) omQ (ho v (iK ..)) (hf _ omQ);obtain⟨w',hr,ht⟩:=ih (i+1) (w.setCell ⟨b,o+i,none⟩ v) (C.set (o+i) v) (Zl h _ _) (by grind) (λx hx=>ho x (iX _ hx)) (by grind);refine⟨w',?_,?_⟩
  ·grind[storeCells,kc,qV]
  ·refine⟨by rw[ht.size,mZ],?_,λc hc=>(ht.other c hc).trans (Ni _ _ hc),ht.os,ht.tape,ht.output⟩;rw[ht.at_]
   congr 3
   have e1:(C.set (o+i) v).take (o+(i+1))=C.take (o+i)++[v]:=by grind[List.take_succ_eq_append_getElem,List.take_set_of_le]
   have e2:(C.set (o+i) v).drop (o+(i+1)+vs.length)=C.drop (o+i+(v::vs).length):=by
    rw[List.drop_set_of_lt omQ]
    grind
   grind
end Go.Ae
namespace Go.Ae
open Go
variable {P:Program} {m:Mp} {D:Nat→Prop} {h:AH} {w:World}
theorem qgh (m:Mp) (v:AV) (hv:v.one=true):Ev (cv m v)=true:=by
 cases v<;>first |rfl |trivial
theorem qJb {l:List AV} (m:Mp) (hl:jW l=true):∀v∈aQ m l,Ev v=true:=by intro v hv;rw[ye,List.mem_map]at hv;obtain⟨a,ha,rfl⟩:=hv;grind[jW,List.all_eq_true,qgh]
theorem w6 (m:Mp) (v:AV):(cv m v).cells=(aQ m v.cells).toArray:=by
 cases v<;>simp[cv,AV.cells,Value.cells,aQ]
theorem k6 {v:AV} (hv:br D v):aY D v.cells:=by
 cases v<;>simp only[AV.cells,aY,br]at* <;>first |exact⟨hv,trivial⟩ |grind |trivial |exact⟨trivial,trivial⟩
theorem Rel.cells (r:Rel P m D h w) {b:Nat} (hb:D b) {c:CT} {e:TypeId} {o:Bool} (hg:h.get b=some (.cells c e o)) :
  ∃(rest:List Value) (fr:Nat×Nat),w.heap[(m b).1]? =some (.cells (aQ m c.toList++rest).toArray e fr)∧(o=false→rest=[])∧
   (∀i,i<c.toList.length+rest.length→¬(fr.1≤i∧i<fr.2))∧(o=true→∀n,aK P e=some n→c.toList.length≤(m b).2*n∧(m b).2*n≤c.toList.length+rest.length)∧aY D c.toList:=by
 obtain⟨x,hx,hr,hd⟩:=r.bR b hb;rw[hg]at hx;cases hx;obtain⟨rest,fr,h1,h2,h3,h4⟩:=hr;exact⟨rest,fr,h1,h2,h3,h4,hd⟩
theorem Vq {b:Nat} {x:cW} (hg:h.get b=some x) (hl:x.live):live h b:=⟨x,hg,hl⟩
theorem Rel.sM (r:Rel P m D h w) {b off n:Nat} {c:CT} {t:TypeId} {o:Bool} {l:List AV} (hb:D b) (hg:h.get b=some (.cells c t o)) (e:vh n (gj off c.toList)=some l) :
  (loadCells ⟨(m b).1,off,none⟩ n).run P w=.ok (aQ m l).toArray w∧aY D l∧l.length=n:=by
 obtain⟨rest,fr,h1,_,_,_,hd⟩:=r.cells hb hg;rw[JL]at e;obtain⟨e1,e2⟩:=k8 e;refine⟨?_,?_,qYR e⟩
 ·by_cases hz:n=0
  ·simp_all[aQ,loadCells,loadCellsFrom]
  ·simp only[List.length_drop]at e2;rw[GR h1 off n (by simp;omega)];grind[ye,List.map_take,List.map_drop]
 grind[XV,GC]
theorem qq1 {t:aH AV}:∀{n i:Nat} {l:List AV},XC [] t i n=some l→l.length=n∧∀k,k<n→∃v,aH.get t (i+k)=some v∧l[k]? =some v:=by
 intro n
 induction n with
 |zero=>intro i l e;rw[qWA]at e;grind
 |succ n ih=>
  intro i l e;rw[ZM]at e;simp only[Option.bind_eq_some_iff]at e;obtain⟨v,hv,s,hs,e⟩:=e;cases e;obtain⟨h1,h2⟩:=ih hs;have Sy:aH.get t i=some v:=by
   grind[vi,MA]
  grind
theorem Rel.FM (r:Rel P m D h w) {b:Nat} {t:aH AV} (hb:D b) (hg:h.get b=some (.dh t)) :
  ∃C e fr,w.heap[(m b).1]? =some (.cells (List.toArray C) e fr)∧∀i v,aH.get t i=some v→C[i]? =some (cv m v)∧br D v:=by
 obtain⟨x,hx,hr,hd⟩:=r.bR b hb;rw[hg]at hx;cases hx;obtain⟨C,e,fr,h1,h2⟩:=hr;exact⟨C,e,fr,h1,λi v hv=>⟨h2 i v hv,hd i v hv⟩⟩
theorem Rel.FN (r:Rel P m D h w) {b off n:Nat} {t:aH AV} {l:List AV} (hb:D b) (hg:h.get b=some (.dh t)) (e:XC [] t off n=some l) :
  (loadCells ⟨(m b).1,off,none⟩ n).run P w=.ok (aQ m l).toArray w∧aY D l∧l.length=n:=by
 obtain⟨C,el,fr,h1,h2⟩:=r.FM hb hg;obtain⟨e1,e2⟩:=qq1 e;have key:∀k,k<n→∃v,l[k]? =some v∧C[off+k]? =some (cv m v)∧br D v:=λk hk=>by
  grind
 refine⟨?_,?_,e1⟩
 ·by_cases hz:n=0
  ·simp_all[iA,aQ,loadCells,loadCellsFrom]
  ·have hlen:off+n≤C.length:=by
    obtain⟨v,_,hc,_⟩:=key (n-1) omQ;grind
   rw[GR h1 off n hlen]
   congr 2
   apply List.ext_getElem?;grind[ye,List.getElem?_take_of_lt,List.getElem?_eq_none]
 ·rw[vo];intro v hv;obtain⟨k,hk,rfl⟩:=List.mem_iff_getElem.1 hv;grind
theorem Rel.sO (r:Rel P m D h w) {b off:Nat} {t:aH AV} {v:AV} (hb:D b) (hg:h.get b=some (.dh t)) (e:aH.get t off=some v) :
  (load ⟨(m b).1,off,none⟩).run P w=.ok (cv m v) w∧br D v:=by
 obtain⟨C,el,fr,h1,h2⟩:=r.FM hb hg;grind[Mf]
theorem Rel.read (r:Rel P m D h w) {b off n:Nat} {l:List AV} (hb:D b) (e:yo h b off n=some l) :
  (loadCells ⟨(m b).1,off,none⟩ n).run P w=.ok (aQ m l).toArray w∧aY D l∧l.length=n:=by
 unfold yo at e
 split at e
 ·rename_i c t o hg;exact r.sM hb hg (CT.nM e)
 ·rename_i t hg;exact r.FN hb hg e
 grind
theorem Rel.Bs (r:Rel P m D h w) {b off:Nat} {c:CT} {t:TypeId} {o:Bool} {v:AV} (hb:D b) (hg:h.get b=some (.cells c t o)) (e:c.fN off=some v) :
  (load ⟨(m b).1,off,none⟩).run P w=.ok (cv m v) w∧br D v:=by
 obtain⟨rest,fr,h1,_,_,_,hd⟩:=r.cells hb hg
 replace e:=CT.uX e
 rw[yv]at e;have ap:off<c.toList.length:=(List.getElem?_eq_some_iff.1 e).1;grind[Mf,vo,List.mem_of_getElem?,List.getElem?_append_left,ye]
theorem Rel.write (r:Rel P m D h w) {b off:Nat} {xs:List AV} {h':AH} (hb:D b) (hxs:aY D xs) (e:wK h b off xs=some h') :
  ∃w',(storeCells ⟨(m b).1,off,none⟩ (aQ m xs)).run P w=.ok () w'∧Ext m D h w m D h' w'∧Rel P m D h' w':=by
 unfold wK at e
 split at e
 ·rename_i c t o hg;cases nP:jW xs
  ·grind
  ·rw[nP]at e;simp only[cond_true,Option.bind_eq_some_iff]at e;obtain⟨c',bA,he⟩:=e;cases he;obtain⟨e1,e2⟩:=Up (CT.nN bA);obtain⟨rest,fr,h1,h2,h3,h4,hd⟩:=r.cells hb hg;obtain⟨w',hr,ht⟩:=YE (P:=P) off (aQ m xs) 0 w _ h1 (by simp;omega) (qJb m nP) (by simp_all);refine⟨w',hr,?_⟩;have hlen:c'.toList.length=c.toList.length:=by grind
   refine r.put b _ hb (Vq hg trivial) ht.size ht.other ht.os ht.tape ht.output ?_ ?_
   ·grind[cM,w8,XV,GC]
   ·refine⟨rest,fr,?_,h2,by grind,by grind⟩;rw[ht.at_,e1]
    congr 3
    simp only[ye,List.length_map,Nat.add_zero,List.map_append,List.map_take,List.map_drop];grind
 grind
theorem Zv {v:Value} {a:AV} (e:UL v=some a):cv m a=v∧br D a:=by
 unfold UL at e
 split at e<;>first |(cases e;exact⟨rfl,trivial⟩) |grind
theorem Vi {l:List Value} {s:List AV} (e:kX UL l=some s):aQ m s=l∧aY D s:=by
 induction l generalizing s with
 |nil=>simp[kX]at e;subst e;trivial
 |cons a r ih=>simp only[kX,Option.bind_eq_some_iff]at e;obtain⟨b,hb,t,ht,hs⟩:=e;cases hs;obtain⟨h1,h2⟩:=Zv (m:=m) (D:=D) hb;obtain⟨h3,h4⟩:=ih ht;exact⟨by grind[aQ],h2,h4⟩
theorem XQ {v:Value} {a:AV} (e:Fv v=some a):cv m a=v∧br D a:=by
 unfold Fv at e
 split at e
 ·rename_i cs;simp only[Option.map_eq_some_iff]at e;obtain⟨s,hs,rfl⟩:=e;obtain⟨h1,h2⟩:=Vi (m:=m) (D:=D) hs;exact⟨by simp[cv,h1],h2⟩
 ·rename_i cs;simp only[Option.map_eq_some_iff]at e;obtain⟨s,hs,rfl⟩:=e;obtain⟨h1,h2⟩:=Vi (m:=m) (D:=D) hs;exact⟨by simp[cv,h1],h2⟩
 ·rename_i f first cap
  cases hc:(first.isEmpty&&cap.isEmpty)
  ·grind
  ·rw[hc]at e;cases e;simp only[Bool.and_eq_true,Array.isEmpty_iff]at hc;obtain⟨rfl,rfl⟩:=hc;trivial
 grind[Zv]
theorem run_underlying {t:TypeId} {d:TypeDesc} (e:P.underlying t=some d):(underlying t).run P w=.ok d w:=by unfold underlying;simp_all
theorem run_typeInfo {t:TypeId} {i:TypeInfo} (e:P.info? t=some i):(typeInfo t).run P w=.ok i w:=by unfold typeInfo;simp_all
theorem run_sizeOf {t:TypeId} {n:Nat} (e:aK P t=some n):(sizeOf t).run P w=.ok n w:=by simp only[aK,Option.map_eq_some_iff]at e;obtain⟨i,hi,rfl⟩:=e;simp_all[sizeOf,run_typeInfo]
theorem wP {t:TypeId} {b:Bool} (e:lr P t=some b):(isAgg t).run P w=.ok b w:=by simp only[lr,Option.map_eq_some_iff]at e;obtain⟨d,hd,hb⟩:=e;unfold isAgg;rw[qV (run_underlying hd)];split<;>simp_all
theorem yI {t:TypeId} {z:AV} (e:ff P t=some z):(zeroValue t).run P w=.ok (cv m z) w∧br D z:=by simp only[ff,Option.bind_eq_some_iff]at e;obtain⟨i,hi,v,hv,hz⟩:=e;obtain⟨h1,h2⟩:=XQ (m:=m) (D:=D) hz;simp_all[zeroValue,run_typeInfo]
end Go.Ae
namespace Go.Ae
open Go
variable {P:Program} {m:Mp} {D:Nat→Prop} {h:AH} {w:World}
def dI (P:Program) (m:Mp) (D:Nat→Prop) (h:AH) (w:World) (fX:Result Next) (v:AV) (h':AH):Prop :=
 ∃m' D' w',(fX=.ok (.value (cv m' v)) w'∨(fX=.ok .skip w'∧v=.undef))∧Ext m D h w m' D' h' w'∧Rel P m' D' h' w'∧br D' v
theorem qD {α:Type} {x:Option α} {k:α→R} {r:AV×AH}:ob x k=some r↔∃a,x=some a∧k a=some r:=by
 grind
theorem zM {b:Bool} {x:R} {r:AV×AH}:cK b x none=some r↔b=true∧x=some r:=by
 grind
theorem jL {α:Type} {b:Bool} {x:Option α} {r:α}:(bif b then x else none)=some r↔b=true∧x=some r:=by
 grind
theorem qU {v v':AV} {h h':AH}:(some (v,h):R)=some (v',h')↔v=v'∧h=h':=by simp
theorem zw (r:Rel P m D h w) {s:Sem Value} {v:AV} (hs:s.run P w=.ok (cv m v) w) (hv:br D v) :
  dI P m D h w ((do pure (Next.value (← s)):Sem Next).run P w) v h :=
 ⟨m,D,w,.inl (by simp_all),Ext.refl ..,r,hv⟩
theorem Yg (r:Rel P m D h w) {s:Sem Next} {v:AV} (hs:s.run P w=.ok (.value (cv m v)) w) (hv:br D v):dI P m D h w (s.run P w) v h :=
 ⟨m,D,w,.inl hs,Ext.refl ..,r,hv⟩
def dR (m:Mp) (D:Nat→Prop) (ρ:Operand→Value) (r:Operand→Option AV):Prop:=∀x v,r x=some v→ρ x=cv m v∧br D v
theorem zN {a b:Nat} (h:Nat.ble a b=true):a≤b:=Nat.le_of_ble_eq_true h
theorem KG {a b:Nat} (h:Nat.ble a b=false):b<a:=by
 rcases Nat.lt_or_ge b a with h' |h'
 all_goals simp_all[iY]
theorem Mn (a b:Int):ny a b=(a==b):=by
 cases a with
 |ofNat a=>cases b with
  |ofNat b=>
   simp only[ny];by_cases e:a=b
   ·simp_all
   grind[yY,beq_eq_false_iff_ne,Int.ofNat.inj]
  |negSucc b=>rfl
 |negSucc a=>cases b with
  |ofNat b=>rfl
  |negSucc b=>
   simp only[ny];by_cases e:a=b
   all_goals simp_all[yY,beq_eq_false_iff_ne]
theorem MK (a b:Int):pP a b=decide (a<b):=by
 cases a with
 |ofNat a=>cases b with
  |ofNat b=>
   simp only[pP];cases e:Nat.ble (a+1) b
   ·have:=KG e;grind
   simp at*;omega
  |negSucc b=>rfl
 |negSucc a=>cases b with
  |ofNat b=>simp[pP];omega
  |negSucc b=>
   simp only[pP];cases e:Nat.ble (b+1) a
   ·have:=KG e;grind
   simp at*;omega
theorem UK (n:Int):IntKind.wrap .i64 n=if 9223372036854775808≤n%18446744073709551616 then n%18446744073709551616-18446744073709551616 else n%18446744073709551616:=by show(if(true&&decide (n%18446744073709551616≥9223372036854775808))=true then _ else _)=_;simp only[Bool.true_and,decide_eq_true_eq,ge_iff_le];rfl
theorem Mt (n:Int):IntKind.wrap .u64 n=n%18446744073709551616:=rfl
theorem qWD (n:Int):IntKind.wrap .u8 n=n%256:=rfl
theorem ZF (a:Nat) (h:a≤9223372036854775807):IntKind.wrap .i64 (Int.negSucc a)=Int.negSucc a:=by simp[Int.negSucc_eq,UK];omega
theorem Jv (k:IntKind) (n:Int):zu k n=k.wrap n:=by
 cases k<;>cases n<;>simp only[zu]
 ·rename_i a;cases hb:Nat.ble a 9223372036854775807
  ·rw[cond_false]
  ·have:=zN hb;rw[UK];show(a:Int)=if 9223372036854775808≤(a:Int)%_ then _ else(a:Int)%_
   split<;>omega
 ·rename_i a;cases hb:Nat.ble a 9223372036854775807
  ·rw[cond_false]
  ·have:=zN hb;rw[cond_true];exact(ZF a this).symm
 ·rename_i a;rw[qWD];show((a%256:Nat):Int)=(a:Int)%_;omega
 ·rename_i a;rw[Mt];show((a%18446744073709551616:Nat):Int)=(a:Int)%_;omega
 ·rename_i a;rw[Mt];show((18446744073709551615-a%18446744073709551616:Nat):Int)=_;omega
theorem lK (a b:List UInt8):lU a b=(a==b):=by
 induction a generalizing b with
 |nil=>cases b<;>rfl
 |cons x a ih=>cases b with
  |nil=>rfl
  |cons y b=>grind[lU]
def FO (op:BinOp) (k:IntKind) (x y:Int):Sem Value :=
 match op with
 | .add | .sub | .mul=>Op.intArith op k x y
 | .quo | .rem=>Op.intDiv op k x y
 | .and | .or | .xor | .andNot=>Op.intBits op k x y
 |_=>Op.intCmp op x y
theorem qvT {op:BinOp} {k:IntKind} {x y:Int} {v:AV} (e:JP op k x y=some v) :
  (FO op k x y).run P w=.ok (cv m v) w∧br D v:=by
 cases op<;>simp only[JP,Jv,Mn,MK]at e
 case quo=>
  by_cases hy:y=0
  ·grind
  ·rw[beq_eq_false_iff_ne.2 hy]at e;cases e;exact⟨by simp[FO,Op.intDiv,hy,cv],trivial⟩
 case rem=>
  by_cases hy:y=0
  ·grind
  ·rw[beq_eq_false_iff_ne.2 hy]at e;cases e;exact⟨by simp[FO,Op.intDiv,hy,cv],trivial⟩
 case leq=>
  cases e;refine⟨?_,trivial⟩;show Result.ok (Value.bool (decide (x≤y))) w=.ok (.bool (!decide (y<x))) w;rw[← decide_not,decide_eq_decide.2 (show x≤y↔¬y<x by omega)]
 case geq=>
  cases e;refine⟨?_,trivial⟩;show Result.ok (Value.bool (decide (x≥y))) w=.ok (.bool (!decide (x<y))) w;rw[← decide_not,decide_eq_decide.2 (show x≥y↔¬x<y by omega)]
 all_goals first
  |(cases e;done)
  |(cases e;exact⟨rfl,trivial⟩)
end Go.Ae
namespace Go.Ae
open Go
variable {P:Program} {m:Mp} {D:Nat→Prop} {h h':AH} {w:World} {c:CV} {ρ:Operand→Value} {r:Operand→Option AV} {o:Oper} {v:AV}
abbrev fin:AV→AH→R:=λv h=>some (v,h)
theorem qw1 {x:Operand} (ho:o.op=.move x) (hr:dR m D ρ r) (R:Rel P m D h w) (e:aX P c o.op r h fin=some (v,h')):dI P m D h w ((execOp ρ o).run P w) v h':=by rw[ho]at e;simp only[aX,qD,qU]at e;obtain⟨a,ha,rfl,rfl⟩:=e;obtain⟨h1,h2⟩:=hr _ _ ha;grind[Yg,execOp,wJ]
theorem qY5 {x:Operand} (ho:o.op=.assign x) (hr:dR m D ρ r) (R:Rel P m D h w) (e:aX P c o.op r h fin=some (v,h')):dI P m D h w ((execOp ρ o).run P w) v h':=by rw[ho]at e;simp only[aX,qD,qU]at e;obtain⟨a,ha,rfl,rfl⟩:=e;obtain⟨h1,h2⟩:=hr _ _ ha;grind[Yg,execOp,wJ]
theorem qgn {x y z:Operand} (ho:o.op=.pick x y z) (hr:dR m D ρ r) (R:Rel P m D h w) (e:aX P c o.op r h fin=some (v,h')):dI P m D h w ((execOp ρ o).run P w) v h':=by
 rw[ho]at e;simp only[aX,qD]at e;obtain⟨a,ha,b,hb,d,hd,e⟩:=e;obtain⟨a1,a2⟩:=hr _ _ ha;obtain⟨b1,b2⟩:=hr _ _ hb;obtain⟨d1,d2⟩:=hr _ _ hd;rw[qJH]at e
 split at e
 ·rename_i t;cases t<;>simp only[qU]at e<;>obtain⟨rfl,rfl⟩:=e
  ·refine Yg R ?_ d2;simp_all[execOp,cv,asBool]
  ·refine Yg R ?_ b2;simp_all[execOp,cv,asBool]
 grind
theorem jZt {x:Operand} (ho:o.op=.nilCheck x) (hr:dR m D ρ r) (R:Rel P m D h w) (e:aX P c o.op r h fin=some (v,h')):dI P m D h w ((execOp ρ o).run P w) v h':=by
 rw[ho]at e;simp only[aX,qD]at e;obtain⟨a,ha,e⟩:=e;obtain⟨a1,a2⟩:=hr _ _ ha;unfold zn at e
 split at e<;>first |(cases e;done) |skip
 all_goals
  simp only[qU]at e;obtain⟨rfl,rfl⟩:=e;refine Yg R ?_ a2;simp_all[execOp,cv]
theorem FP {op:UnOp} {t:TypeId} {x:Operand} (ho:o.op=.unOp op t x) (hr:dR m D ρ r) (R:Rel P m D h w) (e:aX P c o.op r h fin=some (v,h')):dI P m D h w ((execOp ρ o).run P w) v h':=by
 rw[ho]at e;simp only[aX,qD]at e;obtain⟨a,ha,e⟩:=e;obtain⟨a1,a2⟩:=hr _ _ ha;unfold sG at e
 split at e<;>first |(cases e;done) |skip
 all_goals
  simp only[qU]at e;obtain⟨rfl,rfl⟩:=e;simp only[execOp,ho,a1];refine zw R ?_ trivial
  first
   |(simp only[cv,Jv];rfl)
   |rfl
theorem qkR {t:TypeId} {x:Operand} (ho:o.op=.makeInterface t x) (hr:dR m D ρ r) (R:Rel P m D h w) (e:aX P c o.op r h fin=some (v,h')):dI P m D h w ((execOp ρ o).run P w) v h':=by
 rw[ho]at e;simp only[aX,qD]at e;obtain⟨d,hd,e⟩:=e;have key:∃a,r x=some a∧fin (.iface t a) h=some (v,h'):=by
  grind
 obtain⟨a,ha,e⟩:=key;obtain⟨a1,a2⟩:=hr _ _ ha;simp only[qU]at e;obtain⟨rfl,rfl⟩:=e;simp only[execOp,ho,a1];refine zw R ?_ a2;unfold Instr.makeInterface;rw[qV (run_underlying hd)];cases d<;>first |rfl |grind
theorem qxF {t:TypeId} {x:Operand} {f:Nat} (ho:o.op=.fieldAddr t x f) (hr:dR m D ρ r) (R:Rel P m D h w) (e:aX P c o.op r h fin=some (v,h')):dI P m D h w ((execOp ρ o).run P w) v h':=by
 rw[ho]at e;simp only[aX,qD]at e;obtain⟨a,ha,off,l6,e⟩:=e;obtain⟨a1,a2⟩:=hr _ _ ha;rw[Mo]at e
 split at e
 ·rename_i b o';simp only[qU]at e;obtain⟨rfl,rfl⟩:=e;simp only[execOp,ho,a1];refine zw R ?_ a2;unfold qJ5 at l6;simp only[Option.bind_eq_some_iff]at l6;obtain⟨d,hd,l6⟩:=l6;unfold Instr.fieldAt;rw[qV (run_underlying hd)];cases d<;>simp only[reduceCtorEq]at l6
  rename_i fs;simp only[Option.bind_eq_some_iff]at l6;obtain⟨g,hg,sz,bz,l6⟩:=l6;cases hz:Nat.beq sz 0<;>rw[hz]at l6<;>simp only[cond_true,cond_false,reduceCtorEq,Option.some.injEq]at l6
  subst l6;simp only[hg,cv];rw[qV (show(Instr.sureAddr (.pointer (some ⟨(m b).1,o',none⟩))).run P w=.ok ⟨(m b).1,o',none⟩ w from rfl)];rw[qV (show(fieldPlace ⟨(m b).1,o',none⟩ g).run P w=.ok ⟨(m b).1,o'+g.offset,none⟩ w from ?_)]
  ·rfl
  ·unfold fieldPlace;simp_all[run_sizeOf,gZ,kc]
 grind
theorem GK {t:TypeId} {cs:List AV} {off:Nat} {x:AV} (ht:lr P t=some false) (e:kN cs off=some x) (hd:aY D cs):(part t (aQ m cs).toArray off).run P w=.ok (cv m x) w∧br D x:=by rw[yv]at e;refine⟨?_,(vo D cs).1 hd x (List.mem_of_getElem? e)⟩;unfold part;rw[qV (wP ht)];simp_all[Bool.false_eq_true,List.getElem?_toArray,ye,List.getElem?_map]
theorem Gg {t:TypeId} {cs l:List AV} {off n:Nat} (ht:lr P t=some true) (hn:aK P t=some n) (e:vh n (gj off cs)=some l) (hd:aY D cs):(part t (aQ m cs).toArray off).run P w=.ok (cv m (.agg l)) w∧aY D l:=by
 rw[JL]at e;obtain⟨e1,e2⟩:=k8 e;refine⟨?_,by grind[XV,GC]⟩;unfold part;rw[qV (wP ht)];simp_all[run_sizeOf,cv,ye]
theorem QQ {t:TypeId} {i:Option Nat} (e:QW P t=some i):(i=none∧lr P t=some false)∨∃n,i=some n∧lr P t=some true∧aK P t=some n:=by
 unfold QW at e;simp only[Option.bind_eq_some_iff]at e;obtain⟨a,ha,e⟩:=e;cases a
 ·grind
 ·simp only[cond_true,Option.map_eq_some_iff]at e;grind
theorem qgd {t:TypeId} {x:Operand} {f:Nat} (ho:o.op=.field t x f) (hr:dR m D ρ r) (R:Rel P m D h w) (e:aX P c o.op r h fin=some (v,h')):dI P m D h w ((execOp ρ o).run P w) v h':=by
 rw[ho]at e;simp only[aX,qD]at e;obtain⟨a,ha,p,hp,e⟩:=e;obtain⟨a1,a2⟩:=hr _ _ ha;unfold Oo at hp;simp only[Option.bind_eq_some_iff]at hp;obtain⟨d,hd,hp⟩:=hp;cases d<;>simp only[reduceCtorEq]at hp
 rename_i fs;simp only[Option.bind_eq_some_iff,Option.map_eq_some_iff]at hp;obtain⟨g,hg,i,hi,rfl⟩:=hp;simp only[execOp,ho,a1];rcases QQ hi with⟨rfl,nz⟩ |⟨n,rfl,nz,hn⟩
 ·simp only[Un]at e
  split at e
  ·rename_i cs;simp only[qD,qU]at e;obtain⟨z,hz,rfl,rfl⟩:=e;obtain⟨z1,z2⟩:=GK (w:=w) (m:=m) nz hz a2;refine zw R ?_ z2;simp_all[Instr.field,run_underlying,cv,asAgg]
  grind
 ·simp only[Kg]at e
  split at e
  ·rename_i cs;simp only[qD,qU]at e;obtain⟨z,hz,rfl,rfl⟩:=e;obtain⟨z1,z2⟩:=Gg (w:=w) (m:=m) nz hn hz a2;refine zw R ?_ z2;simp_all[Instr.field,run_underlying,cv,asAgg]
  grind
theorem Z5 {t:TypeId} {x i:Operand} (ho:o.op=.indexAddr t x i) (hr:dR m D ρ r) (R:Rel P m D h w) (e:aX P c o.op r h fin=some (v,h')):dI P m D h w ((execOp ρ o).run P w) v h':=by
 rw[ho]at e;simp only[aX,qD]at e;obtain⟨a,ha,j,hj,d,hd,e⟩:=e;obtain⟨a1,a2⟩:=hr _ _ ha;obtain⟨j1,j2⟩:=hr _ _ hj;simp only[execOp,ho,a1,j1];cases d<;>simp only[reduceCtorEq]at e
 case slice el=>
  simp only[qD]at e;obtain⟨sz,bz,e⟩:=e;rw[Vf]at e
  split at e
  ·rename_i b off len cp aO k q;simp only[jL,qU]at e;obtain⟨hq,rfl,rfl⟩:=e;have hq:=zN hq;refine zw R ?_ a2;unfold Instr.indexAt;simp only[cv];rw[qV (show(asIntOf (.int k (.ofNat q))).run P w=.ok (k,.ofNat q) w from rfl)];rw[qV (run_underlying hd)];simp only[];rw[qV (show(pure (some (⟨(m b).1,off,none⟩:Addr),len,el):Sem (Option Addr×Nat×TypeId)).run P w=.ok _ w from rfl)];rw[qV (run_underlying hd)];have:(0:Int)≤Int.ofNat q∧Int.ofNat q<(len:Int):=⟨Int.natCast_nonneg q,by grind⟩;simp_all[run_sizeOf,kc]
  grind
 case array n el=>
  simp only[zM,qD]at e;obtain⟨h2,sz,bz,e⟩:=e;have h2:=zN h2;unfold Ji at e
  split at e
  ·rename_i b off k q;simp only[jL,qU]at e;obtain⟨hq,rfl,rfl⟩:=e;have hq:=zN hq;refine zw R ?_ a2;unfold Instr.indexAt;simp only[cv];rw[qV (show(asIntOf (.int k (.ofNat q))).run P w=.ok (k,.ofNat q) w from rfl)];rw[qV (run_underlying hd)];simp only[];rw[qV (show(Instr.sureAddr (.pointer (some ⟨(m b).1,off,none⟩))).run P w=.ok ⟨(m b).1,off,none⟩ w from rfl)];rw[qV (show(pure (some (⟨(m b).1,off,none⟩:Addr),n,el):Sem (Option Addr×Nat×TypeId)).run P w=.ok _ w from rfl)];rw[qV (run_underlying hd)];have:(0:Int)≤Int.ofNat q∧Int.ofNat q<(n:Int):=⟨Int.natCast_nonneg q,by grind⟩;simp_all[run_sizeOf,kc]
  grind
theorem qKI {x:Operand} {i:Nat} (ho:o.op=.extract x i) (hr:dR m D ρ r) (R:Rel P m D h w) (e:aX P c o.op r h fin=some (v,h')):dI P m D h w ((execOp ρ o).run P w) v h':=by
 rw[ho]at e;simp only[aX,qD]at e;obtain⟨a,ha,e⟩:=e;obtain⟨a1,a2⟩:=hr _ _ ha;rw[Yw]at e
 split at e
 ·rename_i l;simp only[qD,qU]at e;obtain⟨z,hz,rfl,rfl⟩:=e;rw[yv]at hz;simp only[execOp,ho,a1];refine zw R ?_ ((vo D l).1 a2 _ (List.mem_of_getElem? hz));simp_all[Instr.extract,cv,List.getElem?_toArray,ye,List.getElem?_map]
 grind
theorem qxc {t:TypeId} {x i:Operand} (ho:o.op=.index t x i) (hr:dR m D ρ r) (R:Rel P m D h w) (e:aX P c o.op r h fin=some (v,h')):dI P m D h w ((execOp ρ o).run P w) v h':=by
 rw[ho]at e;simp only[aX,qD]at e;obtain⟨a,ha,j,hj,d,hd,e⟩:=e;obtain⟨a1,a2⟩:=hr _ _ ha;obtain⟨j1,j2⟩:=hr _ _ hj;simp only[execOp,ho,a1,j1];cases d<;>simp only[reduceCtorEq]at e
 case string=>
  unfold X8 at e
  split at e
  ·rename_i s k q;simp only[qD,qU]at e;obtain⟨z,hz,rfl,rfl⟩:=e;rw[yv]at hz;refine zw R ?_ trivial;unfold Instr.index;simp only[cv];rw[qV (show(asIntOf (.int k (.ofNat q))).run P w=.ok (k,.ofNat q) w from rfl)];rw[qV (run_underlying hd)];have h0:(0:Int)≤Int.ofNat q:=Int.natCast_nonneg q;have hb:(ByteArray.mk s.toArray)[q]? =some z:=by
    have ap:q<s.length:=(List.getElem?_eq_some_iff.1 hz).1;have hs:(ByteArray.mk s.toArray).size=s.length:=by rfl
    rw[getElem?_pos _ _ (by grind)]
    congr 1
    have:=(List.getElem?_eq_some_iff.1 hz).2;trivial
   simp_all
  grind
 case array n el=>
  simp only[qD]at e;obtain⟨sz,bz,g,hg,e⟩:=e;cases g
  ·simp only[cK]at e;unfold J6 at e
   split at e
   ·rename_i cs k q;simp only[jL,qD,qU]at e;obtain⟨hq,z,hz,rfl,rfl⟩:=e;have hq:=zN hq;obtain⟨z1,z2⟩:=GK (w:=w) (m:=m) hg hz a2;refine zw R ?_ z2;unfold Instr.index;simp only[cv];rw[qV (show(asIntOf (.int k (.ofNat q))).run P w=.ok (k,.ofNat q) w from rfl)];rw[qV (run_underlying hd)];have:(0:Int)≤Int.ofNat q∧Int.ofNat q<(n:Int):=⟨Int.natCast_nonneg q,by grind⟩;simp_all[run_sizeOf]
   grind
  ·simp only[cK]at e;unfold KV at e
   split at e
   ·rename_i cs k q;simp only[jL,qD,qU]at e;obtain⟨hq,z,hz,rfl,rfl⟩:=e;have hq:=zN hq;obtain⟨z1,z2⟩:=Gg (w:=w) (m:=m) hg bz hz a2;refine zw R ?_ z2;unfold Instr.index;simp only[cv];rw[qV (show(asIntOf (.int k (.ofNat q))).run P w=.ok (k,.ofNat q) w from rfl)];rw[qV (run_underlying hd)];have:(0:Int)≤Int.ofNat q∧Int.ofNat q<(n:Int):=⟨Int.natCast_nonneg q,by grind⟩;simp only[iJ this];rw[qV (run_sizeOf bz)];exact z1
   grind
theorem qwp {t:TypeId} {x:Operand} (ho:o.op=.load t x) (hr:dR m D ρ r) (R:Rel P m D h w) (e:aX P c o.op r h fin=some (v,h')):dI P m D h w ((execOp ρ o).run P w) v h':=by
 rw[ho]at e;simp only[aX,qD]at e;obtain⟨a,ha,i,hi,e⟩:=e;obtain⟨a1,a2⟩:=hr _ _ ha;simp only[execOp,ho,a1];rcases QQ hi with⟨rfl,nz⟩ |⟨n,rfl,nz,hn⟩
 ·simp only[gD]at e
  split at e
  ·rename_i b off
   split at e
   ·rename_i cs t' op' hg;simp only[qD,qU]at e;obtain⟨z,hz,rfl,rfl⟩:=e;obtain⟨z1,z2⟩:=R.Bs a2 hg hz;refine zw R ?_ z2;unfold Instr.loadAt;simp only[cv];rw[qV (show(Instr.sureAddr (.pointer (some ⟨(m b).1,off,none⟩))).run P w=.ok ⟨(m b).1,off,none⟩ w from rfl)];simp_all[loadVar,wP]
   ·rename_i ti hg;simp only[qD,qU]at e;obtain⟨z,hz,rfl,rfl⟩:=e;obtain⟨z1,z2⟩:=R.sO a2 hg hz;refine zw R ?_ z2;unfold Instr.loadAt;simp only[cv];rw[qV (show(Instr.sureAddr (.pointer (some ⟨(m b).1,off,none⟩))).run P w=.ok ⟨(m b).1,off,none⟩ w from rfl)];simp_all[loadVar,wP]
   grind
  grind
 ·simp only[ku]at e
  split at e
  ·rename_i b off;simp only[qD,qU]at e;obtain⟨z,hz,rfl,rfl⟩:=e;obtain⟨z1,z2,z3⟩:=R.read a2 hz;refine zw R ?_ z2;unfold Instr.loadAt;simp only[cv];rw[qV (show(Instr.sureAddr (.pointer (some ⟨(m b).1,off,none⟩))).run P w=.ok ⟨(m b).1,off,none⟩ w from rfl)];simp_all[loadVar,wP,run_sizeOf]
  grind
theorem qxE {t:TypeId} {x y:Operand} (ho:o.op=.store t x y) (hr:dR m D ρ r) (R:Rel P m D h w) (e:aX P c o.op r h fin=some (v,h')):dI P m D h w ((execOp ρ o).run P w) v h':=by
 rw[ho]at e;simp only[aX,qD]at e;obtain⟨a,ha,b,hb,n,hn,e⟩:=e;obtain⟨a1,a2⟩:=hr _ _ ha;obtain⟨b1,b2⟩:=hr _ _ hb;rw[UT]at e
 split at e
 ·rename_i q off;simp only[jL,qD,qU]at e;obtain⟨hl,h1,hw,rfl,rfl⟩:=e;have hl:=zF hl;obtain⟨w',cS,sP,fQ⟩:=R.write a2 (k6 b2) hw;refine⟨m,D,w',.inr ⟨?_,rfl⟩,sP,fQ,trivial⟩;simp only[execOp,ho,a1,b1,cv];have hs:(Instr.storeAt t (.pointer (some ⟨(m q).1,off,none⟩)) (cv m b)).run P w=.ok () w':=by
   unfold Instr.storeAt;rw[qV (show(Instr.sureAddr (.pointer (some ⟨(m q).1,off,none⟩))).run P w=.ok ⟨(m q).1,off,none⟩ w from rfl)];simp_all[storeVar,run_sizeOf,w6,List.size_toArray]
  simp_all
 grind
end Go.Ae
namespace Go.Ae
open Go
variable {P:Program} {m:Mp} {D:Nat→Prop} {h h':AH} {w:World} {c:CV} {ρ:Operand→Value} {r:Operand→Option AV} {o:Oper} {v:AV}
theorem Jg (hr:dR m D ρ r) {l:List Operand} {s:List AV} (e:kX r l=some s):l.map ρ=aQ m s∧aY D s:=by
 induction l generalizing s with
 |nil=>simp[kX]at e;subst e;trivial
 |cons a l ih=>simp only[kX,Option.bind_eq_some_iff]at e;obtain⟨b,hb,t,ht,hs⟩:=e;cases hs;obtain⟨h1,h2⟩:=hr _ _ hb;obtain⟨h3,h4⟩:=ih ht;exact⟨by grind[aQ],h2,h4⟩
theorem Vx {α β:Type} (f:α→β) (x:Array α):x.map f=(x.toList.map f).toArray:=by grind
theorem qJi {fn:Fn} {x y:Array Operand} (ho:o.op=.makeFunc fn x y) (hr:dR m D ρ r) (R:Rel P m D h w) (e:aX P c o.op r h fin=some (v,h')):dI P m D h w ((execOp ρ o).run P w) v h':=by
 rw[ho]at e;cases fn<;>simp only[aX,reduceCtorEq]at e
 rename_i f;simp only[qD,qU]at e;obtain⟨a,ha,b,hb,rfl,rfl⟩:=e;obtain⟨a1,a2⟩:=Jg hr ha;obtain⟨b1,b2⟩:=Jg hr hb;simp only[execOp,ho];refine zw R ?_ ⟨a2,b2⟩;grind[Instr.makeFunc,cv,wJ,Vx]
theorem qjM {x:Operand} {xt t:TypeId} {ok:Bool} (ho:o.op=.typeAssert x xt t ok) (hr:dR m D ρ r) (R:Rel P m D h w) (e:aX P c o.op r h fin=some (v,h')):dI P m D h w ((execOp ρ o).run P w) v h':=by
 rw[ho]at e;simp only[aX,qD]at e;obtain⟨a,ha,d,hd,e⟩:=e;obtain⟨a1,a2⟩:=hr _ _ ha;simp only[execOp,ho,a1];have lJ:(∀ms,d≠.interface ms)∧(cK ok (ob (ff P t) λz=>wR t z a λy=>fin y h) (Jc t a λy=>fin y h))=some (v,h'):=by
  grind
 obtain⟨lJ,e⟩:=lJ;cases ok
 ·simp only[cK]at e;unfold Jc at e
  split at e
  ·rename_i u z;simp only[jL,qU]at e;obtain⟨hu,rfl,rfl⟩:=e;have hu:=zF hu;subst hu;refine zw R ?_ a2;simp_all[Instr.typeAssert,cv,run_underlying]
  grind
 ·simp only[cK,qD]at e;obtain⟨z,hz,e⟩:=e;obtain⟨z1,z2⟩:=yI (w:=w) (m:=m) (D:=D) hz;unfold wR at e
  split at e
  ·rename_i u y _;cases hu:Nat.beq u t
   ·rw[hu]at e;simp only[cond_false,qU]at e;obtain⟨rfl,rfl⟩:=e;refine zw R ?_ ⟨z2,trivial,trivial⟩;unfold Instr.typeAssert;simp_all[cv,aQ,run_underlying,gZ]
   ·rw[hu]at e;simp only[cond_true,qU]at e;obtain⟨rfl,rfl⟩:=e;have hu:=zF hu;subst hu;refine zw R ?_ ⟨a2,trivial,trivial⟩;simp_all[Instr.typeAssert,cv,aQ,run_underlying]
  ·simp only[qU]at e;obtain⟨rfl,rfl⟩:=e;refine zw R ?_ ⟨z2,trivial,trivial⟩;simp_all[Instr.typeAssert,cv,aQ,run_underlying]
  grind
theorem qKS {op:BinOp} {k:IntKind} {x y:Int} {z:AV} (e:MI op k x y=some z) (yk:IntKind):(Op.shift op k x yk y).run P w=.ok (cv m z) w∧br D z:=by
 unfold MI at e;rw[MK]at e;by_cases hy:y<0
 ·grind
 ·simp only[iV hy,cond_false]at e;cases op<;>simp only[reduceCtorEq,Option.some.injEq]at e<;>subst e<;>refine⟨?_,trivial⟩
  all_goals (simp[Op.shift,cv,Jv];omega)
theorem UD (l:List UInt8):(ByteArray.mk l.toArray).toList=l:=by simp
theorem qj7 {op:BinOp} {x y:List UInt8} {z:AV} (e:Cr op x y=some z):(Op.stringOp op ⟨x.toArray⟩ ⟨y.toArray⟩).run P w=.ok (cv m z) w∧br D z:=by
 cases op<;>simp only[Cr,reduceCtorEq,Option.some.injEq,lK]at e
 case add=>
  rw[jL]at e;obtain⟨hl,e⟩:=e;have hl:=zN hl;cases e;refine⟨?_,trivial⟩;have h1:(ByteArray.mk x.toArray).size=x.length:=by rfl
  have h2:(ByteArray.mk y.toArray).size=y.length:=by rfl
  have h3:¬(((x.length+y.length:Nat):Int)>IntKind.i64.max):=by simp;omega
  simp only[Op.stringOp,h1,h2,h3,if_false,cv];rfl
 all_goals
  subst e;refine⟨?_,trivial⟩;simp[Op.stringOp,cv]
theorem qZO {op:BinOp} {t:TypeId} {x y:Operand} {a b:Value} (h1:op≠.eql) (h2:op≠.neq):(eqGuard op t x y a b).run P w=.ok () w:=by unfold eqGuard;simp
theorem Jl {op:BinOp} {t:TypeId} {x y:Operand} {a b:AV} (ha:∀l,a≠.agg l) (hb:a≠.dQ∨b≠.dQ):(eqGuard op t x y (cv m a) (cv m b)).run P w=.ok () w:=by
 unfold eqGuard;cases op<;>first |rfl |skip
 all_goals
  cases a<;>first |(exact absurd rfl (ha _)) |(cases b<;>first |rfl |grind)
theorem qq8 {t:TypeId} {x y:Value} {b:Bool} (h:∀d,(Op.equalIn (d+1) t x y).run P w=.ok b w):(Op.equal t x y).run P w=.ok b w:=h 9999
theorem OT {t:TypeId} {d:TypeDesc} {k:EK} {a b:AV} {q:Bool} (hd:P.underlying t=some d) (hk:Va d=some k) (e:Y7 k a b=some q) (n:Nat) :
  (Op.equalIn (n+1) t (cv m a) (cv m b)).run P w=.ok q w:=by
 cases d<;>simp only[Va,reduceCtorEq,Option.some.injEq]at hk<;>subst hk<;>unfold Y7 at e<;>split at e<;>
  first
   |(cases e;done)
   |skip
 all_goals try contradiction
 all_goals try (simp only[Option.some.injEq]at e;subst e)
 all_goals
  unfold Op.equalIn;rw[qV (Ae.run_underlying hd)];simp only[cv]
 all_goals first
  |rfl
  |skip
 ·simp_all[jL,Option.some.injEq,Mn]
 simp[beq_toListBytes,lK]
mutual
theorem qXe:∀v:AV,br (λ_=>True) v
 | .bool _=>trivial
 | .int _ _=>trivial
 | .str _=>trivial
 | .ptr _ _=>trivial
 | .aW=>trivial
 | .slice _ _ _ _ _=>trivial
 | .aj=>trivial
 | .fn _ a c=>⟨gI a,gI c⟩
 | .yield _=>trivial
 | .eR=>trivial
 | .iface _ v=>qXe v
 | .dQ=>trivial
 | .agg l=>gI l
 | .cA l=>gI l
 | .bM _=>trivial
 | .tail _ _ _ _=>trivial
 | .da _=>trivial
theorem gI:∀l:List AV,aY (λ_=>True) l
 |[]=>trivial
 |a::r=>⟨qXe a,gI r⟩
end
theorem Oj {t:TypeId} {d:TypeDesc} {k:EK} (hd:P.underlying t=some d) (hk:Va d=some k):lr P t=some false:=by grind[lr,Va,reduceCtorEq]
theorem qXH {l1 l2:List ES} {xs ys:List AV} {q:Bool} (e:yV (l1++l2) xs ys=some q):(yV l1 xs ys=some false∧q=false)∨(yV l1 xs ys=some true∧yV l2 xs ys=some q):=by
 induction l1 with
 |nil=>exact .inr ⟨rfl,e⟩
 |cons a l1 ih=>
  cases a with
  |nK k o=>
   simp only[List.cons_append,yV,Option.bind_eq_some_iff]at e ⊢;grind
  |len n=>
   grind[yV,Nat.ble]
theorem Nl {c n:Nat} {xs ys:List AV} (hx:c+n≤xs.length) (hy:c+n≤ys.length):∀{l:List ES},XT n l=true→
  yV (KZ c l) xs ys=yV l ((xs.drop c).take n) ((ys.drop c).take n):=by
 intro l
 induction l with
 |nil=>intro _;rfl
 |cons a l ih=>
  intro h;cases a with
  |nK k o=>
   simp only[XT,Bool.and_eq_true]at h;have ho:=zN h.1;have gx:kN xs (c+o)=kN ((xs.drop c).take n) o:=by rw[yv,yv,List.getElem?_take_of_lt omQ,List.getElem?_drop]
   have gy:kN ys (c+o)=kN ((ys.drop c).take n) o:=by rw[yv,yv,List.getElem?_take_of_lt omQ,List.getElem?_drop]
   grind[KZ,yV]
  |len m=>
   simp only[XT,Bool.and_eq_true]at h;have hm:=zN h.1;have h1:(Nat.ble (c+m) xs.length&&Nat.ble (c+m) ys.length)=true:=by simp;omega
   have h2:(Nat.ble m ((xs.drop c).take n).length&&Nat.ble m ((ys.drop c).take n).length)=true:=by grind
   simp only[KZ,yV,h1,h2,cond_true,ih h.2]
theorem qV8:∀(d:Nat) {fs:List Field} {l:List ES} {xs ys:List AV} {q:Bool} (n:Nat) (_:gg P d fs=some l) (_:yV l xs ys=some q),
  (Op.eqFields (n+d) (aQ m xs).toArray (aQ m ys).toArray fs).run P w=.ok q w:=by
 intro d
 induction d with
 |zero=>nofun
 |succ d ihd=>
  intro fs l xs ys q n hl e;simp only[gg]at hl
  induction fs generalizing l q with
  |nil=>simp[Y9]at hl;subst hl;simp[yV]at e;subst e;rfl
  |cons f fs ih=>
   unfold Y9 at hl;cases hn : f.name == "_"
   ·rw [hn] at hl;simp only [cond_false, Option.bind_eq_some_iff] at hl;obtain ⟨u, hu, hl⟩ := hl;have bW : f.name ≠ "_" := by grind
    by_cases bK:∃gs,u=.struct gs
    ·obtain⟨gs,rfl⟩:=bK;simp only[Option.bind_eq_some_iff]at hl;obtain⟨sz,bz,hl⟩:=hl;cases FQ:P.stoodInHeld f.type
     ·rw[FQ]at hl;simp only[cond_false,Option.bind_eq_some_iff]at hl;obtain⟨l1,lL,hl⟩:=hl;cases dY:XT sz l1
      ·grind
      ·rw[dY]at hl;simp only[cond_true,Option.map_eq_some_iff]at hl;obtain⟨l2,iC,rfl⟩:=hl;simp only[yV]at e;cases hb:Nat.ble (f.offset+sz) xs.length&&Nat.ble (f.offset+sz) ys.length
       ·grind
       ·rw[hb]at e;simp only[cond_true]at e;simp only[Bool.and_eq_true]at hb;have hx:=zN hb.1;have hy:=zN hb.2;have nz:lr P f.type=some true:=by grind[lr]
        have px:=Gg (P:=P) (m:=m) (w:=w) (t:=f.type) (off:=f.offset) nz bz (show vh sz (gj f.offset xs)=some ((xs.drop f.offset).take sz) by grind[JL,Qj]) (gI xs);have py:=Gg (P:=P) (m:=m) (w:=w) (t:=f.type) (off:=f.offset) nz bz (show vh sz (gj f.offset ys)=some ((ys.drop f.offset).take sz) by grind[JL,Qj]) (gI ys);have rN:∀b,yV (KZ f.offset l1) xs ys=some b→
          (Op.equalIn (n+(d+1)) f.type (cv m (.agg ((xs.drop f.offset).take sz))) (cv m (.agg ((ys.drop f.offset).take sz)))).run P w=.ok b w:=by
         intro b si;rw[Nl hx hy dY]at si;have hf:P.fieldsOf f.type=gs:=by grind[Program.fieldsOf]
         rw[show cv m (.agg ((xs.drop f.offset).take sz))=.agg (aQ m ((xs.drop f.offset).take sz)).toArray from rfl,show cv m (.agg ((ys.drop f.offset).take sz))=.agg (aQ m ((ys.drop f.offset).take sz)).toArray from rfl];rw[show n+(d+1)=(n+d)+1 from rfl,run_equalIn_struct w (n+d) f.type _ _ (by grind) FQ,hf];grind
        unfold Op.eqFields;rw[iJ bW,qV px.1,qV py.1];rcases qXH e with⟨h1,rfl⟩ |⟨h1,h2⟩
        ·simp_all
        ·rw[qV (rN true h1)];grind
     grind
    ·have hl:∃k s,Va u=some k∧Y9 P (gg P d) fs=some s∧ES.nK k f.offset::s=l:=by
      cases u<;>first |(exact absurd ⟨_,rfl⟩ bK) |skip
      all_goals
       simp only[Option.bind_eq_some_iff]at hl;obtain⟨k,hk,hl⟩:=hl;refine⟨k,?_⟩;cases k<;>simp only[reduceCtorEq,Option.map_eq_some_iff]at hl<;>
        (obtain⟨s,hs,rfl⟩:=hl;exact⟨s,hk,hs,rfl⟩)
     obtain⟨k,s,hk,hs,rfl⟩:=hl;simp only[yV,Option.bind_eq_some_iff]at e;obtain⟨x,hx,y,hy,b,hb,e⟩:=e;unfold Op.eqFields;rw[iJ bW];rw[qV (GK (m:=m) (w:=w) (Oj hu hk) hx (gI xs)).1];rw[qV (GK (m:=m) (w:=w) (Oj hu hk) hy (gI ys)).1];rw[show n+(d+1)=(n+d)+1 from rfl,qV (OT hu hk hb (n+d))];cases b
     ·simp_all
     grind
   grind
theorem jQR {t:TypeId} {fs:Array Field} {l:List ES} {xs ys:List AV} {q:Bool} (hd:P.underlying t=some (.struct fs)) (hg:(P.eqGuardType P.depth t||P.stoodInHeld t)=false)
  (hl:gg P 8 fs.toList=some l) (e:yV l xs ys=some q):(Op.equal t (cv m (.agg xs)) (cv m (.agg ys))).run P w=.ok q w:=by
 simp only[Bool.or_eq_false_iff]at hg;have hf:P.fieldsOf t=fs:=by grind[Program.fieldsOf]
 have:(Op.equalIn (9991+8+1) t (cv m (.agg xs)) (cv m (.agg ys))).run P w=.ok q w:=by rw[show cv m (.agg xs)=.agg (aQ m xs).toArray from rfl,show cv m (.agg ys)=.agg (aQ m ys).toArray from rfl];rw[run_equalIn_struct w (9991+8) t _ _ (by grind) hg.2,hf];exact qV8 8 9991 hl e
 trivial
theorem MN (b:Bool):(b !=false)=b:=by simp
theorem OQ (b:Bool):(b !=true)=!b:=by simp
theorem jJS {op:BinOp} {t t2:TypeId} {x y:Operand} (ho:o.op=.binOp op t x y t2) (hr:dR m D ρ r) (R:Rel P m D h w) (e:aX P c o.op r h fin=some (v,h')):dI P m D h w ((execOp ρ o).run P w) v h':=by
 rw[ho]at e;simp only[aX,qD]at e;obtain⟨a,ha,b,hb,e⟩:=e;obtain⟨a1,a2⟩:=hr _ _ ha;obtain⟨b1,b2⟩:=hr _ _ hb;simp only[execOp,ho,a1,b1]
 suffices hs:h=h'∧br D v∧(eqGuard op t x y (cv m a) (cv m b)).run P w=.ok () w∧(binOp op t (cv m a) (cv m b)).run P w=.ok (cv m v) w by
  obtain⟨rfl,hv,h1,h2⟩:=hs;grind[zw,qV]
 have shift:∀op,(op=.shl∨op=.shr)→wh op a b (λz=>fin z h)=some (v,h')→h=h'∧br D v∧(eqGuard op t x y (cv m a) (cv m b)).run P w=.ok () w∧(binOp op t (cv m a) (cv m b)).run P w=.ok (cv m v) w:=by
  intro op mz e;unfold wh at e
  split at e
  ·rename_i k1 p k2 q _;simp only[qD,qU]at e;obtain⟨z,hz,rfl,rfl⟩:=e;obtain⟨z1,z2⟩:=qKS (P:=P) (m:=m) (D:=D) (w:=w) hz k2;refine⟨rfl,z2,qZO (by grind) (by grind),?_⟩;rcases mz with rfl |rfl<;>exact z1
  grind
 unfold FB at e
 split at e
 ·grind
 ·grind
 ·rename_i pf Px;simp only[qD]at e;obtain⟨d,hd,e⟩:=e;have pf:op≠.shl:=λhh=>pf hh;have Px:op≠.shr:=λhh=>Px hh;have gen:∀(k:EK),Va d=some k→(∀kk,d≠.int kk)→d≠.string→∀q,Y7 k a b=some q→
    (∀x y,(eqGuard .eql t x y (cv m a) (cv m b)).run P w=.ok () w)∧(∀x y,(eqGuard .neq t x y (cv m a) (cv m b)).run P w=.ok () w)∧
    (binOp .eql t (cv m a) (cv m b)).run P w=.ok (.bool q) w∧(binOp .neq t (cv m a) (cv m b)).run P w=.ok (.bool !q) w:=by
   intro k hk hi hs q hq;have cS:=qq8 (λn=>OT (m:=m) (w:=w) hd hk hq n);have nz:(∀l,a≠.agg l)∧(a≠.dQ∨b≠.dQ)∧(∀kk n,a≠.int kk n)∧(∀s,a≠.str s):=by
    cases d<;>simp only[Va,reduceCtorEq,Option.some.injEq]at hk<;>first |(exact absurd rfl (hi _)) |(exact absurd rfl hs) |skip
    all_goals
     grind[Y7]
   obtain⟨g1,g2,g3,g4⟩:=nz;refine⟨λx y=>Jl g1 g2,λx y=>Jl g1 g2,?_,?_⟩
   ·have:binOp .eql t (cv m a) (cv m b)=(do pure (Value.bool (← Op.equal t (cv m a) (cv m b)))):=by
     cases a<;>first |rfl |(exact absurd rfl (g3 _ _)) |grind
    simp_all
   ·have:binOp .neq t (cv m a) (cv m b)=(do pure (Value.bool (!(← Op.equal t (cv m a) (cv m b))))):=by
     cases a<;>first |rfl |(exact absurd rfl (g3 _ _)) |grind
    simp_all
  have pe:(∀kk,d≠.int kk)→d≠.string→∀(k:EK),Va d=some k→∀neg,(neg=false→op=.eql)→(neg=true→op=.neq)→sh k neg a b (λz=>fin z h)=some (v,h')→
    h=h'∧br D v∧(eqGuard op t x y (cv m a) (cv m b)).run P w=.ok () w∧(binOp op t (cv m a) (cv m b)).run P w=.ok (cv m v) w:=by
   intro hi hs k hk neg e0 e1 e;unfold sh at e;simp only[qD,qU]at e;obtain⟨q,hq,rfl,rfl⟩:=e;obtain⟨q1,q2,q3,q4⟩:=gen k hk hi hs q hq;cases neg
   ·obtain rfl:=e0 rfl;exact⟨rfl,trivial,q1 x y,by rw[q3,MN];rfl⟩
   ·obtain rfl:=e1 rfl;exact⟨rfl,trivial,q2 x y,by rw[q4,OQ];rfl⟩
  have ps:∀fs l,d=.struct fs→(P.eqGuardType P.depth t||P.stoodInHeld t)=false→gg P 8 fs.toList=some l→∀neg,(neg=false→op=.eql)→(neg=true→op=.neq)→UP l neg a b (λz=>fin z h)=some (v,h')→
    h=h'∧br D v∧(eqGuard op t x y (cv m a) (cv m b)).run P w=.ok () w∧(binOp op t (cv m a) (cv m b)).run P w=.ok (cv m v) w:=by
   intro fs l sj hg hl neg e0 e1 ee;subst sj;unfold UP at ee
   split at ee
   ·rename_i xs ys;simp only[qD,qU]at ee;obtain⟨q,hq,rfl,rfl⟩:=ee;have cS:=jQR (m:=m) (w:=w) hd hg hl hq;simp only[Bool.or_eq_false_iff]at hg;cases neg
    ·obtain rfl:=e0 rfl;refine⟨rfl,trivial,run_eqGuard_agg w _ _ _ _ _ _ hg.1,?_⟩;have:binOp .eql t (cv m (.agg xs)) (cv m (.agg ys))=(do pure (Value.bool (← Op.equal t (cv m (.agg xs)) (cv m (.agg ys))))):=rfl;rw[this,qV cS,MN];rfl
    ·obtain rfl:=e1 rfl;refine⟨rfl,trivial,run_eqGuard_agg w _ _ _ _ _ _ hg.1,?_⟩;have:binOp .neq t (cv m (.agg xs)) (cv m (.agg ys))=(do pure (Value.bool (!(← Op.equal t (cv m (.agg xs)) (cv m (.agg ys)))))):=rfl;rw[this,qV cS,OQ];rfl
   grind
  split at e
  ·--numbers
   rw[Z0]at e
   split at e
   ·rename_i k1 p k2 q;simp only[jL,qD,qU]at e;obtain⟨hk,z,hz,rfl,rfl⟩:=e;have hk:k1=k2:=by grind
    subst hk;obtain⟨z1,z2⟩:=qvT (P:=P) (m:=m) (D:=D) (w:=w) hz;refine⟨rfl,z2,Jl aM aM,?_⟩;have:binOp op t (cv m (.int k1 p)) (cv m (.int k1 q))=FO op k1 p q:=by
     cases op<;>first |(exact absurd rfl pf) |(exact absurd rfl Px) |simp[binOp,cv,FO]
    grind
   grind
  ·unfold Uc at e
   split at e
   ·rename_i s1 s2;simp only[qD,qU]at e;obtain⟨z,hz,rfl,rfl⟩:=e;obtain⟨z1,z2⟩:=qj7 (P:=P) (m:=m) (D:=D) (w:=w) hz;refine⟨rfl,z2,Jl aM aM,?_⟩;have:binOp op t (cv m (.str s1)) (cv m (.str s2))=Op.stringOp op ⟨s1.toArray⟩ ⟨s2.toArray⟩:=by
     cases op<;>first |(exact absurd rfl pf) |(exact absurd rfl Px) |rfl
    grind
   grind
  all_goals grind
end Go.Ae
