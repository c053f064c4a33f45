/- The abstract executor of the program's form in Lean, shown sound: what an abstract heap says of a world; loads, stores, numbers, simple operations. -/
import Derived.Test.YtefichdddddacaaGreatDoorTopAgainAe1
import Derived.Below
import Derived.Lib.LaidTab
import Derived.Laws.StructEq
namespace Go.Ae
theorem yG {a b:Nat} (h:a≠b):Nat.beq a b=false:=by
 cases e:Nat.beq a b
 ·rfl
 ·exact absurd (Nat.eq_of_beq_eq_true e) h
theorem yb {a b:Nat} (h:Nat.beq a b=false):a≠b:=λe=>by subst e;rw[Nat.beq_refl]at h;cases h
theorem jf {a b:Nat} (h:Nat.beq a b=true):a=b:=Nat.eq_of_beq_eq_true h
theorem PT.fN {α:Type} (i:Nat):(PT.e:PT α).get i=none:=rfl
theorem PT.iB {α:Type} (l:PT α) (v:Option α) (r:PT α) (i:Nat):(PT.n l v r).get i=bif Nat.beq i 0 then v else bif Nat.beq (i%2) 1 then l.get (i/2)else r.get (i/2-1):=by show Bool.rec (motive:=λ_=>Option α) (Bool.rec (motive:=λ_=>Option α) (r.get (i/2-1)) (l.get (i/2)) (Nat.beq (i%2) 1)) v (Nat.beq i 0)=_;cases Nat.beq i 0<;>cases Nat.beq (i%2) 1<;>rfl
theorem PT.tg {α:Type} (f i:Nat) (x:α):PT.fm (f+1) .e i x=bif Nat.beq i 0 then .n .e (some x) .e else bif Nat.beq (i%2) 1 then .n (PT.fm f .e (i/2) x) none .e else .n .e none (PT.fm f .e (i/2-1) x):=by show Bool.rec (motive:=λ_=>PT α) (Bool.rec (motive:=λ_=>PT α) (.n .e none (PT.fm f .e (i/2-1) x)) (.n (PT.fm f .e (i/2) x) none .e) (Nat.beq (i%2) 1)) (.n .e (some x) .e) (Nat.beq i 0)=_;cases Nat.beq i 0<;>cases Nat.beq (i%2) 1<;>rfl
theorem PT.tj {α:Type} (f i:Nat) (x:α) (l:PT α) (v:Option α) (r:PT α):PT.fm (f+1) (.n l v r) i x=bif Nat.beq i 0 then .n l (some x) r else bif Nat.beq (i%2) 1 then .n (PT.fm f l (i/2) x) v r else .n l v (PT.fm f r (i/2-1) x):=by show Bool.rec (motive:=λ_=>PT α) (Bool.rec (motive:=λ_=>PT α) (.n l v (PT.fm f r (i/2-1) x)) (.n (PT.fm f l (i/2) x) v r) (Nat.beq (i%2) 1)) (.n l (some x) r) (Nat.beq i 0)=_;cases Nat.beq i 0<;>cases Nat.beq (i%2) 1<;>rfl
theorem Uz {α:Type} (i:Nat):wM ([]:List α) i=none:=rfl
theorem Vi {α:Type} (a:α) (r:List α) (i:Nat):wM (a::r) i=bif Nat.beq i 0 then some a else wM r (i-1):=by show Bool.rec (motive:=λ_=>Option α) (wM r (i-1)) (some a) (Nat.beq i 0)=_;cases Nat.beq i 0<;>rfl
theorem II {α:Type} (l:List α):yy 0 l=some []:=rfl
theorem qX6 {α:Type} (n:Nat):yy (n+1) ([]:List α)=none:=rfl
theorem Uy {α:Type} (n:Nat) (a:α) (r:List α):yy (n+1) (a::r)=(yy n r).bind λs=>some (a::s):=by show Option.rec (motive:=λ_=>Option (List α)) none (λs=>some (a::s)) (yy n r)=_;cases yy n r<;>rfl
theorem qvh {α:Type} (l:List α):yl 0 l=l:=rfl
theorem qKi {α:Type} (n:Nat):yl (n+1) ([]:List α)=[]:=rfl
theorem qJI {α:Type} (n:Nat) (a:α) (r:List α):yl (n+1) (a::r)=yl n r:=rfl
theorem IJ {α:Type} (l:List α):U8 l []=some l:=rfl
theorem qqU {α:Type} (x:α) (xs:List α):U8 [] (x::xs)=none:=rfl
theorem MA {α:Type} (a:α) (l:List α) (x:α) (xs:List α):U8 (a::l) (x::xs)=(U8 l xs).bind λs=>some (x::s):=by show Option.rec (motive:=λ_=>Option (List α)) none (λs=>some (x::s)) (U8 l xs)=_;cases U8 l xs<;>rfl
theorem qJn {α:Type} (n:Nat) (xs:List α):kr [] (n+1) xs=none:=rfl
theorem G6 {α:Type} (a:α) (l:List α) (n:Nat) (xs:List α):kr (a::l) (n+1) xs=(kr l n xs).bind λs=>some (a::s):=by show Option.rec (motive:=λ_=>Option (List α)) none (λs=>some (a::s)) (kr l n xs)=_;cases kr l n xs<;>rfl
theorem qYT (t:aJ AV) (i:Nat):ZV t i []=t:=rfl
theorem qV2 (t:aJ AV) (i:Nat) (x:AV) (r:List AV):ZV t i (x::r)=ZV (aJ.set t i x) (i+1) r:=rfl
theorem yC (z:List AV) (t:aJ AV) (i:Nat):Qz z t i=(match aJ.get t i with |some v=>some v |none=>wM z (i%z.length)):=by show Option.rec (motive:=λ_=>Option AV) (wM z (i%z.length)) (λv=>some v) (aJ.get t i)=_;cases aJ.get t i<;>rfl
theorem IK (z:List AV) (t:aJ AV) (i:Nat):Qs z t i 0=some []:=rfl
theorem M7 (z:List AV) (t:aJ AV) (i n:Nat):Qs z t i (n+1)=(Qz z t i).bind λv=>(Qs z t (i+1) n).bind λs=>some (v::s):=by
 show Option.rec (motive:=λ_=>Option (List AV)) none (λv=>Option.rec (motive:=λ_=>Option (List AV)) none (λs=>some (v::s)) (Qs z t (i+1) n)) (Qz z t i)=_;cases Qz z t i with
 |none=>rfl
 |some v=>cases Qs z t (i+1) n<;>rfl
theorem PT.ow {α:Type}:∀(f:Nat) (t:PT α) (i:Nat) (x:α) (j:Nat),i<f→(PT.fm f t i x).get j=if i=j then some x else t.get j:=by
 intro f
 induction f with
 |zero=>intro t i x j h;omega
 |succ f ih=>
  intro t i x j h;cases t with
  |e=>
   simp only[PT.tg];by_cases h0:i=0
   ·subst h0;simp only[Nat.beq_refl,cond_true,PT.iB,PT.fN];by_cases hj:j=0
    ·subst hj;simp
    ·rw[iQ (λe=>hj e.symm)];have:Nat.beq j 0=false:=yG hj;rw[this];cases hb:Nat.beq (j%2) 1<;>simp
   ·have Em:Nat.beq i 0=false:=yG h0;rw[Em];simp only[cond_false];cases hm:Nat.beq (i%2) 1
    ·have rp:i%2≠1:=yb hm;simp only[cond_false,PT.iB,PT.fN];by_cases hj:j=0
     ·subst hj;simp[h0]
     ·have rq:Nat.beq j 0=false:=yG hj;rw[rq];simp only[cond_false];cases fO:Nat.beq (j%2) 1
      ·have mo:j%2≠1:=yb fO;simp only[cond_false];rw[ih _ _ _ _ omQ];simp only[PT.fN];by_cases e:i=j
       ·subst e;simp
       ·rw[iQ omQ,iQ e]
      ·have mo:j%2=1:=Nat.eq_of_beq_eq_true fO;simp only[cond_true];rw[iQ omQ]
    ·have rp:i%2=1:=Nat.eq_of_beq_eq_true hm;simp only[cond_true,PT.iB,PT.fN];by_cases hj:j=0
     ·subst hj;simp[h0]
     ·have rq:Nat.beq j 0=false:=yG hj;rw[rq];simp only[cond_false];cases fO:Nat.beq (j%2) 1
      ·have mo:j%2≠1:=yb fO;simp only[cond_false];rw[iQ omQ]
      ·have mo:j%2=1:=Nat.eq_of_beq_eq_true fO;simp only[cond_true];rw[ih _ _ _ _ omQ];simp only[PT.fN];by_cases e:i=j
       ·subst e;simp
       ·rw[iQ omQ,iQ e]
  |n l v r=>
   simp only[PT.tj];by_cases h0:i=0
   ·subst h0;simp only[Nat.beq_refl,cond_true,PT.iB];by_cases hj:j=0
    ·subst hj;simp
    ·rw[iQ (λe=>hj e.symm)];have:Nat.beq j 0=false:=yG hj;rw[this];simp
   ·have Em:Nat.beq i 0=false:=yG h0;rw[Em];simp only[cond_false];cases hm:Nat.beq (i%2) 1
    ·have rp:i%2≠1:=yb hm;simp only[cond_false,PT.iB];by_cases hj:j=0
     ·subst hj;simp[h0]
     ·have rq:Nat.beq j 0=false:=yG hj;rw[rq];simp only[cond_false];cases fO:Nat.beq (j%2) 1
      ·have mo:j%2≠1:=yb fO;simp only[cond_false];rw[ih _ _ _ _ omQ];by_cases e:i=j
       ·subst e;simp
       ·rw[iQ omQ,iQ e]
      ·have mo:j%2=1:=Nat.eq_of_beq_eq_true fO;simp only[cond_true];rw[iQ omQ]
    ·have rp:i%2=1:=Nat.eq_of_beq_eq_true hm;simp only[cond_true,PT.iB];by_cases hj:j=0
     ·subst hj;simp[h0]
     ·have rq:Nat.beq j 0=false:=yG hj;rw[rq];simp only[cond_false];cases fO:Nat.beq (j%2) 1
      ·have mo:j%2≠1:=yb fO;simp only[cond_false];rw[iQ omQ]
      ·have mo:j%2=1:=Nat.eq_of_beq_eq_true fO;simp only[cond_true];rw[ih _ _ _ _ omQ];by_cases e:i=j
       ·subst e;simp
       ·rw[iQ omQ,iQ e]
theorem PT.bF {α:Type} (t:PT α) (i:Nat) (x:α) (j:Nat):(t.set i x).get j=if i=j then some x else t.get j :=
 PT.ow (i+1) t i x j (Nat.lt_succ_self i)
@[simp] theorem PT.get_set_same {α:Type} (t:PT α) (i:Nat) (x:α):(t.set i x).get i=some x:=by rw[PT.bF,iJ rfl]
def X0 (i m:Nat):Bool:=Nat.beq (Nat.land i m) 0
theorem PT.ru {α:Type} (i j m:Nat) (f:PT α→PT α) (t:PT α):PT.lm j m (PT.sub i m f t)=if X0 i m=X0 j m then f (PT.lm j m t)else PT.lm j m t:=by
 unfold X0;cases t with
 |e=>
  show PT.lm j m (Bool.rec (motive:=λ_=>PT α) (.n .e none (f .e)) (.n (f .e) none .e) (Nat.beq (Nat.land i m) 0))=_;cases Nat.beq (Nat.land i m) 0
  ·show Bool.rec (motive:=λ_=>PT α) (f .e) .e (Nat.beq (Nat.land j m) 0)=_;cases Nat.beq (Nat.land j m) 0<;>rfl
  ·show Bool.rec (motive:=λ_=>PT α) .e (f .e) (Nat.beq (Nat.land j m) 0)=_;cases Nat.beq (Nat.land j m) 0<;>rfl
 |n l v r=>
  show PT.lm j m (Bool.rec (motive:=λ_=>PT α) (.n l v (f r)) (.n (f l) v r) (Nat.beq (Nat.land i m) 0))=if _ then f (Bool.rec (motive:=λ_=>PT α) r l (Nat.beq (Nat.land j m) 0))else Bool.rec (motive:=λ_=>PT α) r l (Nat.beq (Nat.land j m) 0)
  cases Nat.beq (Nat.land i m) 0
  ·show Bool.rec (motive:=λ_=>PT α) (f r) l (Nat.beq (Nat.land j m) 0)=_;cases Nat.beq (Nat.land j m) 0<;>rfl
  ·show Bool.rec (motive:=λ_=>PT α) r (f l) (Nat.beq (Nat.land j m) 0)=_;cases Nat.beq (Nat.land j m) 0<;>rfl
theorem PT.nr {α:Type} (x:α) (t:PT α):(PT.mark x t).leaf=some x:=by cases t<;>rfl
noncomputable def uS {α:Type}:List Nat→PT α→Nat→Option α
 |[],t,_=>t.leaf
 |m::r,t,i=>uS r (PT.lm i m t) i
noncomputable def AQ {α:Type}:List Nat→Nat→α→PT α→PT α
 |[],_,x=>PT.mark x
 |m::r,i,x=>PT.sub i m (AQ r i x)
theorem qKD {α:Type} (i j:Nat) (x:α):∀(L:List Nat) (t:PT α),uS L (AQ L i x t) j=if(∀m∈L,X0 i m=X0 j m)then some x else uS L t j:=by
 intro L
 induction L with
 |nil=>intro t;simp[uS,AQ,PT.nr]
 |cons m L ih=>
  intro t;simp only[uS,AQ,PT.ru];by_cases h:X0 i m=X0 j m
  ·rw[iJ h,ih];by_cases h2:∀k∈L,X0 i k=X0 j k
   ·rw[iJ h2,iJ (by intro k hk;rcases List.mem_cons.1 hk with rfl |hk;exact h;exact h2 k hk)]
   ·rw[iQ h2,iQ (λhh=>h2 λk hk=>hh k (iX _ hk))]
  ·rw[iQ h,iQ (λhh=>h (hh m (iK ..)))]
def KR:List Nat:=[2048,1024,512,256,128,64,32,16,8,4,2,1]
theorem Y8 (i k:Nat):X0 i (2 ^ k)=!i.testBit k:=by
 unfold X0;cases h:i.testBit k
 ·have:Nat.land i (2 ^ k)=0:=by
   apply Nat.eq_of_testBit_eq;intro n;show(i&&&2 ^ k).testBit n=_;rw[Nat.testBit_and,Nat.testBit_two_pow];by_cases e:k=n
   ·subst e;simp[h]
   ·simp[e]
  rw[this];rfl
 ·have:Nat.land i (2 ^ k)≠0:=by
   intro e;have:=congrArg (λx=>x.testBit k) e;simp only[Nat.zero_testBit]at this;have h2:(i&&&2 ^ k).testBit k=false:=this;rw[Nat.testBit_and,Nat.testBit_two_pow,h]at h2;simp at h2
  rw[yG this];rfl
theorem Mz (i j:Nat):(∀m∈KR,X0 i m=X0 j m)↔i%4096=j%4096:=by
 have hm:KR=[2 ^ 11,2 ^ 10,2 ^ 9,2 ^ 8,2 ^ 7,2 ^ 6,2 ^ 5,2 ^ 4,2 ^ 3,2 ^ 2,2 ^ 1,2 ^ 0]:=rfl;rw[hm];constructor
 ·intro h;have hb:∀k,k<12→i.testBit k=j.testBit k:=by
   intro k hk;have iH:2 ^ k∈[2 ^ 11,2 ^ 10,2 ^ 9,2 ^ 8,2 ^ 7,2 ^ 6,2 ^ 5,2 ^ 4,2 ^ 3,2 ^ 2,2 ^ 1,2 ^ 0]:=by
    have:k=0∨k=1∨k=2∨k=3∨k=4∨k=5∨k=6∨k=7∨k=8∨k=9∨k=10∨k=11:=by omega
    rcases this with rfl |rfl |rfl |rfl |rfl |rfl |rfl |rfl |rfl |rfl |rfl |rfl<;>simp
   have:=h _ iH;rw[Y8,Y8]at this;simpa using this
  apply Nat.eq_of_testBit_eq;intro n;rw[show 4096=2 ^ 12 from rfl,Nat.testBit_mod_two_pow,Nat.testBit_mod_two_pow];by_cases hn:n<12
  ·simp[hn,hb n hn]
  ·simp[hn]
 ·intro h m iH;have key:∀k,k<12→X0 i (2 ^ k)=X0 j (2 ^ k):=by
   intro k hk;rw[Y8,Y8];have:=congrArg (λx=>x.testBit k) h;simp only[show 4096=2 ^ 12 from rfl,Nat.testBit_mod_two_pow,hk,decide_true,Bool.true_and]at this;rw[this]
  simp only[List.mem_cons,List.not_mem_nil,or_false]at iH;rcases iH with rfl |rfl |rfl |rfl |rfl |rfl |rfl |rfl |rfl |rfl |rfl |rfl<;>exact key _ omQ
theorem PT.lE {α:Type} (t:PT α) (i:Nat):t.iy i=uS KR t i:=rfl
theorem PT.ox {α:Type} (t:PT α) (i:Nat) (x:α):t.mO i x=AQ KR i x t:=rfl
theorem PT.nt {α:Type} (t:PT α) (i:Nat) (x:α) (j:Nat):(t.mO i x).iy j=if i%4096=j%4096 then some x else t.iy j:=by
 rw[PT.lE,PT.lE,PT.ox,qKD];by_cases h:i%4096=j%4096
 ·rw[iJ h,iJ ((Mz i j).2 h)]
 ·rw[iQ h,iQ (λhh=>h ((Mz i j).1 hh))]
theorem aJ.get_eq {α:Type} (t:aJ α) (i:Nat):t.get i=(PT.get t (i/4096)).bind λs=>s.iy i:=by show Option.rec (motive:=λ_=>Option α) none (λs=>PT.iy s i) (PT.get t (i/4096))=_;cases PT.get t (i/4096)<;>rfl
theorem aJ.eo {α:Type} (i:Nat):aJ.get (PT.e:aJ α) i=none:=rfl
theorem aJ.bF {α:Type} (t:aJ α) (i:Nat) (x:α) (j:Nat):(t.set i x).get j=if i=j then some x else t.get j:=by
 rw[aJ.get_eq,aJ.get_eq];show((PT.set t (i/4096) (PT.mO (Option.rec (motive:=λ_=>PT α) .e (λs=>s) (PT.get t (i/4096))) i x)).get (j/4096)).bind _=_;rw[PT.bF];by_cases hd:i/4096=j/4096
 ·rw[iJ hd,Option.bind_some,PT.nt,← hd];by_cases hm:i%4096=j%4096
  ·have:i=j:=by omega
   rw[iJ hm,iJ this]
  ·have:i≠j:=λe=>hm (by rw[e]);rw[iQ hm,iQ this];cases PT.get t (i/4096)<;>rfl
 ·have:i≠j:=λe=>hd (by rw[e]);rw[iQ hd,iQ this]
@[simp] theorem aJ.get_set_same {α:Type} (t:aJ α) (i:Nat) (x:α):(t.set i x).get i=some x:=by rw[aJ.bF,iJ rfl]
theorem Qp (p:Nat×cy) (l:List (Nat×cy)) (b:Nat) (d:Option cy):KW (p::l) b d=if p.1=b then some p.2 else KW l b d:=by
 show Bool.rec (motive:=λ_=>Option cy) (KW l b d) (some p.2) (Nat.beq p.1 b)=_;by_cases h:p.1=b
 ·rw[iJ h,h,Nat.beq_refl]
 ·rw[iQ h,yG h]
theorem Vp:∀(n:Nat) (l:List (Nat×cy)) (b:Nat) (d:Option cy),KW (Mx n l) b (KW (yl n l) b d)=KW l b d:=by
 intro n
 induction n with
 |zero=>intro l b d;rfl
 |succ n ih=>
  intro l b d;cases l with
  |nil=>rfl
  |cons p l=>show KW (p::Mx n l) b (KW (yl n l) b d)=_;rw[Qp,Qp,ih]
theorem VT:∀(l:List (Nat×cy)) (t:aJ cy) (b:Nat),aJ.get (Ma l t) b=KW l b (aJ.get t b):=by
 intro l
 induction l with
 |nil=>intro t b;rfl
 |cons p l ih=>intro t b;show aJ.get (aJ.set (Ma l t) p.1 p.2) b=_;rw[aJ.bF,Qp,ih]
theorem AH.mR (h:AH) (b b':Nat) (x:cy):(h.put b x).get b'=if b=b' then some x else h.get b':=by show KW ((b,x)::Mx 5 h.rc) b' (aJ.get (Ma (yl 5 h.rc) h.t) b')=_;rw[Qp,VT,Vp];rfl
theorem AH.mS (h:AH) (b':Nat) (x:cy):(h.new x).get b'=if h.nx=b' then some x else h.get b':=by show KW ((h.nx,x)::Mx 5 h.rc) b' (aJ.get (Ma (yl 5 h.rc) h.t) b')=_;rw[Qp,VT,Vp];rfl
@[simp] theorem AH.aQ (h:AH) (b:Nat) (x:cy):(h.put b x).get b=some x:=by rw[AH.mR,iJ rfl]
theorem AH.bn (h:AH) {b b':Nat} (x:cy) (e:b≠b'):(h.put b x).get b'=h.get b':=by rw[AH.mR,iQ e]
@[simp] theorem AH.br (h:AH) (x:cy):(h.new x).get h.nx=some x:=by rw[AH.mS,iJ rfl]
theorem AH.bJ (h:AH) {b:Nat} (x:cy) (e:h.nx≠b):(h.new x).get b=h.get b:=by rw[AH.mS,iQ e]
@[simp] theorem AH.tn (h:AH) (b:Nat) (x:cy):(h.put b x).nx=h.nx:=rfl
@[simp] theorem AH.En (h:AH) (x:cy):(h.new x).nx=h.nx+1:=rfl
theorem qgl (a b:IntKind):Ec a b=(a==b):=by cases a<;>cases b<;>rfl
theorem qvS (t w:Bool):s9 t w=(t==w):=by cases t<;>cases w<;>rfl
theorem NC (b:Bool):td b=!b:=by cases b<;>rfl
theorem qkl (x y:Int):ta x y=x+y:=by cases x<;>cases y<;>rfl
theorem qko (x y:Int):tc x y=x-y:=by
 cases x with
 |negSucc a=>rfl
 |ofNat a=>
  cases y with
  |negSucc b=>rfl
  |ofNat b=>
   show Bool.rec (motive:=λ_=>Int) (.negSucc (Nat.sub (Nat.sub b a) 1)) (.ofNat (Nat.sub a b)) (Nat.ble b a)=(a:Int)-(b:Int);cases hb:Nat.ble b a
   ·have:¬b≤a:=λh=>by rw[iY h]at hb;cases hb
    show Int.negSucc (b-a-1)=_;rw[Int.negSucc_eq];omega
   ·have:=Nat.le_of_ble_eq_true hb;show Int.ofNat (a-b)=_;show((a-b:Nat):Int)=_;omega
theorem Kz (x y:Int):NX x y=mP x y:=by cases x<;>cases y<;>rfl
theorem IL (x y:Int):AF x y=lC x y:=by cases x<;>cases y<;>rfl
theorem Zz (k:IntKind) (n:Int) (f:Int→R):Zf k n f=f (zv k n):=by
 cases k<;>first |rfl |skip
 ·cases n with
  |negSucc a=>rfl
  |ofNat a=>
   show Bool.rec (motive:=λ_=>R) (f (zv .i64 (.ofNat a))) (f (.ofNat a)) (Nat.ble a 9223372036854775807)=_;cases hb:Nat.ble a 9223372036854775807
   ·rfl
   ·simp only[zv,hb,cond_true]
 ·cases n with
  |negSucc a=>rfl
  |ofNat a=>
   show Bool.rec (motive:=λ_=>R) (f (zv .u64 (.ofNat a))) (f (.ofNat a)) (Nat.ble a 18446744073709551615)=_;cases hb:Nat.ble a 18446744073709551615
   ·rfl
   ·have:=Nat.le_of_ble_eq_true hb;simp only[zv];rw[Nat.mod_eq_of_lt omQ]
theorem qzP (op:BinOp) (k:IntKind) (x y:Int) (f:AV→R):Ed op k x y f=ob (QK op k x y) f:=by
 cases op<;>first |rfl |skip
 ·show Zf k (ta x y) (λn=>f (.int k n))=f (.int k (zv k (x+y)));rw[Zz,qkl]
 ·show Zf k (tc x y) (λn=>f (.int k n))=f (.int k (zv k (x-y)));rw[Zz,qko]
 ·show f (.bool (AF x y))=_;rw[IL];rfl
 ·show f (.bool (td (AF x y)))=_;rw[IL,NC];rfl
 ·show f (.bool (NX x y))=_;rw[Kz];rfl
 ·show f (.bool (td (NX y x)))=_;rw[Kz,NC];rfl
 ·show f (.bool (NX y x))=_;rw[Kz];rfl
 ·show f (.bool (td (NX x y)))=_;rw[Kz,NC];rfl
theorem AR {α:Type} (x:Option α) (k:α→R):Option.rec (motive:=λ_=>R) none k x=ob x k:=by cases x<;>rfl
theorem ry (b:Bool) (x y:R):Bool.rec (motive:=λ_=>R) y x b=bif b then x else y:=by cases b<;>rfl
theorem O3 (v:AV) (a b:R):zH v a b=(match v with | .bool t=>(match t with |true=>a |false=>b) |_=>none):=by cases v<;>first |rfl |(rename_i t;cases t<;>rfl)
theorem K9 (v:AV) (w:Bool) (a b:R):vp v w a b=(match v with | .bool t=>bif t==w then a else b |_=>b):=by cases v<;>first |rfl |(rename_i t;show Bool.rec (motive:=λ_=>R) b a (s9 t w)=_;rw[qvS,ry])
theorem OD (c a b:AV) (k:AV→R):gG c a b k=(match c with | .bool t=>(match t with |true=>k a |false=>k b) |_=>none):=by cases c<;>first |rfl |(rename_i t;cases t<;>rfl)
theorem Ub (v:AV) (off:Nat) (k:AV→R):qp v off k=(match v with | .ptr b o=>k (.ptr b (o+off)) |_=>none):=by cases v<;>rfl
theorem Mf (v:AV) (off:Nat) (k:AV→R):Gw v off k=(match v with | .agg cs=>ob (wM cs off) k |_=>none):=by cases v<;>first |rfl |exact AR _ _
theorem Kf (v i:AV) (sz:Nat) (k:AV→R):vG v i sz k=(match v,i with | .slice b off len _ _,.int _ (.ofNat a)=>bif Nat.ble (a+1) len then k (.ptr b (off+a*sz))else none |_,_=>none):=by
 cases v<;>first |rfl |skip
 cases i<;>first |rfl |skip
 rename_i n;cases n<;>first |rfl |exact ry _ _ _
theorem y7 (h:AH) (v:AV) (k:AV→R):jj h v k=(match v with | .ptr b off=>(match h.get b with |some (.cells c _ _)=>ob (c.dX off) k |some (.cI t)=>ob (aJ.get t off) k |_=>none) |_=>none):=by
 cases v<;>first |rfl |skip
 rename_i b off;show Option.rec (motive:=λ_=>R) none _ (h.get b)=(match h.get b with |some (.cells c _ _)=>ob (c.dX off) k |some (.cI t)=>ob (aJ.get t off) k |_=>none);cases h.get b with
 |none=>rfl
 |some x=>cases x<;>first |rfl |exact AR _ _
theorem wz (h:AH) (v:AV) (n:Nat) (k:AV→R):zi h v n k=(match v with | .ptr b off=>ob (yK h b off n) λl=>k (.agg l) |_=>none):=by cases v<;>first |rfl |exact AR _ _
theorem GM (h:AH) (a x:AV) (n:Nat) (k:AH→R):jP h a x n k=(match a with | .ptr b off=>bif Nat.beq x.cells.length n then ob (gC h b off x.cells) k else none |_=>none):=by
 cases a<;>first |rfl |skip
 rename_i b off;show Bool.rec (motive:=λ_=>R) none (Option.rec (motive:=λ_=>R) none k (gC h b off x.cells)) (Nat.beq x.cells.length n)=_;rw[ry,AR]
theorem Ny (op:BinOp) (x y:AV) (k:AV→R):jb op x y k=(match x,y with | .int k1 a,.int k2 b=>bif k1==k2 then ob (QK op k1 a b) k else none |_,_=>none):=by
 cases x<;>first |rfl |skip
 cases y<;>first |rfl |skip
 rename_i k1 a k2 b;show Bool.rec (motive:=λ_=>R) none (Ed op k1 a b k) (Ec k1 k2)=_;rw[ry,qzP,qgl]
theorem JN (v:AV) (i:Nat) (k:AV→R):xq v i k=(match v with | .bM l=>ob (wM l i) k |_=>none):=by cases v<;>first |rfl |exact AR _ _
theorem QQ (c:CV) (f:AV) (a:List AV) (h:AH) (k:AV→AH→R):ju c f a h k=(match c f a h with |some q=>k q.1 q.2 |none=>none):=by unfold ju;cases c f a h<;>rfl
theorem xR {α:Type} (l:List α) (i:Nat):wM l i=l[i]?:=by
 induction l generalizing i with
 |nil=>simp[Uz]
 |cons a r ih=>
  cases i with
  |zero=>simp[Vi]
  |succ i=>simp only[Vi];rw[show Nat.beq (i+1) 0=false from rfl];simp[ih]
theorem wc {α:Type} (n:Nat) (l:List α):yl n l=l.drop n:=by
 induction n generalizing l with
 |zero=>simp[qvh]
 |succ n ih=>cases l<;>simp[qKi,qJI,ih]
theorem wg {α:Type} {n:Nat} {l s:List α} (h:yy n l=some s):s=l.take n∧n≤l.length:=by
 induction n generalizing l s with
 |zero=>simp[II]at h;simp[h]
 |succ n ih=>
  cases l with
  |nil=>simp[qX6]at h
  |cons a r=>simp only[Uy,Option.bind_eq_some_iff]at h;obtain⟨t,ht,hs⟩:=h;obtain⟨e1,e2⟩:=ih ht;cases hs;simp[e1];omega
theorem qKU {α:Type} {n:Nat} {l s:List α} (h:yy n l=some s):s.length=n:=by obtain⟨e,h'⟩:=wg h;rw[e,List.length_take];omega
theorem qXo {α:Type} {l xs r:List α} (h:U8 l xs=some r):r=xs++l.drop xs.length∧xs.length≤l.length:=by
 induction xs generalizing l r with
 |nil=>cases l<;>(simp[IJ]at h;simp[h])
 |cons x xs ih=>
  cases l with
  |nil=>simp[qqU]at h
  |cons a l=>simp only[MA,Option.bind_eq_some_iff]at h;obtain⟨t,ht,hs⟩:=h;obtain⟨e1,e2⟩:=ih ht;cases hs;simp[e1];omega
theorem Gs {α:Type} {l:List α} {off:Nat} {xs r:List α} (h:kr l off xs=some r):r=l.take off++xs++l.drop (off+xs.length)∧off+xs.length≤l.length:=by
 induction off generalizing l r with
 |zero=>have h':U8 l xs=some r:=h;obtain⟨e1,e2⟩:=qXo h';simp[e1];omega
 |succ n ih=>
  cases l with
  |nil=>simp[qJn]at h
  |cons a l=>simp only[G6,Option.bind_eq_some_iff]at h;obtain⟨t,ht,hs⟩:=h;obtain⟨e1,e2⟩:=ih ht;cases hs;refine⟨?_,by simp;omega⟩;rw[e1,show n+1+xs.length=(n+xs.length)+1 from by omega];simp
theorem gY {α:Type} {n:Nat} {l:List α} (h:n≤l.length):yy n l=some (l.take n):=by
 induction n generalizing l with
 |zero=>cases l<;>simp[II]
 |succ n ih=>
  cases l with
  |nil=>simp at h
  |cons a r=>simp at h;simp[Uy,ih h]
theorem qzo {α:Type} {xs l:List α} (h:xs.length≤l.length):U8 l xs=some (xs++l.drop xs.length):=by
 induction xs generalizing l with
 |nil=>cases l<;>simp[IJ]
 |cons x xs ih=>
  cases l with
  |nil=>simp at h
  |cons a r=>simp at h;simp[MA,ih h]
theorem GO {α:Type} {xs:List α}:∀{off:Nat} {l:List α},off+xs.length≤l.length→kr l off xs=some (l.take off++xs++l.drop (off+xs.length)):=by
 intro off
 induction off with
 |zero=>intro l h;have:kr l 0 xs=U8 l xs:=rfl;rw[this,qzo omQ];simp
 |succ n ih=>
  intro l h;cases l with
  |nil=>simp at h
  |cons a r=>simp at h;simp only[G6];rw[ih omQ,show n+1+xs.length=(n+xs.length)+1 from by omega];simp
theorem wI:∀(l:List AV) (i:Nat) (t:aJ AV) (j:Nat),aJ.get (ZV t i l) j=if i≤j∧j<i+l.length then l[j-i]? else aJ.get t j:=by
 intro l
 induction l with
 |nil=>intro i t j;simp only[qYT,List.length_nil];rw[iQ omQ]
 |cons a l ih=>
  intro i t j;simp only[qV2,ih,List.length_cons];by_cases h1:i+1≤j∧j<i+1+l.length
  ·rw[iJ h1,iJ omQ,show j-i=(j-(i+1))+1 by omega];simp
  ·rw[iQ h1,aJ.bF];by_cases h2:i=j
   ·subst h2;rw[iJ rfl,iJ omQ];simp
   ·rw[iQ h2,iQ omQ]
theorem CT.dl (c:CT):c.len=c.toList.length:=by cases c<;>simp[CT.len,CT.toList]
theorem XF {z:List AV} {t:aJ AV} {i:Nat} {v:AV} (h:Qz z t i=some v):gO z t i=v:=by simp only[gO,h]
theorem vv {a b:Nat} (h:Nat.ble a b=true):a≤b:=Nat.le_of_ble_eq_true h
theorem CT.rz {c:CT} {i:Nat} {v:AV} (h:c.dX i=some v):wM c.toList i=some v:=by
 cases c with
 |dW xs=>exact h
 |tree n z t=>
  simp only[CT.dX]at h;cases hb:Nat.ble (i+1) n
  ·rw[hb]at h;cases h
  ·rw[hb]at h;have:=vv hb;rw[xR];simp only[CT.toList,List.getElem?_map,List.getElem?_range this,Option.map_some,XF h]
theorem qYF {z:List AV} {t:aJ AV}:∀{n i:Nat} {l:List AV},Qs z t i n=some l→l=(List.range' i n).map (gO z t):=by
 intro n
 induction n with
 |zero=>intro i l h;simp only[IK,Option.some.injEq]at h;subst h;rfl
 |succ n ih=>intro i l h;simp only[M7,Option.bind_eq_some_iff]at h;obtain⟨v,hv,s,hs,h⟩:=h;cases h;rw[List.range'_succ,List.map_cons,← ih hs,XF hv]
theorem CT.lF {c:CT} {off n:Nat} {l:List AV} (h:c.fM off n=some l):yy n (yl off c.toList)=some l:=by
 cases c with
 |dW xs=>exact h
 |tree m z t=>
  simp only[CT.fM]at h;cases hn:Nat.beq n 0
  ·rw[hn]at h;simp only[cond_false]at h;cases hb:Nat.ble (off+n) m
   ·rw[hb]at h;cases h
   ·rw[hb]at h;have:=vv hb;rw[wc,gY (by simp[CT.toList];omega),qYF h];simp only[CT.toList];rw[← List.map_drop,← List.map_take]
    congr 2
    apply List.ext_getElem?;intro i;by_cases hi:i<n
    ·rw[List.getElem?_take_of_lt hi,List.getElem?_drop,List.getElem?_range omQ,List.getElem?_range' hi];simp
    ·rw[List.getElem?_eq_none (by simp;omega),List.getElem?_eq_none (by simp;omega)]
  ·have:=jf hn;subst this;rw[hn]at h;simp only[cond_true]at h;rw[← h];rfl
theorem CT.lG {c c':CT} {off:Nat} {xs:List AV} (h:c.write off xs=some c'):kr c.toList off xs=some c'.toList:=by
 cases c with
 |dW ys=>simp only[CT.write,Option.bind_eq_some_iff]at h;obtain⟨s,hs,h⟩:=h;cases h;exact hs
 |tree n z t=>
  simp only[CT.write]at h;cases hb:Nat.ble (off+xs.length) n
  ·rw[hb]at h;cases h
  ·rw[hb]at h;have hle:=vv hb;cases h;rw[GO (by simp[CT.toList];omega)]
   congr 1
   apply List.ext_getElem?;intro i;simp only[CT.toList];by_cases hi:i<n
   ·rw[List.getElem?_map,List.getElem?_range hi,Option.map_some];by_cases h1:i<off
    ·rw[List.getElem?_append_left (by simp;omega),List.getElem?_append_left (by simp;omega),List.getElem?_take_of_lt h1,List.getElem?_map,List.getElem?_range hi];simp only[Option.map_some,gO,yC,wI];rw[iQ omQ]
    ·by_cases h2:i<off+xs.length
     ·rw[List.getElem?_append_left (by simp;omega),List.getElem?_append_right (by simp;omega)];have hlen:(List.take off ((List.range n).map (gO z t))).length=off:=by simp;omega
      rw[hlen,iW (show i-off<xs.length by omega)];simp only[gO,yC,wI];rw[iJ omQ,iW (show i-off<xs.length by omega)]
     ·rw[List.getElem?_append_right (by simp;omega),List.getElem?_drop];have hlen:(List.take off ((List.range n).map (gO z t))++xs).length=off+xs.length:=by simp;omega
      rw[hlen,show off+xs.length+(i-(off+xs.length))=i by omega,List.getElem?_map,List.getElem?_range hi];simp only[Option.map_some,gO,yC,wI];rw[iQ omQ]
   ·rw[List.getElem?_eq_none (by simp;omega),List.getElem?_eq_none (by simp;omega)]
theorem CT.aI (xs:List AV):(CT.ofList xs).toList=xs:=by
 unfold CT.ofList;cases Nat.ble xs.length 16
 ·simp only[cond_false,CT.toList];apply List.ext_getElem?;intro i;by_cases hi:i<xs.length
  ·rw[List.getElem?_map,List.getElem?_range hi,iW hi];simp only[Option.map_some,gO,yC,wI];rw[iJ omQ,Nat.sub_zero,iW hi]
  ·rw[List.getElem?_eq_none (by simp;omega),List.getElem?_eq_none omQ]
 ·rfl
theorem qKO (z:List AV):∀(n i:Nat),i<z.length*n→(yr z n)[i]? =z[i%z.length]?:=by
 intro n
 induction n with
 |zero=>intro i h;simp at h
 |succ n ih=>
  intro i h;rw[Nat.mul_succ]at h;simp only[yr];by_cases hi:i<z.length
  ·rw[List.getElem?_append_left hi,Nat.mod_eq_of_lt hi]
  ·rw[List.getElem?_append_right omQ,ih _ omQ,← Nat.mod_eq_sub_mod omQ]
theorem qK3 (z:List AV):∀n,(yr z n).length=z.length*n:=by
 intro n
 induction n with
 |zero=>rfl
 |succ n ih=>simp only[yr,List.length_append,ih,Nat.mul_succ];omega
theorem CT.mq (z:List AV) (n:Nat):(CT.uL z n).toList=yr z n:=by
 unfold CT.uL;cases Nat.ble (z.length*n) 16
 ·simp only[cond_false,CT.toList];apply List.ext_getElem?;intro i;by_cases hi:i<z.length*n
  ·rw[List.getElem?_map,List.getElem?_range hi,qKO z n i hi];have hz:0<z.length:=by
    rcases Nat.eq_zero_or_pos z.length with h |h
    ·rw[h]at hi;omega
    ·exact h
   have hm:=Nat.mod_lt i hz;simp only[Option.map_some,gO,yC,aJ.eo,xR];rw[iW hm]
  ·rw[List.getElem?_eq_none (by simp;omega),List.getElem?_eq_none (by rw[qK3];omega)]
 ·rfl
theorem CT.oy (c:CT) (xs:List AV):(c.fb xs).toList=c.toList++xs:=by
 cases c with
 |dW ys=>exact CT.aI _
 |tree n z t=>
  simp only[CT.fb,CT.toList];apply List.ext_getElem?;intro i;by_cases hi:i<n
  ·rw[List.getElem?_map,List.getElem?_range omQ,List.getElem?_append_left (by simp;omega),List.getElem?_map,List.getElem?_range hi];simp only[Option.map_some,gO,yC,wI];rw[iQ omQ]
  ·rw[List.getElem?_append_right (by simp;omega)];by_cases h2:i<n+xs.length
   ·rw[List.getElem?_map,List.getElem?_range h2];have hlen:((List.range n).map (gO z t)).length=n:=by simp
    rw[hlen,iW (show i-n<xs.length by omega)];simp only[Option.map_some,gO,yC,wI];rw[iJ omQ,iW (show i-n<xs.length by omega)]
   ·rw[List.getElem?_eq_none (by simp;omega),List.getElem?_eq_none (by simp;omega)]
theorem CT.mu {c c':CT} {n:Nat} (h:c.pre n=some c'):yy n c.toList=some c'.toList:=by
 cases c with
 |dW ys=>simp only[CT.pre,Option.bind_eq_some_iff]at h;obtain⟨s,hs,h⟩:=h;cases h;exact hs
 |tree m z t=>
  simp only[CT.pre]at h;cases hb:Nat.ble n m
  ·rw[hb]at h;cases h
  ·rw[hb]at h;have:=vv hb;cases h;rw[gY (by simp[CT.toList];omega)];simp only[CT.toList];rw[← List.map_take,List.take_range,show min n m=n by omega]
theorem CT.tp {c c':CT} {off n:Nat} (h:c.C6 off n=some c'):yy n (yl off c.toList)=some c'.toList:=by
 unfold CT.C6 at h;cases h0:Nat.beq off 0
 ·rw[h0]at h;simp only[cond_false,Option.bind_eq_some_iff]at h;obtain⟨l,hl,h⟩:=h;cases h;rw[CT.aI];exact CT.lF hl
 ·rw[h0]at h;have:=jf h0;subst this;exact CT.mu h
abbrev Mp:=Nat→Nat×Nat
mutual
def cv (m:Mp):AV→Value
 | .bool b=>.bool b
 | .int k n=>.int k n
 | .str s=>.string ⟨s.toArray⟩
 | .ptr b o=>.pointer (some ⟨(m b).1,o,none⟩)
 | .aO=>.pointer none
 | .slice b o l c p=>.slice (some ⟨(m b).1,o,none⟩) l (match p with |true=>(m b).2-c |false=>c)
 | .ak=>.slice none 0 0
 | .fn f a c=>.func (.func f) (aS m a).toArray (aS m c).toArray
 | .yield l=>.func (.yield (m l).1) #[] #[]
 | .dC=>.nilFunc
 | .iface t v=>.iface t (cv m v)
 | .cH=>.nilIface
 | .agg l=>.agg (aS m l).toArray
 | .bM l=>.tuple (aS m l).toArray
 | .bT a=>.slice (some a) 0 0
 | .tail b o o' i=>.slice (some ⟨(m b).1,if(m b).2=i then o else o',none⟩) 0 ((m b).2-i)
 | .dN b=>.map (some (m b).1)
def aS (m:Mp):List AV→List Value
 |[]=>[]
 |a::r=>cv m a::aS m r
end
mutual
def bm (D:Nat→Prop):AV→Prop
 | .bool _=>True
 | .int _ _=>True
 | .str _=>True
 | .ptr b _=>D b
 | .aO=>True
 | .slice b _ _ _ _=>D b
 | .ak=>True
 | .fn _ a c=>aW D a∧aW D c
 | .yield l=>D l
 | .dC=>True
 | .iface _ v=>bm D v
 | .cH=>True
 | .agg l=>aW D l
 | .bM l=>aW D l
 | .bT _=>True
 | .tail b _ _ _=>D b
 | .dN b=>D b
def aW (D:Nat→Prop):List AV→Prop
 |[]=>True
 |a::r=>bm D a∧aW D r
end
theorem zN (m:Mp) (l:List AV):aS m l=l.map (cv m):=by
 induction l with
 |nil=>rfl
 |cons a r ih=>simp[aS,ih]
@[simp] theorem dK (m:Mp) (l:List AV):(aS m l).length=l.length:=by simp[zN]
theorem Xv (m:Mp) (l r:List AV):aS m (l++r)=aS m l++aS m r:=by simp[zN]
theorem xx (D:Nat→Prop) (l:List AV):aW D l↔∀v∈l,bm D v:=by
 induction l with
 |nil=>simp[aW]
 |cons a r ih=>simp[aW,ih]
theorem yp {D:Nat→Prop} {l r:List AV}:aW D (l++r)↔aW D l∧aW D r:=by simp only[xx,List.mem_append];exact⟨λh=>⟨λv hv=>h v (.inl hv),λv hv=>h v (.inr hv)⟩,λh v hv=>hv.elim (h.1 v) (h.2 v)⟩
theorem Qa {D:Nat→Prop} {l:List AV} (n:Nat) (h:aW D l):aW D (l.take n):=by rw[xx]at*;exact λv hv=>h v (List.mem_of_mem_take hv)
theorem XN {D:Nat→Prop} {l:List AV} (n:Nat) (h:aW D l):aW D (l.drop n):=by rw[xx]at*;exact λv hv=>h v (List.mem_of_mem_drop hv)
mutual
theorem wh {m m':Mp} {D:Nat→Prop} (hm:∀b,D b→m' b=m b):∀v:AV,bm D v→cv m' v=cv m v
 | .bool _,_=>rfl
 | .int _ _,_=>rfl
 | .str _,_=>rfl
 | .ptr b o,h=>by simp only[bm]at h;simp only[cv,hm b h]
 | .aO,_=>rfl
 | .slice b o l c p,h=>by simp only[bm]at h;cases p<;>simp only[cv,hm b h]
 | .ak,_=>rfl
 | .fn f a c,h=>by simp only[bm]at h;simp only[cv,wV hm a h.1,wV hm c h.2]
 | .yield l,h=>by simp only[bm]at h;simp only[cv,hm l h]
 | .dC,_=>rfl
 | .iface t v,h=>by simp only[bm]at h;simp only[cv,wh hm v h]
 | .cH,_=>rfl
 | .agg l,h=>by simp only[bm]at h;simp only[cv,wV hm l h]
 | .bM l,h=>by simp only[bm]at h;simp only[cv,wV hm l h]
 | .bT _,_=>rfl
 | .tail b o o' i,h=>by simp only[bm]at h;simp only[cv,hm b h]
 | .dN b,h=>by simp only[bm]at h;simp only[cv,hm b h]
theorem wV {m m':Mp} {D:Nat→Prop} (hm:∀b,D b→m' b=m b):∀l:List AV,aW D l→aS m' l=aS m l
 |[],_=>rfl
 |a::r,h=>by simp only[aW]at h;simp only[aS,wh hm a h.1,wV hm r h.2]
end
mutual
theorem wN {D D':Nat→Prop} (hd:∀b,D b→D' b):∀v:AV,bm D v→bm D' v
 | .bool _,_=>trivial
 | .int _ _,_=>trivial
 | .str _,_=>trivial
 | .ptr b o,h=>hd b h
 | .aO,_=>trivial
 | .slice b o l c p,h=>hd b h
 | .ak,_=>trivial
 | .fn f a c,h=>by simp only[bm]at*;exact⟨vh hd a h.1,vh hd c h.2⟩
 | .yield l,h=>hd l h
 | .dC,_=>trivial
 | .iface t v,h=>by simp only[bm]at*;exact wN hd v h
 | .cH,_=>trivial
 | .agg l,h=>by simp only[bm]at*;exact vh hd l h
 | .bM l,h=>by simp only[bm]at*;exact vh hd l h
 | .bT _,_=>trivial
 | .tail b _ _ _,h=>hd b h
 | .dN b,h=>hd b h
theorem vh {D D':Nat→Prop} (hd:∀b,D b→D' b):∀l:List AV,aW D l→aW D' l
 |[],_=>trivial
 |a::r,h=>by simp only[aW]at*;exact⟨wN hd a h.1,vh hd r h.2⟩
end
def gL:AX→Code
 | .normal=>.skip
 | .exit i=>.exit i
 | .goto l=>.goto l
 | .ret=>.ret
def Eo (e:Int×Int×Nat):MapEntry:={ key:=.int .i64 e.1,val:=.int .i64 e.2.1,born:=e.2.2 }
def cR (P:Program) (m:Mp) (x:cy) (b:Nat×Nat) (w:World):Prop :=
 match x with
 | .cells c e o=>∃(rest:List Value) (fr:Nat×Nat),w.heap[b.1]? =some (.cells (aS m c.toList++rest).toArray e fr)∧(o=false→rest=[])∧
   (∀i,i<c.toList.length+rest.length→¬(fr.1≤i∧i<fr.2))∧(o=true→∀n,aP P e=some n→c.toList.length≤b.2*n∧b.2*n≤c.toList.length+rest.length)
 | .dead=>True
 | .iter s pos=>w.heap[b.1]? =some (.stringIter ⟨s.toArray⟩ pos)
 | .loop st bQ f pos L vs d=>∃(f':FuncId) (tmps:Array Value) (ps:Array Tmp) (g:Operand) (assign body:Code) (fn:Func) (bd:Code),
   w.heap[b.1]? =some (.loop { state:=st,pending:=bQ.map gL,fn:=f',tmps,params:=ps,assign,body,defers:=(m d).1 })∧
   P.funcs[f]? =some fn∧fn.body=some bd∧ze bd pos=some (.rangeFunc g ps assign body)∧fn.ntmps≤tmps.size∧
   L.length=vs.length∧∀p∈L.zip vs,tmps[p.1]? =some (cv m p.2)
 | .hZ=>w.heap[b.1]? =some (.deferred (some []))
 | .np=>∃o,w.heap[b.1]? =some o
 | .cI t=>∃C e fr,w.heap[b.1]? =some (.cells (List.toArray C) e fr)∧∀i v,aJ.get t i=some v→C[i]? =some (cv m v)
 | .mp l c=>w.heap[b.1]? =some (.map (l.map Eo).toArray c)
def cq (D:Nat→Prop):cy→Prop
 | .cells c _ _=>aW D c.toList
 | .loop _ _ _ _ _ vs d=>aW D vs∧D d
 | .cI t=>∀i v,aJ.get t i=some v→bm D v
 |_=>True
def cy.live:cy→Prop
 | .dead=>False
 | .cI _=>False
 |_=>True
def live (h:AH) (b:Nat):Prop:=∃x,h.get b=some x∧x.live
def own (m:Mp) (D:Nat→Prop) (h:AH) (c:Nat):Prop:=∃b,D b∧live h b∧(m b).1=c
structure Rel0 (P:Program) (m:Mp) (D:Nat→Prop) (h:AH) (w:World):Prop where
  bp:∀b,D b→∃x,h.get b=some x∧cR P m x (m b) w∧cq D x
  inj:∀b b',D b→D b'→live h b→live h b'→(m b).1=(m b').1→b=b'
  lt:∀b,D b→b<h.nx
  cI:∀b t,D b→h.get b=some (.cI t)→¬own m D h (m b).1
def Gl (P:Program) (w:World):Prop:=∀p∈gtab,∃g,P.globalNamed p.1=some g∧Lib.TabIs P w p.1 p.2.1 p.2.2
def sk (P:Program) (m:Mp) (D:Nat→Prop) (h:AH) (w:World):Prop:=∀p∈gtab,∃g,P.globalNamed p.1=some g∧Lib.TabIs P w p.1 p.2.1 p.2.2∧¬own m D h g
structure Rel (P:Program) (m:Mp) (D:Nat→Prop) (h:AH) (w:World):Prop extends Rel0 P m D h w where
  gl:sk P m D h w
theorem sk.gl {P:Program} {m:Mp} {D:Nat→Prop} {h:AH} {w:World} (r:sk P m D h w):Gl P w:=λp hp=>let ⟨g,h1,h2,_⟩:=r p hp;⟨g,h1,h2⟩
theorem X8 {P:Program} {w w':World} {name:String} {k:IntKind} {zs:List Int} {g:Nat} (hg:P.globalNamed name=some g) (h:Lib.TabIs P w name k zs):g<w.heap.size∧(w'.heap[g]? =w.heap[g]? →Lib.TabIs P w' name k zs):=by
 unfold Lib.TabIs World.var? at*;simp only[hg,Option.bind_some]at h ⊢;refine⟨?_,λe=>by rw[e];exact h⟩;rcases Nat.lt_or_ge g w.heap.size with h' |h'
 ·exact h'
 ·rw[Array.getElem?_eq_none h']at h;simp at h
structure Ext (m:Mp) (D:Nat→Prop) (h:AH) (w:World) (m':Mp) (D':Nat→Prop) (h':AH) (w':World):Prop where
  oz:∀b,D b→D' b
  map:∀b,D b→m' b=m b
  size:w.heap.size≤w'.heap.size
  keep:∀c,c<w.heap.size→¬own m D h c→w'.heap[c]? =w.heap[c]? ∧¬own m' D' h' c
  nx:h.nx≤h'.nx
  un:∀b,b<h.nx→¬D b→h'.get b=h.get b∧¬D' b
  os:w'.os=w.os
  tape:w'.tape=w.tape
  output:w'.output=w.output
  dm:∀b,D' b↔D b∨(h.nx≤b∧b<h'.nx)
  ni:∀b t,D' b→h'.get b=some (.cI t)→D b∧h.get b=some (.cI t)
theorem sk.ext {P:Program} {m m':Mp} {D D':Nat→Prop} {h h':AH} {w w':World} (X:Ext m D h w m' D' h' w') (r:sk P m D h w):sk P m' D' h' w':=λp hp=>by
 obtain⟨g,h1,h2,h3⟩:=r p hp;obtain⟨k1,k2⟩:=X8 (w':=w') h1 h2;obtain⟨e1,e2⟩:=X.keep g k1 h3;exact⟨g,h1,k2 e1,e2⟩
theorem Ext.rel {P:Program} {m m':Mp} {D D':Nat→Prop} {h h':AH} {w w':World} (r:Rel P m D h w) (x:Ext m D h w m' D' h' w'∧Rel0 P m' D' h' w'):Ext m D h w m' D' h' w'∧Rel P m' D' h' w':=⟨x.1,{ toRel0:=x.2,gl:=r.gl.ext x.1 }⟩
theorem Ext.refl (m:Mp) (D:Nat→Prop) (h:AH) (w:World):Ext m D h w m D h w :=
 ⟨λ_ x=>x,λ_ _=>rfl,Nat.le_refl _,λ_ _ n=>⟨rfl,n⟩,Nat.le_refl _,λ_ _ n=>⟨rfl,n⟩,rfl,rfl,rfl,λ_=>⟨.inl,λx=>x.elim id λy=>by omega⟩,λ_ _ x y=>⟨x,y⟩⟩
theorem Ext.trans {m m' IN:Mp} {D D' IP:Nat→Prop} {h h' nu:AH} {w w' IQ:World} (a:Ext m D h w m' D' h' w') (b:Ext m' D' h' w' IN IP nu IQ):Ext m D h w IN IP nu IQ where
 oz:=λx hx=>b.oz x (a.oz x hx)
 map:=λx hx=>(b.map x (a.oz x hx)).trans (a.map x hx)
 size:=Nat.le_trans a.size b.size
 keep:=λc hc hn=>by
  obtain⟨e1,n1⟩:=a.keep c hc hn;obtain⟨e2,n2⟩:=b.keep c (Nat.lt_of_lt_of_le hc a.size) n1;exact⟨e2.trans e1,n2⟩
 nx:=Nat.le_trans a.nx b.nx
 un:=λx hx hn=>by
  obtain⟨e1,n1⟩:=a.un x hx hn;obtain⟨e2,n2⟩:=b.un x (Nat.lt_of_lt_of_le hx a.nx) n1;exact⟨e2.trans e1,n2⟩
 os:=b.os.trans a.os
 tape:=b.tape.trans a.tape
 output:=b.output.trans a.output
 dm:=λx=>by
  have h1:=a.nx;have h2:=b.nx;rw[b.dm,a.dm];constructor
  ·rintro((h |h) |h)
   ·exact .inl h
   ·exact .inr ⟨h.1,by omega⟩
   ·exact .inr ⟨by omega,h.2⟩
  ·rintro(h |h)
   ·exact .inl (.inl h)
   ·by_cases hx:x<h'.nx
    ·exact .inl (.inr ⟨h.1,hx⟩)
    ·exact .inr ⟨by omega,h.2⟩
 ni:=λx t hx hg=>by
  obtain⟨h1,h2⟩:=b.ni x t hx hg;exact a.ni x t h1 h2
theorem Ext.cv {m m':Mp} {D D':Nat→Prop} {h h':AH} {w w':World} (e:Ext m D h w m' D' h' w') {v:AV} (hv:bm D v):Ae.cv m' v=Ae.cv m v:=wh e.map v hv
theorem Ext.aS {m m':Mp} {D D':Nat→Prop} {h h':AH} {w w':World} (e:Ext m D h w m' D' h' w') {l:List AV} (hv:aW D l):Ae.aS m' l=Ae.aS m l:=wV e.map l hv
theorem Ext.bm {m m':Mp} {D D':Nat→Prop} {h h':AH} {w w':World} (e:Ext m D h w m' D' h' w') {v:AV} (hv:Ae.bm D v):Ae.bm D' v:=wN e.oz v hv
theorem Ext.aW {m m':Mp} {D D':Nat→Prop} {h h':AH} {w w':World} (e:Ext m D h w m' D' h' w') {l:List AV} (hv:Ae.aW D l):Ae.aW D' l:=vh e.oz l hv
theorem cR.congr {P:Program} {m m':Mp} {D:Nat→Prop} (hm:∀b,D b→m' b=m b) {x:cy} {b:Nat×Nat} {w w':World} (hx:cq D x) (hw:w'.heap[b.1]? =w.heap[b.1]?) (h:cR P m x b w):cR P m' x b w':=by
 cases x with
 |cells c e o=>simp only[cq]at hx;simp only[cR]at*;rw[hw,wV hm c.toList hx];exact h
 |dead=>trivial
 |iter s pos=>simp only[cR]at*;rw[hw];exact h
 |loop st bQ f pos L vs d=>
  simp only[cq]at hx;simp only[cR]at*;obtain⟨f',tmps,ps,g,assign,body,fn,bd,h1,h2,h3,h4,h5,h6,h7⟩:=h;refine⟨f',tmps,ps,g,assign,body,fn,bd,?_,h2,h3,h4,h5,h6,?_⟩
  ·rw[hw,hm d hx.2];exact h1
  ·intro p hp;rw[wh hm p.2 ((xx D vs).1 hx.1 _ (List.of_mem_zip hp).2)];exact h7 p hp
 |hZ=>simp only[cR]at*;rw[hw];exact h
 |np=>simp only[cR]at*;rw[hw];exact h
 |cI t=>simp only[cq]at hx;simp only[cR]at*;obtain⟨C,e,fr,h1,h2⟩:=h;exact⟨C,e,fr,by rw[hw];exact h1,λi v hv=>by rw[wh hm v (hx i v hv)];exact h2 i v hv⟩
 |mp l c=>simp only[cR]at*;rw[hw];exact h
theorem cq.mono {D D':Nat→Prop} (hd:∀b,D b→D' b) {x:cy} (h:cq D x):cq D' x:=by
 cases x<;>simp only[cq]at* <;>first |exact vh hd _ h |exact⟨vh hd _ h.1,hd _ h.2⟩ |exact λi v hv=>wN hd v (h i v hv) |trivial
theorem cR.inside {P:Program} {m:Mp} {x:cy} {b:Nat×Nat} {w:World} (hl:x.live) (h:cR P m x b w):b.1<w.heap.size:=by
 have key:∀o,w.heap[b.1]? =some o→b.1<w.heap.size:=λo e=>(Array.getElem?_eq_some_iff.1 e).1;cases x with
 |cells c e o=>obtain⟨r,fr,h,_⟩:=h;exact key _ h
 |dead=>exact hl.elim
 |iter s pos=>exact key _ h
 |loop st bQ f pos L vs d=>obtain⟨f',tmps,ps,g,assign,body,fn,bd,h1,_⟩:=h;exact key _ h1
 |hZ=>exact key _ h
 |np=>obtain⟨o,h⟩:=h;exact key _ h
 |cI t=>exact hl.elim
 |mp l c=>exact key _ h
theorem cR.fG {P:Program} {m:Mp} {t:aJ AV} {b:Nat×Nat} {w:World} (h:cR P m (.cI t) b w):b.1<w.heap.size:=by obtain⟨C,e,fr,h,_⟩:=h;exact(Array.getElem?_eq_some_iff.1 h).1
theorem Rel.inside {P:Program} {m:Mp} {D:Nat→Prop} {h:AH} {w:World} (r:Rel P m D h w) {b:Nat} (hb:D b) (hl:live h b):(m b).1<w.heap.size:=by obtain⟨x,hx,hr,_⟩:=r.bp b hb;obtain⟨y,hy,ia⟩:=hl;rw[hx]at hy;cases hy;exact hr.inside ia
theorem Rel.new {P:Program} {m:Mp} {D:Nat→Prop} {h:AH} {w w0:World} (r:Rel P m D h w) (x:cy) (o:Obj) (room:Nat)
  (sn:w0.heap=w.heap.push o) (tu:w0.os=w.os) (fP:w0.tape=w.tape) (fw:w0.output=w.output)
  (hx:cq D x) (lH:cR P m x (w.heap.size,room) w0) (fH:∀t,x≠.cI t:=by intro t hh;cases hh) :
  let m':Mp:=λb=>if b=h.nx then(w.heap.size,room)else m b
  let D':Nat→Prop:=λb=>b=h.nx∨D b
  Ext m D h w m' D' (h.new x) w0∧Rel P m' D' (h.new x) w0:=by
 intro m' D';refine Ext.rel r ?_;have hm:∀b,D b→m' b=m b:=λb hb=>by
  have:=r.lt b hb;simp only[m'];rw[iQ omQ]
 have hold:∀c,c<w.heap.size→w0.heap[c]? =w.heap[c]?:=λc hc=>by
  rw[sn,Array.getElem?_push,iQ omQ]
 have cJ:∀b,D b→(h.new x).get b=h.get b:=λb hb=>AH.bJ h x (by have:=r.lt b hb;omega);have bO:∀b,D b→(live (h.new x) b↔live h b):=λb hb=>by unfold live;rw[cJ b hb]
 refine⟨⟨λb hb=>.inr hb,hm,?_,?_,Nat.le_succ _,?_,tu,fP,fw,λb=>?_,?_⟩,⟨?_,?_,?_,?_⟩⟩
 ·rw[sn];simp
 ·intro c hc hn;refine⟨hold c hc,?_⟩;rintro⟨b,hb,hl,he⟩;rcases hb with rfl |hb
  ·simp only[m',iJ]at he;omega
  ·exact hn ⟨b,hb,(bO b hb).1 hl,by rw[← hm b hb];exact he⟩
 ·intro b hb hn;refine⟨AH.bJ h x omQ,?_⟩;rintro(rfl |hd)
  ·omega
  ·exact hn hd
 ·show b=h.nx∨D b↔D b∨(h.nx≤b∧b<h.nx+1);constructor
  ·rintro(rfl |hb)
   ·exact .inr ⟨Nat.le_refl _,Nat.lt_succ_self _⟩
   ·exact .inl hb
  ·rintro(hb |hb)
   ·exact .inr hb
   ·exact .inl omQ
 ·intro b t hb hg;rcases hb with rfl |hb
  ·rw[AH.br]at hg;cases hg;exact absurd rfl (fH t)
  ·exact⟨hb,by rw[← cJ b hb];exact hg⟩
 ·intro b hb;rcases hb with rfl |hb
  ·refine⟨x,AH.br h x,?_,hx.mono λb hb=>.inr hb⟩;have e:m' h.nx=(w.heap.size,room):=by simp[m']
   rw[e];exact lH.congr hm hx rfl
  ·obtain⟨y,hy,fI,eU⟩:=r.bp b hb;refine⟨y,(cJ b hb).trans hy,?_,eU.mono λb hb=>.inr hb⟩;rw[hm b hb];cases y with
   |dead=>trivial
   |cI t=>exact fI.congr hm eU (hold _ fI.fG)
   |_=>exact fI.congr hm eU (hold _ (cR.inside (by exact True.intro) fI))
 ·intro b b' hb bB hl dO he;rcases hb with rfl |hb<;>rcases bB with rfl |bB
  ·rfl
  ·have h1:=r.inside bB ((bO b' bB).1 dO);rw[hm b' bB]at he;simp only[m',iJ]at he;omega
  ·have h1:=r.inside hb ((bO b hb).1 hl);rw[hm b hb]at he;simp only[m',iJ]at he;omega
  ·rw[hm b hb,hm b' bB]at he;exact r.inj b b' hb bB ((bO b hb).1 hl) ((bO b' bB).1 dO) he
 ·intro b hb;rcases hb with rfl |hb
  ·simp
  ·have:=r.lt b hb;simp;omega
 ·rintro b t hb hg ⟨b',bB,dO,he⟩;have cS:b≠b':=by
   rintro rfl;obtain⟨y,hy,ia⟩:=dO;rw[hg]at hy;cases hy;exact ia
  rcases hb with rfl |hb
  ·rcases bB with rfl |bB
   ·exact cS rfl
   ·have h1:=r.inside bB ((bO b' bB).1 dO);rw[hm b' bB]at he;simp only[m',iJ]at he;omega
  ·rw[cJ b hb]at hg;rcases bB with rfl |bB
   ·obtain⟨y,hy,fI,_⟩:=r.bp b hb;rw[hg]at hy;cases hy;have:=fI.fG;rw[hm b hb]at he;simp only[m',iJ]at he;omega
   ·refine r.cI b t hb hg ⟨b',bB,(bO b' bB).1 dO,?_⟩;rw[hm b hb,hm b' bB]at he;exact he
theorem Rel.put {P:Program} {m:Mp} {D:Nat→Prop} {h:AH} {w w0:World} (r:Rel P m D h w) (b:Nat) (x:cy) (hb:D b) (nw:live h b)
  (AS:w0.heap.size=w.heap.size) (dY:∀c,c≠(m b).1→w0.heap[c]? =w.heap[c]?) (tu:w0.os=w.os) (fP:w0.tape=w.tape) (fw:w0.output=w.output)
  (hx:cq D x) (lH:cR P m x (m b) w0) (fH:∀t,x≠.cI t:=by intro t hh;cases hh) :
  Ext m D h w m D (h.put b x) w0∧Rel P m D (h.put b x) w0:=by
 refine Ext.rel r ?_;have cJ:∀b',b'≠b→(h.put b x).get b'=h.get b':=λb' hn=>AH.bn h x (λe=>hn e.symm);have bO:∀b',live (h.put b x) b'→live h b':=λb' hl=>by
  by_cases e:b'=b
  ·subst e;exact nw
  ·unfold live at*;rw[cJ b' e]at hl;exact hl
 refine⟨⟨λ_ h=>h,λ_ _=>rfl,by omega,?_,Nat.le_refl _,?_,tu,fP,fw,λb=>⟨.inl,λhb=>hb.elim id λhb=>by simp at hb;omega⟩,?_⟩,⟨?_,?_,?_,?_⟩⟩
 ·intro c hc hn;refine⟨dY c λe=>hn ⟨b,hb,nw,e.symm⟩,?_⟩;rintro⟨b',bB,dO,he⟩;exact hn ⟨b',bB,bO b' dO,he⟩
 ·intro b' bB hn;exact⟨cJ b' (λe=>hn (e▸hb)),hn⟩
 ·intro b' t bB hg;by_cases e:b'=b
  ·subst e;rw[AH.aQ]at hg;cases hg;exact absurd rfl (fH t)
  ·exact⟨bB,by rw[← cJ b' e];exact hg⟩
 ·intro b' bB;by_cases e:b'=b
  ·subst e;exact⟨x,AH.aQ h b' x,lH,hx⟩
  ·obtain⟨y,hy,fI,eU⟩:=r.bp b' bB;refine⟨y,(cJ b' e).trans hy,?_,eU⟩;cases y with
   |dead=>trivial
   |cI t=>exact fI.congr (λ_ _=>rfl) eU (dY _ λee=>r.cI b' t bB hy ⟨b,hb,nw,ee.symm⟩)
   |_=>refine fI.congr (λ_ _=>rfl) eU (dY _ λee=>e ?_);exact r.inj b' b bB hb ⟨_,hy,trivial⟩ nw ee
 ·intro b1 b2 h1 h2 l1 l2 he;exact r.inj b1 b2 h1 h2 (bO b1 l1) (bO b2 l2) he
 ·intro b' bB;exact r.lt b' bB
 ·rintro b' t bB hg ⟨b2,dS,lq,he⟩;by_cases e:b'=b
  ·subst e;have:=r.inj b2 b' dS bB (bO b2 lq) nw he;subst this;obtain⟨y,hy,ia⟩:=lq;rw[hg]at hy;cases hy;exact ia
  ·rw[cJ b' e]at hg;exact r.cI b' t bB hg ⟨b2,dS,bO b2 lq,he⟩
end Go.Ae
namespace Go.Ae
open Go
def uV:Value→Bool
 | .agg _=>false
 | .tuple _=>false
 |_=>true
theorem Gz {α β:Type} (P:Program) (e:Sem α) (f:α→Sem β) (w:World) :
  (Sem.bind e f).run P w=match e.run P w with | .ok a w'=>(f a).run P w' | .halt h w'=>.halt h w':=by
 induction e generalizing w with
 |pure a=>rfl
 |load m a k ih=>simp only[Sem.bind,Sem.run];split<;>first |exact ih _ _ |(split<;>first |exact ih _ _ |rfl)
 |store m a v k ih=>
  cases v<;>simp only[Sem.bind,Sem.run]<;>(repeat' split)<;>first |exact ih _ |rfl |simp_all
 |new o k ih=>exact ih _ _
 |shape r k ih=>exact ih _ _
 |freeze a n k ih=>exact ih _
 |frozen a k ih=>exact ih _ _
 |getObj r k ih=>simp only[Sem.bind,Sem.run];split<;>first |exact ih _ _ |rfl
 |setObj r o k ih=>simp only[Sem.bind,Sem.run];split<;>first |exact ih _ |rfl
 |choose q k ih=>simp only[Sem.bind,Sem.run];split<;>exact ih _ _
 |sys c k ih=>exact ih _ _
 |program k ih=>exact ih _ _
 |mark m k ih=>exact ih _
 |halt h=>rfl
theorem qY {α β:Type} {P:Program} {e:Sem α} {f:α→Sem β} {w w':World} {a:α} (h:e.run P w=.ok a w'):(e>>=f).run P w=(f a).run P w':=by show(Sem.bind e f).run P w=_;rw[Gz,h]
theorem vk {α:Type} (P:Program) (a:α) (w:World):(pure a:Sem α).run P w=.ok a w:=rfl
theorem IR {w:World} {b:Nat} {C:List Value} {e:TypeId} {fr:Nat×Nat} (h:w.heap[b]? =some (.cells C.toArray e fr)) (o:Nat):w.cell? ⟨b,o,none⟩=C[o]?:=by simp[World.cell?,h]
theorem wG (b o n:Nat):Addr.add ⟨b,o,none⟩ n=⟨b,o+n,none⟩:=by
 unfold Addr.add
 split
 ·subst_vars;simp
 ·rfl
theorem UO {P:Program} {w:World} {b:Nat} {C:List Value} {e:TypeId} {fr:Nat×Nat} (h:w.heap[b]? =some (.cells C.toArray e fr)) {o:Nat} {v:Value} (hv:C[o]? =some v) :
  (load ⟨b,o,none⟩).run P w=.ok v w:=by
 simp only[load,Sem.run,IR h,hv]
theorem Yl {P:Program} {w:World} {b:Nat} {C:List Value} {e:TypeId} {fr:Nat×Nat} (h:w.heap[b]? =some (.cells C.toArray e fr)) (o:Nat) :
  ∀(n i:Nat) (acc:Array Value),o+i+n≤C.length→(loadCellsFrom ⟨b,o,none⟩ i n acc).run P w=.ok (acc++((C.drop (o+i)).take n).toArray) w:=by
 intro n
 induction n with
 |zero=>intro i acc _;simp[loadCellsFrom]
 |succ n ih=>
  intro i acc hl;unfold loadCellsFrom;have hg:C[o+i]? =some (C[o+i]'omQ):=iW omQ;rw[wG,qY (UO h hg),ih _ _ omQ]
  congr 1
  rw[List.drop_eq_getElem_cons (show o+i<C.length by omega)];simp[Nat.add_assoc]
theorem Xh {P:Program} {w:World} {b:Nat} {C:List Value} {e:TypeId} {fr:Nat×Nat} (h:w.heap[b]? =some (.cells C.toArray e fr)) (o n:Nat) (hl:o+n≤C.length) :
  (loadCells ⟨b,o,none⟩ n).run P w=.ok ((C.drop o).take n).toArray w:=by
 unfold loadCells;rw[Yl h o n 0 #[] (by simpa using hl)];simp
theorem qK4 {P:Program} {w:World} {b:Nat} {C:List Value} {e:TypeId} {fr:Nat×Nat} (h:w.heap[b]? =some (.cells C.toArray e fr)) {o:Nat} (ho:o<C.length) {v:Value} (hv:uV v=true)
  (hf:¬(fr.1≤o∧o<fr.2)):(store ⟨b,o,none⟩ v).run P w=.ok () (w.setCell ⟨b,o,none⟩ v):=by
 have hc:w.cell? ⟨b,o,none⟩=some (C[o]'ho):=by rw[IR h,iW ho]
 have hz:w.frozen? ⟨b,o,none⟩=false:=by obtain⟨lo,hi⟩:=fr;simp only[World.frozen?,h];simp only[Bool.and_eq_false_iff,decide_eq_false_iff_not];simp only at hf;omega
 cases v<;>simp[uV]at hv<;>simp[store,Sem.run,hc,hz]
theorem Nj {w:World} {b:Nat} {C:List Value} {e:TypeId} {fr:Nat×Nat} (h:w.heap[b]? =some (.cells C.toArray e fr)) (o:Nat) (v:Value) :
  (w.setCell ⟨b,o,none⟩ v).heap[b]? =some (.cells (C.set o v).toArray e fr):=by
 simp[World.setCell,Array.getElem?_modify,h]
theorem Vq {w:World} {b c:Nat} (o:Nat) (v:Value) (hc:c≠b):(w.setCell ⟨b,o,none⟩ v).heap[c]? =w.heap[c]?:=by simp only[World.setCell,Array.getElem?_modify];rw[iQ (λe=>hc e.symm)]
@[simp] theorem iL (w:World) (a:Addr) (v:Value):(w.setCell a v).heap.size=w.heap.size:=by simp[World.setCell]
structure qwU (w w':World) (b:Nat) (o:Obj):Prop where
  size:w'.heap.size=w.heap.size
  at_:w'.heap[b]? =some o
  other:∀c,c≠b→w'.heap[c]? =w.heap[c]?
  os:w'.os=w.os
  tape:w'.tape=w.tape
  output:w'.output=w.output
theorem JU {P:Program} {b:Nat} {e:TypeId} {fr:Nat×Nat} (o:Nat):∀(vs:List Value) (i:Nat) (w:World) (C:List Value),w.heap[b]? =some (.cells C.toArray e fr)→
  o+i+vs.length≤C.length→(∀v∈vs,uV v=true)→(∀k,k<C.length→¬(fr.1≤k∧k<fr.2))→
  ∃w',(storeCells ⟨b,o,none⟩ vs i).run P w=.ok () w'∧qwU w w' b (.cells (C.take (o+i)++vs++C.drop (o+i+vs.length)).toArray e fr):=by
 intro vs
 induction vs with
 |nil=>intro i w C h hl _ _;exact⟨w,by unfold storeCells;rfl,⟨rfl,by simp[h],λ_ _=>rfl,rfl,rfl,rfl⟩⟩
 |cons v vs ih=>
  intro i w C h hl ho hf;simp only[List.length_cons]at hl;have h1:=qK4 (P:=P) h (o:=o+i) omQ (ho v (iK ..)) (hf _ omQ);obtain⟨w',hr,ht⟩:=ih (i+1) (w.setCell ⟨b,o+i,none⟩ v) (C.set (o+i) v) (Nj h _ _) (by simp;omega) (λx hx=>ho x (iX _ hx)) (by simpa using hf);refine⟨w',?_,?_⟩
  ·unfold storeCells;rw[wG,qY h1];exact hr
  ·refine⟨by rw[ht.size,iL],?_,λc hc=>(ht.other c hc).trans (Vq _ _ hc),ht.os,ht.tape,ht.output⟩;rw[ht.at_]
   congr 3
   have e1:(C.set (o+i) v).take (o+(i+1))=C.take (o+i)++[v]:=by rw[show o+(i+1)=(o+i)+1 from by omega,List.take_succ_eq_append_getElem (by simp;omega)];simp[List.take_set_of_le]
   have e2:(C.set (o+i) v).drop (o+(i+1)+vs.length)=C.drop (o+i+(v::vs).length):=by
    rw[List.drop_set_of_lt omQ]
    congr 1
    simp;omega
   rw[e1,e2];simp
end Go.Ae
namespace Go.Ae
open Go
variable {P:Program} {m:Mp} {D:Nat→Prop} {h:AH} {w:World}
theorem qzr (m:Mp) (v:AV) (hv:v.one=true):uV (cv m v)=true:=by
 cases v<;>first |rfl |(simp[AV.one]at hv;done)
theorem OU {l:List AV} (m:Mp) (hl:qn l=true):∀v∈aS m l,uV v=true:=by intro v hv;rw[zN,List.mem_map]at hv;obtain⟨a,ha,rfl⟩:=hv;unfold qn at hl;rw[List.all_eq_true]at hl;exact qzr m a (hl a ha)
theorem gj (m:Mp) (v:AV):(cv m v).cells=(aS m v.cells).toArray:=by
 cases v<;>simp[cv,AV.cells,Value.cells,aS]
theorem wx {v:AV} (hv:bm D v):aW D v.cells:=by
 cases v<;>simp only[AV.cells,aW,bm]at* <;>first |exact⟨hv,trivial⟩ |exact hv |trivial |exact⟨trivial,trivial⟩
theorem Rel.cells (r:Rel P m D h w) {b:Nat} (hb:D b) {c:CT} {e:TypeId} {o:Bool} (hg:h.get b=some (.cells c e o)) :
  ∃(rest:List Value) (fr:Nat×Nat),w.heap[(m b).1]? =some (.cells (aS m c.toList++rest).toArray e fr)∧(o=false→rest=[])∧
   (∀i,i<c.toList.length+rest.length→¬(fr.1≤i∧i<fr.2))∧(o=true→∀n,aP P e=some n→c.toList.length≤(m b).2*n∧(m b).2*n≤c.toList.length+rest.length)∧aW D c.toList:=by
 obtain⟨x,hx,hr,hd⟩:=r.bp b hb;rw[hg]at hx;cases hx;obtain⟨rest,fr,h1,h2,h3,h4⟩:=hr;exact⟨rest,fr,h1,h2,h3,h4,hd⟩
theorem IS {b:Nat} {x:cy} (hg:h.get b=some x) (hl:x.live):live h b:=⟨x,hg,hl⟩
theorem Rel.oA (r:Rel P m D h w) {b off n:Nat} {c:CT} {t:TypeId} {o:Bool} {l:List AV} (hb:D b) (hg:h.get b=some (.cells c t o)) (e:yy n (yl off c.toList)=some l) :
  (loadCells ⟨(m b).1,off,none⟩ n).run P w=.ok (aS m l).toArray w∧aW D l∧l.length=n:=by
 obtain⟨rest,fr,h1,_,_,_,hd⟩:=r.cells hb hg;rw[wc]at e;obtain⟨e1,e2⟩:=wg e;refine⟨?_,?_,qKU e⟩
 ·by_cases hz:n=0
  ·subst hz;subst e1;simp[aS,loadCells,loadCellsFrom]
  ·simp only[List.length_drop]at e2;rw[Xh h1 off n (by simp;omega)];subst e1;rw[zN,zN,List.drop_append_of_le_length (by simp;omega),List.take_append_of_le_length (by simp;omega)];simp[List.map_take,List.map_drop]
 ·subst e1;exact Qa _ (XN _ hd)
theorem qV5 {t:aJ AV}:∀{n i:Nat} {l:List AV},Qs [] t i n=some l→l.length=n∧∀k,k<n→∃v,aJ.get t (i+k)=some v∧l[k]? =some v:=by
 intro n
 induction n with
 |zero=>intro i l e;rw[IK]at e;cases e;exact⟨rfl,λk hk=>by omega⟩
 |succ n ih=>
  intro i l e;rw[M7]at e;simp only[Option.bind_eq_some_iff]at e;obtain⟨v,hv,s,hs,e⟩:=e;cases e;obtain⟨h1,h2⟩:=ih hs;have hv':aJ.get t i=some v:=by
   rw[yC]at hv
   split at hv
   ·rename_i x hx;cases hv;exact hx
   ·rw[Uz]at hv;cases hv
  refine⟨by simp[h1],?_⟩;intro k hk;cases k with
  |zero=>exact⟨v,hv',rfl⟩
  |succ k=>obtain⟨u,hu1,AT⟩:=h2 k omQ;exact⟨u,by rw[← hu1];congr 1;omega,by simpa using AT⟩
theorem Rel.AU (r:Rel P m D h w) {b:Nat} {t:aJ AV} (hb:D b) (hg:h.get b=some (.cI t)) :
  ∃C e fr,w.heap[(m b).1]? =some (.cells (List.toArray C) e fr)∧∀i v,aJ.get t i=some v→C[i]? =some (cv m v)∧bm D v:=by
 obtain⟨x,hx,hr,hd⟩:=r.bp b hb;rw[hg]at hx;cases hx;obtain⟨C,e,fr,h1,h2⟩:=hr;exact⟨C,e,fr,h1,λi v hv=>⟨h2 i v hv,hd i v hv⟩⟩
theorem Rel.AW (r:Rel P m D h w) {b off n:Nat} {t:aJ AV} {l:List AV} (hb:D b) (hg:h.get b=some (.cI t)) (e:Qs [] t off n=some l) :
  (loadCells ⟨(m b).1,off,none⟩ n).run P w=.ok (aS m l).toArray w∧aW D l∧l.length=n:=by
 obtain⟨C,el,fr,h1,h2⟩:=r.AU hb hg;obtain⟨e1,e2⟩:=qV5 e;have key:∀k,k<n→∃v,l[k]? =some v∧C[off+k]? =some (cv m v)∧bm D v:=λk hk=>by
  obtain⟨v,hv,hl⟩:=e2 k hk;exact⟨v,hl,h2 _ v hv⟩
 refine⟨?_,?_,e1⟩
 ·by_cases hz:n=0
  ·subst hz;rw[iA e1];simp[aS,loadCells,loadCellsFrom]
  ·have hlen:off+n≤C.length:=by
    obtain⟨v,_,hc,_⟩:=key (n-1) omQ;have:=(List.getElem?_eq_some_iff.1 hc).1;omega
   rw[Xh h1 off n hlen]
   congr 2
   apply List.ext_getElem?;intro k;rw[zN,List.getElem?_map];by_cases hk:k<n
   ·obtain⟨v,hl,hc,_⟩:=key k hk;rw[List.getElem?_take_of_lt hk,List.getElem?_drop,hc,hl];rfl
   ·rw[List.getElem?_eq_none (by simp;omega),List.getElem?_eq_none omQ];rfl
 ·rw[xx];intro v hv;obtain⟨k,hk,rfl⟩:=List.mem_iff_getElem.1 hv;obtain⟨u,hl,_,hd⟩:=key k omQ;rw[iW hk]at hl;cases hl;exact hd
theorem Rel.oB (r:Rel P m D h w) {b off:Nat} {t:aJ AV} {v:AV} (hb:D b) (hg:h.get b=some (.cI t)) (e:aJ.get t off=some v) :
  (load ⟨(m b).1,off,none⟩).run P w=.ok (cv m v) w∧bm D v:=by
 obtain⟨C,el,fr,h1,h2⟩:=r.AU hb hg;obtain⟨h3,h4⟩:=h2 off v e;exact⟨UO h1 h3,h4⟩
theorem Rel.read (r:Rel P m D h w) {b off n:Nat} {l:List AV} (hb:D b) (e:yK h b off n=some l) :
  (loadCells ⟨(m b).1,off,none⟩ n).run P w=.ok (aS m l).toArray w∧aW D l∧l.length=n:=by
 unfold yK at e
 split at e
 ·rename_i c t o hg;exact r.oA hb hg (CT.lF e)
 ·rename_i t hg;exact r.AW hb hg e
 ·cases e
theorem Rel.sq (r:Rel P m D h w) {b off:Nat} {c:CT} {t:TypeId} {o:Bool} {v:AV} (hb:D b) (hg:h.get b=some (.cells c t o)) (e:c.dX off=some v) :
  (load ⟨(m b).1,off,none⟩).run P w=.ok (cv m v) w∧bm D v:=by
 obtain⟨rest,fr,h1,_,_,_,hd⟩:=r.cells hb hg
 replace e:=CT.rz e
 rw[xR]at e;have au:off<c.toList.length:=(List.getElem?_eq_some_iff.1 e).1;refine⟨UO h1 ?_,(xx D c.toList).1 hd v (List.mem_of_getElem? e)⟩;rw[List.getElem?_append_left (by simpa using au),zN,List.getElem?_map,e];rfl
theorem Rel.write (r:Rel P m D h w) {b off:Nat} {xs:List AV} {h':AH} (hb:D b) (Ep:aW D xs) (e:gC h b off xs=some h') :
  ∃w',(storeCells ⟨(m b).1,off,none⟩ (aS m xs)).run P w=.ok () w'∧Ext m D h w m D h' w'∧Rel P m D h' w':=by
 unfold gC at e
 split at e
 ·rename_i c t o hg;cases ny:qn xs
  ·rw[ny]at e;cases e
  ·rw[ny]at e;simp only[cond_true,Option.bind_eq_some_iff]at e;obtain⟨c',mw,he⟩:=e;cases he;obtain⟨e1,e2⟩:=Gs (CT.lG mw);obtain⟨rest,fr,h1,h2,h3,h4,hd⟩:=r.cells hb hg;obtain⟨w',hr,ht⟩:=JU (P:=P) off (aS m xs) 0 w _ h1 (by simp;omega) (OU m ny) (by simpa using h3);refine⟨w',hr,?_⟩;have hlen:c'.toList.length=c.toList.length:=by rw[e1];simp;omega
   refine r.put b _ hb (IS hg trivial) ht.size ht.other ht.os ht.tape ht.output ?_ ?_
   ·simp only[cq];rw[e1];exact yp.2 ⟨yp.2 ⟨Qa _ hd,Ep⟩,XN _ hd⟩
   ·refine⟨rest,fr,?_,h2,by rw[hlen];exact h3,by rw[hlen];exact h4⟩;rw[ht.at_,e1]
    congr 3
    simp only[zN,List.length_map,Nat.add_zero,List.map_append,List.map_take,List.map_drop];rw[List.take_append_of_le_length (by simp;omega),List.drop_append_of_le_length (by simp;omega)];simp
 ·cases e
theorem Me {v:Value} {a:AV} (e:Gy v=some a):cv m a=v∧bm D a:=by
 unfold Gy at e
 split at e<;>first |(cases e;exact⟨rfl,trivial⟩) |(cases e;done)
theorem Kh {l:List Value} {s:List AV} (e:gH Gy l=some s):aS m s=l∧aW D s:=by
 induction l generalizing s with
 |nil=>simp[gH]at e;subst e;exact⟨rfl,trivial⟩
 |cons a r ih=>simp only[gH,Option.bind_eq_some_iff]at e;obtain⟨b,hb,t,ht,hs⟩:=e;cases hs;obtain⟨h1,h2⟩:=Me (m:=m) (D:=D) hb;obtain⟨h3,h4⟩:=ih ht;exact⟨by simp[aS,h1,h3],h2,h4⟩
theorem QR {v:Value} {a:AV} (e:UT v=some a):cv m a=v∧bm D a:=by
 unfold UT at e
 split at e
 ·rename_i cs;simp only[Option.map_eq_some_iff]at e;obtain⟨s,hs,rfl⟩:=e;obtain⟨h1,h2⟩:=Kh (m:=m) (D:=D) hs;exact⟨by simp[cv,h1],h2⟩
 ·rename_i cs;simp only[Option.map_eq_some_iff]at e;obtain⟨s,hs,rfl⟩:=e;obtain⟨h1,h2⟩:=Kh (m:=m) (D:=D) hs;exact⟨by simp[cv,h1],h2⟩
 ·rename_i f first cap
  cases hc:(first.isEmpty&&cap.isEmpty)
  ·rw[hc]at e;cases e
  ·rw[hc]at e;cases e;simp only[Bool.and_eq_true,Array.isEmpty_iff]at hc;obtain⟨rfl,rfl⟩:=hc;exact⟨by simp[cv,aS],trivial,trivial⟩
 ·exact Me e
theorem run_underlying {t:TypeId} {d:TypeDesc} (e:P.underlying t=some d):(underlying t).run P w=.ok d w:=by unfold underlying;rw[qY (show(program).run P w=.ok P w from rfl)];rw[e];rfl
theorem run_typeInfo {t:TypeId} {i:TypeInfo} (e:P.info? t=some i):(typeInfo t).run P w=.ok i w:=by unfold typeInfo;rw[qY (show(program).run P w=.ok P w from rfl)];rw[e];rfl
theorem run_sizeOf {t:TypeId} {n:Nat} (e:aP P t=some n):(sizeOf t).run P w=.ok n w:=by simp only[aP,Option.map_eq_some_iff]at e;obtain⟨i,hi,rfl⟩:=e;unfold sizeOf;rw[qY (run_typeInfo hi)];rfl
theorem vi {t:TypeId} {b:Bool} (e:fo P t=some b):(isAgg t).run P w=.ok b w:=by simp only[fo,Option.map_eq_some_iff]at e;obtain⟨d,hd,hb⟩:=e;unfold isAgg;rw[qY (run_underlying hd)];cases d<;>(subst hb;rfl)
theorem yI {t:TypeId} {z:AV} (e:en P t=some z):(zeroValue t).run P w=.ok (cv m z) w∧bm D z:=by simp only[en,Option.bind_eq_some_iff]at e;obtain⟨i,hi,v,hv,hz⟩:=e;obtain⟨h1,h2⟩:=QR (m:=m) (D:=D) hz;refine⟨?_,h2⟩;unfold zeroValue;rw[qY (run_typeInfo hi),hv,h1];rfl
end Go.Ae
namespace Go.Ae
open Go
variable {P:Program} {m:Mp} {D:Nat→Prop} {h:AH} {w:World}
def dE (P:Program) (m:Mp) (D:Nat→Prop) (h:AH) (w:World) (fz:Result Next) (v:AV) (h':AH):Prop :=
 ∃m' D' w',(fz=.ok (.value (cv m' v)) w'∨(fz=.ok .skip w'∧v=.undef))∧Ext m D h w m' D' h' w'∧Rel P m' D' h' w'∧bm D' v
theorem qC {α:Type} {x:Option α} {k:α→R} {r:AV×AH}:ob x k=some r↔∃a,x=some a∧k a=some r:=by
 cases x<;>simp[ob]
theorem xv {b:Bool} {x:R} {r:AV×AH}:cx b x none=some r↔b=true∧x=some r:=by
 cases b<;>simp[cx]
theorem jZ {α:Type} {b:Bool} {x:Option α} {r:α}:(bif b then x else none)=some r↔b=true∧x=some r:=by
 cases b<;>simp
theorem qf {v v':AV} {h h':AH}:(some (v,h):R)=some (v',h')↔v=v'∧h=h':=by simp
theorem jn (r:Rel P m D h w) {s:Sem Value} {v:AV} (hs:s.run P w=.ok (cv m v) w) (hv:bm D v) :
  dE P m D h w ((do pure (Next.value (← s)):Sem Next).run P w) v h :=
 ⟨m,D,w,.inl (by rw[qY hs];rfl),Ext.refl ..,r,hv⟩
theorem JM (r:Rel P m D h w) {s:Sem Next} {v:AV} (hs:s.run P w=.ok (.value (cv m v)) w) (hv:bm D v):dE P m D h w (s.run P w) v h :=
 ⟨m,D,w,.inl hs,Ext.refl ..,r,hv⟩
def dP (m:Mp) (D:Nat→Prop) (ρ:Operand→Value) (r:Operand→Option AV):Prop:=∀x v,r x=some v→ρ x=cv m v∧bm D v
theorem jh {a b:Nat} (h:Nat.ble a b=true):a≤b:=Nat.le_of_ble_eq_true h
theorem Ga {a b:Nat} (h:Nat.ble a b=false):b<a:=by
 rcases Nat.lt_or_ge b a with h' |h'
 ·exact h'
 ·rw[iY h']at h;cases h
theorem Ua (a b:Int):lC a b=(a==b):=by
 cases a with
 |ofNat a=>cases b with
  |ofNat b=>
   simp only[lC];by_cases e:a=b
   ·subst e;simp
   ·rw[yG e];symm;rw[beq_eq_false_iff_ne];intro h;exact e (Int.ofNat.inj h)
  |negSucc b=>rfl
 |negSucc a=>cases b with
  |ofNat b=>rfl
  |negSucc b=>
   simp only[lC];by_cases e:a=b
   ·subst e;simp
   ·rw[yG e];symm;rw[beq_eq_false_iff_ne];intro h;exact e (Int.negSucc.inj h)
theorem UQ (a b:Int):mP a b=decide (a<b):=by
 cases a with
 |ofNat a=>cases b with
  |ofNat b=>
   simp only[mP];cases e:Nat.ble (a+1) b
   ·have:=Ga e;symm;rw[decide_eq_false_iff_not];show¬((a:Int)<(b:Int));omega
   ·have:=jh e;symm;rw[decide_eq_true_eq];show(a:Int)<(b:Int);omega
  |negSucc b=>simp only[mP];symm;rw[decide_eq_false_iff_not];show¬((a:Int)<_);omega
 |negSucc a=>cases b with
  |ofNat b=>simp only[mP];symm;rw[decide_eq_true_eq];show _<(b:Int);omega
  |negSucc b=>
   simp only[mP];cases e:Nat.ble (b+1) a
   ·have:=Ga e;symm;rw[decide_eq_false_iff_not];omega
   ·have:=jh e;symm;rw[decide_eq_true_eq];omega
theorem Y7 (n:Int):IntKind.wrap .i64 n=if 9223372036854775808≤n%18446744073709551616 then n%18446744073709551616-18446744073709551616 else n%18446744073709551616:=by show(if(true&&decide (n%18446744073709551616≥9223372036854775808))=true then _ else _)=_;simp only[Bool.true_and,decide_eq_true_eq,ge_iff_le];rfl
theorem Ue (n:Int):IntKind.wrap .u64 n=n%18446744073709551616:=rfl
theorem IT (n:Int):IntKind.wrap .u8 n=n%256:=rfl
theorem Ms (a:Nat) (h:a≤9223372036854775807):IntKind.wrap .i64 (Int.negSucc a)=Int.negSucc a:=by have e:Int.negSucc a= -((a:Int)+1):=Int.negSucc_eq a;rw[Y7,e];generalize hx:-((a:Int)+1)=x;rw[iJ omQ];omega
theorem ka (k:IntKind) (n:Int):zv k n=k.wrap n:=by
 cases k<;>cases n<;>simp only[zv]
 ·rename_i a;cases hb:Nat.ble a 9223372036854775807
  ·rw[cond_false]
  ·have:=jh hb;rw[Y7];show(a:Int)=if 9223372036854775808≤(a:Int)%_ then _ else(a:Int)%_
   split<;>omega
 ·rename_i a;cases hb:Nat.ble a 9223372036854775807
  ·rw[cond_false]
  ·have:=jh hb;rw[cond_true];exact(Ms a this).symm
 ·rename_i a;rw[IT];show((a%256:Nat):Int)=(a:Int)%_;omega
 ·rename_i a;rw[Ue];show((a%18446744073709551616:Nat):Int)=(a:Int)%_;omega
 ·rename_i a;rw[Ue];show((18446744073709551615-a%18446744073709551616:Nat):Int)=_;omega
theorem fJ (a b:List UInt8):ft a b=(a==b):=by
 induction a generalizing b with
 |nil=>cases b<;>rfl
 |cons x a ih=>cases b with
  |nil=>rfl
  |cons y b=>simp only[ft,ih];rfl
def Oz (op:BinOp) (k:IntKind) (x y:Int):Sem Value :=
 match op with
 | .add | .sub | .mul=>Op.intArith op k x y
 | .quo | .rem=>Op.intDiv op k x y
 | .and | .or | .xor | .andNot=>Op.intBits op k x y
 |_=>Op.intCmp op x y
theorem qjU {op:BinOp} {k:IntKind} {x y:Int} {v:AV} (e:QK op k x y=some v) :
  (Oz op k x y).run P w=.ok (cv m v) w∧bm D v:=by
 cases op<;>simp only[QK,ka,Ua,UQ]at e
 case quo=>
  by_cases hy:y=0
  ·subst hy;cases e
  ·rw[beq_eq_false_iff_ne.2 hy]at e;cases e;exact⟨by simp[Oz,Op.intDiv,hy,cv],trivial⟩
 case rem=>
  by_cases hy:y=0
  ·subst hy;cases e
  ·rw[beq_eq_false_iff_ne.2 hy]at e;cases e;exact⟨by simp[Oz,Op.intDiv,hy,cv],trivial⟩
 case leq=>
  cases e;refine⟨?_,trivial⟩;show Result.ok (Value.bool (decide (x≤y))) w=.ok (.bool (!decide (y<x))) w;rw[← decide_not,decide_eq_decide.2 (show x≤y↔¬y<x by omega)]
 case geq=>
  cases e;refine⟨?_,trivial⟩;show Result.ok (Value.bool (decide (x≥y))) w=.ok (.bool (!decide (x<y))) w;rw[← decide_not,decide_eq_decide.2 (show x≥y↔¬x<y by omega)]
 all_goals first
  |(cases e;done)
  |(cases e;exact⟨rfl,trivial⟩)
end Go.Ae
namespace Go.Ae
open Go
variable {P:Program} {m:Mp} {D:Nat→Prop} {h h':AH} {w:World} {c:CV} {ρ:Operand→Value} {r:Operand→Option AV} {o:Oper} {v:AV}
abbrev fin:AV→AH→R:=λv h=>some (v,h)
theorem qx8 {x:Operand} (ho:o.op=.move x) (hr:dP m D ρ r) (R:Rel P m D h w) (e:bh P c o.op r h fin=some (v,h')):dE P m D h w ((execOp ρ o).run P w) v h':=by rw[ho]at e;simp only[bh,qC,qf]at e;obtain⟨a,ha,rfl,rfl⟩:=e;obtain⟨h1,h2⟩:=hr _ _ ha;refine JM R ?_ h2;simp only[execOp,ho,h1,vk]
theorem qK6 {x:Operand} (ho:o.op=.assign x) (hr:dP m D ρ r) (R:Rel P m D h w) (e:bh P c o.op r h fin=some (v,h')):dE P m D h w ((execOp ρ o).run P w) v h':=by rw[ho]at e;simp only[bh,qC,qf]at e;obtain⟨a,ha,rfl,rfl⟩:=e;obtain⟨h1,h2⟩:=hr _ _ ha;refine JM R ?_ h2;simp only[execOp,ho,h1,vk]
theorem qz0 {x y z:Operand} (ho:o.op=.pick x y z) (hr:dP m D ρ r) (R:Rel P m D h w) (e:bh P c o.op r h fin=some (v,h')):dE P m D h w ((execOp ρ o).run P w) v h':=by
 rw[ho]at e;simp only[bh,qC]at e;obtain⟨a,ha,b,hb,d,hd,e⟩:=e;obtain⟨a1,a2⟩:=hr _ _ ha;obtain⟨b1,b2⟩:=hr _ _ hb;obtain⟨d1,d2⟩:=hr _ _ hd;rw[OD]at e
 split at e
 ·rename_i t;cases t<;>simp only[qf]at e<;>obtain⟨rfl,rfl⟩:=e
  ·refine JM R ?_ d2;simp only[execOp,ho,a1,b1,d1,cv,asBool];rfl
  ·refine JM R ?_ b2;simp only[execOp,ho,a1,b1,d1,cv,asBool];rfl
 ·cases e
theorem qwo {x:Operand} (ho:o.op=.nilCheck x) (hr:dP m D ρ r) (R:Rel P m D h w) (e:bh P c o.op r h fin=some (v,h')):dE P m D h w ((execOp ρ o).run P w) v h':=by
 rw[ho]at e;simp only[bh,qC]at e;obtain⟨a,ha,e⟩:=e;obtain⟨a1,a2⟩:=hr _ _ ha;unfold xE at e
 split at e<;>first |(cases e;done) |skip
 all_goals
  simp only[qf]at e;obtain⟨rfl,rfl⟩:=e;refine JM R ?_ a2;simp only[execOp,ho,a1,cv];rfl
theorem AY {op:UnOp} {t:TypeId} {x:Operand} (ho:o.op=.unOp op t x) (hr:dP m D ρ r) (R:Rel P m D h w) (e:bh P c o.op r h fin=some (v,h')):dE P m D h w ((execOp ρ o).run P w) v h':=by
 rw[ho]at e;simp only[bh,qC]at e;obtain⟨a,ha,e⟩:=e;obtain⟨a1,a2⟩:=hr _ _ ha;unfold pQ at e
 split at e<;>first |(cases e;done) |skip
 all_goals
  simp only[qf]at e;obtain⟨rfl,rfl⟩:=e;simp only[execOp,ho,a1];refine jn R ?_ trivial
  first
   |(simp only[cv,ka];rfl)
   |rfl
theorem qY7 {t:TypeId} {x:Operand} (ho:o.op=.makeInterface t x) (hr:dP m D ρ r) (R:Rel P m D h w) (e:bh P c o.op r h fin=some (v,h')):dE P m D h w ((execOp ρ o).run P w) v h':=by
 rw[ho]at e;simp only[bh,qC]at e;obtain⟨d,hd,e⟩:=e;have key:∃a,r x=some a∧fin (.iface t a) h=some (v,h'):=by
  split at e
  ·cases e
  ·exact qC.1 e
 obtain⟨a,ha,e⟩:=key;obtain⟨a1,a2⟩:=hr _ _ ha;simp only[qf]at e;obtain⟨rfl,rfl⟩:=e;simp only[execOp,ho,a1];refine jn R ?_ a2;unfold Instr.makeInterface;rw[qY (run_underlying hd)];cases d<;>first |rfl |(simp_all;done)
theorem qYD {t:TypeId} {x:Operand} {f:Nat} (ho:o.op=.fieldAddr t x f) (hr:dP m D ρ r) (R:Rel P m D h w) (e:bh P c o.op r h fin=some (v,h')):dE P m D h w ((execOp ρ o).run P w) v h':=by
 rw[ho]at e;simp only[bh,qC]at e;obtain⟨a,ha,off,fQ,e⟩:=e;obtain⟨a1,a2⟩:=hr _ _ ha;rw[Ub]at e
 split at e
 ·rename_i b o';simp only[qf]at e;obtain⟨rfl,rfl⟩:=e;simp only[execOp,ho,a1];refine jn R ?_ a2;unfold ZG at fQ;simp only[Option.bind_eq_some_iff]at fQ;obtain⟨d,hd,fQ⟩:=fQ;unfold Instr.fieldAt;rw[qY (run_underlying hd)];cases d<;>simp only[reduceCtorEq]at fQ
  rename_i fs;simp only[Option.bind_eq_some_iff]at fQ;obtain⟨g,hg,sz,bx,fQ⟩:=fQ;cases hz:Nat.beq sz 0<;>rw[hz]at fQ<;>simp only[cond_true,cond_false,reduceCtorEq,Option.some.injEq]at fQ
  subst fQ;simp only[hg,cv];rw[qY (show(Instr.sureAddr (.pointer (some ⟨(m b).1,o',none⟩))).run P w=.ok ⟨(m b).1,o',none⟩ w from rfl)];rw[qY (show(fieldPlace ⟨(m b).1,o',none⟩ g).run P w=.ok ⟨(m b).1,o'+g.offset,none⟩ w from ?_)]
  ·rfl
  ·unfold fieldPlace;rw[qY (run_sizeOf bx),iQ (yb hz),wG];rfl
 ·cases e
theorem XC {t:TypeId} {cs:List AV} {off:Nat} {x:AV} (ht:fo P t=some false) (e:wM cs off=some x) (hd:aW D cs):(part t (aS m cs).toArray off).run P w=.ok (cv m x) w∧bm D x:=by rw[xR]at e;refine⟨?_,(xx D cs).1 hd x (List.mem_of_getElem? e)⟩;unfold part;rw[qY (vi ht)];simp only[Bool.false_eq_true,if_false,List.getElem?_toArray,zN,List.getElem?_map,e];rfl
theorem XI {t:TypeId} {cs l:List AV} {off n:Nat} (ht:fo P t=some true) (hn:aP P t=some n) (e:yy n (yl off cs)=some l) (hd:aW D cs):(part t (aS m cs).toArray off).run P w=.ok (cv m (.agg l)) w∧aW D l:=by
 rw[wc]at e;obtain⟨e1,e2⟩:=wg e;refine⟨?_,by subst e1;exact Qa _ (XN _ hd)⟩;unfold part;rw[qY (vi ht)];simp only[if_true];rw[qY (run_sizeOf hn)];subst e1;simp only[cv,zN,List.map_take,List.map_drop,vk]
 congr 2
 simp[List.take_drop]
theorem wA {t:TypeId} {i:Option Nat} (e:wL P t=some i):(i=none∧fo P t=some false)∨∃n,i=some n∧fo P t=some true∧aP P t=some n:=by
 unfold wL at e;simp only[Option.bind_eq_some_iff]at e;obtain⟨a,ha,e⟩:=e;cases a
 ·simp at e;exact .inl ⟨e.symm,ha⟩
 ·simp only[cond_true,Option.map_eq_some_iff]at e;obtain⟨n,hn,e⟩:=e;exact .inr ⟨n,e.symm,ha,hn⟩
theorem qzm {t:TypeId} {x:Operand} {f:Nat} (ho:o.op=.field t x f) (hr:dP m D ρ r) (R:Rel P m D h w) (e:bh P c o.op r h fin=some (v,h')):dE P m D h w ((execOp ρ o).run P w) v h':=by
 rw[ho]at e;simp only[bh,qC]at e;obtain⟨a,ha,p,hp,e⟩:=e;obtain⟨a1,a2⟩:=hr _ _ ha;unfold Mk at hp;simp only[Option.bind_eq_some_iff]at hp;obtain⟨d,hd,hp⟩:=hp;cases d<;>simp only[reduceCtorEq]at hp
 rename_i fs;simp only[Option.bind_eq_some_iff,Option.map_eq_some_iff]at hp;obtain⟨g,hg,i,hi,rfl⟩:=hp;simp only[execOp,ho,a1];rcases wA hi with⟨rfl,lr⟩ |⟨n,rfl,lr,hn⟩
 ·simp only[Mf]at e
  split at e
  ·rename_i cs;simp only[qC,qf]at e;obtain⟨z,hz,rfl,rfl⟩:=e;obtain⟨z1,z2⟩:=XC (w:=w) (m:=m) lr hz a2;refine jn R ?_ z2;unfold Instr.field;rw[qY (run_underlying hd)];simp only[hg,cv];rw[qY (show(asAgg (.agg (aS m cs).toArray)).run P w=.ok _ w from rfl)];exact z1
  ·cases e
 ·simp only[YB]at e
  split at e
  ·rename_i cs;simp only[qC,qf]at e;obtain⟨z,hz,rfl,rfl⟩:=e;obtain⟨z1,z2⟩:=XI (w:=w) (m:=m) lr hn hz a2;refine jn R ?_ z2;unfold Instr.field;rw[qY (run_underlying hd)];simp only[hg,cv];rw[qY (show(asAgg (.agg (aS m cs).toArray)).run P w=.ok _ w from rfl)];exact z1
  ·cases e
theorem NB {t:TypeId} {x i:Operand} (ho:o.op=.indexAddr t x i) (hr:dP m D ρ r) (R:Rel P m D h w) (e:bh P c o.op r h fin=some (v,h')):dE P m D h w ((execOp ρ o).run P w) v h':=by
 rw[ho]at e;simp only[bh,qC]at e;obtain⟨a,ha,j,hj,d,hd,e⟩:=e;obtain⟨a1,a2⟩:=hr _ _ ha;obtain⟨j1,j2⟩:=hr _ _ hj;simp only[execOp,ho,a1,j1];cases d<;>simp only[reduceCtorEq]at e
 case slice el=>
  simp only[qC]at e;obtain⟨sz,bx,e⟩:=e;rw[Kf]at e
  split at e
  ·rename_i b off len cp bf k q;simp only[jZ,qf]at e;obtain⟨hq,rfl,rfl⟩:=e;have hq:=jh hq;refine jn R ?_ a2;unfold Instr.indexAt;simp only[cv];rw[qY (show(asIntOf (.int k (.ofNat q))).run P w=.ok (k,.ofNat q) w from rfl)];rw[qY (run_underlying hd)];simp only[];rw[qY (show(pure (some (⟨(m b).1,off,none⟩:Addr),len,el):Sem (Option Addr×Nat×TypeId)).run P w=.ok _ w from rfl)];rw[qY (run_underlying hd)];have:(0:Int)≤Int.ofNat q∧Int.ofNat q<(len:Int):=⟨Int.natCast_nonneg q,by show(q:Int)<len;omega⟩;simp only[iJ this];rw[qY (run_sizeOf bx)];simp only[wG,vk];rfl
  ·cases e
 case array n el=>
  simp only[xv,qC]at e;obtain⟨h2,sz,bx,e⟩:=e;have h2:=jh h2;unfold kU at e
  split at e
  ·rename_i b off k q;simp only[jZ,qf]at e;obtain⟨hq,rfl,rfl⟩:=e;have hq:=jh hq;refine jn R ?_ a2;unfold Instr.indexAt;simp only[cv];rw[qY (show(asIntOf (.int k (.ofNat q))).run P w=.ok (k,.ofNat q) w from rfl)];rw[qY (run_underlying hd)];simp only[];rw[qY (show(Instr.sureAddr (.pointer (some ⟨(m b).1,off,none⟩))).run P w=.ok ⟨(m b).1,off,none⟩ w from rfl)];rw[qY (show(pure (some (⟨(m b).1,off,none⟩:Addr),n,el):Sem (Option Addr×Nat×TypeId)).run P w=.ok _ w from rfl)];rw[qY (run_underlying hd)];have:(0:Int)≤Int.ofNat q∧Int.ofNat q<(n:Int):=⟨Int.natCast_nonneg q,by show(q:Int)<n;omega⟩;simp only[iJ this];rw[qY (run_sizeOf bx)];simp only[wG,vk];rfl
  ·cases e
theorem qQe {x:Operand} {i:Nat} (ho:o.op=.extract x i) (hr:dP m D ρ r) (R:Rel P m D h w) (e:bh P c o.op r h fin=some (v,h')):dE P m D h w ((execOp ρ o).run P w) v h':=by
 rw[ho]at e;simp only[bh,qC]at e;obtain⟨a,ha,e⟩:=e;obtain⟨a1,a2⟩:=hr _ _ ha;rw[JN]at e
 split at e
 ·rename_i l;simp only[qC,qf]at e;obtain⟨z,hz,rfl,rfl⟩:=e;rw[xR]at hz;simp only[execOp,ho,a1];refine jn R ?_ ((xx D l).1 a2 _ (List.mem_of_getElem? hz));simp only[Instr.extract,cv,List.getElem?_toArray,zN,List.getElem?_map,hz];rfl
 ·cases e
theorem qYP {t:TypeId} {x i:Operand} (ho:o.op=.index t x i) (hr:dP m D ρ r) (R:Rel P m D h w) (e:bh P c o.op r h fin=some (v,h')):dE P m D h w ((execOp ρ o).run P w) v h':=by
 rw[ho]at e;simp only[bh,qC]at e;obtain⟨a,ha,j,hj,d,hd,e⟩:=e;obtain⟨a1,a2⟩:=hr _ _ ha;obtain⟨j1,j2⟩:=hr _ _ hj;simp only[execOp,ho,a1,j1];cases d<;>simp only[reduceCtorEq]at e
 case string=>
  unfold gP at e
  split at e
  ·rename_i s k q;simp only[qC,qf]at e;obtain⟨z,hz,rfl,rfl⟩:=e;rw[xR]at hz;refine jn R ?_ trivial;unfold Instr.index;simp only[cv];rw[qY (show(asIntOf (.int k (.ofNat q))).run P w=.ok (k,.ofNat q) w from rfl)];rw[qY (run_underlying hd)];have h0:(0:Int)≤Int.ofNat q:=Int.natCast_nonneg q;have hb:(ByteArray.mk s.toArray)[q]? =some z:=by
    have au:q<s.length:=(List.getElem?_eq_some_iff.1 hz).1;have hs:(ByteArray.mk s.toArray).size=s.length:=by simp[ByteArray.size]
    rw[getElem?_pos _ _ (by rw[hs];exact au)]
    congr 1
    have:=(List.getElem?_eq_some_iff.1 hz).2;rw[← this];rfl
   simp only[iJ h0,show(Int.ofNat q).toNat=q from rfl,hb];rfl
  ·cases e
 case array n el=>
  simp only[qC]at e;obtain⟨sz,bx,g,hg,e⟩:=e;cases g
  ·simp only[cx]at e;unfold Yj at e
   split at e
   ·rename_i cs k q;simp only[jZ,qC,qf]at e;obtain⟨hq,z,hz,rfl,rfl⟩:=e;have hq:=jh hq;obtain⟨z1,z2⟩:=XC (w:=w) (m:=m) hg hz a2;refine jn R ?_ z2;unfold Instr.index;simp only[cv];rw[qY (show(asIntOf (.int k (.ofNat q))).run P w=.ok (k,.ofNat q) w from rfl)];rw[qY (run_underlying hd)];have:(0:Int)≤Int.ofNat q∧Int.ofNat q<(n:Int):=⟨Int.natCast_nonneg q,by show(q:Int)<n;omega⟩;simp only[iJ this];rw[qY (run_sizeOf bx)];exact z1
   ·cases e
  ·simp only[cx]at e;unfold Yx at e
   split at e
   ·rename_i cs k q;simp only[jZ,qC,qf]at e;obtain⟨hq,z,hz,rfl,rfl⟩:=e;have hq:=jh hq;obtain⟨z1,z2⟩:=XI (w:=w) (m:=m) hg bx hz a2;refine jn R ?_ z2;unfold Instr.index;simp only[cv];rw[qY (show(asIntOf (.int k (.ofNat q))).run P w=.ok (k,.ofNat q) w from rfl)];rw[qY (run_underlying hd)];have:(0:Int)≤Int.ofNat q∧Int.ofNat q<(n:Int):=⟨Int.natCast_nonneg q,by show(q:Int)<n;omega⟩;simp only[iJ this];rw[qY (run_sizeOf bx)];exact z1
   ·cases e
theorem qx2 {t:TypeId} {x:Operand} (ho:o.op=.load t x) (hr:dP m D ρ r) (R:Rel P m D h w) (e:bh P c o.op r h fin=some (v,h')):dE P m D h w ((execOp ρ o).run P w) v h':=by
 rw[ho]at e;simp only[bh,qC]at e;obtain⟨a,ha,i,hi,e⟩:=e;obtain⟨a1,a2⟩:=hr _ _ ha;simp only[execOp,ho,a1];rcases wA hi with⟨rfl,lr⟩ |⟨n,rfl,lr,hn⟩
 ·simp only[y7]at e
  split at e
  ·rename_i b off
   split at e
   ·rename_i cs t' op' hg;simp only[qC,qf]at e;obtain⟨z,hz,rfl,rfl⟩:=e;obtain⟨z1,z2⟩:=R.sq a2 hg hz;refine jn R ?_ z2;unfold Instr.loadAt;simp only[cv];rw[qY (show(Instr.sureAddr (.pointer (some ⟨(m b).1,off,none⟩))).run P w=.ok ⟨(m b).1,off,none⟩ w from rfl)];unfold loadVar;rw[qY (vi lr)];exact z1
   ·rename_i ti hg;simp only[qC,qf]at e;obtain⟨z,hz,rfl,rfl⟩:=e;obtain⟨z1,z2⟩:=R.oB a2 hg hz;refine jn R ?_ z2;unfold Instr.loadAt;simp only[cv];rw[qY (show(Instr.sureAddr (.pointer (some ⟨(m b).1,off,none⟩))).run P w=.ok ⟨(m b).1,off,none⟩ w from rfl)];unfold loadVar;rw[qY (vi lr)];exact z1
   ·cases e
  ·cases e
 ·simp only[wz]at e
  split at e
  ·rename_i b off;simp only[qC,qf]at e;obtain⟨z,hz,rfl,rfl⟩:=e;obtain⟨z1,z2,z3⟩:=R.read a2 hz;refine jn R ?_ z2;unfold Instr.loadAt;simp only[cv];rw[qY (show(Instr.sureAddr (.pointer (some ⟨(m b).1,off,none⟩))).run P w=.ok ⟨(m b).1,off,none⟩ w from rfl)];unfold loadVar;rw[qY (vi lr)];simp only[if_true];rw[qY (run_sizeOf hn),qY z1];rfl
  ·cases e
theorem qYC {t:TypeId} {x y:Operand} (ho:o.op=.store t x y) (hr:dP m D ρ r) (R:Rel P m D h w) (e:bh P c o.op r h fin=some (v,h')):dE P m D h w ((execOp ρ o).run P w) v h':=by
 rw[ho]at e;simp only[bh,qC]at e;obtain⟨a,ha,b,hb,n,hn,e⟩:=e;obtain⟨a1,a2⟩:=hr _ _ ha;obtain⟨b1,b2⟩:=hr _ _ hb;rw[GM]at e
 split at e
 ·rename_i q off;simp only[jZ,qC,qf]at e;obtain⟨hl,h1,hw,rfl,rfl⟩:=e;have hl:=jf hl;obtain⟨w',cK,tw,eX⟩:=R.write a2 (wx b2) hw;refine⟨m,D,w',.inr ⟨?_,rfl⟩,tw,eX,trivial⟩;simp only[execOp,ho,a1,b1,cv];have hs:(Instr.storeAt t (.pointer (some ⟨(m q).1,off,none⟩)) (cv m b)).run P w=.ok () w':=by
   unfold Instr.storeAt;rw[qY (show(Instr.sureAddr (.pointer (some ⟨(m q).1,off,none⟩))).run P w=.ok ⟨(m q).1,off,none⟩ w from rfl)];unfold storeVar;rw[qY (run_sizeOf hn)];rw[gj];simp only[List.size_toArray,dK,hl,ne_eq,not_true_eq_false,if_false];exact cK
  rw[qY hs];rfl
 ·cases e
end Go.Ae
namespace Go.Ae
open Go
variable {P:Program} {m:Mp} {D:Nat→Prop} {h h':AH} {w:World} {c:CV} {ρ:Operand→Value} {r:Operand→Option AV} {o:Oper} {v:AV}
theorem kb (hr:dP m D ρ r) {l:List Operand} {s:List AV} (e:gH r l=some s):l.map ρ=aS m s∧aW D s:=by
 induction l generalizing s with
 |nil=>simp[gH]at e;subst e;exact⟨rfl,trivial⟩
 |cons a l ih=>simp only[gH,Option.bind_eq_some_iff]at e;obtain⟨b,hb,t,ht,hs⟩:=e;cases hs;obtain⟨h1,h2⟩:=hr _ _ hb;obtain⟨h3,h4⟩:=ih ht;exact⟨by simp[aS,h1,h3],h2,h4⟩
theorem Kw {α β:Type} (f:α→β) (x:Array α):x.map f=(x.toList.map f).toArray:=by cases x;simp
theorem Oo {fn:Fn} {x y:Array Operand} (ho:o.op=.makeFunc fn x y) (hr:dP m D ρ r) (R:Rel P m D h w) (e:bh P c o.op r h fin=some (v,h')):dE P m D h w ((execOp ρ o).run P w) v h':=by
 rw[ho]at e;cases fn<;>simp only[bh,reduceCtorEq]at e
 rename_i f;simp only[qC,qf]at e;obtain⟨a,ha,b,hb,rfl,rfl⟩:=e;obtain⟨a1,a2⟩:=kb hr ha;obtain⟨b1,b2⟩:=kb hr hb;simp only[execOp,ho];refine jn R ?_ ⟨a2,b2⟩;simp only[Instr.makeFunc,cv,← a1,← b1,vk];rw[Kw,Kw]
theorem qGI {x:Operand} {xt t:TypeId} {ok:Bool} (ho:o.op=.typeAssert x xt t ok) (hr:dP m D ρ r) (R:Rel P m D h w) (e:bh P c o.op r h fin=some (v,h')):dE P m D h w ((execOp ρ o).run P w) v h':=by
 rw[ho]at e;simp only[bh,qC]at e;obtain⟨a,ha,d,hd,e⟩:=e;obtain⟨a1,a2⟩:=hr _ _ ha;simp only[execOp,ho,a1];have fH:(∀ms,d≠.interface ms)∧(cx ok (ob (en P t) λz=>xh t z a λy=>fin y h) (Qx t a λy=>fin y h))=some (v,h'):=by
  split at e
  ·cases e
  ·rename_i hn;exact⟨λms Er=>hn ms Er,e⟩
 obtain⟨fH,e⟩:=fH;cases ok
 ·simp only[cx]at e;unfold Qx at e
  split at e
  ·rename_i u z;simp only[jZ,qf]at e;obtain⟨hu,rfl,rfl⟩:=e;have hu:=jf hu;subst hu;refine jn R ?_ a2;unfold Instr.typeAssert;simp only[cv];rw[qY (run_underlying hd)];cases d<;>first |(exact absurd rfl (fH _)) |simp
  ·cases e
 ·simp only[cx,qC]at e;obtain⟨z,hz,e⟩:=e;obtain⟨z1,z2⟩:=yI (w:=w) (m:=m) (D:=D) hz;unfold xh at e
  split at e
  ·rename_i u y _;cases hu:Nat.beq u t
   ·rw[hu]at e;simp only[cond_false,qf]at e;obtain⟨rfl,rfl⟩:=e;refine jn R ?_ ⟨z2,trivial,trivial⟩;unfold Instr.typeAssert;simp only[cv,aS];rw[qY (run_underlying hd)];have cS:¬u=t:=yb hu;cases d<;>first |(exact absurd rfl (fH _)) |(simp only[cS,if_false,if_true];rw[qY z1];rfl)
   ·rw[hu]at e;simp only[cond_true,qf]at e;obtain⟨rfl,rfl⟩:=e;have hu:=jf hu;subst hu;refine jn R ?_ ⟨a2,trivial,trivial⟩;unfold Instr.typeAssert;simp only[cv,aS];rw[qY (run_underlying hd)];cases d<;>first |(exact absurd rfl (fH _)) |simp
  ·simp only[qf]at e;obtain⟨rfl,rfl⟩:=e;refine jn R ?_ ⟨z2,trivial,trivial⟩;unfold Instr.typeAssert;simp only[cv,aS];rw[qY (run_underlying hd)];cases d<;>first |(exact absurd rfl (fH _)) |(simp only[if_true];rw[qY z1];rfl)
  ·cases e
theorem qQm {op:BinOp} {k:IntKind} {x y:Int} {z:AV} (e:Ng op k x y=some z) (yk:IntKind):(Op.shift op k x yk y).run P w=.ok (cv m z) w∧bm D z:=by
 unfold Ng at e;rw[UQ]at e;by_cases hy:y<0
 ·simp[hy]at e
 ·simp only[iV hy,cond_false]at e;cases op<;>simp only[reduceCtorEq,Option.some.injEq]at e<;>subst e<;>refine⟨?_,trivial⟩
  ·simp only[Op.shift,hy,if_false,cv,ka];rfl
  ·simp only[Op.shift,hy,if_false,cv];rfl
theorem Gq (l:List UInt8):(ByteArray.mk l.toArray).toList=l:=by rw[ByteArray.toList_eq]
theorem qG2 {op:BinOp} {x y:List UInt8} {z:AV} (e:O5 op x y=some z):(Op.stringOp op ⟨x.toArray⟩ ⟨y.toArray⟩).run P w=.ok (cv m z) w∧bm D z:=by
 cases op<;>simp only[O5,reduceCtorEq,Option.some.injEq,fJ]at e
 case add=>
  rw[jZ]at e;obtain⟨hl,e⟩:=e;have hl:=jh hl;cases e;refine⟨?_,trivial⟩;have h1:(ByteArray.mk x.toArray).size=x.length:=by simp[ByteArray.size]
  have h2:(ByteArray.mk y.toArray).size=y.length:=by simp[ByteArray.size]
  have h3:¬(((x.length+y.length:Nat):Int)>IntKind.i64.max):=by show¬(_>(9223372036854775807:Int));omega
  simp only[Op.stringOp,h1,h2,h3,if_false,cv];show Result.ok (Value.string (ByteArray.mk x.toArray++ByteArray.mk y.toArray)) w=_
  congr 2
 all_goals
  subst e;refine⟨?_,trivial⟩;simp only[Op.stringOp,Gq,cv];rfl
theorem Zw {op:BinOp} {t:TypeId} {x y:Operand} {a b:Value} (h1:op≠.eql) (h2:op≠.neq):(eqGuard op t x y a b).run P w=.ok () w:=by unfold eqGuard;cases op<;>first |(exact absurd rfl h1) |(exact absurd rfl h2) |rfl
theorem QB {op:BinOp} {t:TypeId} {x y:Operand} {a b:AV} (ha:∀l,a≠.agg l) (hb:a≠.cH∨b≠.cH):(eqGuard op t x y (cv m a) (cv m b)).run P w=.ok () w:=by
 unfold eqGuard;cases op<;>first |rfl |skip
 all_goals
  cases a<;>first |(exact absurd rfl (ha _)) |(cases b<;>first |rfl |(rcases hb with hb |hb<;>exact absurd rfl hb))
theorem qGB {t:TypeId} {x y:Value} {b:Bool} (h:∀d,(Op.equalIn (d+1) t x y).run P w=.ok b w):(Op.equal t x y).run P w=.ok b w:=h 9999
theorem MQ {t:TypeId} {d:TypeDesc} {k:EK} {a b:AV} {q:Bool} (hd:P.underlying t=some d) (hk:Kc d=some k) (e:XY k a b=some q) (n:Nat) :
  (Op.equalIn (n+1) t (cv m a) (cv m b)).run P w=.ok q w:=by
 cases d<;>simp only[Kc,reduceCtorEq,Option.some.injEq]at hk<;>subst hk<;>unfold XY at e<;>split at e<;>
  first
   |(cases e;done)
   |skip
 all_goals try contradiction
 all_goals try (simp only[Option.some.injEq]at e;subst e)
 all_goals
  unfold Op.equalIn;rw[qY (Ae.run_underlying hd)];simp only[cv]
 all_goals first
  |rfl
  |skip
 ·rename_i k1 x1 k2 y1 _;rw[jZ]at e;obtain⟨hk,e⟩:=e;simp only[Option.some.injEq]at e;subst e;have hk:k1=k2:=by simpa using hk
  simp only[iJ hk,Ua];rfl
 ·rename_i s1 s2 _;show Result.ok ((ByteArray.mk s1.toArray)==(ByteArray.mk s2.toArray)) w=_;rw[beq_toListBytes,Gq,Gq,fJ]
mutual
theorem IU:∀v:AV,bm (λ_=>True) v
 | .bool _=>trivial
 | .int _ _=>trivial
 | .str _=>trivial
 | .ptr _ _=>trivial
 | .aO=>trivial
 | .slice _ _ _ _ _=>trivial
 | .ak=>trivial
 | .fn _ a c=>⟨y9 a,y9 c⟩
 | .yield _=>trivial
 | .dC=>trivial
 | .iface _ v=>IU v
 | .cH=>trivial
 | .agg l=>y9 l
 | .bM l=>y9 l
 | .bT _=>trivial
 | .tail _ _ _ _=>trivial
 | .dN _=>trivial
theorem y9:∀l:List AV,aW (λ_=>True) l
 |[]=>trivial
 |a::r=>⟨IU a,y9 r⟩
end
theorem Vd {t:TypeId} {d:TypeDesc} {k:EK} (hd:P.underlying t=some d) (hk:Kc d=some k):fo P t=some false:=by unfold fo;rw[hd];cases d<;>simp only[Kc,reduceCtorEq]at hk<;>rfl
theorem Zl {l1 l2:List ES} {xs ys:List AV} {q:Bool} (e:xY (l1++l2) xs ys=some q):(xY l1 xs ys=some false∧q=false)∨(xY l1 xs ys=some true∧xY l2 xs ys=some q):=by
 induction l1 with
 |nil=>exact .inr ⟨rfl,e⟩
 |cons a l1 ih=>
  cases a with
  |lD k o=>
   simp only[List.cons_append,xY,Option.bind_eq_some_iff]at e ⊢;obtain⟨x,hx,y,hy,b,hb,e⟩:=e;cases b
   ·simp only[cond_false,Option.some.injEq]at e;subst e;exact .inl ⟨⟨x,hx,y,hy,false,hb,rfl⟩,rfl⟩
   ·simp only[cond_true]at e;rcases ih e with⟨h1,h2⟩ |⟨h1,h2⟩
    ·exact .inl ⟨⟨x,hx,y,hy,true,hb,h1⟩,h2⟩
    ·exact .inr ⟨⟨x,hx,y,hy,true,hb,h1⟩,h2⟩
  |len n=>
   simp only[List.cons_append,xY]at e ⊢;cases hb:Nat.ble n xs.length&&Nat.ble n ys.length
   ·rw[hb]at e;cases e
   ·rw[hb]at e;exact ih e
theorem Vz {c n:Nat} {xs ys:List AV} (hx:c+n≤xs.length) (hy:c+n≤ys.length):∀{l:List ES},Q3 n l=true→
  xY (YV c l) xs ys=xY l ((xs.drop c).take n) ((ys.drop c).take n):=by
 intro l
 induction l with
 |nil=>intro _;rfl
 |cons a l ih=>
  intro h;cases a with
  |lD k o=>
   simp only[Q3,Bool.and_eq_true]at h;have ho:=jh h.1;have gx:wM xs (c+o)=wM ((xs.drop c).take n) o:=by rw[xR,xR,List.getElem?_take_of_lt omQ,List.getElem?_drop]
   have gy:wM ys (c+o)=wM ((ys.drop c).take n) o:=by rw[xR,xR,List.getElem?_take_of_lt omQ,List.getElem?_drop]
   simp only[YV,xY,gx,gy,ih h.2]
  |len m=>
   simp only[Q3,Bool.and_eq_true]at h;have hm:=jh h.1;have h1:(Nat.ble (c+m) xs.length&&Nat.ble (c+m) ys.length)=true:=by rw[iY omQ,iY omQ];rfl
   have h2:(Nat.ble m ((xs.drop c).take n).length&&Nat.ble m ((ys.drop c).take n).length)=true:=by rw[iY (by simp;omega),iY (by simp;omega)];rfl
   simp only[YV,xY,h1,h2,cond_true,ih h.2]
theorem qZL:∀(d:Nat) {fs:List Field} {l:List ES} {xs ys:List AV} {q:Bool} (n:Nat) (_:yt P d fs=some l) (_:xY l xs ys=some q),
  (Op.eqFields (n+d) (aS m xs).toArray (aS m ys).toArray fs).run P w=.ok q w:=by
 intro d
 induction d with
 |zero=>intro fs l xs ys q n hl;cases hl
 |succ d ihd=>
  intro fs l xs ys q n hl e;simp only[yt]at hl
  induction fs generalizing l q with
  |nil=>simp[Xx]at hl;subst hl;simp[xY]at e;subst e;rfl
  |cons f fs ih=>
   unfold Xx at hl;cases hn : f.name == "_"
   ·rw [hn] at hl;simp only [cond_false, Option.bind_eq_some_iff] at hl;obtain ⟨u, hu, hl⟩ := hl;have cS : f.name ≠ "_" := by simpa using hn
    by_cases cC:∃gs,u=.struct gs
    ·obtain⟨gs,rfl⟩:=cC;simp only[Option.bind_eq_some_iff]at hl;obtain⟨sz,bx,hl⟩:=hl;cases Es:P.stoodInHeld f.type
     ·rw[Es]at hl;simp only[cond_false,Option.bind_eq_some_iff]at hl;obtain⟨l1,pT,hl⟩:=hl;cases dA:Q3 sz l1
      ·rw[dA]at hl;cases hl
      ·rw[dA]at hl;simp only[cond_true,Option.map_eq_some_iff]at hl;obtain⟨l2,lq,rfl⟩:=hl;simp only[xY]at e;cases hb:Nat.ble (f.offset+sz) xs.length&&Nat.ble (f.offset+sz) ys.length
       ·rw[hb]at e;cases e
       ·rw[hb]at e;simp only[cond_true]at e;simp only[Bool.and_eq_true]at hb;have hx:=jh hb.1;have hy:=jh hb.2;have lr:fo P f.type=some true:=by unfold fo;rw[hu];rfl
        have px:=XI (P:=P) (m:=m) (w:=w) (t:=f.type) (off:=f.offset) lr bx (show yy sz (yl f.offset xs)=some ((xs.drop f.offset).take sz) by rw[wc,gY (by simp;omega)]) (y9 xs);have py:=XI (P:=P) (m:=m) (w:=w) (t:=f.type) (off:=f.offset) lr bx (show yy sz (yl f.offset ys)=some ((ys.drop f.offset).take sz) by rw[wc,gY (by simp;omega)]) (y9 ys);have AZ:∀b,xY (YV f.offset l1) xs ys=some b→
          (Op.equalIn (n+(d+1)) f.type (cv m (.agg ((xs.drop f.offset).take sz))) (cv m (.agg ((ys.drop f.offset).take sz)))).run P w=.ok b w:=by
         intro b tx;rw[Vz hx hy dA]at tx;have hf:P.fieldsOf f.type=gs:=by unfold Program.fieldsOf;rw[hu]
         rw[show cv m (.agg ((xs.drop f.offset).take sz))=.agg (aS m ((xs.drop f.offset).take sz)).toArray from rfl,show cv m (.agg ((ys.drop f.offset).take sz))=.agg (aS m ((ys.drop f.offset).take sz)).toArray from rfl];rw[show n+(d+1)=(n+d)+1 from rfl,run_equalIn_struct w (n+d) f.type _ _ (by rw[hf];exact hu) Es,hf];exact ihd n pT tx
        unfold Op.eqFields;rw[iJ cS,qY px.1,qY py.1];rcases Zl e with⟨h1,rfl⟩ |⟨h1,h2⟩
        ·rw[qY (AZ false h1)];rfl
        ·rw[qY (AZ true h1)];simp only[Bool.not_true,Bool.false_eq_true,if_false];exact ih lq h2
     ·rw[Es]at hl;cases hl
    ·have hl:∃k s,Kc u=some k∧Xx P (yt P d) fs=some s∧ES.lD k f.offset::s=l:=by
      cases u<;>first |(exact absurd ⟨_,rfl⟩ cC) |skip
      all_goals
       simp only[Option.bind_eq_some_iff]at hl;obtain⟨k,hk,hl⟩:=hl;refine⟨k,?_⟩;cases k<;>simp only[reduceCtorEq,Option.map_eq_some_iff]at hl<;>
        (obtain⟨s,hs,rfl⟩:=hl;exact⟨s,hk,hs,rfl⟩)
     obtain⟨k,s,hk,hs,rfl⟩:=hl;simp only[xY,Option.bind_eq_some_iff]at e;obtain⟨x,hx,y,hy,b,hb,e⟩:=e;unfold Op.eqFields;rw[iJ cS];rw[qY (XC (m:=m) (w:=w) (Vd hu hk) hx (y9 xs)).1];rw[qY (XC (m:=m) (w:=w) (Vd hu hk) hy (y9 ys)).1];rw[show n+(d+1)=(n+d)+1 from rfl,qY (MQ hu hk hb (n+d))];cases b
     ·simp only[cond_false,Option.some.injEq]at e;subst e;rfl
     ·simp only[cond_true]at e;simp only[Bool.not_true,Bool.false_eq_true,if_false];exact ih hs e
   ·rw[hn]at hl;cases hl
theorem qvO {t:TypeId} {fs:Array Field} {l:List ES} {xs ys:List AV} {q:Bool} (hd:P.underlying t=some (.struct fs)) (hg:(P.eqGuardType P.depth t||P.stoodInHeld t)=false)
  (hl:yt P 8 fs.toList=some l) (e:xY l xs ys=some q):(Op.equal t (cv m (.agg xs)) (cv m (.agg ys))).run P w=.ok q w:=by
 simp only[Bool.or_eq_false_iff]at hg;have hf:P.fieldsOf t=fs:=by unfold Program.fieldsOf;rw[hd]
 have:(Op.equalIn (9991+8+1) t (cv m (.agg xs)) (cv m (.agg ys))).run P w=.ok q w:=by rw[show cv m (.agg xs)=.agg (aS m xs).toArray from rfl,show cv m (.agg ys)=.agg (aS m ys).toArray from rfl];rw[run_equalIn_struct w (9991+8) t _ _ (by rw[hf];exact hd) hg.2,hf];exact qZL 8 9991 hl e
 exact this
theorem UC (b:Bool):(b !=false)=b:=by cases b<;>rfl
theorem VH (b:Bool):(b !=true)=!b:=by cases b<;>rfl
theorem qgd {op:BinOp} {t t2:TypeId} {x y:Operand} (ho:o.op=.binOp op t x y t2) (hr:dP m D ρ r) (R:Rel P m D h w) (e:bh P c o.op r h fin=some (v,h')):dE P m D h w ((execOp ρ o).run P w) v h':=by
 rw[ho]at e;simp only[bh,qC]at e;obtain⟨a,ha,b,hb,e⟩:=e;obtain⟨a1,a2⟩:=hr _ _ ha;obtain⟨b1,b2⟩:=hr _ _ hb;simp only[execOp,ho,a1,b1]
 suffices hs:h=h'∧bm D v∧(eqGuard op t x y (cv m a) (cv m b)).run P w=.ok () w∧(binOp op t (cv m a) (cv m b)).run P w=.ok (cv m v) w by
  obtain⟨rfl,hv,h1,h2⟩:=hs;refine jn R ?_ hv;rw[qY h1];exact h2
 have shift:∀op,(op=.shl∨op=.shr)→wm op a b (λz=>fin z h)=some (v,h')→h=h'∧bm D v∧(eqGuard op t x y (cv m a) (cv m b)).run P w=.ok () w∧(binOp op t (cv m a) (cv m b)).run P w=.ok (cv m v) w:=by
  intro op lI e;unfold wm at e
  split at e
  ·rename_i k1 p k2 q _;simp only[qC,qf]at e;obtain⟨z,hz,rfl,rfl⟩:=e;obtain⟨z1,z2⟩:=qQm (P:=P) (m:=m) (D:=D) (w:=w) hz k2;refine⟨rfl,z2,Zw (by rcases lI with rfl |rfl<;>simp) (by rcases lI with rfl |rfl<;>simp),?_⟩;rcases lI with rfl |rfl<;>exact z1
  ·cases e
 unfold AK at e
 split at e
 ·exact shift .shl (.inl rfl) e
 ·exact shift .shr (.inr rfl) e
 ·rename_i pU n0;simp only[qC]at e;obtain⟨d,hd,e⟩:=e;have pU:op≠.shl:=λhh=>pU hh;have n0:op≠.shr:=λhh=>n0 hh;have gen:∀(k:EK),Kc d=some k→(∀kk,d≠.int kk)→d≠.string→∀q,XY k a b=some q→
    (∀x y,(eqGuard .eql t x y (cv m a) (cv m b)).run P w=.ok () w)∧(∀x y,(eqGuard .neq t x y (cv m a) (cv m b)).run P w=.ok () w)∧
    (binOp .eql t (cv m a) (cv m b)).run P w=.ok (.bool q) w∧(binOp .neq t (cv m a) (cv m b)).run P w=.ok (.bool !q) w:=by
   intro k hk hi hs q hq;have cK:=qGB (λn=>MQ (m:=m) (w:=w) hd hk hq n);have lr:(∀l,a≠.agg l)∧(a≠.cH∨b≠.cH)∧(∀kk n,a≠.int kk n)∧(∀s,a≠.str s):=by
    cases d<;>simp only[Kc,reduceCtorEq,Option.some.injEq]at hk<;>first |(exact absurd rfl (hi _)) |(exact absurd rfl hs) |skip
    all_goals
     subst hk;unfold XY at hq
     split at hq
     all_goals try contradiction
     all_goals simp
   obtain⟨g1,g2,g3,g4⟩:=lr;refine⟨λx y=>QB g1 g2,λx y=>QB g1 g2,?_,?_⟩
   ·have:binOp .eql t (cv m a) (cv m b)=(do pure (Value.bool (← Op.equal t (cv m a) (cv m b)))):=by
     cases a<;>first |rfl |(exact absurd rfl (g3 _ _)) |(exact absurd rfl (g4 _))
    rw[this,qY cK];rfl
   ·have:binOp .neq t (cv m a) (cv m b)=(do pure (Value.bool (!(← Op.equal t (cv m a) (cv m b))))):=by
     cases a<;>first |rfl |(exact absurd rfl (g3 _ _)) |(exact absurd rfl (g4 _))
    rw[this,qY cK];rfl
  have pe:(∀kk,d≠.int kk)→d≠.string→∀(k:EK),Kc d=some k→∀neg,(neg=false→op=.eql)→(neg=true→op=.neq)→ml k neg a b (λz=>fin z h)=some (v,h')→
    h=h'∧bm D v∧(eqGuard op t x y (cv m a) (cv m b)).run P w=.ok () w∧(binOp op t (cv m a) (cv m b)).run P w=.ok (cv m v) w:=by
   intro hi hs k hk neg e0 e1 e;unfold ml at e;simp only[qC,qf]at e;obtain⟨q,hq,rfl,rfl⟩:=e;obtain⟨q1,q2,q3,q4⟩:=gen k hk hi hs q hq;cases neg
   ·obtain rfl:=e0 rfl;exact⟨rfl,trivial,q1 x y,by rw[q3,UC];rfl⟩
   ·obtain rfl:=e1 rfl;exact⟨rfl,trivial,q2 x y,by rw[q4,VH];rfl⟩
  have ps:∀fs l,d=.struct fs→(P.eqGuardType P.depth t||P.stoodInHeld t)=false→yt P 8 fs.toList=some l→∀neg,(neg=false→op=.eql)→(neg=true→op=.neq)→GF l neg a b (λz=>fin z h)=some (v,h')→
    h=h'∧bm D v∧(eqGuard op t x y (cv m a) (cv m b)).run P w=.ok () w∧(binOp op t (cv m a) (cv m b)).run P w=.ok (cv m v) w:=by
   intro fs l n6 hg hl neg e0 e1 ee;subst n6;unfold GF at ee
   split at ee
   ·rename_i xs ys;simp only[qC,qf]at ee;obtain⟨q,hq,rfl,rfl⟩:=ee;have cK:=qvO (m:=m) (w:=w) hd hg hl hq;simp only[Bool.or_eq_false_iff]at hg;cases neg
    ·obtain rfl:=e0 rfl;refine⟨rfl,trivial,run_eqGuard_agg w _ _ _ _ _ _ hg.1,?_⟩;have:binOp .eql t (cv m (.agg xs)) (cv m (.agg ys))=(do pure (Value.bool (← Op.equal t (cv m (.agg xs)) (cv m (.agg ys))))):=rfl;rw[this,qY cK,UC];rfl
    ·obtain rfl:=e1 rfl;refine⟨rfl,trivial,run_eqGuard_agg w _ _ _ _ _ _ hg.1,?_⟩;have:binOp .neq t (cv m (.agg xs)) (cv m (.agg ys))=(do pure (Value.bool (!(← Op.equal t (cv m (.agg xs)) (cv m (.agg ys)))))):=rfl;rw[this,qY cK,VH];rfl
   ·cases ee
  split at e
  ·--numbers
   rw[Ny]at e
   split at e
   ·rename_i k1 p k2 q;simp only[jZ,qC,qf]at e;obtain⟨hk,z,hz,rfl,rfl⟩:=e;have hk:k1=k2:=by simpa using hk
    subst hk;obtain⟨z1,z2⟩:=qjU (P:=P) (m:=m) (D:=D) (w:=w) hz;refine⟨rfl,z2,QB aN aN,?_⟩;have:binOp op t (cv m (.int k1 p)) (cv m (.int k1 q))=Oz op k1 p q:=by
     cases op<;>first |(exact absurd rfl pU) |(exact absurd rfl n0) |simp[binOp,cv,Oz]
    rw[this];exact z1
   ·cases e
  ·unfold Vj at e
   split at e
   ·rename_i s1 s2;simp only[qC,qf]at e;obtain⟨z,hz,rfl,rfl⟩:=e;obtain⟨z1,z2⟩:=qG2 (P:=P) (m:=m) (D:=D) (w:=w) hz;refine⟨rfl,z2,QB aN aN,?_⟩;have:binOp op t (cv m (.str s1)) (cv m (.str s2))=Op.stringOp op ⟨s1.toArray⟩ ⟨s2.toArray⟩:=by
     cases op<;>first |(exact absurd rfl pU) |(exact absurd rfl n0) |rfl
    rw[this];exact z1
   ·cases e
  ·rename_i fs
   split at e
   ·cases hg:(P.eqGuardType P.depth t||P.stoodInHeld t)<;>simp only[hg,cx,reduceCtorEq]at e
    simp only[qC]at e;obtain⟨l,hl,e⟩:=e;exact ps fs l rfl hg hl false (λ_=>rfl) aN e
   ·cases hg:(P.eqGuardType P.depth t||P.stoodInHeld t)<;>simp only[hg,cx,reduceCtorEq]at e
    simp only[qC]at e;obtain⟨l,hl,e⟩:=e;exact ps fs l rfl hg hl true aN (λ_=>rfl) e
   ·cases e
  ·rename_i hi hs _
   split at e
   ·simp only[qC]at e;obtain⟨k,hk,e⟩:=e;exact pe (λkk hh=>hi kk hh) (λhh=>hs hh) k hk false (λ_=>rfl) aN e
   ·simp only[qC]at e;obtain⟨k,hk,e⟩:=e;exact pe (λkk hh=>hi kk hh) (λhh=>hs hh) k hk true aN (λ_=>rfl) e
   ·cases e
end Go.Ae
