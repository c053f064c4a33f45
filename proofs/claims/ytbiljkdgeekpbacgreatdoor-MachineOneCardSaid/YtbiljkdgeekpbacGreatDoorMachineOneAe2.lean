/- The abstract executor of the program's form in Lean, shown sound: what an abstract heap says of a world; loads, stores, numbers, simple operations. -/
import Derived.Test.YtbiljkdgeekpbacGreatDoorMachineOneAe1
import Derived.Below
import Derived.Lib.LaidTab
import Derived.Laws.StructEq
namespace Go.Ae
theorem xR {a b:Nat} (h:a≠b):Nat.beq a b=false:=by
 cases e:Nat.beq a b
 ·rfl
 ·exact absurd (Nat.eq_of_beq_eq_true e) h
theorem vq {a b:Nat} (h:Nat.beq a b=false):a≠b:=λe=>by subst e;rw[Nat.beq_refl]at h;cases h
theorem jo {a b:Nat} (h:Nat.beq a b=true):a=b:=Nat.eq_of_beq_eq_true h
theorem PT.get_e0 {α:Type} (i:Nat):(PT.e:PT α).get i=none:=rfl
theorem PT.get_n {α:Type} (l:PT α) (v:Option α) (r:PT α) (i:Nat):(PT.n l v r).get i=bif Nat.beq i 0 then v else bif Nat.beq (i%2) 1 then l.get (i/2)else r.get (i/2-1):=by show Bool.rec (motive:=λ_=>Option α) (Bool.rec (motive:=λ_=>Option α) (r.get (i/2-1)) (l.get (i/2)) (Nat.beq (i%2) 1)) v (Nat.beq i 0)=_;cases Nat.beq i 0<;>cases Nat.beq (i%2) 1<;>rfl
theorem PT.setF_e {α:Type} (f i:Nat) (x:α):PT.setF (f+1) .e i x=bif Nat.beq i 0 then .n .e (some x) .e else bif Nat.beq (i%2) 1 then .n (PT.setF f .e (i/2) x) none .e else .n .e none (PT.setF f .e (i/2-1) x):=by show Bool.rec (motive:=λ_=>PT α) (Bool.rec (motive:=λ_=>PT α) (.n .e none (PT.setF f .e (i/2-1) x)) (.n (PT.setF f .e (i/2) x) none .e) (Nat.beq (i%2) 1)) (.n .e (some x) .e) (Nat.beq i 0)=_;cases Nat.beq i 0<;>cases Nat.beq (i%2) 1<;>rfl
theorem PT.setF_n {α:Type} (f i:Nat) (x:α) (l:PT α) (v:Option α) (r:PT α):PT.setF (f+1) (.n l v r) i x=bif Nat.beq i 0 then .n l (some x) r else bif Nat.beq (i%2) 1 then .n (PT.setF f l (i/2) x) v r else .n l v (PT.setF f r (i/2-1) x):=by show Bool.rec (motive:=λ_=>PT α) (Bool.rec (motive:=λ_=>PT α) (.n l v (PT.setF f r (i/2-1) x)) (.n (PT.setF f l (i/2) x) v r) (Nat.beq (i%2) 1)) (.n l (some x) r) (Nat.beq i 0)=_;cases Nat.beq i 0<;>cases Nat.beq (i%2) 1<;>rfl
theorem VH {α:Type} (i:Nat):kz ([]:List α) i=none:=rfl
theorem NG {α:Type} (a:α) (r:List α) (i:Nat):kz (a::r) i=bif Nat.beq i 0 then some a else kz r (i-1):=by show Bool.rec (motive:=λ_=>Option α) (kz r (i-1)) (some a) (Nat.beq i 0)=_;cases Nat.beq i 0<;>rfl
theorem Zg {α:Type} (l:List α):yt 0 l=some []:=rfl
theorem qGA {α:Type} (n:Nat):yt (n+1) ([]:List α)=none:=rfl
theorem VN {α:Type} (n:Nat) (a:α) (r:List α):yt (n+1) (a::r)=(yt n r).bind λs=>some (a::s):=by show Option.rec (motive:=λ_=>Option (List α)) none (λs=>some (a::s)) (yt n r)=_;cases yt n r<;>rfl
theorem qw0 {α:Type} (l:List α):vy 0 l=l:=rfl
theorem qGm {α:Type} (n:Nat):vy (n+1) ([]:List α)=[]:=rfl
theorem qXT {α:Type} (n:Nat) (a:α) (r:List α):vy (n+1) (a::r)=vy n r:=rfl
theorem qkE {α:Type} (l:List α):Mx l []=some l:=rfl
theorem qzo {α:Type} (x:α) (xs:List α):Mx [] (x::xs)=none:=rfl
theorem Ns {α:Type} (a:α) (l:List α) (x:α) (xs:List α):Mx (a::l) (x::xs)=(Mx l xs).bind λs=>some (x::s):=by show Option.rec (motive:=λ_=>Option (List α)) none (λs=>some (x::s)) (Mx l xs)=_;cases Mx l xs<;>rfl
theorem qX4 {α:Type} (n:Nat) (xs:List α):QO [] (n+1) xs=none:=rfl
theorem UZ {α:Type} (a:α) (l:List α) (n:Nat) (xs:List α):QO (a::l) (n+1) xs=(QO l n xs).bind λs=>some (a::s):=by show Option.rec (motive:=λ_=>Option (List α)) none (λs=>some (a::s)) (QO l n xs)=_;cases QO l n xs<;>rfl
theorem qjh (t:Trie AV) (i:Nat):qQu t i []=t:=rfl
theorem qW7 (t:Trie AV) (i:Nat) (x:AV) (r:List AV):qQu t i (x::r)=qQu (Trie.set t i x) (i+1) r:=rfl
theorem y9 (z:List AV) (t:Trie AV) (i:Nat):Qh z t i=(match Trie.get t i with |some v=>some v |none=>kz z (i%z.length)):=by show Option.rec (motive:=λ_=>Option AV) (kz z (i%z.length)) (λv=>some v) (Trie.get t i)=_;cases Trie.get t i<;>rfl
theorem qVc (z:List AV) (t:Trie AV) (i:Nat):JH z t i 0=some []:=rfl
theorem OS (z:List AV) (t:Trie AV) (i n:Nat):JH z t i (n+1)=(Qh z t i).bind λv=>(JH z t (i+1) n).bind λs=>some (v::s):=by
 show Option.rec (motive:=λ_=>Option (List AV)) none (λv=>Option.rec (motive:=λ_=>Option (List AV)) none (λs=>some (v::s)) (JH z t (i+1) n)) (Qh z t i)=_;cases Qh z t i with
 |none=>rfl
 |some v=>cases JH z t (i+1) n<;>rfl
theorem PT.get_setF {α:Type}:∀(f:Nat) (t:PT α) (i:Nat) (x:α) (j:Nat),i<f→(PT.setF f t i x).get j=if i=j then some x else t.get j:=by
 intro f
 induction f with
 |zero=>intro t i x j h;omega
 |succ f ih=>
  intro t i x j h;cases t with
  |e=>
   simp only[PT.setF_e];by_cases h0:i=0
   ·subst h0;simp only[Nat.beq_refl,cond_true,PT.get_n,PT.get_e0];by_cases hj:j=0
    ·subst hj;simp
    ·rw[iQ (λe=>hj e.symm)];have:Nat.beq j 0=false:=xR hj;rw[this];cases hb:Nat.beq (j%2) 1<;>simp
   ·have hi0:Nat.beq i 0=false:=xR h0;rw[hi0];simp only[cond_false];cases hm:Nat.beq (i%2) 1
    ·have hm':i%2≠1:=vq hm;simp only[cond_false,PT.get_n,PT.get_e0];by_cases hj:j=0
     ·subst hj;simp[h0]
     ·have hj0:Nat.beq j 0=false:=xR hj;rw[hj0];simp only[cond_false];cases hjm:Nat.beq (j%2) 1
      ·have hjm':j%2≠1:=vq hjm;simp only[cond_false];rw[ih _ _ _ _ omQ];simp only[PT.get_e0];by_cases e:i=j
       ·subst e;simp
       ·rw[iQ omQ,iQ e]
      ·have hjm':j%2=1:=Nat.eq_of_beq_eq_true hjm;simp only[cond_true];rw[iQ omQ]
    ·have hm':i%2=1:=Nat.eq_of_beq_eq_true hm;simp only[cond_true,PT.get_n,PT.get_e0];by_cases hj:j=0
     ·subst hj;simp[h0]
     ·have hj0:Nat.beq j 0=false:=xR hj;rw[hj0];simp only[cond_false];cases hjm:Nat.beq (j%2) 1
      ·have hjm':j%2≠1:=vq hjm;simp only[cond_false];rw[iQ omQ]
      ·have hjm':j%2=1:=Nat.eq_of_beq_eq_true hjm;simp only[cond_true];rw[ih _ _ _ _ omQ];simp only[PT.get_e0];by_cases e:i=j
       ·subst e;simp
       ·rw[iQ omQ,iQ e]
  |n l v r=>
   simp only[PT.setF_n];by_cases h0:i=0
   ·subst h0;simp only[Nat.beq_refl,cond_true,PT.get_n];by_cases hj:j=0
    ·subst hj;simp
    ·rw[iQ (λe=>hj e.symm)];have:Nat.beq j 0=false:=xR hj;rw[this];simp
   ·have hi0:Nat.beq i 0=false:=xR h0;rw[hi0];simp only[cond_false];cases hm:Nat.beq (i%2) 1
    ·have hm':i%2≠1:=vq hm;simp only[cond_false,PT.get_n];by_cases hj:j=0
     ·subst hj;simp[h0]
     ·have hj0:Nat.beq j 0=false:=xR hj;rw[hj0];simp only[cond_false];cases hjm:Nat.beq (j%2) 1
      ·have hjm':j%2≠1:=vq hjm;simp only[cond_false];rw[ih _ _ _ _ omQ];by_cases e:i=j
       ·subst e;simp
       ·rw[iQ omQ,iQ e]
      ·have hjm':j%2=1:=Nat.eq_of_beq_eq_true hjm;simp only[cond_true];rw[iQ omQ]
    ·have hm':i%2=1:=Nat.eq_of_beq_eq_true hm;simp only[cond_true,PT.get_n];by_cases hj:j=0
     ·subst hj;simp[h0]
     ·have hj0:Nat.beq j 0=false:=xR hj;rw[hj0];simp only[cond_false];cases hjm:Nat.beq (j%2) 1
      ·have hjm':j%2≠1:=vq hjm;simp only[cond_false];rw[iQ omQ]
      ·have hjm':j%2=1:=Nat.eq_of_beq_eq_true hjm;simp only[cond_true];rw[ih _ _ _ _ omQ];by_cases e:i=j
       ·subst e;simp
       ·rw[iQ omQ,iQ e]
theorem PT.get_set {α:Type} (t:PT α) (i:Nat) (x:α) (j:Nat):(t.set i x).get j=if i=j then some x else t.get j :=
 PT.get_setF (i+1) t i x j (Nat.lt_succ_self i)
@[simp] theorem PT.get_set_same {α:Type} (t:PT α) (i:Nat) (x:α):(t.set i x).get i=some x:=by rw[PT.get_set,iJ rfl]
def Yn (i m:Nat):Bool:=Nat.beq (Nat.land i m) 0
theorem PT.kid_sub {α:Type} (i j m:Nat) (f:PT α→PT α) (t:PT α):PT.kid j m (PT.sub i m f t)=if Yn i m=Yn j m then f (PT.kid j m t)else PT.kid j m t:=by
 unfold Yn;cases t with
 |e=>
  show PT.kid j m (Bool.rec (motive:=λ_=>PT α) (.n .e none (f .e)) (.n (f .e) none .e) (Nat.beq (Nat.land i m) 0))=_;cases Nat.beq (Nat.land i m) 0
  ·show Bool.rec (motive:=λ_=>PT α) (f .e) .e (Nat.beq (Nat.land j m) 0)=_;cases Nat.beq (Nat.land j m) 0<;>rfl
  ·show Bool.rec (motive:=λ_=>PT α) .e (f .e) (Nat.beq (Nat.land j m) 0)=_;cases Nat.beq (Nat.land j m) 0<;>rfl
 |n l v r=>
  show PT.kid j m (Bool.rec (motive:=λ_=>PT α) (.n l v (f r)) (.n (f l) v r) (Nat.beq (Nat.land i m) 0))=if _ then f (Bool.rec (motive:=λ_=>PT α) r l (Nat.beq (Nat.land j m) 0))else Bool.rec (motive:=λ_=>PT α) r l (Nat.beq (Nat.land j m) 0)
  cases Nat.beq (Nat.land i m) 0
  ·show Bool.rec (motive:=λ_=>PT α) (f r) l (Nat.beq (Nat.land j m) 0)=_;cases Nat.beq (Nat.land j m) 0<;>rfl
  ·show Bool.rec (motive:=λ_=>PT α) r (f l) (Nat.beq (Nat.land j m) 0)=_;cases Nat.beq (Nat.land j m) 0<;>rfl
theorem PT.leaf_mark {α:Type} (x:α) (t:PT α):(PT.mark x t).leaf=some x:=by cases t<;>rfl
noncomputable def qYo {α:Type}:List Nat→PT α→Nat→Option α
 |[],t,_=>t.leaf
 |m::r,t,i=>qYo r (PT.kid i m t) i
noncomputable def qq9 {α:Type}:List Nat→Nat→α→PT α→PT α
 |[],_,x=>PT.mark x
 |m::r,i,x=>PT.sub i m (qq9 r i x)
theorem qGI {α:Type} (i j:Nat) (x:α):∀(L:List Nat) (t:PT α),qYo L (qq9 L i x t) j=if(∀m∈L,Yn i m=Yn j m)then some x else qYo L t j:=by
 intro L
 induction L with
 |nil=>intro t;simp[qYo,qq9,PT.leaf_mark]
 |cons m L ih=>
  intro t;simp only[qYo,qq9,PT.kid_sub];by_cases h:Yn i m=Yn j m
  ·rw[iJ h,ih];by_cases h2:∀k∈L,Yn i k=Yn j k
   ·rw[iJ h2,iJ (by intro k hk;rcases List.mem_cons.1 hk with rfl |hk;exact h;exact h2 k hk)]
   ·rw[iQ h2,iQ (λhh=>h2 λk hk=>hh k (iX _ hk))]
  ·rw[iQ h,iQ (λhh=>h (hh m (iK ..)))]
def Uf:List Nat:=[2048,1024,512,256,128,64,32,16,8,4,2,1]
theorem KY (i k:Nat):Yn i (2 ^ k)=!i.testBit k:=by
 unfold Yn;cases h:i.testBit k
 ·have:Nat.land i (2 ^ k)=0:=by
   apply Nat.eq_of_testBit_eq;intro n;show(i&&&2 ^ k).testBit n=_;rw[Nat.testBit_and,Nat.testBit_two_pow];by_cases e:k=n
   ·subst e;simp[h]
   ·simp[e]
  rw[this];rfl
 ·have:Nat.land i (2 ^ k)≠0:=by
   intro e;have:=congrArg (λx=>x.testBit k) e;simp only[Nat.zero_testBit]at this;have h2:(i&&&2 ^ k).testBit k=false:=this;rw[Nat.testBit_and,Nat.testBit_two_pow,h]at h2;simp at h2
  rw[xR this];rfl
theorem Ne (i j:Nat):(∀m∈Uf,Yn i m=Yn j m)↔i%4096=j%4096:=by
 have hm:Uf=[2 ^ 11,2 ^ 10,2 ^ 9,2 ^ 8,2 ^ 7,2 ^ 6,2 ^ 5,2 ^ 4,2 ^ 3,2 ^ 2,2 ^ 1,2 ^ 0]:=rfl;rw[hm];constructor
 ·intro h;have hb:∀k,k<12→i.testBit k=j.testBit k:=by
   intro k hk;have hmem:2 ^ k∈[2 ^ 11,2 ^ 10,2 ^ 9,2 ^ 8,2 ^ 7,2 ^ 6,2 ^ 5,2 ^ 4,2 ^ 3,2 ^ 2,2 ^ 1,2 ^ 0]:=by
    have:k=0∨k=1∨k=2∨k=3∨k=4∨k=5∨k=6∨k=7∨k=8∨k=9∨k=10∨k=11:=by omega
    rcases this with rfl |rfl |rfl |rfl |rfl |rfl |rfl |rfl |rfl |rfl |rfl |rfl<;>simp
   have:=h _ hmem;rw[KY,KY]at this;simpa using this
  apply Nat.eq_of_testBit_eq;intro n;rw[show 4096=2 ^ 12 from rfl,Nat.testBit_mod_two_pow,Nat.testBit_mod_two_pow];by_cases hn:n<12
  ·simp[hn,hb n hn]
  ·simp[hn]
 ·intro h m hmem;have key:∀k,k<12→Yn i (2 ^ k)=Yn j (2 ^ k):=by
   intro k hk;rw[KY,KY];have:=congrArg (λx=>x.testBit k) h;simp only[show 4096=2 ^ 12 from rfl,Nat.testBit_mod_two_pow,hk,decide_true,Bool.true_and]at this;rw[this]
  simp only[List.mem_cons,List.not_mem_nil,or_false]at hmem;rcases hmem with rfl |rfl |rfl |rfl |rfl |rfl |rfl |rfl |rfl |rfl |rfl |rfl<;>exact key _ omQ
theorem PT.get12_eq {α:Type} (t:PT α) (i:Nat):t.get12 i=qYo Uf t i:=rfl
theorem PT.set12_eq {α:Type} (t:PT α) (i:Nat) (x:α):t.set12 i x=qq9 Uf i x t:=rfl
theorem PT.get_set12 {α:Type} (t:PT α) (i:Nat) (x:α) (j:Nat):(t.set12 i x).get12 j=if i%4096=j%4096 then some x else t.get12 j:=by
 rw[PT.get12_eq,PT.get12_eq,PT.set12_eq,qGI];by_cases h:i%4096=j%4096
 ·rw[iJ h,iJ ((Ne i j).2 h)]
 ·rw[iQ h,iQ (λhh=>h ((Ne i j).1 hh))]
theorem Trie.get_eq {α:Type} (t:Trie α) (i:Nat):t.get i=(PT.get t (i/4096)).bind λs=>s.get12 i:=by show Option.rec (motive:=λ_=>Option α) none (λs=>PT.get12 s i) (PT.get t (i/4096))=_;cases PT.get t (i/4096)<;>rfl
theorem Trie.get_e {α:Type} (i:Nat):Trie.get (PT.e:Trie α) i=none:=rfl
theorem Trie.get_set {α:Type} (t:Trie α) (i:Nat) (x:α) (j:Nat):(t.set i x).get j=if i=j then some x else t.get j:=by
 rw[Trie.get_eq,Trie.get_eq];show((PT.set t (i/4096) (PT.set12 (Option.rec (motive:=λ_=>PT α) .e (λs=>s) (PT.get t (i/4096))) i x)).get (j/4096)).bind _=_;rw[PT.get_set];by_cases hd:i/4096=j/4096
 ·rw[iJ hd,Option.bind_some,PT.get_set12,← hd];by_cases hm:i%4096=j%4096
  ·have:i=j:=by omega
   rw[iJ hm,iJ this]
  ·have:i≠j:=λe=>hm (by rw[e]);rw[iQ hm,iQ this];cases PT.get t (i/4096)<;>rfl
 ·have:i≠j:=λe=>hd (by rw[e]);rw[iQ hd,iQ this]
@[simp] theorem Trie.get_set_same {α:Type} (t:Trie α) (i:Nat) (x:α):(t.set i x).get i=some x:=by rw[Trie.get_set,iJ rfl]
theorem JE (p:Nat×Blk) (l:List (Nat×Blk)) (b:Nat) (d:Option Blk):Ug (p::l) b d=if p.1=b then some p.2 else Ug l b d:=by
 show Bool.rec (motive:=λ_=>Option Blk) (Ug l b d) (some p.2) (Nat.beq p.1 b)=_;by_cases h:p.1=b
 ·rw[iJ h,h,Nat.beq_refl]
 ·rw[iQ h,xR h]
theorem Nz:∀(n:Nat) (l:List (Nat×Blk)) (b:Nat) (d:Option Blk),Ug (Nf n l) b (Ug (vy n l) b d)=Ug l b d:=by
 intro n
 induction n with
 |zero=>intro l b d;rfl
 |succ n ih=>
  intro l b d;cases l with
  |nil=>rfl
  |cons p l=>show Ug (p::Nf n l) b (Ug (vy n l) b d)=_;rw[JE,JE,ih]
theorem M7:∀(l:List (Nat×Blk)) (t:Trie Blk) (b:Nat),Trie.get (Oj l t) b=Ug l b (Trie.get t b):=by
 intro l
 induction l with
 |nil=>intro t b;rfl
 |cons p l ih=>intro t b;show Trie.get (Trie.set (Oj l t) p.1 p.2) b=_;rw[Trie.get_set,JE,ih]
theorem AH.get_put (h:AH) (b b':Nat) (x:Blk):(h.put b x).get b'=if b=b' then some x else h.get b':=by show Ug ((b,x)::Nf 5 h.rc) b' (Trie.get (Oj (vy 5 h.rc) h.t) b')=_;rw[JE,M7,Nz];rfl
theorem AH.get_new (h:AH) (b':Nat) (x:Blk):(h.new x).get b'=if h.nx=b' then some x else h.get b':=by show Ug ((h.nx,x)::Nf 5 h.rc) b' (Trie.get (Oj (vy 5 h.rc) h.t) b')=_;rw[JE,M7,Nz];rfl
@[simp] theorem AH.get_put_same (h:AH) (b:Nat) (x:Blk):(h.put b x).get b=some x:=by rw[AH.get_put,iJ rfl]
theorem AH.get_put_ne (h:AH) {b b':Nat} (x:Blk) (e:b≠b'):(h.put b x).get b'=h.get b':=by rw[AH.get_put,iQ e]
@[simp] theorem AH.get_new_same (h:AH) (x:Blk):(h.new x).get h.nx=some x:=by rw[AH.get_new,iJ rfl]
theorem AH.get_new_ne (h:AH) {b:Nat} (x:Blk) (e:h.nx≠b):(h.new x).get b=h.get b:=by rw[AH.get_new,iQ e]
@[simp] theorem AH.nx_put (h:AH) (b:Nat) (x:Blk):(h.put b x).nx=h.nx:=rfl
@[simp] theorem AH.nx_new (h:AH) (x:Blk):(h.new x).nx=h.nx+1:=rfl
theorem qy3 (a b:IntKind):keq a b=(a==b):=by cases a<;>cases b<;>rfl
theorem qwi (t w:Bool):beqF t w=(t==w):=by cases t<;>cases w<;>rfl
theorem ZJ (b:Bool):qKc b=!b:=by cases b<;>rfl
theorem qg0 (x y:Int):iadd x y=x+y:=by cases x<;>cases y<;>rfl
theorem qg4 (x y:Int):isub x y=x-y:=by
 cases x with
 |negSucc a=>rfl
 |ofNat a=>
  cases y with
  |negSucc b=>rfl
  |ofNat b=>
   show Bool.rec (motive:=λ_=>Int) (.negSucc (Nat.sub (Nat.sub b a) 1)) (.ofNat (Nat.sub a b)) (Nat.ble b a)=(a:Int)-(b:Int);cases hb:Nat.ble b a
   ·have:¬b≤a:=λh=>by rw[iY h]at hb;cases hb
    show Int.negSucc (b-a-1)=_;rw[Int.negSucc_eq];omega
   ·have:=Nat.le_of_ble_eq_true hb;show Int.ofNat (a-b)=_;show((a-b:Nat):Int)=_;omega
theorem UD (x y:Int):Of x y=ilt x y:=by cases x<;>cases y<;>rfl
theorem ZV (x y:Int):qkM x y=ieq x y:=by cases x<;>cases y<;>rfl
theorem qQ5 (k:IntKind) (n:Int) (f:Int→R):qJn k n f=f (zN k n):=by
 cases k<;>first |rfl |skip
 ·cases n with
  |negSucc a=>rfl
  |ofNat a=>
   show Bool.rec (motive:=λ_=>R) (f (zN .i64 (.ofNat a))) (f (.ofNat a)) (Nat.ble a 9223372036854775807)=_;cases hb:Nat.ble a 9223372036854775807
   ·rfl
   ·simp only[zN,hb,cond_true]
 ·cases n with
  |negSucc a=>rfl
  |ofNat a=>
   show Bool.rec (motive:=λ_=>R) (f (zN .u64 (.ofNat a))) (f (.ofNat a)) (Nat.ble a 18446744073709551615)=_;cases hb:Nat.ble a 18446744073709551615
   ·rfl
   ·have:=Nat.le_of_ble_eq_true hb;simp only[zN];rw[Nat.mod_eq_of_lt omQ]
theorem qkU (op:BinOp) (k:IntKind) (x y:Int) (f:AV→R):qzc op k x y f=ob (Qa op k x y) f:=by
 cases op<;>first |rfl |skip
 ·show qJn k (iadd x y) (λn=>f (.int k n))=f (.int k (zN k (x+y)));rw[qQ5,qg0]
 ·show qJn k (isub x y) (λn=>f (.int k n))=f (.int k (zN k (x-y)));rw[qQ5,qg4]
 ·show f (.bool (qkM x y))=_;rw[ZV];rfl
 ·show f (.bool (qKc (qkM x y)))=_;rw[ZV,ZJ];rfl
 ·show f (.bool (Of x y))=_;rw[UD];rfl
 ·show f (.bool (qKc (Of y x)))=_;rw[UD,ZJ];rfl
 ·show f (.bool (Of y x))=_;rw[UD];rfl
 ·show f (.bool (qKc (Of x y)))=_;rw[UD,ZJ];rfl
theorem qx8 {α:Type} (x:Option α) (k:α→R):Option.rec (motive:=λ_=>R) none k x=ob x k:=by cases x<;>rfl
theorem brec (b:Bool) (x y:R):Bool.rec (motive:=λ_=>R) y x b=bif b then x else y:=by cases b<;>rfl
theorem qQc (v:AV) (a b:R):zt v a b=(match v with | .bool t=>(match t with |true=>a |false=>b) |_=>none):=by cases v<;>first |rfl |(rename_i t;cases t<;>rfl)
theorem Vq (v:AV) (w:Bool) (a b:R):ke v w a b=(match v with | .bool t=>bif t==w then a else b |_=>b):=by cases v<;>first |rfl |(rename_i t;show Bool.rec (motive:=λ_=>R) b a (beqF t w)=_;rw[qwi,brec])
theorem Z3 (c a b:AV) (k:AV→R):ky c a b k=(match c with | .bool t=>(match t with |true=>k a |false=>k b) |_=>none):=by cases c<;>first |rfl |(rename_i t;cases t<;>rfl)
theorem Vp (v:AV) (off:Nat) (k:AV→R):qt v off k=(match v with | .ptr b o=>k (.ptr b (o+off)) |_=>none):=by cases v<;>rfl
theorem Og (v:AV) (off:Nat) (k:AV→R):Yt v off k=(match v with | .agg cs=>ob (kz cs off) k |_=>none):=by cases v<;>first |rfl |exact qx8 _ _
theorem Ut (v i:AV) (sz:Nat) (k:AV→R):gF v i sz k=(match v,i with | .slice b off len _ _,.int _ (.ofNat a)=>bif Nat.ble (a+1) len then k (.ptr b (off+a*sz))else none |_,_=>none):=by
 cases v<;>first |rfl |skip
 cases i<;>first |rfl |skip
 rename_i n;cases n<;>first |rfl |exact brec _ _ _
theorem vM (h:AH) (v:AV) (k:AV→R):jN h v k=(match v with | .ptr b off=>(match h.get b with |some (.cells c _ _)=>ob (c.get1 off) k |some (.inp t)=>ob (Trie.get t off) k |_=>none) |_=>none):=by
 cases v<;>first |rfl |skip
 rename_i b off;show Option.rec (motive:=λ_=>R) none _ (h.get b)=(match h.get b with |some (.cells c _ _)=>ob (c.get1 off) k |some (.inp t)=>ob (Trie.get t off) k |_=>none);cases h.get b with
 |none=>rfl
 |some x=>cases x<;>first |rfl |exact qx8 _ _
theorem wu (h:AH) (v:AV) (n:Nat) (k:AV→R):zO h v n k=(match v with | .ptr b off=>ob (yv h b off n) λl=>k (.agg l) |_=>none):=by cases v<;>first |rfl |exact qx8 _ _
theorem Kb (h:AH) (a x:AV) (n:Nat) (k:AH→R):jd h a x n k=(match a with | .ptr b off=>bif Nat.beq x.cells.length n then ob (gV h b off x.cells) k else none |_=>none):=by
 cases a<;>first |rfl |skip
 rename_i b off;show Bool.rec (motive:=λ_=>R) none (Option.rec (motive:=λ_=>R) none k (gV h b off x.cells)) (Nat.beq x.cells.length n)=_;rw[brec,qx8]
theorem O8 (op:BinOp) (x y:AV) (k:AV→R):zG op x y k=(match x,y with | .int k1 a,.int k2 b=>bif k1==k2 then ob (Qa op k1 a b) k else none |_,_=>none):=by
 cases x<;>first |rfl |skip
 cases y<;>first |rfl |skip
 rename_i k1 a k2 b;show Bool.rec (motive:=λ_=>R) none (qzc op k1 a b k) (keq k1 k2)=_;rw[brec,qkU,qy3]
theorem XZ (v:AV) (i:Nat) (k:AV→R):z8 v i k=(match v with | .tup l=>ob (kz l i) k |_=>none):=by cases v<;>first |rfl |exact qx8 _ _
theorem QR (c:CV) (f:AV) (a:List AV) (h:AH) (k:AV→AH→R):zz c f a h k=(match c f a h with |some q=>k q.1 q.2 |none=>none):=by unfold zz;cases c f a h<;>rfl
theorem yV {α:Type} (l:List α) (i:Nat):kz l i=l[i]?:=by
 induction l generalizing i with
 |nil=>simp[VH]
 |cons a r ih=>
  cases i with
  |zero=>simp[NG]
  |succ i=>simp only[NG];rw[show Nat.beq (i+1) 0=false from rfl];simp[ih]
theorem kI {α:Type} (n:Nat) (l:List α):vy n l=l.drop n:=by
 induction n generalizing l with
 |zero=>simp[qw0]
 |succ n ih=>cases l<;>simp[qGm,qXT,ih]
theorem w9 {α:Type} {n:Nat} {l s:List α} (h:yt n l=some s):s=l.take n∧n≤l.length:=by
 induction n generalizing l s with
 |zero=>simp[Zg]at h;simp[h]
 |succ n ih=>
  cases l with
  |nil=>simp[qGA]at h
  |cons a r=>simp only[VN,Option.bind_eq_some_iff]at h;obtain⟨t,ht,hs⟩:=h;obtain⟨e1,e2⟩:=ih ht;cases hs;simp[e1];omega
theorem qGb {α:Type} {n:Nat} {l s:List α} (h:yt n l=some s):s.length=n:=by obtain⟨e,h'⟩:=w9 h;rw[e,List.length_take];omega
theorem qV0 {α:Type} {l xs r:List α} (h:Mx l xs=some r):r=xs++l.drop xs.length∧xs.length≤l.length:=by
 induction xs generalizing l r with
 |nil=>cases l<;>(simp[qkE]at h;simp[h])
 |cons x xs ih=>
  cases l with
  |nil=>simp[qzo]at h
  |cons a l=>simp only[Ns,Option.bind_eq_some_iff]at h;obtain⟨t,ht,hs⟩:=h;obtain⟨e1,e2⟩:=ih ht;cases hs;simp[e1];omega
theorem Kt {α:Type} {l:List α} {off:Nat} {xs r:List α} (h:QO l off xs=some r):r=l.take off++xs++l.drop (off+xs.length)∧off+xs.length≤l.length:=by
 induction off generalizing l r with
 |zero=>have h':Mx l xs=some r:=h;obtain⟨e1,e2⟩:=qV0 h';simp[e1];omega
 |succ n ih=>
  cases l with
  |nil=>simp[qX4]at h
  |cons a l=>simp only[UZ,Option.bind_eq_some_iff]at h;obtain⟨t,ht,hs⟩:=h;obtain⟨e1,e2⟩:=ih ht;cases hs;refine⟨?_,by simp;omega⟩;rw[e1,show n+1+xs.length=(n+xs.length)+1 from by omega];simp
theorem gn {α:Type} {n:Nat} {l:List α} (h:n≤l.length):yt n l=some (l.take n):=by
 induction n generalizing l with
 |zero=>cases l<;>simp[Zg]
 |succ n ih=>
  cases l with
  |nil=>simp at h
  |cons a r=>simp at h;simp[VN,ih h]
theorem qks {α:Type} {xs l:List α} (h:xs.length≤l.length):Mx l xs=some (xs++l.drop xs.length):=by
 induction xs generalizing l with
 |nil=>cases l<;>simp[qkE]
 |cons x xs ih=>
  cases l with
  |nil=>simp at h
  |cons a r=>simp at h;simp[Ns,ih h]
theorem Kc {α:Type} {xs:List α}:∀{off:Nat} {l:List α},off+xs.length≤l.length→QO l off xs=some (l.take off++xs++l.drop (off+xs.length)):=by
 intro off
 induction off with
 |zero=>intro l h;have:QO l 0 xs=Mx l xs:=rfl;rw[this,qks omQ];simp
 |succ n ih=>
  intro l h;cases l with
  |nil=>simp at h
  |cons a r=>simp at h;simp only[UZ];rw[ih omQ,show n+1+xs.length=(n+xs.length)+1 from by omega];simp
theorem kq:∀(l:List AV) (i:Nat) (t:Trie AV) (j:Nat),Trie.get (qQu t i l) j=if i≤j∧j<i+l.length then l[j-i]? else Trie.get t j:=by
 intro l
 induction l with
 |nil=>intro i t j;simp only[qjh,List.length_nil];rw[iQ omQ]
 |cons a l ih=>
  intro i t j;simp only[qW7,ih,List.length_cons];by_cases h1:i+1≤j∧j<i+1+l.length
  ·rw[iJ h1,iJ omQ,show j-i=(j-(i+1))+1 by omega];simp
  ·rw[iQ h1,Trie.get_set];by_cases h2:i=j
   ·subst h2;rw[iJ rfl,iJ omQ];simp
   ·rw[iQ h2,iQ omQ]
theorem CT.len_eq (c:CT):c.len=c.toList.length:=by cases c<;>simp[CT.len,CT.toList]
theorem Yv {z:List AV} {t:Trie AV} {i:Nat} {v:AV} (h:Qh z t i=some v):wq z t i=v:=by simp only[wq,h]
theorem ga {a b:Nat} (h:Nat.ble a b=true):a≤b:=Nat.le_of_ble_eq_true h
theorem CT.get1_ok {c:CT} {i:Nat} {v:AV} (h:c.get1 i=some v):kz c.toList i=some v:=by
 cases c with
 |lst xs=>exact h
 |tree n z t=>
  simp only[CT.get1]at h;cases hb:Nat.ble (i+1) n
  ·rw[hb]at h;cases h
  ·rw[hb]at h;have:=ga hb;rw[yV];simp only[CT.toList,List.getElem?_map,List.getElem?_range this,Option.map_some,Yv h]
theorem qjI {z:List AV} {t:Trie AV}:∀{n i:Nat} {l:List AV},JH z t i n=some l→l=(List.range' i n).map (wq z t):=by
 intro n
 induction n with
 |zero=>intro i l h;simp only[qVc,Option.some.injEq]at h;subst h;rfl
 |succ n ih=>intro i l h;simp only[OS,Option.bind_eq_some_iff]at h;obtain⟨v,hv,s,hs,h⟩:=h;cases h;rw[List.range'_succ,List.map_cons,← ih hs,Yv hv]
theorem CT.readN_ok {c:CT} {off n:Nat} {l:List AV} (h:c.readN off n=some l):yt n (vy off c.toList)=some l:=by
 cases c with
 |lst xs=>exact h
 |tree m z t=>
  simp only[CT.readN]at h;cases hn:Nat.beq n 0
  ·rw[hn]at h;simp only[cond_false]at h;cases hb:Nat.ble (off+n) m
   ·rw[hb]at h;cases h
   ·rw[hb]at h;have:=ga hb;rw[kI,gn (by simp[CT.toList];omega),qjI h];simp only[CT.toList];rw[← List.map_drop,← List.map_take]
    congr 2
    apply List.ext_getElem?;intro i;by_cases hi:i<n
    ·rw[List.getElem?_take_of_lt hi,List.getElem?_drop,List.getElem?_range omQ,List.getElem?_range' hi];simp
    ·rw[List.getElem?_eq_none (by simp;omega),List.getElem?_eq_none (by simp;omega)]
  ·have:=jo hn;subst this;rw[hn]at h;simp only[cond_true]at h;rw[← h];rfl
theorem CT.write_ok {c c':CT} {off:Nat} {xs:List AV} (h:c.write off xs=some c'):QO c.toList off xs=some c'.toList:=by
 cases c with
 |lst ys=>simp only[CT.write,Option.bind_eq_some_iff]at h;obtain⟨s,hs,h⟩:=h;cases h;exact hs
 |tree n z t=>
  simp only[CT.write]at h;cases hb:Nat.ble (off+xs.length) n
  ·rw[hb]at h;cases h
  ·rw[hb]at h;have hle:=ga hb;cases h;rw[Kc (by simp[CT.toList];omega)]
   congr 1
   apply List.ext_getElem?;intro i;simp only[CT.toList];by_cases hi:i<n
   ·rw[List.getElem?_map,List.getElem?_range hi,Option.map_some];by_cases h1:i<off
    ·rw[List.getElem?_append_left (by simp;omega),List.getElem?_append_left (by simp;omega),List.getElem?_take_of_lt h1,List.getElem?_map,List.getElem?_range hi];simp only[Option.map_some,wq,y9,kq];rw[iQ omQ]
    ·by_cases h2:i<off+xs.length
     ·rw[List.getElem?_append_left (by simp;omega),List.getElem?_append_right (by simp;omega)];have hlen:(List.take off ((List.range n).map (wq z t))).length=off:=by simp;omega
      rw[hlen,iW (show i-off<xs.length by omega)];simp only[wq,y9,kq];rw[iJ omQ,iW (show i-off<xs.length by omega)]
     ·rw[List.getElem?_append_right (by simp;omega),List.getElem?_drop];have hlen:(List.take off ((List.range n).map (wq z t))++xs).length=off+xs.length:=by simp;omega
      rw[hlen,show off+xs.length+(i-(off+xs.length))=i by omega,List.getElem?_map,List.getElem?_range hi];simp only[Option.map_some,wq,y9,kq];rw[iQ omQ]
   ·rw[List.getElem?_eq_none (by simp;omega),List.getElem?_eq_none (by simp;omega)]
theorem CT.ofList_ok (xs:List AV):(CT.ofList xs).toList=xs:=by
 unfold CT.ofList;cases Nat.ble xs.length 16
 ·simp only[cond_false,CT.toList];apply List.ext_getElem?;intro i;by_cases hi:i<xs.length
  ·rw[List.getElem?_map,List.getElem?_range hi,iW hi];simp only[Option.map_some,wq,y9,kq];rw[iJ omQ,Nat.sub_zero,iW hi]
  ·rw[List.getElem?_eq_none (by simp;omega),List.getElem?_eq_none omQ]
 ·rfl
theorem qGS (z:List AV):∀(n i:Nat),i<z.length*n→(vE z n)[i]? =z[i%z.length]?:=by
 intro n
 induction n with
 |zero=>intro i h;simp at h
 |succ n ih=>
  intro i h;rw[Nat.mul_succ]at h;simp only[vE];by_cases hi:i<z.length
  ·rw[List.getElem?_append_left hi,Nat.mod_eq_of_lt hi]
  ·rw[List.getElem?_append_right omQ,ih _ omQ,← Nat.mod_eq_sub_mod omQ]
theorem qG6 (z:List AV):∀n,(vE z n).length=z.length*n:=by
 intro n
 induction n with
 |zero=>rfl
 |succ n ih=>simp only[vE,List.length_append,ih,Nat.mul_succ];omega
theorem CT.rep_ok (z:List AV) (n:Nat):(CT.rep z n).toList=vE z n:=by
 unfold CT.rep;cases Nat.ble (z.length*n) 16
 ·simp only[cond_false,CT.toList];apply List.ext_getElem?;intro i;by_cases hi:i<z.length*n
  ·rw[List.getElem?_map,List.getElem?_range hi,qGS z n i hi];have hz:0<z.length:=by
    rcases Nat.eq_zero_or_pos z.length with h |h
    ·rw[h]at hi;omega
    ·exact h
   have hm:=Nat.mod_lt i hz;simp only[Option.map_some,wq,y9,Trie.get_e,yV];rw[iW hm]
  ·rw[List.getElem?_eq_none (by simp;omega),List.getElem?_eq_none (by rw[qG6];omega)]
 ·rfl
theorem CT.app_ok (c:CT) (xs:List AV):(c.app xs).toList=c.toList++xs:=by
 cases c with
 |lst ys=>exact CT.ofList_ok _
 |tree n z t=>
  simp only[CT.app,CT.toList];apply List.ext_getElem?;intro i;by_cases hi:i<n
  ·rw[List.getElem?_map,List.getElem?_range omQ,List.getElem?_append_left (by simp;omega),List.getElem?_map,List.getElem?_range hi];simp only[Option.map_some,wq,y9,kq];rw[iQ omQ]
  ·rw[List.getElem?_append_right (by simp;omega)];by_cases h2:i<n+xs.length
   ·rw[List.getElem?_map,List.getElem?_range h2];have hlen:((List.range n).map (wq z t)).length=n:=by simp
    rw[hlen,iW (show i-n<xs.length by omega)];simp only[Option.map_some,wq,y9,kq];rw[iJ omQ,iW (show i-n<xs.length by omega)]
   ·rw[List.getElem?_eq_none (by simp;omega),List.getElem?_eq_none (by simp;omega)]
theorem CT.pre_ok {c c':CT} {n:Nat} (h:c.pre n=some c'):yt n c.toList=some c'.toList:=by
 cases c with
 |lst ys=>simp only[CT.pre,Option.bind_eq_some_iff]at h;obtain⟨s,hs,h⟩:=h;cases h;exact hs
 |tree m z t=>
  simp only[CT.pre]at h;cases hb:Nat.ble n m
  ·rw[hb]at h;cases h
  ·rw[hb]at h;have:=ga hb;cases h;rw[gn (by simp[CT.toList];omega)];simp only[CT.toList];rw[← List.map_take,List.take_range,show min n m=n by omega]
theorem CT.seg_ok {c c':CT} {off n:Nat} (h:c.seg off n=some c'):yt n (vy off c.toList)=some c'.toList:=by
 unfold CT.seg at h;cases h0:Nat.beq off 0
 ·rw[h0]at h;simp only[cond_false,Option.bind_eq_some_iff]at h;obtain⟨l,hl,h⟩:=h;cases h;rw[CT.ofList_ok];exact CT.readN_ok hl
 ·rw[h0]at h;have:=jo h0;subst this;exact CT.pre_ok h
abbrev Mp:=Nat→Nat×Nat
mutual
def cv (m:Mp):AV→Value
 | .bool b=>.bool b
 | .int k n=>.int k n
 | .str s=>.string ⟨s.toArray⟩
 | .ptr b o=>.pointer (some ⟨(m b).1,o,none⟩)
 | .nilp=>.pointer none
 | .slice b o l c p=>.slice (some ⟨(m b).1,o,none⟩) l (match p with |true=>(m b).2-c |false=>c)
 | .nils=>.slice none 0 0
 | .fn f a c=>.func (.func f) (cvs m a).toArray (cvs m c).toArray
 | .yield l=>.func (.yield (m l).1) #[] #[]
 | .nilf=>.nilFunc
 | .iface t v=>.iface t (cv m v)
 | .nili=>.nilIface
 | .agg l=>.agg (cvs m l).toArray
 | .tup l=>.tuple (cvs m l).toArray
 | .empt a=>.slice (some a) 0 0
 | .tail b o o' i=>.slice (some ⟨(m b).1,if(m b).2=i then o else o',none⟩) 0 ((m b).2-i)
 | .mapv b=>.map (some (m b).1)
def cvs (m:Mp):List AV→List Value
 |[]=>[]
 |a::r=>cv m a::cvs m r
end
mutual
def inD (D:Nat→Prop):AV→Prop
 | .bool _=>True
 | .int _ _=>True
 | .str _=>True
 | .ptr b _=>D b
 | .nilp=>True
 | .slice b _ _ _ _=>D b
 | .nils=>True
 | .fn _ a c=>inDs D a∧inDs D c
 | .yield l=>D l
 | .nilf=>True
 | .iface _ v=>inD D v
 | .nili=>True
 | .agg l=>inDs D l
 | .tup l=>inDs D l
 | .empt _=>True
 | .tail b _ _ _=>D b
 | .mapv b=>D b
def inDs (D:Nat→Prop):List AV→Prop
 |[]=>True
 |a::r=>inD D a∧inDs D r
end
theorem zl (m:Mp) (l:List AV):cvs m l=l.map (cv m):=by
 induction l with
 |nil=>rfl
 |cons a r ih=>simp[cvs,ih]
@[simp] theorem cvs_len (m:Mp) (l:List AV):(cvs m l).length=l.length:=by simp[zl]
theorem YX (m:Mp) (l r:List AV):cvs m (l++r)=cvs m l++cvs m r:=by simp[zl]
theorem xC (D:Nat→Prop) (l:List AV):inDs D l↔∀v∈l,inD D v:=by
 induction l with
 |nil=>simp[inDs]
 |cons a r ih=>simp[inDs,ih]
theorem vB {D:Nat→Prop} {l r:List AV}:inDs D (l++r)↔inDs D l∧inDs D r:=by simp only[xC,List.mem_append];exact⟨λh=>⟨λv hv=>h v (.inl hv),λv hv=>h v (.inr hv)⟩,λh v hv=>hv.elim (h.1 v) (h.2 v)⟩
theorem JW {D:Nat→Prop} {l:List AV} (n:Nat) (h:inDs D l):inDs D (l.take n):=by rw[xC]at*;exact λv hv=>h v (List.mem_of_mem_take hv)
theorem YD {D:Nat→Prop} {l:List AV} (n:Nat) (h:inDs D l):inDs D (l.drop n):=by rw[xC]at*;exact λv hv=>h v (List.mem_of_mem_drop hv)
mutual
theorem kL {m m':Mp} {D:Nat→Prop} (hm:∀b,D b→m' b=m b):∀v:AV,inD D v→cv m' v=cv m v
 | .bool _,_=>rfl
 | .int _ _,_=>rfl
 | .str _,_=>rfl
 | .ptr b o,h=>by simp only[inD]at h;simp only[cv,hm b h]
 | .nilp,_=>rfl
 | .slice b o l c p,h=>by simp only[inD]at h;cases p<;>simp only[cv,hm b h]
 | .nils,_=>rfl
 | .fn f a c,h=>by simp only[inD]at h;simp only[cv,we hm a h.1,we hm c h.2]
 | .yield l,h=>by simp only[inD]at h;simp only[cv,hm l h]
 | .nilf,_=>rfl
 | .iface t v,h=>by simp only[inD]at h;simp only[cv,kL hm v h]
 | .nili,_=>rfl
 | .agg l,h=>by simp only[inD]at h;simp only[cv,we hm l h]
 | .tup l,h=>by simp only[inD]at h;simp only[cv,we hm l h]
 | .empt _,_=>rfl
 | .tail b o o' i,h=>by simp only[inD]at h;simp only[cv,hm b h]
 | .mapv b,h=>by simp only[inD]at h;simp only[cv,hm b h]
theorem we {m m':Mp} {D:Nat→Prop} (hm:∀b,D b→m' b=m b):∀l:List AV,inDs D l→cvs m' l=cvs m l
 |[],_=>rfl
 |a::r,h=>by simp only[inDs]at h;simp only[cvs,kL hm a h.1,we hm r h.2]
end
mutual
theorem kw {D D':Nat→Prop} (hd:∀b,D b→D' b):∀v:AV,inD D v→inD D' v
 | .bool _,_=>trivial
 | .int _ _,_=>trivial
 | .str _,_=>trivial
 | .ptr b o,h=>hd b h
 | .nilp,_=>trivial
 | .slice b o l c p,h=>hd b h
 | .nils,_=>trivial
 | .fn f a c,h=>by simp only[inD]at*;exact⟨gO hd a h.1,gO hd c h.2⟩
 | .yield l,h=>hd l h
 | .nilf,_=>trivial
 | .iface t v,h=>by simp only[inD]at*;exact kw hd v h
 | .nili,_=>trivial
 | .agg l,h=>by simp only[inD]at*;exact gO hd l h
 | .tup l,h=>by simp only[inD]at*;exact gO hd l h
 | .empt _,_=>trivial
 | .tail b _ _ _,h=>hd b h
 | .mapv b,h=>hd b h
theorem gO {D D':Nat→Prop} (hd:∀b,D b→D' b):∀l:List AV,inDs D l→inDs D' l
 |[],_=>trivial
 |a::r,h=>by simp only[inDs]at*;exact⟨kw hd a h.1,gO hd r h.2⟩
end
def wW:AX→Code
 | .normal=>.skip
 | .exit i=>.exit i
 | .goto l=>.goto l
 | .ret=>.ret
def zr (e:Int×Int×Nat):MapEntry:={ key:=.int .i64 e.1,val:=.int .i64 e.2.1,born:=e.2.2 }
def BlkR (P:Program) (m:Mp) (x:Blk) (b:Nat×Nat) (w:World):Prop :=
 match x with
 | .cells c e o=>∃(rest:List Value) (fr:Nat×Nat),w.heap[b.1]? =some (.cells (cvs m c.toList++rest).toArray e fr)∧(o=false→rest=[])∧
   (∀i,i<c.toList.length+rest.length→¬(fr.1≤i∧i<fr.2))∧(o=true→∀n,cellsOf? P e=some n→c.toList.length≤b.2*n∧b.2*n≤c.toList.length+rest.length)
 | .dead=>True
 | .iter s pos=>w.heap[b.1]? =some (.stringIter ⟨s.toArray⟩ pos)
 | .loop st pend f pos L vs d=>∃(f':FuncId) (tmps:Array Value) (ps:Array Tmp) (g:Operand) (assign body:Code) (fn:Func) (bd:Code),
   w.heap[b.1]? =some (.loop { state:=st,pending:=pend.map wW,fn:=f',tmps,params:=ps,assign,body,defers:=(m d).1 })∧
   P.funcs[f]? =some fn∧fn.body=some bd∧xK bd pos=some (.rangeFunc g ps assign body)∧fn.ntmps≤tmps.size∧
   L.length=vs.length∧∀p∈L.zip vs,tmps[p.1]? =some (cv m p.2)
 | .dfd=>w.heap[b.1]? =some (.deferred (some []))
 | .took=>∃o,w.heap[b.1]? =some o
 | .inp t=>∃C e fr,w.heap[b.1]? =some (.cells (List.toArray C) e fr)∧∀i v,Trie.get t i=some v→C[i]? =some (cv m v)
 | .mp l c=>w.heap[b.1]? =some (.map (l.map zr).toArray c)
def inDB (D:Nat→Prop):Blk→Prop
 | .cells c _ _=>inDs D c.toList
 | .loop _ _ _ _ _ vs d=>inDs D vs∧D d
 | .inp t=>∀i v,Trie.get t i=some v→inD D v
 |_=>True
def Blk.live:Blk→Prop
 | .dead=>False
 | .inp _=>False
 |_=>True
def live (h:AH) (b:Nat):Prop:=∃x,h.get b=some x∧x.live
def own (m:Mp) (D:Nat→Prop) (h:AH) (c:Nat):Prop:=∃b,D b∧live h b∧(m b).1=c
structure Rel0 (P:Program) (m:Mp) (D:Nat→Prop) (h:AH) (w:World):Prop where
  blk:∀b,D b→∃x,h.get b=some x∧BlkR P m x (m b) w∧inDB D x
  inj:∀b b',D b→D b'→live h b→live h b'→(m b).1=(m b').1→b=b'
  lt:∀b,D b→b<h.nx
  inp:∀b t,D b→h.get b=some (.inp t)→¬own m D h (m b).1
def Gl (P:Program) (w:World):Prop:=∀p∈gtab,∃g,P.globalNamed p.1=some g∧Lib.TabIs P w p.1 p.2.1 p.2.2
def GlR (P:Program) (m:Mp) (D:Nat→Prop) (h:AH) (w:World):Prop:=∀p∈gtab,∃g,P.globalNamed p.1=some g∧Lib.TabIs P w p.1 p.2.1 p.2.2∧¬own m D h g
structure Rel (P:Program) (m:Mp) (D:Nat→Prop) (h:AH) (w:World):Prop extends Rel0 P m D h w where
  gl:GlR P m D h w
theorem GlR.gl {P:Program} {m:Mp} {D:Nat→Prop} {h:AH} {w:World} (r:GlR P m D h w):Gl P w:=λp hp=>let ⟨g,h1,h2,_⟩:=r p hp;⟨g,h1,h2⟩
theorem Y1 {P:Program} {w w':World} {name:String} {k:IntKind} {zs:List Int} {g:Nat} (hg:P.globalNamed name=some g) (h:Lib.TabIs P w name k zs):g<w.heap.size∧(w'.heap[g]? =w.heap[g]? →Lib.TabIs P w' name k zs):=by
 unfold Lib.TabIs World.var? at*;simp only[hg,Option.bind_some]at h ⊢;refine⟨?_,λe=>by rw[e];exact h⟩;rcases Nat.lt_or_ge g w.heap.size with h' |h'
 ·exact h'
 ·rw[Array.getElem?_eq_none h']at h;simp at h
structure Ext (m:Mp) (D:Nat→Prop) (h:AH) (w:World) (m':Mp) (D':Nat→Prop) (h':AH) (w':World):Prop where
  dom:∀b,D b→D' b
  map:∀b,D b→m' b=m b
  size:w.heap.size≤w'.heap.size
  keep:∀c,c<w.heap.size→¬own m D h c→w'.heap[c]? =w.heap[c]? ∧¬own m' D' h' c
  nx:h.nx≤h'.nx
  un:∀b,b<h.nx→¬D b→h'.get b=h.get b∧¬D' b
  os:w'.os=w.os
  tape:w'.tape=w.tape
  output:w'.output=w.output
  dm:∀b,D' b↔D b∨(h.nx≤b∧b<h'.nx)
  ni:∀b t,D' b→h'.get b=some (.inp t)→D b∧h.get b=some (.inp t)
theorem GlR.ext {P:Program} {m m':Mp} {D D':Nat→Prop} {h h':AH} {w w':World} (X:Ext m D h w m' D' h' w') (r:GlR P m D h w):GlR P m' D' h' w':=λp hp=>by
 obtain⟨g,h1,h2,h3⟩:=r p hp;obtain⟨k1,k2⟩:=Y1 (w':=w') h1 h2;obtain⟨e1,e2⟩:=X.keep g k1 h3;exact⟨g,h1,k2 e1,e2⟩
theorem Ext.rel {P:Program} {m m':Mp} {D D':Nat→Prop} {h h':AH} {w w':World} (r:Rel P m D h w) (x:Ext m D h w m' D' h' w'∧Rel0 P m' D' h' w'):Ext m D h w m' D' h' w'∧Rel P m' D' h' w':=⟨x.1,{ toRel0:=x.2,gl:=r.gl.ext x.1 }⟩
theorem Ext.refl (m:Mp) (D:Nat→Prop) (h:AH) (w:World):Ext m D h w m D h w :=
 ⟨λ_ x=>x,λ_ _=>rfl,Nat.le_refl _,λ_ _ n=>⟨rfl,n⟩,Nat.le_refl _,λ_ _ n=>⟨rfl,n⟩,rfl,rfl,rfl,λ_=>⟨.inl,λx=>x.elim id λy=>by omega⟩,λ_ _ x y=>⟨x,y⟩⟩
theorem Ext.trans {m m' m'':Mp} {D D' D'':Nat→Prop} {h h' h'':AH} {w w' w'':World} (a:Ext m D h w m' D' h' w') (b:Ext m' D' h' w' m'' D'' h'' w''):Ext m D h w m'' D'' h'' w'' where
 dom:=λx hx=>b.dom x (a.dom x hx)
 map:=λx hx=>(b.map x (a.dom x hx)).trans (a.map x hx)
 size:=Nat.le_trans a.size b.size
 keep:=λc hc hn=>by
  obtain⟨e1,n1⟩:=a.keep c hc hn;obtain⟨e2,n2⟩:=b.keep c (Nat.lt_of_lt_of_le hc a.size) n1;exact⟨e2.trans e1,n2⟩
 nx:=Nat.le_trans a.nx b.nx
 un:=λx hx hn=>by
  obtain⟨e1,n1⟩:=a.un x hx hn;obtain⟨e2,n2⟩:=b.un x (Nat.lt_of_lt_of_le hx a.nx) n1;exact⟨e2.trans e1,n2⟩
 os:=b.os.trans a.os
 tape:=b.tape.trans a.tape
 output:=b.output.trans a.output
 dm:=λx=>by
  have h1:=a.nx;have h2:=b.nx;rw[b.dm,a.dm];constructor
  ·rintro((h |h) |h)
   ·exact .inl h
   ·exact .inr ⟨h.1,by omega⟩
   ·exact .inr ⟨by omega,h.2⟩
  ·rintro(h |h)
   ·exact .inl (.inl h)
   ·by_cases hx:x<h'.nx
    ·exact .inl (.inr ⟨h.1,hx⟩)
    ·exact .inr ⟨by omega,h.2⟩
 ni:=λx t hx hg=>by
  obtain⟨h1,h2⟩:=b.ni x t hx hg;exact a.ni x t h1 h2
theorem Ext.cv {m m':Mp} {D D':Nat→Prop} {h h':AH} {w w':World} (e:Ext m D h w m' D' h' w') {v:AV} (hv:inD D v):Ae.cv m' v=Ae.cv m v:=kL e.map v hv
theorem Ext.cvs {m m':Mp} {D D':Nat→Prop} {h h':AH} {w w':World} (e:Ext m D h w m' D' h' w') {l:List AV} (hv:inDs D l):Ae.cvs m' l=Ae.cvs m l:=we e.map l hv
theorem Ext.inD {m m':Mp} {D D':Nat→Prop} {h h':AH} {w w':World} (e:Ext m D h w m' D' h' w') {v:AV} (hv:Ae.inD D v):Ae.inD D' v:=kw e.dom v hv
theorem Ext.inDs {m m':Mp} {D D':Nat→Prop} {h h':AH} {w w':World} (e:Ext m D h w m' D' h' w') {l:List AV} (hv:Ae.inDs D l):Ae.inDs D' l:=gO e.dom l hv
theorem BlkR.congr {P:Program} {m m':Mp} {D:Nat→Prop} (hm:∀b,D b→m' b=m b) {x:Blk} {b:Nat×Nat} {w w':World} (hx:inDB D x) (hw:w'.heap[b.1]? =w.heap[b.1]?) (h:BlkR P m x b w):BlkR P m' x b w':=by
 cases x with
 |cells c e o=>simp only[inDB]at hx;simp only[BlkR]at*;rw[hw,we hm c.toList hx];exact h
 |dead=>trivial
 |iter s pos=>simp only[BlkR]at*;rw[hw];exact h
 |loop st pend f pos L vs d=>
  simp only[inDB]at hx;simp only[BlkR]at*;obtain⟨f',tmps,ps,g,assign,body,fn,bd,h1,h2,h3,h4,h5,h6,h7⟩:=h;refine⟨f',tmps,ps,g,assign,body,fn,bd,?_,h2,h3,h4,h5,h6,?_⟩
  ·rw[hw,hm d hx.2];exact h1
  ·intro p hp;rw[kL hm p.2 ((xC D vs).1 hx.1 _ (List.of_mem_zip hp).2)];exact h7 p hp
 |dfd=>simp only[BlkR]at*;rw[hw];exact h
 |took=>simp only[BlkR]at*;rw[hw];exact h
 |inp t=>simp only[inDB]at hx;simp only[BlkR]at*;obtain⟨C,e,fr,h1,h2⟩:=h;exact⟨C,e,fr,by rw[hw];exact h1,λi v hv=>by rw[kL hm v (hx i v hv)];exact h2 i v hv⟩
 |mp l c=>simp only[BlkR]at*;rw[hw];exact h
theorem inDB.mono {D D':Nat→Prop} (hd:∀b,D b→D' b) {x:Blk} (h:inDB D x):inDB D' x:=by
 cases x<;>simp only[inDB]at* <;>first |exact gO hd _ h |exact⟨gO hd _ h.1,hd _ h.2⟩ |exact λi v hv=>kw hd v (h i v hv) |trivial
theorem BlkR.inside {P:Program} {m:Mp} {x:Blk} {b:Nat×Nat} {w:World} (hl:x.live) (h:BlkR P m x b w):b.1<w.heap.size:=by
 have key:∀o,w.heap[b.1]? =some o→b.1<w.heap.size:=λo e=>(Array.getElem?_eq_some_iff.1 e).1;cases x with
 |cells c e o=>obtain⟨r,fr,h,_⟩:=h;exact key _ h
 |dead=>exact hl.elim
 |iter s pos=>exact key _ h
 |loop st pend f pos L vs d=>obtain⟨f',tmps,ps,g,assign,body,fn,bd,h1,_⟩:=h;exact key _ h1
 |dfd=>exact key _ h
 |took=>obtain⟨o,h⟩:=h;exact key _ h
 |inp t=>exact hl.elim
 |mp l c=>exact key _ h
theorem BlkR.insideI {P:Program} {m:Mp} {t:Trie AV} {b:Nat×Nat} {w:World} (h:BlkR P m (.inp t) b w):b.1<w.heap.size:=by obtain⟨C,e,fr,h,_⟩:=h;exact(Array.getElem?_eq_some_iff.1 h).1
theorem Rel.inside {P:Program} {m:Mp} {D:Nat→Prop} {h:AH} {w:World} (r:Rel P m D h w) {b:Nat} (hb:D b) (hl:live h b):(m b).1<w.heap.size:=by obtain⟨x,hx,hr,_⟩:=r.blk b hb;obtain⟨y,hy,hyl⟩:=hl;rw[hx]at hy;cases hy;exact hr.inside hyl
theorem Rel.new {P:Program} {m:Mp} {D:Nat→Prop} {h:AH} {w w0:World} (r:Rel P m D h w) (x:Blk) (o:Obj) (room:Nat)
  (hw0:w0.heap=w.heap.push o) (hos:w0.os=w.os) (htape:w0.tape=w.tape) (hout:w0.output=w.output)
  (hx:inDB D x) (hxr:BlkR P m x (w.heap.size,room) w0) (hni:∀t,x≠.inp t:=by intro t hh;cases hh) :
  let m':Mp:=λb=>if b=h.nx then(w.heap.size,room)else m b
  let D':Nat→Prop:=λb=>b=h.nx∨D b
  Ext m D h w m' D' (h.new x) w0∧Rel P m' D' (h.new x) w0:=by
 intro m' D';refine Ext.rel r ?_;have hm:∀b,D b→m' b=m b:=λb hb=>by
  have:=r.lt b hb;simp only[m'];rw[iQ omQ]
 have hold:∀c,c<w.heap.size→w0.heap[c]? =w.heap[c]?:=λc hc=>by
  rw[hw0,Array.getElem?_push,iQ omQ]
 have hget:∀b,D b→(h.new x).get b=h.get b:=λb hb=>AH.get_new_ne h x (by have:=r.lt b hb;omega);have hlive:∀b,D b→(live (h.new x) b↔live h b):=λb hb=>by unfold live;rw[hget b hb]
 refine⟨⟨λb hb=>.inr hb,hm,?_,?_,Nat.le_succ _,?_,hos,htape,hout,λb=>?_,?_⟩,⟨?_,?_,?_,?_⟩⟩
 ·rw[hw0];simp
 ·intro c hc hn;refine⟨hold c hc,?_⟩;rintro⟨b,hb,hl,he⟩;rcases hb with rfl |hb
  ·simp only[m',iJ]at he;omega
  ·exact hn ⟨b,hb,(hlive b hb).1 hl,by rw[← hm b hb];exact he⟩
 ·intro b hb hn;refine⟨AH.get_new_ne h x omQ,?_⟩;rintro(rfl |hd)
  ·omega
  ·exact hn hd
 ·show b=h.nx∨D b↔D b∨(h.nx≤b∧b<h.nx+1);constructor
  ·rintro(rfl |hb)
   ·exact .inr ⟨Nat.le_refl _,Nat.lt_succ_self _⟩
   ·exact .inl hb
  ·rintro(hb |hb)
   ·exact .inr hb
   ·exact .inl omQ
 ·intro b t hb hg;rcases hb with rfl |hb
  ·rw[AH.get_new_same]at hg;cases hg;exact absurd rfl (hni t)
  ·exact⟨hb,by rw[← hget b hb];exact hg⟩
 ·intro b hb;rcases hb with rfl |hb
  ·refine⟨x,AH.get_new_same h x,?_,hx.mono λb hb=>.inr hb⟩;have e:m' h.nx=(w.heap.size,room):=by simp[m']
   rw[e];exact hxr.congr hm hx rfl
  ·obtain⟨y,hy,hyr,hyd⟩:=r.blk b hb;refine⟨y,(hget b hb).trans hy,?_,hyd.mono λb hb=>.inr hb⟩;rw[hm b hb];cases y with
   |dead=>trivial
   |inp t=>exact hyr.congr hm hyd (hold _ hyr.insideI)
   |_=>exact hyr.congr hm hyd (hold _ (BlkR.inside (by exact True.intro) hyr))
 ·intro b b' hb hb' hl hl' he;rcases hb with rfl |hb<;>rcases hb' with rfl |hb'
  ·rfl
  ·have h1:=r.inside hb' ((hlive b' hb').1 hl');rw[hm b' hb']at he;simp only[m',iJ]at he;omega
  ·have h1:=r.inside hb ((hlive b hb).1 hl);rw[hm b hb]at he;simp only[m',iJ]at he;omega
  ·rw[hm b hb,hm b' hb']at he;exact r.inj b b' hb hb' ((hlive b hb).1 hl) ((hlive b' hb').1 hl') he
 ·intro b hb;rcases hb with rfl |hb
  ·simp
  ·have:=r.lt b hb;simp;omega
 ·rintro b t hb hg ⟨b',hb',hl',he⟩;have hne:b≠b':=by
   rintro rfl;obtain⟨y,hy,hyl⟩:=hl';rw[hg]at hy;cases hy;exact hyl
  rcases hb with rfl |hb
  ·rcases hb' with rfl |hb'
   ·exact hne rfl
   ·have h1:=r.inside hb' ((hlive b' hb').1 hl');rw[hm b' hb']at he;simp only[m',iJ]at he;omega
  ·rw[hget b hb]at hg;rcases hb' with rfl |hb'
   ·obtain⟨y,hy,hyr,_⟩:=r.blk b hb;rw[hg]at hy;cases hy;have:=hyr.insideI;rw[hm b hb]at he;simp only[m',iJ]at he;omega
   ·refine r.inp b t hb hg ⟨b',hb',(hlive b' hb').1 hl',?_⟩;rw[hm b hb,hm b' hb']at he;exact he
theorem Rel.put {P:Program} {m:Mp} {D:Nat→Prop} {h:AH} {w w0:World} (r:Rel P m D h w) (b:Nat) (x:Blk) (hb:D b) (hlb:live h b)
  (hsize:w0.heap.size=w.heap.size) (hother:∀c,c≠(m b).1→w0.heap[c]? =w.heap[c]?) (hos:w0.os=w.os) (htape:w0.tape=w.tape) (hout:w0.output=w.output)
  (hx:inDB D x) (hxr:BlkR P m x (m b) w0) (hni:∀t,x≠.inp t:=by intro t hh;cases hh) :
  Ext m D h w m D (h.put b x) w0∧Rel P m D (h.put b x) w0:=by
 refine Ext.rel r ?_;have hget:∀b',b'≠b→(h.put b x).get b'=h.get b':=λb' hn=>AH.get_put_ne h x (λe=>hn e.symm);have hlive:∀b',live (h.put b x) b'→live h b':=λb' hl=>by
  by_cases e:b'=b
  ·subst e;exact hlb
  ·unfold live at*;rw[hget b' e]at hl;exact hl
 refine⟨⟨λ_ h=>h,λ_ _=>rfl,by omega,?_,Nat.le_refl _,?_,hos,htape,hout,λb=>⟨.inl,λhb=>hb.elim id λhb=>by simp at hb;omega⟩,?_⟩,⟨?_,?_,?_,?_⟩⟩
 ·intro c hc hn;refine⟨hother c λe=>hn ⟨b,hb,hlb,e.symm⟩,?_⟩;rintro⟨b',hb',hl',he⟩;exact hn ⟨b',hb',hlive b' hl',he⟩
 ·intro b' hb' hn;exact⟨hget b' (λe=>hn (e▸hb)),hn⟩
 ·intro b' t hb' hg;by_cases e:b'=b
  ·subst e;rw[AH.get_put_same]at hg;cases hg;exact absurd rfl (hni t)
  ·exact⟨hb',by rw[← hget b' e];exact hg⟩
 ·intro b' hb';by_cases e:b'=b
  ·subst e;exact⟨x,AH.get_put_same h b' x,hxr,hx⟩
  ·obtain⟨y,hy,hyr,hyd⟩:=r.blk b' hb';refine⟨y,(hget b' e).trans hy,?_,hyd⟩;cases y with
   |dead=>trivial
   |inp t=>exact hyr.congr (λ_ _=>rfl) hyd (hother _ λee=>r.inp b' t hb' hy ⟨b,hb,hlb,ee.symm⟩)
   |_=>refine hyr.congr (λ_ _=>rfl) hyd (hother _ λee=>e ?_);exact r.inj b' b hb' hb ⟨_,hy,trivial⟩ hlb ee
 ·intro b1 b2 h1 h2 l1 l2 he;exact r.inj b1 b2 h1 h2 (hlive b1 l1) (hlive b2 l2) he
 ·intro b' hb';exact r.lt b' hb'
 ·rintro b' t hb' hg ⟨b2,hb2,hl2,he⟩;by_cases e:b'=b
  ·subst e;have:=r.inj b2 b' hb2 hb' (hlive b2 hl2) hlb he;subst this;obtain⟨y,hy,hyl⟩:=hl2;rw[hg]at hy;cases hy;exact hyl
  ·rw[hget b' e]at hg;exact r.inp b' t hb' hg ⟨b2,hb2,hlive b2 hl2,he⟩
end Go.Ae
namespace Go.Ae
open Go
def qW3:Value→Bool
 | .agg _=>false
 | .tuple _=>false
 |_=>true
theorem KH {α β:Type} (P:Program) (e:Sem α) (f:α→Sem β) (w:World) :
  (Sem.bind e f).run P w=match e.run P w with | .ok a w'=>(f a).run P w' | .halt h w'=>.halt h w':=by
 induction e generalizing w with
 |pure a=>rfl
 |load m a k ih=>simp only[Sem.bind,Sem.run];split<;>first |exact ih _ _ |(split<;>first |exact ih _ _ |rfl)
 |store m a v k ih=>
  cases v<;>simp only[Sem.bind,Sem.run]<;>(repeat' split)<;>first |exact ih _ |rfl |simp_all
 |new o k ih=>exact ih _ _
 |shape r k ih=>exact ih _ _
 |freeze a n k ih=>exact ih _
 |frozen a k ih=>exact ih _ _
 |getObj r k ih=>simp only[Sem.bind,Sem.run];split<;>first |exact ih _ _ |rfl
 |setObj r o k ih=>simp only[Sem.bind,Sem.run];split<;>first |exact ih _ |rfl
 |choose q k ih=>simp only[Sem.bind,Sem.run];split<;>exact ih _ _
 |sys c k ih=>exact ih _ _
 |program k ih=>exact ih _ _
 |mark m k ih=>exact ih _
 |halt h=>rfl
theorem qY {α β:Type} {P:Program} {e:Sem α} {f:α→Sem β} {w w':World} {a:α} (h:e.run P w=.ok a w'):(e>>=f).run P w=(f a).run P w':=by show(Sem.bind e f).run P w=_;rw[KH,h]
theorem gJ {α:Type} (P:Program) (a:α) (w:World):(pure a:Sem α).run P w=.ok a w:=rfl
theorem qVL {w:World} {b:Nat} {C:List Value} {e:TypeId} {fr:Nat×Nat} (h:w.heap[b]? =some (.cells C.toArray e fr)) (o:Nat):w.cell? ⟨b,o,none⟩=C[o]?:=by simp[World.cell?,h]
theorem wh (b o n:Nat):Addr.add ⟨b,o,none⟩ n=⟨b,o+n,none⟩:=by
 unfold Addr.add
 split
 ·subst_vars;simp
 ·rfl
theorem Vf {P:Program} {w:World} {b:Nat} {C:List Value} {e:TypeId} {fr:Nat×Nat} (h:w.heap[b]? =some (.cells C.toArray e fr)) {o:Nat} {v:Value} (hv:C[o]? =some v) :
  (load ⟨b,o,none⟩).run P w=.ok v w:=by
 simp only[load,Sem.run,qVL h,hv]
theorem Gi {P:Program} {w:World} {b:Nat} {C:List Value} {e:TypeId} {fr:Nat×Nat} (h:w.heap[b]? =some (.cells C.toArray e fr)) (o:Nat) :
  ∀(n i:Nat) (acc:Array Value),o+i+n≤C.length→(loadCellsFrom ⟨b,o,none⟩ i n acc).run P w=.ok (acc++((C.drop (o+i)).take n).toArray) w:=by
 intro n
 induction n with
 |zero=>intro i acc _;simp[loadCellsFrom]
 |succ n ih=>
  intro i acc hl;unfold loadCellsFrom;have hg:C[o+i]? =some (C[o+i]'omQ):=iW omQ;rw[wh,qY (Vf h hg),ih _ _ omQ]
  congr 1
  rw[List.drop_eq_getElem_cons (show o+i<C.length by omega)];simp[Nat.add_assoc]
theorem YT {P:Program} {w:World} {b:Nat} {C:List Value} {e:TypeId} {fr:Nat×Nat} (h:w.heap[b]? =some (.cells C.toArray e fr)) (o n:Nat) (hl:o+n≤C.length) :
  (loadCells ⟨b,o,none⟩ n).run P w=.ok ((C.drop o).take n).toArray w:=by
 unfold loadCells;rw[Gi h o n 0 #[] (by simpa using hl)];simp
theorem qG7 {P:Program} {w:World} {b:Nat} {C:List Value} {e:TypeId} {fr:Nat×Nat} (h:w.heap[b]? =some (.cells C.toArray e fr)) {o:Nat} (ho:o<C.length) {v:Value} (hv:qW3 v=true)
  (hf:¬(fr.1≤o∧o<fr.2)):(store ⟨b,o,none⟩ v).run P w=.ok () (w.setCell ⟨b,o,none⟩ v):=by
 have hc:w.cell? ⟨b,o,none⟩=some (C[o]'ho):=by rw[qVL h,iW ho]
 have hz:w.frozen? ⟨b,o,none⟩=false:=by obtain⟨lo,hi⟩:=fr;simp only[World.frozen?,h];simp only[Bool.and_eq_false_iff,decide_eq_false_iff_not];simp only at hf;omega
 cases v<;>simp[qW3]at hv<;>simp[store,Sem.run,hc,hz]
theorem Ot {w:World} {b:Nat} {C:List Value} {e:TypeId} {fr:Nat×Nat} (h:w.heap[b]? =some (.cells C.toArray e fr)) (o:Nat) (v:Value) :
  (w.setCell ⟨b,o,none⟩ v).heap[b]? =some (.cells (C.set o v).toArray e fr):=by
 simp[World.setCell,Array.getElem?_modify,h]
theorem MM {w:World} {b c:Nat} (o:Nat) (v:Value) (hc:c≠b):(w.setCell ⟨b,o,none⟩ v).heap[c]? =w.heap[c]?:=by simp only[World.setCell,Array.getElem?_modify];rw[iQ (λe=>hc e.symm)]
@[simp] theorem setCell_size (w:World) (a:Addr) (v:Value):(w.setCell a v).heap.size=w.heap.size:=by simp[World.setCell]
structure jQp (w w':World) (b:Nat) (o:Obj):Prop where
  size:w'.heap.size=w.heap.size
  at_:w'.heap[b]? =some o
  other:∀c,c≠b→w'.heap[c]? =w.heap[c]?
  os:w'.os=w.os
  tape:w'.tape=w.tape
  output:w'.output=w.output
theorem Xx {P:Program} {b:Nat} {e:TypeId} {fr:Nat×Nat} (o:Nat):∀(vs:List Value) (i:Nat) (w:World) (C:List Value),w.heap[b]? =some (.cells C.toArray e fr)→
  o+i+vs.length≤C.length→(∀v∈vs,qW3 v=true)→(∀k,k<C.length→¬(fr.1≤k∧k<fr.2))→
  ∃w',(storeCells ⟨b,o,none⟩ vs i).run P w=.ok () w'∧jQp w w' b (.cells (C.take (o+i)++vs++C.drop (o+i+vs.length)).toArray e fr):=by
 intro vs
 induction vs with
 |nil=>intro i w C h hl _ _;exact⟨w,by unfold storeCells;rfl,⟨rfl,by simp[h],λ_ _=>rfl,rfl,rfl,rfl⟩⟩
 |cons v vs ih=>
  intro i w C h hl ho hf;simp only[List.length_cons]at hl;have h1:=qG7 (P:=P) h (o:=o+i) omQ (ho v (iK ..)) (hf _ omQ);obtain⟨w',hr,ht⟩:=ih (i+1) (w.setCell ⟨b,o+i,none⟩ v) (C.set (o+i) v) (Ot h _ _) (by simp;omega) (λx hx=>ho x (iX _ hx)) (by simpa using hf);refine⟨w',?_,?_⟩
  ·unfold storeCells;rw[wh,qY h1];exact hr
  ·refine⟨by rw[ht.size,setCell_size],?_,λc hc=>(ht.other c hc).trans (MM _ _ hc),ht.os,ht.tape,ht.output⟩;rw[ht.at_]
   congr 3
   have e1:(C.set (o+i) v).take (o+(i+1))=C.take (o+i)++[v]:=by rw[show o+(i+1)=(o+i)+1 from by omega,List.take_succ_eq_append_getElem (by simp;omega)];simp[List.take_set_of_le]
   have e2:(C.set (o+i) v).drop (o+(i+1)+vs.length)=C.drop (o+i+(v::vs).length):=by
    rw[List.drop_set_of_lt omQ]
    congr 1
    simp;omega
   rw[e1,e2];simp
end Go.Ae
namespace Go.Ae
open Go
variable {P:Program} {m:Mp} {D:Nat→Prop} {h:AH} {w:World}
theorem qku (m:Mp) (v:AV) (hv:v.one=true):qW3 (cv m v)=true:=by
 cases v<;>first |rfl |(simp[AV.one]at hv;done)
theorem qQF {l:List AV} (m:Mp) (hl:qp l=true):∀v∈cvs m l,qW3 v=true:=by intro v hv;rw[zl,List.mem_map]at hv;obtain⟨a,ha,rfl⟩:=hv;unfold qp at hl;rw[List.all_eq_true]at hl;exact qku m a (hl a ha)
theorem gp (m:Mp) (v:AV):(cv m v).cells=(cvs m v.cells).toArray:=by
 cases v<;>simp[cv,AV.cells,Value.cells,cvs]
theorem w5 {v:AV} (hv:inD D v):inDs D v.cells:=by
 cases v<;>simp only[AV.cells,inDs,inD]at* <;>first |exact⟨hv,trivial⟩ |exact hv |trivial |exact⟨trivial,trivial⟩
theorem Rel.cells (r:Rel P m D h w) {b:Nat} (hb:D b) {c:CT} {e:TypeId} {o:Bool} (hg:h.get b=some (.cells c e o)) :
  ∃(rest:List Value) (fr:Nat×Nat),w.heap[(m b).1]? =some (.cells (cvs m c.toList++rest).toArray e fr)∧(o=false→rest=[])∧
   (∀i,i<c.toList.length+rest.length→¬(fr.1≤i∧i<fr.2))∧(o=true→∀n,cellsOf? P e=some n→c.toList.length≤(m b).2*n∧(m b).2*n≤c.toList.length+rest.length)∧inDs D c.toList:=by
 obtain⟨x,hx,hr,hd⟩:=r.blk b hb;rw[hg]at hx;cases hx;obtain⟨rest,fr,h1,h2,h3,h4⟩:=hr;exact⟨rest,fr,h1,h2,h3,h4,hd⟩
theorem UF {b:Nat} {x:Blk} (hg:h.get b=some x) (hl:x.live):live h b:=⟨x,hg,hl⟩
theorem Rel.readL (r:Rel P m D h w) {b off n:Nat} {c:CT} {t:TypeId} {o:Bool} {l:List AV} (hb:D b) (hg:h.get b=some (.cells c t o)) (e:yt n (vy off c.toList)=some l) :
  (loadCells ⟨(m b).1,off,none⟩ n).run P w=.ok (cvs m l).toArray w∧inDs D l∧l.length=n:=by
 obtain⟨rest,fr,h1,_,_,_,hd⟩:=r.cells hb hg;rw[kI]at e;obtain⟨e1,e2⟩:=w9 e;refine⟨?_,?_,qGb e⟩
 ·by_cases hz:n=0
  ·subst hz;subst e1;simp[cvs,loadCells,loadCellsFrom]
  ·simp only[List.length_drop]at e2;rw[YT h1 off n (by simp;omega)];subst e1;rw[zl,zl,List.drop_append_of_le_length (by simp;omega),List.take_append_of_le_length (by simp;omega)];simp[List.map_take,List.map_drop]
 ·subst e1;exact JW _ (YD _ hd)
theorem qYA {t:Trie AV}:∀{n i:Nat} {l:List AV},JH [] t i n=some l→l.length=n∧∀k,k<n→∃v,Trie.get t (i+k)=some v∧l[k]? =some v:=by
 intro n
 induction n with
 |zero=>intro i l e;rw[qVc]at e;cases e;exact⟨rfl,λk hk=>by omega⟩
 |succ n ih=>
  intro i l e;rw[OS]at e;simp only[Option.bind_eq_some_iff]at e;obtain⟨v,hv,s,hs,e⟩:=e;cases e;obtain⟨h1,h2⟩:=ih hs;have hv':Trie.get t i=some v:=by
   rw[y9]at hv
   split at hv
   ·rename_i x hx;cases hv;exact hx
   ·rw[VH]at hv;cases hv
  refine⟨by simp[h1],?_⟩;intro k hk;cases k with
  |zero=>exact⟨v,hv',rfl⟩
  |succ k=>obtain⟨u,hu1,hu2⟩:=h2 k omQ;exact⟨u,by rw[← hu1];congr 1;omega,by simpa using hu2⟩
theorem Rel.inpB (r:Rel P m D h w) {b:Nat} {t:Trie AV} (hb:D b) (hg:h.get b=some (.inp t)) :
  ∃C e fr,w.heap[(m b).1]? =some (.cells (List.toArray C) e fr)∧∀i v,Trie.get t i=some v→C[i]? =some (cv m v)∧inD D v:=by
 obtain⟨x,hx,hr,hd⟩:=r.blk b hb;rw[hg]at hx;cases hx;obtain⟨C,e,fr,h1,h2⟩:=hr;exact⟨C,e,fr,h1,λi v hv=>⟨h2 i v hv,hd i v hv⟩⟩
theorem Rel.readI (r:Rel P m D h w) {b off n:Nat} {t:Trie AV} {l:List AV} (hb:D b) (hg:h.get b=some (.inp t)) (e:JH [] t off n=some l) :
  (loadCells ⟨(m b).1,off,none⟩ n).run P w=.ok (cvs m l).toArray w∧inDs D l∧l.length=n:=by
 obtain⟨C,el,fr,h1,h2⟩:=r.inpB hb hg;obtain⟨e1,e2⟩:=qYA e;have key:∀k,k<n→∃v,l[k]? =some v∧C[off+k]? =some (cv m v)∧inD D v:=λk hk=>by
  obtain⟨v,hv,hl⟩:=e2 k hk;exact⟨v,hl,h2 _ v hv⟩
 refine⟨?_,?_,e1⟩
 ·by_cases hz:n=0
  ·subst hz;rw[iA e1];simp[cvs,loadCells,loadCellsFrom]
  ·have hlen:off+n≤C.length:=by
    obtain⟨v,_,hc,_⟩:=key (n-1) omQ;have:=(List.getElem?_eq_some_iff.1 hc).1;omega
   rw[YT h1 off n hlen]
   congr 2
   apply List.ext_getElem?;intro k;rw[zl,List.getElem?_map];by_cases hk:k<n
   ·obtain⟨v,hl,hc,_⟩:=key k hk;rw[List.getElem?_take_of_lt hk,List.getElem?_drop,hc,hl];rfl
   ·rw[List.getElem?_eq_none (by simp;omega),List.getElem?_eq_none omQ];rfl
 ·rw[xC];intro v hv;obtain⟨k,hk,rfl⟩:=List.mem_iff_getElem.1 hv;obtain⟨u,hl,_,hd⟩:=key k omQ;rw[iW hk]at hl;cases hl;exact hd
theorem Rel.readI1 (r:Rel P m D h w) {b off:Nat} {t:Trie AV} {v:AV} (hb:D b) (hg:h.get b=some (.inp t)) (e:Trie.get t off=some v) :
  (load ⟨(m b).1,off,none⟩).run P w=.ok (cv m v) w∧inD D v:=by
 obtain⟨C,el,fr,h1,h2⟩:=r.inpB hb hg;obtain⟨h3,h4⟩:=h2 off v e;exact⟨Vf h1 h3,h4⟩
theorem Rel.read (r:Rel P m D h w) {b off n:Nat} {l:List AV} (hb:D b) (e:yv h b off n=some l) :
  (loadCells ⟨(m b).1,off,none⟩ n).run P w=.ok (cvs m l).toArray w∧inDs D l∧l.length=n:=by
 unfold yv at e
 split at e
 ·rename_i c t o hg;exact r.readL hb hg (CT.readN_ok e)
 ·rename_i t hg;exact r.readI hb hg e
 ·cases e
theorem Rel.read1 (r:Rel P m D h w) {b off:Nat} {c:CT} {t:TypeId} {o:Bool} {v:AV} (hb:D b) (hg:h.get b=some (.cells c t o)) (e:c.get1 off=some v) :
  (load ⟨(m b).1,off,none⟩).run P w=.ok (cv m v) w∧inD D v:=by
 obtain⟨rest,fr,h1,_,_,_,hd⟩:=r.cells hb hg
 replace e:=CT.get1_ok e
 rw[yV]at e;have hlt:off<c.toList.length:=(List.getElem?_eq_some_iff.1 e).1;refine⟨Vf h1 ?_,(xC D c.toList).1 hd v (List.mem_of_getElem? e)⟩;rw[List.getElem?_append_left (by simpa using hlt),zl,List.getElem?_map,e];rfl
theorem Rel.write (r:Rel P m D h w) {b off:Nat} {xs:List AV} {h':AH} (hb:D b) (hxs:inDs D xs) (e:gV h b off xs=some h') :
  ∃w',(storeCells ⟨(m b).1,off,none⟩ (cvs m xs)).run P w=.ok () w'∧Ext m D h w m D h' w'∧Rel P m D h' w':=by
 unfold gV at e
 split at e
 ·rename_i c t o hg;cases hone:qp xs
  ·rw[hone]at e;cases e
  ·rw[hone]at e;simp only[cond_true,Option.bind_eq_some_iff]at e;obtain⟨c',hc',he⟩:=e;cases he;obtain⟨e1,e2⟩:=Kt (CT.write_ok hc');obtain⟨rest,fr,h1,h2,h3,h4,hd⟩:=r.cells hb hg;obtain⟨w',hr,ht⟩:=Xx (P:=P) off (cvs m xs) 0 w _ h1 (by simp;omega) (qQF m hone) (by simpa using h3);refine⟨w',hr,?_⟩;have hlen:c'.toList.length=c.toList.length:=by rw[e1];simp;omega
   refine r.put b _ hb (UF hg trivial) ht.size ht.other ht.os ht.tape ht.output ?_ ?_
   ·simp only[inDB];rw[e1];exact vB.2 ⟨vB.2 ⟨JW _ hd,hxs⟩,YD _ hd⟩
   ·refine⟨rest,fr,?_,h2,by rw[hlen];exact h3,by rw[hlen];exact h4⟩;rw[ht.at_,e1]
    congr 3
    simp only[zl,List.length_map,Nat.add_zero,List.map_append,List.map_take,List.map_drop];rw[List.take_append_of_le_length (by simp;omega),List.drop_append_of_le_length (by simp;omega)];simp
 ·cases e
theorem Ov {v:Value} {a:AV} (e:KM v=some a):cv m a=v∧inD D a:=by
 unfold KM at e
 split at e<;>first |(cases e;exact⟨rfl,trivial⟩) |(cases e;done)
theorem Uu {l:List Value} {s:List AV} (e:wV KM l=some s):cvs m s=l∧inDs D s:=by
 induction l generalizing s with
 |nil=>simp[wV]at e;subst e;exact⟨rfl,trivial⟩
 |cons a r ih=>simp only[wV,Option.bind_eq_some_iff]at e;obtain⟨b,hb,t,ht,hs⟩:=e;cases hs;obtain⟨h1,h2⟩:=Ov (m:=m) (D:=D) hb;obtain⟨h3,h4⟩:=ih ht;exact⟨by simp[cvs,h1,h3],h2,h4⟩
theorem JX {v:Value} {a:AV} (e:qJI v=some a):cv m a=v∧inD D a:=by
 unfold qJI at e
 split at e
 ·rename_i cs;simp only[Option.map_eq_some_iff]at e;obtain⟨s,hs,rfl⟩:=e;obtain⟨h1,h2⟩:=Uu (m:=m) (D:=D) hs;exact⟨by simp[cv,h1],h2⟩
 ·rename_i cs;simp only[Option.map_eq_some_iff]at e;obtain⟨s,hs,rfl⟩:=e;obtain⟨h1,h2⟩:=Uu (m:=m) (D:=D) hs;exact⟨by simp[cv,h1],h2⟩
 ·rename_i f first cap
  cases hc:(first.isEmpty&&cap.isEmpty)
  ·rw[hc]at e;cases e
  ·rw[hc]at e;cases e;simp only[Bool.and_eq_true,Array.isEmpty_iff]at hc;obtain⟨rfl,rfl⟩:=hc;exact⟨by simp[cv,cvs],trivial,trivial⟩
 ·exact Ov e
theorem run_underlying {t:TypeId} {d:TypeDesc} (e:P.underlying t=some d):(underlying t).run P w=.ok d w:=by unfold underlying;rw[qY (show(program).run P w=.ok P w from rfl)];rw[e];rfl
theorem run_typeInfo {t:TypeId} {i:TypeInfo} (e:P.info? t=some i):(typeInfo t).run P w=.ok i w:=by unfold typeInfo;rw[qY (show(program).run P w=.ok P w from rfl)];rw[e];rfl
theorem run_sizeOf {t:TypeId} {n:Nat} (e:cellsOf? P t=some n):(sizeOf t).run P w=.ok n w:=by simp only[cellsOf?,Option.map_eq_some_iff]at e;obtain⟨i,hi,rfl⟩:=e;unfold sizeOf;rw[qY (run_typeInfo hi)];rfl
theorem gP {t:TypeId} {b:Bool} (e:agg? P t=some b):(isAgg t).run P w=.ok b w:=by simp only[agg?,Option.map_eq_some_iff]at e;obtain⟨d,hd,hb⟩:=e;unfold isAgg;rw[qY (run_underlying hd)];cases d<;>(subst hb;rfl)
theorem x7 {t:TypeId} {z:AV} (e:zero? P t=some z):(zeroValue t).run P w=.ok (cv m z) w∧inD D z:=by simp only[zero?,Option.bind_eq_some_iff]at e;obtain⟨i,hi,v,hv,hz⟩:=e;obtain⟨h1,h2⟩:=JX (m:=m) (D:=D) hz;refine⟨?_,h2⟩;unfold zeroValue;rw[qY (run_typeInfo hi),hv,h1];rfl
end Go.Ae
namespace Go.Ae
open Go
variable {P:Program} {m:Mp} {D:Nat→Prop} {h:AH} {w:World}
def OpR (P:Program) (m:Mp) (D:Nat→Prop) (h:AH) (w:World) (res:Result Next) (v:AV) (h':AH):Prop :=
 ∃m' D' w',(res=.ok (.value (cv m' v)) w'∨(res=.ok .skip w'∧v=.undef))∧Ext m D h w m' D' h' w'∧Rel P m' D' h' w'∧inD D' v
theorem qH {α:Type} {x:Option α} {k:α→R} {r:AV×AH}:ob x k=some r↔∃a,x=some a∧k a=some r:=by
 cases x<;>simp[ob]
theorem jt {b:Bool} {x:R} {r:AV×AH}:cnd b x none=some r↔b=true∧x=some r:=by
 cases b<;>simp[cnd]
theorem jY {α:Type} {b:Bool} {x:Option α} {r:α}:(bif b then x else none)=some r↔b=true∧x=some r:=by
 cases b<;>simp
theorem qU {v v':AV} {h h':AH}:(some (v,h):R)=some (v',h')↔v=v'∧h=h':=by simp
theorem jn (r:Rel P m D h w) {s:Sem Value} {v:AV} (hs:s.run P w=.ok (cv m v) w) (hv:inD D v) :
  OpR P m D h w ((do pure (Next.value (← s)):Sem Next).run P w) v h :=
 ⟨m,D,w,.inl (by rw[qY hs];rfl),Ext.refl ..,r,hv⟩
theorem XJ (r:Rel P m D h w) {s:Sem Next} {v:AV} (hs:s.run P w=.ok (.value (cv m v)) w) (hv:inD D v):OpR P m D h w (s.run P w) v h :=
 ⟨m,D,w,.inl hs,Ext.refl ..,r,hv⟩
def OpV (m:Mp) (D:Nat→Prop) (ρ:Operand→Value) (r:Operand→Option AV):Prop:=∀x v,r x=some v→ρ x=cv m v∧inD D v
theorem zQ {a b:Nat} (h:Nat.ble a b=true):a≤b:=Nat.le_of_ble_eq_true h
theorem Gq {a b:Nat} (h:Nat.ble a b=false):b<a:=by
 rcases Nat.lt_or_ge b a with h' |h'
 ·exact h'
 ·rw[iY h']at h;cases h
theorem Vo (a b:Int):ieq a b=(a==b):=by
 cases a with
 |ofNat a=>cases b with
  |ofNat b=>
   simp only[ieq];by_cases e:a=b
   ·subst e;simp
   ·rw[xR e];symm;rw[beq_eq_false_iff_ne];intro h;exact e (Int.ofNat.inj h)
  |negSucc b=>rfl
 |negSucc a=>cases b with
  |ofNat b=>rfl
  |negSucc b=>
   simp only[ieq];by_cases e:a=b
   ·subst e;simp
   ·rw[xR e];symm;rw[beq_eq_false_iff_ne];intro h;exact e (Int.negSucc.inj h)
theorem Vz (a b:Int):ilt a b=decide (a<b):=by
 cases a with
 |ofNat a=>cases b with
  |ofNat b=>
   simp only[ilt];cases e:Nat.ble (a+1) b
   ·have:=Gq e;symm;rw[decide_eq_false_iff_not];show¬((a:Int)<(b:Int));omega
   ·have:=zQ e;symm;rw[decide_eq_true_eq];show(a:Int)<(b:Int);omega
  |negSucc b=>simp only[ilt];symm;rw[decide_eq_false_iff_not];show¬((a:Int)<_);omega
 |negSucc a=>cases b with
  |ofNat b=>simp only[ilt];symm;rw[decide_eq_true_eq];show _<(b:Int);omega
  |negSucc b=>
   simp only[ilt];cases e:Nat.ble (b+1) a
   ·have:=Gq e;symm;rw[decide_eq_false_iff_not];omega
   ·have:=zQ e;symm;rw[decide_eq_true_eq];omega
theorem KG (n:Int):IntKind.wrap .i64 n=if 9223372036854775808≤n%18446744073709551616 then n%18446744073709551616-18446744073709551616 else n%18446744073709551616:=by show(if(true&&decide (n%18446744073709551616≥9223372036854775808))=true then _ else _)=_;simp only[Bool.true_and,decide_eq_true_eq,ge_iff_le];rfl
theorem Vs (n:Int):IntKind.wrap .u64 n=n%18446744073709551616:=rfl
theorem qwb (n:Int):IntKind.wrap .u8 n=n%256:=rfl
theorem OM (a:Nat) (h:a≤9223372036854775807):IntKind.wrap .i64 (Int.negSucc a)=Int.negSucc a:=by have e:Int.negSucc a= -((a:Int)+1):=Int.negSucc_eq a;rw[KG,e];generalize hx:-((a:Int)+1)=x;rw[iJ omQ];omega
theorem Jy (k:IntKind) (n:Int):zN k n=k.wrap n:=by
 cases k<;>cases n<;>simp only[zN]
 ·rename_i a;cases hb:Nat.ble a 9223372036854775807
  ·rw[cond_false]
  ·have:=zQ hb;rw[KG];show(a:Int)=if 9223372036854775808≤(a:Int)%_ then _ else(a:Int)%_
   split<;>omega
 ·rename_i a;cases hb:Nat.ble a 9223372036854775807
  ·rw[cond_false]
  ·have:=zQ hb;rw[cond_true];exact(OM a this).symm
 ·rename_i a;rw[qwb];show((a%256:Nat):Int)=(a:Int)%_;omega
 ·rename_i a;rw[Vs];show((a%18446744073709551616:Nat):Int)=(a:Int)%_;omega
 ·rename_i a;rw[Vs];show((18446744073709551615-a%18446744073709551616:Nat):Int)=_;omega
theorem seq?_eq (a b:List UInt8):seq? a b=(a==b):=by
 induction a generalizing b with
 |nil=>cases b<;>rfl
 |cons x a ih=>cases b with
  |nil=>rfl
  |cons y b=>simp only[seq?,ih];rfl
def Zn (op:BinOp) (k:IntKind) (x y:Int):Sem Value :=
 match op with
 | .add | .sub | .mul=>Op.intArith op k x y
 | .quo | .rem=>Op.intDiv op k x y
 | .and | .or | .xor | .andNot=>Op.intBits op k x y
 |_=>Op.intCmp op x y
theorem qxl {op:BinOp} {k:IntKind} {x y:Int} {v:AV} (e:Qa op k x y=some v) :
  (Zn op k x y).run P w=.ok (cv m v) w∧inD D v:=by
 cases op<;>simp only[Qa,Jy,Vo,Vz]at e
 case quo=>
  by_cases hy:y=0
  ·subst hy;cases e
  ·rw[beq_eq_false_iff_ne.2 hy]at e;cases e;exact⟨by simp[Zn,Op.intDiv,hy,cv],trivial⟩
 case rem=>
  by_cases hy:y=0
  ·subst hy;cases e
  ·rw[beq_eq_false_iff_ne.2 hy]at e;cases e;exact⟨by simp[Zn,Op.intDiv,hy,cv],trivial⟩
 case leq=>
  cases e;refine⟨?_,trivial⟩;show Result.ok (Value.bool (decide (x≤y))) w=.ok (.bool (!decide (y<x))) w;rw[← decide_not,decide_eq_decide.2 (show x≤y↔¬y<x by omega)]
 case geq=>
  cases e;refine⟨?_,trivial⟩;show Result.ok (Value.bool (decide (x≥y))) w=.ok (.bool (!decide (x<y))) w;rw[← decide_not,decide_eq_decide.2 (show x≥y↔¬x<y by omega)]
 all_goals first
  |(cases e;done)
  |(cases e;exact⟨rfl,trivial⟩)
end Go.Ae
namespace Go.Ae
open Go
variable {P:Program} {m:Mp} {D:Nat→Prop} {h h':AH} {w:World} {c:CV} {ρ:Operand→Value} {r:Operand→Option AV} {o:Oper} {v:AV}
abbrev fin:AV→AH→R:=λv h=>some (v,h)
theorem qgC {x:Operand} (ho:o.op=.move x) (hr:OpV m D ρ r) (R:Rel P m D h w) (e:opK P c o.op r h fin=some (v,h')):OpR P m D h w ((execOp ρ o).run P w) v h':=by rw[ho]at e;simp only[opK,qH,qU]at e;obtain⟨a,ha,rfl,rfl⟩:=e;obtain⟨h1,h2⟩:=hr _ _ ha;refine XJ R ?_ h2;simp only[execOp,ho,h1,gJ]
theorem qG9 {x:Operand} (ho:o.op=.assign x) (hr:OpV m D ρ r) (R:Rel P m D h w) (e:opK P c o.op r h fin=some (v,h')):OpR P m D h w ((execOp ρ o).run P w) v h':=by rw[ho]at e;simp only[opK,qH,qU]at e;obtain⟨a,ha,rfl,rfl⟩:=e;obtain⟨h1,h2⟩:=hr _ _ ha;refine XJ R ?_ h2;simp only[execOp,ho,h1,gJ]
theorem qk4 {x y z:Operand} (ho:o.op=.pick x y z) (hr:OpV m D ρ r) (R:Rel P m D h w) (e:opK P c o.op r h fin=some (v,h')):OpR P m D h w ((execOp ρ o).run P w) v h':=by
 rw[ho]at e;simp only[opK,qH]at e;obtain⟨a,ha,b,hb,d,hd,e⟩:=e;obtain⟨a1,a2⟩:=hr _ _ ha;obtain⟨b1,b2⟩:=hr _ _ hb;obtain⟨d1,d2⟩:=hr _ _ hd;rw[Z3]at e
 split at e
 ·rename_i t;cases t<;>simp only[qU]at e<;>obtain⟨rfl,rfl⟩:=e
  ·refine XJ R ?_ d2;simp only[execOp,ho,a1,b1,d1,cv,asBool];rfl
  ·refine XJ R ?_ b2;simp only[execOp,ho,a1,b1,d1,cv,asBool];rfl
 ·cases e
theorem jJB {x:Operand} (ho:o.op=.nilCheck x) (hr:OpV m D ρ r) (R:Rel P m D h w) (e:opK P c o.op r h fin=some (v,h')):OpR P m D h w ((execOp ρ o).run P w) v h':=by
 rw[ho]at e;simp only[opK,qH]at e;obtain⟨a,ha,e⟩:=e;obtain⟨a1,a2⟩:=hr _ _ ha;unfold xm at e
 split at e<;>first |(cases e;done) |skip
 all_goals
  simp only[qU]at e;obtain⟨rfl,rfl⟩:=e;refine XJ R ?_ a2;simp only[execOp,ho,a1,cv];rfl
theorem op_un {op:UnOp} {t:TypeId} {x:Operand} (ho:o.op=.unOp op t x) (hr:OpV m D ρ r) (R:Rel P m D h w) (e:opK P c o.op r h fin=some (v,h')):OpR P m D h w ((execOp ρ o).run P w) v h':=by
 rw[ho]at e;simp only[opK,qH]at e;obtain⟨a,ha,e⟩:=e;obtain⟨a1,a2⟩:=hr _ _ ha;unfold pUn at e
 split at e<;>first |(cases e;done) |skip
 all_goals
  simp only[qU]at e;obtain⟨rfl,rfl⟩:=e;simp only[execOp,ho,a1];refine jn R ?_ trivial
  first
   |(simp only[cv,Jy];rfl)
   |rfl
theorem qzM {t:TypeId} {x:Operand} (ho:o.op=.makeInterface t x) (hr:OpV m D ρ r) (R:Rel P m D h w) (e:opK P c o.op r h fin=some (v,h')):OpR P m D h w ((execOp ρ o).run P w) v h':=by
 rw[ho]at e;simp only[opK,qH]at e;obtain⟨d,hd,e⟩:=e;have key:∃a,r x=some a∧fin (.iface t a) h=some (v,h'):=by
  split at e
  ·cases e
  ·exact qH.1 e
 obtain⟨a,ha,e⟩:=key;obtain⟨a1,a2⟩:=hr _ _ ha;simp only[qU]at e;obtain⟨rfl,rfl⟩:=e;simp only[execOp,ho,a1];refine jn R ?_ a2;unfold Instr.makeInterface;rw[qY (run_underlying hd)];cases d<;>first |rfl |(simp_all;done)
theorem qjF {t:TypeId} {x:Operand} {f:Nat} (ho:o.op=.fieldAddr t x f) (hr:OpV m D ρ r) (R:Rel P m D h w) (e:opK P c o.op r h fin=some (v,h')):OpR P m D h w ((execOp ρ o).run P w) v h':=by
 rw[ho]at e;simp only[opK,qH]at e;obtain⟨a,ha,off,hoff,e⟩:=e;obtain⟨a1,a2⟩:=hr _ _ ha;rw[Vp]at e
 split at e
 ·rename_i b o';simp only[qU]at e;obtain⟨rfl,rfl⟩:=e;simp only[execOp,ho,a1];refine jn R ?_ a2;unfold qQ0 at hoff;simp only[Option.bind_eq_some_iff]at hoff;obtain⟨d,hd,hoff⟩:=hoff;unfold Instr.fieldAt;rw[qY (run_underlying hd)];cases d<;>simp only[reduceCtorEq]at hoff
  rename_i fs;simp only[Option.bind_eq_some_iff]at hoff;obtain⟨g,hg,sz,hsz,hoff⟩:=hoff;cases hz:Nat.beq sz 0<;>rw[hz]at hoff<;>simp only[cond_true,cond_false,reduceCtorEq,Option.some.injEq]at hoff
  subst hoff;simp only[hg,cv];rw[qY (show(Instr.sureAddr (.pointer (some ⟨(m b).1,o',none⟩))).run P w=.ok ⟨(m b).1,o',none⟩ w from rfl)];rw[qY (show(fieldPlace ⟨(m b).1,o',none⟩ g).run P w=.ok ⟨(m b).1,o'+g.offset,none⟩ w from ?_)]
  ·rfl
  ·unfold fieldPlace;rw[qY (run_sizeOf hsz),iQ (vq hz),wh];rfl
 ·cases e
theorem Yz {t:TypeId} {cs:List AV} {off:Nat} {x:AV} (ht:agg? P t=some false) (e:kz cs off=some x) (hd:inDs D cs):(part t (cvs m cs).toArray off).run P w=.ok (cv m x) w∧inD D x:=by rw[yV]at e;refine⟨?_,(xC D cs).1 hd x (List.mem_of_getElem? e)⟩;unfold part;rw[qY (gP ht)];simp only[Bool.false_eq_true,if_false,List.getElem?_toArray,zl,List.getElem?_map,e];rfl
theorem Yy {t:TypeId} {cs l:List AV} {off n:Nat} (ht:agg? P t=some true) (hn:cellsOf? P t=some n) (e:yt n (vy off cs)=some l) (hd:inDs D cs):(part t (cvs m cs).toArray off).run P w=.ok (cv m (.agg l)) w∧inDs D l:=by
 rw[kI]at e;obtain⟨e1,e2⟩:=w9 e;refine⟨?_,by subst e1;exact JW _ (YD _ hd)⟩;unfold part;rw[qY (gP ht)];simp only[if_true];rw[qY (run_sizeOf hn)];subst e1;simp only[cv,zl,List.map_take,List.map_drop,gJ]
 congr 2
 simp[List.take_drop]
theorem kZ {t:TypeId} {i:Option Nat} (e:kj P t=some i):(i=none∧agg? P t=some false)∨∃n,i=some n∧agg? P t=some true∧cellsOf? P t=some n:=by
 unfold kj at e;simp only[Option.bind_eq_some_iff]at e;obtain⟨a,ha,e⟩:=e;cases a
 ·simp at e;exact .inl ⟨e.symm,ha⟩
 ·simp only[cond_true,Option.map_eq_some_iff]at e;obtain⟨n,hn,e⟩:=e;exact .inr ⟨n,e.symm,ha,hn⟩
theorem qko {t:TypeId} {x:Operand} {f:Nat} (ho:o.op=.field t x f) (hr:OpV m D ρ r) (R:Rel P m D h w) (e:opK P c o.op r h fin=some (v,h')):OpR P m D h w ((execOp ρ o).run P w) v h':=by
 rw[ho]at e;simp only[opK,qH]at e;obtain⟨a,ha,p,hp,e⟩:=e;obtain⟨a1,a2⟩:=hr _ _ ha;unfold Nh at hp;simp only[Option.bind_eq_some_iff]at hp;obtain⟨d,hd,hp⟩:=hp;cases d<;>simp only[reduceCtorEq]at hp
 rename_i fs;simp only[Option.bind_eq_some_iff,Option.map_eq_some_iff]at hp;obtain⟨g,hg,i,hi,rfl⟩:=hp;simp only[execOp,ho,a1];rcases kZ hi with⟨rfl,hag⟩ |⟨n,rfl,hag,hn⟩
 ·simp only[Og]at e
  split at e
  ·rename_i cs;simp only[qH,qU]at e;obtain⟨z,hz,rfl,rfl⟩:=e;obtain⟨z1,z2⟩:=Yz (w:=w) (m:=m) hag hz a2;refine jn R ?_ z2;unfold Instr.field;rw[qY (run_underlying hd)];simp only[hg,cv];rw[qY (show(asAgg (.agg (cvs m cs).toArray)).run P w=.ok _ w from rfl)];exact z1
  ·cases e
 ·simp only[Xr]at e
  split at e
  ·rename_i cs;simp only[qH,qU]at e;obtain⟨z,hz,rfl,rfl⟩:=e;obtain⟨z1,z2⟩:=Yy (w:=w) (m:=m) hag hn hz a2;refine jn R ?_ z2;unfold Instr.field;rw[qY (run_underlying hd)];simp only[hg,cv];rw[qY (show(asAgg (.agg (cvs m cs).toArray)).run P w=.ok _ w from rfl)];exact z1
  ·cases e
theorem ZQ {t:TypeId} {x i:Operand} (ho:o.op=.indexAddr t x i) (hr:OpV m D ρ r) (R:Rel P m D h w) (e:opK P c o.op r h fin=some (v,h')):OpR P m D h w ((execOp ρ o).run P w) v h':=by
 rw[ho]at e;simp only[opK,qH]at e;obtain⟨a,ha,j,hj,d,hd,e⟩:=e;obtain⟨a1,a2⟩:=hr _ _ ha;obtain⟨j1,j2⟩:=hr _ _ hj;simp only[execOp,ho,a1,j1];cases d<;>simp only[reduceCtorEq]at e
 case slice el=>
  simp only[qH]at e;obtain⟨sz,hsz,e⟩:=e;rw[Ut]at e
  split at e
  ·rename_i b off len cp opn k q;simp only[jY,qU]at e;obtain⟨hq,rfl,rfl⟩:=e;have hq:=zQ hq;refine jn R ?_ a2;unfold Instr.indexAt;simp only[cv];rw[qY (show(asIntOf (.int k (.ofNat q))).run P w=.ok (k,.ofNat q) w from rfl)];rw[qY (run_underlying hd)];simp only[];rw[qY (show(pure (some (⟨(m b).1,off,none⟩:Addr),len,el):Sem (Option Addr×Nat×TypeId)).run P w=.ok _ w from rfl)];rw[qY (run_underlying hd)];have:(0:Int)≤Int.ofNat q∧Int.ofNat q<(len:Int):=⟨Int.natCast_nonneg q,by show(q:Int)<len;omega⟩;simp only[iJ this];rw[qY (run_sizeOf hsz)];simp only[wh,gJ];rfl
  ·cases e
 case array n el=>
  simp only[jt,qH]at e;obtain⟨h2,sz,hsz,e⟩:=e;have h2:=zQ h2;unfold QC at e
  split at e
  ·rename_i b off k q;simp only[jY,qU]at e;obtain⟨hq,rfl,rfl⟩:=e;have hq:=zQ hq;refine jn R ?_ a2;unfold Instr.indexAt;simp only[cv];rw[qY (show(asIntOf (.int k (.ofNat q))).run P w=.ok (k,.ofNat q) w from rfl)];rw[qY (run_underlying hd)];simp only[];rw[qY (show(Instr.sureAddr (.pointer (some ⟨(m b).1,off,none⟩))).run P w=.ok ⟨(m b).1,off,none⟩ w from rfl)];rw[qY (show(pure (some (⟨(m b).1,off,none⟩:Addr),n,el):Sem (Option Addr×Nat×TypeId)).run P w=.ok _ w from rfl)];rw[qY (run_underlying hd)];have:(0:Int)≤Int.ofNat q∧Int.ofNat q<(n:Int):=⟨Int.natCast_nonneg q,by show(q:Int)<n;omega⟩;simp only[iJ this];rw[qY (run_sizeOf hsz)];simp only[wh,gJ];rfl
  ·cases e
theorem qZn {x:Operand} {i:Nat} (ho:o.op=.extract x i) (hr:OpV m D ρ r) (R:Rel P m D h w) (e:opK P c o.op r h fin=some (v,h')):OpR P m D h w ((execOp ρ o).run P w) v h':=by
 rw[ho]at e;simp only[opK,qH]at e;obtain⟨a,ha,e⟩:=e;obtain⟨a1,a2⟩:=hr _ _ ha;rw[XZ]at e
 split at e
 ·rename_i l;simp only[qH,qU]at e;obtain⟨z,hz,rfl,rfl⟩:=e;rw[yV]at hz;simp only[execOp,ho,a1];refine jn R ?_ ((xC D l).1 a2 _ (List.mem_of_getElem? hz));simp only[Instr.extract,cv,List.getElem?_toArray,zl,List.getElem?_map,hz];rfl
 ·cases e
theorem qjb {t:TypeId} {x i:Operand} (ho:o.op=.index t x i) (hr:OpV m D ρ r) (R:Rel P m D h w) (e:opK P c o.op r h fin=some (v,h')):OpR P m D h w ((execOp ρ o).run P w) v h':=by
 rw[ho]at e;simp only[opK,qH]at e;obtain⟨a,ha,j,hj,d,hd,e⟩:=e;obtain⟨a1,a2⟩:=hr _ _ ha;obtain⟨j1,j2⟩:=hr _ _ hj;simp only[execOp,ho,a1,j1];cases d<;>simp only[reduceCtorEq]at e
 case string=>
  unfold gj at e
  split at e
  ·rename_i s k q;simp only[qH,qU]at e;obtain⟨z,hz,rfl,rfl⟩:=e;rw[yV]at hz;refine jn R ?_ trivial;unfold Instr.index;simp only[cv];rw[qY (show(asIntOf (.int k (.ofNat q))).run P w=.ok (k,.ofNat q) w from rfl)];rw[qY (run_underlying hd)];have h0:(0:Int)≤Int.ofNat q:=Int.natCast_nonneg q;have hb:(ByteArray.mk s.toArray)[q]? =some z:=by
    have hlt:q<s.length:=(List.getElem?_eq_some_iff.1 hz).1;have hs:(ByteArray.mk s.toArray).size=s.length:=by simp[ByteArray.size]
    rw[getElem?_pos _ _ (by rw[hs];exact hlt)]
    congr 1
    have:=(List.getElem?_eq_some_iff.1 hz).2;rw[← this];rfl
   simp only[iJ h0,show(Int.ofNat q).toNat=q from rfl,hb];rfl
  ·cases e
 case array n el=>
  simp only[qH]at e;obtain⟨sz,hsz,g,hg,e⟩:=e;cases g
  ·simp only[cnd]at e;unfold XN at e
   split at e
   ·rename_i cs k q;simp only[jY,qH,qU]at e;obtain⟨hq,z,hz,rfl,rfl⟩:=e;have hq:=zQ hq;obtain⟨z1,z2⟩:=Yz (w:=w) (m:=m) hg hz a2;refine jn R ?_ z2;unfold Instr.index;simp only[cv];rw[qY (show(asIntOf (.int k (.ofNat q))).run P w=.ok (k,.ofNat q) w from rfl)];rw[qY (run_underlying hd)];have:(0:Int)≤Int.ofNat q∧Int.ofNat q<(n:Int):=⟨Int.natCast_nonneg q,by show(q:Int)<n;omega⟩;simp only[iJ this];rw[qY (run_sizeOf hsz)];exact z1
   ·cases e
  ·simp only[cnd]at e;unfold XP at e
   split at e
   ·rename_i cs k q;simp only[jY,qH,qU]at e;obtain⟨hq,z,hz,rfl,rfl⟩:=e;have hq:=zQ hq;obtain⟨z1,z2⟩:=Yy (w:=w) (m:=m) hg hsz hz a2;refine jn R ?_ z2;unfold Instr.index;simp only[cv];rw[qY (show(asIntOf (.int k (.ofNat q))).run P w=.ok (k,.ofNat q) w from rfl)];rw[qY (run_underlying hd)];have:(0:Int)≤Int.ofNat q∧Int.ofNat q<(n:Int):=⟨Int.natCast_nonneg q,by show(q:Int)<n;omega⟩;simp only[iJ this];rw[qY (run_sizeOf hsz)];exact z1
   ·cases e
theorem qv7 {t:TypeId} {x:Operand} (ho:o.op=.load t x) (hr:OpV m D ρ r) (R:Rel P m D h w) (e:opK P c o.op r h fin=some (v,h')):OpR P m D h w ((execOp ρ o).run P w) v h':=by
 rw[ho]at e;simp only[opK,qH]at e;obtain⟨a,ha,i,hi,e⟩:=e;obtain⟨a1,a2⟩:=hr _ _ ha;simp only[execOp,ho,a1];rcases kZ hi with⟨rfl,hag⟩ |⟨n,rfl,hag,hn⟩
 ·simp only[vM]at e
  split at e
  ·rename_i b off
   split at e
   ·rename_i cs t' op' hg;simp only[qH,qU]at e;obtain⟨z,hz,rfl,rfl⟩:=e;obtain⟨z1,z2⟩:=R.read1 a2 hg hz;refine jn R ?_ z2;unfold Instr.loadAt;simp only[cv];rw[qY (show(Instr.sureAddr (.pointer (some ⟨(m b).1,off,none⟩))).run P w=.ok ⟨(m b).1,off,none⟩ w from rfl)];unfold loadVar;rw[qY (gP hag)];exact z1
   ·rename_i ti hg;simp only[qH,qU]at e;obtain⟨z,hz,rfl,rfl⟩:=e;obtain⟨z1,z2⟩:=R.readI1 a2 hg hz;refine jn R ?_ z2;unfold Instr.loadAt;simp only[cv];rw[qY (show(Instr.sureAddr (.pointer (some ⟨(m b).1,off,none⟩))).run P w=.ok ⟨(m b).1,off,none⟩ w from rfl)];unfold loadVar;rw[qY (gP hag)];exact z1
   ·cases e
  ·cases e
 ·simp only[wu]at e
  split at e
  ·rename_i b off;simp only[qH,qU]at e;obtain⟨z,hz,rfl,rfl⟩:=e;obtain⟨z1,z2,z3⟩:=R.read a2 hz;refine jn R ?_ z2;unfold Instr.loadAt;simp only[cv];rw[qY (show(Instr.sureAddr (.pointer (some ⟨(m b).1,off,none⟩))).run P w=.ok ⟨(m b).1,off,none⟩ w from rfl)];unfold loadVar;rw[qY (gP hag)];simp only[if_true];rw[qY (run_sizeOf hn),qY z1];rfl
  ·cases e
theorem qjD {t:TypeId} {x y:Operand} (ho:o.op=.store t x y) (hr:OpV m D ρ r) (R:Rel P m D h w) (e:opK P c o.op r h fin=some (v,h')):OpR P m D h w ((execOp ρ o).run P w) v h':=by
 rw[ho]at e;simp only[opK,qH]at e;obtain⟨a,ha,b,hb,n,hn,e⟩:=e;obtain⟨a1,a2⟩:=hr _ _ ha;obtain⟨b1,b2⟩:=hr _ _ hb;rw[Kb]at e
 split at e
 ·rename_i q off;simp only[jY,qH,qU]at e;obtain⟨hl,h1,hw,rfl,rfl⟩:=e;have hl:=jo hl;obtain⟨w',hrun,hext,hrel⟩:=R.write a2 (w5 b2) hw;refine⟨m,D,w',.inr ⟨?_,rfl⟩,hext,hrel,trivial⟩;simp only[execOp,ho,a1,b1,cv];have hs:(Instr.storeAt t (.pointer (some ⟨(m q).1,off,none⟩)) (cv m b)).run P w=.ok () w':=by
   unfold Instr.storeAt;rw[qY (show(Instr.sureAddr (.pointer (some ⟨(m q).1,off,none⟩))).run P w=.ok ⟨(m q).1,off,none⟩ w from rfl)];unfold storeVar;rw[qY (run_sizeOf hn)];rw[gp];simp only[List.size_toArray,cvs_len,hl,ne_eq,not_true_eq_false,if_false];exact hrun
  rw[qY hs];rfl
 ·cases e
end Go.Ae
namespace Go.Ae
open Go
variable {P:Program} {m:Mp} {D:Nat→Prop} {h h':AH} {w:World} {c:CV} {ρ:Operand→Value} {r:Operand→Option AV} {o:Oper} {v:AV}
theorem QD (hr:OpV m D ρ r) {l:List Operand} {s:List AV} (e:wV r l=some s):l.map ρ=cvs m s∧inDs D s:=by
 induction l generalizing s with
 |nil=>simp[wV]at e;subst e;exact⟨rfl,trivial⟩
 |cons a l ih=>simp only[wV,Option.bind_eq_some_iff]at e;obtain⟨b,hb,t,ht,hs⟩:=e;cases hs;obtain⟨h1,h2⟩:=hr _ _ hb;obtain⟨h3,h4⟩:=ih ht;exact⟨by simp[cvs,h1,h3],h2,h4⟩
theorem UL {α β:Type} (f:α→β) (x:Array α):x.map f=(x.toList.map f).toArray:=by cases x;simp
theorem qQU {fn:Fn} {x y:Array Operand} (ho:o.op=.makeFunc fn x y) (hr:OpV m D ρ r) (R:Rel P m D h w) (e:opK P c o.op r h fin=some (v,h')):OpR P m D h w ((execOp ρ o).run P w) v h':=by
 rw[ho]at e;cases fn<;>simp only[opK,reduceCtorEq]at e
 rename_i f;simp only[qH,qU]at e;obtain⟨a,ha,b,hb,rfl,rfl⟩:=e;obtain⟨a1,a2⟩:=QD hr ha;obtain⟨b1,b2⟩:=QD hr hb;simp only[execOp,ho];refine jn R ?_ ⟨a2,b2⟩;simp only[Instr.makeFunc,cv,← a1,← b1,gJ];rw[UL,UL]
theorem qYO {x:Operand} {xt t:TypeId} {ok:Bool} (ho:o.op=.typeAssert x xt t ok) (hr:OpV m D ρ r) (R:Rel P m D h w) (e:opK P c o.op r h fin=some (v,h')):OpR P m D h w ((execOp ρ o).run P w) v h':=by
 rw[ho]at e;simp only[opK,qH]at e;obtain⟨a,ha,d,hd,e⟩:=e;obtain⟨a1,a2⟩:=hr _ _ ha;simp only[execOp,ho,a1];have hni:(∀ms,d≠.interface ms)∧(cnd ok (ob (zero? P t) λz=>x9 t z a λy=>fin y h) (ki t a λy=>fin y h))=some (v,h'):=by
  split at e
  ·cases e
  ·rename_i hn;exact⟨λms hms=>hn ms hms,e⟩
 obtain⟨hni,e⟩:=hni;cases ok
 ·simp only[cnd]at e;unfold ki at e
  split at e
  ·rename_i u z;simp only[jY,qU]at e;obtain⟨hu,rfl,rfl⟩:=e;have hu:=jo hu;subst hu;refine jn R ?_ a2;unfold Instr.typeAssert;simp only[cv];rw[qY (run_underlying hd)];cases d<;>first |(exact absurd rfl (hni _)) |simp
  ·cases e
 ·simp only[cnd,qH]at e;obtain⟨z,hz,e⟩:=e;obtain⟨z1,z2⟩:=x7 (w:=w) (m:=m) (D:=D) hz;unfold x9 at e
  split at e
  ·rename_i u y _;cases hu:Nat.beq u t
   ·rw[hu]at e;simp only[cond_false,qU]at e;obtain⟨rfl,rfl⟩:=e;refine jn R ?_ ⟨z2,trivial,trivial⟩;unfold Instr.typeAssert;simp only[cv,cvs];rw[qY (run_underlying hd)];have hne:¬u=t:=vq hu;cases d<;>first |(exact absurd rfl (hni _)) |(simp only[hne,if_false,if_true];rw[qY z1];rfl)
   ·rw[hu]at e;simp only[cond_true,qU]at e;obtain⟨rfl,rfl⟩:=e;have hu:=jo hu;subst hu;refine jn R ?_ ⟨a2,trivial,trivial⟩;unfold Instr.typeAssert;simp only[cv,cvs];rw[qY (run_underlying hd)];cases d<;>first |(exact absurd rfl (hni _)) |simp
  ·simp only[qU]at e;obtain⟨rfl,rfl⟩:=e;refine jn R ?_ ⟨z2,trivial,trivial⟩;unfold Instr.typeAssert;simp only[cv,cvs];rw[qY (run_underlying hd)];cases d<;>first |(exact absurd rfl (hni _)) |(simp only[if_true];rw[qY z1];rfl)
  ·cases e
theorem qZt {op:BinOp} {k:IntKind} {x y:Int} {z:AV} (e:O6 op k x y=some z) (yk:IntKind):(Op.shift op k x yk y).run P w=.ok (cv m z) w∧inD D z:=by
 unfold O6 at e;rw[Vz]at e;by_cases hy:y<0
 ·simp[hy]at e
 ·simp only[iV hy,cond_false]at e;cases op<;>simp only[reduceCtorEq,Option.some.injEq]at e<;>subst e<;>refine⟨?_,trivial⟩
  ·simp only[Op.shift,hy,if_false,cv,Jy];rfl
  ·simp only[Op.shift,hy,if_false,cv];rfl
theorem KD (l:List UInt8):(ByteArray.mk l.toArray).toList=l:=by rw[ByteArray.toList_eq]
theorem qY4 {op:BinOp} {x y:List UInt8} {z:AV} (e:qQe op x y=some z):(Op.stringOp op ⟨x.toArray⟩ ⟨y.toArray⟩).run P w=.ok (cv m z) w∧inD D z:=by
 cases op<;>simp only[qQe,reduceCtorEq,Option.some.injEq,seq?_eq]at e
 case add=>
  rw[jY]at e;obtain⟨hl,e⟩:=e;have hl:=zQ hl;cases e;refine⟨?_,trivial⟩;have h1:(ByteArray.mk x.toArray).size=x.length:=by simp[ByteArray.size]
  have h2:(ByteArray.mk y.toArray).size=y.length:=by simp[ByteArray.size]
  have h3:¬(((x.length+y.length:Nat):Int)>IntKind.i64.max):=by show¬(_>(9223372036854775807:Int));omega
  simp only[Op.stringOp,h1,h2,h3,if_false,cv];show Result.ok (Value.string (ByteArray.mk x.toArray++ByteArray.mk y.toArray)) w=_
  congr 2
 all_goals
  subst e;refine⟨?_,trivial⟩;simp only[Op.stringOp,KD,cv];rfl
theorem qQ9 {op:BinOp} {t:TypeId} {x y:Operand} {a b:Value} (h1:op≠.eql) (h2:op≠.neq):(eqGuard op t x y a b).run P w=.ok () w:=by unfold eqGuard;cases op<;>first |(exact absurd rfl h1) |(exact absurd rfl h2) |rfl
theorem Qp {op:BinOp} {t:TypeId} {x y:Operand} {a b:AV} (ha:∀l,a≠.agg l) (hb:a≠.nili∨b≠.nili):(eqGuard op t x y (cv m a) (cv m b)).run P w=.ok () w:=by
 unfold eqGuard;cases op<;>first |rfl |skip
 all_goals
  cases a<;>first |(exact absurd rfl (ha _)) |(cases b<;>first |rfl |(rcases hb with hb |hb<;>exact absurd rfl hb))
theorem qYF {t:TypeId} {x y:Value} {b:Bool} (h:∀d,(Op.equalIn (d+1) t x y).run P w=.ok b w):(Op.equal t x y).run P w=.ok b w:=h 9999
theorem NH {t:TypeId} {d:TypeDesc} {k:EK} {a b:AV} {q:Bool} (hd:P.underlying t=some d) (hk:Up d=some k) (e:X6 k a b=some q) (n:Nat) :
  (Op.equalIn (n+1) t (cv m a) (cv m b)).run P w=.ok q w:=by
 cases d<;>simp only[Up,reduceCtorEq,Option.some.injEq]at hk<;>subst hk<;>unfold X6 at e<;>split at e<;>
  first
   |(cases e;done)
   |skip
 all_goals try contradiction
 all_goals try (simp only[Option.some.injEq]at e;subst e)
 all_goals
  unfold Op.equalIn;rw[qY (Ae.run_underlying hd)];simp only[cv]
 all_goals first
  |rfl
  |skip
 ·rename_i k1 x1 k2 y1 _;rw[jY]at e;obtain⟨hk,e⟩:=e;simp only[Option.some.injEq]at e;subst e;have hk:k1=k2:=by simpa using hk
  simp only[iJ hk,Vo];rfl
 ·rename_i s1 s2 _;show Result.ok ((ByteArray.mk s1.toArray)==(ByteArray.mk s2.toArray)) w=_;rw[beq_toListBytes,KD,KD,seq?_eq]
mutual
theorem qZF:∀v:AV,inD (λ_=>True) v
 | .bool _=>trivial
 | .int _ _=>trivial
 | .str _=>trivial
 | .ptr _ _=>trivial
 | .nilp=>trivial
 | .slice _ _ _ _ _=>trivial
 | .nils=>trivial
 | .fn _ a c=>⟨vR a,vR c⟩
 | .yield _=>trivial
 | .nilf=>trivial
 | .iface _ v=>qZF v
 | .nili=>trivial
 | .agg l=>vR l
 | .tup l=>vR l
 | .empt _=>trivial
 | .tail _ _ _ _=>trivial
 | .mapv _=>trivial
theorem vR:∀l:List AV,inDs (λ_=>True) l
 |[]=>trivial
 |a::r=>⟨qZF a,vR r⟩
end
theorem NZ {t:TypeId} {d:TypeDesc} {k:EK} (hd:P.underlying t=some d) (hk:Up d=some k):agg? P t=some false:=by unfold agg?;rw[hd];cases d<;>simp only[Up,reduceCtorEq]at hk<;>rfl
theorem qJp {l1 l2:List ES} {xs ys:List AV} {q:Bool} (e:xO (l1++l2) xs ys=some q):(xO l1 xs ys=some false∧q=false)∨(xO l1 xs ys=some true∧xO l2 xs ys=some q):=by
 induction l1 with
 |nil=>exact .inr ⟨rfl,e⟩
 |cons a l1 ih=>
  cases a with
  |bas k o=>
   simp only[List.cons_append,xO,Option.bind_eq_some_iff]at e ⊢;obtain⟨x,hx,y,hy,b,hb,e⟩:=e;cases b
   ·simp only[cond_false,Option.some.injEq]at e;subst e;exact .inl ⟨⟨x,hx,y,hy,false,hb,rfl⟩,rfl⟩
   ·simp only[cond_true]at e;rcases ih e with⟨h1,h2⟩ |⟨h1,h2⟩
    ·exact .inl ⟨⟨x,hx,y,hy,true,hb,h1⟩,h2⟩
    ·exact .inr ⟨⟨x,hx,y,hy,true,hb,h1⟩,h2⟩
  |len n=>
   simp only[List.cons_append,xO]at e ⊢;cases hb:Nat.ble n xs.length&&Nat.ble n ys.length
   ·rw[hb]at e;cases e
   ·rw[hb]at e;exact ih e
theorem MP {c n:Nat} {xs ys:List AV} (hx:c+n≤xs.length) (hy:c+n≤ys.length):∀{l:List ES},JP n l=true→
  xO (GQ c l) xs ys=xO l ((xs.drop c).take n) ((ys.drop c).take n):=by
 intro l
 induction l with
 |nil=>intro _;rfl
 |cons a l ih=>
  intro h;cases a with
  |bas k o=>
   simp only[JP,Bool.and_eq_true]at h;have ho:=zQ h.1;have gx:kz xs (c+o)=kz ((xs.drop c).take n) o:=by rw[yV,yV,List.getElem?_take_of_lt omQ,List.getElem?_drop]
   have gy:kz ys (c+o)=kz ((ys.drop c).take n) o:=by rw[yV,yV,List.getElem?_take_of_lt omQ,List.getElem?_drop]
   simp only[GQ,xO,gx,gy,ih h.2]
  |len m=>
   simp only[JP,Bool.and_eq_true]at h;have hm:=zQ h.1;have h1:(Nat.ble (c+m) xs.length&&Nat.ble (c+m) ys.length)=true:=by rw[iY omQ,iY omQ];rfl
   have h2:(Nat.ble m ((xs.drop c).take n).length&&Nat.ble m ((ys.drop c).take n).length)=true:=by rw[iY (by simp;omega),iY (by simp;omega)];rfl
   simp only[GQ,xO,h1,h2,cond_true,ih h.2]
theorem qKU:∀(d:Nat) {fs:List Field} {l:List ES} {xs ys:List AV} {q:Bool} (n:Nat) (_:vF P d fs=some l) (_:xO l xs ys=some q),
  (Op.eqFields (n+d) (cvs m xs).toArray (cvs m ys).toArray fs).run P w=.ok q w:=by
 intro d
 induction d with
 |zero=>intro fs l xs ys q n hl;cases hl
 |succ d ihd=>
  intro fs l xs ys q n hl e;simp only[vF]at hl
  induction fs generalizing l q with
  |nil=>simp[YQ]at hl;subst hl;simp[xO]at e;subst e;rfl
  |cons f fs ih=>
   unfold YQ at hl;cases hn : f.name == "_"
   ·rw [hn] at hl;simp only [cond_false, Option.bind_eq_some_iff] at hl;obtain ⟨u, hu, hl⟩ := hl;have hne : f.name ≠ "_" := by simpa using hn
    by_cases hst:∃gs,u=.struct gs
    ·obtain⟨gs,rfl⟩:=hst;simp only[Option.bind_eq_some_iff]at hl;obtain⟨sz,hsz,hl⟩:=hl;cases hsh:P.stoodInHeld f.type
     ·rw[hsh]at hl;simp only[cond_false,Option.bind_eq_some_iff]at hl;obtain⟨l1,hl1,hl⟩:=hl;cases hin:JP sz l1
      ·rw[hin]at hl;cases hl
      ·rw[hin]at hl;simp only[cond_true,Option.map_eq_some_iff]at hl;obtain⟨l2,hl2,rfl⟩:=hl;simp only[xO]at e;cases hb:Nat.ble (f.offset+sz) xs.length&&Nat.ble (f.offset+sz) ys.length
       ·rw[hb]at e;cases e
       ·rw[hb]at e;simp only[cond_true]at e;simp only[Bool.and_eq_true]at hb;have hx:=zQ hb.1;have hy:=zQ hb.2;have hag:agg? P f.type=some true:=by unfold agg?;rw[hu];rfl
        have px:=Yy (P:=P) (m:=m) (w:=w) (t:=f.type) (off:=f.offset) hag hsz (show yt sz (vy f.offset xs)=some ((xs.drop f.offset).take sz) by rw[kI,gn (by simp;omega)]) (vR xs);have py:=Yy (P:=P) (m:=m) (w:=w) (t:=f.type) (off:=f.offset) hag hsz (show yt sz (vy f.offset ys)=some ((ys.drop f.offset).take sz) by rw[kI,gn (by simp;omega)]) (vR ys);have hsub:∀b,xO (GQ f.offset l1) xs ys=some b→
          (Op.equalIn (n+(d+1)) f.type (cv m (.agg ((xs.drop f.offset).take sz))) (cv m (.agg ((ys.drop f.offset).take sz)))).run P w=.ok b w:=by
         intro b hbb;rw[MP hx hy hin]at hbb;have hf:P.fieldsOf f.type=gs:=by unfold Program.fieldsOf;rw[hu]
         rw[show cv m (.agg ((xs.drop f.offset).take sz))=.agg (cvs m ((xs.drop f.offset).take sz)).toArray from rfl,show cv m (.agg ((ys.drop f.offset).take sz))=.agg (cvs m ((ys.drop f.offset).take sz)).toArray from rfl];rw[show n+(d+1)=(n+d)+1 from rfl,run_equalIn_struct w (n+d) f.type _ _ (by rw[hf];exact hu) hsh,hf];exact ihd n hl1 hbb
        unfold Op.eqFields;rw[iJ hne,qY px.1,qY py.1];rcases qJp e with⟨h1,rfl⟩ |⟨h1,h2⟩
        ·rw[qY (hsub false h1)];rfl
        ·rw[qY (hsub true h1)];simp only[Bool.not_true,Bool.false_eq_true,if_false];exact ih hl2 h2
     ·rw[hsh]at hl;cases hl
    ·have hl:∃k s,Up u=some k∧YQ P (vF P d) fs=some s∧ES.bas k f.offset::s=l:=by
      cases u<;>first |(exact absurd ⟨_,rfl⟩ hst) |skip
      all_goals
       simp only[Option.bind_eq_some_iff]at hl;obtain⟨k,hk,hl⟩:=hl;refine⟨k,?_⟩;cases k<;>simp only[reduceCtorEq,Option.map_eq_some_iff]at hl<;>
        (obtain⟨s,hs,rfl⟩:=hl;exact⟨s,hk,hs,rfl⟩)
     obtain⟨k,s,hk,hs,rfl⟩:=hl;simp only[xO,Option.bind_eq_some_iff]at e;obtain⟨x,hx,y,hy,b,hb,e⟩:=e;unfold Op.eqFields;rw[iJ hne];rw[qY (Yz (m:=m) (w:=w) (NZ hu hk) hx (vR xs)).1];rw[qY (Yz (m:=m) (w:=w) (NZ hu hk) hy (vR ys)).1];rw[show n+(d+1)=(n+d)+1 from rfl,qY (NH hu hk hb (n+d))];cases b
     ·simp only[cond_false,Option.some.injEq]at e;subst e;rfl
     ·simp only[cond_true]at e;simp only[Bool.not_true,Bool.false_eq_true,if_false];exact ih hs e
   ·rw[hn]at hl;cases hl
theorem qwf {t:TypeId} {fs:Array Field} {l:List ES} {xs ys:List AV} {q:Bool} (hd:P.underlying t=some (.struct fs)) (hg:(P.eqGuardType P.depth t||P.stoodInHeld t)=false)
  (hl:vF P 8 fs.toList=some l) (e:xO l xs ys=some q):(Op.equal t (cv m (.agg xs)) (cv m (.agg ys))).run P w=.ok q w:=by
 simp only[Bool.or_eq_false_iff]at hg;have hf:P.fieldsOf t=fs:=by unfold Program.fieldsOf;rw[hd]
 have:(Op.equalIn (9991+8+1) t (cv m (.agg xs)) (cv m (.agg ys))).run P w=.ok q w:=by rw[show cv m (.agg xs)=.agg (cvs m xs).toArray from rfl,show cv m (.agg ys)=.agg (cvs m ys).toArray from rfl];rw[run_equalIn_struct w (9991+8) t _ _ (by rw[hf];exact hd) hg.2,hf];exact qKU 8 9991 hl e
 exact this
theorem VR (b:Bool):(b !=false)=b:=by cases b<;>rfl
theorem Mm (b:Bool):(b !=true)=!b:=by cases b<;>rfl
theorem qyu {op:BinOp} {t t2:TypeId} {x y:Operand} (ho:o.op=.binOp op t x y t2) (hr:OpV m D ρ r) (R:Rel P m D h w) (e:opK P c o.op r h fin=some (v,h')):OpR P m D h w ((execOp ρ o).run P w) v h':=by
 rw[ho]at e;simp only[opK,qH]at e;obtain⟨a,ha,b,hb,e⟩:=e;obtain⟨a1,a2⟩:=hr _ _ ha;obtain⟨b1,b2⟩:=hr _ _ hb;simp only[execOp,ho,a1,b1]
 suffices hs:h=h'∧inD D v∧(eqGuard op t x y (cv m a) (cv m b)).run P w=.ok () w∧(binOp op t (cv m a) (cv m b)).run P w=.ok (cv m v) w by
  obtain⟨rfl,hv,h1,h2⟩:=hs;refine jn R ?_ hv;rw[qY h1];exact h2
 have shift:∀op,(op=.shl∨op=.shr)→wM op a b (λz=>fin z h)=some (v,h')→h=h'∧inD D v∧(eqGuard op t x y (cv m a) (cv m b)).run P w=.ok () w∧(binOp op t (cv m a) (cv m b)).run P w=.ok (cv m v) w:=by
  intro op hop e;unfold wM at e
  split at e
  ·rename_i k1 p k2 q _;simp only[qH,qU]at e;obtain⟨z,hz,rfl,rfl⟩:=e;obtain⟨z1,z2⟩:=qZt (P:=P) (m:=m) (D:=D) (w:=w) hz k2;refine⟨rfl,z2,qQ9 (by rcases hop with rfl |rfl<;>simp) (by rcases hop with rfl |rfl<;>simp),?_⟩;rcases hop with rfl |rfl<;>exact z1
  ·cases e
 unfold qxA at e
 split at e
 ·exact shift .shl (.inl rfl) e
 ·exact shift .shr (.inr rfl) e
 ·rename_i hn1 hn2;simp only[qH]at e;obtain⟨d,hd,e⟩:=e;have hn1:op≠.shl:=λhh=>hn1 hh;have hn2:op≠.shr:=λhh=>hn2 hh;have gen:∀(k:EK),Up d=some k→(∀kk,d≠.int kk)→d≠.string→∀q,X6 k a b=some q→
    (∀x y,(eqGuard .eql t x y (cv m a) (cv m b)).run P w=.ok () w)∧(∀x y,(eqGuard .neq t x y (cv m a) (cv m b)).run P w=.ok () w)∧
    (binOp .eql t (cv m a) (cv m b)).run P w=.ok (.bool q) w∧(binOp .neq t (cv m a) (cv m b)).run P w=.ok (.bool !q) w:=by
   intro k hk hi hs q hq;have hrun:=qYF (λn=>NH (m:=m) (w:=w) hd hk hq n);have hag:(∀l,a≠.agg l)∧(a≠.nili∨b≠.nili)∧(∀kk n,a≠.int kk n)∧(∀s,a≠.str s):=by
    cases d<;>simp only[Up,reduceCtorEq,Option.some.injEq]at hk<;>first |(exact absurd rfl (hi _)) |(exact absurd rfl hs) |skip
    all_goals
     subst hk;unfold X6 at hq
     split at hq
     all_goals try contradiction
     all_goals simp
   obtain⟨g1,g2,g3,g4⟩:=hag;refine⟨λx y=>Qp g1 g2,λx y=>Qp g1 g2,?_,?_⟩
   ·have:binOp .eql t (cv m a) (cv m b)=(do pure (Value.bool (← Op.equal t (cv m a) (cv m b)))):=by
     cases a<;>first |rfl |(exact absurd rfl (g3 _ _)) |(exact absurd rfl (g4 _))
    rw[this,qY hrun];rfl
   ·have:binOp .neq t (cv m a) (cv m b)=(do pure (Value.bool (!(← Op.equal t (cv m a) (cv m b))))):=by
     cases a<;>first |rfl |(exact absurd rfl (g3 _ _)) |(exact absurd rfl (g4 _))
    rw[this,qY hrun];rfl
  have pe:(∀kk,d≠.int kk)→d≠.string→∀(k:EK),Up d=some k→∀neg,(neg=false→op=.eql)→(neg=true→op=.neq)→pEq k neg a b (λz=>fin z h)=some (v,h')→
    h=h'∧inD D v∧(eqGuard op t x y (cv m a) (cv m b)).run P w=.ok () w∧(binOp op t (cv m a) (cv m b)).run P w=.ok (cv m v) w:=by
   intro hi hs k hk neg e0 e1 e;unfold pEq at e;simp only[qH,qU]at e;obtain⟨q,hq,rfl,rfl⟩:=e;obtain⟨q1,q2,q3,q4⟩:=gen k hk hi hs q hq;cases neg
   ·obtain rfl:=e0 rfl;exact⟨rfl,trivial,q1 x y,by rw[q3,VR];rfl⟩
   ·obtain rfl:=e1 rfl;exact⟨rfl,trivial,q2 x y,by rw[q4,Mm];rfl⟩
  have ps:∀fs l,d=.struct fs→(P.eqGuardType P.depth t||P.stoodInHeld t)=false→vF P 8 fs.toList=some l→∀neg,(neg=false→op=.eql)→(neg=true→op=.neq)→G4 l neg a b (λz=>fin z h)=some (v,h')→
    h=h'∧inD D v∧(eqGuard op t x y (cv m a) (cv m b)).run P w=.ok () w∧(binOp op t (cv m a) (cv m b)).run P w=.ok (cv m v) w:=by
   intro fs l hdf hg hl neg e0 e1 ee;subst hdf;unfold G4 at ee
   split at ee
   ·rename_i xs ys;simp only[qH,qU]at ee;obtain⟨q,hq,rfl,rfl⟩:=ee;have hrun:=qwf (m:=m) (w:=w) hd hg hl hq;simp only[Bool.or_eq_false_iff]at hg;cases neg
    ·obtain rfl:=e0 rfl;refine⟨rfl,trivial,run_eqGuard_agg w _ _ _ _ _ _ hg.1,?_⟩;have:binOp .eql t (cv m (.agg xs)) (cv m (.agg ys))=(do pure (Value.bool (← Op.equal t (cv m (.agg xs)) (cv m (.agg ys))))):=rfl;rw[this,qY hrun,VR];rfl
    ·obtain rfl:=e1 rfl;refine⟨rfl,trivial,run_eqGuard_agg w _ _ _ _ _ _ hg.1,?_⟩;have:binOp .neq t (cv m (.agg xs)) (cv m (.agg ys))=(do pure (Value.bool (!(← Op.equal t (cv m (.agg xs)) (cv m (.agg ys)))))):=rfl;rw[this,qY hrun,Mm];rfl
   ·cases ee
  split at e
  ·--numbers
   rw[O8]at e
   split at e
   ·rename_i k1 p k2 q;simp only[jY,qH,qU]at e;obtain⟨hk,z,hz,rfl,rfl⟩:=e;have hk:k1=k2:=by simpa using hk
    subst hk;obtain⟨z1,z2⟩:=qxl (P:=P) (m:=m) (D:=D) (w:=w) hz;refine⟨rfl,z2,Qp osQ osQ,?_⟩;have:binOp op t (cv m (.int k1 p)) (cv m (.int k1 q))=Zn op k1 p q:=by
     cases op<;>first |(exact absurd rfl hn1) |(exact absurd rfl hn2) |simp[binOp,cv,Zn]
    rw[this];exact z1
   ·cases e
  ·unfold MN at e
   split at e
   ·rename_i s1 s2;simp only[qH,qU]at e;obtain⟨z,hz,rfl,rfl⟩:=e;obtain⟨z1,z2⟩:=qY4 (P:=P) (m:=m) (D:=D) (w:=w) hz;refine⟨rfl,z2,Qp osQ osQ,?_⟩;have:binOp op t (cv m (.str s1)) (cv m (.str s2))=Op.stringOp op ⟨s1.toArray⟩ ⟨s2.toArray⟩:=by
     cases op<;>first |(exact absurd rfl hn1) |(exact absurd rfl hn2) |rfl
    rw[this];exact z1
   ·cases e
  ·rename_i fs
   split at e
   ·cases hg:(P.eqGuardType P.depth t||P.stoodInHeld t)<;>simp only[hg,cnd,reduceCtorEq]at e
    simp only[qH]at e;obtain⟨l,hl,e⟩:=e;exact ps fs l rfl hg hl false (λ_=>rfl) osQ e
   ·cases hg:(P.eqGuardType P.depth t||P.stoodInHeld t)<;>simp only[hg,cnd,reduceCtorEq]at e
    simp only[qH]at e;obtain⟨l,hl,e⟩:=e;exact ps fs l rfl hg hl true osQ (λ_=>rfl) e
   ·cases e
  ·rename_i hi hs _
   split at e
   ·simp only[qH]at e;obtain⟨k,hk,e⟩:=e;exact pe (λkk hh=>hi kk hh) (λhh=>hs hh) k hk false (λ_=>rfl) osQ e
   ·simp only[qH]at e;obtain⟨k,hk,e⟩:=e;exact pe (λkk hh=>hi kk hh) (λhh=>hs hh) k hk true osQ (λ_=>rfl) e
   ·cases e
end Go.Ae
